/- rlp.Next tells rdItem. -/
import Derived.Test.YtdbmifjankgfpaaGreatDoorKA32
import Derived.Test.YtdbmifjankgfpaaGreatDoorKA36
set_option linter.all false
set_option maxRecDepth 100000
set_option maxHeartbeats 4000000
open Go.Proofs.Tryz
namespace Go.Proofs.YtdbmifjankgfpaaGreatDoor
open Go.RowKit
variable {w:World}{n:Nat}
def Ye:=@results176
theorem Ud :(prog.info? 259).map (fun i=>(i.zero,i.size,i.bytes))=some (some (.agg #[.slice none 0 0,.int .i64 0]),2,32):=by kernel_rfl
theorem r8 {ops:Array Oper}{rest:List Oper}{o:Oper}{a:Act}{Q:Exit->Act->World->Prop}(H:o.guard=none)(s x:Operand)
 (K:o.op= .call {callee:= .builtin .append,args:= #[s,x],argTypes:= #[256,256]}) {d q:Nat} {A:Option Addr} {l:List (List It×Nat)} (O:rZ w d A q l) (X:l= []->A=none/\q=0) (e:d<=w.heap.size) (U:n=l.length)
 (J:a.eval s= .slice A n q) (b:Nat) (B:Nat) (hx:a.eval x= .slice (some ⟨B,0,none⟩) 1 1) (R:w.cell? ⟨B,0,none⟩=some (.slice none 0 0)) (Y:w.cell? ⟨B,1,none⟩=some (.int .i64 b)) (aa:n<=1024)
 (D:∀c m w',Hid (rZ w' d (some ⟨c,0,none⟩) m (([],b)::l))->Hid (Below d w w')->n+1<=m->m<=9223372036854775807->wpList prog ops Q rest (a.put o.dst (.slice (some ⟨c,0,none⟩) (n+1) m)) w'):wpList prog ops Q (o::rest) a w:=by
 subst U;obtain⟨i1,E,L,F,I⟩:=yH Ud;have G:∀(j:Nat) (u:Value),([.slice none 0 0,.int .i64 b]:List Value)[j]?=some u->w.cell? ((⟨B,0,none⟩:Addr).add j)=some u:=by
  intro j u hu;have S:∀j,(⟨B,0,none⟩:Addr).add j=⟨B,j,none⟩:=by intro j;unfold Addr.add;split<;>simp_all
  rw[S];match j,hu with
  |0,hu=>simp at hu;subst hu;exact R
  |1,hu=>simp at hu;subst hu;exact Y
 have C:∀u∈([.slice none 0 0,.int .i64 b]:List Value),u.oneCell'=true:=by
  intro u hu;simp at hu;rcases hu with rfl|rfl<;>rfl
 rcases O with rfl|⟨g,vs,rfl,hR⟩
 ·obtain⟨rfl,rfl⟩:=X rfl;refine y9 w H s x 256 K d 259 i1 _ 2 32 underlying256 E L F I rfl (by decide) _ 0 [] J (World.ownsRow_nil _ _ _ _) ⟨B,0,none⟩ 1 1 [.slice none 0 0,.int .i64 b] hx rfl G C (by decide) (by simp only[maxLen];omega) (by omega) e w.heap.size rfl ?_;intro c y w' i h M N;obtain⟨_,_,p,r,_⟩:=dG i;exact D c y w' (za (.inr ⟨c,_,rfl,tp.first b i (zF e h.size)⟩)) (za ((zm d w).grown h e (fun k z=>by cases z))) p r
 obtain⟨W,Z,_⟩:=hR.block;refine y9 w H s x 256 K d 259 i1 _ 2 32 underlying256 E L F I rfl (by decide) _ l.length (dY vs) J hR.row ⟨B,0,none⟩ 1 1 [.slice none 0 0,.int .i64 b] hx rfl G C (by decide) (by simp only[maxLen];omega) (by omega) e w.heap.size rfl ?_;intro c y w' i h M N;obtain⟨_,_,p,r,_⟩:=dG i;exact D c y w' (za (.inr ⟨c,_,rfl,hR.push b i h e⟩)) (za ((zm d w).grown h e (fun k z=>(show g=k by simpa[Value.ownBlock]using z)▸W))) p r
theorem qn {P:Program}{f:FuncId}{args:Array Value}{v:Value}(h:Calls P f args (w.drewN n) fun e w'=>e= .returned v/\w.drewN n=w'):
 Calls P f args (w.drewN n) fun e c=>e= .returned v/\∃m,c=w.drewN m:=h.mono fun _ _ ⟨d,b⟩=>⟨d,n,b.symm⟩
def ab4 (w w':World)(R:Rd)(e:Ending):Prop:=
 Below w.heap.size w w'/\(R.e≠0->e= .returned (.tuple #[.agg #[.string ⟨#[]⟩,.bool false,.slice none 0 0],.int .i64 0,.int .i64 R.e]))/\
 (R.e=0->∃c0 c1 c2,e= .returned (.tuple #[.agg #[c0,c1,c2],.int .i64 R.size,.int .i64 0])/\gz w' (w.heap.size<= ·) R.x c0 c1 c2)
theorem Nn (s:ByteArray)(D M:Int)(w:World)(hs:s.size<=4611686018427387904):
 Calls prog 176 #[.string s,.int .i64 D,.int .i64 M] w fun e w'=>ab4 w w' (bu D M s 1 0) e:=by
 obtain⟨R,c⟩:∃R,bu D M s 1 0=R:=⟨_,rfl⟩
 rw[c];have HR:=za c;clear c;go_enter func176,ntmps176
 go_upto_region 4 with fail
 go_cut [1,2] (fun d m U=>∃D' M':Int,d= .int .i64 D'/\m= .int .i64 M'/\Hid (D'=min D 16)/\Hid (M'=min M 1024)/\U=((w.alloc (.cells #[.string ⟨#[]⟩,.bool false,.slice none 0 0] 28)).alloc (.cells #[.slice none 0 0] 256)).alloc (.cells #[.string ⟨#[]⟩,.bool false,.slice none 0 0] 28))
 case first=>
  go_wp2_with fail
  all_goals
   go_meet;case rel=>exact⟨_,_,rfl,rfl,za (by omega),za (by omega),rfl⟩
 case rest=>
  obtain⟨D',M',rfl,rfl,HD,HM,rfl⟩:=hcut;obtain⟨W0,bO⟩:∃W0,((w.alloc (.cells #[.string ⟨#[]⟩,.bool false,.slice none 0 0] 28)).alloc (.cells #[.slice none 0 0] 256)).alloc (.cells #[.string ⟨#[]⟩,.bool false,.slice none 0 0] 28)=W0:=⟨_,rfl⟩
  have rB:Hid (GN w W0 none 0 0):=za (by
   rw[<-bO];refine⟨((af.new w _ _).alloc _).alloc _, ?_,⟨.string ⟨#[]⟩,.bool false,.slice none 0 0, ?_⟩,(((zm _ w).alloc (zg _) _).alloc (by simp) _).alloc (by simp;omega) _,by simp,zg _,by omega⟩
   ·have:=(af.new (w.alloc (.cells #[.string ⟨#[]⟩,.bool false,.slice none 0 0] 28)) 256 #[.slice none 0 0]).alloc (.cells #[.string ⟨#[]⟩,.bool false,.slice none 0 0] 28);simpa using this
   have:=af.new ((w.alloc (.cells #[.string ⟨#[]⟩,.bool false,.slice none 0 0] 28)).alloc (.cells #[.slice none 0 0] 256)) 28 #[.string ⟨#[]⟩,.bool false,.slice none 0 0];simpa using this)
  rw[bO];clear bO;go_wp2_with fail
  go_loopg [12,13,14] (s.size+1) (fun k aI aC aA wr=>∃(at_ count:Nat) (b:Bool) (q:List (List It×Nat)) (r:Nat) (A:Option Addr) (F:Nat),aI= .int .i64 at_/\aC= .int .i64 count/\aA= .bool b/\Hid (r=q.length)/\Hid (GN w wr A r F)/\Hid (rZ wr (w.heap.size+3) A F q)/\Hid ((rX D M s R b q at_ count/\(q= []->A=none/\F=0))\/(b=false/\q= []/\qF D M s R [] at_ count/\QI w wr R.x))/\Hid (s.size+1<=at_+k/\at_<=s.size))
  case atStart=>exact⟨0,0,true,[],0,none,0,rfl,rfl,rfl,za rfl,rB,za (.inl rfl),za (.inl ⟨⟨rfl,rfl,rfl,HR.out⟩,fun _=>⟨rfl,rfl⟩⟩),za (by omega)⟩
  case round=>
   obtain⟨at_,count,b,q,r,A,F,rfl,rfl,rfl,u,O,HK,HP,UX⟩:=hrel;have q6:wr.cell? ⟨w.heap.size+1,0,none⟩=some (.slice A r F):=O.out.opn.cell 0;have JG:=O.out.siz;have oh:=O.out.mx;have ai:=O.out.le;rcases HP.out with⟨gB,wN⟩|⟨rfl,rfl,hm,hd⟩
   ·obtain⟨gJ,iH,DM,RQ,au⟩:=gB.le;rw[<-u.out]at RQ;have DO:=za gB;have Z':=za wN;have Z:=za au;obtain⟨L,qO⟩:∃L,lq s.size q=L:=⟨_,rfl⟩
    rw[qO]at gJ iH;have mR:=za qO;obtain⟨⟨l,z,n,e⟩,hH⟩:∃H,hd (s.extract at_ L) (aG D (r+1)) (aH M count)=H:=⟨_,rfl⟩
    have NW:(s.extract at_ L).size<=4611686018427387904:=by rw[an _ _ _ iH];omega
    have LC:Hid (∀w,Calls prog 212 #[.string (s.extract at_ L),.bool (decide (D'<=r)),.bool (decide (M'<=count))] w fun e' w'=>e'= .returned (.tuple #[.bool l,.int .i64 z,.int .i64 n,.int .i64 e])/\w=w'):=za (fun w=>by
     have h1:decide (D'<=r)=aG D (r+1):=by
      have:=HD.out;unfold aG;rw[yT];simp only[yb,Bool.or_eq_true];omega
     have h2:decide (M'<=count)=aH M count:=by
      have:=HM.out;unfold aH;rw[yT];simp only[yb,Bool.or_eq_true];omega
     rw[h1,h2];have:=M5 (s.extract at_ L) (aG D (r+1)) (aH M count) w NW;rwa [hH]at this)
    have HH:=za hH;clear gB wN au qO hH HP NW;go_upto_region 7 with fail
    go_cut [31] (fun v U=>v= .bool true/\U=wr)
    case first=>
     cases b with
     |true=>
      go_wp2_with fail
      go_meet;case rel=>exact⟨rfl,rfl⟩
     |false=>
      have VD:0<r:=by
       have h1:=Z.out;have h2:=u.out;cases q with
       |nil=>simp at h1
       |cons f q=>simp at h2;omega
      go_wp2_with fail
      go_meet;case rel=>exact⟨rfl,rfl⟩
    case rest=>
     obtain⟨rfl,rfl⟩:=hcut;go_upto_if 35 with fail
     go_cut [15] (fun v U=>v= .int .i64 L/\U=wc)
     case first=>
      cases b with
      |true=>
       obtain rfl:=Z.out.1 rfl;obtain rfl:s.size=L:=mR.out;go_wp2_with fail
       go_meet;case rel=>exact⟨rfl,rfl⟩
      |false=>
       match q,HK,mR,Z,u with
       | [],_,_,h5,_=>have h6:=h5.out.2 rfl;cases h6
       |(acc,en0)::RT,HK,mR,Z,u=>
        obtain rfl:en0=L:=mR.out;obtain⟨r,rfl⟩:∃r',r=r'+1:=⟨r-1,by have:=u.out;simp at this;omega⟩
        rcases HK.out with h|⟨g,vs,rfl,c⟩
        ·cases h
        match vs,c with
        | [],c=>exact absurd c.rds.length (by simp)
        |(v0,v1)::vs,c=>
         obtain⟨_,t1,_,_⟩:=c.top;rw[show RT.length=r from by have:=u.out;simp at this;omega]at t1;dsimp only at t1;clear c;go_wp2_with fail
         go_meet;case rel=>exact⟨rfl,rfl⟩
     case rest=>
      obtain⟨rfl,rfl⟩:=hcut;go_wp2_with fail
      go_quiet ((go_at_call 212;exact qn (LC.out _)))
      obtain⟨x,Y'⟩:∃x,wc.drewN nq=x:=⟨_,rfl⟩
      have j:Hid (GN w x A r F):=za (by rw[<-Y'];exact O.out.below (Below.bs (zm _ _) _));have Oz:Hid (rZ x (w.heap.size+3) A F q):=za (by rw[<-Y'];exact HK.out.below (Below.bs (zm _ _) _));have q7:x.cell? ⟨w.heap.size+1,0,none⟩=some (.slice A r F):=j.out.opn.cell 0;have ar:=j.out.siz;obtain⟨p0,p1,p2,Eb,Ec,Ea⟩:=a8 j.out.res;rw[Y'];clear q6 JG O HK Y';have JW:Hid (e≠0->R=Rd.bad (if b then e else within e)):=za (fun he=>DO.out.err (by rw[mR.out,<-u.out];exact HH.out) he);by_cases XU:e=2
      ·subst XU;cases b with
       |true=>
        have Y:Hid (R=Rd.bad 2):=za (JW.out (by omega));clear JW;go_wp2;obtain⟨d0,d1,d2,_⟩:=a8 (dK j.out.res (.string ⟨#[]⟩) (.bool false) (.slice none 0 0));refine zj (v:= .tuple #[.agg #[.string ⟨#[]⟩,.bool false,.slice none 0 0],.int .i64 0,.int .i64 2]) (by simp[results,Ye,go_sem,d0,d1,d2]) rfl ?_;refine⟨((j.out.bel.setCell (by simp) _).setCell (by simp) _).setCell (by simp) _,fun _=> ?_,fun h=> ?_⟩
        ·rw[Y.out];rfl
        rw[Y.out]at h;simp[Rd.bad]at h;try first|omega|exact absurd h aa
       |false=>
        have Y:Hid (R=Rd.bad 3):=za (JW.out (by omega));clear JW;go_wp2;obtain⟨d0,d1,d2,_⟩:=a8 (dK j.out.res (.string ⟨#[]⟩) (.bool false) (.slice none 0 0));refine zj (v:= .tuple #[.agg #[.string ⟨#[]⟩,.bool false,.slice none 0 0],.int .i64 0,.int .i64 3]) (by simp[results,Ye,go_sem,d0,d1,d2]) rfl ?_;refine⟨((j.out.bel.setCell (by simp) _).setCell (by simp) _).setCell (by simp) _,fun _=> ?_,fun h=> ?_⟩
        ·rw[Y.out];rfl
        rw[Y.out]at h;simp[Rd.bad]at h;try first|omega|exact absurd h aa
      by_cases aa:e=0
      ·subst aa;clear JW;have HQ:Hid (hd (s.extract at_ (lq s.size q)) (aG D (q.length+1)) (aH M count)=(l,z,n,0)):=za (by rw[mR.out,<-u.out];exact HH.out);have aJ:at_+z+n<=s.size/\1<=z+n/\count+1<=1024/\(l=true->1<=z):=by
        cases l with
        |true=>obtain⟨_,h2,h3,h4⟩:=DO.out.list HQ.out;exact⟨h2,by omega,h4,fun _=>h3⟩
        |false=>obtain⟨h2,h3,h4,_⟩:=DO.out.text HQ.out;exact⟨h2,h3,h4,(fun h=>by cases h)⟩
       obtain⟨cr,cE,aK,N1⟩:=aJ;have aE:=za N1;clear LC HH N1 gJ iH;go_upto_if 75 with fail
       go_cut [12] (fun v U=>∃(E:Nat) (B:List (List It×Nat)) (K:Nat) (C:Option Addr) (i:Nat),v= .int .i64 E/\Hid (K=B.length)/\Hid (GN w U C K i)/\Hid (rZ U (w.heap.size+3) C i B)/\Hid (qF D M s R B E (count+1)/\(B= []->QI w U R.x))/\Hid (at_<E/\E<=s.size))
       case first=>
        cases l with
        |true=>
         have Wd:((at_+z+n:Nat):Int)=(at_:Int)+z+n:=by omega
         have ah:Hid (af (x.alloc (.cells #[.slice none 0 0,.int .i64 ((at_:Int)+z+n)] 259)) x.heap.size 259 #[.slice none 0 0,.int .i64 ((at_:Int)+z+n)]):=za (af.new x _ _);have aB:=za Wd;have G:Hid (∀o,rZ (x.alloc o) (w.heap.size+3) A F q):=za (fun o=>Oz.out.below ((zm _ _).alloc (zg _) o));clear Wd;go_wp2_with (at_builtin;refine Hid.out ?_)
         refine za ?_;refine r8 (by rfl) (.tmp 76) (.tmp 81) (by rfl) (G.out _) Z'.out (by simp;omega) u.out (by rfl) (at_+z+n) x.heap.size (by rfl) (ah.out.cell 0) (by rw[aB.out];exact ah.out.cell 1) RQ ?_;intro g' RU w3 Dy ca aL Dz;have y:Hid (GN w w3 A r F):=za (j.out.below (((zm _ x).alloc ar _).trans ca.out));have q8:w3.cell? ⟨w.heap.size+1,0,none⟩=some (.slice A r F):=y.out.opn.cell 0;have aM:w3.frozen? ⟨w.heap.size+1,0,none⟩=false:=y.out.opn.frozen 0;have HL:=za (DO.out.list HQ.out);clear ca G ah Oz j DO HQ;go_wp2_with fail
         go_meet;case rel=>
          refine⟨at_+z,([],at_+z+n)::q,r+1,some ⟨g',0,none⟩,RU,by go_num,za (by rw[u.out];rfl),za (y.out.store aL Dz),za (Dy.out.only ((ae.refl [w.heap.size+1] w3).setCell (by simp) _) (by simp)),za ⟨HL.out.1,(fun h=>by cases h)⟩,za ⟨?_, ?_⟩⟩
          ·have:=HL.out.2.2.1;omega
          omega
        |false=>
         obtain⟨_,_,_,NT,Rf⟩:=DO.out.text HQ.out;have ao:=za NT;have OB:=za Rf;have aq:(s.extract (at_+z) (at_+z+n)).size<=9223372036854775807:=by rw[an _ _ _ cr];omega
         have DI:Hid (∀(W:World) (S:Nat->Prop),gz W S (.mk (s.extract (at_+z) (at_+z+n)) false []) (.string (s.extract (at_+z) (at_+z+n))) (.bool false) (.slice none 0 0)):=za (fun W S=>gz.text false aq);have e1:((at_:Int)+z).toNat=at_+z:=by omega
         have e2:((at_:Int)+z+n).toNat=at_+z+n:=by omega
         clear NT Rf HQ aq;cases b with
         |true=>
          obtain rfl:=Z.out.1 rfl;obtain rfl:r=0:=u.out;obtain⟨rfl,rfl⟩:=Z'.out rfl;obtain⟨z0,z1,z2,R4⟩:=j.out.who;have HA:=za (FQ x (w.heap.size+1) (w.heap.size+2) none 0 (s.extract (at_+z) (at_+z+n)) false none 0 0 z0 z1 z2 (by omega) j.out.opn R4 (by omega));clear R4 p0 p1 p2 Eb Ec Ea Oz;go_wp2_with fail
          refine HA.out.mono ?_;rintro e' w3 ⟨rfl,ic,ho⟩;go_wp2_with fail
          go_meet;case rel=>
           have aw:=ao.out (by simp);refine⟨at_+z+n,[],0,none,0,by go_num,za rfl,za (j.out.only ho ic),za (.inl rfl),za ⟨?_,fun _=> ?_⟩,za ⟨?_, ?_⟩⟩
           ·rw[aw];exact⟨rfl,rfl⟩
           ·rw[aw];exact⟨_,_,_,ic,DI.out _ _⟩
           ·omega
           omega
         |false=>
          match q,Oz,Z,u,OB with
          | [],_,h5,_,_=>have h6:=h5.out.2 rfl;cases h6
          |(acc,en0)::RT,Oz,Z,u,OB=>
           rcases Oz.out with h|⟨g,vs,rfl,c⟩
           ·cases h
           match vs,c with
           | [],c=>exact absurd c.rds.length (by simp)
           |(v0,v1)::vs,c=>
            obtain rfl:r=RT.length+1:=u.out;have hm:=(OB.out acc en0 RT rfl)
            have VH:acc.length<=1024:=by
             obtain⟨_,_,_,h4,h5⟩:=hm;simp only[nJ,zl,yL]at h4;omega
            have aD:=za hm;have HA:=za (FR x (w.heap.size+3) x.heap.size g F (w.heap.size+1) (w.heap.size+2) acc en0 RT v0 v1 vs _ _ _ _ j.out.opn c (DI.out x _) (by omega));clear c hm p0 p1 p2 Eb Ec Ea Oz DI ao OB;go_wp2_with fail
            refine HA.out.mono ?_;rintro e' w3 ⟨rfl,ca,RS,GW⟩;go_wp2_with fail
            go_meet;case rel=>exact⟨at_+z+n,(acc++ [_],en0)::RT,RT.length+1,some ⟨g,0,none⟩,F,by go_num,za rfl,za (j.out.below ca),za (.inr ⟨g,_,rfl,GW⟩),za ⟨aD.out,(fun h=>by cases h)⟩,za ⟨by omega,by omega⟩⟩
       case rest=>
        obtain⟨E,B,K,C,i,rfl,X,y,G,I,N⟩:=hcut;have ab:Hid (s.size+1<=E+(gk-1)/\E<=s.size/\1<=gk):=za (by have:=N.out;have:=UX.out;omega);clear q7 ar p0 p1 p2 Eb Ec Ea j Oz HQ DO Z' Z mR UX N u aE oh ai DM RQ cr cE;obtain⟨ct,Ou⟩:∃ct,count+1=ct:=⟨_,rfl⟩
        have SZ:Hid ((count:Int)+1=ct):=za (by omega);rw[Ou]at I aK;clear Ou;go_wp2_with fail
        obtain⟨gO,rfl⟩:∃g:Nat,g=gk:=⟨_,rfl⟩
        go_loopg [] (B.length) (fun k wr=>∃(B:List (List It×Nat)) (K:Nat) (C:Option Addr) (i:Nat),Hid (K=B.length)/\Hid (GN w wr C K i)/\Hid (rZ wr (w.heap.size+3) C i B)/\Hid (qF D M s R B E ct/\(B= []->QI w wr R.x))/\Hid (B.length<=k))
        case atStart=>exact⟨B,K,C,i,X,y,G,I,za (zg _)⟩
        case round=>
         clear X y G I;obtain⟨B,K,C,i,X,y,G,I,N⟩:=hrel;have q6:wr.cell? ⟨w.heap.size+1,0,none⟩=some (.slice C K i):=y.out.opn.cell 0;have aO:wr.frozen? ⟨w.heap.size+1,0,none⟩=false:=y.out.opn.frozen 0;have oh:=y.out.mx;have ai:=y.out.le;have JG:=y.out.siz;have ak:gO-1<gO:=by have:=ab.out;omega
         match B,X,G,I,N with
         | [],X,G,I,N=>
          obtain rfl:K=0:=X.out;go_wp2;go_roundg (gO-1)
          case measure=>exact ak
          case rel=>exact⟨E,ct,false,[],0,C,i,rfl,by rw[SZ.out],rfl,za rfl,y,G,za (.inr ⟨rfl,rfl,I.out.1,I.out.2 (by simp)⟩),za ⟨ab.out.1,ab.out.2.1⟩⟩
         |(acc,ag)::fs3,X,G,I,N=>
          obtain⟨J,tP⟩:∃J,fs3.length=J:=⟨_,rfl⟩
          obtain rfl:K=J+1:=by rw[<-tP];exact X.out
          rcases G.out with h|⟨g,vs,rfl,c⟩
          ·cases h
          match vs,c with
          | [],c=>exact absurd c.rds.length (by simp)
          |(v0,v1)::vs,c=>
           have ay:=za c;obtain⟨t0,t1,_,_⟩:=c.top;rw[tP]at t0 t1;dsimp only at t0 t1;have ad:=za tP;clear c tP;by_cases qO:ag=E
           ·subst qO;obtain⟨m,gP,sn,hF,Wc⟩:=ay.out.pop;have aP:=I.out.1.len;obtain⟨A4,DJ,rfl,ax,aN,sC⟩:=hF.list (by omega);obtain⟨n4,SS⟩:∃n4,acc.length=n4:=⟨_,rfl⟩
            rw[SS]at t0 ax;have Y5:=za I.out.1;have tU:Hid (ae [w.heap.size+1] wr (wr.setCell ⟨w.heap.size+1,0,none⟩ (.slice (some ⟨g,0,none⟩) J i))):=za ((ae.refl [w.heap.size+1] wr).setCell (by simp) _);have JM:Hid (GN w (wr.setCell ⟨w.heap.size+1,0,none⟩ (.slice (some ⟨g,0,none⟩) J i)) (some ⟨g,0,none⟩) J i):=za (y.out.store (by omega) oh);have JU:Hid (gz (wr.setCell ⟨w.heap.size+1,0,none⟩ (.slice (some ⟨g,0,none⟩) J i)) (fun k=>m<=k/\mI (wr.setCell ⟨w.heap.size+1,0,none⟩ (.slice (some ⟨g,0,none⟩) J i)) k) (gW acc) (.string ⟨#[]⟩) (.bool true) (.slice A4 n4 n4)):=za (by
             have h1:=sC n4 (by omega) (by omega);rw[SS]at h1;refine gz.ag (fun k hk hS=>⟨hS.1,hS.2.of_eq (tU.out.block k hk (by simp;omega))⟩) (fun p hp hS=>tU.out.cell hp (by simp;omega)) _ h1)
            have fQ:=za gP;clear sC hF SS gP sn;match fs3,vs,Wc,ad,Y5 with
            | [],vs,Wc,ad,Y5=>
             obtain rfl:J=0:=ad.out.symm;obtain⟨z0,z1,z2,R4⟩:=JM.out.who;have HA:=za (FQ _ (w.heap.size+1) (w.heap.size+2) (some ⟨g,0,none⟩) i ⟨#[]⟩ true A4 n4 n4 z0 z1 z2 oh JM.out.opn R4 (by omega));have al:=za Y5.out.done;clear R4 Wc;go_wp2_with fail
             refine HA.out.mono ?_;rintro e' w3 ⟨rfl,ic,ho⟩;go_wp2;go_roundg (gk-1)
             case measure=>have:=N.out;simp at this;omega
             case rel=>
              refine⟨[],0,some ⟨g,0,none⟩,i,za rfl,za (JM.out.only ho ic),za (.inl rfl),za ⟨?_,fun _=> ?_⟩,za (by simp)⟩
              ·rw[al.out];exact⟨rfl,rfl⟩
              rw[al.out];refine⟨_,_,_,ic,JU.out.only ho (fun k hk hS=> ?_) (fun k _ h=> ?_)⟩
              ·have h1:=fQ.out;have h2:=hS.1;simp at hk;omega
              have:=fQ.out;exact zF this h.1
            |(qV,Wa)::fs4,[],Wc,_,_=>exact absurd Wc.rds.length (by simp)
            |(qV,Wa)::fs4,(u0,u1)::vs4,Wc,ad,Y5=>
             obtain rfl:J=fs4.length+1:=ad.out.symm;have qN:=Y5.out.close;have aj:=qN.len;simp only[zl,yL]at aj;have D4:=za qN;have av:=Wc.only tU.out (by simp);have HA:=za (FR _ (w.heap.size+3) m g i (w.heap.size+1) (w.heap.size+2) qV Wa fs4 u0 u1 vs4 _ _ _ _ JM.out.opn av JU.out (by omega));clear qN aj av Wc;go_wp2_with fail
             refine HA.out.mono ?_;rintro e' w3 ⟨rfl,ca,RS,az⟩;go_wp2;go_roundg (gk-1)
             case measure=>have:=N.out;simp at this;omega
             case rel=>exact⟨(qV++ [gW acc],Wa)::fs4,fs4.length+1,some ⟨g,0,none⟩,i,za rfl,za (JM.out.below ca),za (.inr ⟨g,_,rfl,az⟩),za ⟨D4.out,(fun h=>by cases h)⟩,za (by have:=N.out;simp at this⊢;omega)⟩
           have k1:((ag:Int)==(E:Int))=false:=zo.2 (by omega);have k2:(ag==E)=false:=zo.2 qO;have uv:=za (I.out.1.next qO);clear qO;go_wp2;go_roundg (gO-1)
           case measure=>exact ak
           case rel=>exact⟨E,ct,false,(acc,ag)::fs3,J+1,some ⟨g,0,none⟩,i,rfl,by rw[SZ.out],rfl,X,y,G,za (.inl ⟨uv.out,(fun h=>by cases h)⟩),za ⟨ab.out.1,ab.out.2.1⟩⟩
      have k2:(e==2)=false:=zo.2 XU;have k0:(e !=0)=true:=by simp[aa]
      have Y:Hid (R=Rd.bad e):=za (by
       have:=JW.out aa;rw[this];cases b
       ·simp[within,XU]
       simp)
      clear JW;go_wp2;obtain⟨d0,d1,d2,_⟩:=a8 (dK j.out.res (.string ⟨#[]⟩) (.bool false) (.slice none 0 0));refine zj (v:= .tuple #[.agg #[.string ⟨#[]⟩,.bool false,.slice none 0 0],.int .i64 0,.int .i64 e]) (by simp[results,Ye,go_sem,d0,d1,d2]) rfl ?_;refine⟨((j.out.bel.setCell (by simp) _).setCell (by simp) _).setCell (by simp) _,fun _=> ?_,fun h=> ?_⟩
      ·rw[Y.out];rfl
      rw[Y.out]at h;simp[Rd.bad]at h;try first|omega|exact absurd h aa
   obtain rfl:r=0:=u.out;obtain⟨he,rfl⟩:=hm;obtain⟨c0,c1,c2,aF,sC⟩:=hd;obtain⟨C,k2,rfl,rfl,rfl,_⟩:=sC.open_;obtain⟨g0,g1,g2,_⟩:=a8 aF;obtain⟨p0,p1,p2,Eb,Ec,Ea⟩:=a8 O.out.res;clear HP;go_wp2;obtain⟨d0,d1,d2,_⟩:=a8 (dK O.out.res (.string R.x.text) (.bool R.x.list) (.slice C R.x.sub.length k2));refine zj (v:= .tuple #[.agg #[.string R.x.text,.bool R.x.list,.slice C R.x.sub.length k2],.int .i64 R.size,.int .i64 0]) (by simp[results,Ye,go_sem,d0,d1,d2]) rfl ?_;refine⟨((O.out.bel.setCell (by simp) _).setCell (by simp) _).setCell (by simp) _,fun h=>absurd he h,fun _=>⟨_,_,_,rfl, ?_⟩⟩;exact sC.only ((((ae.refl [w.heap.size] wr).setCell (by simp) _).setCell (by simp) _).setCell (by simp) _) (by simp) (fun k _ h=>by omega)
theorem QL (s:ByteArray)(D M:Int)(w:World)(hs:s.size<=4611686018427387904):
 Calls prog 151 #[.string s,.int .i64 D,.int .i64 M] w fun e w'=>vD w w' (jh D M s) (lR D M s) e:=by
 obtain⟨C,B⟩:∃C,w.alloc (.cells #[.string ⟨#[]⟩,.bool false,.slice none 0 0] 28)=C:=⟨_,rfl⟩
 obtain⟨L,K,U⟩:=afE B.symm;have H:=za (Nn s D M C hs);have n:Hid (lR D M s=if(bu D M s 1 0).e≠0 then(bu D M s 1 0).e else if(bu D M s 1 0).size<s.size then 3 else 0):=za rfl;have o:Hid (jh D M s=if lR D M s≠0 then ju else(bu D M s 1 0).x):=za rfl;generalize jh D M s=X at*;generalize lR D M s=E at*;generalize bu D M s 1 0=aa at*;obtain⟨x,size,items,p⟩:=aa;have z:=za L;have l:=za K;have G:=za U;have F:=za B;clear L K U B;by_cases m:p=0
 ·subst m;by_cases Y:size<s.size
  ·have i:Hid (E=3/\X=ju):=za (by
    have y:E=3:=by rw[n.out,zh (by simp),zi Y]
    exact⟨y,by rw[o.out,zi (by omega)]⟩)
   clear n o;go_enter func151,ntmps151
   go_wp2_with fail
   rw[F.out];refine H.out.mono ?_;rintro e d ⟨b,_,hx⟩;obtain⟨c0,c1,c2,rfl,j⟩:=hx rfl;obtain⟨A,k,rfl,rfl,rfl,_⟩:=j.open_;have O:=za j;clear j;have c:=G.out.ag b (by have:=l.out;omega);have hz:=b.size;have q:=l.out;obtain⟨J,R,Z,W,I,S⟩:=a8 c;have r:=za c;have u:Hid (Below w.heap.size w d):=za (z.out.trans (b.mono (by omega)));have N:w.heap.size<d.heap.size:=by omega
   clear c b hx hz q;go_wp2;obtain⟨d0,d1,d2,_⟩:=a8 ((dK r.out (.string ⟨#[]⟩) (.bool false) (.slice none 0 0)).alloc (.cells #[.string x.text,.bool x.list,.slice A x.sub.length k] 28));refine zj (v:= .tuple #[.agg #[(.string ⟨#[]⟩),(.bool false),(.slice none 0 0)],.int .i64 3]) (by simp[results,results151,go_sem,d0,d1,d2]) rfl ?_;rw[i.out.1,i.out.2];refine⟨(((u.out.setCell (by simp) _).setCell (by simp) _).setCell (by simp) _).alloc (by simp[World.setCell];omega) _,_,_,_,rfl, ?_⟩;exact nF _ _
  have i:Hid (E=0/\X=x):=za (by
   have y:E=0:=by rw[n.out,zh (by simp),zh Y]
   exact⟨y,by rw[o.out,zh (by omega)]⟩)
  clear n o;go_enter func151,ntmps151
  go_wp2_with fail
  rw[F.out];refine H.out.mono ?_;rintro e d ⟨b,_,hx⟩;obtain⟨c0,c1,c2,rfl,j⟩:=hx rfl;obtain⟨A,k,rfl,rfl,rfl,_⟩:=j.open_;have O:=za j;clear j;have c:=G.out.ag b (by have:=l.out;omega);have hz:=b.size;have q:=l.out;obtain⟨J,R,Z,W,I,S⟩:=a8 c;have r:=za c;have u:Hid (Below w.heap.size w d):=za (z.out.trans (b.mono (by omega)));have N:w.heap.size<d.heap.size:=by omega
  clear c b hx hz q;go_wp2;obtain⟨d0,d1,d2,_⟩:=a8 ((dK r.out (.string x.text) (.bool x.list) (.slice A x.sub.length k)).alloc (.cells #[.string x.text,.bool x.list,.slice A x.sub.length k] 28));refine zj (v:= .tuple #[.agg #[(.string x.text),(.bool x.list),(.slice A x.sub.length k)],.int .i64 0]) (by simp[results,results151,go_sem,d0,d1,d2]) rfl ?_;rw[i.out.1,i.out.2];refine⟨(((u.out.setCell (by simp) _).setCell (by simp) _).setCell (by simp) _).alloc (by simp[World.setCell];omega) _,_,_,_,rfl, ?_⟩;have:=l.out;exact O.out.only (((((ae.refl [w.heap.size] d).setCell (by simp) _).setCell (by simp) _).setCell (by simp) _).alloc _) (by simp;omega) (fun k _ h=>by omega)
 have i:Hid (E=p/\X=ju):=za (by
  have y:E=p:=by rw[n.out,zi m]
  exact⟨y,by rw[o.out,zi (by omega)]⟩)
 have k0:(p==0)=false:=zo.2 m;have k1:(p !=0)=true:=by simp[m]
 have H0:=za m;clear n o m;go_enter func151,ntmps151
 go_wp2_with fail
 rw[F.out];refine H.out.mono ?_;rintro e d ⟨b,hx,_⟩;obtain rfl:=hx H0.out;dsimp only;have c:=G.out.ag b (by have:=l.out;omega);have hz:=b.size;have q:=l.out;obtain⟨J,R,Z,W,I,S⟩:=a8 c;have r:=za c;have u:Hid (Below w.heap.size w d):=za (z.out.trans (b.mono (by omega)));have N:w.heap.size<d.heap.size:=by omega
 clear c b hx hz q;go_wp2;obtain⟨d0,d1,d2,_⟩:=a8 ((dK r.out (.string ⟨#[]⟩) (.bool false) (.slice none 0 0)).alloc (.cells #[.string ⟨#[]⟩,.bool false,.slice none 0 0] 28));refine zj (v:= .tuple #[.agg #[.string ⟨#[]⟩,.bool false,.slice none 0 0],.int .i64 p]) (by simp[results,results151,go_sem,d0,d1,d2]) rfl ?_;rw[i.out.1,i.out.2];refine⟨(((u.out.setCell (by simp) _).setCell (by simp) _).setCell (by simp) _).alloc (by simp[World.setCell];omega) _,_,_,_,rfl, ?_⟩;exact nF _ _
