/- rlp.Next tells rdItem. -/
import Derived.Test.YtdbmifjankgfpaaGreatDoorKA30
import Derived.Test.YtdbmifjankgfpaaGreatDoorKA34
set_option linter.all false
set_option maxRecDepth 100000
set_option maxHeartbeats 4000000
open Go.Proofs.Tryz
namespace Go.Proofs.YtdbmifjankgfpaaGreatDoor
open Go.RowKit
variable {w:World}{n:Nat}
def Yk:=@results176
theorem Uj :(prog.info? 259).map (fun i=>(i.zero,i.size,i.bytes))=some (some (.agg #[.slice none 0 0,.int .i64 0]),2,32):=by kernel_rfl
theorem rX {ops:Array Oper}{rest:List Oper}{o:Oper}{a:Act}{Q:Exit->Act->World->Prop}(E:o.guard=none)(s x:Operand)
 (F:o.op= .call {callee:= .builtin .append,args:= #[s,x],argTypes:= #[256,256]}) {b r:Nat} {A:Option Addr} {l:List (List It×Nat)} (N:rW w b A r l) (W:l= []->A=none/\r=0) (e:b<=w.heap.size) (M:n=l.length)
 (L:a.eval s= .slice A n r) (d:Nat) (B:Nat) (hx:a.eval x= .slice (some ⟨B,0,none⟩) 1 1) (S:w.cell? ⟨B,0,none⟩=some (.slice none 0 0)) (X:w.cell? ⟨B,1,none⟩=some (.int .i64 d)) (Z:n<=1024)
 (I:∀c m w',Hid (rW w' b (some ⟨c,0,none⟩) m (([],d)::l))->Hid (Below b w w')->n+1<=m->m<=9223372036854775807->wpList prog ops Q rest (a.put o.dst (.slice (some ⟨c,0,none⟩) (n+1) m)) w'):wpList prog ops Q (o::rest) a w:=by
 subst M;obtain⟨i1,G,C,J,H⟩:=yG Uj;have D:∀(j:Nat) (u:Value),([.slice none 0 0,.int .i64 d]:List Value)[j]?=some u->w.cell? ((⟨B,0,none⟩:Addr).add j)=some u:=by
  intro j u hu;have O:∀j,(⟨B,0,none⟩:Addr).add j=⟨B,j,none⟩:=by intro j;unfold Addr.add;split<;>simp_all
  rw[O];match j,hu with
  |0,hu=>simp at hu;subst hu;exact S
  |1,hu=>simp at hu;subst hu;exact X
 have K:∀u∈([.slice none 0 0,.int .i64 d]:List Value),u.oneCell'=true:=by
  intro u hu;simp at hu;rcases hu with rfl|rfl<;>rfl
 rcases N with rfl|⟨g,vs,rfl,hR⟩
 ·obtain⟨rfl,rfl⟩:=W rfl;refine yW w E s x 256 F b 259 i1 _ 2 32 underlying256 G C J H rfl (by decide) _ 0 [] L (World.ownsRow_nil _ _ _ _) ⟨B,0,none⟩ 1 1 [.slice none 0 0,.int .i64 d] hx rfl D K (by decide) (by simp only[maxLen];omega) (by omega) e w.heap.size rfl ?_;intro c z w' h i Y R;obtain⟨_,_,p,q,_⟩:=dK h;exact I c z w' (za (.inr ⟨c,_,rfl,s6.first d h (zK e i.size)⟩)) (za ((zl b w).grown i e (fun k y=>by cases y))) p q
 obtain⟨U,pH,_⟩:=hR.block;refine yW w E s x 256 F b 259 i1 _ 2 32 underlying256 G C J H rfl (by decide) _ l.length (ea vs) L hR.row ⟨B,0,none⟩ 1 1 [.slice none 0 0,.int .i64 d] hx rfl D K (by decide) (by simp only[maxLen];omega) (by omega) e w.heap.size rfl ?_;intro c z w' h i Y R;obtain⟨_,_,p,q,_⟩:=dK h;exact I c z w' (za (.inr ⟨c,_,rfl,hR.push d h i e⟩)) (za ((zl b w).grown i e (fun k y=>(show g=k by simpa[Value.ownBlock]using y)▸U))) p q
theorem qn {P:Program}{f:FuncId}{args:Array Value}{v:Value}(h:Calls P f args (w.drewN n) fun e w'=>e= .returned v/\w.drewN n=w'):
 Calls P f args (w.drewN n) fun e b=>e= .returned v/\∃m,b=w.drewN m:=h.mono fun _ _ ⟨c,d⟩=>⟨c,n,d.symm⟩
def acv (w w':World)(R:Rd)(e:Ending):Prop:=
 Below w.heap.size w w'/\(R.e≠0->e= .returned (.tuple #[.agg #[.string ⟨#[]⟩,.bool false,.slice none 0 0],.int .i64 0,.int .i64 R.e]))/\
 (R.e=0->∃c0 c1 c2,e= .returned (.tuple #[.agg #[c0,c1,c2],.int .i64 R.size,.int .i64 0])/\ga w' (w.heap.size<= ·) R.x c0 c1 c2)
theorem NM (s:ByteArray)(D M:Int)(w:World)(hs:s.size<=4611686018427387904):
 Calls prog 176 #[.string s,.int .i64 D,.int .i64 M] w fun e w'=>acv w w' (bq D M s 1 0) e:=by
 obtain⟨R,c⟩:∃R,bq D M s 1 0=R:=⟨_,rfl⟩
 rw[c];have HR:=za c;clear c;go_enter func176,ntmps176
 go_upto_region 4 with fail
 go_cut [1,2] (fun d m L=>∃D' M':Int,d= .int .i64 D'/\m= .int .i64 M'/\Hid (D'=min D 16)/\Hid (M'=min M 1024)/\L=((w.alloc (.cells #[.string ⟨#[]⟩,.bool false,.slice none 0 0] 28)).alloc (.cells #[.slice none 0 0] 256)).alloc (.cells #[.string ⟨#[]⟩,.bool false,.slice none 0 0] 28))
 case first=>
  go_wp2_with fail
  all_goals
   go_meet;case rel=>exact⟨_,_,rfl,rfl,za (by omega),za (by omega),rfl⟩
 case rest=>
  obtain⟨D',M',rfl,rfl,HD,HM,rfl⟩:=hcut;obtain⟨W0,ca⟩:∃W0,((w.alloc (.cells #[.string ⟨#[]⟩,.bool false,.slice none 0 0] 28)).alloc (.cells #[.slice none 0 0] 256)).alloc (.cells #[.string ⟨#[]⟩,.bool false,.slice none 0 0] 28)=W0:=⟨_,rfl⟩
  have tw:Hid (G4 w W0 none 0 0):=za (by
   rw[<-ca];refine⟨((af.new w _ _).alloc _).alloc _, ?_,⟨.string ⟨#[]⟩,.bool false,.slice none 0 0, ?_⟩,(((zl _ w).alloc (zg _) _).alloc (by simp) _).alloc (by simp;omega) _,by simp,zg _,by omega⟩
   ·have:=(af.new (w.alloc (.cells #[.string ⟨#[]⟩,.bool false,.slice none 0 0] 28)) 256 #[.slice none 0 0]).alloc (.cells #[.string ⟨#[]⟩,.bool false,.slice none 0 0] 28);simpa using this
   have:=af.new ((w.alloc (.cells #[.string ⟨#[]⟩,.bool false,.slice none 0 0] 28)).alloc (.cells #[.slice none 0 0] 256)) 28 #[.string ⟨#[]⟩,.bool false,.slice none 0 0];simpa using this)
  rw[ca];clear ca;go_wp2_with fail
  go_loopg [12,13,14] (s.size+1) (fun k aA aL aC wr=>∃(at_ count:Nat) (b:Bool) (q:List (List It×Nat)) (r:Nat) (A:Option Addr) (C:Nat),aA= .int .i64 at_/\aL= .int .i64 count/\aC= .bool b/\Hid (r=q.length)/\Hid (G4 w wr A r C)/\Hid (rW wr (w.heap.size+3) A C q)/\Hid ((rU D M s R b q at_ count/\(q= []->A=none/\C=0))\/(b=false/\q= []/\qQ D M s R [] at_ count/\QW w wr R.x))/\Hid (s.size+1<=at_+k/\at_<=s.size))
  case atStart=>exact⟨0,0,true,[],0,none,0,rfl,rfl,rfl,za rfl,tw,za (.inl rfl),za (.inl ⟨⟨rfl,rfl,rfl,HR.out⟩,fun _=>⟨rfl,rfl⟩⟩),za (by omega)⟩
  case round=>
   obtain⟨at_,count,b,q,r,A,C,rfl,rfl,rfl,u,N,HK,HP,aw⟩:=hrel;have q6:wr.cell? ⟨w.heap.size+1,0,none⟩=some (.slice A r C):=N.out.opn.cell 0;have LS:=N.out.siz;have pR:=N.out.mx;have av:=N.out.le;rcases HP.out with⟨fk,wS⟩|⟨rfl,rfl,hm,hd⟩
   ·obtain⟨gB,ir,DU,R8,al⟩:=fk.le;rw[<-u.out]at R8;have DW:=za fk;have ai:=za wS;have Y:=za al;obtain⟨X,ow⟩:∃X,lA s.size q=X:=⟨_,rfl⟩
    rw[ow]at gB ir;have mM:=za ow;obtain⟨⟨l,z,n,e⟩,hH⟩:∃H,hd (s.extract at_ X) (aH D (r+1)) (aI M count)=H:=⟨_,rfl⟩
    have Oi:(s.extract at_ X).size<=4611686018427387904:=by rw[aq _ _ _ ir];omega
    have Ma:Hid (∀w,Calls prog 212 #[.string (s.extract at_ X),.bool (decide (D'<=r)),.bool (decide (M'<=count))] w fun e' w'=>e'= .returned (.tuple #[.bool l,.int .i64 z,.int .i64 n,.int .i64 e])/\w=w'):=za (fun w=>by
     have h1:decide (D'<=r)=aH D (r+1):=by
      have:=HD.out;unfold aH;rw[yE];simp only[zY,Bool.or_eq_true];omega
     have h2:decide (M'<=count)=aI M count:=by
      have:=HM.out;unfold aI;rw[yE];simp only[zY,Bool.or_eq_true];omega
     rw[h1,h2];have:=Ns (s.extract at_ X) (aH D (r+1)) (aI M count) w Oi;rwa [hH]at this)
    have HH:=za hH;clear fk wS al ow hH HP Oi;go_upto_region 7 with fail
    go_cut [31] (fun v L=>v= .bool true/\L=wr)
    case first=>
     cases b with
     |true=>
      go_wp2_with fail
      go_meet;case rel=>exact⟨rfl,rfl⟩
     |false=>
      have VN:0<r:=by
       have h1:=Y.out;have h2:=u.out;cases q with
       |nil=>simp at h1
       |cons f q=>simp at h2;omega
      go_wp2_with fail
      go_meet;case rel=>exact⟨rfl,rfl⟩
    case rest=>
     obtain⟨rfl,rfl⟩:=hcut;go_upto_if 35 with fail
     go_cut [15] (fun v L=>v= .int .i64 X/\L=wc)
     case first=>
      cases b with
      |true=>
       obtain rfl:=Y.out.1 rfl;obtain rfl:s.size=X:=mM.out;go_wp2_with fail
       go_meet;case rel=>exact⟨rfl,rfl⟩
      |false=>
       match q,HK,mM,Y,u with
       | [],_,_,h5,_=>have h6:=h5.out.2 rfl;cases h6
       |(acc,en0)::Sc,HK,mM,Y,u=>
        obtain rfl:en0=X:=mM.out;obtain⟨r,rfl⟩:∃r',r=r'+1:=⟨r-1,by have:=u.out;simp at this;omega⟩
        rcases HK.out with h|⟨g,vs,rfl,c⟩
        ·cases h
        match vs,c with
        | [],c=>exact absurd c.rds.length (by simp)
        |(v0,v1)::vs,c=>
         obtain⟨_,t1,_,_⟩:=c.top;rw[show Sc.length=r from by have:=u.out;simp at this;omega]at t1;dsimp only at t1;clear c;go_wp2_with fail
         go_meet;case rel=>exact⟨rfl,rfl⟩
     case rest=>
      obtain⟨rfl,rfl⟩:=hcut;go_wp2_with fail
      go_quiet ((go_at_call 212;exact qn (Ma.out _)))
      obtain⟨y,ag⟩:∃y,wc.drewN nq=y:=⟨_,rfl⟩
      have j:Hid (G4 w y A r C):=za (by rw[<-ag];exact N.out.below (Below.bJ (zl _ _) _));have L3:Hid (rW y (w.heap.size+3) A C q):=za (by rw[<-ag];exact HK.out.below (Below.bJ (zl _ _) _));have q7:y.cell? ⟨w.heap.size+1,0,none⟩=some (.slice A r C):=j.out.opn.cell 0;have an:=j.out.siz;obtain⟨p0,p1,p2,Ei,Ek,Eh⟩:=aZ j.out.res;rw[ag];clear q6 LS N HK ag;have Kf:Hid (e≠0->R=Rd.bad (if b then e else within e)):=za (fun he=>DW.out.err (by rw[mM.out,<-u.out];exact HH.out) he);by_cases Yr:e=2
      ·subst Yr;cases b with
       |true=>
        have Z:Hid (R=Rd.bad 2):=za (Kf.out (by omega));clear Kf;go_wp2;obtain⟨d0,d1,d2,_⟩:=aZ (ef j.out.res (.string ⟨#[]⟩) (.bool false) (.slice none 0 0));refine zk (v:= .tuple #[.agg #[.string ⟨#[]⟩,.bool false,.slice none 0 0],.int .i64 0,.int .i64 2]) (by simp[results,Yk,go_sem,d0,d1,d2]) rfl ?_;refine⟨((j.out.bel.setCell (by simp) _).setCell (by simp) _).setCell (by simp) _,fun _=> ?_,fun h=> ?_⟩
        ·rw[Z.out];rfl
        rw[Z.out]at h;simp[Rd.bad]at h;try first|omega|exact absurd h Sl
       |false=>
        have Z:Hid (R=Rd.bad 3):=za (Kf.out (by omega));clear Kf;go_wp2;obtain⟨d0,d1,d2,_⟩:=aZ (ef j.out.res (.string ⟨#[]⟩) (.bool false) (.slice none 0 0));refine zk (v:= .tuple #[.agg #[.string ⟨#[]⟩,.bool false,.slice none 0 0],.int .i64 0,.int .i64 3]) (by simp[results,Yk,go_sem,d0,d1,d2]) rfl ?_;refine⟨((j.out.bel.setCell (by simp) _).setCell (by simp) _).setCell (by simp) _,fun _=> ?_,fun h=> ?_⟩
        ·rw[Z.out];rfl
        rw[Z.out]at h;simp[Rd.bad]at h;try first|omega|exact absurd h Sl
      by_cases Sl:e=0
      ·subst Sl;clear Kf;have HQ:Hid (hd (s.extract at_ (lA s.size q)) (aH D (q.length+1)) (aI M count)=(l,z,n,0)):=za (by rw[mM.out,<-u.out];exact HH.out);have aJ:at_+z+n<=s.size/\1<=z+n/\count+1<=1024/\(l=true->1<=z):=by
        cases l with
        |true=>obtain⟨_,h2,h3,h4⟩:=DW.out.list HQ.out;exact⟨h2,by omega,h4,fun _=>h3⟩
        |false=>obtain⟨h2,h3,h4,_⟩:=DW.out.text HQ.out;exact⟨h2,h3,h4,(fun h=>by cases h)⟩
       obtain⟨cc,cE,aK,Om⟩:=aJ;have aN:=za Om;clear Ma HH Om gB ir;go_upto_if 75 with fail
       go_cut [12] (fun v L=>∃(E:Nat) (x:List (List It×Nat)) (J:Nat) (F:Option Addr) (i:Nat),v= .int .i64 E/\Hid (J=x.length)/\Hid (G4 w L F J i)/\Hid (rW L (w.heap.size+3) F i x)/\Hid (qQ D M s R x E (count+1)/\(x= []->QW w L R.x))/\Hid (at_<E/\E<=s.size))
       case first=>
        cases l with
        |true=>
         have Wp:((at_+z+n:Nat):Int)=(at_:Int)+z+n:=by omega
         have U1:Hid (af (y.alloc (.cells #[.slice none 0 0,.int .i64 ((at_:Int)+z+n)] 259)) y.heap.size 259 #[.slice none 0 0,.int .i64 ((at_:Int)+z+n)]):=za (af.new y _ _);have aM:=za Wp;have G:Hid (∀o,rW (y.alloc o) (w.heap.size+3) A C q):=za (fun o=>L3.out.below ((zl _ _).alloc (zg _) o));clear Wp;go_wp2_with (at_builtin;refine Hid.out ?_)
         refine za ?_;refine rX (by rfl) (.tmp 76) (.tmp 81) (by rfl) (G.out _) ai.out (by simp;omega) u.out (by rfl) (at_+z+n) y.heap.size (by rfl) (U1.out.cell 0) (by rw[aM.out];exact U1.out.cell 1) R8 ?_;intro g' Sd w3 DF bQ az DH;have B:Hid (G4 w w3 A r C):=za (j.out.below (((zl _ y).alloc an _).trans bQ.out));have q8:w3.cell? ⟨w.heap.size+1,0,none⟩=some (.slice A r C):=B.out.opn.cell 0;have aR:w3.frozen? ⟨w.heap.size+1,0,none⟩=false:=B.out.opn.frozen 0;have HL:=za (DW.out.list HQ.out);clear bQ G U1 L3 j DW HQ;go_wp2_with fail
         go_meet;case rel=>
          refine⟨at_+z,([],at_+z+n)::q,r+1,some ⟨g',0,none⟩,Sd,by go_num,za (by rw[u.out];rfl),za (B.out.store az DH),za (DF.out.only ((ae.refl [w.heap.size+1] w3).setCell (by simp) _) (by simp)),za ⟨HL.out.1,(fun h=>by cases h)⟩,za ⟨?_, ?_⟩⟩
          ·have:=HL.out.2.2.1;omega
          omega
        |false=>
         obtain⟨_,_,_,Oh,Rt⟩:=DW.out.text HQ.out;have aj:=za Oh;have OX:=za Rt;have ao:(s.extract (at_+z) (at_+z+n)).size<=9223372036854775807:=by rw[aq _ _ _ cc];omega
         have tW:Hid (∀(W:World) (S:Nat->Prop),ga W S (.mk (s.extract (at_+z) (at_+z+n)) false []) (.string (s.extract (at_+z) (at_+z+n))) (.bool false) (.slice none 0 0)):=za (fun W S=>ga.text false ao);have e1:((at_:Int)+z).toNat=at_+z:=by omega
         have e2:((at_:Int)+z+n).toNat=at_+z+n:=by omega
         clear Oh Rt HQ ao;cases b with
         |true=>
          obtain rfl:=Y.out.1 rfl;obtain rfl:r=0:=u.out;obtain⟨rfl,rfl⟩:=ai.out rfl;obtain⟨z0,z1,z2,Sk⟩:=j.out.who;have HA:=za (Ga y (w.heap.size+1) (w.heap.size+2) none 0 (s.extract (at_+z) (at_+z+n)) false none 0 0 z0 z1 z2 (by omega) j.out.opn Sk (by omega));clear Sk p0 p1 p2 Ei Ek Eh L3;go_wp2_with fail
          refine HA.out.mono ?_;rintro e' w3 ⟨rfl,gW,ho⟩;go_wp2_with fail
          go_meet;case rel=>
           have ay:=aj.out (by simp);refine⟨at_+z+n,[],0,none,0,by go_num,za rfl,za (j.out.only ho gW),za (.inl rfl),za ⟨?_,fun _=> ?_⟩,za ⟨?_, ?_⟩⟩
           ·rw[ay];exact⟨rfl,rfl⟩
           ·rw[ay];exact⟨_,_,_,gW,tW.out _ _⟩
           ·omega
           omega
         |false=>
          match q,L3,Y,u,OX with
          | [],_,h5,_,_=>have h6:=h5.out.2 rfl;cases h6
          |(acc,en0)::Sc,L3,Y,u,OX=>
           rcases L3.out with h|⟨g,vs,rfl,c⟩
           ·cases h
           match vs,c with
           | [],c=>exact absurd c.rds.length (by simp)
           |(v0,v1)::vs,c=>
            obtain rfl:r=Sc.length+1:=u.out;have hm:=(OX.out acc en0 Sc rfl)
            have UJ:acc.length<=1024:=by
             obtain⟨_,_,_,h4,h5⟩:=hm;simp only[nG,zj,yL]at h4;omega
            have aB:=za hm;have HA:=za (Gb y (w.heap.size+3) y.heap.size g C (w.heap.size+1) (w.heap.size+2) acc en0 Sc v0 v1 vs _ _ _ _ j.out.opn c (tW.out y _) (by omega));clear c hm p0 p1 p2 Ei Ek Eh L3 tW aj OX;go_wp2_with fail
            refine HA.out.mono ?_;rintro e' w3 ⟨rfl,bQ,Sb,G'⟩;go_wp2_with fail
            go_meet;case rel=>exact⟨at_+z+n,(acc++ [_],en0)::Sc,Sc.length+1,some ⟨g,0,none⟩,C,by go_num,za rfl,za (j.out.below bQ),za (.inr ⟨g,_,rfl,G'⟩),za ⟨aB.out,(fun h=>by cases h)⟩,za ⟨by omega,by omega⟩⟩
       case rest=>
        obtain⟨E,x,J,F,i,rfl,U,B,G,I,O⟩:=hcut;have ad:Hid (s.size+1<=E+(gk-1)/\E<=s.size/\1<=gk):=za (by have:=O.out;have:=aw.out;omega);clear q7 an p0 p1 p2 Ei Ek Eh j L3 HQ DW ai Y mM aw O u aN pR av DU R8 cc cE;obtain⟨ct,qW⟩:∃ct,count+1=ct:=⟨_,rfl⟩
        have OW:Hid ((count:Int)+1=ct):=za (by omega);rw[qW]at I aK;clear qW;go_wp2_with fail
        obtain⟨gO,rfl⟩:∃g:Nat,g=gk:=⟨_,rfl⟩
        go_loopg [] (x.length) (fun k wr=>∃(x:List (List It×Nat)) (J:Nat) (F:Option Addr) (i:Nat),Hid (J=x.length)/\Hid (G4 w wr F J i)/\Hid (rW wr (w.heap.size+3) F i x)/\Hid (qQ D M s R x E ct/\(x= []->QW w wr R.x))/\Hid (x.length<=k))
        case atStart=>exact⟨x,J,F,i,U,B,G,I,za (zg _)⟩
        case round=>
         clear U B G I;obtain⟨x,J,F,i,U,B,G,I,O⟩:=hrel;have q6:wr.cell? ⟨w.heap.size+1,0,none⟩=some (.slice F J i):=B.out.opn.cell 0;have aP:wr.frozen? ⟨w.heap.size+1,0,none⟩=false:=B.out.opn.frozen 0;have pR:=B.out.mx;have av:=B.out.le;have LS:=B.out.siz;have ar:gO-1<gO:=by have:=ad.out;omega
         match x,U,G,I,O with
         | [],U,G,I,O=>
          obtain rfl:J=0:=U.out;go_wp2;go_roundg (gO-1)
          case measure=>exact ar
          case rel=>exact⟨E,ct,false,[],0,F,i,rfl,by rw[OW.out],rfl,za rfl,B,G,za (.inr ⟨rfl,rfl,I.out.1,I.out.2 (by simp)⟩),za ⟨ad.out.1,ad.out.2.1⟩⟩
         |(acc,ah)::fs3,U,G,I,O=>
          obtain⟨K,tU⟩:∃K,fs3.length=K:=⟨_,rfl⟩
          obtain rfl:J=K+1:=by rw[<-tU];exact U.out
          rcases G.out with h|⟨g,vs,rfl,c⟩
          ·cases h
          match vs,c with
          | [],c=>exact absurd c.rds.length (by simp)
          |(v0,v1)::vs,c=>
           have aF:=za c;obtain⟨t0,t1,_,_⟩:=c.top;rw[tU]at t0 t1;dsimp only at t0 t1;have aa:=za tU;clear c tU;by_cases ow:ah=E
           ·subst ow;obtain⟨m,cX,pQ,hF,Wq⟩:=aF.out.pop;have aO:=I.out.1.len;obtain⟨A4,DT,rfl,aE,aQ,su⟩:=hF.list (by omega);obtain⟨n4,S4⟩:∃n4,acc.length=n4:=⟨_,rfl⟩
            rw[S4]at t0 aE;have ab:=za I.out.1;have Mc:Hid (ae [w.heap.size+1] wr (wr.setCell ⟨w.heap.size+1,0,none⟩ (.slice (some ⟨g,0,none⟩) K i))):=za ((ae.refl [w.heap.size+1] wr).setCell (by simp) _);have J4:Hid (G4 w (wr.setCell ⟨w.heap.size+1,0,none⟩ (.slice (some ⟨g,0,none⟩) K i)) (some ⟨g,0,none⟩) K i):=za (B.out.store (by omega) pR);have Kb:Hid (ga (wr.setCell ⟨w.heap.size+1,0,none⟩ (.slice (some ⟨g,0,none⟩) K i)) (fun k=>m<=k/\mF (wr.setCell ⟨w.heap.size+1,0,none⟩ (.slice (some ⟨g,0,none⟩) K i)) k) (gP acc) (.string ⟨#[]⟩) (.bool true) (.slice A4 n4 n4)):=za (by
             have h1:=su n4 (by omega) (by omega);rw[S4]at h1;refine ga.ag (fun k hk hS=>⟨hS.1,hS.2.of_eq (Mc.out.block k hk (by simp;omega))⟩) (fun p hp hS=>Mc.out.cell hp (by simp;omega)) _ h1)
            have fR:=za cX;clear su hF S4 cX pQ;match fs3,vs,Wq,aa,ab with
            | [],vs,Wq,aa,ab=>
             obtain rfl:K=0:=aa.out.symm;obtain⟨z0,z1,z2,Sk⟩:=J4.out.who;have HA:=za (Ga _ (w.heap.size+1) (w.heap.size+2) (some ⟨g,0,none⟩) i ⟨#[]⟩ true A4 n4 n4 z0 z1 z2 pR J4.out.opn Sk (by omega));have au:=za ab.out.done;clear Sk Wq;go_wp2_with fail
             refine HA.out.mono ?_;rintro e' w3 ⟨rfl,gW,ho⟩;go_wp2;go_roundg (gk-1)
             case measure=>have:=O.out;simp at this;omega
             case rel=>
              refine⟨[],0,some ⟨g,0,none⟩,i,za rfl,za (J4.out.only ho gW),za (.inl rfl),za ⟨?_,fun _=> ?_⟩,za (by simp)⟩
              ·rw[au.out];exact⟨rfl,rfl⟩
              rw[au.out];refine⟨_,_,_,gW,Kb.out.only ho (fun k hk hS=> ?_) (fun k _ h=> ?_)⟩
              ·have h1:=fR.out;have h2:=hS.1;simp at hk;omega
              have:=fR.out;exact zK this h.1
            |(rf,Wn)::fs4,[],Wq,_,_=>exact absurd Wq.rds.length (by simp)
            |(rf,Wn)::fs4,(u0,u1)::vs4,Wq,aa,ab=>
             obtain rfl:K=fs4.length+1:=aa.out.symm;have pC:=ab.out.close;have ax:=pC.len;simp only[zj,yL]at ax;have OP:=za pC;have ak:=Wq.only Mc.out (by simp);have HA:=za (Gb _ (w.heap.size+3) m g i (w.heap.size+1) (w.heap.size+2) rf Wn fs4 u0 u1 vs4 _ _ _ _ J4.out.opn ak Kb.out (by omega));clear pC ax ak Wq;go_wp2_with fail
             refine HA.out.mono ?_;rintro e' w3 ⟨rfl,bQ,Sb,aD⟩;go_wp2;go_roundg (gk-1)
             case measure=>have:=O.out;simp at this;omega
             case rel=>exact⟨(rf++ [gP acc],Wn)::fs4,fs4.length+1,some ⟨g,0,none⟩,i,za rfl,za (J4.out.below bQ),za (.inr ⟨g,_,rfl,aD⟩),za ⟨OP.out,(fun h=>by cases h)⟩,za (by have:=O.out;simp at this⊢;omega)⟩
           have k1:((ah:Int)==(E:Int))=false:=zm.2 (by omega);have k2:(ah==E)=false:=zm.2 ow;have uA:=za (I.out.1.next ow);clear ow;go_wp2;go_roundg (gO-1)
           case measure=>exact ar
           case rel=>exact⟨E,ct,false,(acc,ah)::fs3,K+1,some ⟨g,0,none⟩,i,rfl,by rw[OW.out],rfl,U,B,G,za (.inl ⟨uA.out,(fun h=>by cases h)⟩),za ⟨ad.out.1,ad.out.2.1⟩⟩
      have k2:(e==2)=false:=zm.2 Yr;have k0:(e !=0)=true:=by simp[Sl]
      have Z:Hid (R=Rd.bad e):=za (by
       have:=Kf.out Sl;rw[this];cases b
       ·simp[within,Yr]
       simp)
      clear Kf;go_wp2;obtain⟨d0,d1,d2,_⟩:=aZ (ef j.out.res (.string ⟨#[]⟩) (.bool false) (.slice none 0 0));refine zk (v:= .tuple #[.agg #[.string ⟨#[]⟩,.bool false,.slice none 0 0],.int .i64 0,.int .i64 e]) (by simp[results,Yk,go_sem,d0,d1,d2]) rfl ?_;refine⟨((j.out.bel.setCell (by simp) _).setCell (by simp) _).setCell (by simp) _,fun _=> ?_,fun h=> ?_⟩
      ·rw[Z.out];rfl
      rw[Z.out]at h;simp[Rd.bad]at h;try first|omega|exact absurd h Sl
   obtain rfl:r=0:=u.out;obtain⟨he,rfl⟩:=hm;obtain⟨c0,c1,c2,aG,su⟩:=hd;obtain⟨F,k2,rfl,rfl,rfl,_⟩:=su.open_;obtain⟨g0,g1,g2,_⟩:=aZ aG;obtain⟨p0,p1,p2,Ei,Ek,Eh⟩:=aZ N.out.res;clear HP;go_wp2;obtain⟨d0,d1,d2,_⟩:=aZ (ef N.out.res (.string R.x.text) (.bool R.x.list) (.slice F R.x.sub.length k2));refine zk (v:= .tuple #[.agg #[.string R.x.text,.bool R.x.list,.slice F R.x.sub.length k2],.int .i64 R.size,.int .i64 0]) (by simp[results,Yk,go_sem,d0,d1,d2]) rfl ?_;refine⟨((N.out.bel.setCell (by simp) _).setCell (by simp) _).setCell (by simp) _,fun h=>absurd he h,fun _=>⟨_,_,_,rfl, ?_⟩⟩;exact su.only ((((ae.refl [w.heap.size] wr).setCell (by simp) _).setCell (by simp) _).setCell (by simp) _) (by simp) (fun k _ h=>by omega)
theorem QZ (s:ByteArray)(D M:Int)(w:World)(hs:s.size<=4611686018427387904):
 Calls prog 151 #[.string s,.int .i64 D,.int .i64 M] w fun e w'=>vG w w' (iY D M s) (lR D M s) e:=by
 obtain⟨G,F⟩:∃G,w.alloc (.cells #[.string ⟨#[]⟩,.bool false,.slice none 0 0] 28)=G:=⟨_,rfl⟩
 obtain⟨R,N,W⟩:=ago F.symm;have z:=za (NM s D M G hs);have m:Hid (lR D M s=if(bq D M s 1 0).e≠0 then(bq D M s 1 0).e else if(bq D M s 1 0).size<s.size then 3 else 0):=za rfl;have o:Hid (iY D M s=if lR D M s≠0 then jk else(bq D M s 1 0).x):=za rfl;generalize iY D M s=X at*;generalize lR D M s=E at*;generalize bq D M s 1 0=aa at*;obtain⟨x,size,items,p⟩:=aa;have C:=za R;have l:=za N;have H:=za W;have B:=za F;clear R N W F;by_cases n:p=0
 ·subst n;by_cases U:size<s.size
  ·have i:Hid (E=3/\X=jk):=za (by
    have q:E=3:=by rw[m.out,zh (by simp),zi U]
    exact⟨q,by rw[o.out,zi (by omega)]⟩)
   clear m o;go_enter func151,ntmps151
   go_wp2_with fail
   rw[B.out];refine z.out.mono ?_;rintro e d ⟨b,_,hx⟩;obtain⟨c0,c1,c2,rfl,j⟩:=hx rfl;obtain⟨A,k,rfl,rfl,rfl,_⟩:=j.open_;have Z:=za j;clear j;have c:=H.out.ag b (by have:=l.out;omega);have hz:=b.size;have y:=l.out;obtain⟨J,I,K,Y,S,O⟩:=aZ c;have r:=za c;have u:Hid (Below w.heap.size w d):=za (C.out.trans (b.mono (by omega)));have L:w.heap.size<d.heap.size:=by omega
   clear c b hx hz y;go_wp2;obtain⟨d0,d1,d2,_⟩:=aZ ((ef r.out (.string ⟨#[]⟩) (.bool false) (.slice none 0 0)).alloc (.cells #[.string x.text,.bool x.list,.slice A x.sub.length k] 28));refine zk (v:= .tuple #[.agg #[(.string ⟨#[]⟩),(.bool false),(.slice none 0 0)],.int .i64 3]) (by simp[results,results151,go_sem,d0,d1,d2]) rfl ?_;rw[i.out.1,i.out.2];refine⟨(((u.out.setCell (by simp) _).setCell (by simp) _).setCell (by simp) _).alloc (by simp[World.setCell];omega) _,_,_,_,rfl, ?_⟩;exact ny _ _
  have i:Hid (E=0/\X=x):=za (by
   have q:E=0:=by rw[m.out,zh (by simp),zh U]
   exact⟨q,by rw[o.out,zh (by omega)]⟩)
  clear m o;go_enter func151,ntmps151
  go_wp2_with fail
  rw[B.out];refine z.out.mono ?_;rintro e d ⟨b,_,hx⟩;obtain⟨c0,c1,c2,rfl,j⟩:=hx rfl;obtain⟨A,k,rfl,rfl,rfl,_⟩:=j.open_;have Z:=za j;clear j;have c:=H.out.ag b (by have:=l.out;omega);have hz:=b.size;have y:=l.out;obtain⟨J,I,K,Y,S,O⟩:=aZ c;have r:=za c;have u:Hid (Below w.heap.size w d):=za (C.out.trans (b.mono (by omega)));have L:w.heap.size<d.heap.size:=by omega
  clear c b hx hz y;go_wp2;obtain⟨d0,d1,d2,_⟩:=aZ ((ef r.out (.string x.text) (.bool x.list) (.slice A x.sub.length k)).alloc (.cells #[.string x.text,.bool x.list,.slice A x.sub.length k] 28));refine zk (v:= .tuple #[.agg #[(.string x.text),(.bool x.list),(.slice A x.sub.length k)],.int .i64 0]) (by simp[results,results151,go_sem,d0,d1,d2]) rfl ?_;rw[i.out.1,i.out.2];refine⟨(((u.out.setCell (by simp) _).setCell (by simp) _).setCell (by simp) _).alloc (by simp[World.setCell];omega) _,_,_,_,rfl, ?_⟩;have:=l.out;exact Z.out.only (((((ae.refl [w.heap.size] d).setCell (by simp) _).setCell (by simp) _).setCell (by simp) _).alloc _) (by simp;omega) (fun k _ h=>by omega)
 have i:Hid (E=p/\X=jk):=za (by
  have q:E=p:=by rw[m.out,zi n]
  exact⟨q,by rw[o.out,zi (by omega)]⟩)
 have k0:(p==0)=false:=zm.2 n;have k1:(p !=0)=true:=by simp[n]
 have H0:=za n;clear m o n;go_enter func151,ntmps151
 go_wp2_with fail
 rw[B.out];refine z.out.mono ?_;rintro e d ⟨b,hx,_⟩;obtain rfl:=hx H0.out;dsimp only;have c:=H.out.ag b (by have:=l.out;omega);have hz:=b.size;have y:=l.out;obtain⟨J,I,K,Y,S,O⟩:=aZ c;have r:=za c;have u:Hid (Below w.heap.size w d):=za (C.out.trans (b.mono (by omega)));have L:w.heap.size<d.heap.size:=by omega
 clear c b hx hz y;go_wp2;obtain⟨d0,d1,d2,_⟩:=aZ ((ef r.out (.string ⟨#[]⟩) (.bool false) (.slice none 0 0)).alloc (.cells #[.string ⟨#[]⟩,.bool false,.slice none 0 0] 28));refine zk (v:= .tuple #[.agg #[.string ⟨#[]⟩,.bool false,.slice none 0 0],.int .i64 p]) (by simp[results,results151,go_sem,d0,d1,d2]) rfl ?_;rw[i.out.1,i.out.2];refine⟨(((u.out.setCell (by simp) _).setCell (by simp) _).setCell (by simp) _).alloc (by simp[World.setCell];omega) _,_,_,_,rfl, ?_⟩;exact ny _ _
