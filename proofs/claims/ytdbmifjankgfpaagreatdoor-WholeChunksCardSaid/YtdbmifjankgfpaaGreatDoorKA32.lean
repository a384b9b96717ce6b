/- rlp.Next tells rdItem. -/
import Derived.Test.YtdbmifjankgfpaaGreatDoorKA28
import Derived.Test.YtdbmifjankgfpaaGreatDoorKA23
set_option linter.all false
set_option maxRecDepth 100000
set_option maxHeartbeats 4000000
open Go.Proofs.Tryz
namespace Go.Proofs.YtdbmifjankgfpaaGreatDoor
open Go.RowKit
def Yj:=@results176
theorem Uj :(prog.info? 259).map (fun i=>(i.zero,i.size,i.bytes))=some (some (.agg #[.slice none 0 0,.int .i64 0]),2,32):=by kernel_rfl
theorem r9 {w:World}{ops:Array Oper}{rest:List Oper}{o:Oper}{a:Act}{Q:Exit->Act->World->Prop}(G:o.guard=none)(s x:Operand)
 (K:o.op= .call {callee:= .builtin .append,args:= #[s,x],argTypes:= #[256,256]}) {lo p n:Nat} {A:Option Addr} {i:List (List It×Nat)} (S:r8 w lo A p i) (L:i= []->A=none/\p=0) (d:lo<=w.heap.size) (U:n=i.length)
 (D:a.eval s= .slice A n p) (b:Nat) (B:Nat) (hx:a.eval x= .slice (some ⟨B,0,none⟩) 1 1) (R:w.cell? ⟨B,0,none⟩=some (.slice none 0 0)) (W:w.cell? ⟨B,1,none⟩=some (.int .i64 b)) (Y:n<=1024)
 (F:∀c l w',Hid (r8 w' lo (some ⟨c,0,none⟩) l (([],b)::i))->Hid (Below lo w w')->n+1<=l->l<=9223372036854775807->wpList prog ops Q rest (a.put o.dst (.slice (some ⟨c,0,none⟩) (n+1) l)) w'):wpList prog ops Q (o::rest) a w:=by
 subst U;obtain⟨i1,H,z,J,E⟩:=yE Uj;have C:∀(j:Nat) (u:Value),([.slice none 0 0,.int .i64 b]:List Value)[j]?=some u->w.cell? ((⟨B,0,none⟩:Addr).add j)=some u:=by
  intro j u hu;have M:∀j,(⟨B,0,none⟩:Addr).add j=⟨B,j,none⟩:=by intro j;unfold Addr.add;split<;>simp_all
  rw[M];match j,hu with
  |0,hu=>simp at hu;subst hu;exact R
  |1,hu=>simp at hu;subst hu;exact W
 have I:∀u∈([.slice none 0 0,.int .i64 b]:List Value),u.oneCell'=true:=by
  intro u hu;simp at hu;rcases hu with rfl|rfl<;>rfl
 rcases S with rfl|⟨g,vs,rfl,hR⟩
 ·obtain⟨rfl,rfl⟩:=L rfl;refine xj w G s x 256 K lo 259 i1 _ 2 32 underlying256 H z J E rfl (by decide) _ 0 [] D (World.ownsRow_nil _ _ _ _) ⟨B,0,none⟩ 1 1 [.slice none 0 0,.int .i64 b] hx rfl C I (by decide) (by simp only[maxLen];omega) (by omega) d w.heap.size rfl ?_;intro c r w' h e X N;obtain⟨_,_,y,m,_⟩:=dF h;exact F c r w' (za (.inr ⟨c,_,rfl,tp.first b h (zF d e.size)⟩)) (za ((zl lo w).grown e d (fun k q=>by cases q))) y m
 obtain⟨O,Z,_⟩:=hR.block;refine xj w G s x 256 K lo 259 i1 _ 2 32 underlying256 H z J E rfl (by decide) _ i.length (dV vs) D hR.row ⟨B,0,none⟩ 1 1 [.slice none 0 0,.int .i64 b] hx rfl C I (by decide) (by simp only[maxLen];omega) (by omega) d w.heap.size rfl ?_;intro c r w' h e X N;obtain⟨_,_,y,m,_⟩:=dF h;exact F c r w' (za (.inr ⟨c,_,rfl,hR.push b h e d⟩)) (za ((zl lo w).grown e d (fun k q=>(show g=k by simpa[Value.ownBlock]using q)▸O))) y m
theorem qn {P:Program}{f:FuncId}{args:Array Value}{w:World}{n:Nat}{v:Value}(h:Calls P f args (w.drewN n) fun e w'=>e= .returned v/\w.drewN n=w'):
 Calls P f args (w.drewN n) fun e b=>e= .returned v/\∃m,b=w.drewN m:=h.mono fun _ _ ⟨c,d⟩=>⟨c,n,d.symm⟩
def acC (w w':World)(R:Rd)(e:Ending):Prop:=
 Below w.heap.size w w'/\(R.e≠0->e= .returned (.tuple #[.agg #[.string ⟨#[]⟩,.bool false,.slice none 0 0],.int .i64 0,.int .i64 R.e]))/\
 (R.e=0->∃c0 c1 c2,e= .returned (.tuple #[.agg #[c0,c1,c2],.int .i64 R.size,.int .i64 0])/\gq w' (w.heap.size<= ·) R.x c0 c1 c2)
theorem Nt (s:ByteArray)(D M:Int)(w:World)(hs:s.size<=4611686018427387904):
 Calls prog 176 #[.string s,.int .i64 D,.int .i64 M] w fun e w'=>acC w w' (bq D M s 1 0) e:=by
 obtain⟨R,c⟩:∃R,bq D M s 1 0=R:=⟨_,rfl⟩
 rw[c];have HR:=za c;clear c;go_enter func176,ntmps176
 go_upto_region 4 with fail
 go_cut [1,2] (fun d m O=>∃D' M':Int,d= .int .i64 D'/\m= .int .i64 M'/\Hid (D'=min D 16)/\Hid (M'=min M 1024)/\O=((w.alloc (.cells #[.string ⟨#[]⟩,.bool false,.slice none 0 0] 28)).alloc (.cells #[.slice none 0 0] 256)).alloc (.cells #[.string ⟨#[]⟩,.bool false,.slice none 0 0] 28))
 case first=>
  go_wp2_with fail
  all_goals
   go_meet;case rel=>exact⟨_,_,rfl,rfl,za (by omega),za (by omega),rfl⟩
 case rest=>
  obtain⟨D',M',rfl,rfl,HD,HM,rfl⟩:=hcut;obtain⟨W0,cm⟩:∃W0,((w.alloc (.cells #[.string ⟨#[]⟩,.bool false,.slice none 0 0] 28)).alloc (.cells #[.slice none 0 0] 256)).alloc (.cells #[.string ⟨#[]⟩,.bool false,.slice none 0 0] 28)=W0:=⟨_,rfl⟩
  have uK:Hid (G7 w W0 none 0 0):=za (by
   rw[<-cm];refine⟨((af.new w _ _).alloc _).alloc _, ?_,⟨.string ⟨#[]⟩,.bool false,.slice none 0 0, ?_⟩,(((zl _ w).alloc (zd _) _).alloc (by simp) _).alloc (by simp;omega) _,by simp,zd _,by omega⟩
   ·have:=(af.new (w.alloc (.cells #[.string ⟨#[]⟩,.bool false,.slice none 0 0] 28)) 256 #[.slice none 0 0]).alloc (.cells #[.string ⟨#[]⟩,.bool false,.slice none 0 0] 28);simpa using this
   have:=af.new ((w.alloc (.cells #[.string ⟨#[]⟩,.bool false,.slice none 0 0] 28)).alloc (.cells #[.slice none 0 0] 256)) 28 #[.string ⟨#[]⟩,.bool false,.slice none 0 0];simpa using this)
  rw[cm];clear cm;go_wp2_with fail
  go_loopg [12,13,14] (s.size+1) (fun k aI aE aH wr=>∃(at_ count:Nat) (b:Bool) (u:List (List It×Nat)) (r:Nat) (A:Option Addr) (E:Nat),aI= .int .i64 at_/\aE= .int .i64 count/\aH= .bool b/\Hid (r=u.length)/\Hid (G7 w wr A r E)/\Hid (r8 wr (w.heap.size+3) A E u)/\Hid ((rY D M s R b u at_ count/\(u= []->A=none/\E=0))\/(b=false/\u= []/\qQ D M s R [] at_ count/\QG w wr R.x))/\Hid (s.size+1<=at_+k/\at_<=s.size))
  case atStart=>exact⟨0,0,true,[],0,none,0,rfl,rfl,rfl,za rfl,uK,za (.inl rfl),za (.inl ⟨⟨rfl,rfl,rfl,HR.out⟩,fun _=>⟨rfl,rfl⟩⟩),za (by omega)⟩
  case round=>
   obtain⟨at_,count,b,u,r,A,E,rfl,rfl,rfl,q,X,HK,HP,Wm⟩:=hrel;have q6:wr.cell? ⟨w.heap.size+1,0,none⟩=some (.slice A r E):=X.out.opn.cell 0;have LJ:=X.out.siz;have pX:=X.out.mx;have al:=X.out.le;rcases HP.out with⟨gw,Ac⟩|⟨rfl,rfl,hm,hd⟩
   ·obtain⟨gG,iB,DY,RA,aq⟩:=gw.le;rw[<-q.out]at RA;have Ea:=za gw;have ak:=za Ac;have fT:=za aq;obtain⟨U,nY⟩:∃U,lC s.size u=U:=⟨_,rfl⟩
    rw[nY]at gG iB;have mW:=za nY;obtain⟨⟨l,z,n,e⟩,hH⟩:∃H,hd (s.extract at_ U) (aF D (r+1)) (aG M count)=H:=⟨_,rfl⟩
    have N1:(s.extract at_ U).size<=4611686018427387904:=by rw[aj _ _ _ iB];omega
    have LY:Hid (∀w,Calls prog 212 #[.string (s.extract at_ U),.bool (decide (D'<=r)),.bool (decide (M'<=count))] w fun e' w'=>e'= .returned (.tuple #[.bool l,.int .i64 z,.int .i64 n,.int .i64 e])/\w=w'):=za (fun w=>by
     have h1:decide (D'<=r)=aF D (r+1):=by
      have:=HD.out;unfold aF;rw[yP];simp only[zY,Bool.or_eq_true];omega
     have h2:decide (M'<=count)=aG M count:=by
      have:=HM.out;unfold aG;rw[yP];simp only[zY,Bool.or_eq_true];omega
     rw[h1,h2];have:=Nb (s.extract at_ U) (aF D (r+1)) (aG M count) w N1;rwa [hH]at this)
    have HH:=za hH;clear gw Ac aq nY hH HP N1;go_upto_region 7 with fail
    go_cut [31] (fun v O=>v= .bool true/\O=wr)
    case first=>
     cases b with
     |true=>
      go_wp2_with fail
      go_meet;case rel=>exact⟨rfl,rfl⟩
     |false=>
      have VO:0<r:=by
       have h1:=fT.out;have h2:=q.out;cases u with
       |nil=>simp at h1
       |cons f u=>simp at h2;omega
      go_wp2_with fail
      go_meet;case rel=>exact⟨rfl,rfl⟩
    case rest=>
     obtain⟨rfl,rfl⟩:=hcut;go_upto_if 35 with fail
     go_cut [15] (fun v O=>v= .int .i64 U/\O=wc)
     case first=>
      cases b with
      |true=>
       obtain rfl:=fT.out.1 rfl;obtain rfl:s.size=U:=mW.out;go_wp2_with fail
       go_meet;case rel=>exact⟨rfl,rfl⟩
      |false=>
       match u,HK,mW,fT,q with
       | [],_,_,h5,_=>have h6:=h5.out.2 rfl;cases h6
       |(acc,en0)::RX,HK,mW,fT,q=>
        obtain rfl:en0=U:=mW.out;obtain⟨r,rfl⟩:∃r',r=r'+1:=⟨r-1,by have:=q.out;simp at this;omega⟩
        rcases HK.out with h|⟨g,vs,rfl,c⟩
        ·cases h
        match vs,c with
        | [],c=>exact absurd c.rds.length (by simp)
        |(v0,v1)::vs,c=>
         obtain⟨_,t1,_,_⟩:=c.top;rw[show RX.length=r from by have:=q.out;simp at this;omega]at t1;dsimp only at t1;clear c;go_wp2_with fail
         go_meet;case rel=>exact⟨rfl,rfl⟩
     case rest=>
      obtain⟨rfl,rfl⟩:=hcut;go_wp2_with fail
      go_quiet ((go_at_call 212;exact qn (LY.out _)))
      obtain⟨B,R9⟩:∃B,wc.drewN nq=B:=⟨_,rfl⟩
      have j:Hid (G7 w B A r E):=za (by rw[<-R9];exact X.out.below (Below.bG (zl _ _) _));have Y:Hid (r8 B (w.heap.size+3) A E u):=za (by rw[<-R9];exact HK.out.below (Below.bG (zl _ _) _));have q7:B.cell? ⟨w.heap.size+1,0,none⟩=some (.slice A r E):=j.out.opn.cell 0;have an:=j.out.siz;obtain⟨p0,p1,p2,Ev,Eu,Ew⟩:=bg j.out.res;rw[R9];clear q6 LJ X HK R9;have Kb:Hid (e≠0->R=Rd.bad (if b then e else within e)):=za (fun he=>Ea.out.err (by rw[mW.out,<-q.out];exact HH.out) he);by_cases Yq:e=2
      ·subst Yq;cases b with
       |true=>
        have Z:Hid (R=Rd.bad 2):=za (Kb.out (by omega));clear Kb;go_wp2;obtain⟨d0,d1,d2,_⟩:=bg (ec j.out.res (.string ⟨#[]⟩) (.bool false) (.slice none 0 0));refine zk (v:= .tuple #[.agg #[.string ⟨#[]⟩,.bool false,.slice none 0 0],.int .i64 0,.int .i64 2]) (by simp[results,Yj,go_sem,d0,d1,d2]) rfl ?_;refine⟨((j.out.bel.setCell (by simp) _).setCell (by simp) _).setCell (by simp) _,fun _=> ?_,fun h=> ?_⟩
        ·rw[Z.out];rfl
        rw[Z.out]at h;simp[Rd.bad]at h;try first|omega|exact absurd h aa
       |false=>
        have Z:Hid (R=Rd.bad 3):=za (Kb.out (by omega));clear Kb;go_wp2;obtain⟨d0,d1,d2,_⟩:=bg (ec j.out.res (.string ⟨#[]⟩) (.bool false) (.slice none 0 0));refine zk (v:= .tuple #[.agg #[.string ⟨#[]⟩,.bool false,.slice none 0 0],.int .i64 0,.int .i64 3]) (by simp[results,Yj,go_sem,d0,d1,d2]) rfl ?_;refine⟨((j.out.bel.setCell (by simp) _).setCell (by simp) _).setCell (by simp) _,fun _=> ?_,fun h=> ?_⟩
        ·rw[Z.out];rfl
        rw[Z.out]at h;simp[Rd.bad]at h;try first|omega|exact absurd h aa
      by_cases aa:e=0
      ·subst aa;clear Kb;have HQ:Hid (hd (s.extract at_ (lC s.size u)) (aF D (u.length+1)) (aG M count)=(l,z,n,0)):=za (by rw[mW.out,<-q.out];exact HH.out);have aL:at_+z+n<=s.size/\1<=z+n/\count+1<=1024/\(l=true->1<=z):=by
        cases l with
        |true=>obtain⟨_,h2,h3,h4⟩:=Ea.out.list HQ.out;exact⟨h2,by omega,h4,fun _=>h3⟩
        |false=>obtain⟨h2,h3,h4,_⟩:=Ea.out.text HQ.out;exact⟨h2,h3,h4,(fun h=>by cases h)⟩
       obtain⟨cl,cC,aD,JS⟩:=aL;have G2:=za JS;clear LY HH JS gG iB;go_upto_if 75 with fail
       go_cut [12] (fun v O=>∃(C:Nat) (y:List (List It×Nat)) (K:Nat) (F:Option Addr) (i:Nat),v= .int .i64 C/\Hid (K=y.length)/\Hid (G7 w O F K i)/\Hid (r8 O (w.heap.size+3) F i y)/\Hid (qQ D M s R y C (count+1)/\(y= []->QG w O R.x))/\Hid (at_<C/\C<=s.size))
       case first=>
        cases l with
        |true=>
         have Wp:((at_+z+n:Nat):Int)=(at_:Int)+z+n:=by omega
         have ai:Hid (af (B.alloc (.cells #[.slice none 0 0,.int .i64 ((at_:Int)+z+n)] 259)) B.heap.size 259 #[.slice none 0 0,.int .i64 ((at_:Int)+z+n)]):=za (af.new B _ _);have aK:=za Wp;have G:Hid (∀o,r8 (B.alloc o) (w.heap.size+3) A E u):=za (fun o=>Y.out.below ((zl _ _).alloc (zd _) o));clear Wp;go_wp2_with (at_builtin;refine Hid.out ?_)
         refine za ?_;refine r9 (by rfl) (.tmp 76) (.tmp 81) (by rfl) (G.out _) ak.out (by simp;omega) q.out (by rfl) (at_+z+n) B.heap.size (by rfl) (ai.out.cell 0) (by rw[aK.out];exact ai.out.cell 1) RA ?_;intro g' RY w3 DS bU aC CG;have x:Hid (G7 w w3 A r E):=za (j.out.below (((zl _ B).alloc an _).trans bU.out));have q8:w3.cell? ⟨w.heap.size+1,0,none⟩=some (.slice A r E):=x.out.opn.cell 0;have aO:w3.frozen? ⟨w.heap.size+1,0,none⟩=false:=x.out.opn.frozen 0;have HL:=za (Ea.out.list HQ.out);clear bU G ai Y j Ea HQ;go_wp2_with fail
         go_meet;case rel=>
          refine⟨at_+z,([],at_+z+n)::u,r+1,some ⟨g',0,none⟩,RY,by go_num,za (by rw[q.out];rfl),za (x.out.store aC CG),za (DS.out.only ((ae.refl [w.heap.size+1] w3).setCell (by simp) _) (by simp)),za ⟨HL.out.1,(fun h=>by cases h)⟩,za ⟨?_, ?_⟩⟩
          ·have:=HL.out.2.2.1;omega
          omega
        |false=>
         obtain⟨_,_,_,N0,Rc⟩:=Ea.out.text HQ.out;have aw:=za N0;have OF:=za Rc;have ax:(s.extract (at_+z) (at_+z+n)).size<=9223372036854775807:=by rw[aj _ _ _ cl];omega
         have D3:Hid (∀(W:World) (S:Nat->Prop),gq W S (.mk (s.extract (at_+z) (at_+z+n)) false []) (.string (s.extract (at_+z) (at_+z+n))) (.bool false) (.slice none 0 0)):=za (fun W S=>gq.text false ax);have e1:((at_:Int)+z).toNat=at_+z:=by omega
         have e2:((at_:Int)+z+n).toNat=at_+z+n:=by omega
         clear N0 Rc HQ ax;cases b with
         |true=>
          obtain rfl:=fT.out.1 rfl;obtain rfl:r=0:=q.out;obtain⟨rfl,rfl⟩:=ak.out rfl;obtain⟨z0,z1,z2,Sa⟩:=j.out.who;have HA:=za (Gd B (w.heap.size+1) (w.heap.size+2) none 0 (s.extract (at_+z) (at_+z+n)) false none 0 0 z0 z1 z2 (by omega) j.out.opn Sa (by omega));clear Sa p0 p1 p2 Ev Eu Ew Y;go_wp2_with fail
          refine HA.out.mono ?_;rintro e' w3 ⟨rfl,fK,ho⟩;go_wp2_with fail
          go_meet;case rel=>
           have av:=aw.out (by simp);refine⟨at_+z+n,[],0,none,0,by go_num,za rfl,za (j.out.only ho fK),za (.inl rfl),za ⟨?_,fun _=> ?_⟩,za ⟨?_, ?_⟩⟩
           ·rw[av];exact⟨rfl,rfl⟩
           ·rw[av];exact⟨_,_,_,fK,D3.out _ _⟩
           ·omega
           omega
         |false=>
          match u,Y,fT,q,OF with
          | [],_,h5,_,_=>have h6:=h5.out.2 rfl;cases h6
          |(acc,en0)::RX,Y,fT,q,OF=>
           rcases Y.out with h|⟨g,vs,rfl,c⟩
           ·cases h
           match vs,c with
           | [],c=>exact absurd c.rds.length (by simp)
           |(v0,v1)::vs,c=>
            obtain rfl:r=RX.length+1:=q.out;have hm:=(OF.out acc en0 RX rfl)
            have VR:acc.length<=1024:=by
             obtain⟨_,_,_,h4,h5⟩:=hm;simp only[nQ,zj,yv]at h4;omega
            have aB:=za hm;have HA:=za (Ge B (w.heap.size+3) B.heap.size g E (w.heap.size+1) (w.heap.size+2) acc en0 RX v0 v1 vs _ _ _ _ j.out.opn c (D3.out B _) (by omega));clear c hm p0 p1 p2 Ev Eu Ew Y D3 aw OF;go_wp2_with fail
            refine HA.out.mono ?_;rintro e' w3 ⟨rfl,bU,RW,Ha⟩;go_wp2_with fail
            go_meet;case rel=>exact⟨at_+z+n,(acc++ [_],en0)::RX,RX.length+1,some ⟨g,0,none⟩,E,by go_num,za rfl,za (j.out.below bU),za (.inr ⟨g,_,rfl,Ha⟩),za ⟨aB.out,(fun h=>by cases h)⟩,za ⟨by omega,by omega⟩⟩
       case rest=>
        obtain⟨C,y,K,F,i,rfl,N,x,G,I,L⟩:=hcut;have ab:Hid (s.size+1<=C+(gk-1)/\C<=s.size/\1<=gk):=za (by have:=L.out;have:=Wm.out;omega);clear q7 an p0 p1 p2 Ev Eu Ew j Y HQ Ea ak fT mW Wm L q G2 pX al DY RA cl cC;obtain⟨ct,Ov⟩:∃ct,count+1=ct:=⟨_,rfl⟩
        have S7:Hid ((count:Int)+1=ct):=za (by omega);rw[Ov]at I aD;clear Ov;go_wp2_with fail
        obtain⟨gO,rfl⟩:∃g:Nat,g=gk:=⟨_,rfl⟩
        go_loopg [] (y.length) (fun k wr=>∃(y:List (List It×Nat)) (K:Nat) (F:Option Addr) (i:Nat),Hid (K=y.length)/\Hid (G7 w wr F K i)/\Hid (r8 wr (w.heap.size+3) F i y)/\Hid (qQ D M s R y C ct/\(y= []->QG w wr R.x))/\Hid (y.length<=k))
        case atStart=>exact⟨y,K,F,i,N,x,G,I,za (zd _)⟩
        case round=>
         clear N x G I;obtain⟨y,K,F,i,N,x,G,I,L⟩:=hrel;have q6:wr.cell? ⟨w.heap.size+1,0,none⟩=some (.slice F K i):=x.out.opn.cell 0;have aP:wr.frozen? ⟨w.heap.size+1,0,none⟩=false:=x.out.opn.frozen 0;have pX:=x.out.mx;have al:=x.out.le;have LJ:=x.out.siz;have ar:gO-1<gO:=by have:=ab.out;omega
         match y,N,G,I,L with
         | [],N,G,I,L=>
          obtain rfl:K=0:=N.out;go_wp2;go_roundg (gO-1)
          case measure=>exact ar
          case rel=>exact⟨C,ct,false,[],0,F,i,rfl,by rw[S7.out],rfl,za rfl,x,G,za (.inr ⟨rfl,rfl,I.out.1,I.out.2 (by simp)⟩),za ⟨ab.out.1,ab.out.2.1⟩⟩
         |(acc,ah)::fs3,N,G,I,L=>
          obtain⟨J,tV⟩:∃J,fs3.length=J:=⟨_,rfl⟩
          obtain rfl:K=J+1:=by rw[<-tV];exact N.out
          rcases G.out with h|⟨g,vs,rfl,c⟩
          ·cases h
          match vs,c with
          | [],c=>exact absurd c.rds.length (by simp)
          |(v0,v1)::vs,c=>
           have aM:=za c;obtain⟨t0,t1,_,_⟩:=c.top;rw[tV]at t0 t1;dsimp only at t0 t1;have ag:=za tV;clear c tV;by_cases nY:ah=C
           ·subst nY;obtain⟨m,gJ,su,hF,Wo⟩:=aM.out.pop;have aQ:=I.out.1.len;obtain⟨A4,D8,rfl,aJ,aN,sF⟩:=hF.list (by omega);obtain⟨n4,SX⟩:∃n4,acc.length=n4:=⟨_,rfl⟩
            rw[SX]at t0 aJ;have ad:=za I.out.1;have LZ:Hid (ae [w.heap.size+1] wr (wr.setCell ⟨w.heap.size+1,0,none⟩ (.slice (some ⟨g,0,none⟩) J i))):=za ((ae.refl [w.heap.size+1] wr).setCell (by simp) _);have J0:Hid (G7 w (wr.setCell ⟨w.heap.size+1,0,none⟩ (.slice (some ⟨g,0,none⟩) J i)) (some ⟨g,0,none⟩) J i):=za (x.out.store (by omega) pX);have J9:Hid (gq (wr.setCell ⟨w.heap.size+1,0,none⟩ (.slice (some ⟨g,0,none⟩) J i)) (fun k=>m<=k/\mK (wr.setCell ⟨w.heap.size+1,0,none⟩ (.slice (some ⟨g,0,none⟩) J i)) k) (gT acc) (.string ⟨#[]⟩) (.bool true) (.slice A4 n4 n4)):=za (by
             have h1:=sF n4 (by omega) (by omega);rw[SX]at h1;refine gq.ag (fun k hk hS=>⟨hS.1,hS.2.of_eq (LZ.out.block k hk (by simp;omega))⟩) (fun p hp hS=>LZ.out.cell hp (by simp;omega)) _ h1)
            have gz:=za gJ;clear sF hF SX gJ su;match fs3,vs,Wo,ag,ad with
            | [],vs,Wo,ag,ad=>
             obtain rfl:J=0:=ag.out.symm;obtain⟨z0,z1,z2,Sa⟩:=J0.out.who;have HA:=za (Gd _ (w.heap.size+1) (w.heap.size+2) (some ⟨g,0,none⟩) i ⟨#[]⟩ true A4 n4 n4 z0 z1 z2 pX J0.out.opn Sa (by omega));have ay:=za ad.out.done;clear Sa Wo;go_wp2_with fail
             refine HA.out.mono ?_;rintro e' w3 ⟨rfl,fK,ho⟩;go_wp2;go_roundg (gk-1)
             case measure=>have:=L.out;simp at this;omega
             case rel=>
              refine⟨[],0,some ⟨g,0,none⟩,i,za rfl,za (J0.out.only ho fK),za (.inl rfl),za ⟨?_,fun _=> ?_⟩,za (by simp)⟩
              ·rw[ay.out];exact⟨rfl,rfl⟩
              rw[ay.out];refine⟨_,_,_,fK,J9.out.only ho (fun k hk hS=> ?_) (fun k _ h=> ?_)⟩
              ·have h1:=gz.out;have h2:=hS.1;simp at hk;omega
              have:=gz.out;exact zF this h.1
            |(rm,Wl)::fs4,[],Wo,_,_=>exact absurd Wo.rds.length (by simp)
            |(rm,Wl)::fs4,(u0,u1)::vs4,Wo,ag,ad=>
             obtain rfl:J=fs4.length+1:=ag.out.symm;have qY:=ad.out.close;have au:=qY.len;simp only[zj,yv]at au;have Ox:=za qY;have ao:=Wo.only LZ.out (by simp);have HA:=za (Ge _ (w.heap.size+3) m g i (w.heap.size+1) (w.heap.size+2) rm Wl fs4 u0 u1 vs4 _ _ _ _ J0.out.opn ao J9.out (by omega));clear qY au ao Wo;go_wp2_with fail
             refine HA.out.mono ?_;rintro e' w3 ⟨rfl,bU,RW,aA⟩;go_wp2;go_roundg (gk-1)
             case measure=>have:=L.out;simp at this;omega
             case rel=>exact⟨(rm++ [gT acc],Wl)::fs4,fs4.length+1,some ⟨g,0,none⟩,i,za rfl,za (J0.out.below bU),za (.inr ⟨g,_,rfl,aA⟩),za ⟨Ox.out,(fun h=>by cases h)⟩,za (by have:=L.out;simp at this⊢;omega)⟩
           have k1:((ah:Int)==(C:Int))=false:=zm.2 (by omega);have k2:(ah==C)=false:=zm.2 nY;have uF:=za (I.out.1.next nY);clear nY;go_wp2;go_roundg (gO-1)
           case measure=>exact ar
           case rel=>exact⟨C,ct,false,(acc,ah)::fs3,J+1,some ⟨g,0,none⟩,i,rfl,by rw[S7.out],rfl,N,x,G,za (.inl ⟨uF.out,(fun h=>by cases h)⟩),za ⟨ab.out.1,ab.out.2.1⟩⟩
      have k2:(e==2)=false:=zm.2 Yq;have k0:(e !=0)=true:=by simp[aa]
      have Z:Hid (R=Rd.bad e):=za (by
       have:=Kb.out aa;rw[this];cases b
       ·simp[within,Yq]
       simp)
      clear Kb;go_wp2;obtain⟨d0,d1,d2,_⟩:=bg (ec j.out.res (.string ⟨#[]⟩) (.bool false) (.slice none 0 0));refine zk (v:= .tuple #[.agg #[.string ⟨#[]⟩,.bool false,.slice none 0 0],.int .i64 0,.int .i64 e]) (by simp[results,Yj,go_sem,d0,d1,d2]) rfl ?_;refine⟨((j.out.bel.setCell (by simp) _).setCell (by simp) _).setCell (by simp) _,fun _=> ?_,fun h=> ?_⟩
      ·rw[Z.out];rfl
      rw[Z.out]at h;simp[Rd.bad]at h;try first|omega|exact absurd h aa
   obtain rfl:r=0:=q.out;obtain⟨he,rfl⟩:=hm;obtain⟨c0,c1,c2,az,sF⟩:=hd;obtain⟨F,k2,rfl,rfl,rfl,_⟩:=sF.open_;obtain⟨g0,g1,g2,_⟩:=bg az;obtain⟨p0,p1,p2,Ev,Eu,Ew⟩:=bg X.out.res;clear HP;go_wp2;obtain⟨d0,d1,d2,_⟩:=bg (ec X.out.res (.string R.x.text) (.bool R.x.list) (.slice F R.x.sub.length k2));refine zk (v:= .tuple #[.agg #[.string R.x.text,.bool R.x.list,.slice F R.x.sub.length k2],.int .i64 R.size,.int .i64 0]) (by simp[results,Yj,go_sem,d0,d1,d2]) rfl ?_;refine⟨((X.out.bel.setCell (by simp) _).setCell (by simp) _).setCell (by simp) _,fun h=>absurd he h,fun _=>⟨_,_,_,rfl, ?_⟩⟩;exact sF.only ((((ae.refl [w.heap.size] wr).setCell (by simp) _).setCell (by simp) _).setCell (by simp) _) (by simp) (fun k _ h=>by omega)
theorem QJ (s:ByteArray)(D M:Int)(w:World)(hs:s.size<=4611686018427387904):
 Calls prog 151 #[.string s,.int .i64 D,.int .i64 M] w fun e w'=>vM w w' (jf D M s) (lZ D M s) e:=by
 obtain⟨B,z⟩:∃B,w.alloc (.cells #[.string ⟨#[]⟩,.bool false,.slice none 0 0] 28)=B:=⟨_,rfl⟩
 obtain⟨S,O,R⟩:=agG z.symm;have H:=za (Nt s D M B hs);have p:Hid (lZ D M s=if(bq D M s 1 0).e≠0 then(bq D M s 1 0).e else if(bq D M s 1 0).size<s.size then 3 else 0):=za rfl;have o:Hid (jf D M s=if lZ D M s≠0 then jv else(bq D M s 1 0).x):=za rfl;generalize jf D M s=X at*;generalize lZ D M s=E at*;generalize bq D M s 1 0=aa at*;obtain⟨x,size,items,m⟩:=aa;have F:=za S;have j:=za O;have C:=za R;have G:=za z;clear S O R z;by_cases n:m=0
 ·subst n;by_cases Z:size<s.size
  ·have i:Hid (E=3/\X=jv):=za (by
    have r:E=3:=by rw[p.out,zh (by simp),zi Z]
    exact⟨r,by rw[o.out,zi (by omega)]⟩)
   clear p o;go_enter func151,ntmps151
   go_wp2_with fail
   rw[G.out];refine H.out.mono ?_;rintro e d ⟨b,_,hx⟩;obtain⟨c0,c1,c2,rfl,l⟩:=hx rfl;obtain⟨A,k,rfl,rfl,rfl,_⟩:=l.open_;have N:=za l;clear l;have c:=C.out.ag b (by have:=j.out;omega);have hz:=b.size;have q:=j.out;obtain⟨Y,K,U,J,I,W⟩:=bg c;have u:=za c;have y:Hid (Below w.heap.size w d):=za (F.out.trans (b.mono (by omega)));have L:w.heap.size<d.heap.size:=by omega
   clear c b hx hz q;go_wp2;obtain⟨d0,d1,d2,_⟩:=bg ((ec u.out (.string ⟨#[]⟩) (.bool false) (.slice none 0 0)).alloc (.cells #[.string x.text,.bool x.list,.slice A x.sub.length k] 28));refine zk (v:= .tuple #[.agg #[(.string ⟨#[]⟩),(.bool false),(.slice none 0 0)],.int .i64 3]) (by simp[results,results151,go_sem,d0,d1,d2]) rfl ?_;rw[i.out.1,i.out.2];refine⟨(((y.out.setCell (by simp) _).setCell (by simp) _).setCell (by simp) _).alloc (by simp[World.setCell];omega) _,_,_,_,rfl, ?_⟩;exact nN _ _
  have i:Hid (E=0/\X=x):=za (by
   have r:E=0:=by rw[p.out,zh (by simp),zh Z]
   exact⟨r,by rw[o.out,zh (by omega)]⟩)
  clear p o;go_enter func151,ntmps151
  go_wp2_with fail
  rw[G.out];refine H.out.mono ?_;rintro e d ⟨b,_,hx⟩;obtain⟨c0,c1,c2,rfl,l⟩:=hx rfl;obtain⟨A,k,rfl,rfl,rfl,_⟩:=l.open_;have N:=za l;clear l;have c:=C.out.ag b (by have:=j.out;omega);have hz:=b.size;have q:=j.out;obtain⟨Y,K,U,J,I,W⟩:=bg c;have u:=za c;have y:Hid (Below w.heap.size w d):=za (F.out.trans (b.mono (by omega)));have L:w.heap.size<d.heap.size:=by omega
  clear c b hx hz q;go_wp2;obtain⟨d0,d1,d2,_⟩:=bg ((ec u.out (.string x.text) (.bool x.list) (.slice A x.sub.length k)).alloc (.cells #[.string x.text,.bool x.list,.slice A x.sub.length k] 28));refine zk (v:= .tuple #[.agg #[(.string x.text),(.bool x.list),(.slice A x.sub.length k)],.int .i64 0]) (by simp[results,results151,go_sem,d0,d1,d2]) rfl ?_;rw[i.out.1,i.out.2];refine⟨(((y.out.setCell (by simp) _).setCell (by simp) _).setCell (by simp) _).alloc (by simp[World.setCell];omega) _,_,_,_,rfl, ?_⟩;have:=j.out;exact N.out.only (((((ae.refl [w.heap.size] d).setCell (by simp) _).setCell (by simp) _).setCell (by simp) _).alloc _) (by simp;omega) (fun k _ h=>by omega)
 have i:Hid (E=m/\X=jv):=za (by
  have r:E=m:=by rw[p.out,zi n]
  exact⟨r,by rw[o.out,zi (by omega)]⟩)
 have k0:(m==0)=false:=zm.2 n;have k1:(m !=0)=true:=by simp[n]
 have H0:=za n;clear p o n;go_enter func151,ntmps151
 go_wp2_with fail
 rw[G.out];refine H.out.mono ?_;rintro e d ⟨b,hx,_⟩;obtain rfl:=hx H0.out;dsimp only;have c:=C.out.ag b (by have:=j.out;omega);have hz:=b.size;have q:=j.out;obtain⟨Y,K,U,J,I,W⟩:=bg c;have u:=za c;have y:Hid (Below w.heap.size w d):=za (F.out.trans (b.mono (by omega)));have L:w.heap.size<d.heap.size:=by omega
 clear c b hx hz q;go_wp2;obtain⟨d0,d1,d2,_⟩:=bg ((ec u.out (.string ⟨#[]⟩) (.bool false) (.slice none 0 0)).alloc (.cells #[.string ⟨#[]⟩,.bool false,.slice none 0 0] 28));refine zk (v:= .tuple #[.agg #[.string ⟨#[]⟩,.bool false,.slice none 0 0],.int .i64 m]) (by simp[results,results151,go_sem,d0,d1,d2]) rfl ?_;rw[i.out.1,i.out.2];refine⟨(((y.out.setCell (by simp) _).setCell (by simp) _).setCell (by simp) _).alloc (by simp[World.setCell];omega) _,_,_,_,rfl, ?_⟩;exact nN _ _
