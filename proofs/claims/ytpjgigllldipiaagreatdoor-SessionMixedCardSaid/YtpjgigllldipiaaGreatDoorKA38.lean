/- rlp.Next tells rdItem. -/
import Derived.Test.YtpjgigllldipiaaGreatDoorKA33
import Derived.Test.YtpjgigllldipiaaGreatDoorKA37
import Derived.Deep.DeepCutAuto
set_option linter.all false
set_option maxRecDepth 100000
set_option maxHeartbeats 4000000
namespace Go.Proofs.YtpjgigllldipiaaGreatDoor
open Tryz
open Go.RowKit
def Yu:=@results136
theorem To :(prog.info? 226).map (fun i=>(i.zero,i.size,i.bytes))=some (some (.agg #[.slice none 0 0,.int .i64 0]),2,32):=by kernel_rfl
theorem rz {w:World}{ops:Array Oper}{rest:List Oper}{o:Oper}{a:Act}{Q:Exit->Act->World->Prop}(L:o.guard=none)(s x:Operand)
 (C:o.op= .call {callee:= .builtin .append,args:= #[s,x],argTypes:= #[223,223]}) {c q n:Nat} {A:Option Addr} {l:List (List It×Nat)} (W:ry w c A q l) (R:l= []->A=none/\q=0) (e:c<=w.heap.size) (O:n=l.length)
 (G:a.eval s= .slice A n q) (d:Nat) (B:Nat) (hx:a.eval x= .slice (some ⟨B,0,none⟩) 1 1) (S:w.cell? ⟨B,0,none⟩=some (.slice none 0 0)) (U:w.cell? ⟨B,1,none⟩=some (.int .i64 d)) (aa:n<=1024)
 (F:∀b m w',Hid (ry w' c (some ⟨b,0,none⟩) m (([],d)::l))->Hid (Below c w w')->n+1<=m->m<=9223372036854775807->wpList prog ops Q rest (a.put o.dst (.slice (some ⟨b,0,none⟩) (n+1) m)) w'):wpList prog ops Q (o::rest) a w:=by
 subst O;obtain⟨i1,H,D,I,J⟩:=yT To;have K:∀(j:Nat) (u:Value),([.slice none 0 0,.int .i64 d]:List Value)[j]?=some u->w.cell? ((⟨B,0,none⟩:Addr).add j)=some u:=by
  intro j u hu;have X:∀j,(⟨B,0,none⟩:Addr).add j=⟨B,j,none⟩:=by intro j;unfold Addr.add;split<;>simp_all
  rw[X];match j,hu with
  |0,hu=>simp at hu;subst hu;exact S
  |1,hu=>simp at hu;subst hu;exact U
 have E:∀u∈([.slice none 0 0,.int .i64 d]:List Value),u.oneCell'=true:=by
  intro u hu;simp at hu;rcases hu with rfl|rfl<;>rfl
 rcases W with rfl|⟨g,vs,rfl,hR⟩
 ·obtain⟨rfl,rfl⟩:=R rfl;refine xB w L s x 223 C c 226 i1 _ 2 32 underlying223 H D I J rfl (by decide) _ 0 [] G (World.ownsRow_nil _ _ _ _) ⟨B,0,none⟩ 1 1 [.slice none 0 0,.int .i64 d] hx rfl K E (by decide) (by simp only[maxLen];omega) (by omega) e w.heap.size rfl ?_;intro b z w' i h M Y;obtain⟨_,_,y,p,_⟩:=dx i;exact F b z w' (za (.inr ⟨b,_,rfl,sF.first d i (zK e h.size)⟩)) (za ((zq c w).grown h e (fun k r=>by cases r))) y p
 obtain⟨N,Z,_⟩:=hR.block;refine xB w L s x 223 C c 226 i1 _ 2 32 underlying223 H D I J rfl (by decide) _ l.length (dN vs) G hR.row ⟨B,0,none⟩ 1 1 [.slice none 0 0,.int .i64 d] hx rfl K E (by decide) (by simp only[maxLen];omega) (by omega) e w.heap.size rfl ?_;intro b z w' i h M Y;obtain⟨_,_,y,p,_⟩:=dx i;exact F b z w' (za (.inr ⟨b,_,rfl,hR.push d i h e⟩)) (za ((zq c w).grown h e (fun k r=>(show g=k by simpa[Value.ownBlock]using r)▸N))) y p
theorem qn {P:Program}{f:FuncId}{args:Array Value}{w:World}{n:Nat}{v:Value}(h:Calls P f args (w.drewN n) fun e w'=>e= .returned v/\w.drewN n=w'):
 Calls P f args (w.drewN n) fun e b=>e= .returned v/\∃m,b=w.drewN m:=h.mono fun _ _ ⟨d,c⟩=>⟨d,n,c.symm⟩
def abn (w w':World)(R:Rd)(e:Ending):Prop:=
 Below w.heap.size w w'/\(R.e≠0->e= .returned (.tuple #[.agg #[.string ⟨#[]⟩,.bool false,.slice none 0 0],.int .i64 0,.int .i64 R.e]))/\
 (R.e=0->∃c0 c1 c2,e= .returned (.tuple #[.agg #[c0,c1,c2],.int .i64 R.size,.int .i64 0])/\fO w' (w.heap.size<= ·) R.x c0 c1 c2)
theorem Mx (s:ByteArray)(D M:Int)(w:World)(hs:s.size<=4611686018427387904):
 Calls prog 136 #[.string s,.int .i64 D,.int .i64 M] w fun e w'=>abn w w' (bp D M s 1 0) e:=by
 obtain⟨R,c⟩:∃R,bp D M s 1 0=R:=⟨_,rfl⟩
 rw[c];have HR:=za c;clear c;go_enter func136,ntmps136
 go_upto_region 4 with fail
 go_cut [1,2] (fun d m X=>∃D' M':Int,d= .int .i64 D'/\m= .int .i64 M'/\Hid (D'=min D 16)/\Hid (M'=min M 1024)/\X=((w.alloc (.cells #[.string ⟨#[]⟩,.bool false,.slice none 0 0] 28)).alloc (.cells #[.slice none 0 0] 223)).alloc (.cells #[.string ⟨#[]⟩,.bool false,.slice none 0 0] 28))
 case first=>
  go_wp2_with fail
  all_goals
   go_meet;case rel=>exact⟨_,_,rfl,rfl,za (by omega),za (by omega),rfl⟩
 case rest=>
  obtain⟨D',M',rfl,rfl,HD,HM,rfl⟩:=hcut;obtain⟨W0,cB⟩:∃W0,((w.alloc (.cells #[.string ⟨#[]⟩,.bool false,.slice none 0 0] 28)).alloc (.cells #[.slice none 0 0] 223)).alloc (.cells #[.string ⟨#[]⟩,.bool false,.slice none 0 0] 28)=W0:=⟨_,rfl⟩
  have sR:Hid (Gq w W0 none 0 0):=za (by
   rw[<-cB];refine⟨((af.new w _ _).alloc _).alloc _, ?_,⟨.string ⟨#[]⟩,.bool false,.slice none 0 0, ?_⟩,(((zq _ w).alloc (zf _) _).alloc (by simp) _).alloc (by simp;omega) _,by simp,zf _,by omega⟩
   ·have:=(af.new (w.alloc (.cells #[.string ⟨#[]⟩,.bool false,.slice none 0 0] 28)) 223 #[.slice none 0 0]).alloc (.cells #[.string ⟨#[]⟩,.bool false,.slice none 0 0] 28);simpa using this
   have:=af.new ((w.alloc (.cells #[.string ⟨#[]⟩,.bool false,.slice none 0 0] 28)).alloc (.cells #[.slice none 0 0] 223)) 28 #[.string ⟨#[]⟩,.bool false,.slice none 0 0];simpa using this)
  rw[cB];clear cB;go_wp2_with fail
  go_loopg [12,13,14] (s.size+1) (fun k aJ aG aL wr=>∃(at_ count:Nat) (b:Bool) (q:List (List It×Nat)) (r:Nat) (A:Option Addr) (F:Nat),aJ= .int .i64 at_/\aG= .int .i64 count/\aL= .bool b/\Hid (r=q.length)/\Hid (Gq w wr A r F)/\Hid (ry wr (w.heap.size+3) A F q)/\Hid ((rr D M s R b q at_ count/\(q= []->A=none/\F=0))\/(b=false/\q= []/\qe D M s R [] at_ count/\PN w wr R.x))/\Hid (s.size+1<=at_+k/\at_<=s.size))
  case atStart=>exact⟨0,0,true,[],0,none,0,rfl,rfl,rfl,za rfl,sR,za (.inl rfl),za (.inl ⟨⟨rfl,rfl,rfl,HR.out⟩,fun _=>⟨rfl,rfl⟩⟩),za (by omega)⟩
  case round=>
   obtain⟨at_,count,b,q,r,A,F,rfl,rfl,rfl,u,O,HK,HP,YB⟩:=hrel;have q6:wr.cell? ⟨w.heap.size+1,0,none⟩=some (.slice A r F):=O.out.opn.cell 0;have NL:=O.out.siz;have pc:=O.out.mx;have au:=O.out.le;rcases HP.out with⟨eT,vU⟩|⟨rfl,rfl,hm,hd⟩
   ·obtain⟨gb,hU,Ds,QY,aj⟩:=eT.le;rw[<-u.out]at QY;have Dv:=za eT;have YF:=za vU;have gJ:=za aj;obtain⟨N,Y⟩:∃N,kT s.size q=N:=⟨_,rfl⟩
    rw[Y]at gb hU;have mf:=za Y;obtain⟨⟨l,z,n,e⟩,hH⟩:∃H,hd (s.extract at_ N) (aE D (r+1)) (aF M count)=H:=⟨_,rfl⟩
    have Nb:(s.extract at_ N).size<=4611686018427387904:=by rw[an _ _ _ hU];omega
    have KX:Hid (∀w,Calls prog 179 #[.string (s.extract at_ N),.bool (decide (D'<=r)),.bool (decide (M'<=count))] w fun e' w'=>e'= .returned (.tuple #[.bool l,.int .i64 z,.int .i64 n,.int .i64 e])/\w=w'):=za (fun w=>by
     have h1:decide (D'<=r)=aE D (r+1):=by
      have:=HD.out;unfold aE;rw[yX];simp only[yj,Yk];omega
     have h2:decide (M'<=count)=aF M count:=by
      have:=HM.out;unfold aF;rw[yX];simp only[yj,Yk];omega
     rw[h1,h2];have:=Me (s.extract at_ N) (aE D (r+1)) (aF M count) w Nb;rwa [hH]at this)
    have HH:=za hH;clear eT vU aj Y hH HP Nb;go_upto_region 7 with fail
    go_cut [31] (fun v X=>v= .bool true/\X=wr)
    case first=>
     cases b with
     |true=>
      go_wp2_with fail
      go_meet;case rel=>exact⟨rfl,rfl⟩
     |false=>
      have UN:0<r:=by
       have h1:=gJ.out;have h2:=u.out;cases q with
       |nil=>simp at h1
       |cons f q=>simp at h2;omega
      go_wp2_with fail
      go_meet;case rel=>exact⟨rfl,rfl⟩
    case rest=>
     obtain⟨rfl,rfl⟩:=hcut;go_upto_if 35 with fail
     go_cut [15] (fun v X=>v= .int .i64 N/\X=wc)
     case first=>
      cases b with
      |true=>
       obtain rfl:=gJ.out.1 rfl;obtain rfl:s.size=N:=mf.out;go_wp2_with fail
       go_meet;case rel=>exact⟨rfl,rfl⟩
      |false=>
       match q,HK,mf,gJ,u with
       | [],_,_,h5,_=>have h6:=h5.out.2 rfl;cases h6
       |(acc,en0)::Q6,HK,mf,gJ,u=>
        obtain rfl:en0=N:=mf.out;obtain⟨r,rfl⟩:∃r',r=r'+1:=⟨r-1,by have:=u.out;simp at this;omega⟩
        rcases HK.out with h|⟨g,vs,rfl,c⟩
        ·cases h
        match vs,c with
        | [],c=>exact absurd c.rds.length (by simp)
        |(v0,v1)::vs,c=>
         obtain⟨_,t1,_,_⟩:=c.top;rw[show Q6.length=r from by have:=u.out;simp at this;omega]at t1;dsimp only at t1;clear c;go_wp2_with fail
         go_meet;case rel=>exact⟨rfl,rfl⟩
     case rest=>
      obtain⟨rfl,rfl⟩:=hcut;go_wp2_with fail
      go_quiet ((go_at_call 179;exact qn (KX.out _)))
      obtain⟨B,YG⟩:∃B,wc.drewN nq=B:=⟨_,rfl⟩
      have j:Hid (Gq w B A r F):=za (by rw[<-YG];exact O.out.below (Below.bB (zq _ _) _));have Z:Hid (ry B (w.heap.size+3) A F q):=za (by rw[<-YG];exact HK.out.below (Below.bB (zq _ _) _));have q7:B.cell? ⟨w.heap.size+1,0,none⟩=some (.slice A r F):=j.out.opn.cell 0;have av:=j.out.siz;obtain⟨p0,p1,p2,DO,DP,DQ⟩:=a8 j.out.res;rw[YG];clear q6 NL O HK YG;have Jl:Hid (e≠0->R=Rd.bad (if b then e else within e)):=za (fun he=>Dv.out.err (by rw[mf.out,<-u.out];exact HH.out) he);by_cases WT:e=2
      ·subst WT;cases b with
       |true=>
        have HE:Hid (R=Rd.bad 2):=za (Jl.out (by omega));clear Jl;go_wp2;obtain⟨d0,d1,d2,_⟩:=a8 (dP j.out.res (.string ⟨#[]⟩) (.bool false) (.slice none 0 0));refine zo (v:= .tuple #[.agg #[.string ⟨#[]⟩,.bool false,.slice none 0 0],.int .i64 0,.int .i64 2]) (by simp[results,Yu,go_sem,d0,d1,d2]) rfl ?_;refine⟨((j.out.bel.setCell (by simp) _).setCell (by simp) _).setCell (by simp) _,fun _=> ?_,fun h=> ?_⟩
        ·rw[HE.out];rfl
        rw[HE.out]at h;simp[Rd.bad]at h;try first|omega|exact absurd h aa
       |false=>
        have HE:Hid (R=Rd.bad 3):=za (Jl.out (by omega));clear Jl;go_wp2;obtain⟨d0,d1,d2,_⟩:=a8 (dP j.out.res (.string ⟨#[]⟩) (.bool false) (.slice none 0 0));refine zo (v:= .tuple #[.agg #[.string ⟨#[]⟩,.bool false,.slice none 0 0],.int .i64 0,.int .i64 3]) (by simp[results,Yu,go_sem,d0,d1,d2]) rfl ?_;refine⟨((j.out.bel.setCell (by simp) _).setCell (by simp) _).setCell (by simp) _,fun _=> ?_,fun h=> ?_⟩
        ·rw[HE.out];rfl
        rw[HE.out]at h;simp[Rd.bad]at h;try first|omega|exact absurd h aa
      by_cases aa:e=0
      ·subst aa;clear Jl;have HQ:Hid (hd (s.extract at_ (kT s.size q)) (aE D (q.length+1)) (aF M count)=(l,z,n,0)):=za (by rw[mf.out,<-u.out];exact HH.out);have aH:at_+z+n<=s.size/\1<=z+n/\count+1<=1024/\(l=true->1<=z):=by
        cases l with
        |true=>obtain⟨_,h2,h3,h4⟩:=Dv.out.list HQ.out;exact⟨h2,by omega,h4,fun _=>h3⟩
        |false=>obtain⟨h2,h3,h4,_⟩:=Dv.out.text HQ.out;exact⟨h2,h3,h4,(fun h=>by cases h)⟩
       obtain⟨cg,cG,ay,Nj⟩:=aH;have az:=za Nj;clear KX HH Nj gb hU;go_upto_if 75 with fail
       go_cut [12] (fun v X=>∃(E:Nat) (y:List (List It×Nat)) (K:Nat) (C:Option Addr) (i:Nat),v= .int .i64 E/\Hid (K=y.length)/\Hid (Gq w X C K i)/\Hid (ry X (w.heap.size+3) C i y)/\Hid (qe D M s R y E (count+1)/\(y= []->PN w X R.x))/\Hid (at_<E/\E<=s.size))
       case first=>
        cases l with
        |true=>
         have Vl:((at_+z+n:Nat):Int)=(at_:Int)+z+n:=by omega
         have ah:Hid (af (B.alloc (.cells #[.slice none 0 0,.int .i64 ((at_:Int)+z+n)] 226)) B.heap.size 226 #[.slice none 0 0,.int .i64 ((at_:Int)+z+n)]):=za (af.new B _ _);have aB:=za Vl;have G:Hid (∀o,ry (B.alloc o) (w.heap.size+3) A F q):=za (fun o=>Z.out.below ((zq _ _).alloc (zf _) o));clear Vl;go_wp2_with (at_builtin;refine Hid.out ?_)
         refine za ?_;refine rz (by rfl) (.tmp 76) (.tmp 81) (by rfl) (G.out _) YF.out (by simp;omega) u.out (by rfl) (at_+z+n) B.heap.size (by rfl) (ah.out.cell 0) (by rw[aB.out];exact ah.out.cell 1) QY ?_;intro g' Q7 w3 Dd bS aD Df;have x:Hid (Gq w w3 A r F):=za (j.out.below (((zq _ B).alloc av _).trans bS.out));have q8:w3.cell? ⟨w.heap.size+1,0,none⟩=some (.slice A r F):=x.out.opn.cell 0;have aN:w3.frozen? ⟨w.heap.size+1,0,none⟩=false:=x.out.opn.frozen 0;have HL:=za (Dv.out.list HQ.out);clear bS G ah Z j Dv HQ;go_wp2_with fail
         go_meet;case rel=>
          refine⟨at_+z,([],at_+z+n)::q,r+1,some ⟨g',0,none⟩,Q7,by go_num,za (by rw[u.out];rfl),za (x.out.store aD Df),za (Dd.out.only ((ae.refl [w.heap.size+1] w3).setCell (by simp) _) (by simp)),za ⟨HL.out.1,(fun h=>by cases h)⟩,za ⟨?_, ?_⟩⟩
          ·have:=HL.out.2.2.1;omega
          omega
        |false=>
         obtain⟨_,_,_,M8,Qn⟩:=Dv.out.text HQ.out;have al:=za M8;have Jg:=za Qn;have ao:(s.extract (at_+z) (at_+z+n)).size<=9223372036854775807:=by rw[an _ _ _ cg];omega
         have Dn:Hid (∀(W:World) (S:Nat->Prop),fO W S (.mk (s.extract (at_+z) (at_+z+n)) false []) (.string (s.extract (at_+z) (at_+z+n))) (.bool false) (.slice none 0 0)):=za (fun W S=>fO.text false ao);have e1:((at_:Int)+z).toNat=at_+z:=by omega
         have e2:((at_:Int)+z+n).toNat=at_+z+n:=by omega
         clear M8 Qn HQ ao;cases b with
         |true=>
          obtain rfl:=gJ.out.1 rfl;obtain rfl:r=0:=u.out;obtain⟨rfl,rfl⟩:=YF.out rfl;obtain⟨z0,z1,z2,Re⟩:=j.out.who;have HA:=za (FC B (w.heap.size+1) (w.heap.size+2) none 0 (s.extract (at_+z) (at_+z+n)) false none 0 0 z0 z1 z2 (by omega) j.out.opn Re (by omega));clear Re p0 p1 p2 DO DP DQ Z;go_wp2_with fail
          refine HA.out.mono ?_;rintro e' w3 ⟨rfl,gN,ho⟩;go_wp2_with fail
          go_meet;case rel=>
           have aw:=al.out (by simp);refine⟨at_+z+n,[],0,none,0,by go_num,za rfl,za (j.out.only ho gN),za (.inl rfl),za ⟨?_,fun _=> ?_⟩,za ⟨?_, ?_⟩⟩
           ·rw[aw];exact⟨rfl,rfl⟩
           ·rw[aw];exact⟨_,_,_,gN,Dn.out _ _⟩
           ·omega
           omega
         |false=>
          match q,Z,gJ,u,Jg with
          | [],_,h5,_,_=>have h6:=h5.out.2 rfl;cases h6
          |(acc,en0)::Q6,Z,gJ,u,Jg=>
           rcases Z.out with h|⟨g,vs,rfl,c⟩
           ·cases h
           match vs,c with
           | [],c=>exact absurd c.rds.length (by simp)
           |(v0,v1)::vs,c=>
            obtain rfl:r=Q6.length+1:=u.out;have hm:=(Jg.out acc en0 Q6 rfl)
            have TO:acc.length<=1024:=by
             obtain⟨_,_,_,h4,h5⟩:=hm;simp only[mV,zp,yF]at h4;omega
            have aA:=za hm;have HA:=za (FD B (w.heap.size+3) B.heap.size g F (w.heap.size+1) (w.heap.size+2) acc en0 Q6 v0 v1 vs _ _ _ _ j.out.opn c (Dn.out B _) (by omega));clear c hm p0 p1 p2 DO DP DQ Z Dn al Jg;go_wp2_with fail
            refine HA.out.mono ?_;rintro e' w3 ⟨rfl,bS,Q5,Gw⟩;go_wp2_with fail
            go_meet;case rel=>exact⟨at_+z+n,(acc++ [_],en0)::Q6,Q6.length+1,some ⟨g,0,none⟩,F,by go_num,za rfl,za (j.out.below bS),za (.inr ⟨g,_,rfl,Gw⟩),za ⟨aA.out,(fun h=>by cases h)⟩,za ⟨by omega,by omega⟩⟩
       case rest=>
        obtain⟨E,y,K,C,i,rfl,L,x,G,I,U⟩:=hcut;have ad:Hid (s.size+1<=E+(gk-1)/\E<=s.size/\1<=gk):=za (by have:=U.out;have:=YB.out;omega);clear q7 av p0 p1 p2 DO DP DQ j Z HQ Dv YF gJ mf YB U u az pc au Ds QY cg cG;obtain⟨ct,wF⟩:∃ct,count+1=ct:=⟨_,rfl⟩
        have R5:Hid ((count:Int)+1=ct):=za (by omega);rw[wF]at I ay;clear wF;go_wp2_with fail
        obtain⟨gO,rfl⟩:∃g:Nat,g=gk:=⟨_,rfl⟩
        go_loopg [] (y.length) (fun k wr=>∃(y:List (List It×Nat)) (K:Nat) (C:Option Addr) (i:Nat),Hid (K=y.length)/\Hid (Gq w wr C K i)/\Hid (ry wr (w.heap.size+3) C i y)/\Hid (qe D M s R y E ct/\(y= []->PN w wr R.x))/\Hid (y.length<=k))
        case atStart=>exact⟨y,K,C,i,L,x,G,I,za (zf _)⟩
        case round=>
         clear L x G I;obtain⟨y,K,C,i,L,x,G,I,U⟩:=hrel;have q6:wr.cell? ⟨w.heap.size+1,0,none⟩=some (.slice C K i):=x.out.opn.cell 0;have aM:wr.frozen? ⟨w.heap.size+1,0,none⟩=false:=x.out.opn.frozen 0;have pc:=x.out.mx;have au:=x.out.le;have NL:=x.out.siz;have ai:gO-1<gO:=by have:=ad.out;omega
         match y,L,G,I,U with
         | [],L,G,I,U=>
          obtain rfl:K=0:=L.out;go_wp2;go_roundg (gO-1)
          case measure=>exact ai
          case rel=>exact⟨E,ct,false,[],0,C,i,rfl,by rw[R5.out],rfl,za rfl,x,G,za (.inr ⟨rfl,rfl,I.out.1,I.out.2 (by simp)⟩),za ⟨ad.out.1,ad.out.2.1⟩⟩
         |(acc,ag)::fs3,L,G,I,U=>
          obtain⟨J,qH⟩:∃J,fs3.length=J:=⟨_,rfl⟩
          obtain rfl:K=J+1:=by rw[<-qH];exact L.out
          rcases G.out with h|⟨g,vs,rfl,c⟩
          ·cases h
          match vs,c with
          | [],c=>exact absurd c.rds.length (by simp)
          |(v0,v1)::vs,c=>
           have ax:=za c;obtain⟨t0,t1,_,_⟩:=c.top;rw[qH]at t0 t1;dsimp only at t0 t1;have ab:=za qH;clear c qH;by_cases Y:ag=E
           ·subst Y;obtain⟨m,eH,rF,hF,Vm⟩:=ax.out.pop;have aP:=I.out.1.len;obtain⟨A4,Dr,rfl,aI,aO,rM⟩:=hF.list (by omega);obtain⟨n4,RW⟩:∃n4,acc.length=n4:=⟨_,rfl⟩
            rw[RW]at t0 aI;have YA:=za I.out.1;have Gk:Hid (ae [w.heap.size+1] wr (wr.setCell ⟨w.heap.size+1,0,none⟩ (.slice (some ⟨g,0,none⟩) J i))):=za ((ae.refl [w.heap.size+1] wr).setCell (by simp) _);have Jf:Hid (Gq w (wr.setCell ⟨w.heap.size+1,0,none⟩ (.slice (some ⟨g,0,none⟩) J i)) (some ⟨g,0,none⟩) J i):=za (x.out.store (by omega) pc);have GD:Hid (fO (wr.setCell ⟨w.heap.size+1,0,none⟩ (.slice (some ⟨g,0,none⟩) J i)) (fun k=>m<=k/\lX (wr.setCell ⟨w.heap.size+1,0,none⟩ (.slice (some ⟨g,0,none⟩) J i)) k) (gD acc) (.string ⟨#[]⟩) (.bool true) (.slice A4 n4 n4)):=za (by
             have h1:=rM n4 (by omega) (by omega);rw[RW]at h1;refine fO.ah (fun k hk hS=>⟨hS.1,hS.2.of_eq (Gk.out.block k hk (by simp;omega))⟩) (fun p hp hS=>Gk.out.cell hp (by simp;omega)) _ h1)
            have fT:=za eH;clear rM hF RW eH rF;match fs3,vs,Vm,ab,YA with
            | [],vs,Vm,ab,YA=>
             obtain rfl:J=0:=ab.out.symm;obtain⟨z0,z1,z2,Re⟩:=Jf.out.who;have HA:=za (FC _ (w.heap.size+1) (w.heap.size+2) (some ⟨g,0,none⟩) i ⟨#[]⟩ true A4 n4 n4 z0 z1 z2 pc Jf.out.opn Re (by omega));have ak:=za YA.out.done;clear Re Vm;go_wp2_with fail
             refine HA.out.mono ?_;rintro e' w3 ⟨rfl,gN,ho⟩;go_wp2;go_roundg (gk-1)
             case measure=>have:=U.out;simp at this;omega
             case rel=>
              refine⟨[],0,some ⟨g,0,none⟩,i,za rfl,za (Jf.out.only ho gN),za (.inl rfl),za ⟨?_,fun _=> ?_⟩,za (by simp)⟩
              ·rw[ak.out];exact⟨rfl,rfl⟩
              rw[ak.out];refine⟨_,_,_,gN,GD.out.only ho (fun k hk hS=> ?_) (fun k _ h=> ?_)⟩
              ·have h1:=fT.out;have h2:=hS.1;simp at hk;omega
              have:=fT.out;exact zK this h.1
            |(qw,Vj)::fs4,[],Vm,_,_=>exact absurd Vm.rds.length (by simp)
            |(qw,Vj)::fs4,(u0,u1)::vs4,Vm,ab,YA=>
             obtain rfl:J=fs4.length+1:=ab.out.symm;have ql:=YA.out.close;have aq:=ql.len;simp only[zp,yF]at aq;have NK:=za ql;have ar:=Vm.only Gk.out (by simp);have HA:=za (FD _ (w.heap.size+3) m g i (w.heap.size+1) (w.heap.size+2) qw Vj fs4 u0 u1 vs4 _ _ _ _ Jf.out.opn ar GD.out (by omega));clear ql aq ar Vm;go_wp2_with fail
             refine HA.out.mono ?_;rintro e' w3 ⟨rfl,bS,Q5,aK⟩;go_wp2;go_roundg (gk-1)
             case measure=>have:=U.out;simp at this;omega
             case rel=>exact⟨(qw++ [gD acc],Vj)::fs4,fs4.length+1,some ⟨g,0,none⟩,i,za rfl,za (Jf.out.below bS),za (.inr ⟨g,_,rfl,aK⟩),za ⟨NK.out,(fun h=>by cases h)⟩,za (by have:=U.out;simp at this⊢;omega)⟩
           have k1:((ag:Int)==(E:Int))=false:=zr.2 (by omega);have k2:(ag==E)=false:=zr.2 Y;have tN:=za (I.out.1.next Y);clear Y;go_wp2;go_roundg (gO-1)
           case measure=>exact ai
           case rel=>exact⟨E,ct,false,(acc,ag)::fs3,J+1,some ⟨g,0,none⟩,i,rfl,by rw[R5.out],rfl,L,x,G,za (.inl ⟨tN.out,(fun h=>by cases h)⟩),za ⟨ad.out.1,ad.out.2.1⟩⟩
      have k2:(e==2)=false:=zr.2 WT;have k0:(e !=0)=true:=by simp[aa]
      have HE:Hid (R=Rd.bad e):=za (by
       have:=Jl.out aa;rw[this];cases b
       ·simp[within,WT]
       simp)
      clear Jl;go_wp2;obtain⟨d0,d1,d2,_⟩:=a8 (dP j.out.res (.string ⟨#[]⟩) (.bool false) (.slice none 0 0));refine zo (v:= .tuple #[.agg #[.string ⟨#[]⟩,.bool false,.slice none 0 0],.int .i64 0,.int .i64 e]) (by simp[results,Yu,go_sem,d0,d1,d2]) rfl ?_;refine⟨((j.out.bel.setCell (by simp) _).setCell (by simp) _).setCell (by simp) _,fun _=> ?_,fun h=> ?_⟩
      ·rw[HE.out];rfl
      rw[HE.out]at h;simp[Rd.bad]at h;try first|omega|exact absurd h aa
   obtain rfl:r=0:=u.out;obtain⟨he,rfl⟩:=hm;obtain⟨c0,c1,c2,aC,rM⟩:=hd;obtain⟨C,k2,rfl,rfl,rfl,_⟩:=rM.open_;obtain⟨g0,g1,g2,_⟩:=a8 aC;obtain⟨p0,p1,p2,DO,DP,DQ⟩:=a8 O.out.res;clear HP;go_wp2;obtain⟨d0,d1,d2,_⟩:=a8 (dP O.out.res (.string R.x.text) (.bool R.x.list) (.slice C R.x.sub.length k2));refine zo (v:= .tuple #[.agg #[.string R.x.text,.bool R.x.list,.slice C R.x.sub.length k2],.int .i64 R.size,.int .i64 0]) (by simp[results,Yu,go_sem,d0,d1,d2]) rfl ?_;refine⟨((O.out.bel.setCell (by simp) _).setCell (by simp) _).setCell (by simp) _,fun h=>absurd he h,fun _=>⟨_,_,_,rfl, ?_⟩⟩;exact rM.only ((((ae.refl [w.heap.size] wr).setCell (by simp) _).setCell (by simp) _).setCell (by simp) _) (by simp) (fun k _ h=>by omega)
theorem PR (s:ByteArray)(D M:Int)(w:World)(hs:s.size<=4611686018427387904):
 Calls prog 95 #[.string s,.int .i64 D,.int .i64 M] w fun e w'=>uV w w' (iG D M s) (lq D M s) e:=by
 obtain⟨H,B⟩:∃H,w.alloc (.cells #[.string ⟨#[]⟩,.bool false,.slice none 0 0] 28)=H:=⟨_,rfl⟩
 obtain⟨U,K,O⟩:=afi B.symm;have z:=za (Mx s D M H hs);have o:Hid (lq D M s=if(bp D M s 1 0).e≠0 then(bp D M s 1 0).e else if(bp D M s 1 0).size<s.size then 3 else 0):=za rfl;have n:Hid (iG D M s=if lq D M s≠0 then iU else(bp D M s 1 0).x):=za rfl;generalize iG D M s=X at*;generalize lq D M s=E at*;generalize bp D M s 1 0=aa at*;obtain⟨x,size,items,m⟩:=aa;have F:=za U;have l:=za K;have G:=za O;have C:=za B;clear U K O B;by_cases p:m=0
 ·subst p;by_cases Y:size<s.size
  ·have i:Hid (E=3/\X=iU):=za (by
    have r:E=3:=by rw[o.out,zj (by simp),zl Y]
    exact⟨r,by rw[n.out,zl (by omega)]⟩)
   clear o n;go_enter func95,ntmps95
   go_wp2_with fail
   rw[C.out];refine z.out.mono ?_;rintro e d ⟨b,_,hx⟩;obtain⟨c0,c1,c2,rfl,j⟩:=hx rfl;obtain⟨A,k,rfl,rfl,rfl,_⟩:=j.open_;have W:=za j;clear j;have c:=G.out.ah b (by have:=l.out;omega);have hz:=b.size;have q:=l.out;obtain⟨J,S,I,R,L,N⟩:=a8 c;have u:=za c;have y:Hid (Below w.heap.size w d):=za (F.out.trans (b.mono (by omega)));have Z:w.heap.size<d.heap.size:=by omega
   clear c b hx hz q;go_wp2;obtain⟨d0,d1,d2,_⟩:=a8 ((dP u.out (.string ⟨#[]⟩) (.bool false) (.slice none 0 0)).alloc (.cells #[.string x.text,.bool x.list,.slice A x.sub.length k] 28));refine zo (v:= .tuple #[.agg #[(.string ⟨#[]⟩),(.bool false),(.slice none 0 0)],.int .i64 3]) (by simp[results,results95,go_sem,d0,d1,d2]) rfl ?_;rw[i.out.1,i.out.2];refine⟨(((y.out.setCell (by simp) _).setCell (by simp) _).setCell (by simp) _).alloc (by simp[World.setCell];omega) _,_,_,_,rfl, ?_⟩;exact mS _ _
  have i:Hid (E=0/\X=x):=za (by
   have r:E=0:=by rw[o.out,zj (by simp),zj Y]
   exact⟨r,by rw[n.out,zj (by omega)]⟩)
  clear o n;go_enter func95,ntmps95
  go_wp2_with fail
  rw[C.out];refine z.out.mono ?_;rintro e d ⟨b,_,hx⟩;obtain⟨c0,c1,c2,rfl,j⟩:=hx rfl;obtain⟨A,k,rfl,rfl,rfl,_⟩:=j.open_;have W:=za j;clear j;have c:=G.out.ah b (by have:=l.out;omega);have hz:=b.size;have q:=l.out;obtain⟨J,S,I,R,L,N⟩:=a8 c;have u:=za c;have y:Hid (Below w.heap.size w d):=za (F.out.trans (b.mono (by omega)));have Z:w.heap.size<d.heap.size:=by omega
  clear c b hx hz q;go_wp2;obtain⟨d0,d1,d2,_⟩:=a8 ((dP u.out (.string x.text) (.bool x.list) (.slice A x.sub.length k)).alloc (.cells #[.string x.text,.bool x.list,.slice A x.sub.length k] 28));refine zo (v:= .tuple #[.agg #[(.string x.text),(.bool x.list),(.slice A x.sub.length k)],.int .i64 0]) (by simp[results,results95,go_sem,d0,d1,d2]) rfl ?_;rw[i.out.1,i.out.2];refine⟨(((y.out.setCell (by simp) _).setCell (by simp) _).setCell (by simp) _).alloc (by simp[World.setCell];omega) _,_,_,_,rfl, ?_⟩;have:=l.out;exact W.out.only (((((ae.refl [w.heap.size] d).setCell (by simp) _).setCell (by simp) _).setCell (by simp) _).alloc _) (by simp;omega) (fun k _ h=>by omega)
 have i:Hid (E=m/\X=iU):=za (by
  have r:E=m:=by rw[o.out,zl p]
  exact⟨r,by rw[n.out,zl (by omega)]⟩)
 have k0:(m==0)=false:=zr.2 p;have k1:(m !=0)=true:=by simp[p]
 have H0:=za p;clear o n p;go_enter func95,ntmps95
 go_wp2_with fail
 rw[C.out];refine z.out.mono ?_;rintro e d ⟨b,hx,_⟩;obtain rfl:=hx H0.out;dsimp only;have c:=G.out.ah b (by have:=l.out;omega);have hz:=b.size;have q:=l.out;obtain⟨J,S,I,R,L,N⟩:=a8 c;have u:=za c;have y:Hid (Below w.heap.size w d):=za (F.out.trans (b.mono (by omega)));have Z:w.heap.size<d.heap.size:=by omega
 clear c b hx hz q;go_wp2;obtain⟨d0,d1,d2,_⟩:=a8 ((dP u.out (.string ⟨#[]⟩) (.bool false) (.slice none 0 0)).alloc (.cells #[.string ⟨#[]⟩,.bool false,.slice none 0 0] 28));refine zo (v:= .tuple #[.agg #[.string ⟨#[]⟩,.bool false,.slice none 0 0],.int .i64 m]) (by simp[results,results95,go_sem,d0,d1,d2]) rfl ?_;rw[i.out.1,i.out.2];refine⟨(((y.out.setCell (by simp) _).setCell (by simp) _).setCell (by simp) _).alloc (by simp[World.setCell];omega) _,_,_,_,rfl, ?_⟩;exact mS _ _
