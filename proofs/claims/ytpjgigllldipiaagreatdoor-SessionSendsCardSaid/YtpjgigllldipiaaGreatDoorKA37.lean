/- rlp.Next tells rdItem. -/
import Derived.Test.YtpjgigllldipiaaGreatDoorKA33
import Derived.Test.YtpjgigllldipiaaGreatDoorKA17
import Derived.Deep.DeepCutAuto
set_option linter.all false
set_option maxRecDepth 100000
set_option maxHeartbeats 4000000
namespace Go.Proofs.YtpjgigllldipiaaGreatDoor
open Go.RowKit
def Yw:=@Tryz.results136
theorem TD :(Tryz.prog.info? 226).map (fun i=>(i.zero,i.size,i.bytes))=some (some (.agg #[.slice none 0 0,.int .i64 0]),2,32):=by kernel_rfl
theorem rF {w:World}{ops:Array Oper}{rest:List Oper}{o:Oper}{a:Act}{Q:Exit->Act->World->Prop}(F:o.guard=none)(s x:Operand)
 (L:o.op= .call {callee:= .builtin .append,args:= #[s,x],argTypes:= #[223,223]}) {c p n:Nat} {A:Option Addr} {h:List (List It×Nat)} (R:rE w c A p h) (U:h= []->A=none/\p=0) (e:c<=w.heap.size) (X:n=h.length)
 (C:a.eval s= .slice A n p) (d:Nat) (B:Nat) (hx:a.eval x= .slice (some ⟨B,0,none⟩) 1 1) (M:w.cell? ⟨B,0,none⟩=some (.slice none 0 0)) (N:w.cell? ⟨B,1,none⟩=some (.int .i64 d)) (Z:n<=1024)
 (I:∀b m w',Hid (rE w' c (some ⟨b,0,none⟩) m (([],d)::h))->Hid (Below c w w')->n+1<=m->m<=9223372036854775807->wpList Tryz.prog ops Q rest (a.put o.dst (.slice (some ⟨b,0,none⟩) (n+1) m)) w'):wpList Tryz.prog ops Q (o::rest) a w:=by
 subst X;obtain⟨i1,K,G,H,D⟩:=yQ TD;have J:∀(j:Nat) (u:Value),([.slice none 0 0,.int .i64 d]:List Value)[j]?=some u->w.cell? ((⟨B,0,none⟩:Addr).add j)=some u:=by
  intro j u hu;have S:∀j,(⟨B,0,none⟩:Addr).add j=⟨B,j,none⟩:=by intro j;unfold Addr.add;split<;>simp_all
  rw[S];match j,hu with
  |0,hu=>simp at hu;subst hu;exact M
  |1,hu=>simp at hu;subst hu;exact N
 have E:∀u∈([.slice none 0 0,.int .i64 d]:List Value),u.oneCell'=true:=by
  intro u hu;simp at hu;rcases hu with rfl|rfl<;>rfl
 rcases R with rfl|⟨g,vs,rfl,hR⟩
 ·obtain⟨rfl,rfl⟩:=U rfl;refine xm w F s x 223 L c 226 i1 _ 2 32 Tryz.underlying223 K G H D rfl (by decide) _ 0 [] C (World.ownsRow_nil _ _ _ _) ⟨B,0,none⟩ 1 1 [.slice none 0 0,.int .i64 d] hx rfl J E (by decide) (by simp only[maxLen];omega) (by omega) e w.heap.size rfl ?_;intro b y w' l i W Y;obtain⟨_,_,z,q,_⟩:=dD l;exact I b y w' (za (.inr ⟨b,_,rfl,sL.first d l (zP e i.size)⟩)) (za ((zq c w).grown i e (fun k r=>by cases r))) z q
 obtain⟨O,o7,_⟩:=hR.block;refine xm w F s x 223 L c 226 i1 _ 2 32 Tryz.underlying223 K G H D rfl (by decide) _ h.length (dS vs) C hR.row ⟨B,0,none⟩ 1 1 [.slice none 0 0,.int .i64 d] hx rfl J E (by decide) (by simp only[maxLen];omega) (by omega) e w.heap.size rfl ?_;intro b y w' l i W Y;obtain⟨_,_,z,q,_⟩:=dD l;exact I b y w' (za (.inr ⟨b,_,rfl,hR.push d l i e⟩)) (za ((zq c w).grown i e (fun k r=>(show g=k by simpa[Value.ownBlock]using r)▸O))) z q
theorem qn {P:Program}{f:FuncId}{args:Array Value}{w:World}{n:Nat}{v:Value}(h:Calls P f args (w.drewN n) fun e w'=>e= .returned v/\w.drewN n=w'):
 Calls P f args (w.drewN n) fun e d=>e= .returned v/\∃m,d=w.drewN m:=h.mono fun _ _ ⟨b,c⟩=>⟨b,n,c.symm⟩
def abQ (w w':World)(R:Rd)(e:Ending):Prop:=
 Below w.heap.size w w'/\(R.e≠0->e= .returned (.tuple #[.agg #[.string ⟨#[]⟩,.bool false,.slice none 0 0],.int .i64 0,.int .i64 R.e]))/\
 (R.e=0->∃c0 c1 c2,e= .returned (.tuple #[.agg #[c0,c1,c2],.int .i64 R.size,.int .i64 0])/\fV w' (w.heap.size<= ·) R.x c0 c1 c2)
theorem MT (s:ByteArray)(D M:Int)(w:World)(hs:s.size<=4611686018427387904):
 Calls Tryz.prog 136 #[.string s,.int .i64 D,.int .i64 M] w fun e w'=>abQ w w' (bp D M s 1 0) e:=by
 obtain⟨R,c⟩:∃R,bp D M s 1 0=R:=⟨_,rfl⟩
 rw[c];have HR:=za c;clear c;go_enter Tryz.func136,Tryz.ntmps136
 go_upto_region 4 with fail
 go_cut [1,2] (fun d m X=>∃D' M':Int,d= .int .i64 D'/\m= .int .i64 M'/\Hid (D'=min D 16)/\Hid (M'=min M 1024)/\X=((w.alloc (.cells #[.string ⟨#[]⟩,.bool false,.slice none 0 0] 28)).alloc (.cells #[.slice none 0 0] 223)).alloc (.cells #[.string ⟨#[]⟩,.bool false,.slice none 0 0] 28))
 case first=>
  go_wp2_with fail
  all_goals
   go_meet;case rel=>exact⟨_,_,rfl,rfl,za (by omega),za (by omega),rfl⟩
 case rest=>
  obtain⟨D',M',rfl,rfl,HD,HM,rfl⟩:=hcut;obtain⟨W0,cC⟩:∃W0,((w.alloc (.cells #[.string ⟨#[]⟩,.bool false,.slice none 0 0] 28)).alloc (.cells #[.slice none 0 0] 223)).alloc (.cells #[.string ⟨#[]⟩,.bool false,.slice none 0 0] 28)=W0:=⟨_,rfl⟩
  have sY:Hid (GC w W0 none 0 0):=za (by
   rw[<-cC];refine⟨((af.new w _ _).alloc _).alloc _, ?_,⟨.string ⟨#[]⟩,.bool false,.slice none 0 0, ?_⟩,(((zq _ w).alloc (zi _) _).alloc (by simp) _).alloc (by simp;omega) _,by simp,zi _,by omega⟩
   ·have:=(af.new (w.alloc (.cells #[.string ⟨#[]⟩,.bool false,.slice none 0 0] 28)) 223 #[.slice none 0 0]).alloc (.cells #[.string ⟨#[]⟩,.bool false,.slice none 0 0] 28);simpa using this
   have:=af.new ((w.alloc (.cells #[.string ⟨#[]⟩,.bool false,.slice none 0 0] 28)).alloc (.cells #[.slice none 0 0] 223)) 28 #[.string ⟨#[]⟩,.bool false,.slice none 0 0];simpa using this)
  rw[cC];clear cC;go_wp2_with fail
  go_loopg [12,13,14] (s.size+1) (fun k aw ay az wr=>∃(at_ count:Nat) (b:Bool) (q:List (List It×Nat)) (r:Nat) (A:Option Addr) (F:Nat),aw= .int .i64 at_/\ay= .int .i64 count/\az= .bool b/\Hid (r=q.length)/\Hid (GC w wr A r F)/\Hid (rE wr (w.heap.size+3) A F q)/\Hid ((rC D M s R b q at_ count/\(q= []->A=none/\F=0))\/(b=false/\q= []/\qm D M s R [] at_ count/\P9 w wr R.x))/\Hid (s.size+1<=at_+k/\at_<=s.size))
  case atStart=>exact⟨0,0,true,[],0,none,0,rfl,rfl,rfl,za rfl,sY,za (.inl rfl),za (.inl ⟨⟨rfl,rfl,rfl,HR.out⟩,fun _=>⟨rfl,rfl⟩⟩),za (by omega)⟩
  case round=>
   obtain⟨at_,count,b,q,r,A,F,rfl,rfl,rfl,u,O,HK,HP,Ru⟩:=hrel;have q6:wr.cell? ⟨w.heap.size+1,0,none⟩=some (.slice A r F):=O.out.opn.cell 0;have N6:=O.out.siz;have ph:=O.out.mx;have ai:=O.out.le;rcases HP.out with⟨eZ,wv⟩|⟨rfl,rfl,hm,hd⟩
   ·obtain⟨gu,ia,DA,Rk,aj⟩:=eZ.le;rw[<-u.out]at Rk;have DD:=za eZ;have Y4:=za wv;have Y:=za aj;obtain⟨L,qv⟩:∃L,kZ s.size q=L:=⟨_,rfl⟩
    rw[qv]at gu ia;have mn:=za qv;obtain⟨⟨l,z,n,e⟩,hH⟩:∃H,hd (s.extract at_ L) (aE D (r+1)) (aF M count)=H:=⟨_,rfl⟩
    have Nv:(s.extract at_ L).size<=4611686018427387904:=by rw[an _ _ _ ia];omega
    have Lm:Hid (∀w,Calls Tryz.prog 179 #[.string (s.extract at_ L),.bool (decide (D'<=r)),.bool (decide (M'<=count))] w fun e' w'=>e'= .returned (.tuple #[.bool l,.int .i64 z,.int .i64 n,.int .i64 e])/\w=w'):=za (fun w=>by
     have h1:decide (D'<=r)=aE D (r+1):=by
      have:=HD.out;unfold aE;rw[yY];simp only[yk,Bool.or_eq_true];omega
     have h2:decide (M'<=count)=aF M count:=by
      have:=HM.out;unfold aF;rw[yY];simp only[yk,Bool.or_eq_true];omega
     rw[h1,h2];have:=MA (s.extract at_ L) (aE D (r+1)) (aF M count) w Nv;rwa [hH]at this)
    have HH:=za hH;clear eZ wv aj qv hH HP Nv;go_upto_region 7 with fail
    go_cut [31] (fun v X=>v= .bool true/\X=wr)
    case first=>
     cases b with
     |true=>
      go_wp2_with fail
      go_meet;case rel=>exact⟨rfl,rfl⟩
     |false=>
      have U':0<r:=by
       have h1:=Y.out;have h2:=u.out;cases q with
       |nil=>simp at h1
       |cons f q=>simp at h2;omega
      go_wp2_with fail
      go_meet;case rel=>exact⟨rfl,rfl⟩
    case rest=>
     obtain⟨rfl,rfl⟩:=hcut;go_upto_if 35 with fail
     go_cut [15] (fun v X=>v= .int .i64 L/\X=wc)
     case first=>
      cases b with
      |true=>
       obtain rfl:=Y.out.1 rfl;obtain rfl:s.size=L:=mn.out;go_wp2_with fail
       go_meet;case rel=>exact⟨rfl,rfl⟩
      |false=>
       match q,HK,mn,Y,u with
       | [],_,_,h5,_=>have h6:=h5.out.2 rfl;cases h6
       |(acc,en0)::Ro,HK,mn,Y,u=>
        obtain rfl:en0=L:=mn.out;obtain⟨r,rfl⟩:∃r',r=r'+1:=⟨r-1,by have:=u.out;simp at this;omega⟩
        rcases HK.out with h|⟨g,vs,rfl,c⟩
        ·cases h
        match vs,c with
        | [],c=>exact absurd c.rds.length (by simp)
        |(v0,v1)::vs,c=>
         obtain⟨_,t1,_,_⟩:=c.top;rw[show Ro.length=r from by have:=u.out;simp at this;omega]at t1;dsimp only at t1;clear c;go_wp2_with fail
         go_meet;case rel=>exact⟨rfl,rfl⟩
     case rest=>
      obtain⟨rfl,rfl⟩:=hcut;go_wp2_with fail
      go_quiet ((go_at_call 179;exact qn (Lm.out _)))
      obtain⟨y,Y5⟩:∃y,wc.drewN nq=y:=⟨_,rfl⟩
      have j:Hid (GC w y A r F):=za (by rw[<-Y5];exact O.out.below (Below.bE (zq _ _) _));have Z:Hid (rE y (w.heap.size+3) A F q):=za (by rw[<-Y5];exact HK.out.below (Below.bE (zq _ _) _));have q7:y.cell? ⟨w.heap.size+1,0,none⟩=some (.slice A r F):=j.out.opn.cell 0;have au:=j.out.siz;obtain⟨p0,p1,p2,DY,DZ,D0⟩:=a8 j.out.res;rw[Y5];clear q6 N6 O HK Y5;have JD:Hid (e≠0->R=Rd.bad (if b then e else within e)):=za (fun he=>DD.out.err (by rw[mn.out,<-u.out];exact HH.out) he);by_cases Xr:e=2
      ·subst Xr;cases b with
       |true=>
        have HE:Hid (R=Rd.bad 2):=za (JD.out (by omega));clear JD;go_wp2;obtain⟨d0,d1,d2,_⟩:=a8 (dV j.out.res (.string ⟨#[]⟩) (.bool false) (.slice none 0 0));refine zp (v:= .tuple #[.agg #[.string ⟨#[]⟩,.bool false,.slice none 0 0],.int .i64 0,.int .i64 2]) (by simp[results,Yw,go_sem,d0,d1,d2]) rfl ?_;refine⟨((j.out.bel.setCell (by simp) _).setCell (by simp) _).setCell (by simp) _,fun _=> ?_,fun h=> ?_⟩
        ·rw[HE.out];rfl
        rw[HE.out]at h;simp[Rd.bad]at h;try first|omega|exact absurd h aa
       |false=>
        have HE:Hid (R=Rd.bad 3):=za (JD.out (by omega));clear JD;go_wp2;obtain⟨d0,d1,d2,_⟩:=a8 (dV j.out.res (.string ⟨#[]⟩) (.bool false) (.slice none 0 0));refine zp (v:= .tuple #[.agg #[.string ⟨#[]⟩,.bool false,.slice none 0 0],.int .i64 0,.int .i64 3]) (by simp[results,Yw,go_sem,d0,d1,d2]) rfl ?_;refine⟨((j.out.bel.setCell (by simp) _).setCell (by simp) _).setCell (by simp) _,fun _=> ?_,fun h=> ?_⟩
        ·rw[HE.out];rfl
        rw[HE.out]at h;simp[Rd.bad]at h;try first|omega|exact absurd h aa
      by_cases aa:e=0
      ·subst aa;clear JD;have HQ:Hid (hd (s.extract at_ (kZ s.size q)) (aE D (q.length+1)) (aF M count)=(l,z,n,0)):=za (by rw[mn.out,<-u.out];exact HH.out);have aI:at_+z+n<=s.size/\1<=z+n/\count+1<=1024/\(l=true->1<=z):=by
        cases l with
        |true=>obtain⟨_,h2,h3,h4⟩:=DD.out.list HQ.out;exact⟨h2,by omega,h4,fun _=>h3⟩
        |false=>obtain⟨h2,h3,h4,_⟩:=DD.out.text HQ.out;exact⟨h2,h3,h4,(fun h=>by cases h)⟩
       obtain⟨cc,cA,aG,NF⟩:=aI;have aA:=za NF;clear Lm HH NF gu ia;go_upto_if 75 with fail
       go_cut [12] (fun v X=>∃(C:Nat) (x:List (List It×Nat)) (K:Nat) (E:Option Addr) (i:Nat),v= .int .i64 C/\Hid (K=x.length)/\Hid (GC w X E K i)/\Hid (rE X (w.heap.size+3) E i x)/\Hid (qm D M s R x C (count+1)/\(x= []->P9 w X R.x))/\Hid (at_<C/\C<=s.size))
       case first=>
        cases l with
        |true=>
         have VM:((at_+z+n:Nat):Int)=(at_:Int)+z+n:=by omega
         have VJ:Hid (af (y.alloc (.cells #[.slice none 0 0,.int .i64 ((at_:Int)+z+n)] 226)) y.heap.size 226 #[.slice none 0 0,.int .i64 ((at_:Int)+z+n)]):=za (af.new y _ _);have aB:=za VM;have I:Hid (∀o,rE (y.alloc o) (w.heap.size+3) A F q):=za (fun o=>Z.out.below ((zq _ _).alloc (zi _) o));clear VM;go_wp2_with (at_builtin;refine Hid.out ?_)
         refine za ?_;refine rF (by rfl) (.tmp 76) (.tmp 81) (by rfl) (I.out _) Y4.out (by simp;omega) u.out (by rfl) (at_+z+n) y.heap.size (by rfl) (VJ.out.cell 0) (by rw[aB.out];exact VJ.out.cell 1) Rk ?_;intro g' Rp w3 Dl bS aC Dn;have B:Hid (GC w w3 A r F):=za (j.out.below (((zq _ y).alloc au _).trans bS.out));have q8:w3.cell? ⟨w.heap.size+1,0,none⟩=some (.slice A r F):=B.out.opn.cell 0;have aO:w3.frozen? ⟨w.heap.size+1,0,none⟩=false:=B.out.opn.frozen 0;have HL:=za (DD.out.list HQ.out);clear bS I VJ Z j DD HQ;go_wp2_with fail
         go_meet;case rel=>
          refine⟨at_+z,([],at_+z+n)::q,r+1,some ⟨g',0,none⟩,Rp,by go_num,za (by rw[u.out];rfl),za (B.out.store aC Dn),za (Dl.out.only ((ae.refl [w.heap.size+1] w3).setCell (by simp) _) (by simp)),za ⟨HL.out.1,(fun h=>by cases h)⟩,za ⟨?_, ?_⟩⟩
          ·have:=HL.out.2.2.1;omega
          omega
        |false=>
         obtain⟨_,_,_,Nu,QD⟩:=DD.out.text HQ.out;have ak:=za Nu;have Oa:=za QD;have ah:(s.extract (at_+z) (at_+z+n)).size<=9223372036854775807:=by rw[an _ _ _ cc];omega
         have Dw:Hid (∀(W:World) (S:Nat->Prop),fV W S (.mk (s.extract (at_+z) (at_+z+n)) false []) (.string (s.extract (at_+z) (at_+z+n))) (.bool false) (.slice none 0 0)):=za (fun W S=>fV.text false ah);have e1:((at_:Int)+z).toNat=at_+z:=by omega
         have e2:((at_:Int)+z+n).toNat=at_+z+n:=by omega
         clear Nu QD HQ ah;cases b with
         |true=>
          obtain rfl:=Y.out.1 rfl;obtain rfl:r=0:=u.out;obtain⟨rfl,rfl⟩:=Y4.out rfl;obtain⟨z0,z1,z2,Rw⟩:=j.out.who;have HA:=za (FJ y (w.heap.size+1) (w.heap.size+2) none 0 (s.extract (at_+z) (at_+z+n)) false none 0 0 z0 z1 z2 (by omega) j.out.opn Rw (by omega));clear Rw p0 p1 p2 DY DZ D0 Z;go_wp2_with fail
          refine HA.out.mono ?_;rintro e' w3 ⟨rfl,gS,ho⟩;go_wp2_with fail
          go_meet;case rel=>
           have aq:=ak.out (by simp);refine⟨at_+z+n,[],0,none,0,by go_num,za rfl,za (j.out.only ho gS),za (.inl rfl),za ⟨?_,fun _=> ?_⟩,za ⟨?_, ?_⟩⟩
           ·rw[aq];exact⟨rfl,rfl⟩
           ·rw[aq];exact⟨_,_,_,gS,Dw.out _ _⟩
           ·omega
           omega
         |false=>
          match q,Z,Y,u,Oa with
          | [],_,h5,_,_=>have h6:=h5.out.2 rfl;cases h6
          |(acc,en0)::Ro,Z,Y,u,Oa=>
           rcases Z.out with h|⟨g,vs,rfl,c⟩
           ·cases h
           match vs,c with
           | [],c=>exact absurd c.rds.length (by simp)
           |(v0,v1)::vs,c=>
            obtain rfl:r=Ro.length+1:=u.out;have hm:=(Oa.out acc en0 Ro rfl)
            have T2:acc.length<=1024:=by
             obtain⟨_,_,_,h4,h5⟩:=hm;simp only[nf,zo,yF]at h4;omega
            have aK:=za hm;have HA:=za (FK y (w.heap.size+3) y.heap.size g F (w.heap.size+1) (w.heap.size+2) acc en0 Ro v0 v1 vs _ _ _ _ j.out.opn c (Dw.out y _) (by omega));clear c hm p0 p1 p2 DY DZ D0 Z Dw ak Oa;go_wp2_with fail
            refine HA.out.mono ?_;rintro e' w3 ⟨rfl,bS,Rn,GK⟩;go_wp2_with fail
            go_meet;case rel=>exact⟨at_+z+n,(acc++ [_],en0)::Ro,Ro.length+1,some ⟨g,0,none⟩,F,by go_num,za rfl,za (j.out.below bS),za (.inr ⟨g,_,rfl,GK⟩),za ⟨aK.out,(fun h=>by cases h)⟩,za ⟨by omega,by omega⟩⟩
       case rest=>
        obtain⟨C,x,K,E,i,rfl,U,B,I,G,N⟩:=hcut;have ad:Hid (s.size+1<=C+(gk-1)/\C<=s.size/\1<=gk):=za (by have:=N.out;have:=Ru.out;omega);clear q7 au p0 p1 p2 DY DZ D0 j Z HQ DD Y4 Y mn Ru N u aA ph ai DA Rk cc cA;obtain⟨ct,wT⟩:∃ct,count+1=ct:=⟨_,rfl⟩
        have Sn:Hid ((count:Int)+1=ct):=za (by omega);rw[wT]at G aG;clear wT;go_wp2_with fail
        obtain⟨gO,rfl⟩:∃g:Nat,g=gk:=⟨_,rfl⟩
        go_loopg [] (x.length) (fun k wr=>∃(x:List (List It×Nat)) (K:Nat) (E:Option Addr) (i:Nat),Hid (K=x.length)/\Hid (GC w wr E K i)/\Hid (rE wr (w.heap.size+3) E i x)/\Hid (qm D M s R x C ct/\(x= []->P9 w wr R.x))/\Hid (x.length<=k))
        case atStart=>exact⟨x,K,E,i,U,B,I,G,za (zi _)⟩
        case round=>
         clear U B I G;obtain⟨x,K,E,i,U,B,I,G,N⟩:=hrel;have q6:wr.cell? ⟨w.heap.size+1,0,none⟩=some (.slice E K i):=B.out.opn.cell 0;have aM:wr.frozen? ⟨w.heap.size+1,0,none⟩=false:=B.out.opn.frozen 0;have ph:=B.out.mx;have ai:=B.out.le;have N6:=B.out.siz;have ar:gO-1<gO:=by have:=ad.out;omega
         match x,U,I,G,N with
         | [],U,I,G,N=>
          obtain rfl:K=0:=U.out;go_wp2;go_roundg (gO-1)
          case measure=>exact ar
          case rel=>exact⟨C,ct,false,[],0,E,i,rfl,by rw[Sn.out],rfl,za rfl,B,I,za (.inr ⟨rfl,rfl,G.out.1,G.out.2 (by simp)⟩),za ⟨ad.out.1,ad.out.2.1⟩⟩
         |(acc,ag)::fs3,U,I,G,N=>
          obtain⟨J,qO⟩:∃J,fs3.length=J:=⟨_,rfl⟩
          obtain rfl:K=J+1:=by rw[<-qO];exact U.out
          rcases I.out with h|⟨g,vs,rfl,c⟩
          ·cases h
          match vs,c with
          | [],c=>exact absurd c.rds.length (by simp)
          |(v0,v1)::vs,c=>
           have aH:=za c;obtain⟨t0,t1,_,_⟩:=c.top;rw[qO]at t0 t1;dsimp only at t0 t1;have ab:=za qO;clear c qO;by_cases qv:ag=C
           ·subst qv;obtain⟨m,eO,rK,hF,VL⟩:=aH.out.pop;have aN:=G.out.1.len;obtain⟨A4,Dy,rfl,ax,aL,rS⟩:=hF.list (by omega);obtain⟨n4,Sj⟩:∃n4,acc.length=n4:=⟨_,rfl⟩
            rw[Sj]at t0 ax;have YX:=za G.out.1;have Lo:Hid (ae [w.heap.size+1] wr (wr.setCell ⟨w.heap.size+1,0,none⟩ (.slice (some ⟨g,0,none⟩) J i))):=za ((ae.refl [w.heap.size+1] wr).setCell (by simp) _);have Jx:Hid (GC w (wr.setCell ⟨w.heap.size+1,0,none⟩ (.slice (some ⟨g,0,none⟩) J i)) (some ⟨g,0,none⟩) J i):=za (B.out.store (by omega) ph);have JB:Hid (fV (wr.setCell ⟨w.heap.size+1,0,none⟩ (.slice (some ⟨g,0,none⟩) J i)) (fun k=>m<=k/\l5 (wr.setCell ⟨w.heap.size+1,0,none⟩ (.slice (some ⟨g,0,none⟩) J i)) k) (gH acc) (.string ⟨#[]⟩) (.bool true) (.slice A4 n4 n4)):=za (by
             have h1:=rS n4 (by omega) (by omega);rw[Sj]at h1;refine fV.ag (fun k hk hS=>⟨hS.1,hS.2.of_eq (Lo.out.block k hk (by simp;omega))⟩) (fun p hp hS=>Lo.out.cell hp (by simp;omega)) _ h1)
            have ga:=za eO;clear rS hF Sj eO rK;match fs3,vs,VL,ab,YX with
            | [],vs,VL,ab,YX=>
             obtain rfl:J=0:=ab.out.symm;obtain⟨z0,z1,z2,Rw⟩:=Jx.out.who;have HA:=za (FJ _ (w.heap.size+1) (w.heap.size+2) (some ⟨g,0,none⟩) i ⟨#[]⟩ true A4 n4 n4 z0 z1 z2 ph Jx.out.opn Rw (by omega));have av:=za YX.out.done;clear Rw VL;go_wp2_with fail
             refine HA.out.mono ?_;rintro e' w3 ⟨rfl,gS,ho⟩;go_wp2;go_roundg (gk-1)
             case measure=>have:=N.out;simp at this;omega
             case rel=>
              refine⟨[],0,some ⟨g,0,none⟩,i,za rfl,za (Jx.out.only ho gS),za (.inl rfl),za ⟨?_,fun _=> ?_⟩,za (by simp)⟩
              ·rw[av.out];exact⟨rfl,rfl⟩
              rw[av.out];refine⟨_,_,_,gS,JB.out.only ho (fun k hk hS=> ?_) (fun k _ h=> ?_)⟩
              ·have h1:=ga.out;have h2:=hS.1;simp at hk;omega
              have:=ga.out;exact zP this h.1
            |(qC,VI)::fs4,[],VL,_,_=>exact absurd VL.rds.length (by simp)
            |(qC,VI)::fs4,(u0,u1)::vs4,VL,ab,YX=>
             obtain rfl:J=fs4.length+1:=ab.out.symm;have qu:=YX.out.close;have al:=qu.len;simp only[zo,yF]at al;have N5:=za qu;have ao:=VL.only Lo.out (by simp);have HA:=za (FK _ (w.heap.size+3) m g i (w.heap.size+1) (w.heap.size+2) qC VI fs4 u0 u1 vs4 _ _ _ _ Jx.out.opn ao JB.out (by omega));clear qu al ao VL;go_wp2_with fail
             refine HA.out.mono ?_;rintro e' w3 ⟨rfl,bS,Rn,aD⟩;go_wp2;go_roundg (gk-1)
             case measure=>have:=N.out;simp at this;omega
             case rel=>exact⟨(qC++ [gH acc],VI)::fs4,fs4.length+1,some ⟨g,0,none⟩,i,za rfl,za (Jx.out.below bS),za (.inr ⟨g,_,rfl,aD⟩),za ⟨N5.out,(fun h=>by cases h)⟩,za (by have:=N.out;simp at this⊢;omega)⟩
           have k1:((ag:Int)==(C:Int))=false:=zr.2 (by omega);have k2:(ag==C)=false:=zr.2 qv;have rM:=za (G.out.1.next qv);clear qv;go_wp2;go_roundg (gO-1)
           case measure=>exact ar
           case rel=>exact⟨C,ct,false,(acc,ag)::fs3,J+1,some ⟨g,0,none⟩,i,rfl,by rw[Sn.out],rfl,U,B,I,za (.inl ⟨rM.out,(fun h=>by cases h)⟩),za ⟨ad.out.1,ad.out.2.1⟩⟩
      have k2:(e==2)=false:=zr.2 Xr;have k0:(e !=0)=true:=by simp[aa]
      have HE:Hid (R=Rd.bad e):=za (by
       have:=JD.out aa;rw[this];cases b
       ·simp[within,Xr]
       simp)
      clear JD;go_wp2;obtain⟨d0,d1,d2,_⟩:=a8 (dV j.out.res (.string ⟨#[]⟩) (.bool false) (.slice none 0 0));refine zp (v:= .tuple #[.agg #[.string ⟨#[]⟩,.bool false,.slice none 0 0],.int .i64 0,.int .i64 e]) (by simp[results,Yw,go_sem,d0,d1,d2]) rfl ?_;refine⟨((j.out.bel.setCell (by simp) _).setCell (by simp) _).setCell (by simp) _,fun _=> ?_,fun h=> ?_⟩
      ·rw[HE.out];rfl
      rw[HE.out]at h;simp[Rd.bad]at h;try first|omega|exact absurd h aa
   obtain rfl:r=0:=u.out;obtain⟨he,rfl⟩:=hm;obtain⟨c0,c1,c2,aJ,rS⟩:=hd;obtain⟨E,k2,rfl,rfl,rfl,_⟩:=rS.open_;obtain⟨g0,g1,g2,_⟩:=a8 aJ;obtain⟨p0,p1,p2,DY,DZ,D0⟩:=a8 O.out.res;clear HP;go_wp2;obtain⟨d0,d1,d2,_⟩:=a8 (dV O.out.res (.string R.x.text) (.bool R.x.list) (.slice E R.x.sub.length k2));refine zp (v:= .tuple #[.agg #[.string R.x.text,.bool R.x.list,.slice E R.x.sub.length k2],.int .i64 R.size,.int .i64 0]) (by simp[results,Yw,go_sem,d0,d1,d2]) rfl ?_;refine⟨((O.out.bel.setCell (by simp) _).setCell (by simp) _).setCell (by simp) _,fun h=>absurd he h,fun _=>⟨_,_,_,rfl, ?_⟩⟩;exact rS.only ((((ae.refl [w.heap.size] wr).setCell (by simp) _).setCell (by simp) _).setCell (by simp) _) (by simp) (fun k _ h=>by omega)
theorem Qb (s:ByteArray)(D M:Int)(w:World)(hs:s.size<=4611686018427387904):
 Calls Tryz.prog 95 #[.string s,.int .i64 D,.int .i64 M] w fun e w'=>ve w w' (iN D M s) (lA D M s) e:=by
 obtain⟨G,z⟩:∃G,w.alloc (.cells #[.string ⟨#[]⟩,.bool false,.slice none 0 0] 28)=G:=⟨_,rfl⟩
 obtain⟨S,K,Y⟩:=afE z.symm;have F:=za (MT s D M G hs);have o:Hid (lA D M s=if(bp D M s 1 0).e≠0 then(bp D M s 1 0).e else if(bp D M s 1 0).size<s.size then 3 else 0):=za rfl;have m:Hid (iN D M s=if lA D M s≠0 then i' else(bp D M s 1 0).x):=za rfl;generalize iN D M s=X at*;generalize lA D M s=E at*;generalize bp D M s 1 0=aa at*;obtain⟨x,size,items,n⟩:=aa;have B:=za S;have l:=za K;have H:=za Y;have C:=za z;clear S K Y z;by_cases p:n=0
 ·subst p;by_cases R:size<s.size
  ·have i:Hid (E=3/\X=i'):=za (by
    have u:E=3:=by rw[o.out,zj (by simp),zl R]
    exact⟨u,by rw[m.out,zl (by omega)]⟩)
   clear o m;go_enter Tryz.func95,Tryz.ntmps95
   go_wp2_with fail
   rw[C.out];refine F.out.mono ?_;rintro e d ⟨b,_,hx⟩;obtain⟨c0,c1,c2,rfl,j⟩:=hx rfl;obtain⟨A,k,rfl,rfl,rfl,_⟩:=j.open_;have W:=za j;clear j;have c:=H.out.ag b (by have:=l.out;omega);have hz:=b.size;have q:=l.out;obtain⟨N,J,O,I,Z,U⟩:=a8 c;have y:=za c;have r:Hid (Below w.heap.size w d):=za (B.out.trans (b.mono (by omega)));have L:w.heap.size<d.heap.size:=by omega
   clear c b hx hz q;go_wp2;obtain⟨d0,d1,d2,_⟩:=a8 ((dV y.out (.string ⟨#[]⟩) (.bool false) (.slice none 0 0)).alloc (.cells #[.string x.text,.bool x.list,.slice A x.sub.length k] 28));refine zp (v:= .tuple #[.agg #[(.string ⟨#[]⟩),(.bool false),(.slice none 0 0)],.int .i64 3]) (by simp[results,Tryz.results95,go_sem,d0,d1,d2]) rfl ?_;rw[i.out.1,i.out.2];refine⟨(((r.out.setCell (by simp) _).setCell (by simp) _).setCell (by simp) _).alloc (by simp[World.setCell];omega) _,_,_,_,rfl, ?_⟩;exact mX _ _
  have i:Hid (E=0/\X=x):=za (by
   have u:E=0:=by rw[o.out,zj (by simp),zj R]
   exact⟨u,by rw[m.out,zj (by omega)]⟩)
  clear o m;go_enter Tryz.func95,Tryz.ntmps95
  go_wp2_with fail
  rw[C.out];refine F.out.mono ?_;rintro e d ⟨b,_,hx⟩;obtain⟨c0,c1,c2,rfl,j⟩:=hx rfl;obtain⟨A,k,rfl,rfl,rfl,_⟩:=j.open_;have W:=za j;clear j;have c:=H.out.ag b (by have:=l.out;omega);have hz:=b.size;have q:=l.out;obtain⟨N,J,O,I,Z,U⟩:=a8 c;have y:=za c;have r:Hid (Below w.heap.size w d):=za (B.out.trans (b.mono (by omega)));have L:w.heap.size<d.heap.size:=by omega
  clear c b hx hz q;go_wp2;obtain⟨d0,d1,d2,_⟩:=a8 ((dV y.out (.string x.text) (.bool x.list) (.slice A x.sub.length k)).alloc (.cells #[.string x.text,.bool x.list,.slice A x.sub.length k] 28));refine zp (v:= .tuple #[.agg #[(.string x.text),(.bool x.list),(.slice A x.sub.length k)],.int .i64 0]) (by simp[results,Tryz.results95,go_sem,d0,d1,d2]) rfl ?_;rw[i.out.1,i.out.2];refine⟨(((r.out.setCell (by simp) _).setCell (by simp) _).setCell (by simp) _).alloc (by simp[World.setCell];omega) _,_,_,_,rfl, ?_⟩;have:=l.out;exact W.out.only (((((ae.refl [w.heap.size] d).setCell (by simp) _).setCell (by simp) _).setCell (by simp) _).alloc _) (by simp;omega) (fun k _ h=>by omega)
 have i:Hid (E=n/\X=i'):=za (by
  have u:E=n:=by rw[o.out,zl p]
  exact⟨u,by rw[m.out,zl (by omega)]⟩)
 have k0:(n==0)=false:=zr.2 p;have k1:(n !=0)=true:=by simp[p]
 have H0:=za p;clear o m p;go_enter Tryz.func95,Tryz.ntmps95
 go_wp2_with fail
 rw[C.out];refine F.out.mono ?_;rintro e d ⟨b,hx,_⟩;obtain rfl:=hx H0.out;dsimp only;have c:=H.out.ag b (by have:=l.out;omega);have hz:=b.size;have q:=l.out;obtain⟨N,J,O,I,Z,U⟩:=a8 c;have y:=za c;have r:Hid (Below w.heap.size w d):=za (B.out.trans (b.mono (by omega)));have L:w.heap.size<d.heap.size:=by omega
 clear c b hx hz q;go_wp2;obtain⟨d0,d1,d2,_⟩:=a8 ((dV y.out (.string ⟨#[]⟩) (.bool false) (.slice none 0 0)).alloc (.cells #[.string ⟨#[]⟩,.bool false,.slice none 0 0] 28));refine zp (v:= .tuple #[.agg #[.string ⟨#[]⟩,.bool false,.slice none 0 0],.int .i64 n]) (by simp[results,Tryz.results95,go_sem,d0,d1,d2]) rfl ?_;rw[i.out.1,i.out.2];refine⟨(((r.out.setCell (by simp) _).setCell (by simp) _).setCell (by simp) _).alloc (by simp[World.setCell];omega) _,_,_,_,rfl, ?_⟩;exact mX _ _
