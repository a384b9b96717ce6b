/- rlp.Next tells rdItem. -/
import Derived.Test.YtimoclkoflamkaaGreatDoorKA23
import Derived.Test.YtimoclkoflamkaaGreatDoorKA21
set_option linter.all false
set_option maxRecDepth 100000
set_option maxHeartbeats 4000000
open Go.Proofs.Tryz
namespace Go.Proofs.YtimoclkoflamkaaGreatDoor
open Go.RowKit
variable {w:World}{n:Nat}
def YD:=@results155
theorem VZ :(prog.info? 251).map (fun i=>(i.zero,i.size,i.bytes))=some (some (.agg #[nS,(0:Int)]),2,32):=by kernel_rfl
theorem sX {ops:Array Oper}{rest:List Oper}{o:Oper}{a:Act}{Q:Exit->Act->World->Prop}(E:o.guard=none)(s x:Operand)
 (G:o.op= .call {callee:= .builtin .append,args:= #[s,x],argTypes:= #[248,248]}) {c p:Nat} {A:Option Addr} {h:List (List It×Nat)} (Y:sW w c A p h) (O:h= []->A=none/\p=0) (e:c<=w.heap.size) (M:n=h.length)
 (J:a.eval s= .slice A n p) (d:Nat) (B:Nat) (hx:a.eval x= .slice (some (B,0)) 1 1) (W:w.cell? (B,0)=some (.slice none 0 0)) (R:w.cell? (B,1)=some (.int .i64 d)) (aa:n<=1024)
 (L:∀b m w',Hid (sW w' c (some ⟨b,0,none⟩) m (([],d)::h))->Hid (Below c w w')->n+1<=m->m<=9223372036854775807->wpList prog ops Q rest (a.put o.dst (.slice (some ⟨b,0,none⟩) (n+1) m)) w'):wpList prog ops Q (o::rest) a w:=by
 subst M;obtain⟨i1,K,I,D,H⟩:=yv VZ;have C:∀(j:Nat) (u:Value),([.slice none 0 0,d]:List Value)[j]?=some u->w.cell? (((B,0):Addr).add j)=some u:=by
  intro j u hu;have U:∀j,((B,0):Addr).add j=⟨B,j,none⟩:=by intro j;unfold Addr.add;split<;>simp_all
  rw[U];match j,hu with
  |0,hu=>simp at hu;subst hu;exact W
  |1,hu=>simp at hu;subst hu;exact R
 have F:∀u∈([.slice none 0 0,d]:List Value),u.oneCell'=true:=by
  intro u hu;simp at hu;rcases hu with rfl|rfl<;>rfl
 rcases Y with rfl|⟨g,vs,rfl,hR⟩
 ·obtain⟨rfl,rfl⟩:=O rfl;refine y7 w E s x 248 G c 251 i1 _ 2 32 underlying248 K I D H rfl (by decide) _ 0 [] J (World.ownsRow_nil _ _ _ _) (B,0) 1 1 [.slice none 0 0,d] hx rfl C F (by decide) (by simp only[maxLen];omega) (by omega) e w.heap.size rfl ?_;intro b q w' i l S N;obtain⟨_,_,y,z,_⟩:=dG i;exact L b q w' (za (.inr ⟨b,_,rfl,ua.first d i (zz e l.size)⟩)) (za ((zi c w).grown l e (fun k r=>by cases r))) y z
 obtain⟨X,Z,_⟩:=hR.block;refine y7 w E s x 248 G c 251 i1 _ 2 32 underlying248 K I D H rfl (by decide) _ h.length (dV vs) J hR.row (B,0) 1 1 [.slice none 0 0,d] hx rfl C F (by decide) (by simp only[maxLen];omega) (by omega) e w.heap.size rfl ?_;intro b q w' i l S N;obtain⟨_,_,y,z,_⟩:=dG i;exact L b q w' (za (.inr ⟨b,_,rfl,hR.push d i l e⟩)) (za ((zi c w).grown l e (fun k r=>(show g=k by simpa[Value.ownBlock]using r)▸X))) y z
theorem qn {P:Program}{f:FuncId}{args:Array Value}{v:Value}(h:Calls P f args (w.drewN n) fun e w'=>e= .returned v/\w.drewN n=w'):
 Calls P f args (w.drewN n) fun e b=>e= .returned v/\∃m,b=w.drewN m:=h.mono fun _ _ ⟨c,d⟩=>⟨c,n,d.symm⟩
def aeG (w w':World)(R:Rd)(e:Ending):Prop:=
 (w,w')/\(R.e≠0->e= .returned (.tuple #[.agg #[eS,false,nS],(0:Int),R.e]))/\
 (R.e=0->∃c0 c1 c2,e= .returned (.tuple #[.agg #[c0,c1,c2],R.size,(0:Int)])/\fV w' (w.heap.size<= ·) R.x c0 c1 c2)
theorem O2 (s:ByteArray)(D M:Int)(w:World)(hs:s.size<=4611686018427387904):
 Calls prog 155 #[.string s,.int .i64 D,.int .i64 M] w fun e w'=>aeG w w' (bs D M s 1 0) e:=by
 obtain⟨R,c⟩:∃R,bs D M s 1 0=R:=⟨_,rfl⟩
 rw[c];have HR:=za c;clear c;go_enter func155,ntmps155
 go_upto_region 4 with fail
 go_cut [1,2] (fun d m L=>∃D' M':Int,d= .int .i64 D'/\m= .int .i64 M'/\Hid (D'=min D 16)/\Hid (M'=min M 1024)/\L=((w.alloc (.cells #[.string ⟨#[]⟩,.bool false,.slice none 0 0] 28)).alloc (.cells #[.slice none 0 0] 248)).alloc (.cells #[.string ⟨#[]⟩,.bool false,.slice none 0 0] 28))
 case first=>
  go_wp2_with fail
  all_goals
   go_meet;case rel=>exact⟨_,_,rfl,rfl,za (by omega),za (by omega),rfl⟩
 case rest=>
  obtain⟨D',M',rfl,rfl,HD,HM,rfl⟩:=hcut;obtain⟨W0,du⟩:∃W0,((w.alloc (.cells #[.string ⟨#[]⟩,.bool false,.slice none 0 0] 28)).alloc (.cells #[.slice none 0 0] 248)).alloc (.cells #[.string ⟨#[]⟩,.bool false,.slice none 0 0] 28)=W0:=⟨_,rfl⟩
  have IZ:Hid (IU w W0 none 0 0):=za (by
   rw[<-du];refine⟨((af.new w _ _).alloc _).alloc _, ?_,⟨.string ⟨#[]⟩,.bool false,.slice none 0 0, ?_⟩,(((zi _ w).alloc (ze _) _).alloc (by simp) _).alloc (by simp;omega) _,by simp,ze _,by omega⟩
   ·have:=(af.new (w.alloc (.cells #[.string ⟨#[]⟩,.bool false,.slice none 0 0] 28)) 248 #[.slice none 0 0]).alloc (.cells #[.string ⟨#[]⟩,.bool false,.slice none 0 0] 28);simpa using this
   have:=af.new ((w.alloc (.cells #[.string ⟨#[]⟩,.bool false,.slice none 0 0] 28)).alloc (.cells #[.slice none 0 0] 248)) 28 #[.string ⟨#[]⟩,.bool false,.slice none 0 0];simpa using this)
  rw[du];clear du;go_wp2_with fail
  go_loopg [12,13,14] (s.size+1) (fun k aE aJ aQ wr=>∃(at_ count:Nat) (b:Bool) (u:List (List It×Nat)) (r:Nat) (A:Option Addr) (E:Nat),aE= .int .i64 at_/\aJ= .int .i64 count/\aQ= .bool b/\Hid (r=u.length)/\Hid (IU w wr A r E)/\Hid (sW wr (w.heap.size+3) A E u)/\Hid ((sU D M s R b u at_ count/\(u= []->A=none/\E=0))\/(b=false/\u= []/\ru D M s R [] at_ count/\SE w wr R.x))/\Hid (s.size+1<=at_+k/\at_<=s.size))
  case atStart=>exact⟨0,0,true,[],0,none,0,rfl,rfl,rfl,za rfl,IZ,za (.inl rfl),za (.inl ⟨⟨rfl,rfl,rfl,HR.out⟩,fun _=>⟨rfl,rfl⟩⟩),za (by omega)⟩
  case round=>
   obtain⟨at_,count,b,u,r,A,E,rfl,rfl,rfl,q,O,HK,HP,ax⟩:=hrel;have q6:wr.cell? ⟨w.heap.size+1,0,none⟩=some (.slice A r E):=O.out.opn.cell 0;have I6:=O.out.siz;have qg:=O.out.mx;have an:=O.out.le;rcases HP.out with⟨ff,AX⟩|⟨rfl,rfl,hm,hd⟩
   ·obtain⟨jv,kd,EU,Bv,au⟩:=ff.le;rw[<-q.out]at Bv;have E5:=za ff;have al:=za AX;have fC:=za au;obtain⟨N,Z⟩:∃N,lq s.size u=N:=⟨_,rfl⟩
    rw[Z]at jv kd;have mC:=za Z;obtain⟨⟨l,z,n,e⟩,hH⟩:∃H,hd (s.extract at_ N) (aG D (r+1)) (aH M count)=H:=⟨_,rfl⟩
    have KW:(s.extract at_ N).size<=4611686018427387904:=by rw[ar _ _ _ kd];omega
    have Nu:Hid (∀w,Calls prog 197 #[.string (s.extract at_ N),.bool (decide (D'<=r)),.bool (decide (M'<=count))] w fun e' w'=>e'= .returned (.tuple #[.bool l,.int .i64 z,.int .i64 n,.int .i64 e])/\w=w'):=za (fun w=>by
     have h1:decide (D'<=r)=aG D (r+1):=by
      have:=HD.out;unfold aG;rw[yP];simp only[zU,ZY];omega
     have h2:decide (M'<=count)=aH M count:=by
      have:=HM.out;unfold aH;rw[yP];simp only[zU,ZY];omega
     rw[h1,h2];have:=OD (s.extract at_ N) (aG D (r+1)) (aH M count) w KW;rwa [hH]at this)
    have HH:=za hH;clear ff AX au Z hH HP KW;go_upto_region 7 with fail
    go_cut [31] (fun v L=>v= .bool true/\L=wr)
    case first=>
     cases b with
     |true=>
      go_wp2_with fail
      go_meet;case rel=>exact⟨rfl,rfl⟩
     |false=>
      have KU:0<r:=by
       have h1:=fC.out;have h2:=q.out;cases u with
       |nil=>simp at h1
       |cons f u=>simp at h2;omega
      go_wp2_with fail
      go_meet;case rel=>exact⟨rfl,rfl⟩
    case rest=>
     obtain⟨rfl,rfl⟩:=hcut;go_upto_if 35 with fail
     go_cut [15] (fun v L=>v= .int .i64 N/\L=wc)
     case first=>
      cases b with
      |true=>
       obtain rfl:=fC.out.1 rfl;obtain rfl:s.size=N:=mC.out;go_wp2_with fail
       go_meet;case rel=>exact⟨rfl,rfl⟩
      |false=>
       match u,HK,mC,fC,q with
       | [],_,_,h5,_=>have h6:=h5.out.2 rfl;cases h6
       |(acc,en0)::TW,HK,mC,fC,q=>
        obtain rfl:en0=N:=mC.out;obtain⟨r,rfl⟩:∃r',r=r'+1:=⟨r-1,by have:=q.out;simp at this;omega⟩
        rcases HK.out with h|⟨g,vs,rfl,c⟩
        ·cases h
        match vs,c with
        | [],c=>exact absurd c.rds.length (by simp)
        |(v0,v1)::vs,c=>
         obtain⟨_,t1,_,_⟩:=c.top;rw[show TW.length=r from by have:=q.out;simp at this;omega]at t1;dsimp only at t1;clear c;go_wp2_with fail
         go_meet;case rel=>exact⟨rfl,rfl⟩
     case rest=>
      obtain⟨rfl,rfl⟩:=hcut;go_wp2_with fail
      go_quiet ((go_at_call 197;exact qn (Nu.out _)))
      obtain⟨y,ai⟩:∃y,wc.drewN nq=y:=⟨_,rfl⟩
      have j:Hid (IU w y A r E):=za (by rw[<-ai];exact O.out.below (Below.bI (zi _ _) _));have I7:Hid (sW y (w.heap.size+3) A E u):=za (by rw[<-ai];exact HK.out.below (Below.bI (zi _ _) _));have q7:y.cell? ⟨w.heap.size+1,0,none⟩=some (.slice A r E):=j.out.opn.cell 0;have ao:=j.out.siz;obtain⟨p0,p1,p2,FA,Fy,Fz⟩:=bq j.out.res;rw[ai];clear q6 I6 O HK ai;have Lo:Hid (e≠0->R=Rd.bad (if b then e else within e)):=za (fun he=>E5.out.err (by rw[mC.out,<-q.out];exact HH.out) he);by_cases aj:e=2
      ·subst aj;cases b with
       |true=>
        have Y:Hid (R=Rd.bad 2):=za (Lo.out (by omega));clear Lo;go_wp2;obtain⟨d0,d1,d2,_⟩:=bq (gZ j.out.res eS false nS);refine zj (v:= .tuple #[.agg #[eS,false,nS],(0:Int),.int .i64 2]) (by simp[results,YD,go_sem,d0,d1,d2]) rfl ?_;refine⟨((j.out.bel.setCell (by simp) _).setCell (by simp) _).setCell (by simp) _,fun _=> ?_,fun h=> ?_⟩
        ·rw[Y.out];rfl
        rw[Y.out]at h;simp[Rd.bad]at h;try first|omega|exact absurd h aa
       |false=>
        have Y:Hid (R=Rd.bad 3):=za (Lo.out (by omega));clear Lo;go_wp2;obtain⟨d0,d1,d2,_⟩:=bq (gZ j.out.res eS false nS);refine zj (v:= .tuple #[.agg #[eS,false,nS],(0:Int),.int .i64 3]) (by simp[results,YD,go_sem,d0,d1,d2]) rfl ?_;refine⟨((j.out.bel.setCell (by simp) _).setCell (by simp) _).setCell (by simp) _,fun _=> ?_,fun h=> ?_⟩
        ·rw[Y.out];rfl
        rw[Y.out]at h;simp[Rd.bad]at h;try first|omega|exact absurd h aa
      by_cases aa:e=0
      ·subst aa;clear Lo;have HQ:Hid (hd (s.extract at_ (lq s.size u)) (aG D (u.length+1)) (aH M count)=(l,z,n,0)):=za (by rw[mC.out,<-q.out];exact HH.out);have aO:at_+z+n<=s.size/\1<=z+n/\count+1<=1024/\(l=true->1<=z):=by
        cases l with
        |true=>obtain⟨_,h2,h3,h4⟩:=E5.out.list HQ.out;exact⟨h2,by omega,h4,fun _=>h3⟩
        |false=>obtain⟨h2,h3,h4,_⟩:=E5.out.text HQ.out;exact⟨h2,h3,h4,(fun h=>by cases h)⟩
       obtain⟨cg,cC,aM,UL⟩:=aO;have aD:=za UL;clear Nu HH UL jv kd;go_upto_if 75 with fail
       go_cut [12] (fun v L=>∃(F:Nat) (x:List (List It×Nat)) (J:Nat) (C:Option Addr) (i:Nat),v= .int .i64 F/\Hid (J=x.length)/\Hid (IU w L C J i)/\Hid (sW L (w.heap.size+3) C i x)/\Hid (ru D M s R x F (count+1)/\(x= []->SE w L R.x))/\Hid (at_<F/\F<=s.size))
       case first=>
        cases l with
        |true=>
         have YY:((at_+z+n:Nat):Int)=(at_:Int)+z+n:=by omega
         have ak:Hid (af (y.alloc (.cells #[.slice none 0 0,.int .i64 ((at_:Int)+z+n)] 251)) y.heap.size 251 #[.slice none 0 0,.int .i64 ((at_:Int)+z+n)]):=za (af.new y _ _);have aK:=za YY;have G:Hid (∀o,sW (y.alloc o) (w.heap.size+3) A E u):=za (fun o=>I7.out.below ((zi _ _).alloc (ze _) o));clear YY;go_wp2_with (at_builtin;refine Hid.out ?_)
         refine za ?_;refine sX (by rfl) (.tmp 76) (.tmp 81) (by rfl) (G.out _) al.out (by simp;omega) q.out (by rfl) (at_+z+n) y.heap.size (by rfl) (ak.out.cell 0) (by rw[aK.out];exact ak.out.cell 1) Bv ?_;intro g' TX w3 pt bL aN EZ;have B:Hid (IU w w3 A r E):=za (j.out.below (((zi _ y).alloc ao _).trans bL.out));have q8:w3.cell? (w.heap.size+1,0)=some (.slice A r E):=B.out.opn.cell 0;have aT:w3.frozen? (w.heap.size+1,0)=false:=B.out.opn.frozen 0;have HL:=za (E5.out.list HQ.out);clear bL G ak I7 j E5 HQ;go_wp2_with fail
         go_meet;case rel=>
          refine⟨at_+z,([],at_+z+n)::u,r+1,some (g',0),TX,by go_num,za (by rw[q.out];rfl),za (B.out.store aN EZ),za (pt.out.only ((ae.refl [w.heap.size+1] w3).setCell (by simp) _) (by simp)),za ⟨HL.out.1,(fun h=>by cases h)⟩,za ⟨?_, ?_⟩⟩
          ·have:=HL.out.2.2.1;omega
          omega
        |false=>
         obtain⟨_,_,_,Uz,Tf⟩:=E5.out.text HQ.out;have aq:=za Uz;have I9:=za Tf;have aB:(s.extract (at_+z) (at_+z+n)).size<=9223372036854775807:=by rw[ar _ _ _ cg];omega
         have Fu:Hid (∀(W:World) (S:Nat->Prop),fV W S (.mk (s.extract (at_+z) (at_+z+n)) false []) (.string (s.extract (at_+z) (at_+z+n))) false nS):=za (fun W S=>fV.text false aB);have e1:((at_:Int)+z).toNat=at_+z:=by omega
         have e2:((at_:Int)+z+n).toNat=at_+z+n:=by omega
         clear Uz Tf HQ aB;cases b with
         |true=>
          obtain rfl:=fC.out.1 rfl;obtain rfl:r=0:=q.out;obtain⟨rfl,rfl⟩:=al.out rfl;obtain⟨z0,z1,z2,T3⟩:=j.out.who;have HA:=za (He y (w.heap.size+1) (w.heap.size+2) none 0 (s.extract (at_+z) (at_+z+n)) false none 0 0 z0 z1 z2 (by omega) j.out.opn T3 (by omega));clear T3 p0 p1 p2 FA Fy Fz I7;go_wp2_with fail
          refine HA.out.mono ?_;rintro e' w3 ⟨rfl,gH,ho⟩;go_wp2_with fail
          go_meet;case rel=>
           have av:=aq.out (by simp);refine⟨at_+z+n,[],0,none,0,by go_num,za rfl,za (j.out.only ho gH),za (.inl rfl),za ⟨?_,fun _=> ?_⟩,za ⟨?_, ?_⟩⟩
           ·rw[av];exact⟨rfl,rfl⟩
           ·rw[av];exact⟨_,_,_,gH,Fu.out _ _⟩
           ·omega
           omega
         |false=>
          match u,I7,fC,q,I9 with
          | [],_,h5,_,_=>have h6:=h5.out.2 rfl;cases h6
          |(acc,en0)::TW,I7,fC,q,I9=>
           rcases I7.out with h|⟨g,vs,rfl,c⟩
           ·cases h
           match vs,c with
           | [],c=>exact absurd c.rds.length (by simp)
           |(v0,v1)::vs,c=>
            obtain rfl:r=TW.length+1:=q.out;have hm:=(I9.out acc en0 TW rfl)
            have Wy:acc.length<=1024:=by
             obtain⟨_,_,_,h4,h5⟩:=hm;simp only[nT,zh,yI]at h4;omega
            have aI:=za hm;have HA:=za (Hf y (w.heap.size+3) y.heap.size g E (w.heap.size+1) (w.heap.size+2) acc en0 TW v0 v1 vs _ _ _ _ j.out.opn c (Fu.out y _) (by omega));clear c hm p0 p1 p2 FA Fy Fz I7 Fu aq I9;go_wp2_with fail
            refine HA.out.mono ?_;rintro e' w3 ⟨rfl,bL,TV,I4⟩;go_wp2_with fail
            go_meet;case rel=>exact⟨at_+z+n,(acc++ [_],en0)::TW,TW.length+1,some (g,0),E,by go_num,za rfl,za (j.out.below bL),za (.inr ⟨g,_,rfl,I4⟩),za ⟨aI.out,(fun h=>by cases h)⟩,za ⟨by omega,by omega⟩⟩
       case rest=>
        obtain⟨F,x,J,C,i,rfl,X,B,G,I,U⟩:=hcut;have ab:Hid (s.size+1<=F+(gk-1)/\F<=s.size/\1<=gk):=za (by have:=U.out;have:=ax.out;omega);clear q7 ao p0 p1 p2 FA Fy Fz j I7 HQ E5 al fC mC ax U q aD qg an EU Bv cg cC;obtain⟨ct,vE⟩:∃ct,count+1=ct:=⟨_,rfl⟩
        have UO:Hid ((count:Int)+1=ct):=za (by omega);rw[vE]at I aM;clear vE;go_wp2_with fail
        obtain⟨gO,rfl⟩:∃g:Nat,g=gk:=⟨_,rfl⟩
        go_loopg [] (x.length) (fun k wr=>∃(x:List (List It×Nat)) (J:Nat) (C:Option Addr) (i:Nat),Hid (J=x.length)/\Hid (IU w wr C J i)/\Hid (sW wr (w.heap.size+3) C i x)/\Hid (ru D M s R x F ct/\(x= []->SE w wr R.x))/\Hid (x.length<=k))
        case atStart=>exact⟨x,J,C,i,X,B,G,I,za (ze _)⟩
        case round=>
         clear X B G I;obtain⟨x,J,C,i,X,B,G,I,U⟩:=hrel;have q6:wr.cell? (w.heap.size+1,0)=some (.slice C J i):=B.out.opn.cell 0;have aR:wr.frozen? (w.heap.size+1,0)=false:=B.out.opn.frozen 0;have qg:=B.out.mx;have an:=B.out.le;have I6:=B.out.siz;have az:gO-1<gO:=by have:=ab.out;omega
         match x,X,G,I,U with
         | [],X,G,I,U=>
          obtain rfl:J=0:=X.out;go_wp2;go_roundg (gO-1)
          case measure=>exact az
          case rel=>exact⟨F,ct,false,[],0,C,i,rfl,by rw[UO.out],rfl,za rfl,B,G,za (.inr ⟨rfl,rfl,I.out.1,I.out.2 (by simp)⟩),za ⟨ab.out.1,ab.out.2.1⟩⟩
         |(acc,ah)::fs3,X,G,I,U=>
          obtain⟨K,va⟩:∃K,fs3.length=K:=⟨_,rfl⟩
          obtain rfl:J=K+1:=by rw[<-va];exact X.out
          rcases G.out with h|⟨g,vs,rfl,c⟩
          ·cases h
          match vs,c with
          | [],c=>exact absurd c.rds.length (by simp)
          |(v0,v1)::vs,c=>
           have aP:=za c;obtain⟨t0,t1,_,_⟩:=c.top;rw[va]at t0 t1;dsimp only at t0 t1;have ag:=za va;clear c va;by_cases Z:ah=F
           ·subst Z;obtain⟨m,dN,pj,hF,YX⟩:=aP.out.pop;have aS:=I.out.1.len;obtain⟨A4,TN,rfl,aL,TD,rR⟩:=hF.list (by omega);obtain⟨n4,UM⟩:∃n4,acc.length=n4:=⟨_,rfl⟩
            rw[UM]at t0 aL;have ad:=za I.out.1;have Nv:Hid (ae [w.heap.size+1] wr (wr.setCell (w.heap.size+1,0) (.slice (some (g,0)) K i))):=za ((ae.refl [w.heap.size+1] wr).setCell (by simp) _);have Ft:Hid (IU w (wr.setCell (w.heap.size+1,0) (.slice (some (g,0)) K i)) (some (g,0)) K i):=za (B.out.store (by omega) qg);have Ll:Hid (fV (wr.setCell (w.heap.size+1,0) (.slice (some (g,0)) K i)) (fun k=>m<=k/\mH (wr.setCell (w.heap.size+1,0) (.slice (some (g,0)) K i)) k) (gS acc) eS true (.slice A4 n4 n4)):=za (by
             have h1:=rR n4 (by omega) (by omega);rw[UM]at h1;refine fV.ah (fun k hk hS=>⟨hS.1,hS.2.of_eq (Nv.out.block k hk (by simp;omega))⟩) (fun p hp hS=>Nv.out.cell hp (by simp;omega)) _ h1)
            have vf:=za dN;clear rR hF UM dN pj;match fs3,vs,YX,ag,ad with
            | [],vs,YX,ag,ad=>
             obtain rfl:K=0:=ag.out.symm;obtain⟨z0,z1,z2,T3⟩:=Ft.out.who;have HA:=za (He _ (w.heap.size+1) (w.heap.size+2) (some (g,0)) i ⟨#[]⟩ true A4 n4 n4 z0 z1 z2 qg Ft.out.opn T3 (by omega));have aA:=za ad.out.done;clear T3 YX;go_wp2_with fail
             refine HA.out.mono ?_;rintro e' w3 ⟨rfl,gH,ho⟩;go_wp2;go_roundg (gk-1)
             case measure=>have:=U.out;simp at this;omega
             case rel=>
              refine⟨[],0,some (g,0),i,za rfl,za (Ft.out.only ho gH),za (.inl rfl),za ⟨?_,fun _=> ?_⟩,za (by simp)⟩
              ·rw[aA.out];exact⟨rfl,rfl⟩
              rw[aA.out];refine⟨_,_,_,gH,Ll.out.only ho (fun k hk hS=> ?_) (fun k _ h=> ?_)⟩
              ·have h1:=vf.out;have h2:=hS.1;simp at hk;omega
              have:=vf.out;exact zz this h.1
            |(rM,YU)::fs4,[],YX,_,_=>exact absurd YX.rds.length (by simp)
            |(rM,YU)::fs4,(u0,u1)::vs4,YX,ag,ad=>
             obtain rfl:K=fs4.length+1:=ag.out.symm;have pn:=ad.out.close;have ay:=pn.len;simp only[zh,yI]at ay;have Qj:=za pn;have aw:=YX.only Nv.out (by simp);have HA:=za (Hf _ (w.heap.size+3) m g i (w.heap.size+1) (w.heap.size+2) rM YU fs4 u0 u1 vs4 _ _ _ _ Ft.out.opn aw Ll.out (by omega));clear pn ay aw YX;go_wp2_with fail
             refine HA.out.mono ?_;rintro e' w3 ⟨rfl,bL,TV,aC⟩;go_wp2;go_roundg (gk-1)
             case measure=>have:=U.out;simp at this;omega
             case rel=>exact⟨(rM++ [gS acc],YU)::fs4,fs4.length+1,some (g,0),i,za rfl,za (Ft.out.below bL),za (.inr ⟨g,_,rfl,aC⟩),za ⟨Qj.out,(fun h=>by cases h)⟩,za (by have:=U.out;simp at this⊢;omega)⟩
           have k1:((ah:Int)==(F:Int))=false:=zl.2 (by omega);have k2:(ah==F)=false:=zl.2 Z;have vH:=za (I.out.1.next Z);clear Z;go_wp2;go_roundg (gO-1)
           case measure=>exact az
           case rel=>exact⟨F,ct,false,(acc,ah)::fs3,K+1,some (g,0),i,rfl,by rw[UO.out],rfl,X,B,G,za (.inl ⟨vH.out,(fun h=>by cases h)⟩),za ⟨ab.out.1,ab.out.2.1⟩⟩
      have k2:(e==2)=false:=zl.2 aj;have k0:(e !=0)=true:=by simp[aa]
      have Y:Hid (R=Rd.bad e):=za (by
       have:=Lo.out aa;rw[this];cases b
       ·simp[within,aj]
       simp)
      clear Lo;go_wp2;obtain⟨d0,d1,d2,_⟩:=bq (gZ j.out.res eS false nS);refine zj (v:= .tuple #[.agg #[eS,false,nS],(0:Int),.int .i64 e]) (by simp[results,YD,go_sem,d0,d1,d2]) rfl ?_;refine⟨((j.out.bel.setCell (by simp) _).setCell (by simp) _).setCell (by simp) _,fun _=> ?_,fun h=> ?_⟩
      ·rw[Y.out];rfl
      rw[Y.out]at h;simp[Rd.bad]at h;try first|omega|exact absurd h aa
   obtain rfl:r=0:=q.out;obtain⟨he,rfl⟩:=hm;obtain⟨c0,c1,c2,aF,rR⟩:=hd;obtain⟨C,k2,rfl,rfl,rfl,_⟩:=rR.open_;obtain⟨g0,g1,g2,_⟩:=bq aF;obtain⟨p0,p1,p2,FA,Fy,Fz⟩:=bq O.out.res;clear HP;go_wp2;obtain⟨d0,d1,d2,_⟩:=bq (gZ O.out.res R.x.text R.x.list (.slice C R.x.sub.length k2));refine zj (v:= .tuple #[.agg #[R.x.text,R.x.list,.slice C R.x.sub.length k2],R.size,(0:Int)]) (by simp[results,YD,go_sem,d0,d1,d2]) rfl ?_;refine⟨((O.out.bel.setCell (by simp) _).setCell (by simp) _).setCell (by simp) _,fun h=>absurd he h,fun _=>⟨_,_,_,rfl, ?_⟩⟩;exact rR.only ((((ae.refl [w.heap.size] wr).setCell (by simp) _).setCell (by simp) _).setCell (by simp) _) (by simp) (fun k _ h=>by omega)
theorem SH (s:ByteArray)(D M:Int)(w:World)(hs:s.size<=4611686018427387904):
 Calls prog 117 #[s,D,M] w fun e w'=>wV w w' (ja D M s) (lU D M s) e:=by
 obtain⟨H,B⟩:∃H,w.alloc (.cells #[eS,false,nS] 28)=H:=⟨_,rfl⟩
 obtain⟨R,U,N⟩:=aiF B.symm;have C:=za (O2 s D M H hs);have p:Hid (lU D M s=if(bs D M s 1 0).e≠0 then(bs D M s 1 0).e else if(bs D M s 1 0).size<s.size then 3 else 0):=za rfl;have o:Hid (ja D M s=if lU D M s≠0 then kG else(bs D M s 1 0).x):=za rfl;generalize ja D M s=X at*;generalize lU D M s=E at*;generalize bs D M s 1 0=aa at*;obtain⟨x,size,items,m⟩:=aa;have F:=za R;have l:=za U;have G:=za N;have z:=za B;clear R U N B;by_cases n:m=0
 ·subst n;by_cases I:size<s.size
  ·have i:Hid (E=3/\X=kG):=za (by
    have y:E=3:=by rw[p.out,zf (by simp),zg I]
    exact⟨y,by rw[o.out,zg (by omega)]⟩)
   clear p o;go_enter func117,ntmps117
   go_wp2_with fail
   rw[z.out];refine C.out.mono ?_;rintro e d ⟨b,_,hx⟩;obtain⟨c0,c1,c2,rfl,j⟩:=hx rfl;obtain⟨A,k,rfl,rfl,rfl,_⟩:=j.open_;have L:=za j;clear j;have c:=G.out.ah b (by have:=l.out;omega);have hz:=b.size;have u:=l.out;obtain⟨W,O,K,Z,Y,S⟩:=bq c;have q:=za c;have r:Hid (w,d):=za (F.out.trans (b.mono (by omega)));have J:w.heap.size<d.heap.size:=by omega
   clear c b hx hz u;go_wp2;obtain⟨d0,d1,d2,_⟩:=bq ((gZ q.out eS (.bool false) nS).alloc (.cells #[x.text,x.list,.slice A x.sub.length k] 28));refine zj (v:= .tuple #[.agg #[eS,(.bool false),nS],.int .i64 3]) (by simp[results,results117,go_sem,d0,d1,d2]) rfl ?_;rw[i.out.1,i.out.2];refine⟨(((r.out.setCell (by simp) _).setCell (by simp) _).setCell (by simp) _).alloc (by simp[World.setCell];omega) _,_,_,_,rfl, ?_⟩;exact nH _ _
  have i:Hid (E=0/\X=x):=za (by
   have y:E=0:=by rw[p.out,zf (by simp),zf I]
   exact⟨y,by rw[o.out,zf (by omega)]⟩)
  clear p o;go_enter func117,ntmps117
  go_wp2_with fail
  rw[z.out];refine C.out.mono ?_;rintro e d ⟨b,_,hx⟩;obtain⟨c0,c1,c2,rfl,j⟩:=hx rfl;obtain⟨A,k,rfl,rfl,rfl,_⟩:=j.open_;have L:=za j;clear j;have c:=G.out.ah b (by have:=l.out;omega);have hz:=b.size;have u:=l.out;obtain⟨W,O,K,Z,Y,S⟩:=bq c;have q:=za c;have r:Hid (w,d):=za (F.out.trans (b.mono (by omega)));have J:w.heap.size<d.heap.size:=by omega
  clear c b hx hz u;go_wp2;obtain⟨d0,d1,d2,_⟩:=bq ((gZ q.out x.text (.bool x.list) (.slice A x.sub.length k)).alloc (.cells #[x.text,x.list,.slice A x.sub.length k] 28));refine zj (v:= .tuple #[.agg #[x.text,(.bool x.list),(.slice A x.sub.length k)],.int .i64 0]) (by simp[results,results117,go_sem,d0,d1,d2]) rfl ?_;rw[i.out.1,i.out.2];refine⟨(((r.out.setCell (by simp) _).setCell (by simp) _).setCell (by simp) _).alloc (by simp[World.setCell];omega) _,_,_,_,rfl, ?_⟩;have:=l.out;exact L.out.only (((((ae.refl [w.heap.size] d).setCell (by simp) _).setCell (by simp) _).setCell (by simp) _).alloc _) (by simp;omega) (fun k _ h=>by omega)
 have i:Hid (E=m/\X=kG):=za (by
  have y:E=m:=by rw[p.out,zg n]
  exact⟨y,by rw[o.out,zg (by omega)]⟩)
 have k0:(m==0)=false:=zl.2 n;have k1:(m !=0)=true:=by simp[n]
 have H0:=za n;clear p o n;go_enter func117,ntmps117
 go_wp2_with fail
 rw[z.out];refine C.out.mono ?_;rintro e d ⟨b,hx,_⟩;obtain rfl:=hx H0.out;dsimp only;have c:=G.out.ah b (by have:=l.out;omega);have hz:=b.size;have u:=l.out;obtain⟨W,O,K,Z,Y,S⟩:=bq c;have q:=za c;have r:Hid (w,d):=za (F.out.trans (b.mono (by omega)));have J:w.heap.size<d.heap.size:=by omega
 clear c b hx hz u;go_wp2;obtain⟨d0,d1,d2,_⟩:=bq ((gZ q.out eS false nS).alloc (.cells #[eS,false,nS] 28));refine zj (v:= .tuple #[.agg #[eS,false,nS],.int .i64 m]) (by simp[results,results117,go_sem,d0,d1,d2]) rfl ?_;rw[i.out.1,i.out.2];refine⟨(((r.out.setCell (by simp) _).setCell (by simp) _).setCell (by simp) _).alloc (by simp[World.setCell];omega) _,_,_,_,rfl, ?_⟩;exact nH _ _
