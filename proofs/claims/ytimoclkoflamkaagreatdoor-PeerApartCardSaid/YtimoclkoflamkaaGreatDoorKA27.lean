/- rlp.Next tells rdItem. -/
import Derived.Test.YtimoclkoflamkaaGreatDoorKA23
import Derived.Test.YtimoclkoflamkaaGreatDoorKA21
set_option linter.all false
set_option maxRecDepth 100000
set_option maxHeartbeats 4000000
open Go.Proofs.Tryz
namespace Go.Proofs.YtimoclkoflamkaaGreatDoor
open Go.RowKit
variable {w:World}{n:Nat}
def Yp:=@results155
theorem T5 :(prog.info? 251).map (fun i=>(i.zero,i.size,i.bytes))=some (some (.agg #[nS,(0:Int)]),2,32):=by kernel_rfl
theorem r9 {ops:Array Oper}{rest:List Oper}{o:Oper}{a:Act}{Q:Exit->Act->World->Prop}(D:o.guard=none)(s x:Operand)
 (C:o.op= .call {callee:= .builtin .append,args:= #[s,x],argTypes:= #[248,248]}) {b q:Nat} {A:Option Addr} {l:List (List It×Nat)} (N:r8 w b A q l) (M:l= []->A=none/\q=0) (e:b<=w.heap.size) (O:n=l.length)
 (H:a.eval s= .slice A n q) (d:Nat) (B:Nat) (hx:a.eval x= .slice (some (B,0)) 1 1) (W:w.cell? (B,0)=some (.slice none 0 0)) (X:w.cell? (B,1)=some (.int .i64 d)) (Z:n<=1024)
 (F:∀c m w',Hid (r8 w' b (some ⟨c,0,none⟩) m (([],d)::l))->Hid (Below b w w')->n+1<=m->m<=9223372036854775807->wpList prog ops Q rest (a.put o.dst (.slice (some ⟨c,0,none⟩) (n+1) m)) w'):wpList prog ops Q (o::rest) a w:=by
 subst O;obtain⟨i1,G,J,K,L⟩:=yz T5;have I:∀(j:Nat) (u:Value),([.slice none 0 0,d]:List Value)[j]?=some u->w.cell? (((B,0):Addr).add j)=some u:=by
  intro j u hu;have R:∀j,((B,0):Addr).add j=⟨B,j,none⟩:=by intro j;unfold Addr.add;split<;>simp_all
  rw[R];match j,hu with
  |0,hu=>simp at hu;subst hu;exact W
  |1,hu=>simp at hu;subst hu;exact X
 have E:∀u∈([.slice none 0 0,d]:List Value),u.oneCell'=true:=by
  intro u hu;simp at hu;rcases hu with rfl|rfl<;>rfl
 rcases N with rfl|⟨g,vs,rfl,hR⟩
 ·obtain⟨rfl,rfl⟩:=M rfl;refine y9 w D s x 248 C b 251 i1 _ 2 32 underlying248 G J K L rfl (by decide) _ 0 [] H (World.ownsRow_nil _ _ _ _) (B,0) 1 1 [.slice none 0 0,d] hx rfl I E (by decide) (by simp only[maxLen];omega) (by omega) e w.heap.size rfl ?_;intro c r w' h i Y U;obtain⟨_,_,z,p,_⟩:=dB h;exact F c r w' (za (.inr ⟨c,_,rfl,s6.first d h (zG e i.size)⟩)) (za ((zm b w).grown i e (fun k y=>by cases y))) z p
 obtain⟨S,ks,_⟩:=hR.block;refine y9 w D s x 248 C b 251 i1 _ 2 32 underlying248 G J K L rfl (by decide) _ l.length (dP vs) H hR.row (B,0) 1 1 [.slice none 0 0,d] hx rfl I E (by decide) (by simp only[maxLen];omega) (by omega) e w.heap.size rfl ?_;intro c r w' h i Y U;obtain⟨_,_,z,p,_⟩:=dB h;exact F c r w' (za (.inr ⟨c,_,rfl,hR.push d h i e⟩)) (za ((zm b w).grown i e (fun k y=>(show g=k by simpa[Value.ownBlock]using y)▸S))) z p
theorem qn {P:Program}{f:FuncId}{args:Array Value}{v:Value}(h:Calls P f args (w.drewN n) fun e w'=>e= .returned v/\w.drewN n=w'):
 Calls P f args (w.drewN n) fun e b=>e= .returned v/\∃m,b=w.drewN m:=h.mono fun _ _ ⟨d,c⟩=>⟨d,n,c.symm⟩
def acw (w w':World)(R:Rd)(e:Ending):Prop:=
 (w,w')/\(R.e≠0->e= .returned (.tuple #[.agg #[eS,false,nS],(0:Int),R.e]))/\
 (R.e=0->∃c0 c1 c2,e= .returned (.tuple #[.agg #[c0,c1,c2],R.size,(0:Int)])/\fR w' (w.heap.size<= ·) R.x c0 c1 c2)
theorem Nh (s:ByteArray)(D M:Int)(w:World)(hs:s.size<=4611686018427387904):
 Calls prog 155 #[.string s,.int .i64 D,.int .i64 M] w fun e w'=>acw w w' (bq D M s 1 0) e:=by
 obtain⟨R,c⟩:∃R,bq D M s 1 0=R:=⟨_,rfl⟩
 rw[c];have HR:=za c;clear c;go_enter func155,ntmps155
 go_upto_region 4 with fail
 go_cut [1,2] (fun d m O=>∃D' M':Int,d= .int .i64 D'/\m= .int .i64 M'/\Hid (D'=min D 16)/\Hid (M'=min M 1024)/\O=((w.alloc (.cells #[.string ⟨#[]⟩,.bool false,.slice none 0 0] 28)).alloc (.cells #[.slice none 0 0] 248)).alloc (.cells #[.string ⟨#[]⟩,.bool false,.slice none 0 0] 28))
 case first=>
  go_wp2_with fail
  all_goals
   go_meet;case rel=>exact⟨_,_,rfl,rfl,za (by omega),za (by omega),rfl⟩
 case rest=>
  obtain⟨D',M',rfl,rfl,HD,HM,rfl⟩:=hcut;obtain⟨W0,dS⟩:∃W0,((w.alloc (.cells #[.string ⟨#[]⟩,.bool false,.slice none 0 0] 28)).alloc (.cells #[.slice none 0 0] 248)).alloc (.cells #[.string ⟨#[]⟩,.bool false,.slice none 0 0] 28)=W0:=⟨_,rfl⟩
  have G2:Hid (GV w W0 none 0 0):=za (by
   rw[<-dS];refine⟨((ag.new w _ _).alloc _).alloc _, ?_,⟨.string ⟨#[]⟩,.bool false,.slice none 0 0, ?_⟩,(((zm _ w).alloc (zd _) _).alloc (by simp) _).alloc (by simp;omega) _,by simp,zd _,by omega⟩
   ·have:=(ag.new (w.alloc (.cells #[.string ⟨#[]⟩,.bool false,.slice none 0 0] 28)) 248 #[.slice none 0 0]).alloc (.cells #[.string ⟨#[]⟩,.bool false,.slice none 0 0] 28);simpa using this
   have:=ag.new ((w.alloc (.cells #[.string ⟨#[]⟩,.bool false,.slice none 0 0] 28)).alloc (.cells #[.slice none 0 0] 248)) 28 #[.string ⟨#[]⟩,.bool false,.slice none 0 0];simpa using this)
  rw[dS];clear dS;go_wp2_with fail
  go_loopg [12,13,14] (s.size+1) (fun k aI aA aB wr=>∃(at_ count:Nat) (b:Bool) (u:List (List It×Nat)) (r:Nat) (A:Option Addr) (C:Nat),aI= .int .i64 at_/\aA= .int .i64 count/\aB= .bool b/\Hid (r=u.length)/\Hid (GV w wr A r C)/\Hid (r8 wr (w.heap.size+3) A C u)/\Hid ((rY D M s R b u at_ count/\(u= []->A=none/\C=0))\/(b=false/\u= []/\qI D M s R [] at_ count/\Qy w wr R.x))/\Hid (s.size+1<=at_+k/\at_<=s.size))
  case atStart=>exact⟨0,0,true,[],0,none,0,rfl,rfl,rfl,za rfl,G2,za (.inl rfl),za (.inl ⟨⟨rfl,rfl,rfl,HR.out⟩,fun _=>⟨rfl,rfl⟩⟩),za (by omega)⟩
  case round=>
   obtain⟨at_,count,b,u,r,A,C,rfl,rfl,rfl,q,X,HK,HP,au⟩:=hrel;have q6:wr.cell? ⟨w.heap.size+1,0,none⟩=some (.slice A r C):=X.out.opn.cell 0;have G6:=X.out.siz;have pH:=X.out.mx;have aq:=X.out.le;rcases HP.out with⟨fc,wR⟩|⟨rfl,rfl,hm,hd⟩
   ·obtain⟨jm,jZ,DJ,DI,al⟩:=fc.le;rw[<-q.out]at DI;have DS:=za fc;have aj:=za wR;have Z:=za al;obtain⟨L,qN⟩:∃L,k8 s.size u=L:=⟨_,rfl⟩
    rw[qN]at jm jZ;have mf:=za qN;obtain⟨⟨l,z,n,e⟩,hH⟩:∃H,hd (s.extract at_ L) (aG D (r+1)) (aH M count)=H:=⟨_,rfl⟩
    have JI:(s.extract at_ L).size<=4611686018427387904:=by rw[ar _ _ _ jZ];omega
    have LB:Hid (∀w,Calls prog 197 #[.string (s.extract at_ L),.bool (decide (D'<=r)),.bool (decide (M'<=count))] w fun e' w'=>e'= .returned (.tuple #[.bool l,.int .i64 z,.int .i64 n,.int .i64 e])/\w=w'):=za (fun w=>by
     have h1:decide (D'<=r)=aG D (r+1):=by
      have:=HD.out;unfold aG;rw[yP];simp only[zY,Bool.or_eq_true];omega
     have Y:decide (M'<=count)=aH M count:=by
      have:=HM.out;unfold aH;rw[yP];simp only[zY,Bool.or_eq_true];omega
     rw[h1,Y];have:=MP (s.extract at_ L) (aG D (r+1)) (aH M count) w JI;rwa [hH]at this)
    have HH:=za hH;clear fc wR al qN hH HP JI;go_upto_region 7 with fail
    go_cut [31] (fun v O=>v= .bool true/\O=wr)
    case first=>
     cases b with
     |true=>
      go_wp2_with fail
      go_meet;case rel=>exact⟨rfl,rfl⟩
     |false=>
      have JF:0<r:=by
       have h1:=Z.out;have Y:=q.out;cases u with
       |nil=>simp at h1
       |cons f u=>simp at Y;omega
      go_wp2_with fail
      go_meet;case rel=>exact⟨rfl,rfl⟩
    case rest=>
     obtain⟨rfl,rfl⟩:=hcut;go_upto_if 35 with fail
     go_cut [15] (fun v O=>v= .int .i64 L/\O=wc)
     case first=>
      cases b with
      |true=>
       obtain rfl:=Z.out.1 rfl;obtain rfl:s.size=L:=mf.out;go_wp2_with fail
       go_meet;case rel=>exact⟨rfl,rfl⟩
      |false=>
       match u,HK,mf,Z,q with
       | [],_,_,h5,_=>have h6:=h5.out.2 rfl;cases h6
       |(acc,en0)::RS,HK,mf,Z,q=>
        obtain rfl:en0=L:=mf.out;obtain⟨r,rfl⟩:∃r',r=r'+1:=⟨r-1,by have:=q.out;simp at this;omega⟩
        rcases HK.out with h|⟨g,vs,rfl,c⟩
        ·cases h
        match vs,c with
        | [],c=>exact absurd c.rds.length (by simp)
        |(v0,v1)::vs,c=>
         obtain⟨_,t1,_,_⟩:=c.top;rw[show RS.length=r from by have:=q.out;simp at this;omega]at t1;dsimp only at t1;clear c;go_wp2_with fail
         go_meet;case rel=>exact⟨rfl,rfl⟩
     case rest=>
      obtain⟨rfl,rfl⟩:=hcut;go_wp2_with fail
      go_quiet ((go_at_call 197;exact qn (LB.out _)))
      obtain⟨x,ah⟩:∃x,wc.drewN nq=x:=⟨_,rfl⟩
      have j:Hid (GV w x A r C):=za (by rw[<-ah];exact X.out.below (Below.bF (zm _ _) _));have G7:Hid (r8 x (w.heap.size+3) A C u):=za (by rw[<-ah];exact HK.out.below (Below.bF (zm _ _) _));have q7:x.cell? ⟨w.heap.size+1,0,none⟩=some (.slice A r C):=j.out.opn.cell 0;have ao:=j.out.siz;obtain⟨p0,p1,p2,Ej,Ei,Eh⟩:=bp j.out.res;rw[ah];clear q6 G6 X HK ah;have J0:Hid (e≠0->R=Rd.bad (if b then e else within e)):=za (fun he=>DS.out.err (by rw[mf.out,<-q.out];exact HH.out) he);by_cases X9:e=2
      ·subst X9;cases b with
       |true=>
        have HE:Hid (R=Rd.bad 2):=za (J0.out (by omega));clear J0;go_wp2;obtain⟨d0,d1,d2,_⟩:=bp (gS j.out.res eS false nS);refine zl (v:= .tuple #[.agg #[eS,false,nS],(0:Int),.int .i64 2]) (by simp[results,Yp,go_sem,d0,d1,d2]) rfl ?_;refine⟨((j.out.bel.setCell (by simp) _).setCell (by simp) _).setCell (by simp) _,fun _=> ?_,fun h=> ?_⟩
        ·rw[HE.out];rfl
        rw[HE.out]at h;simp[Rd.bad]at h;try first|omega|exact absurd h aa
       |false=>
        have HE:Hid (R=Rd.bad 3):=za (J0.out (by omega));clear J0;go_wp2;obtain⟨d0,d1,d2,_⟩:=bp (gS j.out.res eS false nS);refine zl (v:= .tuple #[.agg #[eS,false,nS],(0:Int),.int .i64 3]) (by simp[results,Yp,go_sem,d0,d1,d2]) rfl ?_;refine⟨((j.out.bel.setCell (by simp) _).setCell (by simp) _).setCell (by simp) _,fun _=> ?_,fun h=> ?_⟩
        ·rw[HE.out];rfl
        rw[HE.out]at h;simp[Rd.bad]at h;try first|omega|exact absurd h aa
      by_cases aa:e=0
      ·subst aa;clear J0;have HQ:Hid (hd (s.extract at_ (k8 s.size u)) (aG D (u.length+1)) (aH M count)=(l,z,n,0)):=za (by rw[mf.out,<-q.out];exact HH.out);have aN:at_+z+n<=s.size/\1<=z+n/\count+1<=1024/\(l=true->1<=z):=by
        cases l with
        |true=>obtain⟨_,Y,h3,h4⟩:=DS.out.list HQ.out;exact⟨Y,by omega,h4,fun _=>h3⟩
        |false=>obtain⟨Y,h3,h4,_⟩:=DS.out.text HQ.out;exact⟨Y,h3,h4,(fun h=>by cases h)⟩
       obtain⟨cw,cF,aF,SI⟩:=aN;have aM:=za SI;clear LB HH SI jm jZ;go_upto_if 75 with fail
       go_cut [12] (fun v O=>∃(F:Nat) (B:List (List It×Nat)) (K:Nat) (E:Option Addr) (i:Nat),v= .int .i64 F/\Hid (K=B.length)/\Hid (GV w O E K i)/\Hid (r8 O (w.heap.size+3) E i B)/\Hid (qI D M s R B F (count+1)/\(B= []->Qy w O R.x))/\Hid (at_<F/\F<=s.size))
       case first=>
        cases l with
        |true=>
         have Wn:((at_+z+n:Nat):Int)=(at_:Int)+z+n:=by omega
         have Wm:Hid (ag (x.alloc (.cells #[.slice none 0 0,.int .i64 ((at_:Int)+z+n)] 251)) x.heap.size 251 #[.slice none 0 0,.int .i64 ((at_:Int)+z+n)]):=za (ag.new x _ _);have aL:=za Wn;have G:Hid (∀o,r8 (x.alloc o) (w.heap.size+3) A C u):=za (fun o=>G7.out.below ((zm _ _).alloc (zd _) o));clear Wn;go_wp2_with (at_builtin;refine Hid.out ?_)
         refine za ?_;refine r9 (by rfl) (.tmp 76) (.tmp 81) (by rfl) (G.out _) aj.out (by simp;omega) q.out (by rfl) (at_+z+n) x.heap.size (by rfl) (Wm.out.cell 0) (by rw[aL.out];exact Wm.out.cell 1) DI ?_;intro g' RT w3 oQ bJ aK Cw;have y:Hid (GV w w3 A r C):=za (j.out.below (((zm _ x).alloc ao _).trans bJ.out));have q8:w3.cell? (w.heap.size+1,0)=some (.slice A r C):=y.out.opn.cell 0;have aP:w3.frozen? (w.heap.size+1,0)=false:=y.out.opn.frozen 0;have HL:=za (DS.out.list HQ.out);clear bJ G Wm G7 j DS HQ;go_wp2_with fail
         go_meet;case rel=>
          refine⟨at_+z,([],at_+z+n)::u,r+1,some (g',0),RT,by go_num,za (by rw[q.out];rfl),za (y.out.store aK Cw),za (oQ.out.only ((ae.refl [w.heap.size+1] w3).setCell (by simp) _) (by simp)),za ⟨HL.out.1,(fun h=>by cases h)⟩,za ⟨?_, ?_⟩⟩
          ·have:=HL.out.2.2.1;omega
          omega
        |false=>
         obtain⟨_,_,_,Sz,GX⟩:=DS.out.text HQ.out;have av:=za Sz;have G9:=za GX;have ay:(s.extract (at_+z) (at_+z+n)).size<=9223372036854775807:=by rw[ar _ _ _ cw];omega
         have Ed:Hid (∀(W:World) (S:Nat->Prop),fR W S (.mk (s.extract (at_+z) (at_+z+n)) false []) (.string (s.extract (at_+z) (at_+z+n))) false nS):=za (fun W S=>fR.text false ay);have e1:((at_:Int)+z).toNat=at_+z:=by omega
         have e2:((at_:Int)+z+n).toNat=at_+z+n:=by omega
         clear Sz GX HQ ay;cases b with
         |true=>
          obtain rfl:=Z.out.1 rfl;obtain rfl:r=0:=q.out;obtain⟨rfl,rfl⟩:=aj.out rfl;obtain⟨z0,z1,z2,RZ⟩:=j.out.who;have HA:=za (F7 x (w.heap.size+1) (w.heap.size+2) none 0 (s.extract (at_+z) (at_+z+n)) false none 0 0 z0 z1 z2 (by omega) j.out.opn RZ (by omega));clear RZ p0 p1 p2 Ej Ei Eh G7;go_wp2_with fail
          refine HA.out.mono ?_;rintro e' w3 ⟨rfl,gY,ho⟩;go_wp2_with fail
          go_meet;case rel=>
           have ax:=av.out (by simp);refine⟨at_+z+n,[],0,none,0,by go_num,za rfl,za (j.out.only ho gY),za (.inl rfl),za ⟨?_,fun _=> ?_⟩,za ⟨?_, ?_⟩⟩
           ·rw[ax];exact⟨rfl,rfl⟩
           ·rw[ax];exact⟨_,_,_,gY,Ed.out _ _⟩
           ·omega
           omega
         |false=>
          match u,G7,Z,q,G9 with
          | [],_,h5,_,_=>have h6:=h5.out.2 rfl;cases h6
          |(acc,en0)::RS,G7,Z,q,G9=>
           rcases G7.out with h|⟨g,vs,rfl,c⟩
           ·cases h
           match vs,c with
           | [],c=>exact absurd c.rds.length (by simp)
           |(v0,v1)::vs,c=>
            obtain rfl:r=RS.length+1:=q.out;have hm:=(G9.out acc en0 RS rfl)
            have Uw:acc.length<=1024:=by
             obtain⟨_,_,_,h4,h5⟩:=hm;simp only[nB,zk,yQ]at h4;omega
            have aJ:=za hm;have HA:=za (F8 x (w.heap.size+3) x.heap.size g C (w.heap.size+1) (w.heap.size+2) acc en0 RS v0 v1 vs _ _ _ _ j.out.opn c (Ed.out x _) (by omega));clear c hm p0 p1 p2 Ej Ei Eh G7 Ed av G9;go_wp2_with fail
            refine HA.out.mono ?_;rintro e' w3 ⟨rfl,bJ,RR,G3⟩;go_wp2_with fail
            go_meet;case rel=>exact⟨at_+z+n,(acc++ [_],en0)::RS,RS.length+1,some (g,0),C,by go_num,za rfl,za (j.out.below bJ),za (.inr ⟨g,_,rfl,G3⟩),za ⟨aJ.out,(fun h=>by cases h)⟩,za ⟨by omega,by omega⟩⟩
       case rest=>
        obtain⟨F,B,K,E,i,rfl,U,y,G,I,N⟩:=hcut;have ad:Hid (s.size+1<=F+(gk-1)/\F<=s.size/\1<=gk):=za (by have:=N.out;have:=au.out;omega);clear q7 ao p0 p1 p2 Ej Ei Eh j G7 HQ DS aj Z mf au N q aM pH aq DJ DI cw cF;obtain⟨ct,Ah⟩:∃ct,count+1=ct:=⟨_,rfl⟩
        have SM:Hid ((count:Int)+1=ct):=za (by omega);rw[Ah]at I aF;clear Ah;go_wp2_with fail
        obtain⟨gO,rfl⟩:∃g:Nat,g=gk:=⟨_,rfl⟩
        go_loopg [] (B.length) (fun k wr=>∃(B:List (List It×Nat)) (K:Nat) (E:Option Addr) (i:Nat),Hid (K=B.length)/\Hid (GV w wr E K i)/\Hid (r8 wr (w.heap.size+3) E i B)/\Hid (qI D M s R B F ct/\(B= []->Qy w wr R.x))/\Hid (B.length<=k))
        case atStart=>exact⟨B,K,E,i,U,y,G,I,za (zd _)⟩
        case round=>
         clear U y G I;obtain⟨B,K,E,i,U,y,G,I,N⟩:=hrel;have q6:wr.cell? (w.heap.size+1,0)=some (.slice E K i):=y.out.opn.cell 0;have aO:wr.frozen? (w.heap.size+1,0)=false:=y.out.opn.frozen 0;have pH:=y.out.mx;have aq:=y.out.le;have G6:=y.out.siz;have az:gO-1<gO:=by have:=ad.out;omega
         match B,U,G,I,N with
         | [],U,G,I,N=>
          obtain rfl:K=0:=U.out;go_wp2;go_roundg (gO-1)
          case measure=>exact az
          case rel=>exact⟨F,ct,false,[],0,E,i,rfl,by rw[SM.out],rfl,za rfl,y,G,za (.inr ⟨rfl,rfl,I.out.1,I.out.2 (by simp)⟩),za ⟨ad.out.1,ad.out.2.1⟩⟩
         |(acc,ai)::fs3,U,G,I,N=>
          obtain⟨J,tY⟩:∃J,fs3.length=J:=⟨_,rfl⟩
          obtain rfl:K=J+1:=by rw[<-tY];exact U.out
          rcases G.out with h|⟨g,vs,rfl,c⟩
          ·cases h
          match vs,c with
          | [],c=>exact absurd c.rds.length (by simp)
          |(v0,v1)::vs,c=>
           have aE:=za c;obtain⟨t0,t1,_,_⟩:=c.top;rw[tY]at t0 t1;dsimp only at t0 t1;have af:=za tY;clear c tY;by_cases qN:ai=F
           ·subst qN;obtain⟨m,eM,so,hF,Wo⟩:=aE.out.pop;have aQ:=I.out.1.len;obtain⟨A4,RK,rfl,aD,Ov,oT⟩:=hF.list (by omega);obtain⟨n4,Oo⟩:∃n4,acc.length=n4:=⟨_,rfl⟩
            rw[Oo]at t0 aD;have ab:=za I.out.1;have LC:Hid (ae [w.heap.size+1] wr (wr.setCell (w.heap.size+1,0) (.slice (some (g,0)) J i))):=za ((ae.refl [w.heap.size+1] wr).setCell (by simp) _);have Eb:Hid (GV w (wr.setCell (w.heap.size+1,0) (.slice (some (g,0)) J i)) (some (g,0)) J i):=za (y.out.store (by omega) pH);have JW:Hid (fR (wr.setCell (w.heap.size+1,0) (.slice (some (g,0)) J i)) (fun k=>m<=k/\mn (wr.setCell (w.heap.size+1,0) (.slice (some (g,0)) J i)) k) (gK acc) eS true (.slice A4 n4 n4)):=za (by
             have h1:=oT n4 (by omega) (by omega);rw[Oo]at h1;refine fR.ah (fun k hk hS=>⟨hS.1,hS.2.of_eq (LC.out.block k hk (by simp;omega))⟩) (fun p hp hS=>LC.out.cell hp (by simp;omega)) _ h1)
            have uc:=za eM;clear oT hF Oo eM so;match fs3,vs,Wo,af,ab with
            | [],vs,Wo,af,ab=>
             obtain rfl:J=0:=af.out.symm;obtain⟨z0,z1,z2,RZ⟩:=Eb.out.who;have HA:=za (F7 _ (w.heap.size+1) (w.heap.size+2) (some (g,0)) i ⟨#[]⟩ true A4 n4 n4 z0 z1 z2 pH Eb.out.opn RZ (by omega));have aw:=za ab.out.done;clear RZ Wo;go_wp2_with fail
             refine HA.out.mono ?_;rintro e' w3 ⟨rfl,gY,ho⟩;go_wp2;go_roundg (gk-1)
             case measure=>have:=N.out;simp at this;omega
             case rel=>
              refine⟨[],0,some (g,0),i,za rfl,za (Eb.out.only ho gY),za (.inl rfl),za ⟨?_,fun _=> ?_⟩,za (by simp)⟩
              ·rw[aw.out];exact⟨rfl,rfl⟩
              rw[aw.out];refine⟨_,_,_,gY,JW.out.only ho (fun k hk hS=> ?_) (fun k _ h=> ?_)⟩
              ·have h1:=uc.out;have Y:=hS.1;simp at hk;omega
              have:=uc.out;exact zG this h.1
            |(qS,Wk)::fs4,[],Wo,_,_=>exact absurd Wo.rds.length (by simp)
            |(qS,Wk)::fs4,(u0,u1)::vs4,Wo,af,ab=>
             obtain rfl:J=fs4.length+1:=af.out.symm;have oO:=ab.out.close;have an:=oO.len;simp only[zk,yQ]at an;have Ol:=za oO;have ak:=Wo.only LC.out (by simp);have HA:=za (F8 _ (w.heap.size+3) m g i (w.heap.size+1) (w.heap.size+2) qS Wk fs4 u0 u1 vs4 _ _ _ _ Eb.out.opn ak JW.out (by omega));clear oO an ak Wo;go_wp2_with fail
             refine HA.out.mono ?_;rintro e' w3 ⟨rfl,bJ,RR,aC⟩;go_wp2;go_roundg (gk-1)
             case measure=>have:=N.out;simp at this;omega
             case rel=>exact⟨(qS++ [gK acc],Wk)::fs4,fs4.length+1,some (g,0),i,za rfl,za (Eb.out.below bJ),za (.inr ⟨g,_,rfl,aC⟩),za ⟨Ol.out,(fun h=>by cases h)⟩,za (by have:=N.out;simp at this⊢;omega)⟩
           have k1:((ai:Int)==(F:Int))=false:=zp.2 (by omega);have k2:(ai==F)=false:=zp.2 qN;have uG:=za (I.out.1.next qN);clear qN;go_wp2;go_roundg (gO-1)
           case measure=>exact az
           case rel=>exact⟨F,ct,false,(acc,ai)::fs3,J+1,some (g,0),i,rfl,by rw[SM.out],rfl,U,y,G,za (.inl ⟨uG.out,(fun h=>by cases h)⟩),za ⟨ad.out.1,ad.out.2.1⟩⟩
      have k2:(e==2)=false:=zp.2 X9;have k0:(e !=0)=true:=by simp[aa]
      have HE:Hid (R=Rd.bad e):=za (by
       have:=J0.out aa;rw[this];cases b
       ·simp[within,X9]
       simp)
      clear J0;go_wp2;obtain⟨d0,d1,d2,_⟩:=bp (gS j.out.res eS false nS);refine zl (v:= .tuple #[.agg #[eS,false,nS],(0:Int),.int .i64 e]) (by simp[results,Yp,go_sem,d0,d1,d2]) rfl ?_;refine⟨((j.out.bel.setCell (by simp) _).setCell (by simp) _).setCell (by simp) _,fun _=> ?_,fun h=> ?_⟩
      ·rw[HE.out];rfl
      rw[HE.out]at h;simp[Rd.bad]at h;try first|omega|exact absurd h aa
   obtain rfl:r=0:=q.out;obtain⟨he,rfl⟩:=hm;obtain⟨c0,c1,c2,US,oT⟩:=hd;obtain⟨E,k2,rfl,rfl,rfl,_⟩:=oT.open_;obtain⟨g0,g1,g2,_⟩:=bp US;obtain⟨p0,p1,p2,Ej,Ei,Eh⟩:=bp X.out.res;clear HP;go_wp2;obtain⟨d0,d1,d2,_⟩:=bp (gS X.out.res R.x.text R.x.list (.slice E R.x.sub.length k2));refine zl (v:= .tuple #[.agg #[R.x.text,R.x.list,.slice E R.x.sub.length k2],R.size,(0:Int)]) (by simp[results,Yp,go_sem,d0,d1,d2]) rfl ?_;refine⟨((X.out.bel.setCell (by simp) _).setCell (by simp) _).setCell (by simp) _,fun h=>absurd he h,fun _=>⟨_,_,_,rfl, ?_⟩⟩;exact oT.only ((((ae.refl [w.heap.size] wr).setCell (by simp) _).setCell (by simp) _).setCell (by simp) _) (by simp) (fun k _ h=>by omega)
theorem QB (s:ByteArray)(D M:Int)(w:World)(hs:s.size<=4611686018427387904):
 Calls prog 117 #[s,D,M] w fun e w'=>vI w w' (iT D M s) (lJ D M s) e:=by
 obtain⟨G,H⟩:∃G,w.alloc (.cells #[eS,false,nS] 28)=G:=⟨_,rfl⟩
 obtain⟨Z,K,N⟩:=ags H.symm;have C:=za (Nh s D M G hs);have m:Hid (lJ D M s=if(bq D M s 1 0).e≠0 then(bq D M s 1 0).e else if(bq D M s 1 0).size<s.size then 3 else 0):=za rfl;have o:Hid (iT D M s=if lJ D M s≠0 then kx else(bq D M s 1 0).x):=za rfl;generalize iT D M s=X at*;generalize lJ D M s=E at*;generalize bq D M s 1 0=aa at*;obtain⟨x,size,items,n⟩:=aa;have z:=za Z;have l:=za K;have B:=za N;have F:=za H;clear Z K N H;by_cases p:n=0
 ·subst p;by_cases R:size<s.size
  ·have i:Hid (E=3/\X=kx):=za (by
    have q:E=3:=by rw[m.out,zi (by simp),zj R]
    exact⟨q,by rw[o.out,zj (by omega)]⟩)
   clear m o;go_enter func117,ntmps117
   go_wp2_with fail
   rw[F.out];refine C.out.mono ?_;rintro e d ⟨b,_,hx⟩;obtain⟨c0,c1,c2,rfl,j⟩:=hx rfl;obtain⟨A,k,rfl,rfl,rfl,_⟩:=j.open_;have L:=za j;clear j;have c:=B.out.ah b (by have:=l.out;omega);have hz:=b.size;have y:=l.out;obtain⟨J,Y,I,U,S,O⟩:=bp c;have u:=za c;have r:Hid (w,d):=za (z.out.trans (b.mono (by omega)));have W:w.heap.size<d.heap.size:=by omega
   clear c b hx hz y;go_wp2;obtain⟨d0,d1,d2,_⟩:=bp ((gS u.out eS (.bool false) nS).alloc (.cells #[x.text,x.list,.slice A x.sub.length k] 28));refine zl (v:= .tuple #[.agg #[eS,(.bool false),nS],.int .i64 3]) (by simp[results,results117,go_sem,d0,d1,d2]) rfl ?_;rw[i.out.1,i.out.2];refine⟨(((r.out.setCell (by simp) _).setCell (by simp) _).setCell (by simp) _).alloc (by simp[World.setCell];omega) _,_,_,_,rfl, ?_⟩;exact nh _ _
  have i:Hid (E=0/\X=x):=za (by
   have q:E=0:=by rw[m.out,zi (by simp),zi R]
   exact⟨q,by rw[o.out,zi (by omega)]⟩)
  clear m o;go_enter func117,ntmps117
  go_wp2_with fail
  rw[F.out];refine C.out.mono ?_;rintro e d ⟨b,_,hx⟩;obtain⟨c0,c1,c2,rfl,j⟩:=hx rfl;obtain⟨A,k,rfl,rfl,rfl,_⟩:=j.open_;have L:=za j;clear j;have c:=B.out.ah b (by have:=l.out;omega);have hz:=b.size;have y:=l.out;obtain⟨J,Y,I,U,S,O⟩:=bp c;have u:=za c;have r:Hid (w,d):=za (z.out.trans (b.mono (by omega)));have W:w.heap.size<d.heap.size:=by omega
  clear c b hx hz y;go_wp2;obtain⟨d0,d1,d2,_⟩:=bp ((gS u.out x.text (.bool x.list) (.slice A x.sub.length k)).alloc (.cells #[x.text,x.list,.slice A x.sub.length k] 28));refine zl (v:= .tuple #[.agg #[x.text,(.bool x.list),(.slice A x.sub.length k)],.int .i64 0]) (by simp[results,results117,go_sem,d0,d1,d2]) rfl ?_;rw[i.out.1,i.out.2];refine⟨(((r.out.setCell (by simp) _).setCell (by simp) _).setCell (by simp) _).alloc (by simp[World.setCell];omega) _,_,_,_,rfl, ?_⟩;have:=l.out;exact L.out.only (((((ae.refl [w.heap.size] d).setCell (by simp) _).setCell (by simp) _).setCell (by simp) _).alloc _) (by simp;omega) (fun k _ h=>by omega)
 have i:Hid (E=n/\X=kx):=za (by
  have q:E=n:=by rw[m.out,zj p]
  exact⟨q,by rw[o.out,zj (by omega)]⟩)
 have k0:(n==0)=false:=zp.2 p;have k1:(n !=0)=true:=by simp[p]
 have H0:=za p;clear m o p;go_enter func117,ntmps117
 go_wp2_with fail
 rw[F.out];refine C.out.mono ?_;rintro e d ⟨b,hx,_⟩;obtain rfl:=hx H0.out;dsimp only;have c:=B.out.ah b (by have:=l.out;omega);have hz:=b.size;have y:=l.out;obtain⟨J,Y,I,U,S,O⟩:=bp c;have u:=za c;have r:Hid (w,d):=za (z.out.trans (b.mono (by omega)));have W:w.heap.size<d.heap.size:=by omega
 clear c b hx hz y;go_wp2;obtain⟨d0,d1,d2,_⟩:=bp ((gS u.out eS false nS).alloc (.cells #[eS,false,nS] 28));refine zl (v:= .tuple #[.agg #[eS,false,nS],.int .i64 n]) (by simp[results,results117,go_sem,d0,d1,d2]) rfl ?_;rw[i.out.1,i.out.2];refine⟨(((r.out.setCell (by simp) _).setCell (by simp) _).setCell (by simp) _).alloc (by simp[World.setCell];omega) _,_,_,_,rfl, ?_⟩;exact nh _ _
