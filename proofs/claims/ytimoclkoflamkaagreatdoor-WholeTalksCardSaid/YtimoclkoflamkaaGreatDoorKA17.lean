/- Package schema: May. -/
import Derived.Test.YtimoclkoflamkaaGreatDoorKA11
import Derived.Laws.EntriesVeiled
set_option linter.all false
set_option maxRecDepth 100000
set_option maxHeartbeats 2000000
open Go.Proofs.Tryz
namespace Go.Proofs.YtimoclkoflamkaaGreatDoor
open Go.RowKit
variable {w w':World}{B k g n lo':Nat}{s:List It}{d e i:Value}{A:Option Addr}{x:It}
def yT:=@Array.getElem?_setIfInBounds
def Laid (w:World):Prop:=(w,1,0,(1:Int))/\(w,1,1,(2:Int))/\(w,1,2,(4:Int))/\(w,1,3,(8:Int))
theorem Laid.pos (h:Laid w):1<w.heap.size:=lt_of_cell h.1
theorem Laid.same (h:Laid w)(b:w'.heap[1]?=w.heap[1]?):Laid w':=
 ⟨(zy b).trans h.1,(zy b).trans h.2.1,(zy b).trans h.2.2.1,(zy b).trans h.2.2.2⟩
theorem Laid.below (h:Laid w)(c:Below B w w')(b:1<B):Laid w':=h.same (c.block 1 b)
theorem Laid.only {L:List Nat}(h:Laid w)(b:ae L w w')(c:1∉L):Laid w':=h.same (b.block 1 h.pos c)
theorem Laid.alloc {w:World}(h:Laid w)(o:Obj):Laid (w.alloc o):=h.below ((zi w.heap.size w).alloc (ze _) o) h.pos
def lZ (n:Int):Bool:=decide (n=1\/n=2\/n=4\/n=8)
theorem Sw (n:Int)(w:World)(h:Laid w):Calls prog 221 #[n] w fun e w'=>e= .returned (.bool (lZ n))/\w=w':=by
 obtain⟨C,z,D,y⟩:=h;obtain⟨R,l⟩:∃R,Hid (lZ n=R):=⟨_,za rfl⟩
 rw[l.out];have x:∀w,(Instr.index 285 (.agg #[(1:Int),(2:Int),(4:Int),(8:Int)]) (0:Int)).run prog w= .ok (1:Int) w:=fun _=>by kernel_rfl
 have i1:∀w,(Instr.index 285 (.agg #[(1:Int),(2:Int),(4:Int),(8:Int)]) (1:Int)).run prog w= .ok (2:Int) w:=fun _=>by kernel_rfl
 have i2:∀w,(Instr.index 285 (.agg #[(1:Int),(2:Int),(4:Int),(8:Int)]) (2:Int)).run prog w= .ok (4:Int) w:=fun _=>by kernel_rfl
 have B:∀w,(Instr.index 285 (.agg #[(1:Int),(2:Int),(4:Int),(8:Int)]) (3:Int)).run prog w= .ok (8:Int) w:=fun _=>by kernel_rfl
 go_enter func221,ntmps221
 go_wp2_with fail
 go_loop [6] (fun i=>∃k:Nat,k<=4/\i= .int .i64 k/\Hid (∀j,j<k->n≠([1,2,4,8]:List Int).getD j 0)) (fun i=>4-(intOf i).toNat)
 case atStart=>exact⟨0,by omega,rfl,za (by omega)⟩
 case round=>
  obtain⟨k,A,rfl,m⟩:=hrel;have key:k=0\/k=1\/k=2\/k=3\/k=4:=by omega
  rcases key with rfl|rfl|rfl|rfl|rfl
  ·by_cases b:n=1
   ·have c:Hid (R=true):=za (by rw[<-l.out];unfold lZ;rw[zD];omega);subst b;go_wp2;go_ret;exact⟨by rw[c.out];rfl,rfl⟩
   have p:(n==(1:Int))=false:=zl.2 b;have d:Hid (∀j,j<0+1->n≠([1,2,4,8]:List Int).getD j 0):=za (fun j q=>by
    by_cases h:j=0
    ·subst h;simpa using b
    exact m.out j (by omega))
   clear b;go_wp2;go_round
   case rel=>exact⟨0+1,by omega,by go_num,d⟩
   case measure=>simp[intOf]
  ·by_cases b:n=2
   ·have c:Hid (R=true):=za (by rw[<-l.out];unfold lZ;rw[zD];omega);subst b;go_wp2;go_ret;exact⟨by rw[c.out];rfl,rfl⟩
   have p:(n==(2:Int))=false:=zl.2 b;have d:Hid (∀j,j<1+1->n≠([1,2,4,8]:List Int).getD j 0):=za (fun j q=>by
    by_cases h:j=1
    ·subst h;simpa using b
    exact m.out j (by omega))
   clear b;go_wp2;go_round
   case rel=>exact⟨1+1,by omega,by go_num,d⟩
   case measure=>simp[intOf]
  ·by_cases b:n=4
   ·have c:Hid (R=true):=za (by rw[<-l.out];unfold lZ;rw[zD];omega);subst b;go_wp2;go_ret;exact⟨by rw[c.out];rfl,rfl⟩
   have p:(n==(4:Int))=false:=zl.2 b;have d:Hid (∀j,j<2+1->n≠([1,2,4,8]:List Int).getD j 0):=za (fun j q=>by
    by_cases h:j=2
    ·subst h;simpa using b
    exact m.out j (by omega))
   clear b;go_wp2;go_round
   case rel=>exact⟨2+1,by omega,by go_num,d⟩
   case measure=>simp[intOf]
  ·by_cases b:n=8
   ·have c:Hid (R=true):=za (by rw[<-l.out];unfold lZ;rw[zD];omega);subst b;go_wp2;go_ret;exact⟨by rw[c.out];rfl,rfl⟩
   have p:(n==(8:Int))=false:=zl.2 b;have d:Hid (∀j,j<3+1->n≠([1,2,4,8]:List Int).getD j 0):=za (fun j q=>by
    by_cases h:j=3
    ·subst h;simpa using b
    exact m.out j (by omega))
   clear b;go_wp2;go_round
   case rel=>exact⟨3+1,by omega,by go_num,d⟩
   case measure=>simp[intOf]
  have c:Hid (R=false):=za (by
   have o:=m.out;have u:=o 0 (by omega);have s:=o 1 (by omega);have r:=o 2 (by omega);have a3:=o 3 (by omega);simp at u s r a3;rw[<-l.out];unfold lZ;rw[zt];omega)
  go_wp2;go_ret;exact⟨by rw[c.out];rfl,rfl⟩
def sized (l m s:Int):Bool:=decide (l<=s/\s<=m)
theorem VT (l m s:Int)(g:Nat)(w:World)(h:w.cell? (g,1)=some (.int .i64 s)):
 Calls prog 220 #[l,m,(g,0)] w fun e w'=>e= .returned (.bool (sized l m s))/\w=w':=by
 obtain⟨R,c⟩:∃R,Hid (sized l m s=R):=⟨_,za rfl⟩
 rw[c.out];by_cases d:l<=s
 ·by_cases i:s<=m
  ·have b:Hid (R=true):=za (by rw[<-c.out];exact zD ⟨d,i⟩);go_enter func220,ntmps220
   go_wp2;go_ret;exact⟨by rw[b.out];rfl,rfl⟩
  have b:Hid (R=false):=za (by rw[<-c.out];exact zt (fun h=>i h.2));go_enter func220,ntmps220
  go_wp2;go_ret;exact⟨by rw[b.out];rfl,rfl⟩
 have b:Hid (R=false):=za (by rw[<-c.out];exact zt (fun h=>d h.1));go_enter func220,ntmps220
 go_wp2;go_ret;exact⟨by rw[b.out];rfl,rfl⟩
theorem Kp (k s:Int)(A:Option Addr)(n cap:Nat)(t:Int)(w:World)(d:Laid w)(h:mM k)(m:mM s)(j:mM t)(u:n<=9223372036854775807):
 Calls prog 195 #[.agg #[k,s,.slice A n cap,t]] w fun e w'=>e= .returned (.bool (fK k s n t))/\(w,w'):=by
 unfold mM at h m j;obtain⟨z,x⟩:=h;obtain⟨q,C⟩:=m;obtain⟨y,p⟩:=j;have i:=za (fun w' c=>Sw s w' (d.below (B:=w.heap.size) c d.pos));obtain⟨b,c⟩:∃b,lZ s=b:=⟨_,rfl⟩
 rw[c]at i;have o:=za c;obtain⟨R,l⟩:∃R,Hid (fK k s n t=R):=⟨_,za rfl⟩
 rw[l.out];clear c d;go_enter func195,ntmps195
 go_wp2_with (first|(go_at_call 221;refine(i.out _ bQ).mono ?_;rintro e w' ⟨rfl,rfl⟩)|(go_at_call 220;refine(VT _ _ s _ _ (by simp)).mono ?_;rintro e w' ⟨rfl,rfl⟩))
 all_goals
  go_ret;refine⟨aU ?_,bQ⟩;rw[<-l.out,yP];have r:=o.out;simp_all[fK,sized,lZ]
  try omega
theorem cz.ok {x:Ty}{c k j:Value}(h:cz w B x c k d j):mM x.kind/\mM x.size/\mM x.tail/\x.sub.length<=9223372036854775807:=by
 obtain⟨A,cap,_,_,_,_,e,i,b,m,l,_⟩:=h.open_;exact⟨e,i,b,by omega⟩
theorem aa0 :∀(x:Ty) (B:Nat) (w:World) (c0 c1 m c3:Value),cz w B x c0 c1 m c3->B<=w.heap.size->∀(lb d c:Nat),af w lb 3 #[c]->B<=lb->1<lb->Laid w->1<=d->d<=9->c<=64->
 Calls prog 154 #[.agg #[c0,c1,m,c3],d,(lb,0)] w fun e w'=>
  e= .returned (.bool (x.gY d c).1)/\af w' lb 3 #[.int .i64 (x.gY d c).2]/\ae [lb] w w':=by
 intro x;induction x using Ty.ind with
 |h ki s l ta ih=>
  intro B w c0 c1 m c3 h hB lb d c K aj Br ag an al hc;obtain⟨rfl,rfl,rfl,rH,Dt,X,hs,A,cap,rfl,od,jf,da⟩:=h;have IH:=za ih;have HS:=za da;have ai:=za rH;have ah:=za Dt;have ak:=za X;unfold mM at rH Dt X;obtain⟨To,Tp⟩:=rH;obtain⟨Ts,Tr⟩:=Dt;obtain⟨Tq,K4⟩:=X;clear ih da;have q1:w.cell? (lb,0)=some (.int .i64 c):=K.cell 0;have N:=za K;have HL:=za ag;have l1:=K.lt;have j:Hid ((Ty.mk ki s l ta).gY d c=if 8<d\/c=0\/fK ki s l.length ta=false then(false,c)else kF l (d+1) (c-1)):=za (by simp only[Ty.gY]);generalize (Ty.mk ki s l ta).gY d c=R at*;clear K ag;by_cases h1:8<d
  ·have n:Hid (R=(false,c)):=za (by rw[j.out,zg (.inl h1)]);clear j;go_enter func154,ntmps154
   go_wp2;go_ret;rw[n.out];exact⟨rfl,N.out.alloc _,DP⟩
  by_cases J:c=0
  ·have n:Hid (R=(false,c)):=za (by rw[j.out,zg (.inr (.inl J))]);subst J;clear j;go_enter func154,ntmps154
   go_wp2;go_ret;rw[n.out];exact⟨rfl,N.out.alloc _,DP⟩
  have e1:((c:Int)==0)=false:=zl.2 (by omega);have G:=za (Kp ki s A l.length cap ta (w.alloc (.cells #[ki,s,.slice A l.length cap,ta] 70)) (HL.out.alloc _) ai.out ah.out ak.out hs);cases hf:fK ki s l.length ta with
  |false=>
   rw[hf]at G;have n:Hid (R=(false,c)):=za (by rw[j.out,zg (.inr (.inr hf))]);clear j hf J;go_enter func154,ntmps154
   go_wp2_with fail
   refine G.out.mono ?_;rintro e C ⟨rfl,hb⟩;go_wp2;go_ret;rw[n.out];have y:Below w.heap.size w C:=(yD (zi _ _) (ze _) _).trans (hb.mono (by simp));exact⟨rfl,N.out.only (ae.ai y (ze _)) (by simp),(ae.ai y (ze _)).mono (by simp)⟩
  |true=>
   rw[hf]at G;have n:Hid (R=kF l (d+1) (c-1)):=za (by rw[j.out,zf (by rw[hf];simp;omega)]);have oe:1<=c:=by omega
   clear j hf J;go_enter func154,ntmps154
   go_wp2_with fail
   refine G.out.mono ?_;rintro e C ⟨rfl,W⟩;obtain⟨g0,g1,g2,g3⟩:=Og (by simpa using W);have y:Below w.heap.size w C:=(yD (zi _ _) (ze _) _).trans (W.mono (by simp));have L:=N.out.only (ae.ai y (ze _)) (by simp);have p1:C.cell? (lb,0)=some (.int .i64 c):=L.cell 0;have ao:C.frozen? (lb,0)=false:=L.frozen 0;have M9:=za L;clear L W q1 G;go_wp2_with fail
   go_loopw [30] (fun i wr=>∃k q:Nat,k<=l.length/\i= .int .i64 k/\Hid (kF (l.take k) (d+1) (c-1)=(true,q))/\af wr lb 3 #[q]/\ae [lb] w wr/\q<=64) (fun i _=>l.length-(intOf i).toNat)
   case atStart=>
    refine⟨0,c-1,by omega,rfl,za (by simp[kF]),M9.out.store (by simp;omega), ?_,by omega⟩;exact((ae.ai y (ze _)).mono (by simp)).setCell (by simp) _
   case round=>
    obtain⟨k,q,hk,rfl,aa,ad,u,UD⟩:=hrel;have E:Below B w wr:=u.below hB (by simp;omega);have Uw:=u.size;have UE:=za ad;clear ad;by_cases H:k<l.length
    ·obtain⟨b,o,d0,d1,d2,d3,rfl,I,e0,rK,e2,O,hi⟩:=HS.out.at_ k H;simp only[zK]at e0 rK e2 O;replace e0:=(E.cell (p:=(b,o+k*4)) I).trans e0;replace rK:=(E.cell (p:=(b,o+k*4+1)) I).trans rK;replace e2:=(E.cell (p:=(b,o+k*4+2)) I).trans e2;replace O:=(E.cell (p:=(b,o+k*4+3)) I).trans O;obtain⟨A2,cap2,rfl,rfl,rfl,rfl,_⟩:=hi.open_;have hG:=zA H;have lE:=hi.below E;have ab:=HL.out.only u (by simp;omega);have HC:=za (IH.out _ hG B (wr.alloc (.cells #[.int .i64 l[k].kind,.int .i64 l[k].size,.slice A2 l[k].sub.length cap2,.int .i64 l[k].tail] 70)) _ _ _ _ (lE.below (yD (zi _ _) (by omega) _)) (by simp;omega) lb (d+1) q (UE.out.alloc _) aj Br (ab.alloc _) (by omega) (by omega) UD);have M:=(FR l[k] (d+1) q (by omega)).2.2;obtain⟨⟨r,m⟩,z⟩:∃T,l[k].gY (d+1) q=T:=⟨_,rfl⟩
     rw[z]at HC M;have M8:m<=64:=by simp at M;omega
     have Y:(d:Int)+1=((d+1:Nat):Int):=by omega
     have E9:=za Y;cases r with
     |true=>
      have D:Hid (kF (l.take (k+1)) (d+1) (c-1)=(true,m)):=za (by rw[CB H aa.out,z]);clear hi lE z M Y ab;go_wp2_with fail
      rw[E9.out];refine HC.out.mono ?_;rintro e Z ⟨rfl,U,F⟩;have S:ae [lb] w Z:=(u.alloc _).trans F;clear F;go_wp2;go_roundw
      case rel=>exact⟨k+1,m,by omega,by go_num,D,U,S,M8⟩
      case measure=>simp[intOf];omega
     |false=>
      have D:Hid (kF l (d+1) (c-1)=(false,m)):=za (NR H aa.out z);clear hi lE z M Y ab;go_wp2_with fail
      rw[E9.out];refine HC.out.mono ?_;rintro e Z ⟨rfl,U,F⟩;have S:ae [lb] w Z:=(u.alloc _).trans F;clear F;go_wp2;go_ret;rw[n.out,D.out];exact⟨rfl,U,S⟩
    have K5:=aa.out;rw[zw (by omega)]at K5;have D:=za K5;clear K5;go_wp2;go_ret;rw[n.out,D.out];exact⟨rfl,UE.out,u⟩
theorem kB (x:Ty)(B:Nat)(w:World)(b d c i:Value)(h:cz w B x b d c i)(l:B<=w.heap.size)(j:Laid w):
 Calls prog 115 #[.agg #[b,d,c,i]] w fun e w'=>e= .returned x.may/\(w,w'):=by
 have k:=af.new (w.alloc (.cells #[b,d,c,i] 70)) 3 #[(64:Int)];have p:=j.pos;have o:=za (aa0 x B ((w.alloc (.cells #[b,d,c,i] 70)).alloc (.cells #[(64:Int)] 3)) b d c i (h.below ((yD (zi _ _) l _).alloc (by simp;omega) _)) (by simp;omega) (w.heap.size+1) 1 64 (by simpa using k) (by omega) (by omega) ((j.alloc _).alloc _) (by omega) (by omega) (by omega));have n:Hid (x.may=(x.gY 1 64).1):=za (NS x).symm;rw[n.out];obtain⟨A,cap,rfl,rfl,rfl,rfl,_⟩:=h.open_;generalize x.gY 1 64=R at*;generalize x.kind=q at*;generalize x.size=s at*;generalize x.tail=y at*;clear h k j;go_enter func115,ntmps115
 go_wp2_with fail
 refine o.out.mono ?_;rintro e u ⟨rfl,r,m⟩;go_wp2;go_ret;exact⟨rfl,((zi w.heap.size w).alloc (ze _) _|>.alloc (by simp) _).trans (m.below (by simp;omega) (by simp))⟩
theorem rk (a b:List Ty):cc (a++b)=(cc a&&cc b):=by
 induction a with
 |nil=>simp[cc]
 |cons x xs ih=>simp[cc,ih,Bool.and_assoc]
theorem l5 {s:List Ty}(h:k<s.length):cc (s.take (k+1))=(cc (s.take k)&&s[k].full):=by
 rw[gM s k h,rk];simp[cc]
theorem rp {s:List Ty}(h:k<s.length)(c:s[k].full=false):cc s=false:=by
 have b:=rk (s.take (k+1)) (s.drop (k+1));rw[zE,l5 h,c]at b;simpa using b
theorem MB (x:Ty):x.full=(decide (x.tail=0)&&cc x.sub):=by cases x;rfl
theorem Eu :∀(x:Ty) (B:Nat) (w:World) (C M L F:Value),cz w B x C M L F->B<=w.heap.size->True->
 Calls prog 124 #[.agg #[C,M,L,F]] w fun e w'=>e= .returned (.bool (cc x.sub))/\(w,w'):=by
 intro x;induction x using Ty.ind with
 |h ki s l ta ih=>
  intro B w C M L F h hB _;obtain⟨rfl,rfl,rfl,W,S,oO,hs,A,cap,rfl,od,jf,X⟩:=h;have IH:=za ih;have HS:=za X;unfold mM at W S oO;obtain⟨To,Tp⟩:=W;obtain⟨Ts,Tr⟩:=S;obtain⟨Tq,K4⟩:=oO;clear ih X;rw[Ty.gK];obtain⟨R,y⟩:∃R,Hid (cc l=R):=⟨_,za rfl⟩
  rw[y.out];go_enter func124,ntmps124
  go_wp2_with fail
  go_loopw [8] (fun i wr=>∃k:Nat,k<=l.length/\i= .int .i64 k/\Hid (cc (l.take k)=true)/\(w,wr)) (fun i _=>l.length-(intOf i).toNat)
  case atStart=>exact⟨0,by omega,rfl,za (by simp[cc]),bQ⟩
  case round=>
   obtain⟨k,hk,rfl,O,c⟩:=hrel;by_cases q:k<l.length
   ·obtain⟨b,o,d0,d1,d2,d3,rfl,gu,H,J,K,u,hi⟩:=HS.out.at_ k q;simp only[zK]at H J K u;replace H:=(c.cell (p:=(b,o+k*4)) (by simp;omega)).trans H;replace J:=(c.cell (p:=(b,o+k*4+1)) (by simp;omega)).trans J;replace K:=(c.cell (p:=(b,o+k*4+2)) (by simp;omega)).trans K;replace u:=(c.cell (p:=(b,o+k*4+3)) (by simp;omega)).trans u;have Z:=c.size;have hG:=zA q;have z:=hi.below (c.mono hB);obtain⟨I,cap2,rfl,rfl,rfl,rfl,_⟩:=hi.open_;have d:=MB l[k];have m:=za (IH.out _ hG B (wr.alloc (.cells #[.int .i64 l[k].kind,.int .i64 l[k].size,.slice I l[k].sub.length cap2,.int .i64 l[k].tail] 70)) _ _ _ _ (z.below (yD (zi _ _) (by omega) _)) (by simp;omega) trivial);by_cases j:l[k].tail=0
    ·have e5:((0:Int) !=0)=false:=rfl;rw[j]at m u d;generalize l[k].kind=N at*;generalize l[k].size=U at*;generalize l[k].sub.length=n2 at*;have n:Below w.heap.size w (wr.alloc (.cells #[N,U,.slice I n2 cap2,(0:Int)] 70)):=c.alloc Z _;have Y:=za n;cases hf:cc l[k].sub with
     |true=>
      rw[hf]at m;have r:Hid (cc (l.take (k+1))=true):=za (by rw[l5 q,O.out,d,hf];rfl);clear hf d hi z j n;go_wp2_with fail
      refine m.out.mono ?_;rintro e w2 ⟨rfl,E⟩;have G:=Y.out.trans (E.mono (by simp;omega));go_wp2;go_roundw
      case rel=>exact⟨k+1,by omega,by go_num,r,G⟩
      case measure=>simp[intOf];omega
     |false=>
      rw[hf]at m;have r:Hid (R=false):=za (by rw[<-y.out];exact rp q (by rw[d,hf];rfl));clear hf d hi z j n;go_wp2_with fail
      refine m.out.mono ?_;rintro e w2 ⟨rfl,E⟩;have G:=Y.out.trans (E.mono (by simp;omega));go_wp2;go_ret;exact⟨by rw[r.out];rfl,G⟩
    have e5:(l[k].tail !=0)=true:=yL.2 j;have r:Hid (R=false):=za (by rw[<-y.out];exact rp q (by rw[d,zt j];rfl));have n:Below w.heap.size w (wr.alloc (.cells #[.int .i64 l[k].kind,.int .i64 l[k].size,.slice I l[k].sub.length cap2,.int .i64 l[k].tail] 70)):=c.alloc Z _;generalize l[k].kind=N at*;generalize l[k].size=U at*;generalize l[k].sub.length=n2 at*;generalize l[k].tail=aa at*;clear d hi z j m;go_wp2;go_ret;exact⟨by rw[r.out];rfl,n⟩
   have D:=O.out;rw[zw (by omega),y.out]at D;have HM:=za D;clear D;go_wp2;go_ret;exact⟨by rw[HM.out];rfl,c⟩
theorem Kq (x:Ty)(B:Nat)(w:World)(b d i c:Value)(h:cz w B x b d i c)(C:B<=w.heap.size)(s:Laid w):
 Calls prog 85 #[.agg #[b,d,i,c]] w fun e w'=>e= .returned x.flat/\(w,w'):=by
 have D:=s.pos;have k:Below w.heap.size w (w.alloc (.cells #[b,d,i,c] 70)):=bQ;have q:=za (kB x B (w.alloc (.cells #[b,d,i,c] 70)) b d i c (h.below (k.mono C)) (by simp;omega) (s.below k D));have L:=za (fun V (l:Below (w.heap.size+1) (w.alloc (.cells #[b,d,i,c] 70)) V)=>Eu x B V b d i c ((h.below (k.mono C)).below (l.mono (by omega))) (by have:=l.size;simp at this;omega) trivial);have o:Hid (x.flat=(x.may&&cc x.sub)):=za rfl;have z:=fun V (l:Below (w.heap.size+1) (w.alloc (.cells #[b,d,i,c] 70)) V)=>Og l
 obtain⟨A,cap,rfl,rfl,rfl,rfl,_⟩:=h.open_;generalize x.flat=R at*;generalize cc x.sub=F at*;generalize x.kind=G at*;generalize x.size=H at*;generalize x.sub.length=n at*;generalize x.tail=I at*;have y:=za k;have K:=za z;clear h s k z;cases hm:x.may with
 |true=>
  rw[hm]at q o;clear hm;go_enter func85,ntmps85
  go_wp2_with fail
  refine q.out.mono ?_;rintro e r ⟨rfl,j⟩;have m:Below (w.heap.size+1) (w.alloc (.cells #[G,H,.slice A n cap,I] 70)) r:=by simpa using j
  obtain⟨O,N,S,M⟩:=K.out r m;have E:=za (L.out r m);have p:=za (y.out.trans (m.mono (by omega)));clear j m;go_wp2_with fail
  refine E.out.mono ?_;rintro e w3 ⟨rfl,u⟩;have J:=za (p.out.trans (u.mono p.out.size));clear u;go_wp2;go_ret;exact⟨by rw[o.out];rfl,J.out⟩
 |false=>
  rw[hm]at q o;clear hm;go_enter func85,ntmps85
  go_wp2_with fail
  refine q.out.mono ?_;rintro e r ⟨rfl,j⟩;have p:=za (y.out.trans (j.mono (by simp)));clear j;go_wp2;go_ret;exact⟨by rw[o.out];rfl,p.out⟩
def AB (fv:Value)(w:World)(c0 c1 c2:Value):World:=
 ((((w.alloc (.cells #[c0,c1,c2] 28)).alloc (.cells #[fv] 33)).alloc (.cells #[(0:Int)] 3)).alloc (.cells #[(0:Int)] 3)).alloc
  (.cells #[.func (.func 106) #[] #[(w.heap.size+1+1,0),(w.heap.size+1,0),(w.heap.size+1+1+1,0),(w.heap.size+1+1+1+1,0)]] 163)
theorem OV (b:Value)(w:World)(d e c:Value):BO b (AB b w d e c) (w.heap.size+1+1) (w.heap.size+1) (w.heap.size+1+1+1) (w.heap.size+1+1+1+1) 0 0:=by
 unfold AB;refine⟨?_, ?_, ?_, ?_⟩
 ·refine af.alloc (af.alloc ?_ _) _;have:=af.new ((w.alloc (.cells #[d,e,c] 28)).alloc (.cells #[b] 33)) 3 #[(0:Int)];simpa using this
 ·refine af.alloc (af.alloc (af.alloc ?_ _) _) _;have:=af.new (w.alloc (.cells #[d,e,c] 28)) 33 #[b];simpa using this
 ·refine af.alloc ?_ _;have:=af.new (((w.alloc (.cells #[d,e,c] 28)).alloc (.cells #[b] 33)).alloc (.cells #[(0:Int)] 3)) 3 #[(0:Int)];simpa using this
 have:=af.new ((((w.alloc (.cells #[d,e,c] 28)).alloc (.cells #[b] 33)).alloc (.cells #[(0:Int)] 3)).alloc (.cells #[(0:Int)] 3)) 163 #[.func (.func 106) #[] #[(w.heap.size+1+1,0),(w.heap.size+1,0),(w.heap.size+1+1+1,0),(w.heap.size+1+1+1+1,0)]];simpa using this
theorem AD (d:Value)(w:World)(c e b:Value):Below w.heap.size w (AB d w c e b):=by
 unfold AB;exact bQ
theorem OW (d:Value)(w:World)(c e b:Value):(AB d w c e b).heap.size=w.heap.size+5:=by
 unfold AB;simp
def o8 (x:It):Value:= .tuple #[.int .i64 (if x.may then(x.count:Int)else 0),.int .i64 (if x.may then(x.deep:Int)else 0),x.may]
theorem Kr (x:It)(B:Nat)(w:World)(j m k:Value)(h:bH w B x j m k)(I:B<=w.heap.size)(l:Value)(D:XA l x):
 Calls prog 75 #[.agg #[j,m,k],l] w fun e w'=>e= .returned (o8 x)/\(w,w'):=by
 have F:=OW l w j m k;have q:=za (VF x B (AB l w j m k) j m k (h.below ((AD l w j m k).mono I)) (by omega) l D _ _ _ _ 1 0 0 (OV l w j m k) (by omega) (by omega) (by omega) (by omega) (by omega) (by omega) (by omega));have E:=AD l w j m k;have z:=za E;have o:x.may=(x.gY 1 0 0).1:=(U' x).symm;have p:(x.gY 1 0 0).1=true->(x.gY 1 0 0).2=(0+x.count,max 0 (1-1+x.deep)):=(Jv x 1 0 0 (by omega) (by omega)).2.1;obtain⟨⟨r,c,d⟩,H⟩:∃T,x.gY 1 0 0=T:=⟨_,rfl⟩
 rw[H]at q o p;have G:Hid (o8 x= .tuple #[.int .i64 (if r then(c:Int)else 0),.int .i64 (if r then(d:Int)else 0),r]):=za (by
  dsimp only at o p;unfold o8;rw[o];cases r with
  |false=>rfl
  |true=>
   have L:=p rfl;injection L with h3 h4;subst h3;subst h4;simp)
 clear o p;obtain⟨A,cap,rfl,rfl,rfl,_⟩:=h.open_;have C:=za F;clear H h E F;rcases D with rfl|⟨rfl,_⟩;all_goals
  cases r with
  |true=>
   go_enter func75,ntmps75
   go_wp2_with fail
   refine q.out.mono ?_;rintro e i ⟨rfl,b,n⟩;have s:Below w.heap.size w i:=z.out.trans (n.below (by have:=C.out;omega) (by simp;omega));have y:i.cell? (w.heap.size+1+1,0)=some (.int .i64 c):=zW b.cX;have J:i.frozen? (w.heap.size+1+1,0)=false:=Zu b.cX;have u:i.cell? (w.heap.size+1+1+1,0)=some (.int .i64 d):=zW b.dp;have K:i.frozen? (w.heap.size+1+1+1,0)=false:=Zu b.dp;clear n b;go_wp2;go_region
   all_goals go_wp2
   all_goals
    refine zj (v:= .tuple #[c,d,true]) (by simp[results,results75,go_sem,y,u]) rfl ⟨by rw[G.out];rfl, ?_⟩;exact(((s.setCell (by simp;omega) _).setCell (by simp;omega) _).drew)
  |false=>
   go_enter func75,ntmps75
   go_wp2_with fail
   refine q.out.mono ?_;rintro e i ⟨rfl,b,n⟩;have s:Below w.heap.size w i:=z.out.trans (n.below (by have:=C.out;omega) (by simp;omega));have y:i.cell? (w.heap.size+1+1,0)=some (.int .i64 c):=zW b.cX;have J:i.frozen? (w.heap.size+1+1,0)=false:=Zu b.cX;have u:i.cell? (w.heap.size+1+1+1,0)=some (.int .i64 d):=zW b.dp;have K:i.frozen? (w.heap.size+1+1+1,0)=false:=Zu b.dp;clear n b;go_wp2;refine zj (v:= .tuple #[(0:Int),(0:Int),false]) (by simp[results,results75,go_sem,y,u]) rfl ⟨by rw[G.out];rfl, ?_⟩;exact((s.setCell (by simp;omega) _).setCell (by simp;omega) _)
theorem Sx (x:It)(B:Nat)(w:World)(c i d:Value)(h:bH w B x c i d)(l:B<=w.heap.size):
 Calls prog 54 #[.agg #[c,i,d]] w fun e w'=>e= .returned x.may/\(w,w'):=by
 have k:=za (Kr x B (w.alloc (.cells #[c,i,d] 28)) c i d (h.below (blm l)) (by simp;omega) _ (.inl rfl));obtain⟨a,b,j⟩:∃a b:Int,o8 x= .tuple #[a,b,x.may]:=⟨_,_,rfl⟩
 rw[j]at k;obtain⟨A,cap,rfl,rfl,rfl,_⟩:=h.open_;clear h j;generalize x.may=R at*;go_enter func54,ntmps54
 go_wp2_with fail
 refine k.out.mono ?_;rintro e n ⟨rfl,m⟩;go_wp2;go_ret;exact⟨rfl,(yD (zi _ _) (ze _) _).trans (m.mono (by simp))⟩
def uR (e0 e1 e2:Int):Int:=if e0≠0 then e0 else if e1≠0 then e1 else e2
def uS (e0 e1:Int)(I1 I2 I3:World->Prop)(w:World):Prop:=if e0≠0 then I1 w else if e1≠0 then I2 w else I3 w
theorem XG {b:Int}(h:b≠0)(c e:Int)(d j i:World->Prop)(w:World)(hi:d w):uR b c e=b/\uS b c d j i w:=by
 unfold uR uS;rw[zg h,zg h];exact⟨rfl,hi⟩
theorem XH {c b:Int}(h:c=0)(j:b≠0)(e:Int)(k d i:World->Prop)(w:World)(hi:d w):uR c b e=b/\uS c b k d i w:=by
 subst h;simp[uR,uS,j,hi]
theorem MC {b c:Int}(h:b=0)(j:c=0)(d:Int)(k i e:World->Prop)(w:World)(hi:e w):uR b c d=d/\uS b c k i e w:=by
 subst h;subst j;simp[uR,uS,hi]
theorem Ks (w:World)(B:Nat)(s k1 k2:Array Value)(k n o:Int)(j l q:World->Prop)
 (C:af w B 89 #[.func (.func 108) #[] s,.func (.func 110) #[] k1,.func (.func 112) #[] k2])
 (c:Calls prog 108 s w fun e w'=>e= .returned k/\j w') (u:k=0->∀d,j d->Calls prog 110 k1 d fun e w'=>e= .returned n/\l w') (y:k=0->n=0->∀F,l F->Calls prog 112 k2 F fun e w'=>e= .returned o/\q w')
 (z:∀w',j w'->af w' B 89 #[.func (.func 108) #[] s,.func (.func 110) #[] k1,.func (.func 112) #[] k2]) (A:∀w',l w'->af w' B 89 #[.func (.func 108) #[] s,.func (.func 110) #[] k1,.func (.func 112) #[] k2]):
 Calls prog 107 #[.slice (some (B,0)) 3 3] w fun e w'=>e= .returned (.int .i64 (uR k n o))/\uS k n j l q w':=by
 have O:=za c;have K:=za u;have L:=za y;have N:=za z;have J:=za A;have I:=za C;clear c u y z A C;go_enter func107,ntmps107
 go_wp2_with fail
 go_loopw [8] (fun i wr=>(i= .int .i64 0/\Hid (wr=w))\/(i= .int .i64 1/\Hid (k=0/\j wr))\/(i= .int .i64 2/\Hid (k=0/\n=0/\l wr))\/(i= .int .i64 3/\Hid (k=0/\n=0/\o=0/\q wr))) (fun i _=>3-(intOf i).toNat)
 case atStart=>exact .inl ⟨rfl,za rfl⟩
 case round=>
  rcases hrel with⟨rfl,hi⟩|⟨rfl,hi⟩|⟨rfl,hi⟩|⟨rfl,hi⟩
  ·have m:Hid (Calls prog 108 s wr fun e w'=>e= .returned k/\j w'):=za (by rw[hi.out];exact O.out);have R:Hid (af wr B 89 #[.func (.func 108) #[] s,.func (.func 110) #[] k1,.func (.func 112) #[] k2]):=za (by rw[hi.out];exact I.out);obtain⟨E,D,G⟩:=kt R.out;have p:Hid True:=za trivial;rcases eR (k)with⟨c,k1,k2⟩|⟨c,k1,k2⟩
   ·subst c;clear k1 k2 hi;go_wp2_with fail
    refine m.out.mono ?_;rintro e d ⟨rfl,b⟩;have h:=za b;clear b;go_wp2;go_roundw
    case rel=>
     have b:=h.out;exact(.inr (.inl ⟨rfl,za ⟨by simp,b⟩⟩))
    case measure=>simp[intOf]
   have x:=za c;clear c hi;go_wp2_with fail
   refine m.out.mono ?_;rintro e d ⟨rfl,b⟩;have h:=za b;clear b;go_wp2;go_ret;have b:=h.out;obtain⟨r,z2⟩:=XG x.out n o j l q d b;exact⟨by rw[r];rfl,z2⟩
  ·have m:=za (K.out hi.out.1 wr hi.out.2);obtain⟨E,D,G⟩:=kt (N.out wr hi.out.2);have p:=hi;rcases eR (n)with⟨c,k1,k2⟩|⟨c,k1,k2⟩
   ·subst c;clear k1 k2 hi;go_wp2_with fail
    refine m.out.mono ?_;rintro e d ⟨rfl,b⟩;have h:=za b;clear b;go_wp2;go_roundw
    case rel=>
     have b:=h.out;exact(.inr (.inr (.inl ⟨rfl,za ⟨p.out.1,by simp,b⟩⟩)))
    case measure=>simp[intOf]
   have x:=za c;clear c hi;go_wp2_with fail
   refine m.out.mono ?_;rintro e d ⟨rfl,b⟩;have h:=za b;clear b;go_wp2;go_ret;have b:=h.out;obtain⟨r,z2⟩:=XH p.out.1 x.out o j l q d b;exact⟨by rw[r];rfl,z2⟩
  ·have m:=za (L.out hi.out.1 hi.out.2.1 wr hi.out.2.2);obtain⟨E,D,G⟩:=kt (J.out wr hi.out.2.2);have p:=hi;rcases eR (o)with⟨c,k1,k2⟩|⟨c,k1,k2⟩
   ·subst c;clear k1 k2 hi;go_wp2_with fail
    refine m.out.mono ?_;rintro e d ⟨rfl,b⟩;have h:=za b;clear b;go_wp2;go_roundw
    case rel=>
     have b:=h.out;exact(.inr (.inr (.inr ⟨rfl,za ⟨p.out.1,p.out.2.1,by simp,b⟩⟩)))
    case measure=>simp[intOf]
   have x:=za c;clear c hi;go_wp2_with fail
   refine m.out.mono ?_;rintro e d ⟨rfl,b⟩;have h:=za b;clear b;go_wp2;go_ret;have b:=h.out;obtain⟨r,z2⟩:=MC p.out.1 p.out.2.1 o j l q d b;exact⟨by rw[r];rfl,z2⟩
  go_wp2;go_ret;obtain⟨u,y,H,M⟩:=hi.out;obtain⟨r,z2⟩:=MC u y o j l q wr M;exact⟨by rw[r,H];rfl,z2⟩
theorem Kt (w:World)(B:Nat)(s k1 k2:Array Value)(k n o:Int)(j l q:World->Prop)
 (C:af w B 89 #[.func (.func 114) #[] s,.func (.func 116) #[] k1,.func (.func 118) #[] k2])
 (c:Calls prog 114 s w fun e w'=>e= .returned k/\j w') (u:k=0->∀d,j d->Calls prog 116 k1 d fun e w'=>e= .returned n/\l w') (y:k=0->n=0->∀F,l F->Calls prog 118 k2 F fun e w'=>e= .returned o/\q w')
 (z:∀w',j w'->af w' B 89 #[.func (.func 114) #[] s,.func (.func 116) #[] k1,.func (.func 118) #[] k2]) (A:∀w',l w'->af w' B 89 #[.func (.func 114) #[] s,.func (.func 116) #[] k1,.func (.func 118) #[] k2]):
 Calls prog 107 #[.slice (some (B,0)) 3 3] w fun e w'=>e= .returned (.int .i64 (uR k n o))/\uS k n j l q w':=by
 have O:=za c;have K:=za u;have L:=za y;have N:=za z;have J:=za A;have I:=za C;clear c u y z A C;go_enter func107,ntmps107
 go_wp2_with fail
 go_loopw [8] (fun i wr=>(i= .int .i64 0/\Hid (wr=w))\/(i= .int .i64 1/\Hid (k=0/\j wr))\/(i= .int .i64 2/\Hid (k=0/\n=0/\l wr))\/(i= .int .i64 3/\Hid (k=0/\n=0/\o=0/\q wr))) (fun i _=>3-(intOf i).toNat)
 case atStart=>exact .inl ⟨rfl,za rfl⟩
 case round=>
  rcases hrel with⟨rfl,hi⟩|⟨rfl,hi⟩|⟨rfl,hi⟩|⟨rfl,hi⟩
  ·have m:Hid (Calls prog 114 s wr fun e w'=>e= .returned k/\j w'):=za (by rw[hi.out];exact O.out);have R:Hid (af wr B 89 #[.func (.func 114) #[] s,.func (.func 116) #[] k1,.func (.func 118) #[] k2]):=za (by rw[hi.out];exact I.out);obtain⟨E,D,G⟩:=kt R.out;have p:Hid True:=za trivial;rcases eR (k)with⟨c,k1,k2⟩|⟨c,k1,k2⟩
   ·subst c;clear k1 k2 hi;go_wp2_with fail
    refine m.out.mono ?_;rintro e d ⟨rfl,b⟩;have h:=za b;clear b;go_wp2;go_roundw
    case rel=>
     have b:=h.out;exact(.inr (.inl ⟨rfl,za ⟨by simp,b⟩⟩))
    case measure=>simp[intOf]
   have x:=za c;clear c hi;go_wp2_with fail
   refine m.out.mono ?_;rintro e d ⟨rfl,b⟩;have h:=za b;clear b;go_wp2;go_ret;have b:=h.out;obtain⟨r,z2⟩:=XG x.out n o j l q d b;exact⟨by rw[r];rfl,z2⟩
  ·have m:=za (K.out hi.out.1 wr hi.out.2);obtain⟨E,D,G⟩:=kt (N.out wr hi.out.2);have p:=hi;rcases eR (n)with⟨c,k1,k2⟩|⟨c,k1,k2⟩
   ·subst c;clear k1 k2 hi;go_wp2_with fail
    refine m.out.mono ?_;rintro e d ⟨rfl,b⟩;have h:=za b;clear b;go_wp2;go_roundw
    case rel=>
     have b:=h.out;exact(.inr (.inr (.inl ⟨rfl,za ⟨p.out.1,by simp,b⟩⟩)))
    case measure=>simp[intOf]
   have x:=za c;clear c hi;go_wp2_with fail
   refine m.out.mono ?_;rintro e d ⟨rfl,b⟩;have h:=za b;clear b;go_wp2;go_ret;have b:=h.out;obtain⟨r,z2⟩:=XH p.out.1 x.out o j l q d b;exact⟨by rw[r];rfl,z2⟩
  ·have m:=za (L.out hi.out.1 hi.out.2.1 wr hi.out.2.2);obtain⟨E,D,G⟩:=kt (J.out wr hi.out.2.2);have p:=hi;rcases eR (o)with⟨c,k1,k2⟩|⟨c,k1,k2⟩
   ·subst c;clear k1 k2 hi;go_wp2_with fail
    refine m.out.mono ?_;rintro e d ⟨rfl,b⟩;have h:=za b;clear b;go_wp2;go_roundw
    case rel=>
     have b:=h.out;exact(.inr (.inr (.inr ⟨rfl,za ⟨p.out.1,p.out.2.1,by simp,b⟩⟩)))
    case measure=>simp[intOf]
   have x:=za c;clear c hi;go_wp2_with fail
   refine m.out.mono ?_;rintro e d ⟨rfl,b⟩;have h:=za b;clear b;go_wp2;go_ret;have b:=h.out;obtain⟨r,z2⟩:=MC p.out.1 p.out.2.1 o j l q d b;exact⟨by rw[r];rfl,z2⟩
  go_wp2;go_ret;obtain⟨u,y,H,M⟩:=hi.out;obtain⟨r,z2⟩:=MC u y o j l q wr M;exact⟨by rw[r,H];rfl,z2⟩
theorem aa1 (x:It)(D M:Int)(B:Nat)(w:World)(l o m:Value)(h:bH w B x l o m)(u:B<=w.heap.size):
 Calls prog 111 #[.agg #[l,o,m],D,M] w fun e w'=>e= .returned (.int .i64 (fP x D M))/\(w,w'):=by
 have n:=za (Kr x B (w.alloc (.cells #[l,o,m] 28)) l o m (h.below (blm u)) (by simp;omega) _ (.inl rfl));obtain⟨A,cap,rfl,rfl,rfl,_⟩:=h.open_;clear h;cases hm:x.may with
 |false=>
  have k:Hid (o8 x= .tuple #[(0:Int),(0:Int),false]):=za (by rw[o8,hm];rfl);have b:Hid (fP x D M=1):=za (by rw[fP,zg hm]);clear hm;go_enter func111,ntmps111
  go_wp2_with fail
  refine n.out.mono ?_;rintro e q ⟨rfl,j⟩;rw[k.out];go_wp2;go_ret;rw[b.out];exact⟨rfl,(yD (zi _ _) (ze _) _).trans (j.mono (by simp))⟩
 |true=>
  obtain⟨c,p⟩:∃c,(x.count:Int)=c:=⟨_,rfl⟩
  obtain⟨d,hd⟩:∃d,(x.deep:Int)=d:=⟨_,rfl⟩
  have k:Hid (o8 x= .tuple #[c,d,true]):=za (by rw[o8,hm,<-p,<-hd];rfl);have i:fP x D M=if D<d then 6 else if M<c then 4 else 0:=by rw[fP,zf (by simp[hm]),p,hd]
  clear hm p hd;by_cases r:D<d
  ·have b:Hid (fP x D M=6):=za (by rw[i,zg r]);clear i;go_enter func111,ntmps111
   go_wp2_with fail
   refine n.out.mono ?_;rintro e q ⟨rfl,j⟩;rw[k.out];go_wp2;go_ret;rw[b.out];exact⟨rfl,(yD (zi _ _) (ze _) _).trans (j.mono (by simp))⟩
  rw[zf r]at i;by_cases s:M<c
  ·have b:Hid (fP x D M=4):=za (by rw[i,zg s]);clear i;go_enter func111,ntmps111
   go_wp2_with fail
   refine n.out.mono ?_;rintro e q ⟨rfl,j⟩;rw[k.out];go_wp2;go_ret;rw[b.out];exact⟨rfl,(yD (zi _ _) (ze _) _).trans (j.mono (by simp))⟩
  have b:Hid (fP x D M=0):=za (by rw[i,zf s]);clear i;go_enter func111,ntmps111
  go_wp2_with fail
  refine n.out.mono ?_;rintro e q ⟨rfl,j⟩;rw[k.out];go_wp2;go_ret;rw[b.out];exact⟨rfl,(yD (zi _ _) (ze _) _).trans (j.mono (by simp))⟩
mutual
def oI (w:World)(lo:Nat):It->Value->Value->Value->Prop
 | .mk t l s,c0,c1,c2=>c0= .string t/\c1= .bool l/\t.size<=9223372036854775807/\s.length<=9223372036854775807/\∃A cap,c2= .slice A s.length cap/\s.length<=cap/\cap<=9223372036854775807/\rq w lo s A 0
def rq (w:World)(lo:Nat):List It->Option Addr->Nat->Prop
 | [],_,_=>True
 |x::xs,A,i=>(∃b c0 c1 c2,A=some ⟨b,0,none⟩/\lo<=b/\w.cell? ⟨b,i*3,none⟩=some c0/\w.cell? ⟨b,i*3+1,none⟩=some c1/\w.cell? ⟨b,i*3+2,none⟩=some c2/\(∀o,w.frozen? ⟨b,o,none⟩=false)/\oI w lo x c0 c1 c2)/\rq w lo xs A (i+1)
end
theorem rq.at_ {c:Nat}:∀{s:List It} {i:Nat},rq w c s A i->∀(j:Nat) (h:j<s.length),∃b e k d,A=some ⟨b,0,none⟩/\c<=b/\w.cell? ⟨b,(i+j)*3,none⟩=some e/\w.cell? ⟨b,(i+j)*3+1,none⟩=some k/\w.cell? ⟨b,(i+j)*3+2,none⟩=some d/\(∀o,w.frozen? ⟨b,o,none⟩=false)/\oI w c s[j] e k d
 | [],_,_,j,h=>by simp at h
 |x::xs,i,hi,0,_=>by simpa[rq]using hi.1
 |x::xs,i,hi,j+1,h=>by
  have:=rq.at_ hi.2 j (by simpa using h);rw[show i+1+j=i+(j+1)from by omega]at this;simpa using this
theorem rq.uK {c:Nat}:∀{s:List It} {i:Nat},(∀(j:Nat) (h:j<s.length),∃b d k e,A=some ⟨b,0,none⟩/\c<=b/\w.cell? ⟨b,(i+j)*3,none⟩=some d/\w.cell? ⟨b,(i+j)*3+1,none⟩=some k/\w.cell? ⟨b,(i+j)*3+2,none⟩=some e/\(∀o,w.frozen? ⟨b,o,none⟩=false)/\oI w c s[j] d k e)->rq w c s A i
 | [],_,_=>by simp[rq]
 |x::xs,i,h=>by
  refine⟨h 0 (Yf _),rq.uK fun j l=> ?_⟩;have:=h (j+1) (by simpa using l);rw[show i+(j+1)=i+1+j from by omega]at this;simpa using this
theorem oI.open_ {b:Nat}{c:Value}(h:oI w b x c e d):∃A cap,c= .string x.text/\e= .bool x.list/\d= .slice A x.sub.length cap/\x.text.size<=9223372036854775807/\x.sub.length<=cap/\cap<=9223372036854775807/\rq w b x.sub A 0:=by
 cases x with
 |mk t l s=>
  obtain⟨n,k,j,q,A,cap,m,o,p,i⟩:=h;exact⟨A,cap,n,k,m,j,o,p,i⟩
theorem oI.ah {e:Nat}(J:lo'<=e)(B:∀b,e<=b->b<w.heap.size->w'.heap[b]?=w.heap[b]?):∀(x:It) {d k i:Value},oI w e x d k i->oI w' lo' x d k i:=by
 intro x;induction x using It.ind with
 |h t l s ih=>
  intro d k i h;obtain⟨F,q,C,E,A,cap,I,G,r,p⟩:=h;refine⟨F,q,C,E,A,cap,I,G,r,rq.uK fun j n=> ?_⟩;obtain⟨b,d0,d1,d2,y,u,m,D,H,z,hi⟩:=p.at_ j n;have c:=B b u (lt_of_cell m);exact⟨b,d0,d1,d2,y,by omega,(zy c).trans m,(zy c).trans D,(zy c).trans H,fun o=>(World.frozen?_of_block c).trans (z o),ih _ (zA n) hi⟩
theorem oI.below {c:Nat}(h:oI w c x d i e)(k:Below w.heap.size w w'):oI w' c x d i e:=oI.ah (ze _) (fun b _ j=>k.block b j) x h
theorem oI.uL {p:Nat}:∀(x:It) {c e d:Value},oI w p x c e d->bH w w.heap.size x c e d:=by
 intro x;induction x using It.ind with
 |h t l s ih=>
  intro c e d h;obtain⟨C,u,q,B,A,cap,y,D,z,n⟩:=h;refine⟨C,u,q,B,A,cap,y,D,z,bN.uK fun j k=> ?_⟩;obtain⟨b,d0,d1,d2,o,E,i,r,m,_,hi⟩:=n.at_ j k;exact⟨b,0,d0,d1,d2,o,lt_of_cell i,by simpa using i,by simpa using r,by simpa using m,ih _ (zA k) hi⟩
def BV (w:World)(lo B g n k:Nat)(s:List It):Prop:=
 (∃cur,af w g 28 cur/\n*3<=cur.size)/\∀j (h:j<s.length),∃d0 d1 d2,w.cell? ⟨g,j*3,none⟩=some d0/\w.cell? ⟨g,j*3+1,none⟩=some d1/\w.cell? ⟨g,j*3+2,none⟩=some d2/\(k<=j->bH w B s[j] d0 d1 d2)/\(j<k->oI w lo s[j] d0 d1 d2)
theorem BV.ah {e:Nat}(h:BV w e B g n k s)(b:Below w.heap.size w w')(l:B<=w.heap.size):BV w' e B g n k s:=by
 obtain⟨⟨y,c,u⟩,r⟩:=h;refine⟨⟨y,c.ah b c.lt,u⟩,fun j q=> ?_⟩;obtain⟨d0,d1,d2,i,p,m,o,x⟩:=r j q;exact⟨d0,d1,d2,(b.cell c.lt).trans i,(b.cell c.lt).trans p,(b.cell c.lt).trans m,fun d=>(o d).below (b.mono l),fun d=>(x d).below b⟩
theorem BV.put {q:Nat}(h:BV w q B g n k s)(R:k<s.length)(M:s.length=n)(W:g<q)(S:B<=g){c o:Value}(J:oI w q s[k] c o i):
 BV (((w.setCell ⟨g,k*3,none⟩ c).setCell ⟨g,k*3+1,none⟩ o).setCell ⟨g,k*3+2,none⟩ i) q B g n (k+1) s:=by
 obtain⟨⟨O,r,H⟩,L⟩:=h;have C:ae [g] w (((w.setCell ⟨g,k*3,none⟩ c).setCell ⟨g,k*3+1,none⟩ o).setCell ⟨g,k*3+2,none⟩ i):=((((ae.refl [g] w).setCell (p:=⟨g,k*3,none⟩) (by simp) _).setCell (p:=⟨g,k*3+1,none⟩) (by simp) _).setCell (p:=⟨g,k*3+2,none⟩) (by simp) _)
 have m:=((r.set (k*3) c).set (k*3+1) o).set (k*3+2) i;refine⟨⟨_,m,by simpa using H⟩,fun j K=> ?_⟩;obtain⟨d0,d1,d2,u,y,A,D,F⟩:=L j K;have E:∀{x:It} {l e d:Value},bH w B x l e d->bH (((w.setCell ⟨g,k*3,none⟩ c).setCell ⟨g,k*3+1,none⟩ o).setCell ⟨g,k*3+2,none⟩ i) B x l e d:=fun{x} {l} {e} {d} hi=>
  bH.ah (ze _) (fun p U=>C.cell (by have:=r.lt;omega) (by simp;omega)) x hi
 have z:∀{x:It} {l e d:Value},oI w q x l e d->oI (((w.setCell ⟨g,k*3,none⟩ c).setCell ⟨g,k*3+1,none⟩ o).setCell ⟨g,k*3+2,none⟩ i) q x l e d:=fun{x} {l} {e} {d} hi=>
  oI.ah (ze _) (fun b N G=>C.block b G (by simp;omega)) x hi
 by_cases I:j=k
 ·subst I;refine⟨c,o,i, ?_, ?_, ?_,fun h=>by omega,fun _=>z J⟩
  ·rw[m.cell];simp[yT];omega
  ·rw[m.cell];simp[yT];omega
  rw[m.cell];simp[yT];omega
 refine⟨d0,d1,d2, ?_, ?_, ?_,fun h=>E (D (by omega)),fun h=>z (F (by omega))⟩
 ·rw[m.cell];rw[r.cell]at u;simp[yT];rw[zf (by omega),zf (by omega),zf (by omega)];exact u
 ·rw[m.cell];rw[r.cell]at y;simp[yT];rw[zf (by omega),zf (by omega),zf (by omega)];exact y
 rw[m.cell];rw[r.cell]at A;simp[yT];rw[zf (by omega),zf (by omega),zf (by omega)];exact A
theorem BV.done {b:Nat}(h:BV w b B g n k s)(r:s.length<=k)(x:g<b)(q:lo'<=g):rq w lo' s (some ⟨g,0,none⟩) 0:=by
 obtain⟨⟨y,p,u⟩,l⟩:=h;refine rq.uK fun j i=> ?_
 obtain⟨d0,d1,d2,c,e,d,_,m⟩:=l j i;exact⟨g,d0,d1,d2,rfl,q,by simpa using c,by simpa using e,by simpa using d,fun o=>p.frozen o,oI.ah (by omega) (fun _ _ _=>rfl) _ (m (by omega))⟩
theorem Ku {base cap:Nat}{b:List Value}(F:s≠ [])(q:w'.ownsRow base 28 3 (.slice A s.length cap) s.length b)(E:eY w B s b)(y:Below w.heap.size w w')(G:B<=w.heap.size):
 ∃g,A=some ⟨g,0,none⟩/\base<=g/\g<w'.heap.size/\BV w' (g+1) B g s.length 0 s:=by
 rcases q.2 with⟨p,o⟩|⟨g,L,z,D,I,r,J,K,hz,M⟩
 ·exact absurd (zk o) F
 injection D with hA _ hc;subst hA;subst hc;refine⟨g,rfl,I,yp r,⟨z,r,by rw[hz];omega⟩,fun j e=> ?_⟩;have key:∀{s:List It} {b:List Value},eY w B s b->∀j (e:j<s.length),∃d c k,b[j*3]?=some d/\b[j*3+1]?=some c/\b[j*3+2]?=some k/\bH w B s[j] d c k:=by
  intro s;induction s with
  |nil=>intro b _ j e;simp at e
  |cons x xs ih=>
   intro b h j e;obtain⟨C,m,H,N,rfl,p,o⟩:=h;cases j with
   |zero=>exact⟨C,m,H,rfl,rfl,rfl,p⟩
   |succ j=>
    obtain⟨d,c,k,n,k1,k2,l⟩:=ih o j (by simpa using e);refine⟨d,c,k, ?_, ?_, ?_,by simpa using l⟩
    ·rw[show(j+1)*3=j*3+3 from by omega];simpa using n
    ·rw[show(j+1)*3+1=(j*3+1)+3 from by omega];simpa using k1
    rw[show(j+1)*3+2=(j*3+2)+3 from by omega];simpa using k2
 obtain⟨d,c,k,n,k1,k2,l⟩:=key E j e;have cell:∀i u,b[i]?=some u->w'.cell? ⟨g,i,none⟩=some u:=fun i u hu=>by
  have:=q.cells rfl i u hu;have m:(⟨g,0,none⟩:Addr).add i=⟨g,i,none⟩:=by unfold Addr.add;split<;>simp_all
  rwa [m]at this
 exact⟨d,c,k,cell _ _ n,cell _ _ k1,cell _ _ k2,fun _=>l.below (y.mono G),fun h=>by omega⟩
theorem aa2 :∀(x:It) (B:Nat) (w:World) (z C L:Value),bH w B x z C L->B<=w.heap.size->x.count<=1000000->
 Calls prog 55 #[.agg #[z,C,L]] w fun e w'=>(∃F,e= .returned (.agg #[z,C,F])/\oI w' w.heap.size x z C F)/\Below w.heap.size w w':=by
 intro x;induction x using It.ind with
 |h t l s ih=>
  intro B w z C L h hB rL;obtain⟨rfl,rfl,W,E,A,cap,rfl,od,jf,da⟩:=h;have IH:=za ih;have HS:=za da;clear ih da;have Py:aC s<=1000000:=by simp only[It.count]at rL;omega
  have au:=sw s;clear rL;have N:Below w.heap.size w ((w.alloc (.cells #[.string t,.bool l,.slice A s.length cap] 28)).alloc (.cells #[.string ⟨#[]⟩,.bool false,.slice none 0 0] 28)):=bQ;have H:=za (Vt s A B cap _ (HS.out.below (N.mono hB)) (by simp;omega) (by omega));have Ce:=za N;have Qo:af ((w.alloc (.cells #[.string t,.bool l,.slice A s.length cap] 28)).alloc (.cells #[.string ⟨#[]⟩,.bool false,.slice none 0 0] 28)) w.heap.size 28 #[.string t,.bool l,.slice A s.length cap]:=(af.new w _ _).alloc _;have KU:af ((w.alloc (.cells #[.string t,.bool l,.slice A s.length cap] 28)).alloc (.cells #[.string ⟨#[]⟩,.bool false,.slice none 0 0] 28)) (w.heap.size+1) 28 #[.string ⟨#[]⟩,.bool false,.slice none 0 0]:=by
   have:=af.new (w.alloc (.cells #[.string t,.bool l,.slice A s.length cap] 28)) 28 #[.string ⟨#[]⟩,.bool false,.slice none 0 0];simpa using this
  have ag:=za Qo;have ah:=za KU;clear N Qo KU;go_enter func55,ntmps55
  go_wp2_with fail
  refine H.out.mono ?_;rintro e w2 ⟨⟨A',j,cs,rfl,X,O,_,Y,ho⟩,q⟩;have o:=za (ag.out.ah q (by simp;omega));have m:=za (ah.out.ah q (by simp));have n:Hid (Below w.heap.size w w2):=za (Ce.out.trans (q.mono (by simp;omega)));have gy:=za (fun E=>Ku E ho Y q (by simp;omega));clear Y ho q H ag ah Ce;obtain⟨g0,g1,g2,aa,ad,ab⟩:=bq o.out;obtain⟨J,K,D,mf,Z,mh⟩:=bq m.out;by_cases S:s= []
  ·subst S;go_wp2_with fail
   refine zZ 1 ?_;rw[yh];go_wp2;refine zj (v:= .agg #[.string t,.bool l,.slice A' 0 j]) (by simp[results,results55,go_sem,J,K,D]) rfl ?_;exact⟨⟨_,rfl,rfl,rfl,W,by simp,A',j,rfl,by simp,O,trivial⟩,((n.out.setCell (by simp) _).setCell (by simp) _).setCell (by simp) _⟩
  obtain⟨g,rfl,Dp,pZ,c⟩:=gy.out S;simp only[zp]at Dp;have r:=za c;clear c S gy;go_wp2_with fail
  go_loopw [10] (fun i wr=>∃k:Nat,k<=s.length/\i= .int .i64 k/\BV wr (g+1) B g s.length k s/\Below w.heap.size w wr/\af wr w.heap.size 28 #[.string t,.bool l,.slice A s.length cap]/\af wr (w.heap.size+1) 28 #[.string ⟨#[]⟩,.bool false,.slice none 0 0]/\g<wr.heap.size) (fun i _=>s.length-(intOf i).toNat)
  case atStart=>exact⟨0,by omega,rfl,r.out,n.out,o.out,m.out,pZ⟩
  case round=>
   clear g0 g1 g2 aa ad ab J K D mf Z mh r n o m;obtain⟨k,hk,rfl,c,G,hx,R,aq⟩:=hrel;have r:=za c;have n:=za G;have o:=za hx;have m:=za R;have I6:=G.size;obtain⟨g0,g1,g2,aa,ad,ab⟩:=bq hx;obtain⟨J,K,D,mf,Z,mh⟩:=bq R;clear G hx R;by_cases u:k<s.length
   ·obtain⟨d0,d1,F,e0,e1,e2,y,_⟩:=c.2 k u;have y:=y (ze _);have hG:=zA u;have pn:s[k].count<=1000000:=by
     have:=Ab s (k+1);rw[fo s k u,oX]at this;simp only[aC]at this;omega
    have H:=za (IH.out _ hG B wr d0 d1 F y (by omega) pn);obtain⟨AA,oh,rfl,rfl,rfl,_⟩:=y.open_;clear y c;go_wp2_with fail
    refine H.out.mono ?_;rintro e w3 ⟨⟨f2,rfl,U⟩,d⟩;have av:=d.size;obtain⟨BB,PL,_,_,rfl,_⟩:=U.open_;have ak:=r.out.ah d (by omega);obtain⟨⟨ao,I,_⟩,bZ⟩:=ak;obtain⟨k0,k1,k2,m0,m1,m2,_⟩:=bZ k u;have n0:=I.frozen (k*3);have n1:=I.frozen (k*3+1);have n2:=I.frozen (k*3+2);have fT:=za (n.out.trans (d.mono I6));have al:=za (o.out.ah d o.out.lt);have an:=za (m.out.ah d m.out.lt);have E3:=za ((r.out.ah d (by omega)).put u rfl (by omega) (by omega) (oI.ah (lo':=g+1) (by omega) (fun _ _ _=>rfl) _ U));clear d U I bZ;go_wp2;go_roundw
    case rel=>
     refine⟨k+1,by omega,by go_num,E3.out,((fT.out.setCell (by simp;omega) _).setCell (by simp;omega) _).setCell (by simp;omega) _,((al.out.dI (by simp;omega) _).dI (by simp;omega) _).dI (by simp;omega) _,((an.out.dI (by simp;omega) _).dI (by simp;omega) _).dI (by simp;omega) _,by simp[World.setCell];omega⟩
    case measure=>simp[intOf];omega
   have HD:=za (c.done (by omega) (by omega) (lo':=w.heap.size+2) (by omega));clear c;go_wp2;refine zj (v:= .agg #[.string t,.bool l,.slice (some ⟨g,0,none⟩) s.length j]) (by simp[results,results55,go_sem,J,K,D]) rfl ?_;refine⟨⟨_,rfl,rfl,rfl,W,E,some ⟨g,0,none⟩,j,rfl,X,O, ?_⟩,((n.out.setCell (by simp) _).setCell (by simp) _).setCell (by simp) _⟩;have rR:oI wr (w.heap.size+2) (.mk t l s) (.string t) (.bool l) (.slice (some ⟨g,0,none⟩) s.length j):=⟨rfl,rfl,W,E,some ⟨g,0,none⟩,j,rfl,X,O,HD.out⟩
   have ai:=oI.ah (lo':=w.heap.size) (w':=((wr.setCell ⟨w.heap.size+1,0,none⟩ (.string t)).setCell ⟨w.heap.size+1,1,none⟩ (.bool l)).setCell ⟨w.heap.size+1,2,none⟩ (.slice (some ⟨g,0,none⟩) s.length j)) (by omega) (fun b G hl=>((((ae.refl [w.heap.size+1] wr).setCell (p:=⟨w.heap.size+1,0,none⟩) (by simp) _).setCell (p:=⟨w.heap.size+1,1,none⟩) (by simp) _).setCell (p:=⟨w.heap.size+1,2,none⟩) (by simp) _).block b hl (by simp;omega)) _ rR;obtain⟨_,_,_,_,A9,ar,M,_,_,vF⟩:=ai;injection M with M;subst M;exact vF
theorem aa3 (x:It)(B:Nat)(w:World)(d i z:Value)(h:bH w B x d i z)(y:B<=w.heap.size)(j:x.may=true):
 Calls prog 37 #[.agg #[d,i,z]] w fun e w'=>(∃n,e= .returned (.agg #[d,i,n])/\oI w' w.heap.size x d i n)/\Below w.heap.size w w':=by
 have H:x.count<=1000000:=by simp only[It.may,zv,zU]at j;omega
 have o:=za h;obtain⟨A,cap,rfl,rfl,rfl,_⟩:=h.open_;have l:Below w.heap.size w ((w.alloc (.cells #[.string x.text,.bool x.list,.slice A x.sub.length cap] 28)).alloc (.cells #[.string ⟨#[]⟩,.bool false,.slice none 0 0] 28)):=bQ;have r:=za (Sx x B _ _ _ _ (o.out.below (l.mono y)) (by simp;omega));rw[j]at r;have u:af ((w.alloc (.cells #[.string x.text,.bool x.list,.slice A x.sub.length cap] 28)).alloc (.cells #[.string ⟨#[]⟩,.bool false,.slice none 0 0] 28)) w.heap.size 28 #[.string x.text,.bool x.list,.slice A x.sub.length cap]:=(af.new w _ _).alloc _;have s:af ((w.alloc (.cells #[.string x.text,.bool x.list,.slice A x.sub.length cap] 28)).alloc (.cells #[.string ⟨#[]⟩,.bool false,.slice none 0 0] 28)) (w.heap.size+1) 28 #[.string ⟨#[]⟩,.bool false,.slice none 0 0]:=by
  have:=af.new (w.alloc (.cells #[.string x.text,.bool x.list,.slice A x.sub.length cap] 28)) 28 #[.string ⟨#[]⟩,.bool false,.slice none 0 0];simpa using this
 have G:=za l;have J:=za u;have I:=za s;clear h l j u s;go_enter func37,ntmps37
 go_wp2_with fail
 refine r.out.mono ?_;rintro e C ⟨rfl,c⟩;have N:=c.size;simp only[zp]at N;have q:Hid (Below w.heap.size w C):=za (G.out.trans (c.mono (by simp;omega)));obtain⟨g0,g1,g2,W,aa,X⟩:=bq (J.out.ah c (by simp;omega));have E:=za (I.out.ah c (by simp));have O:=za (aa2 x B C _ _ _ (o.out.below (q.out.mono y)) (by omega) H);clear c;go_wp2_with fail
 refine O.out.mono ?_;rintro e w3 ⟨⟨n,rfl,m⟩,k⟩;obtain⟨R,U,D,mf,mi,Z⟩:=bq (E.out.ah k (by omega));have K:=za m;have M:Hid (Below w.heap.size w w3):=za (q.out.trans (k.mono (by omega)));obtain⟨L,S,_,_,rfl,_⟩:=m.open_;clear m k;go_wp2;refine zj (v:= .agg #[.string x.text,.bool x.list,.slice L x.sub.length S]) (by simp[results,results37,go_sem,R,U,D]) rfl ?_;refine⟨⟨_,rfl, ?_⟩,((M.out.setCell (by simp) _).setCell (by simp) _).setCell (by simp) _⟩;exact oI.ah (by omega) (fun b Y F=>((((ae.refl [w.heap.size+1] w3).setCell (p:=⟨w.heap.size+1,0,none⟩) (by simp) _).setCell (p:=⟨w.heap.size+1,1,none⟩) (by simp) _).setCell (p:=⟨w.heap.size+1,2,none⟩) (by simp) _).block b F (by simp;omega)) _ K.out
theorem OX :∀(x:Ty) (B:Nat) (w:World) (y M K D:Value),cz w B x y M K D->B<=w.heap.size->True->
 Calls prog 45 #[.agg #[y,M,K,D]] w fun e w'=>e= .returned (.bool (!x.full))/\(w,w'):=by
 intro x;induction x using Ty.ind with
 |h ki s l ta ih=>
  intro B w y M K D h Z _;obtain⟨rfl,rfl,rfl,S,O,H,hs,A,cap,rfl,od,jf,U⟩:=h;have Y:=za ih;have HS:=za U;have aa:=za H;unfold mM at S O H;obtain⟨To,Tp⟩:=S;obtain⟨Ts,Tr⟩:=O;obtain⟨Tq,K4⟩:=H;clear ih U;obtain⟨R,G⟩:∃R,Hid ((!(Ty.mk ki s l ta).full)=R):=⟨_,za rfl⟩
  rw[G.out];by_cases j:ta=0
  ·subst j;have r:Hid (R= !(cc l)):=za (by rw[<-G.out];rfl);go_enter func45,ntmps45
   go_wp2_with fail
   go_loopw [3] (fun i wr=>∃k:Nat,k<=l.length/\i= .int .i64 k/\Hid (cc (l.take k)=true)/\(w,wr)/\(wr,w.heap.size,2,Value.slice A l.length cap)) (fun i _=>l.length-(intOf i).toNat)
   case atStart=>exact⟨0,by omega,rfl,za (by simp[cc]),bQ,by simp⟩
   case round=>
    obtain⟨k,hk,rfl,N,c,u⟩:=hrel;by_cases n:k<l.length
    ·obtain⟨b,o,d0,d1,d2,d3,rfl,gu,F,q,I,C,hi⟩:=HS.out.at_ k n;simp only[zK]at F q I C;replace F:=(c.cell (p:=(b,o+k*4)) (by simp;omega)).trans F;replace q:=(c.cell (p:=(b,o+k*4+1)) (by simp;omega)).trans q;replace I:=(c.cell (p:=(b,o+k*4+2)) (by simp;omega)).trans I;replace C:=(c.cell (p:=(b,o+k*4+3)) (by simp;omega)).trans C;have W:=c.size;have hG:=zA n;have J:=hi.below (c.mono Z);have m:=za (Y.out _ hG B wr d0 d1 d2 d3 J (by omega) trivial);cases hf:l[k].full with
     |true=>
      rw[hf]at m;have L:Hid (cc (l.take (k+1))=true):=za (by rw[l5 n,N.out,hf];rfl);clear hf hi J;go_wp2_with fail
      refine m.out.mono ?_;rintro e w2 ⟨rfl,d⟩;have iV:=lt_of_cell u;have X:=(d.cell (p:=(w.heap.size,2)) (by simp;omega)).trans u;have E:=c.trans (d.mono W);go_wp2;go_roundw
      case rel=>exact⟨k+1,by omega,by go_num,L,E,X⟩
      case measure=>simp[intOf];omega
     |false=>
      rw[hf]at m;have L:Hid (cc l=false):=za (rp n hf);clear hf hi J;go_wp2_with fail
      refine m.out.mono ?_;rintro e w2 ⟨rfl,d⟩;have iV:=lt_of_cell u;have X:=(d.cell (p:=(w.heap.size,2)) (by simp;omega)).trans u;have E:=c.trans (d.mono W);go_wp2;go_ret;exact⟨by rw[r.out,L.out];rfl,E⟩
    have z:=N.out;rw[zw (by omega)]at z;have HM:=za z;clear z;go_wp2;go_ret;exact⟨by rw[r.out,HM.out];rfl,c⟩
  have q:(ta !=0)=true:=yL.2 j;have r:Hid (R=true):=za (by rw[<-G.out,MB,Ty.DM,zt j];rfl);clear j;go_enter func45,ntmps45
  go_wp2;go_ret;exact⟨by rw[r.out];rfl,bQ⟩
theorem OY (x:Ty)(B:Nat)(w:World)(j q n m:Value)(h:cz w B x j q n m)(hB:B<=w.heap.size)(X:x.count<=4611686018427387904):
 Calls prog 27 #[.agg #[j,q,n,m]] w fun e w'=>e= .returned x.flat/\(w,w'):=by
 have YL:=za (fun V (O:Below w.heap.size w V)=>Mh x B V j q n m (h.below (O.mono hB)) (by have:=O.size;omega) X);obtain⟨u,s,l,z⟩:=x;obtain⟨rfl,rfl,rfl,rH,Dt,oO,hs,A,cap,rfl,od,jf,W⟩:=h;have HS:=za W;have IH:Hid (∀y∈l,∀(B:Nat) (w:World) (j q n m:Value),cz w B y j q n m->B<=w.heap.size->True->Calls prog 45 #[.agg #[j,q,n,m]] w fun e w'=>e= .returned (.bool (!y.full))/\(w,w')):=za (fun y _=>OX y);have U:Hid ((Ty.mk u s l z).flat=((Ty.mk u s l z).may&&cc l)):=za rfl;unfold mM at rH Dt oO;clear W X;generalize (Ty.mk u s l z).flat=R at*;generalize (Ty.mk u s l z).may=MY at*;have Z:Hid (R=(MY&&cc l)):=U;clear U;go_enter func27,ntmps27
 go_wp2_with fail
 go_loopw [3] (fun i wr=>∃k:Nat,k<=l.length/\i= .int .i64 k/\Hid (cc (l.take k)=true)/\(w,wr)/\(wr,w.heap.size,2,Value.slice A l.length cap)/\Below (w.heap.size+1) (w.alloc (.cells #[u,s,.slice A l.length cap,z] 70)) wr) (fun i _=>l.length-(intOf i).toNat)
 case atStart=>exact⟨0,by omega,rfl,za (by simp[cc]),bQ,by simp,zi _ _⟩
 case round=>
  obtain⟨k,hk,rfl,S,c,F,N⟩:=hrel;by_cases D:k<l.length
  ·obtain⟨b,o,d0,d1,d2,d3,rfl,gu,I,J,K,H,hi⟩:=HS.out.at_ k D;simp only[zK]at I J K H;replace I:=(c.cell (p:=(b,o+k*4)) (by simp;omega)).trans I;replace J:=(c.cell (p:=(b,o+k*4+1)) (by simp;omega)).trans J;replace K:=(c.cell (p:=(b,o+k*4+2)) (by simp;omega)).trans K;replace H:=(c.cell (p:=(b,o+k*4+3)) (by simp;omega)).trans H;have E:=c.size;have hG:=zA D;have L:=hi.below (c.mono hB);have C:=za (IH.out _ hG B wr d0 d1 d2 d3 L (by omega) trivial);have aa:=N.size;cases hf:l[k].full with
   |true=>
    rw[hf]at C;have M:Hid (cc (l.take (k+1))=true):=za (by rw[l5 D,S.out,hf];rfl);clear hf hi L;go_wp2_with fail
    refine C.out.mono ?_;rintro e w2 ⟨rfl,d⟩;have ab:=N.trans (d.mono (by simpa using aa));have iV:=lt_of_cell F;have Y:=(d.cell (p:=(w.heap.size,2)) (by simp;omega)).trans F;have r:=c.trans (d.mono E);go_wp2;go_roundw
    case rel=>exact⟨k+1,by omega,by go_num,M,r,Y,ab⟩
    case measure=>simp[intOf];omega
   |false=>
    rw[hf]at C;have M:Hid (cc l=false):=za (rp D hf);clear hf hi L;go_wp2_with fail
    refine C.out.mono ?_;rintro e w2 ⟨rfl,d⟩;have iV:=lt_of_cell F;have Y:=(d.cell (p:=(w.heap.size,2)) (by simp;omega)).trans F;have r:=c.trans (d.mono E);go_wp2;go_ret;exact⟨by rw[Z.out,M.out,Bool.and_false];rfl,r⟩
  have G:=S.out;rw[zw (by omega)]at G;have HM:=za G;obtain⟨q0,q1,q2,q3⟩:=Og N;have E:=c.size;have sq:=za (YL.out wr c);have HB:=za c;clear G;go_wp2_with fail
  refine sq.out.mono ?_;rintro e w2 ⟨rfl,d⟩;have r:=HB.out.trans (d.mono E);go_wp2;go_ret;exact⟨by rw[Z.out,HM.out,Zq];rfl,r⟩
