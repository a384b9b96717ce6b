/- Package schema: May. -/
import Derived.Laws.EntriesVeiled
import Derived.Test.YtdbmifjankgfpaaGreatDoorKA24
set_option linter.all false
set_option maxRecDepth 100000
set_option maxHeartbeats 2000000
open Go.Proofs.Tryz
namespace Go.Proofs.YtdbmifjankgfpaaGreatDoor
open Go.RowKit
variable {w w':World}{B k:Nat}{s:List Ty}
def Laid (w:World):Prop:=w.cell? ⟨1,0,none⟩=some (.int .i64 1)/\w.cell? ⟨1,1,none⟩=some (.int .i64 2)/\w.cell? ⟨1,2,none⟩=some (.int .i64 4)/\w.cell? ⟨1,3,none⟩=some (.int .i64 8)
theorem Laid.pos (h:Laid w):1<w.heap.size:=lt_of_cell h.1
theorem Laid.same (h:Laid w)(b:w'.heap[1]?=w.heap[1]?):Laid w':=
 ⟨(zF b).trans h.1,(zF b).trans h.2.1,(zF b).trans h.2.2.1,(zF b).trans h.2.2.2⟩
theorem Laid.below (h:Laid w)(c:Below B w w')(b:1<B):Laid w':=h.same (c.block 1 b)
theorem Laid.only {L:List Nat}(h:Laid w)(b:ae L w w')(c:1∉L):Laid w':=h.same (b.block 1 h.pos c)
theorem Laid.alloc {w:World}(h:Laid w)(o:Obj):Laid (w.alloc o):=h.below ((zl w.heap.size w).alloc (zg _) o) h.pos
def lV (n:Int):Bool:=decide (n=1\/n=2\/n=4\/n=8)
theorem QQ (n:Int)(w:World)(h:Laid w):Calls prog 236 #[.int .i64 n] w fun e w'=>e= .returned (.bool (lV n))/\w=w':=by
 obtain⟨z,C,y,B⟩:=h;obtain⟨R,l⟩:∃R,Hid (lV n=R):=⟨_,za rfl⟩
 rw[l.out];have D:∀w,(Instr.index 292 (.agg #[.int .i64 1,.int .i64 2,.int .i64 4,.int .i64 8]) (.int .i64 0)).run prog w= .ok (.int .i64 1) w:=fun _=>by kernel_rfl
 have i1:∀w,(Instr.index 292 (.agg #[.int .i64 1,.int .i64 2,.int .i64 4,.int .i64 8]) (.int .i64 1)).run prog w= .ok (.int .i64 2) w:=fun _=>by kernel_rfl
 have i2:∀w,(Instr.index 292 (.agg #[.int .i64 1,.int .i64 2,.int .i64 4,.int .i64 8]) (.int .i64 2)).run prog w= .ok (.int .i64 4) w:=fun _=>by kernel_rfl
 have x:∀w,(Instr.index 292 (.agg #[.int .i64 1,.int .i64 2,.int .i64 4,.int .i64 8]) (.int .i64 3)).run prog w= .ok (.int .i64 8) w:=fun _=>by kernel_rfl
 go_enter func236,ntmps236
 go_wp2_with fail
 go_loop [6] (fun i=>∃k:Nat,k<=4/\i= .int .i64 k/\Hid (∀j,j<k->n≠([1,2,4,8]:List Int).getD j 0)) (fun i=>4-(intOf i).toNat)
 case atStart=>exact⟨0,by omega,rfl,za (by omega)⟩
 case round=>
  obtain⟨k,A,rfl,m⟩:=hrel;have key:k=0\/k=1\/k=2\/k=3\/k=4:=by omega
  rcases key with rfl|rfl|rfl|rfl|rfl
  ·by_cases b:n=1
   ·have c:Hid (R=true):=za (by rw[<-l.out];unfold lV;rw[zD];omega);subst b;go_wp2;go_ret;exact⟨by rw[c.out];rfl,rfl⟩
   have p:(n==(1:Int))=false:=zm.2 b;have d:Hid (∀j,j<0+1->n≠([1,2,4,8]:List Int).getD j 0):=za (fun j q=>by
    by_cases h:j=0
    ·subst h;simpa using b
    exact m.out j (by omega))
   clear b;go_wp2;go_round
   case rel=>exact⟨0+1,by omega,by go_num,d⟩
   case measure=>simp[intOf]
  ·by_cases b:n=2
   ·have c:Hid (R=true):=za (by rw[<-l.out];unfold lV;rw[zD];omega);subst b;go_wp2;go_ret;exact⟨by rw[c.out];rfl,rfl⟩
   have p:(n==(2:Int))=false:=zm.2 b;have d:Hid (∀j,j<1+1->n≠([1,2,4,8]:List Int).getD j 0):=za (fun j q=>by
    by_cases h:j=1
    ·subst h;simpa using b
    exact m.out j (by omega))
   clear b;go_wp2;go_round
   case rel=>exact⟨1+1,by omega,by go_num,d⟩
   case measure=>simp[intOf]
  ·by_cases b:n=4
   ·have c:Hid (R=true):=za (by rw[<-l.out];unfold lV;rw[zD];omega);subst b;go_wp2;go_ret;exact⟨by rw[c.out];rfl,rfl⟩
   have p:(n==(4:Int))=false:=zm.2 b;have d:Hid (∀j,j<2+1->n≠([1,2,4,8]:List Int).getD j 0):=za (fun j q=>by
    by_cases h:j=2
    ·subst h;simpa using b
    exact m.out j (by omega))
   clear b;go_wp2;go_round
   case rel=>exact⟨2+1,by omega,by go_num,d⟩
   case measure=>simp[intOf]
  ·by_cases b:n=8
   ·have c:Hid (R=true):=za (by rw[<-l.out];unfold lV;rw[zD];omega);subst b;go_wp2;go_ret;exact⟨by rw[c.out];rfl,rfl⟩
   have p:(n==(8:Int))=false:=zm.2 b;have d:Hid (∀j,j<3+1->n≠([1,2,4,8]:List Int).getD j 0):=za (fun j q=>by
    by_cases h:j=3
    ·subst h;simpa using b
    exact m.out j (by omega))
   clear b;go_wp2;go_round
   case rel=>exact⟨3+1,by omega,by go_num,d⟩
   case measure=>simp[intOf]
  have c:Hid (R=false):=za (by
   have o:=m.out;have r:=o 0 (by omega);have u:=o 1 (by omega);have s:=o 2 (by omega);have a3:=o 3 (by omega);simp at r u s a3;rw[<-l.out];unfold lV;rw[zu];omega)
  go_wp2;go_ret;exact⟨by rw[c.out];rfl,rfl⟩
def sized (l m s:Int):Bool:=decide (l<=s/\s<=m)
theorem Ue (l m s:Int)(g:Nat)(w:World)(h:w.cell? ⟨g,1,none⟩=some (.int .i64 s)):
 Calls prog 235 #[.int .i64 l,.int .i64 m,.pointer (some ⟨g,0,none⟩)] w fun e w'=>e= .returned (.bool (sized l m s))/\w=w':=by
 obtain⟨R,c⟩:∃R,Hid (sized l m s=R):=⟨_,za rfl⟩
 rw[c.out];by_cases d:l<=s
 ·by_cases i:s<=m
  ·have b:Hid (R=true):=za (by rw[<-c.out];exact zD ⟨d,i⟩);go_enter func235,ntmps235
   go_wp2;go_ret;exact⟨by rw[b.out];rfl,rfl⟩
  have b:Hid (R=false):=za (by rw[<-c.out];exact zu (fun h=>i h.2));go_enter func235,ntmps235
  go_wp2;go_ret;exact⟨by rw[b.out];rfl,rfl⟩
 have b:Hid (R=false):=za (by rw[<-c.out];exact zu (fun h=>d h.1));go_enter func235,ntmps235
 go_wp2;go_ret;exact⟨by rw[b.out];rfl,rfl⟩
theorem Jn (k s:Int)(A:Option Addr)(n cap:Nat)(t:Int)(w:World)(d:Laid w)(j:mD k)(m:mD s)(i:mD t)(r:n<=9223372036854775807):
 Calls prog 210 #[.agg #[.int .i64 k,.int .i64 s,.slice A n cap,.int .i64 t]] w fun e w'=>e= .returned (.bool (fW k s n t))/\Below w.heap.size w w':=by
 unfold mD at j m i;obtain⟨y,z⟩:=j;obtain⟨p,q⟩:=m;obtain⟨C,x⟩:=i;have h:=za (fun w' c=>QQ s w' (d.below (B:=w.heap.size) c d.pos));obtain⟨b,c⟩:∃b,lV s=b:=⟨_,rfl⟩
 rw[c]at h;have o:=za c;obtain⟨R,l⟩:∃R,Hid (fW k s n t=R):=⟨_,za rfl⟩
 rw[l.out];clear c d;go_enter func210,ntmps210
 go_wp2_with (first|(go_at_call 236;refine(h.out _ bD).mono ?_;rintro e w' ⟨rfl,rfl⟩)|(go_at_call 235;refine(Ue _ _ s _ _ (by simp)).mono ?_;rintro e w' ⟨rfl,rfl⟩))
 all_goals
  go_ret;refine⟨aT ?_,bD⟩;rw[<-l.out,yE];have u:=o.out;simp_all[fW,sized,lV]
  try omega
theorem cC.ok {x:Ty}{b d j e:Value}(h:cC w B x b d j e):mD x.kind/\mD x.size/\mD x.tail/\x.sub.length<=9223372036854775807:=by
 obtain⟨A,cap,_,_,_,_,c,i,k,l,m,_⟩:=h.open_;exact⟨c,i,k,by omega⟩
theorem XL :∀(x:Ty) (B:Nat) (w:World) (Z c1 n X:Value),cC w B x Z c1 n X->B<=w.heap.size->∀(lb d c:Nat),af w lb 3 #[.int .i64 c]->B<=lb->1<lb->Laid w->1<=d->d<=9->c<=64->
 Calls prog 175 #[.agg #[Z,c1,n,X],.int .i64 d,.pointer (some ⟨lb,0,none⟩)] w fun e w'=>
  e= .returned (.bool (x.gY d c).1)/\af w' lb 3 #[.int .i64 (x.gY d c).2]/\ae [lb] w w':=by
 intro x;induction x using Ty.ind with
 |h ki s l ta ih=>
  intro B w Z c1 n X h hB lb d c M aj D7 ad ao aq hc;obtain⟨rfl,rfl,rfl,sm,Cr,mJ,hs,A,cap,rfl,lH,jR,cy⟩:=h;have IH:=za ih;have HS:=za cy;have ah:=za sm;have ag:=za Cr;have ak:=za mJ;unfold mD at sm Cr mJ;obtain⟨RL,RM⟩:=sm;obtain⟨RJ,RN⟩:=Cr;obtain⟨RK,JZ⟩:=mJ;clear ih cy;have q1:w.cell? ⟨lb,0,none⟩=some (.int .i64 c):=M.cell 0;have L:=za M;have HL:=za ad;have l1:=M.lt;have j:Hid ((Ty.mk ki s l ta).gY d c=if 8<d\/c=0\/fW ki s l.length ta=false then(false,c)else kG l (d+1) (c-1)):=za (by simp only[Ty.gY]);generalize (Ty.mk ki s l ta).gY d c=R at*;clear M ad;by_cases h1:8<d
  ·have m:Hid (R=(false,c)):=za (by rw[j.out,zi (.inl h1)]);clear j;go_enter func175,ntmps175
   go_wp2;go_ret;rw[m.out];exact⟨rfl,L.out.alloc _,CM⟩
  by_cases K:c=0
  ·have m:Hid (R=(false,c)):=za (by rw[j.out,zi (.inr (.inl K))]);subst K;clear j;go_enter func175,ntmps175
   go_wp2;go_ret;rw[m.out];exact⟨rfl,L.out.alloc _,CM⟩
  have e1:((c:Int)==0)=false:=zm.2 (by omega);have z:=za (Jn ki s A l.length cap ta (w.alloc (.cells #[.int .i64 ki,.int .i64 s,.slice A l.length cap,.int .i64 ta] 43)) (HL.out.alloc _) ah.out ag.out ak.out hs);cases hf:fW ki s l.length ta with
  |false=>
   rw[hf]at z;have m:Hid (R=(false,c)):=za (by rw[j.out,zi (.inr (.inr hf))]);clear j hf K;go_enter func175,ntmps175
   go_wp2_with fail
   refine z.out.mono ?_;rintro e F ⟨rfl,hb⟩;go_wp2;go_ret;rw[m.out];have D:Below w.heap.size w F:=(yv (zl _ _) (zg _) _).trans (hb.mono (by simp));exact⟨rfl,L.out.only (ae.ah D (zg _)) (by simp),(ae.ah D (zg _)).mono (by simp)⟩
  |true=>
   rw[hf]at z;have m:Hid (R=kG l (d+1) (c-1)):=za (by rw[j.out,zh (by rw[hf];simp;omega)]);have Bd:1<=c:=by omega
   clear j hf K;go_enter func175,ntmps175
   go_wp2_with fail
   refine z.out.mono ?_;rintro e F ⟨rfl,S⟩;obtain⟨g0,g1,g2,g3⟩:=M3 (by simpa using S);have D:Below w.heap.size w F:=(yv (zl _ _) (zg _) _).trans (S.mono (by simp));have J:=L.out.only (ae.ah D (zg _)) (by simp);have p1:F.cell? ⟨lb,0,none⟩=some (.int .i64 c):=J.cell 0;have an:F.frozen? ⟨lb,0,none⟩=false:=J.frozen 0;have Ha:=za J;clear J S q1 z;go_wp2_with fail
   go_loopw [30] (fun i wr=>∃k q:Nat,k<=l.length/\i= .int .i64 k/\Hid (kG (l.take k) (d+1) (c-1)=(true,q))/\af wr lb 3 #[.int .i64 q]/\ae [lb] w wr/\q<=64) (fun i _=>l.length-(intOf i).toNat)
   case atStart=>
    refine⟨0,c-1,by omega,rfl,za (by simp[kG]),Ha.out.store (by simp;omega), ?_,by omega⟩;exact((ae.ah D (zg _)).mono (by simp)).setCell (by simp) _
   case round=>
    obtain⟨k,q,hk,rfl,Y,ab,r,ai⟩:=hrel;have E:Below B w wr:=r.below hB (by simp;omega);have UH:=r.size;have J0:=za ab;clear ab;by_cases G:k<l.length
    ·obtain⟨b,o,d0,d1,d2,d3,rfl,I,e0,W,e2,N,hi⟩:=HS.out.at_ k G;simp only[zG]at e0 W e2 N;replace e0:=(E.cell (p:=⟨b,o+k*4,none⟩) I).trans e0;replace W:=(E.cell (p:=⟨b,o+k*4+1,none⟩) I).trans W;replace e2:=(E.cell (p:=⟨b,o+k*4+2,none⟩) I).trans e2;replace N:=(E.cell (p:=⟨b,o+k*4+3,none⟩) I).trans N;obtain⟨A2,cn,rfl,rfl,rfl,rfl,_⟩:=hi.open_;have eR:=zE G;have iU:=hi.below E;have aa:=HL.out.only r (by simp;omega);have U:=za (IH.out _ eR B (wr.alloc (.cells #[.int .i64 l[k].kind,.int .i64 l[k].size,.slice A2 l[k].sub.length cn,.int .i64 l[k].tail] 43)) _ _ _ _ (iU.below (yv (zl _ _) (by omega) _)) (by simp;omega) lb (d+1) q (J0.out.alloc _) aj D7 (aa.alloc _) (by omega) (by omega) ai);have H:=(EF l[k] (d+1) q (by omega)).2.2;obtain⟨⟨al,n⟩,u⟩:∃T,l[k].gY (d+1) q=T:=⟨_,rfl⟩
     rw[u]at U H;have LW:n<=64:=by simp at H;omega
     have e9:(d:Int)+1=((d+1:Nat):Int):=by omega
     have E9:=za e9;cases al with
     |true=>
      have y:Hid (kG (l.take (k+1)) (d+1) (c-1)=(true,n)):=za (by rw[BE G Y.out,u]);clear hi iU u H e9 aa;go_wp2_with fail
      rw[E9.out];refine U.out.mono ?_;rintro e O ⟨rfl,mK,C⟩;have J2:ae [lb] w O:=(r.alloc _).trans C;clear C;go_wp2;go_roundw
      case rel=>exact⟨k+1,n,by omega,by go_num,y,mK,J2,LW⟩
      case measure=>simp[intOf];omega
     |false=>
      have y:Hid (kG l (d+1) (c-1)=(false,n)):=za (Mw G Y.out u);clear hi iU u H e9 aa;go_wp2_with fail
      rw[E9.out];refine U.out.mono ?_;rintro e O ⟨rfl,mK,C⟩;have J2:ae [lb] w O:=(r.alloc _).trans C;clear C;go_wp2;go_ret;rw[m.out,y.out];exact⟨rfl,mK,J2⟩
    have J1:=Y.out;rw[zv (by omega)]at J1;have y:=za J1;clear J1;go_wp2;go_ret;rw[m.out,y.out];exact⟨rfl,J0.out,r⟩
theorem kz (x:Ty)(B:Nat)(w:World)(b c i d:Value)(h:cC w B x b c i d)(m:B<=w.heap.size)(j:Laid w):
 Calls prog 149 #[.agg #[b,c,i,d]] w fun e w'=>e= .returned (.bool x.may)/\Below w.heap.size w w':=by
 have k:=af.new (w.alloc (.cells #[b,c,i,d] 43)) 3 #[.int .i64 64];have y:=j.pos;have o:=za (XL x B ((w.alloc (.cells #[b,c,i,d] 43)).alloc (.cells #[.int .i64 64] 3)) b c i d (h.below ((yv (zl _ _) m _).alloc (by simp;omega) _)) (by simp;omega) (w.heap.size+1) 1 64 (by simpa using k) (by omega) (by omega) ((j.alloc _).alloc _) (by omega) (by omega) (by omega));have n:Hid (x.may=(x.gY 1 64).1):=za (Mx x).symm;rw[n.out];obtain⟨A,cap,rfl,rfl,rfl,rfl,_⟩:=h.open_;generalize x.gY 1 64=R at*;generalize x.kind=p at*;generalize x.size=s at*;generalize x.tail=r at*;clear h k j;go_enter func149,ntmps149
 go_wp2_with fail
 refine o.out.mono ?_;rintro e u ⟨rfl,q,l⟩;go_wp2;go_ret;exact⟨rfl,((zl w.heap.size w).alloc (zg _) _|>.alloc (by simp) _).trans (l.below (by simp;omega) (by simp))⟩
theorem qM (a b:List Ty):cl (a++b)=(cl a&&cl b):=by
 induction a with
 |nil=>simp[cl]
 |cons x xs ih=>simp[cl,ih,Bool.and_assoc]
theorem lW (h:k<s.length):cl (s.take (k+1))=(cl (s.take k)&&s[k].full):=by
 rw[gK s k h,qM];simp[cl]
theorem qN (h:k<s.length)(c:s[k].full=false):cl s=false:=by
 have b:=qM (s.take (k+1)) (s.drop (k+1));rw[zC,lW h,c]at b;simpa using b
theorem Lk (x:Ty):x.full=(decide (x.tail=0)&&cl x.sub):=by cases x;rfl
theorem Dm :∀(x:Ty) (B:Nat) (w:World) (N E M K:Value),cC w B x N E M K->B<=w.heap.size->True->
 Calls prog 158 #[.agg #[N,E,M,K]] w fun e w'=>e= .returned (.bool (cl x.sub))/\Below w.heap.size w w':=by
 intro x;induction x using Ty.ind with
 |h ki s l ta ih=>
  intro B w N E M K h hB _;obtain⟨rfl,rfl,rfl,O,Y,U,hs,A,cap,rfl,lH,jR,cy⟩:=h;have IH:=za ih;have HS:=za cy;unfold mD at O Y U;obtain⟨RL,RM⟩:=O;obtain⟨RJ,RN⟩:=Y;obtain⟨RK,JZ⟩:=U;clear ih cy;rw[Ty.gI];obtain⟨R,z⟩:∃R,Hid (cl l=R):=⟨_,za rfl⟩
  rw[z.out];go_enter func158,ntmps158
  go_wp2_with fail
  go_loopw [8] (fun i wr=>∃k:Nat,k<=l.length/\i= .int .i64 k/\Hid (cl (l.take k)=true)/\Below w.heap.size w wr) (fun i _=>l.length-(intOf i).toNat)
  case atStart=>exact⟨0,by omega,rfl,za (by simp[cl]),bD⟩
  case round=>
   obtain⟨k,hk,rfl,W,c⟩:=hrel;by_cases n:k<l.length
   ·obtain⟨b,o,d0,d1,d2,d3,rfl,cZ,D,G,J,u,hi⟩:=HS.out.at_ k n;simp only[zG]at D G J u;replace D:=(c.cell (p:=⟨b,o+k*4,none⟩) (by simp;omega)).trans D;replace G:=(c.cell (p:=⟨b,o+k*4+1,none⟩) (by simp;omega)).trans G;replace J:=(c.cell (p:=⟨b,o+k*4+2,none⟩) (by simp;omega)).trans J;replace u:=(c.cell (p:=⟨b,o+k*4+3,none⟩) (by simp;omega)).trans u;have gF:=c.size;have eR:=zE n;have y:=hi.below (c.mono hB);obtain⟨H,I,rfl,rfl,rfl,rfl,_⟩:=hi.open_;have d:=Lk l[k];have j:=za (IH.out _ eR B (wr.alloc (.cells #[.int .i64 l[k].kind,.int .i64 l[k].size,.slice H l[k].sub.length I,.int .i64 l[k].tail] 43)) _ _ _ _ (y.below (yv (zl _ _) (by omega) _)) (by simp;omega) trivial);by_cases m:l[k].tail=0
    ·have e5:((0:Int) !=0)=false:=rfl;rw[m]at j u d;generalize l[k].kind=S at*;generalize l[k].size=Z at*;generalize l[k].sub.length=n2 at*;have q:Below w.heap.size w (wr.alloc (.cells #[.int .i64 S,.int .i64 Z,.slice H n2 I,.int .i64 0] 43)):=c.alloc gF _;have X:=za q;cases hf:cl l[k].sub with
     |true=>
      rw[hf]at j;have r:Hid (cl (l.take (k+1))=true):=za (by rw[lW n,W.out,d,hf];rfl);clear hf d hi y m q;go_wp2_with fail
      refine j.out.mono ?_;rintro e w2 ⟨rfl,C⟩;have F:=X.out.trans (C.mono (by simp;omega));go_wp2;go_roundw
      case rel=>exact⟨k+1,by omega,by go_num,r,F⟩
      case measure=>simp[intOf];omega
     |false=>
      rw[hf]at j;have r:Hid (R=false):=za (by rw[<-z.out];exact qN n (by rw[d,hf];rfl));clear hf d hi y m q;go_wp2_with fail
      refine j.out.mono ?_;rintro e w2 ⟨rfl,C⟩;have F:=X.out.trans (C.mono (by simp;omega));go_wp2;go_ret;exact⟨by rw[r.out];rfl,F⟩
    have e5:(l[k].tail !=0)=true:=yO.2 m;have r:Hid (R=false):=za (by rw[<-z.out];exact qN n (by rw[d,zu m];rfl));have q:Below w.heap.size w (wr.alloc (.cells #[.int .i64 l[k].kind,.int .i64 l[k].size,.slice H l[k].sub.length I,.int .i64 l[k].tail] 43)):=c.alloc gF _;generalize l[k].kind=S at*;generalize l[k].size=Z at*;generalize l[k].sub.length=n2 at*;generalize l[k].tail=aa at*;clear d hi y m j;go_wp2;go_ret;exact⟨by rw[r.out];rfl,q⟩
   have L:=W.out;rw[zv (by omega),z.out]at L;have HM:=za L;clear L;go_wp2;go_ret;exact⟨by rw[HM.out];rfl,c⟩
theorem Jo (x:Ty)(B:Nat)(w:World)(i b d c:Value)(h:cC w B x i b d c)(C:B<=w.heap.size)(s:Laid w):
 Calls prog 125 #[.agg #[i,b,d,c]] w fun e w'=>e= .returned (.bool x.flat)/\Below w.heap.size w w':=by
 have J:=s.pos;have k:Below w.heap.size w (w.alloc (.cells #[i,b,d,c] 43)):=bD;have l:=za (kz x B (w.alloc (.cells #[i,b,d,c] 43)) i b d c (h.below (k.mono C)) (by simp;omega) (s.below k J));have D:=za (fun V (m:Below (w.heap.size+1) (w.alloc (.cells #[i,b,d,c] 43)) V)=>Dm x B V i b d c ((h.below (k.mono C)).below (m.mono (by omega))) (by have:=m.size;simp at this;omega) trivial);have r:Hid (x.flat=(x.may&&cl x.sub)):=za rfl;have z:=fun V (m:Below (w.heap.size+1) (w.alloc (.cells #[i,b,d,c] 43)) V)=>M3 m
 obtain⟨A,cap,rfl,rfl,rfl,rfl,_⟩:=h.open_;generalize x.flat=R at*;generalize cl x.sub=F at*;generalize x.kind=G at*;generalize x.size=I at*;generalize x.sub.length=n at*;generalize x.tail=H at*;have u:=za k;have E:=za z;clear h s k z;cases hm:x.may with
 |true=>
  rw[hm]at l r;clear hm;go_enter func125,ntmps125
  go_wp2_with fail
  refine l.out.mono ?_;rintro e o ⟨rfl,j⟩;have q:Below (w.heap.size+1) (w.alloc (.cells #[.int .i64 G,.int .i64 I,.slice A n cap,.int .i64 H] 43)) o:=by simpa using j
  obtain⟨S,O,M,N⟩:=E.out o q;have K:=za (D.out o q);have p:=za (u.out.trans (q.mono (by omega)));clear j q;go_wp2_with fail
  refine K.out.mono ?_;rintro e w3 ⟨rfl,y⟩;have L:=za (p.out.trans (y.mono p.out.size));clear y;go_wp2;go_ret;exact⟨by rw[r.out];rfl,L.out⟩
 |false=>
  rw[hm]at l r;clear hm;go_enter func125,ntmps125
  go_wp2_with fail
  refine l.out.mono ?_;rintro e o ⟨rfl,j⟩;have p:=za (u.out.trans (j.mono (by simp)));clear j;go_wp2;go_ret;exact⟨by rw[r.out];rfl,p.out⟩
def wh (fv:Value)(w:World)(c0 c1 c2:Value):World:=
 ((((w.alloc (.cells #[c0,c1,c2] 28)).alloc (.cells #[fv] 34)).alloc (.cells #[.int .i64 0] 3)).alloc (.cells #[.int .i64 0] 3)).alloc
  (.cells #[.func (.func 208) #[] #[.pointer (some ⟨w.heap.size+1+1,0,none⟩),.pointer (some ⟨w.heap.size+1,0,none⟩),.pointer (some ⟨w.heap.size+1+1+1,0,none⟩),.pointer (some ⟨w.heap.size+1+1+1+1,0,none⟩)]] 254)
theorem ND (b:Value)(w:World)(c d e:Value):AR b (wh b w c d e) (w.heap.size+1+1) (w.heap.size+1) (w.heap.size+1+1+1) (w.heap.size+1+1+1+1) 0 0:=by
 unfold wh;refine⟨?_, ?_, ?_, ?_⟩
 ·refine af.alloc (af.alloc ?_ _) _;have:=af.new ((w.alloc (.cells #[c,d,e] 28)).alloc (.cells #[b] 34)) 3 #[.int .i64 0];simpa using this
 ·refine af.alloc (af.alloc (af.alloc ?_ _) _) _;have:=af.new (w.alloc (.cells #[c,d,e] 28)) 34 #[b];simpa using this
 ·refine af.alloc ?_ _;have:=af.new (((w.alloc (.cells #[c,d,e] 28)).alloc (.cells #[b] 34)).alloc (.cells #[.int .i64 0] 3)) 3 #[.int .i64 0];simpa using this
 have:=af.new ((((w.alloc (.cells #[c,d,e] 28)).alloc (.cells #[b] 34)).alloc (.cells #[.int .i64 0] 3)).alloc (.cells #[.int .i64 0] 3)) 254 #[.func (.func 208) #[] #[.pointer (some ⟨w.heap.size+1+1,0,none⟩),.pointer (some ⟨w.heap.size+1,0,none⟩),.pointer (some ⟨w.heap.size+1+1+1,0,none⟩),.pointer (some ⟨w.heap.size+1+1+1+1,0,none⟩)]];simpa using this
theorem wj (d:Value)(w:World)(b c e:Value):Below w.heap.size w (wh d w b c e):=by
 unfold wh;exact bD
theorem NF (d:Value)(w:World)(b c e:Value):(wh d w b c e).heap.size=w.heap.size+5:=by
 unfold wh;simp
def oO (x:It):Value:= .tuple #[.int .i64 (if x.may then(x.count:Int)else 0),.int .i64 (if x.may then(x.deep:Int)else 0),.bool x.may]
theorem Jp (x:It)(B:Nat)(w:World)(l j k:Value)(h:bT w B x l j k)(K:B<=w.heap.size)(m:Value)(E:Vx m x):
 Calls prog 171 #[.agg #[l,j,k],m] w fun e w'=>e= .returned (oO x)/\Below w.heap.size w w':=by
 have D:=NF m w l j k;have u:=za (T' x B (wh m w l j k) l j k (h.below ((wj m w l j k).mono K)) (by omega) m E _ _ _ _ 1 0 0 (ND m w l j k) (by omega) (by omega) (by omega) (by omega) (by omega) (by omega) (by omega));have F:=wj m w l j k;have G:=za F;have p:x.may=(x.gY 1 0 0).1:=(Tv x).symm;have o:(x.gY 1 0 0).1=true->(x.gY 1 0 0).2=(0+x.count,max 0 (1-1+x.deep)):=(Ih x 1 0 0 (by omega) (by omega)).2.1;obtain⟨⟨r,c,d⟩,H⟩:∃T,x.gY 1 0 0=T:=⟨_,rfl⟩
 rw[H]at u p o;have z:Hid (oO x= .tuple #[.int .i64 (if r then(c:Int)else 0),.int .i64 (if r then(d:Int)else 0),.bool r]):=za (by
  dsimp only at p o;unfold oO;rw[p];cases r with
  |false=>rfl
  |true=>
   have I:=o rfl;injection I with h3 h4;subst h3;subst h4;simp)
 clear p o;obtain⟨A,cap,rfl,rfl,rfl,_⟩:=h.open_;have C:=za D;clear H h F D;rcases E with rfl|⟨rfl,_⟩;all_goals
  cases r with
  |true=>
   go_enter func171,ntmps171
   go_wp2_with fail
   refine u.out.mono ?_;rintro e i ⟨rfl,b,n⟩;have s:Below w.heap.size w i:=G.out.trans (n.below (by have:=C.out;omega) (by simp;omega));have q:i.cell? ⟨w.heap.size+1+1,0,none⟩=some (.int .i64 c):=zZ b.kV;have L:i.frozen? ⟨w.heap.size+1+1,0,none⟩=false:=Z6 b.kV;have y:i.cell? ⟨w.heap.size+1+1+1,0,none⟩=some (.int .i64 d):=zZ b.dp;have J:i.frozen? ⟨w.heap.size+1+1+1,0,none⟩=false:=Z6 b.dp;clear n b;go_wp2;go_region
   all_goals go_wp2
   all_goals
    refine zk (v:= .tuple #[.int .i64 c,.int .i64 d,.bool true]) (by simp[results,results171,go_sem,q,y]) rfl ⟨by rw[z.out];rfl, ?_⟩;exact(((s.setCell (by simp;omega) _).setCell (by simp;omega) _).drew)
  |false=>
   go_enter func171,ntmps171
   go_wp2_with fail
   refine u.out.mono ?_;rintro e i ⟨rfl,b,n⟩;have s:Below w.heap.size w i:=G.out.trans (n.below (by have:=C.out;omega) (by simp;omega));have q:i.cell? ⟨w.heap.size+1+1,0,none⟩=some (.int .i64 c):=zZ b.kV;have L:i.frozen? ⟨w.heap.size+1+1,0,none⟩=false:=Z6 b.kV;have y:i.cell? ⟨w.heap.size+1+1+1,0,none⟩=some (.int .i64 d):=zZ b.dp;have J:i.frozen? ⟨w.heap.size+1+1+1,0,none⟩=false:=Z6 b.dp;clear n b;go_wp2;refine zk (v:= .tuple #[.int .i64 0,.int .i64 0,.bool false]) (by simp[results,results171,go_sem,q,y]) rfl ⟨by rw[z.out];rfl, ?_⟩;exact((s.setCell (by simp;omega) _).setCell (by simp;omega) _)
theorem VB (x:It)(B:Nat)(w:World)(c d i:Value)(h:bT w B x c d i)(l:B<=w.heap.size):
 Calls prog 167 #[.agg #[c,d,i]] w fun e w'=>e= .returned (.bool x.may)/\Below w.heap.size w w':=by
 have k:=za (Jp x B (w.alloc (.cells #[c,d,i] 28)) c d i (h.below (WQ l)) (by simp;omega) _ (.inl rfl));obtain⟨a,b,j⟩:∃a b:Int,oO x= .tuple #[.int .i64 a,.int .i64 b,.bool x.may]:=⟨_,_,rfl⟩
 rw[j]at k;obtain⟨A,cap,rfl,rfl,rfl,_⟩:=h.open_;clear h j;generalize x.may=R at*;go_enter func167,ntmps167
 go_wp2_with fail
 refine k.out.mono ?_;rintro e n ⟨rfl,m⟩;go_wp2;go_ret;exact⟨rfl,(yv (zl _ _) (zg _) _).trans (m.mono (by simp))⟩
def tI (e0 e1 e2:Int):Int:=if e0≠0 then e0 else if e1≠0 then e1 else e2
def tJ (e0 e1:Int)(I1 I2 I3:World->Prop)(w:World):Prop:=if e0≠0 then I1 w else if e1≠0 then I2 w else I3 w
theorem VC {b:Int}(h:b≠0)(c e:Int)(d i j:World->Prop)(w:World)(hi:d w):tI b c e=b/\tJ b c d i j w:=by
 unfold tI tJ;rw[zi h,zi h];exact⟨rfl,hi⟩
theorem VD {c b:Int}(h:c=0)(e:b≠0)(i:Int)(k d j:World->Prop)(w:World)(hi:d w):tI c b i=b/\tJ c b k d j w:=by
 subst h;simp[tI,tJ,e,hi]
theorem Ll {b c:Int}(h:b=0)(i:c=0)(d:Int)(k j e:World->Prop)(w:World)(hi:e w):tI b c d=d/\tJ b c k j e w:=by
 subst h;subst i;simp[tI,tJ,hi]
theorem Jq (w:World)(B:Nat)(s k1 k2:Array Value)(j o p:Int)(k l q:World->Prop)
 (F:af w B 61 #[.func (.func 142) #[] s,.func (.func 144) #[] k1,.func (.func 146) #[] k2])
 (c:Calls prog 142 s w fun e w'=>e= .returned (.int .i64 j)/\k w') (y:j=0->∀h,k h->Calls prog 144 k1 h fun e w'=>e= .returned (.int .i64 o)/\l w') (u:j=0->o=0->∀D,l D->Calls prog 146 k2 D fun e w'=>e= .returned (.int .i64 p)/\q w')
 (E:∀w',k w'->af w' B 61 #[.func (.func 142) #[] s,.func (.func 144) #[] k1,.func (.func 146) #[] k2]) (A:∀w',l w'->af w' B 61 #[.func (.func 142) #[] s,.func (.func 144) #[] k1,.func (.func 146) #[] k2]):
 Calls prog 141 #[.slice (some ⟨B,0,none⟩) 3 3] w fun e w'=>e= .returned (.int .i64 (tI j o p))/\tJ j o k l q w':=by
 have H:=za c;have J:=za y;have R:=za u;have N:=za E;have I:=za A;have K:=za F;clear c y u E A F;go_enter func141,ntmps141
 go_wp2_with fail
 go_loopw [8] (fun i wr=>(i= .int .i64 0/\Hid (wr=w))\/(i= .int .i64 1/\Hid (j=0/\k wr))\/(i= .int .i64 2/\Hid (j=0/\o=0/\l wr))\/(i= .int .i64 3/\Hid (j=0/\o=0/\p=0/\q wr))) (fun i _=>3-(intOf i).toNat)
 case atStart=>exact .inl ⟨rfl,za rfl⟩
 case round=>
  rcases hrel with⟨rfl,hi⟩|⟨rfl,hi⟩|⟨rfl,hi⟩|⟨rfl,hi⟩
  ·have m:Hid (Calls prog 142 s wr fun e w'=>e= .returned (.int .i64 j)/\k w'):=za (by rw[hi.out];exact H.out);have O:Hid (af wr B 61 #[.func (.func 142) #[] s,.func (.func 144) #[] k1,.func (.func 146) #[] k2]):=za (by rw[hi.out];exact K.out);obtain⟨z,G,C⟩:=kr O.out;have n:Hid True:=za trivial;rcases eP (j)with⟨c,k1,k2⟩|⟨c,k1,k2⟩
   ·subst c;clear k1 k2 hi;go_wp2_with fail
    refine m.out.mono ?_;rintro e h ⟨rfl,b⟩;have d:=za b;clear b;go_wp2;go_roundw
    case rel=>
     have b:=d.out;exact(.inr (.inl ⟨rfl,za ⟨by simp,b⟩⟩))
    case measure=>simp[intOf]
   have x:=za c;clear c hi;go_wp2_with fail
   refine m.out.mono ?_;rintro e h ⟨rfl,b⟩;have d:=za b;clear b;go_wp2;go_ret;have b:=d.out;obtain⟨r,z2⟩:=VC x.out o p k l q h b;exact⟨by rw[r];rfl,z2⟩
  ·have m:=za (J.out hi.out.1 wr hi.out.2);obtain⟨z,G,C⟩:=kr (N.out wr hi.out.2);have n:=hi;rcases eP (o)with⟨c,k1,k2⟩|⟨c,k1,k2⟩
   ·subst c;clear k1 k2 hi;go_wp2_with fail
    refine m.out.mono ?_;rintro e h ⟨rfl,b⟩;have d:=za b;clear b;go_wp2;go_roundw
    case rel=>
     have b:=d.out;exact(.inr (.inr (.inl ⟨rfl,za ⟨n.out.1,by simp,b⟩⟩)))
    case measure=>simp[intOf]
   have x:=za c;clear c hi;go_wp2_with fail
   refine m.out.mono ?_;rintro e h ⟨rfl,b⟩;have d:=za b;clear b;go_wp2;go_ret;have b:=d.out;obtain⟨r,z2⟩:=VD n.out.1 x.out p k l q h b;exact⟨by rw[r];rfl,z2⟩
  ·have m:=za (R.out hi.out.1 hi.out.2.1 wr hi.out.2.2);obtain⟨z,G,C⟩:=kr (I.out wr hi.out.2.2);have n:=hi;rcases eP (p)with⟨c,k1,k2⟩|⟨c,k1,k2⟩
   ·subst c;clear k1 k2 hi;go_wp2_with fail
    refine m.out.mono ?_;rintro e h ⟨rfl,b⟩;have d:=za b;clear b;go_wp2;go_roundw
    case rel=>
     have b:=d.out;exact(.inr (.inr (.inr ⟨rfl,za ⟨n.out.1,n.out.2.1,by simp,b⟩⟩)))
    case measure=>simp[intOf]
   have x:=za c;clear c hi;go_wp2_with fail
   refine m.out.mono ?_;rintro e h ⟨rfl,b⟩;have d:=za b;clear b;go_wp2;go_ret;have b:=d.out;obtain⟨r,z2⟩:=Ll n.out.1 n.out.2.1 p k l q h b;exact⟨by rw[r];rfl,z2⟩
  go_wp2;go_ret;obtain⟨y,u,L,M⟩:=hi.out;obtain⟨r,z2⟩:=Ll y u p k l q wr M;exact⟨by rw[r,L];rfl,z2⟩
theorem Jr (w:World)(B:Nat)(s k1 k2:Array Value)(j o p:Int)(k l q:World->Prop)
 (F:af w B 61 #[.func (.func 148) #[] s,.func (.func 150) #[] k1,.func (.func 152) #[] k2])
 (c:Calls prog 148 s w fun e w'=>e= .returned (.int .i64 j)/\k w') (y:j=0->∀h,k h->Calls prog 150 k1 h fun e w'=>e= .returned (.int .i64 o)/\l w') (u:j=0->o=0->∀D,l D->Calls prog 152 k2 D fun e w'=>e= .returned (.int .i64 p)/\q w')
 (E:∀w',k w'->af w' B 61 #[.func (.func 148) #[] s,.func (.func 150) #[] k1,.func (.func 152) #[] k2]) (A:∀w',l w'->af w' B 61 #[.func (.func 148) #[] s,.func (.func 150) #[] k1,.func (.func 152) #[] k2]):
 Calls prog 141 #[.slice (some ⟨B,0,none⟩) 3 3] w fun e w'=>e= .returned (.int .i64 (tI j o p))/\tJ j o k l q w':=by
 have H:=za c;have J:=za y;have R:=za u;have N:=za E;have I:=za A;have K:=za F;clear c y u E A F;go_enter func141,ntmps141
 go_wp2_with fail
 go_loopw [8] (fun i wr=>(i= .int .i64 0/\Hid (wr=w))\/(i= .int .i64 1/\Hid (j=0/\k wr))\/(i= .int .i64 2/\Hid (j=0/\o=0/\l wr))\/(i= .int .i64 3/\Hid (j=0/\o=0/\p=0/\q wr))) (fun i _=>3-(intOf i).toNat)
 case atStart=>exact .inl ⟨rfl,za rfl⟩
 case round=>
  rcases hrel with⟨rfl,hi⟩|⟨rfl,hi⟩|⟨rfl,hi⟩|⟨rfl,hi⟩
  ·have m:Hid (Calls prog 148 s wr fun e w'=>e= .returned (.int .i64 j)/\k w'):=za (by rw[hi.out];exact H.out);have O:Hid (af wr B 61 #[.func (.func 148) #[] s,.func (.func 150) #[] k1,.func (.func 152) #[] k2]):=za (by rw[hi.out];exact K.out);obtain⟨z,G,C⟩:=kr O.out;have n:Hid True:=za trivial;rcases eP (j)with⟨c,k1,k2⟩|⟨c,k1,k2⟩
   ·subst c;clear k1 k2 hi;go_wp2_with fail
    refine m.out.mono ?_;rintro e h ⟨rfl,b⟩;have d:=za b;clear b;go_wp2;go_roundw
    case rel=>
     have b:=d.out;exact(.inr (.inl ⟨rfl,za ⟨by simp,b⟩⟩))
    case measure=>simp[intOf]
   have x:=za c;clear c hi;go_wp2_with fail
   refine m.out.mono ?_;rintro e h ⟨rfl,b⟩;have d:=za b;clear b;go_wp2;go_ret;have b:=d.out;obtain⟨r,z2⟩:=VC x.out o p k l q h b;exact⟨by rw[r];rfl,z2⟩
  ·have m:=za (J.out hi.out.1 wr hi.out.2);obtain⟨z,G,C⟩:=kr (N.out wr hi.out.2);have n:=hi;rcases eP (o)with⟨c,k1,k2⟩|⟨c,k1,k2⟩
   ·subst c;clear k1 k2 hi;go_wp2_with fail
    refine m.out.mono ?_;rintro e h ⟨rfl,b⟩;have d:=za b;clear b;go_wp2;go_roundw
    case rel=>
     have b:=d.out;exact(.inr (.inr (.inl ⟨rfl,za ⟨n.out.1,by simp,b⟩⟩)))
    case measure=>simp[intOf]
   have x:=za c;clear c hi;go_wp2_with fail
   refine m.out.mono ?_;rintro e h ⟨rfl,b⟩;have d:=za b;clear b;go_wp2;go_ret;have b:=d.out;obtain⟨r,z2⟩:=VD n.out.1 x.out p k l q h b;exact⟨by rw[r];rfl,z2⟩
  ·have m:=za (R.out hi.out.1 hi.out.2.1 wr hi.out.2.2);obtain⟨z,G,C⟩:=kr (I.out wr hi.out.2.2);have n:=hi;rcases eP (p)with⟨c,k1,k2⟩|⟨c,k1,k2⟩
   ·subst c;clear k1 k2 hi;go_wp2_with fail
    refine m.out.mono ?_;rintro e h ⟨rfl,b⟩;have d:=za b;clear b;go_wp2;go_roundw
    case rel=>
     have b:=d.out;exact(.inr (.inr (.inr ⟨rfl,za ⟨n.out.1,n.out.2.1,by simp,b⟩⟩)))
    case measure=>simp[intOf]
   have x:=za c;clear c hi;go_wp2_with fail
   refine m.out.mono ?_;rintro e h ⟨rfl,b⟩;have d:=za b;clear b;go_wp2;go_ret;have b:=d.out;obtain⟨r,z2⟩:=Ll n.out.1 n.out.2.1 p k l q h b;exact⟨by rw[r];rfl,z2⟩
  go_wp2;go_ret;obtain⟨y,u,L,M⟩:=hi.out;obtain⟨r,z2⟩:=Ll y u p k l q wr M;exact⟨by rw[r,L];rfl,z2⟩
theorem XM (x:It)(D M:Int)(B:Nat)(w:World)(l m o:Value)(h:bT w B x l m o)(u:B<=w.heap.size):
 Calls prog 145 #[.agg #[l,m,o],.int .i64 D,.int .i64 M] w fun e w'=>e= .returned (.int .i64 (fD x D M))/\Below w.heap.size w w':=by
 have n:=za (Jp x B (w.alloc (.cells #[l,m,o] 28)) l m o (h.below (WQ u)) (by simp;omega) _ (.inl rfl));obtain⟨A,cap,rfl,rfl,rfl,_⟩:=h.open_;clear h;cases hm:x.may with
 |false=>
  have k:Hid (oO x= .tuple #[.int .i64 0,.int .i64 0,.bool false]):=za (by rw[oO,hm];rfl);have b:Hid (fD x D M=1):=za (by rw[fD,zi hm]);clear hm;go_enter func145,ntmps145
  go_wp2_with fail
  refine n.out.mono ?_;rintro e q ⟨rfl,i⟩;rw[k.out];go_wp2;go_ret;rw[b.out];exact⟨rfl,(yv (zl _ _) (zg _) _).trans (i.mono (by simp))⟩
 |true=>
  obtain⟨c,p⟩:∃c,(x.count:Int)=c:=⟨_,rfl⟩
  obtain⟨d,hd⟩:∃d,(x.deep:Int)=d:=⟨_,rfl⟩
  have k:Hid (oO x= .tuple #[.int .i64 c,.int .i64 d,.bool true]):=za (by rw[oO,hm,<-p,<-hd];rfl);have j:fD x D M=if D<d then 6 else if M<c then 4 else 0:=by rw[fD,zh (by simp[hm]),p,hd]
  clear hm p hd;by_cases r:D<d
  ·have b:Hid (fD x D M=6):=za (by rw[j,zi r]);clear j;go_enter func145,ntmps145
   go_wp2_with fail
   refine n.out.mono ?_;rintro e q ⟨rfl,i⟩;rw[k.out];go_wp2;go_ret;rw[b.out];exact⟨rfl,(yv (zl _ _) (zg _) _).trans (i.mono (by simp))⟩
  rw[zh r]at j;by_cases s:M<c
  ·have b:Hid (fD x D M=4):=za (by rw[j,zi s]);clear j;go_enter func145,ntmps145
   go_wp2_with fail
   refine n.out.mono ?_;rintro e q ⟨rfl,i⟩;rw[k.out];go_wp2;go_ret;rw[b.out];exact⟨rfl,(yv (zl _ _) (zg _) _).trans (i.mono (by simp))⟩
  have b:Hid (fD x D M=0):=za (by rw[j,zh s]);clear j;go_enter func145,ntmps145
  go_wp2_with fail
  refine n.out.mono ?_;rintro e q ⟨rfl,i⟩;rw[k.out];go_wp2;go_ret;rw[b.out];exact⟨rfl,(yv (zl _ _) (zg _) _).trans (i.mono (by simp))⟩
theorem NG :∀(x:Ty) (B:Nat) (w:World) (L z J E:Value),cC w B x L z J E->B<=w.heap.size->True->
 Calls prog 91 #[.agg #[L,z,J,E]] w fun e w'=>e= .returned (.bool (!x.full))/\Below w.heap.size w w':=by
 intro x;induction x using Ty.ind with
 |h ki s l ta ih=>
  intro B w L z J E h hB _;obtain⟨rfl,rfl,rfl,O,U,H,hs,A,cap,rfl,lH,jR,X⟩:=h;have IH:=za ih;have HS:=za X;have aa:=za H;unfold mD at O U H;obtain⟨RL,RM⟩:=O;obtain⟨RJ,RN⟩:=U;obtain⟨RK,JZ⟩:=H;clear ih X;obtain⟨R,K⟩:∃R,Hid ((!(Ty.mk ki s l ta).full)=R):=⟨_,za rfl⟩
  rw[K.out];by_cases r:ta=0
  ·subst r;have u:Hid (R= !(cl l)):=za (by rw[<-K.out];rfl);go_enter func91,ntmps91
   go_wp2_with fail
   go_loopw [3] (fun i wr=>∃k:Nat,k<=l.length/\i= .int .i64 k/\Hid (cl (l.take k)=true)/\Below w.heap.size w wr/\wr.cell? ⟨w.heap.size,2,none⟩=some (.slice A l.length cap)) (fun i _=>l.length-(intOf i).toNat)
   case atStart=>exact⟨0,by omega,rfl,za (by simp[cl]),bD,by simp⟩
   case round=>
    obtain⟨k,hk,rfl,S,c,q⟩:=hrel;by_cases n:k<l.length
    ·obtain⟨b,o,d0,d1,d2,d3,rfl,cZ,y,m,D,F,hi⟩:=HS.out.at_ k n;simp only[zG]at y m D F;replace y:=(c.cell (p:=⟨b,o+k*4,none⟩) (by simp;omega)).trans y;replace m:=(c.cell (p:=⟨b,o+k*4+1,none⟩) (by simp;omega)).trans m;replace D:=(c.cell (p:=⟨b,o+k*4+2,none⟩) (by simp;omega)).trans D;replace F:=(c.cell (p:=⟨b,o+k*4+3,none⟩) (by simp;omega)).trans F;have W:=c.size;have eR:=zE n;have I:=hi.below (c.mono hB);have j:=za (IH.out _ eR B wr d0 d1 d2 d3 I (by omega) trivial);cases hf:l[k].full with
     |true=>
      rw[hf]at j;have M:Hid (cl (l.take (k+1))=true):=za (by rw[lW n,S.out,hf];rfl);clear hf hi I;go_wp2_with fail
      refine j.out.mono ?_;rintro e w2 ⟨rfl,d⟩;have Y:=lt_of_cell q;have N:=(d.cell (p:=⟨w.heap.size,2,none⟩) (by simp;omega)).trans q;have C:=c.trans (d.mono W);go_wp2;go_roundw
      case rel=>exact⟨k+1,by omega,by go_num,M,C,N⟩
      case measure=>simp[intOf];omega
     |false=>
      rw[hf]at j;have M:Hid (cl l=false):=za (qN n hf);clear hf hi I;go_wp2_with fail
      refine j.out.mono ?_;rintro e w2 ⟨rfl,d⟩;have Y:=lt_of_cell q;have N:=(d.cell (p:=⟨w.heap.size,2,none⟩) (by simp;omega)).trans q;have C:=c.trans (d.mono W);go_wp2;go_ret;exact⟨by rw[u.out,M.out];rfl,C⟩
    have G:=S.out;rw[zv (by omega)]at G;have Z:=za G;clear G;go_wp2;go_ret;exact⟨by rw[u.out,Z.out];rfl,c⟩
  have m:(ta !=0)=true:=yO.2 r;have u:Hid (R=true):=za (by rw[<-K.out,Lk,Ty.CI,zu r];rfl);clear r;go_enter func91,ntmps91
  go_wp2;go_ret;exact⟨by rw[u.out];rfl,bD⟩
theorem NH (x:Ty)(B:Nat)(w:World)(q j n m:Value)(h:cC w B x q j n m)(Z:B<=w.heap.size)(Y:x.count<=4611686018427387904):
 Calls prog 51 #[.agg #[q,j,n,m]] w fun e w'=>e= .returned (.bool x.flat)/\Below w.heap.size w w':=by
 have UU:=za (fun V (U:Below w.heap.size w V)=>De x B V q j n m (h.below (U.mono Z)) (by have:=U.size;omega) Y);obtain⟨u,s,l,z⟩:=x;obtain⟨rfl,rfl,rfl,sm,Cr,mJ,hs,A,cap,rfl,lH,jR,cy⟩:=h;have HS:=za cy;have IH:Hid (∀y∈l,∀(B:Nat) (w:World) (q j n m:Value),cC w B y q j n m->B<=w.heap.size->True->Calls prog 91 #[.agg #[q,j,n,m]] w fun e w'=>e= .returned (.bool (!y.full))/\Below w.heap.size w w'):=za (fun y _=>NG y);have O:Hid ((Ty.mk u s l z).flat=((Ty.mk u s l z).may&&cl l)):=za rfl;unfold mD at sm Cr mJ;clear cy Y;generalize (Ty.mk u s l z).flat=R at*;generalize (Ty.mk u s l z).may=MY at*;have HX:Hid (R=(MY&&cl l)):=O;clear O;go_enter func51,ntmps51
 go_wp2_with fail
 go_loopw [3] (fun i wr=>∃k:Nat,k<=l.length/\i= .int .i64 k/\Hid (cl (l.take k)=true)/\Below w.heap.size w wr/\wr.cell? ⟨w.heap.size,2,none⟩=some (.slice A l.length cap)/\Below (w.heap.size+1) (w.alloc (.cells #[.int .i64 u,.int .i64 s,.slice A l.length cap,.int .i64 z] 43)) wr) (fun i _=>l.length-(intOf i).toNat)
 case atStart=>exact⟨0,by omega,rfl,za (by simp[cl]),bD,by simp,zl _ _⟩
 case round=>
  obtain⟨k,hk,rfl,X,c,E,J⟩:=hrel;by_cases D:k<l.length
  ·obtain⟨b,o,d0,d1,d2,d3,rfl,cZ,G,H,I,K,hi⟩:=HS.out.at_ k D;simp only[zG]at G H I K;replace G:=(c.cell (p:=⟨b,o+k*4,none⟩) (by simp;omega)).trans G;replace H:=(c.cell (p:=⟨b,o+k*4+1,none⟩) (by simp;omega)).trans H;replace I:=(c.cell (p:=⟨b,o+k*4+2,none⟩) (by simp;omega)).trans I;replace K:=(c.cell (p:=⟨b,o+k*4+3,none⟩) (by simp;omega)).trans K;have F:=c.size;have eR:=zE D;have M:=hi.below (c.mono Z);have C:=za (IH.out _ eR B wr d0 d1 d2 d3 M (by omega) trivial);have aa:=J.size;cases hf:l[k].full with
   |true=>
    rw[hf]at C;have N:Hid (cl (l.take (k+1))=true):=za (by rw[lW D,X.out,hf];rfl);clear hf hi M;go_wp2_with fail
    refine C.out.mono ?_;rintro e W ⟨rfl,d⟩;have ab:=J.trans (d.mono (by simpa using aa));have gZ:=lt_of_cell E;have S:=(d.cell (p:=⟨w.heap.size,2,none⟩) (by simp;omega)).trans E;have r:=c.trans (d.mono F);go_wp2;go_roundw
    case rel=>exact⟨k+1,by omega,by go_num,N,r,S,ab⟩
    case measure=>simp[intOf];omega
   |false=>
    rw[hf]at C;have N:Hid (cl l=false):=za (qN D hf);clear hf hi M;go_wp2_with fail
    refine C.out.mono ?_;rintro e W ⟨rfl,d⟩;have gZ:=lt_of_cell E;have S:=(d.cell (p:=⟨w.heap.size,2,none⟩) (by simp;omega)).trans E;have r:=c.trans (d.mono F);go_wp2;go_ret;exact⟨by rw[HX.out,N.out,Bool.and_false];rfl,r⟩
  have L:=X.out;rw[zv (by omega)]at L;have HM:=za L;obtain⟨q0,q1,q2,q3⟩:=M3 J;have F:=c.size;have oW:=za (UU.out wr c);have HB:=za c;clear L;go_wp2_with fail
  refine oW.out.mono ?_;rintro e W ⟨rfl,d⟩;have r:=HB.out.trans (d.mono F);go_wp2;go_ret;exact⟨by rw[HX.out,HM.out,Zg];rfl,r⟩
