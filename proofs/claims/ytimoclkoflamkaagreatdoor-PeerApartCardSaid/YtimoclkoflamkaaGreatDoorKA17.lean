/- Package schema: May. -/
import Derived.Test.YtimoclkoflamkaaGreatDoorKA11
import Derived.Laws.EntriesVeiled
set_option linter.all false
set_option maxRecDepth 100000
set_option maxHeartbeats 2000000
open Go.Proofs.Tryz
namespace Go.Proofs.YtimoclkoflamkaaGreatDoor
open Go.RowKit
variable {w w':World}{B k g n lo':Nat}{e d i:Value}{s:List It}{A:Option Addr}{x:It}
def yU:=@Array.getElem?_setIfInBounds
def Laid (w:World):Prop:=(w,1,0,(1:Int))/\(w,1,1,(2:Int))/\(w,1,2,(4:Int))/\(w,1,3,(8:Int))
theorem Laid.pos (h:Laid w):1<w.heap.size:=lt_of_cell h.1
theorem Laid.same (h:Laid w)(b:w'.heap[1]?=w.heap[1]?):Laid w':=
 ⟨(zB b).trans h.1,(zB b).trans h.2.1,(zB b).trans h.2.2.1,(zB b).trans h.2.2.2⟩
theorem Laid.below (h:Laid w)(b:Below B w w')(c:1<B):Laid w':=h.same (b.block 1 c)
theorem Laid.only {L:List Nat}(h:Laid w)(c:ae L w w')(b:1∉L):Laid w':=h.same (c.block 1 h.pos b)
theorem Laid.alloc {w:World}(h:Laid w)(o:Obj):Laid (w.alloc o):=h.below ((zm w.heap.size w).alloc (zd _) o) h.pos
def lO (n:Int):Bool:=decide (n=1\/n=2\/n=4\/n=8)
theorem Qq (n:Int)(w:World)(h:Laid w):Calls prog 221 #[n] w fun e w'=>e= .returned (.bool (lO n))/\w=w':=by
 obtain⟨C,z,x,D⟩:=h;obtain⟨R,l⟩:∃R,Hid (lO n=R):=⟨_,za rfl⟩
 rw[l.out];have A:∀w,(Instr.index 285 (.agg #[(1:Int),(2:Int),(4:Int),(8:Int)]) (0:Int)).run prog w= .ok (1:Int) w:=fun _=>by kernel_rfl
 have i1:∀w,(Instr.index 285 (.agg #[(1:Int),(2:Int),(4:Int),(8:Int)]) (1:Int)).run prog w= .ok (2:Int) w:=fun _=>by kernel_rfl
 have i2:∀w,(Instr.index 285 (.agg #[(1:Int),(2:Int),(4:Int),(8:Int)]) (2:Int)).run prog w= .ok (4:Int) w:=fun _=>by kernel_rfl
 have y:∀w,(Instr.index 285 (.agg #[(1:Int),(2:Int),(4:Int),(8:Int)]) (3:Int)).run prog w= .ok (8:Int) w:=fun _=>by kernel_rfl
 go_enter func221,ntmps221
 go_wp2_with fail
 go_loop [6] (fun i=>∃k:Nat,k<=4/\i= .int .i64 k/\Hid (∀j,j<k->n≠([1,2,4,8]:List Int).getD j 0)) (fun i=>4-(intOf i).toNat)
 case atStart=>exact⟨0,by omega,rfl,za (by omega)⟩
 case round=>
  obtain⟨k,B,rfl,m⟩:=hrel;have key:k=0\/k=1\/k=2\/k=3\/k=4:=by omega
  rcases key with rfl|rfl|rfl|rfl|rfl
  ·by_cases b:n=1
   ·have c:Hid (R=true):=za (by rw[<-l.out];unfold lO;rw[zF];omega);subst b;go_wp2;go_ret;exact⟨by rw[c.out];rfl,rfl⟩
   have q:(n==(1:Int))=false:=zp.2 b;have d:Hid (∀j,j<0+1->n≠([1,2,4,8]:List Int).getD j 0):=za (fun j p=>by
    by_cases h:j=0
    ·subst h;simpa using b
    exact m.out j (by omega))
   clear b;go_wp2;go_round
   case rel=>exact⟨0+1,by omega,by go_num,d⟩
   case measure=>simp[intOf]
  ·by_cases b:n=2
   ·have c:Hid (R=true):=za (by rw[<-l.out];unfold lO;rw[zF];omega);subst b;go_wp2;go_ret;exact⟨by rw[c.out];rfl,rfl⟩
   have q:(n==(2:Int))=false:=zp.2 b;have d:Hid (∀j,j<1+1->n≠([1,2,4,8]:List Int).getD j 0):=za (fun j p=>by
    by_cases h:j=1
    ·subst h;simpa using b
    exact m.out j (by omega))
   clear b;go_wp2;go_round
   case rel=>exact⟨1+1,by omega,by go_num,d⟩
   case measure=>simp[intOf]
  ·by_cases b:n=4
   ·have c:Hid (R=true):=za (by rw[<-l.out];unfold lO;rw[zF];omega);subst b;go_wp2;go_ret;exact⟨by rw[c.out];rfl,rfl⟩
   have q:(n==(4:Int))=false:=zp.2 b;have d:Hid (∀j,j<2+1->n≠([1,2,4,8]:List Int).getD j 0):=za (fun j p=>by
    by_cases h:j=2
    ·subst h;simpa using b
    exact m.out j (by omega))
   clear b;go_wp2;go_round
   case rel=>exact⟨2+1,by omega,by go_num,d⟩
   case measure=>simp[intOf]
  ·by_cases b:n=8
   ·have c:Hid (R=true):=za (by rw[<-l.out];unfold lO;rw[zF];omega);subst b;go_wp2;go_ret;exact⟨by rw[c.out];rfl,rfl⟩
   have q:(n==(8:Int))=false:=zp.2 b;have d:Hid (∀j,j<3+1->n≠([1,2,4,8]:List Int).getD j 0):=za (fun j p=>by
    by_cases h:j=3
    ·subst h;simpa using b
    exact m.out j (by omega))
   clear b;go_wp2;go_round
   case rel=>exact⟨3+1,by omega,by go_num,d⟩
   case measure=>simp[intOf]
  have c:Hid (R=false):=za (by
   have o:=m.out;have r:=o 0 (by omega);have s:=o 1 (by omega);have u:=o 2 (by omega);have a3:=o 3 (by omega);simp at r s u a3;rw[<-l.out];unfold lO;rw[zv];omega)
  go_wp2;go_ret;exact⟨by rw[c.out];rfl,rfl⟩
def sized (l m s:Int):Bool:=decide (l<=s/\s<=m)
theorem TY (l m s:Int)(g:Nat)(w:World)(h:w.cell? (g,1)=some (.int .i64 s)):
 Calls prog 220 #[l,m,(g,0)] w fun e w'=>e= .returned (.bool (sized l m s))/\w=w':=by
 obtain⟨R,c⟩:∃R,Hid (sized l m s=R):=⟨_,za rfl⟩
 rw[c.out];by_cases i:l<=s
 ·by_cases d:s<=m
  ·have b:Hid (R=true):=za (by rw[<-c.out];exact zF ⟨i,d⟩);go_enter func220,ntmps220
   go_wp2;go_ret;exact⟨by rw[b.out];rfl,rfl⟩
  have b:Hid (R=false):=za (by rw[<-c.out];exact zv (fun h=>d h.2));go_enter func220,ntmps220
  go_wp2;go_ret;exact⟨by rw[b.out];rfl,rfl⟩
 have b:Hid (R=false):=za (by rw[<-c.out];exact zv (fun h=>i h.1));go_enter func220,ntmps220
 go_wp2;go_ret;exact⟨by rw[b.out];rfl,rfl⟩
theorem Jd (k s:Int)(A:Option Addr)(n cap:Nat)(t:Int)(w:World)(d:Laid w)(l:mu k)(m:mu s)(i:mu t)(x:n<=9223372036854775807):
 Calls prog 195 #[.agg #[k,s,.slice A n cap,t]] w fun e w'=>e= .returned (.bool (fH k s n t))/\(w,w'):=by
 unfold mu at l m i;obtain⟨C,q⟩:=l;obtain⟨y,u⟩:=m;obtain⟨r,p⟩:=i;have j:=za (fun w' c=>Qq s w' (d.below (B:=w.heap.size) c d.pos));obtain⟨b,c⟩:∃b,lO s=b:=⟨_,rfl⟩
 rw[c]at j;have o:=za c;obtain⟨R,h⟩:∃R,Hid (fH k s n t=R):=⟨_,za rfl⟩
 rw[h.out];clear c d;go_enter func195,ntmps195
 go_wp2_with (first|(go_at_call 221;refine(j.out _ bO).mono ?_;rintro e w' ⟨rfl,rfl⟩)|(go_at_call 220;refine(TY _ _ s _ _ (by simp)).mono ?_;rintro e w' ⟨rfl,rfl⟩))
 all_goals
  go_ret;refine⟨aV ?_,bO⟩;rw[<-h.out,yP];have z:=o.out;simp_all[fH,sized,lO]
  try omega
theorem cq.ok {x:Ty}{k j c:Value}(h:cq w B x e k j c):mu x.kind/\mu x.size/\mu x.tail/\x.sub.length<=9223372036854775807:=by
 obtain⟨A,cap,_,_,_,_,d,b,i,l,m,_⟩:=h.open_;exact⟨d,b,i,by omega⟩
theorem XE :∀(x:Ty) (B:Nat) (w:World) (c0 c1 j c3:Value),cq w B x c0 c1 j c3->B<=w.heap.size->∀(lb d c:Nat),ag w lb 3 #[c]->B<=lb->1<lb->Laid w->1<=d->d<=9->c<=64->
 Calls prog 154 #[.agg #[c0,c1,j,c3],d,(lb,0)] w fun e w'=>
  e= .returned (.bool (x.gQ d c).1)/\ag w' lb 3 #[.int .i64 (x.gQ d c).2]/\ae [lb] w w':=by
 intro x;induction x using Ty.ind with
 |h ki s l ta ih=>
  intro B w c0 c1 j c3 h hB lb d c L af Ag aa an ak hc;obtain⟨rfl,rfl,rfl,qO,Cm,Y,hs,A,cap,rfl,nH,kr,cY⟩:=h;have IH:=za ih;have HS:=za cY;have ah:=za qO;have aj:=za Cm;have ai:=za Y;unfold mu at qO Cm Y;obtain⟨Ro,Rn⟩:=qO;obtain⟨Rl,Rk⟩:=Cm;obtain⟨Rm,JM⟩:=Y;clear ih cY;have q1:w.cell? (lb,0)=some (.int .i64 c):=L.cell 0;have H:=za L;have HL:=za aa;have l1:=L.lt;have n:Hid ((Ty.mk ki s l ta).gQ d c=if 8<d\/c=0\/fH ki s l.length ta=false then(false,c)else kv l (d+1) (c-1)):=za (by simp only[Ty.gQ]);generalize (Ty.mk ki s l ta).gQ d c=R at*;clear L aa;by_cases h1:8<d
  ·have m:Hid (R=(false,c)):=za (by rw[n.out,zj (.inl h1)]);clear n;go_enter func154,ntmps154
   go_wp2;go_ret;rw[m.out];exact⟨rfl,H.out.alloc _,CM⟩
  by_cases G:c=0
  ·have m:Hid (R=(false,c)):=za (by rw[n.out,zj (.inr (.inl G))]);subst G;clear n;go_enter func154,ntmps154
   go_wp2;go_ret;rw[m.out];exact⟨rfl,H.out.alloc _,CM⟩
  have e1:((c:Int)==0)=false:=zp.2 (by omega);have u:=za (Jd ki s A l.length cap ta (w.alloc (.cells #[ki,s,.slice A l.length cap,ta] 70)) (HL.out.alloc _) ah.out aj.out ai.out hs);cases hf:fH ki s l.length ta with
  |false=>
   rw[hf]at u;have m:Hid (R=(false,c)):=za (by rw[n.out,zj (.inr (.inr hf))]);clear n hf G;go_enter func154,ntmps154
   go_wp2_with fail
   refine u.out.mono ?_;rintro e D ⟨rfl,hb⟩;go_wp2;go_ret;rw[m.out];have C:Below w.heap.size w D:=(yD (zm _ _) (zd _) _).trans (hb.mono (by simp));exact⟨rfl,H.out.only (ae.ai C (zd _)) (by simp),(ae.ai C (zd _)).mono (by simp)⟩
  |true=>
   rw[hf]at u;have m:Hid (R=kv l (d+1) (c-1)):=za (by rw[n.out,zi (by rw[hf];simp;omega)]);have pJ:1<=c:=by omega
   clear n hf G;go_enter func154,ntmps154
   go_wp2_with fail
   refine u.out.mono ?_;rintro e D ⟨rfl,W⟩;obtain⟨g0,g1,g2,g3⟩:=Mr (by simpa using W);have C:Below w.heap.size w D:=(yD (zm _ _) (zd _) _).trans (W.mono (by simp));have M:=H.out.only (ae.ai C (zd _)) (by simp);have p1:D.cell? (lb,0)=some (.int .i64 c):=M.cell 0;have al:D.frozen? (lb,0)=false:=M.frozen 0;have Cn:=za M;clear M W q1 u;go_wp2_with fail
   go_loopw [30] (fun i wr=>∃k q:Nat,k<=l.length/\i= .int .i64 k/\Hid (kv (l.take k) (d+1) (c-1)=(true,q))/\ag wr lb 3 #[q]/\ae [lb] w wr/\q<=64) (fun i _=>l.length-(intOf i).toNat)
   case atStart=>
    refine⟨0,c-1,by omega,rfl,za (by simp[kv]),Cn.out.store (by simp;omega), ?_,by omega⟩;exact((ae.ai C (zd _)).mono (by simp)).setCell (by simp) _
   case round=>
    obtain⟨k,q,hk,rfl,YG,ab,r,SE⟩:=hrel;have y:Below B w wr:=r.below hB (by simp;omega);have Sw:=r.size;have SD:=za ab;clear ab;by_cases K:k<l.length
    ·obtain⟨b,o,d0,d1,d2,d3,rfl,I,e0,qR,N,e3,hi⟩:=HS.out.at_ k K;simp only[zJ]at e0 qR N e3;replace e0:=(y.cell (p:=(b,o+k*4)) I).trans e0;replace qR:=(y.cell (p:=(b,o+k*4+1)) I).trans qR;replace N:=(y.cell (p:=(b,o+k*4+2)) I).trans N;replace e3:=(y.cell (p:=(b,o+k*4+3)) I).trans e3;obtain⟨A2,cap2,rfl,rfl,rfl,rfl,_⟩:=hi.open_;have gU:=zD K;have S:=hi.below y;have X:=HL.out.only r (by simp;omega);have HC:=za (IH.out _ gU B (wr.alloc (.cells #[.int .i64 l[k].kind,.int .i64 l[k].size,.slice A2 l[k].sub.length cap2,.int .i64 l[k].tail] 70)) _ _ _ _ (S.below (yD (zm _ _) (by omega) _)) (by simp;omega) lb (d+1) q (SD.out.alloc _) af Ag (X.alloc _) (by omega) (by omega) SE);have J:=(EB l[k] (d+1) q (by omega)).2.2;obtain⟨⟨ad,j⟩,z⟩:∃T,l[k].gQ (d+1) q=T:=⟨_,rfl⟩
     rw[z]at HC J;have Lm:j<=64:=by simp at J;omega
     have e9:(d:Int)+1=((d+1:Nat):Int):=by omega
     have E9:=za e9;cases ad with
     |true=>
      have E:Hid (kv (l.take (k+1)) (d+1) (c-1)=(true,j)):=za (by rw[Bv K YG.out,z]);clear hi S z J e9 X;go_wp2_with fail
      rw[E9.out];refine HC.out.mono ?_;rintro e Z ⟨rfl,U,F⟩;have JN:ae [lb] w Z:=(r.alloc _).trans F;clear F;go_wp2;go_roundw
      case rel=>exact⟨k+1,j,by omega,by go_num,E,U,JN,Lm⟩
      case measure=>simp[intOf];omega
     |false=>
      have E:Hid (kv l (d+1) (c-1)=(false,j)):=za (LV K YG.out z);clear hi S z J e9 X;go_wp2_with fail
      rw[E9.out];refine HC.out.mono ?_;rintro e Z ⟨rfl,U,F⟩;have JN:ae [lb] w Z:=(r.alloc _).trans F;clear F;go_wp2;go_ret;rw[m.out,E.out];exact⟨rfl,U,JN⟩
    have O:=YG.out;rw[zx (by omega)]at O;have E:=za O;clear O;go_wp2;go_ret;rw[m.out,E.out];exact⟨rfl,SD.out,r⟩
theorem ko (x:Ty)(B:Nat)(w:World)(c i d b:Value)(h:cq w B x c i d b)(o:B<=w.heap.size)(j:Laid w):
 Calls prog 115 #[.agg #[c,i,d,b]] w fun e w'=>e= .returned x.may/\(w,w'):=by
 have k:=ag.new (w.alloc (.cells #[c,i,d,b] 70)) 3 #[(64:Int)];have u:=j.pos;have n:=za (XE x B ((w.alloc (.cells #[c,i,d,b] 70)).alloc (.cells #[(64:Int)] 3)) c i d b (h.below ((yD (zm _ _) o _).alloc (by simp;omega) _)) (by simp;omega) (w.heap.size+1) 1 64 (by simpa using k) (by omega) (by omega) ((j.alloc _).alloc _) (by omega) (by omega) (by omega));have l:Hid (x.may=(x.gQ 1 64).1):=za (LW x).symm;rw[l.out];obtain⟨A,cap,rfl,rfl,rfl,rfl,_⟩:=h.open_;generalize x.gQ 1 64=R at*;generalize x.kind=q at*;generalize x.size=y at*;generalize x.tail=p at*;clear h k j;go_enter func115,ntmps115
 go_wp2_with fail
 refine n.out.mono ?_;rintro e s ⟨rfl,r,m⟩;go_wp2;go_ret;exact⟨rfl,((zm w.heap.size w).alloc (zd _) _|>.alloc (by simp) _).trans (m.below (by simp;omega) (by simp))⟩
theorem qE (a b:List Ty):ca (a++b)=(ca a&&ca b):=by
 induction a with
 |nil=>simp[ca]
 |cons x xs ih=>simp[ca,ih,Bool.and_assoc]
theorem lP {s:List Ty}(h:k<s.length):ca (s.take (k+1))=(ca (s.take k)&&s[k].full):=by
 rw[gG s k h,qE];simp[ca]
theorem qF {s:List Ty}(h:k<s.length)(c:s[k].full=false):ca s=false:=by
 have b:=qE (s.take (k+1)) (s.drop (k+1));rw[zH,lP h,c]at b;simpa using b
theorem KU (x:Ty):x.full=(decide (x.tail=0)&&ca x.sub):=by cases x;rfl
theorem Dn :∀(x:Ty) (B:Nat) (w:World) (M K J G:Value),cq w B x M K J G->B<=w.heap.size->True->
 Calls prog 124 #[.agg #[M,K,J,G]] w fun e w'=>e= .returned (.bool (ca x.sub))/\(w,w'):=by
 intro x;induction x using Ty.ind with
 |h ki s l ta ih=>
  intro B w M K J G h hB _;obtain⟨rfl,rfl,rfl,X,Y,oc,hs,A,cap,rfl,nH,kr,N⟩:=h;have IH:=za ih;have HS:=za N;unfold mu at X Y oc;obtain⟨Ro,Rn⟩:=X;obtain⟨Rl,Rk⟩:=Y;obtain⟨Rm,JM⟩:=oc;clear ih N;rw[Ty.gE];obtain⟨R,u⟩:∃R,Hid (ca l=R):=⟨_,za rfl⟩
  rw[u.out];go_enter func124,ntmps124
  go_wp2_with fail
  go_loopw [8] (fun i wr=>∃k:Nat,k<=l.length/\i= .int .i64 k/\Hid (ca (l.take k)=true)/\(w,wr)) (fun i _=>l.length-(intOf i).toNat)
  case atStart=>exact⟨0,by omega,rfl,za (by simp[ca]),bO⟩
  case round=>
   obtain⟨k,hk,rfl,U,c⟩:=hrel;by_cases r:k<l.length
   ·obtain⟨b,o,d0,d1,d2,d3,rfl,gb,C,I,F,y,hi⟩:=HS.out.at_ k r;simp only[zJ]at C I F y;replace C:=(c.cell (p:=(b,o+k*4)) (by simp;omega)).trans C;replace I:=(c.cell (p:=(b,o+k*4+1)) (by simp;omega)).trans I;replace F:=(c.cell (p:=(b,o+k*4+2)) (by simp;omega)).trans F;replace y:=(c.cell (p:=(b,o+k*4+3)) (by simp;omega)).trans y;have O:=c.size;have gU:=zD r;have z:=hi.below (c.mono hB);obtain⟨H,cap2,rfl,rfl,rfl,rfl,_⟩:=hi.open_;have d:=KU l[k];have j:=za (IH.out _ gU B (wr.alloc (.cells #[.int .i64 l[k].kind,.int .i64 l[k].size,.slice H l[k].sub.length cap2,.int .i64 l[k].tail] 70)) _ _ _ _ (z.below (yD (zm _ _) (by omega) _)) (by simp;omega) trivial);by_cases m:l[k].tail=0
    ·have e5:((0:Int) !=0)=false:=rfl;rw[m]at j y d;generalize l[k].kind=Z at*;generalize l[k].size=S at*;generalize l[k].sub.length=n2 at*;have n:Below w.heap.size w (wr.alloc (.cells #[Z,S,.slice H n2 cap2,(0:Int)] 70)):=c.alloc O _;have W:=za n;cases hf:ca l[k].sub with
     |true=>
      rw[hf]at j;have q:Hid (ca (l.take (k+1))=true):=za (by rw[lP r,U.out,d,hf];rfl);clear hf d hi z m n;go_wp2_with fail
      refine j.out.mono ?_;rintro e w2 ⟨rfl,L⟩;have E:=W.out.trans (L.mono (by simp;omega));go_wp2;go_roundw
      case rel=>exact⟨k+1,by omega,by go_num,q,E⟩
      case measure=>simp[intOf];omega
     |false=>
      rw[hf]at j;have q:Hid (R=false):=za (by rw[<-u.out];exact qF r (by rw[d,hf];rfl));clear hf d hi z m n;go_wp2_with fail
      refine j.out.mono ?_;rintro e w2 ⟨rfl,L⟩;have E:=W.out.trans (L.mono (by simp;omega));go_wp2;go_ret;exact⟨by rw[q.out];rfl,E⟩
    have e5:(l[k].tail !=0)=true:=yN.2 m;have q:Hid (R=false):=za (by rw[<-u.out];exact qF r (by rw[d,zv m];rfl));have n:Below w.heap.size w (wr.alloc (.cells #[.int .i64 l[k].kind,.int .i64 l[k].size,.slice H l[k].sub.length cap2,.int .i64 l[k].tail] 70)):=c.alloc O _;generalize l[k].kind=Z at*;generalize l[k].size=S at*;generalize l[k].sub.length=n2 at*;generalize l[k].tail=aa at*;clear d hi z m j;go_wp2;go_ret;exact⟨by rw[q.out];rfl,n⟩
   have D:=U.out;rw[zx (by omega),u.out]at D;have HM:=za D;clear D;go_wp2;go_ret;exact⟨by rw[HM.out];rfl,c⟩
theorem Je (x:Ty)(B:Nat)(w:World)(i d c b:Value)(h:cq w B x i d c b)(z:B<=w.heap.size)(s:Laid w):
 Calls prog 85 #[.agg #[i,d,c,b]] w fun e w'=>e= .returned x.flat/\(w,w'):=by
 have J:=s.pos;have k:Below w.heap.size w (w.alloc (.cells #[i,d,c,b] 70)):=bO;have r:=za (ko x B (w.alloc (.cells #[i,d,c,b] 70)) i d c b (h.below (k.mono z)) (by simp;omega) (s.below k J));have D:=za (fun V (p:Below (w.heap.size+1) (w.alloc (.cells #[i,d,c,b] 70)) V)=>Dn x B V i d c b ((h.below (k.mono z)).below (p.mono (by omega))) (by have:=p.size;simp at this;omega) trivial);have q:Hid (x.flat=(x.may&&ca x.sub)):=za rfl;have u:=fun V (p:Below (w.heap.size+1) (w.alloc (.cells #[i,d,c,b] 70)) V)=>Mr p
 obtain⟨A,cap,rfl,rfl,rfl,rfl,_⟩:=h.open_;generalize x.flat=R at*;generalize ca x.sub=F at*;generalize x.kind=K at*;generalize x.size=L at*;generalize x.sub.length=n at*;generalize x.tail=E at*;have C:=za k;have I:=za u;clear h s k u;cases hm:x.may with
 |true=>
  rw[hm]at r q;clear hm;go_enter func85,ntmps85
  go_wp2_with fail
  refine r.out.mono ?_;rintro e m ⟨rfl,j⟩;have l:Below (w.heap.size+1) (w.alloc (.cells #[K,L,.slice A n cap,E] 70)) m:=by simpa using j
  obtain⟨O,M,N,S⟩:=I.out m l;have H:=za (D.out m l);have o:=za (C.out.trans (l.mono (by omega)));clear j l;go_wp2_with fail
  refine H.out.mono ?_;rintro e w3 ⟨rfl,y⟩;have G:=za (o.out.trans (y.mono o.out.size));clear y;go_wp2;go_ret;exact⟨by rw[q.out];rfl,G.out⟩
 |false=>
  rw[hm]at r q;clear hm;go_enter func85,ntmps85
  go_wp2_with fail
  refine r.out.mono ?_;rintro e m ⟨rfl,j⟩;have o:=za (C.out.trans (j.mono (by simp)));clear j;go_wp2;go_ret;exact⟨by rw[q.out];rfl,o.out⟩
def wm (fv:Value)(w:World)(c0 c1 c2:Value):World:=
 ((((w.alloc (.cells #[c0,c1,c2] 28)).alloc (.cells #[fv] 33)).alloc (.cells #[(0:Int)] 3)).alloc (.cells #[(0:Int)] 3)).alloc
  (.cells #[.func (.func 106) #[] #[(w.heap.size+1+1,0),(w.heap.size+1,0),(w.heap.size+1+1+1,0),(w.heap.size+1+1+1+1,0)]] 163)
theorem M9 (b:Value)(w:World)(e c d:Value):AH b (wm b w e c d) (w.heap.size+1+1) (w.heap.size+1) (w.heap.size+1+1+1) (w.heap.size+1+1+1+1) 0 0:=by
 unfold wm;refine⟨?_, ?_, ?_, ?_⟩
 ·refine ag.alloc (ag.alloc ?_ _) _;have:=ag.new ((w.alloc (.cells #[e,c,d] 28)).alloc (.cells #[b] 33)) 3 #[(0:Int)];simpa using this
 ·refine ag.alloc (ag.alloc (ag.alloc ?_ _) _) _;have:=ag.new (w.alloc (.cells #[e,c,d] 28)) 33 #[b];simpa using this
 ·refine ag.alloc ?_ _;have:=ag.new (((w.alloc (.cells #[e,c,d] 28)).alloc (.cells #[b] 33)).alloc (.cells #[(0:Int)] 3)) 3 #[(0:Int)];simpa using this
 have:=ag.new ((((w.alloc (.cells #[e,c,d] 28)).alloc (.cells #[b] 33)).alloc (.cells #[(0:Int)] 3)).alloc (.cells #[(0:Int)] 3)) 163 #[.func (.func 106) #[] #[(w.heap.size+1+1,0),(w.heap.size+1,0),(w.heap.size+1+1+1,0),(w.heap.size+1+1+1+1,0)]];simpa using this
theorem wu (e:Value)(w:World)(d b c:Value):Below w.heap.size w (wm e w d b c):=by
 unfold wm;exact bO
theorem Na (e:Value)(w:World)(d b c:Value):(wm e w d b c).heap.size=w.heap.size+5:=by
 unfold wm;simp
def oG (x:It):Value:= .tuple #[.int .i64 (if x.may then(x.count:Int)else 0),.int .i64 (if x.may then(x.deep:Int)else 0),x.may]
theorem Jf (x:It)(B:Nat)(w:World)(m l k:Value)(h:bI w B x m l k)(K:B<=w.heap.size)(j:Value)(z:Vo j x):
 Calls prog 75 #[.agg #[m,l,k],j] w fun e w'=>e= .returned (oG x)/\(w,w'):=by
 have E:=Na j w m l k;have q:=za (TK x B (wm j w m l k) m l k (h.below ((wu j w m l k).mono K)) (by omega) j z _ _ _ _ 1 0 0 (M9 j w m l k) (by omega) (by omega) (by omega) (by omega) (by omega) (by omega) (by omega));have G:=wu j w m l k;have C:=za G;have o:x.may=(x.gQ 1 0 0).1:=(Ta x).symm;have p:(x.gQ 1 0 0).1=true->(x.gQ 1 0 0).2=(0+x.count,max 0 (1-1+x.deep)):=(Ib x 1 0 0 (by omega) (by omega)).2.1;obtain⟨⟨r,c,d⟩,D⟩:∃T,x.gQ 1 0 0=T:=⟨_,rfl⟩
 rw[D]at q o p;have H:Hid (oG x= .tuple #[.int .i64 (if r then(c:Int)else 0),.int .i64 (if r then(d:Int)else 0),r]):=za (by
  dsimp only at o p;unfold oG;rw[o];cases r with
  |false=>rfl
  |true=>
   have I:=p rfl;injection I with h3 h4;subst h3;subst h4;simp)
 clear o p;obtain⟨A,cap,rfl,rfl,rfl,_⟩:=h.open_;have F:=za E;clear D h G E;rcases z with rfl|⟨rfl,_⟩;all_goals
  cases r with
  |true=>
   go_enter func75,ntmps75
   go_wp2_with fail
   refine q.out.mono ?_;rintro e b ⟨rfl,i,n⟩;have s:Below w.heap.size w b:=C.out.trans (n.below (by have:=F.out;omega) (by simp;omega));have u:b.cell? (w.heap.size+1+1,0)=some (.int .i64 c):=zX i.kI;have L:b.frozen? (w.heap.size+1+1,0)=false:=Zr i.kI;have y:b.cell? (w.heap.size+1+1+1,0)=some (.int .i64 d):=zX i.dp;have J:b.frozen? (w.heap.size+1+1+1,0)=false:=Zr i.dp;clear n i;go_wp2;go_region
   all_goals go_wp2
   all_goals
    refine zl (v:= .tuple #[c,d,true]) (by simp[results,results75,go_sem,u,y]) rfl ⟨by rw[H.out];rfl, ?_⟩;exact(((s.setCell (by simp;omega) _).setCell (by simp;omega) _).drew)
  |false=>
   go_enter func75,ntmps75
   go_wp2_with fail
   refine q.out.mono ?_;rintro e b ⟨rfl,i,n⟩;have s:Below w.heap.size w b:=C.out.trans (n.below (by have:=F.out;omega) (by simp;omega));have u:b.cell? (w.heap.size+1+1,0)=some (.int .i64 c):=zX i.kI;have L:b.frozen? (w.heap.size+1+1,0)=false:=Zr i.kI;have y:b.cell? (w.heap.size+1+1+1,0)=some (.int .i64 d):=zX i.dp;have J:b.frozen? (w.heap.size+1+1+1,0)=false:=Zr i.dp;clear n i;go_wp2;refine zl (v:= .tuple #[(0:Int),(0:Int),false]) (by simp[results,results75,go_sem,u,y]) rfl ⟨by rw[H.out];rfl, ?_⟩;exact((s.setCell (by simp;omega) _).setCell (by simp;omega) _)
theorem Qr (x:It)(B:Nat)(w:World)(c i d:Value)(h:bI w B x c i d)(m:B<=w.heap.size):
 Calls prog 54 #[.agg #[c,i,d]] w fun e w'=>e= .returned x.may/\(w,w'):=by
 have k:=za (Jf x B (w.alloc (.cells #[c,i,d] 28)) c i d (h.below (blm m)) (by simp;omega) _ (.inl rfl));obtain⟨a,b,j⟩:∃a b:Int,oG x= .tuple #[a,b,x.may]:=⟨_,_,rfl⟩
 rw[j]at k;obtain⟨A,cap,rfl,rfl,rfl,_⟩:=h.open_;clear h j;generalize x.may=R at*;go_enter func54,ntmps54
 go_wp2_with fail
 refine k.out.mono ?_;rintro e n ⟨rfl,l⟩;go_wp2;go_ret;exact⟨rfl,(yD (zm _ _) (zd _) _).trans (l.mono (by simp))⟩
def tO (e0 e1 e2:Int):Int:=if e0≠0 then e0 else if e1≠0 then e1 else e2
def tP (e0 e1:Int)(I1 I2 I3:World->Prop)(w:World):Prop:=if e0≠0 then I1 w else if e1≠0 then I2 w else I3 w
theorem Vu {b:Int}(h:b≠0)(d e:Int)(c i j:World->Prop)(w:World)(hi:c w):tO b d e=b/\tP b d c i j w:=by
 unfold tO tP;rw[zj h,zj h];exact⟨rfl,hi⟩
theorem Vv {c b:Int}(h:c=0)(j:b≠0)(e:Int)(i d k:World->Prop)(w:World)(hi:d w):tO c b e=b/\tP c b i d k w:=by
 subst h;simp[tO,tP,j,hi]
theorem KV {b c:Int}(h:b=0)(j:c=0)(d:Int)(i k e:World->Prop)(w:World)(hi:e w):tO b c d=d/\tP b c i k e w:=by
 subst h;subst j;simp[tO,tP,hi]
theorem Jg (w:World)(B:Nat)(s k1 k2:Array Value)(j p n:Int)(k l r:World->Prop)
 (E:ag w B 89 #[.func (.func 108) #[] s,.func (.func 110) #[] k1,.func (.func 112) #[] k2])
 (c:Calls prog 108 s w fun e w'=>e= .returned j/\k w') (x:j=0->∀h,k h->Calls prog 110 k1 h fun e w'=>e= .returned p/\l w') (u:j=0->p=0->∀C,l C->Calls prog 112 k2 C fun e w'=>e= .returned n/\r w')
 (G:∀w',k w'->ag w' B 89 #[.func (.func 108) #[] s,.func (.func 110) #[] k1,.func (.func 112) #[] k2]) (A:∀w',l w'->ag w' B 89 #[.func (.func 108) #[] s,.func (.func 110) #[] k1,.func (.func 112) #[] k2]):
 Calls prog 107 #[.slice (some (B,0)) 3 3] w fun e w'=>e= .returned (.int .i64 (tO j p n))/\tP j p k l r w':=by
 have H:=za c;have L:=za x;have I:=za u;have O:=za G;have M:=za A;have K:=za E;clear c x u G A E;go_enter func107,ntmps107
 go_wp2_with fail
 go_loopw [8] (fun i wr=>(i= .int .i64 0/\Hid (wr=w))\/(i= .int .i64 1/\Hid (j=0/\k wr))\/(i= .int .i64 2/\Hid (j=0/\p=0/\l wr))\/(i= .int .i64 3/\Hid (j=0/\p=0/\n=0/\r wr))) (fun i _=>3-(intOf i).toNat)
 case atStart=>exact .inl ⟨rfl,za rfl⟩
 case round=>
  rcases hrel with⟨rfl,hi⟩|⟨rfl,hi⟩|⟨rfl,hi⟩|⟨rfl,hi⟩
  ·have o:Hid (Calls prog 108 s wr fun e w'=>e= .returned j/\k w'):=za (by rw[hi.out];exact H.out);have N:Hid (ag wr B 89 #[.func (.func 108) #[] s,.func (.func 110) #[] k1,.func (.func 112) #[] k2]):=za (by rw[hi.out];exact K.out);obtain⟨F,z,D⟩:=kf N.out;have m:Hid True:=za trivial;rcases eN (j)with⟨c,k1,k2⟩|⟨c,k1,k2⟩
   ·subst c;clear k1 k2 hi;go_wp2_with fail
    refine o.out.mono ?_;rintro e h ⟨rfl,b⟩;have d:=za b;clear b;go_wp2;go_roundw
    case rel=>
     have b:=d.out;exact(.inr (.inl ⟨rfl,za ⟨by simp,b⟩⟩))
    case measure=>simp[intOf]
   have y:=za c;clear c hi;go_wp2_with fail
   refine o.out.mono ?_;rintro e h ⟨rfl,b⟩;have d:=za b;clear b;go_wp2;go_ret;have b:=d.out;obtain⟨q,z2⟩:=Vu y.out p n k l r h b;exact⟨by rw[q];rfl,z2⟩
  ·have o:=za (L.out hi.out.1 wr hi.out.2);obtain⟨F,z,D⟩:=kf (O.out wr hi.out.2);have m:=hi;rcases eN (p)with⟨c,k1,k2⟩|⟨c,k1,k2⟩
   ·subst c;clear k1 k2 hi;go_wp2_with fail
    refine o.out.mono ?_;rintro e h ⟨rfl,b⟩;have d:=za b;clear b;go_wp2;go_roundw
    case rel=>
     have b:=d.out;exact(.inr (.inr (.inl ⟨rfl,za ⟨m.out.1,by simp,b⟩⟩)))
    case measure=>simp[intOf]
   have y:=za c;clear c hi;go_wp2_with fail
   refine o.out.mono ?_;rintro e h ⟨rfl,b⟩;have d:=za b;clear b;go_wp2;go_ret;have b:=d.out;obtain⟨q,z2⟩:=Vv m.out.1 y.out n k l r h b;exact⟨by rw[q];rfl,z2⟩
  ·have o:=za (I.out hi.out.1 hi.out.2.1 wr hi.out.2.2);obtain⟨F,z,D⟩:=kf (M.out wr hi.out.2.2);have m:=hi;rcases eN (n)with⟨c,k1,k2⟩|⟨c,k1,k2⟩
   ·subst c;clear k1 k2 hi;go_wp2_with fail
    refine o.out.mono ?_;rintro e h ⟨rfl,b⟩;have d:=za b;clear b;go_wp2;go_roundw
    case rel=>
     have b:=d.out;exact(.inr (.inr (.inr ⟨rfl,za ⟨m.out.1,m.out.2.1,by simp,b⟩⟩)))
    case measure=>simp[intOf]
   have y:=za c;clear c hi;go_wp2_with fail
   refine o.out.mono ?_;rintro e h ⟨rfl,b⟩;have d:=za b;clear b;go_wp2;go_ret;have b:=d.out;obtain⟨q,z2⟩:=KV m.out.1 m.out.2.1 n k l r h b;exact⟨by rw[q];rfl,z2⟩
  go_wp2;go_ret;obtain⟨x,u,R,J⟩:=hi.out;obtain⟨q,z2⟩:=KV x u n k l r wr J;exact⟨by rw[q,R];rfl,z2⟩
theorem Jh (w:World)(B:Nat)(s k1 k2:Array Value)(j p n:Int)(k l r:World->Prop)
 (E:ag w B 89 #[.func (.func 114) #[] s,.func (.func 116) #[] k1,.func (.func 118) #[] k2])
 (c:Calls prog 114 s w fun e w'=>e= .returned j/\k w') (x:j=0->∀h,k h->Calls prog 116 k1 h fun e w'=>e= .returned p/\l w') (u:j=0->p=0->∀C,l C->Calls prog 118 k2 C fun e w'=>e= .returned n/\r w')
 (G:∀w',k w'->ag w' B 89 #[.func (.func 114) #[] s,.func (.func 116) #[] k1,.func (.func 118) #[] k2]) (A:∀w',l w'->ag w' B 89 #[.func (.func 114) #[] s,.func (.func 116) #[] k1,.func (.func 118) #[] k2]):
 Calls prog 107 #[.slice (some (B,0)) 3 3] w fun e w'=>e= .returned (.int .i64 (tO j p n))/\tP j p k l r w':=by
 have H:=za c;have L:=za x;have I:=za u;have O:=za G;have M:=za A;have K:=za E;clear c x u G A E;go_enter func107,ntmps107
 go_wp2_with fail
 go_loopw [8] (fun i wr=>(i= .int .i64 0/\Hid (wr=w))\/(i= .int .i64 1/\Hid (j=0/\k wr))\/(i= .int .i64 2/\Hid (j=0/\p=0/\l wr))\/(i= .int .i64 3/\Hid (j=0/\p=0/\n=0/\r wr))) (fun i _=>3-(intOf i).toNat)
 case atStart=>exact .inl ⟨rfl,za rfl⟩
 case round=>
  rcases hrel with⟨rfl,hi⟩|⟨rfl,hi⟩|⟨rfl,hi⟩|⟨rfl,hi⟩
  ·have o:Hid (Calls prog 114 s wr fun e w'=>e= .returned j/\k w'):=za (by rw[hi.out];exact H.out);have N:Hid (ag wr B 89 #[.func (.func 114) #[] s,.func (.func 116) #[] k1,.func (.func 118) #[] k2]):=za (by rw[hi.out];exact K.out);obtain⟨F,z,D⟩:=kf N.out;have m:Hid True:=za trivial;rcases eN (j)with⟨c,k1,k2⟩|⟨c,k1,k2⟩
   ·subst c;clear k1 k2 hi;go_wp2_with fail
    refine o.out.mono ?_;rintro e h ⟨rfl,b⟩;have d:=za b;clear b;go_wp2;go_roundw
    case rel=>
     have b:=d.out;exact(.inr (.inl ⟨rfl,za ⟨by simp,b⟩⟩))
    case measure=>simp[intOf]
   have y:=za c;clear c hi;go_wp2_with fail
   refine o.out.mono ?_;rintro e h ⟨rfl,b⟩;have d:=za b;clear b;go_wp2;go_ret;have b:=d.out;obtain⟨q,z2⟩:=Vu y.out p n k l r h b;exact⟨by rw[q];rfl,z2⟩
  ·have o:=za (L.out hi.out.1 wr hi.out.2);obtain⟨F,z,D⟩:=kf (O.out wr hi.out.2);have m:=hi;rcases eN (p)with⟨c,k1,k2⟩|⟨c,k1,k2⟩
   ·subst c;clear k1 k2 hi;go_wp2_with fail
    refine o.out.mono ?_;rintro e h ⟨rfl,b⟩;have d:=za b;clear b;go_wp2;go_roundw
    case rel=>
     have b:=d.out;exact(.inr (.inr (.inl ⟨rfl,za ⟨m.out.1,by simp,b⟩⟩)))
    case measure=>simp[intOf]
   have y:=za c;clear c hi;go_wp2_with fail
   refine o.out.mono ?_;rintro e h ⟨rfl,b⟩;have d:=za b;clear b;go_wp2;go_ret;have b:=d.out;obtain⟨q,z2⟩:=Vv m.out.1 y.out n k l r h b;exact⟨by rw[q];rfl,z2⟩
  ·have o:=za (I.out hi.out.1 hi.out.2.1 wr hi.out.2.2);obtain⟨F,z,D⟩:=kf (M.out wr hi.out.2.2);have m:=hi;rcases eN (n)with⟨c,k1,k2⟩|⟨c,k1,k2⟩
   ·subst c;clear k1 k2 hi;go_wp2_with fail
    refine o.out.mono ?_;rintro e h ⟨rfl,b⟩;have d:=za b;clear b;go_wp2;go_roundw
    case rel=>
     have b:=d.out;exact(.inr (.inr (.inr ⟨rfl,za ⟨m.out.1,m.out.2.1,by simp,b⟩⟩)))
    case measure=>simp[intOf]
   have y:=za c;clear c hi;go_wp2_with fail
   refine o.out.mono ?_;rintro e h ⟨rfl,b⟩;have d:=za b;clear b;go_wp2;go_ret;have b:=d.out;obtain⟨q,z2⟩:=KV m.out.1 m.out.2.1 n k l r h b;exact⟨by rw[q];rfl,z2⟩
  go_wp2;go_ret;obtain⟨x,u,R,J⟩:=hi.out;obtain⟨q,z2⟩:=KV x u n k l r wr J;exact⟨by rw[q,R];rfl,z2⟩
theorem XF (x:It)(D M:Int)(B:Nat)(w:World)(m o n:Value)(h:bI w B x m o n)(u:B<=w.heap.size):
 Calls prog 111 #[.agg #[m,o,n],D,M] w fun e w'=>e= .returned (.int .i64 (fM x D M))/\(w,w'):=by
 have l:=za (Jf x B (w.alloc (.cells #[m,o,n] 28)) m o n (h.below (blm u)) (by simp;omega) _ (.inl rfl));obtain⟨A,cap,rfl,rfl,rfl,_⟩:=h.open_;clear h;cases hm:x.may with
 |false=>
  have k:Hid (oG x= .tuple #[(0:Int),(0:Int),false]):=za (by rw[oG,hm];rfl);have j:Hid (fM x D M=1):=za (by rw[fM,zj hm]);clear hm;go_enter func111,ntmps111
  go_wp2_with fail
  refine l.out.mono ?_;rintro e p ⟨rfl,b⟩;rw[k.out];go_wp2;go_ret;rw[j.out];exact⟨rfl,(yD (zm _ _) (zd _) _).trans (b.mono (by simp))⟩
 |true=>
  obtain⟨c,q⟩:∃c,(x.count:Int)=c:=⟨_,rfl⟩
  obtain⟨d,hd⟩:∃d,(x.deep:Int)=d:=⟨_,rfl⟩
  have k:Hid (oG x= .tuple #[c,d,true]):=za (by rw[oG,hm,<-q,<-hd];rfl);have i:fM x D M=if D<d then 6 else if M<c then 4 else 0:=by rw[fM,zi (by simp[hm]),q,hd]
  clear hm q hd;by_cases s:D<d
  ·have j:Hid (fM x D M=6):=za (by rw[i,zj s]);clear i;go_enter func111,ntmps111
   go_wp2_with fail
   refine l.out.mono ?_;rintro e p ⟨rfl,b⟩;rw[k.out];go_wp2;go_ret;rw[j.out];exact⟨rfl,(yD (zm _ _) (zd _) _).trans (b.mono (by simp))⟩
  rw[zi s]at i;by_cases r:M<c
  ·have j:Hid (fM x D M=4):=za (by rw[i,zj r]);clear i;go_enter func111,ntmps111
   go_wp2_with fail
   refine l.out.mono ?_;rintro e p ⟨rfl,b⟩;rw[k.out];go_wp2;go_ret;rw[j.out];exact⟨rfl,(yD (zm _ _) (zd _) _).trans (b.mono (by simp))⟩
  have j:Hid (fM x D M=0):=za (by rw[i,zi r]);clear i;go_enter func111,ntmps111
  go_wp2_with fail
  refine l.out.mono ?_;rintro e p ⟨rfl,b⟩;rw[k.out];go_wp2;go_ret;rw[j.out];exact⟨rfl,(yD (zm _ _) (zd _) _).trans (b.mono (by simp))⟩
mutual
def nZ (w:World)(lo:Nat):It->Value->Value->Value->Prop
 | .mk t l s,c0,c1,c2=>c0= .string t/\c1= .bool l/\t.size<=9223372036854775807/\s.length<=9223372036854775807/\∃A cap,c2= .slice A s.length cap/\s.length<=cap/\cap<=9223372036854775807/\qG w lo s A 0
def qG (w:World)(lo:Nat):List It->Option Addr->Nat->Prop
 | [],_,_=>True
 |x::xs,A,i=>(∃b c0 c1 c2,A=some ⟨b,0,none⟩/\lo<=b/\w.cell? ⟨b,i*3,none⟩=some c0/\w.cell? ⟨b,i*3+1,none⟩=some c1/\w.cell? ⟨b,i*3+2,none⟩=some c2/\(∀o,w.frozen? ⟨b,o,none⟩=false)/\nZ w lo x c0 c1 c2)/\qG w lo xs A (i+1)
end
theorem qG.at_ {c:Nat}:∀{s:List It} {i:Nat},qG w c s A i->∀(j:Nat) (h:j<s.length),∃b k d e,A=some ⟨b,0,none⟩/\c<=b/\w.cell? ⟨b,(i+j)*3,none⟩=some k/\w.cell? ⟨b,(i+j)*3+1,none⟩=some d/\w.cell? ⟨b,(i+j)*3+2,none⟩=some e/\(∀o,w.frozen? ⟨b,o,none⟩=false)/\nZ w c s[j] k d e
 | [],_,_,j,h=>by simp at h
 |x::xs,i,hi,0,_=>by simpa[qG]using hi.1
 |x::xs,i,hi,j+1,h=>by
  have:=qG.at_ hi.2 j (by simpa using h);rw[show i+1+j=i+(j+1)from by omega]at this;simpa using this
theorem qG.tI {c:Nat}:∀{s:List It} {i:Nat},(∀(j:Nat) (h:j<s.length),∃b d k e,A=some ⟨b,0,none⟩/\c<=b/\w.cell? ⟨b,(i+j)*3,none⟩=some d/\w.cell? ⟨b,(i+j)*3+1,none⟩=some k/\w.cell? ⟨b,(i+j)*3+2,none⟩=some e/\(∀o,w.frozen? ⟨b,o,none⟩=false)/\nZ w c s[j] d k e)->qG w c s A i
 | [],_,_=>by simp[qG]
 |x::xs,i,h=>by
  refine⟨h 0 (Z5 _),qG.tI fun j l=> ?_⟩;have:=h (j+1) (by simpa using l);rw[show i+(j+1)=i+1+j from by omega]at this;simpa using this
theorem nZ.open_ {b:Nat}{c:Value}(h:nZ w b x c e d):∃A cap,c= .string x.text/\e= .bool x.list/\d= .slice A x.sub.length cap/\x.text.size<=9223372036854775807/\x.sub.length<=cap/\cap<=9223372036854775807/\qG w b x.sub A 0:=by
 cases x with
 |mk t l s=>
  obtain⟨j,n,k,q,A,cap,i,p,m,o⟩:=h;exact⟨A,cap,j,n,i,k,p,m,o⟩
theorem nZ.ah {d:Nat}(J:lo'<=d)(E:∀b,d<=b->b<w.heap.size->w'.heap[b]?=w.heap[b]?):∀(x:It) {k i e:Value},nZ w d x k i e->nZ w' lo' x k i e:=by
 intro x;induction x using It.ind with
 |h t l s ih=>
  intro k i e h;obtain⟨G,B,q,z,A,cap,p,I,y,H⟩:=h;refine⟨G,B,q,z,A,cap,p,I,y,qG.tI fun j n=> ?_⟩;obtain⟨b,d0,d1,d2,D,F,m,C,u,r,hi⟩:=H.at_ j n;have c:=E b F (lt_of_cell m);exact⟨b,d0,d1,d2,D,by omega,(zB c).trans m,(zB c).trans C,(zB c).trans u,fun o=>(Zt c).trans (r o),ih _ (zD n) hi⟩
theorem nZ.below {c:Nat}(h:nZ w c x d i e)(j:Below w.heap.size w w'):nZ w' c x d i e:=nZ.ah (zd _) (fun b _ k=>j.block b k) x h
theorem nZ.tJ {r:Nat}:∀(x:It) {c e d:Value},nZ w r x c e d->bI w w.heap.size x c e d:=by
 intro x;induction x using It.ind with
 |h t l s ih=>
  intro c e d h;obtain⟨p,z,q,y,A,cap,m,C,u,B⟩:=h;refine⟨p,z,q,y,A,cap,m,C,u,bK.tI fun j i=> ?_⟩;obtain⟨b,d0,d1,d2,o,E,k,D,n,_,hi⟩:=B.at_ j i;exact⟨b,0,d0,d1,d2,o,lt_of_cell k,by simpa using k,by simpa using D,by simpa using n,ih _ (zD i) hi⟩
def AN (w:World)(lo B g n k:Nat)(s:List It):Prop:=
 (∃cur,ag w g 28 cur/\n*3<=cur.size)/\∀j (h:j<s.length),∃d0 d1 d2,w.cell? ⟨g,j*3,none⟩=some d0/\w.cell? ⟨g,j*3+1,none⟩=some d1/\w.cell? ⟨g,j*3+2,none⟩=some d2/\(k<=j->bI w B s[j] d0 d1 d2)/\(j<k->nZ w lo s[j] d0 d1 d2)
theorem AN.ah {e:Nat}(h:AN w e B g n k s)(b:Below w.heap.size w w')(x:B<=w.heap.size):AN w' e B g n k s:=by
 obtain⟨⟨l,c,p⟩,i⟩:=h;refine⟨⟨l,c.ah b c.lt,p⟩,fun j o=> ?_⟩;obtain⟨d0,d1,d2,q,u,m,r,y⟩:=i j o;exact⟨d0,d1,d2,(b.cell c.lt).trans q,(b.cell c.lt).trans u,(b.cell c.lt).trans m,fun d=>(r d).below (b.mono x),fun d=>(y d).below b⟩
theorem AN.put {q:Nat}(h:AN w q B g n k s)(S:k<s.length)(O:s.length=n)(U:g<q)(R:B<=g){o:Value}(K:nZ w q s[k] o i e):
 AN (((w.setCell ⟨g,k*3,none⟩ o).setCell ⟨g,k*3+1,none⟩ i).setCell ⟨g,k*3+2,none⟩ e) q B g n (k+1) s:=by
 obtain⟨⟨M,r,I⟩,D⟩:=h;have u:ae [g] w (((w.setCell ⟨g,k*3,none⟩ o).setCell ⟨g,k*3+1,none⟩ i).setCell ⟨g,k*3+2,none⟩ e):=((((ae.refl [g] w).setCell (p:=⟨g,k*3,none⟩) (by simp) _).setCell (p:=⟨g,k*3+1,none⟩) (by simp) _).setCell (p:=⟨g,k*3+2,none⟩) (by simp) _)
 have c:=((r.set (k*3) o).set (k*3+1) i).set (k*3+2) e;refine⟨⟨_,c,by simpa using I⟩,fun j F=> ?_⟩;obtain⟨d0,d1,d2,y,A,z,L,E⟩:=D j F;have H:∀{x:It} {d l m:Value},bI w B x d l m->bI (((w.setCell ⟨g,k*3,none⟩ o).setCell ⟨g,k*3+1,none⟩ i).setCell ⟨g,k*3+2,none⟩ e) B x d l m:=fun{x} {d} {l} {m} hi=>
  bI.ah (zd _) (fun p N=>u.cell (by have:=r.lt;omega) (by simp;omega)) x hi
 have C:∀{x:It} {d l m:Value},nZ w q x d l m->nZ (((w.setCell ⟨g,k*3,none⟩ o).setCell ⟨g,k*3+1,none⟩ i).setCell ⟨g,k*3+2,none⟩ e) q x d l m:=fun{x} {d} {l} {m} hi=>
  nZ.ah (zd _) (fun b W G=>u.block b G (by simp;omega)) x hi
 by_cases J:j=k
 ·subst J;refine⟨o,i,e, ?_, ?_, ?_,fun h=>by omega,fun _=>C K⟩
  ·rw[c.cell];simp[yU];omega
  ·rw[c.cell];simp[yU];omega
  rw[c.cell];simp[yU];omega
 refine⟨d0,d1,d2, ?_, ?_, ?_,fun h=>H (L (by omega)),fun h=>C (E (by omega))⟩
 ·rw[c.cell];rw[r.cell]at y;simp[yU];rw[zi (by omega),zi (by omega),zi (by omega)];exact y
 ·rw[c.cell];rw[r.cell]at A;simp[yU];rw[zi (by omega),zi (by omega),zi (by omega)];exact A
 rw[c.cell];rw[r.cell]at z;simp[yU];rw[zi (by omega),zi (by omega),zi (by omega)];exact z
theorem AN.done {b:Nat}(h:AN w b B g n k s)(x:s.length<=k)(y:g<b)(i:lo'<=g):qG w lo' s (some ⟨g,0,none⟩) 0:=by
 obtain⟨⟨r,p,u⟩,c⟩:=h;refine qG.tI fun j e=> ?_
 obtain⟨d0,d1,d2,l,m,d,_,q⟩:=c j e;exact⟨g,d0,d1,d2,rfl,i,by simpa using l,by simpa using m,by simpa using d,fun o=>p.frozen o,nZ.ah (by omega) (fun _ _ _=>rfl) _ (q (by omega))⟩
theorem Ji {base cap:Nat}{b:List Value}(E:s≠ [])(p:w'.ownsRow base 28 3 (.slice A s.length cap) s.length b)(D:eV w B s b)(I:Below w.heap.size w w')(F:B<=w.heap.size):
 ∃g,A=some ⟨g,0,none⟩/\base<=g/\g<w'.heap.size/\AN w' (g+1) B g s.length 0 s:=by
 rcases p.2 with⟨q,l⟩|⟨g,L,y,H,G,r,K,M,hz,J⟩
 ·exact absurd (zo l) E
 injection H with hA _ hc;subst hA;subst hc;refine⟨g,rfl,G,yJ r,⟨y,r,by rw[hz];omega⟩,fun j d=> ?_⟩;have key:∀{s:List It} {b:List Value},eV w B s b->∀j (d:j<s.length),∃e c k,b[j*3]?=some e/\b[j*3+1]?=some c/\b[j*3+2]?=some k/\bI w B s[j] e c k:=by
  intro s;induction s with
  |nil=>intro b _ j d;simp at d
  |cons x xs ih=>
   intro b h j d;obtain⟨z,m,C,N,rfl,q,l⟩:=h;cases j with
   |zero=>exact⟨z,m,C,rfl,rfl,rfl,q⟩
   |succ j=>
    obtain⟨e,c,k,n,k1,k2,o⟩:=ih l j (by simpa using d);refine⟨e,c,k, ?_, ?_, ?_,by simpa using o⟩
    ·rw[show(j+1)*3=j*3+3 from by omega];simpa using n
    ·rw[show(j+1)*3+1=(j*3+1)+3 from by omega];simpa using k1
    rw[show(j+1)*3+2=(j*3+2)+3 from by omega];simpa using k2
 obtain⟨e,c,k,n,k1,k2,o⟩:=key D j d;have cell:∀i u,b[i]?=some u->w'.cell? ⟨g,i,none⟩=some u:=fun i u hu=>by
  have:=p.cells rfl i u hu;have m:(⟨g,0,none⟩:Addr).add i=⟨g,i,none⟩:=by unfold Addr.add;split<;>simp_all
  rwa [m]at this
 exact⟨e,c,k,cell _ _ n,cell _ _ k1,cell _ _ k2,fun _=>o.below (I.mono F),fun h=>by omega⟩
theorem XG :∀(x:It) (B:Nat) (w:World) (y z N:Value),bI w B x y z N->B<=w.heap.size->x.count<=1000000->
 Calls prog 55 #[.agg #[y,z,N]] w fun e w'=>(∃G,e= .returned (.agg #[y,z,G])/\nZ w' w.heap.size x y z G)/\Below w.heap.size w w':=by
 intro x;induction x using It.ind with
 |h t l s ih=>
  intro B w y z N h hB Y;obtain⟨rfl,rfl,U,I,A,cap,rfl,nH,kr,cY⟩:=h;have IH:=za ih;have HS:=za cY;clear ih cY;have NR:aC s<=1000000:=by simp only[It.count]at Y;omega
  have av:=rA s;clear Y;have M:Below w.heap.size w ((w.alloc (.cells #[.string t,.bool l,.slice A s.length cap] 28)).alloc (.cells #[.string ⟨#[]⟩,.bool false,.slice none 0 0] 28)):=bO;have K:=za (Tt s A B cap _ (HS.out.below (M.mono hB)) (by simp;omega) (by omega));have Bc:=za M;have On:ag ((w.alloc (.cells #[.string t,.bool l,.slice A s.length cap] 28)).alloc (.cells #[.string ⟨#[]⟩,.bool false,.slice none 0 0] 28)) w.heap.size 28 #[.string t,.bool l,.slice A s.length cap]:=(ag.new w _ _).alloc _;have JF:ag ((w.alloc (.cells #[.string t,.bool l,.slice A s.length cap] 28)).alloc (.cells #[.string ⟨#[]⟩,.bool false,.slice none 0 0] 28)) (w.heap.size+1) 28 #[.string ⟨#[]⟩,.bool false,.slice none 0 0]:=by
   have:=ag.new (w.alloc (.cells #[.string t,.bool l,.slice A s.length cap] 28)) 28 #[.string ⟨#[]⟩,.bool false,.slice none 0 0];simpa using this
  have ah:=za On;have ab:=za JF;clear M On JF;go_enter func55,ntmps55
  go_wp2_with fail
  refine K.out.mono ?_;rintro e w2 ⟨⟨A',d,cs,rfl,Z,L,_,ha,X⟩,u⟩;have m:=za (ah.out.ah u (by simp;omega));have n:=za (ab.out.ah u (by simp));have o:Hid (Below w.heap.size w w2):=za (Bc.out.trans (u.mono (by simp;omega)));have gh:=za (fun I=>Ji I X ha u (by simp;omega));clear ha X u K ah ab Bc;obtain⟨g0,g1,g2,af,aa,ad⟩:=bp m.out;obtain⟨F,D,J,lY,lX,lW⟩:=bp n.out;by_cases R:s= []
  ·subst R;go_wp2_with fail
   refine yc 1 ?_;rw[yk];go_wp2;refine zl (v:= .agg #[.string t,.bool l,.slice A' 0 d]) (by simp[results,results55,go_sem,F,D,J]) rfl ?_;exact⟨⟨_,rfl,rfl,rfl,U,by simp,A',d,rfl,by simp,L,trivial⟩,((o.out.setCell (by simp) _).setCell (by simp) _).setCell (by simp) _⟩
  obtain⟨g,rfl,Cj,py,c⟩:=gh.out R;simp only[zt]at Cj;have q:=za c;clear c R gh;go_wp2_with fail
  go_loopw [10] (fun i wr=>∃k:Nat,k<=s.length/\i= .int .i64 k/\AN wr (g+1) B g s.length k s/\Below w.heap.size w wr/\ag wr w.heap.size 28 #[.string t,.bool l,.slice A s.length cap]/\ag wr (w.heap.size+1) 28 #[.string ⟨#[]⟩,.bool false,.slice none 0 0]/\g<wr.heap.size) (fun i _=>s.length-(intOf i).toNat)
  case atStart=>exact⟨0,by omega,rfl,q.out,o.out,m.out,n.out,py⟩
  case round=>
   clear g0 g1 g2 af aa ad F D J lY lX lW q o m n;obtain⟨k,hk,rfl,c,E,hx,O,ar⟩:=hrel;have q:=za c;have o:=za E;have m:=za hx;have n:=za O;have G6:=E.size;obtain⟨g0,g1,g2,af,aa,ad⟩:=bp hx;obtain⟨F,D,J,lY,lX,lW⟩:=bp O;clear E hx O;by_cases C:k<s.length
   ·obtain⟨d0,d1,G,e0,e1,e2,r,_⟩:=c.2 k C;have r:=r (zd _);have gU:=zD C;have oO:s[k].count<=1000000:=by
     have:=vN s (k+1);rw[fh s k C,ov]at this;simp only[aC]at this;omega
    have K:=za (IH.out _ gU B wr d0 d1 G r (by omega) oO);obtain⟨AA,nK,rfl,rfl,rfl,_⟩:=r.open_;clear r c;go_wp2_with fail
    refine K.out.mono ?_;rintro e w3 ⟨⟨f2,rfl,S⟩,j⟩;have aq:=j.size;obtain⟨BB,N1,_,_,rfl,_⟩:=S.open_;have ak:=q.out.ah j (by omega);obtain⟨⟨au,H,_⟩,cG⟩:=ak;obtain⟨k0,k1,k2,m0,m1,m2,_⟩:=cG k C;have n0:=H.frozen (k*3);have n1:=H.frozen (k*3+1);have n2:=H.frozen (k*3+2);have gy:=za (o.out.trans (j.mono G6));have ai:=za (m.out.ah j m.out.lt);have al:=za (n.out.ah j n.out.lt);have DP:=za ((q.out.ah j (by omega)).put C rfl (by omega) (by omega) (nZ.ah (lo':=g+1) (by omega) (fun _ _ _=>rfl) _ S));clear j S H cG;go_wp2;go_roundw
    case rel=>
     refine⟨k+1,by omega,by go_num,DP.out,((gy.out.setCell (by simp;omega) _).setCell (by simp;omega) _).setCell (by simp;omega) _,((ai.out.dE (by simp;omega) _).dE (by simp;omega) _).dE (by simp;omega) _,((al.out.dE (by simp;omega) _).dE (by simp;omega) _).dE (by simp;omega) _,by simp[World.setCell];omega⟩
    case measure=>simp[intOf];omega
   have HD:=za (c.done (by omega) (by omega) (lo':=w.heap.size+2) (by omega));clear c;go_wp2;refine zl (v:= .agg #[.string t,.bool l,.slice (some ⟨g,0,none⟩) s.length d]) (by simp[results,results55,go_sem,F,D,J]) rfl ?_;refine⟨⟨_,rfl,rfl,rfl,U,I,some ⟨g,0,none⟩,d,rfl,Z,L, ?_⟩,((o.out.setCell (by simp) _).setCell (by simp) _).setCell (by simp) _⟩;have oT:nZ wr (w.heap.size+2) (.mk t l s) (.string t) (.bool l) (.slice (some ⟨g,0,none⟩) s.length d):=⟨rfl,rfl,U,I,some ⟨g,0,none⟩,d,rfl,Z,L,HD.out⟩
   have aj:=nZ.ah (lo':=w.heap.size) (w':=((wr.setCell ⟨w.heap.size+1,0,none⟩ (.string t)).setCell ⟨w.heap.size+1,1,none⟩ (.bool l)).setCell ⟨w.heap.size+1,2,none⟩ (.slice (some ⟨g,0,none⟩) s.length d)) (by omega) (fun b E hl=>((((ae.refl [w.heap.size+1] wr).setCell (p:=⟨w.heap.size+1,0,none⟩) (by simp) _).setCell (p:=⟨w.heap.size+1,1,none⟩) (by simp) _).setCell (p:=⟨w.heap.size+1,2,none⟩) (by simp) _).block b hl (by simp;omega)) _ oT;obtain⟨_,_,_,_,A9,ao,W,_,_,uD⟩:=aj;injection W with W;subst W;exact uD
theorem XH (x:It)(B:Nat)(w:World)(i d u:Value)(h:bI w B x i d u)(y:B<=w.heap.size)(l:x.may=true):
 Calls prog 37 #[.agg #[i,d,u]] w fun e w'=>(∃m,e= .returned (.agg #[i,d,m])/\nZ w' w.heap.size x i d m)/\Below w.heap.size w w':=by
 have N:x.count<=1000000:=by simp only[It.may,zy,zY]at l;omega
 have q:=za h;obtain⟨A,cap,rfl,rfl,rfl,_⟩:=h.open_;have j:Below w.heap.size w ((w.alloc (.cells #[.string x.text,.bool x.list,.slice A x.sub.length cap] 28)).alloc (.cells #[.string ⟨#[]⟩,.bool false,.slice none 0 0] 28)):=bO;have r:=za (Qr x B _ _ _ _ (q.out.below (j.mono y)) (by simp;omega));rw[l]at r;have C:ag ((w.alloc (.cells #[.string x.text,.bool x.list,.slice A x.sub.length cap] 28)).alloc (.cells #[.string ⟨#[]⟩,.bool false,.slice none 0 0] 28)) w.heap.size 28 #[.string x.text,.bool x.list,.slice A x.sub.length cap]:=(ag.new w _ _).alloc _;have z:ag ((w.alloc (.cells #[.string x.text,.bool x.list,.slice A x.sub.length cap] 28)).alloc (.cells #[.string ⟨#[]⟩,.bool false,.slice none 0 0] 28)) (w.heap.size+1) 28 #[.string ⟨#[]⟩,.bool false,.slice none 0 0]:=by
  have:=ag.new (w.alloc (.cells #[.string x.text,.bool x.list,.slice A x.sub.length cap] 28)) 28 #[.string ⟨#[]⟩,.bool false,.slice none 0 0];simpa using this
 have G:=za j;have S:=za C;have D:=za z;clear h j l C z;go_enter func37,ntmps37
 go_wp2_with fail
 refine r.out.mono ?_;rintro e o ⟨rfl,c⟩;have H:=c.size;simp only[zt]at H;have s:Hid (Below w.heap.size w o):=za (G.out.trans (c.mono (by simp;omega)));obtain⟨g0,g1,g2,aa,Y,W⟩:=bp (S.out.ah c (by simp;omega));have E:=za (D.out.ah c (by simp));have R:=za (XG x B o _ _ _ (q.out.below (s.out.mono y)) (by omega) N);clear c;go_wp2_with fail
 refine R.out.mono ?_;rintro e w3 ⟨⟨m,rfl,n⟩,k⟩;obtain⟨F,K,J,lY,X,Z⟩:=bp (E.out.ah k (by omega));have I:=za n;have M:Hid (Below w.heap.size w w3):=za (s.out.trans (k.mono (by omega)));obtain⟨U,L,_,_,rfl,_⟩:=n.open_;clear n k;go_wp2;refine zl (v:= .agg #[.string x.text,.bool x.list,.slice U x.sub.length L]) (by simp[results,results37,go_sem,F,K,J]) rfl ?_;refine⟨⟨_,rfl, ?_⟩,((M.out.setCell (by simp) _).setCell (by simp) _).setCell (by simp) _⟩;exact nZ.ah (by omega) (fun b hb O=>((((ae.refl [w.heap.size+1] w3).setCell (p:=⟨w.heap.size+1,0,none⟩) (by simp) _).setCell (p:=⟨w.heap.size+1,1,none⟩) (by simp) _).setCell (p:=⟨w.heap.size+1,2,none⟩) (by simp) _).block b O (by simp;omega)) _ I.out
theorem Nb :∀(x:Ty) (B:Nat) (w:World) (K I H F:Value),cq w B x K I H F->B<=w.heap.size->True->
 Calls prog 45 #[.agg #[K,I,H,F]] w fun e w'=>e= .returned (.bool (!x.full))/\(w,w'):=by
 intro x;induction x using Ty.ind with
 |h ki s l ta ih=>
  intro B w K I H F h hB _;obtain⟨rfl,rfl,rfl,W,X,L,hs,A,cap,rfl,nH,kr,N⟩:=h;have IH:=za ih;have HS:=za N;have aa:=za L;unfold mu at W X L;obtain⟨Ro,Rn⟩:=W;obtain⟨Rl,Rk⟩:=X;obtain⟨Rm,JM⟩:=L;clear ih N;obtain⟨R,y⟩:∃R,Hid ((!(Ty.mk ki s l ta).full)=R):=⟨_,za rfl⟩
  rw[y.out];by_cases u:ta=0
  ·subst u;have r:Hid (R= !(ca l)):=za (by rw[<-y.out];rfl);go_enter func45,ntmps45
   go_wp2_with fail
   go_loopw [3] (fun i wr=>∃k:Nat,k<=l.length/\i= .int .i64 k/\Hid (ca (l.take k)=true)/\(w,wr)/\(wr,w.heap.size,2,Value.slice A l.length cap)) (fun i _=>l.length-(intOf i).toNat)
   case atStart=>exact⟨0,by omega,rfl,za (by simp[ca]),bO,by simp⟩
   case round=>
    obtain⟨k,hk,rfl,S,c,j⟩:=hrel;by_cases q:k<l.length
    ·obtain⟨b,o,d0,d1,d2,d3,rfl,gb,z,n,E,G,hi⟩:=HS.out.at_ k q;simp only[zJ]at z n E G;replace z:=(c.cell (p:=(b,o+k*4)) (by simp;omega)).trans z;replace n:=(c.cell (p:=(b,o+k*4+1)) (by simp;omega)).trans n;replace E:=(c.cell (p:=(b,o+k*4+2)) (by simp;omega)).trans E;replace G:=(c.cell (p:=(b,o+k*4+3)) (by simp;omega)).trans G;have O:=c.size;have gU:=zD q;have M:=hi.below (c.mono hB);have m:=za (IH.out _ gU B wr d0 d1 d2 d3 M (by omega) trivial);cases hf:l[k].full with
     |true=>
      rw[hf]at m;have J:Hid (ca (l.take (k+1))=true):=za (by rw[lP q,S.out,hf];rfl);clear hf hi M;go_wp2_with fail
      refine m.out.mono ?_;rintro e Y ⟨rfl,d⟩;have Z:=lt_of_cell j;have U:=(d.cell (p:=(w.heap.size,2)) (by simp;omega)).trans j;have D:=c.trans (d.mono O);go_wp2;go_roundw
      case rel=>exact⟨k+1,by omega,by go_num,J,D,U⟩
      case measure=>simp[intOf];omega
     |false=>
      rw[hf]at m;have J:Hid (ca l=false):=za (qF q hf);clear hf hi M;go_wp2_with fail
      refine m.out.mono ?_;rintro e Y ⟨rfl,d⟩;have Z:=lt_of_cell j;have U:=(d.cell (p:=(w.heap.size,2)) (by simp;omega)).trans j;have D:=c.trans (d.mono O);go_wp2;go_ret;exact⟨by rw[r.out,J.out];rfl,D⟩
    have C:=S.out;rw[zx (by omega)]at C;have HM:=za C;clear C;go_wp2;go_ret;exact⟨by rw[r.out,HM.out];rfl,c⟩
  have n:(ta !=0)=true:=yN.2 u;have r:Hid (R=true):=za (by rw[<-y.out,KU,Ty.CJ,zv u];rfl);clear u;go_enter func45,ntmps45
  go_wp2;go_ret;exact⟨by rw[r.out];rfl,bO⟩
theorem Nc (x:Ty)(B:Nat)(w:World)(q n m j:Value)(h:cq w B x q n m j)(W:B<=w.heap.size)(hc:x.count<=4611686018427387904):
 Calls prog 27 #[.agg #[q,n,m,j]] w fun e w'=>e= .returned x.flat/\(w,w'):=by
 have Wa:=za (fun V (Z:Below w.heap.size w V)=>KB x B V q n m j (h.below (Z.mono W)) (by have:=Z.size;omega) hc);obtain⟨z,s,l,r⟩:=x;obtain⟨rfl,rfl,rfl,qO,Cm,oc,hs,A,cap,rfl,nH,kr,O⟩:=h;have HS:=za O;have IH:Hid (∀y∈l,∀(B:Nat) (w:World) (q n m j:Value),cq w B y q n m j->B<=w.heap.size->True->Calls prog 45 #[.agg #[q,n,m,j]] w fun e w'=>e= .returned (.bool (!y.full))/\(w,w')):=za (fun y _=>Nb y);have Y:Hid ((Ty.mk z s l r).flat=((Ty.mk z s l r).may&&ca l)):=za rfl;unfold mu at qO Cm oc;clear O hc;generalize (Ty.mk z s l r).flat=R at*;generalize (Ty.mk z s l r).may=MY at*;have HX:Hid (R=(MY&&ca l)):=Y;clear Y;go_enter func27,ntmps27
 go_wp2_with fail
 go_loopw [3] (fun i wr=>∃k:Nat,k<=l.length/\i= .int .i64 k/\Hid (ca (l.take k)=true)/\(w,wr)/\(wr,w.heap.size,2,Value.slice A l.length cap)/\Below (w.heap.size+1) (w.alloc (.cells #[z,s,.slice A l.length cap,r] 70)) wr) (fun i _=>l.length-(intOf i).toNat)
 case atStart=>exact⟨0,by omega,rfl,za (by simp[ca]),bO,by simp,zm _ _⟩
 case round=>
  obtain⟨k,hk,rfl,U,c,C,M⟩:=hrel;by_cases F:k<l.length
  ·obtain⟨b,o,d0,d1,d2,d3,rfl,gb,G,K,I,J,hi⟩:=HS.out.at_ k F;simp only[zJ]at G K I J;replace G:=(c.cell (p:=(b,o+k*4)) (by simp;omega)).trans G;replace K:=(c.cell (p:=(b,o+k*4+1)) (by simp;omega)).trans K;replace I:=(c.cell (p:=(b,o+k*4+2)) (by simp;omega)).trans I;replace J:=(c.cell (p:=(b,o+k*4+3)) (by simp;omega)).trans J;have D:=c.size;have gU:=zD F;have N:=hi.below (c.mono W);have E:=za (IH.out _ gU B wr d0 d1 d2 d3 N (by omega) trivial);have aa:=M.size;cases hf:l[k].full with
   |true=>
    rw[hf]at E;have L:Hid (ca (l.take (k+1))=true):=za (by rw[lP F,U.out,hf];rfl);clear hf hi N;go_wp2_with fail
    refine E.out.mono ?_;rintro e S ⟨rfl,d⟩;have ab:=M.trans (d.mono (by simpa using aa));have jY:=lt_of_cell C;have X:=(d.cell (p:=(w.heap.size,2)) (by simp;omega)).trans C;have u:=c.trans (d.mono D);go_wp2;go_roundw
    case rel=>exact⟨k+1,by omega,by go_num,L,u,X,ab⟩
    case measure=>simp[intOf];omega
   |false=>
    rw[hf]at E;have L:Hid (ca l=false):=za (qF F hf);clear hf hi N;go_wp2_with fail
    refine E.out.mono ?_;rintro e S ⟨rfl,d⟩;have jY:=lt_of_cell C;have X:=(d.cell (p:=(w.heap.size,2)) (by simp;omega)).trans C;have u:=c.trans (d.mono D);go_wp2;go_ret;exact⟨by rw[HX.out,L.out,Bool.and_false];rfl,u⟩
  have H:=U.out;rw[zx (by omega)]at H;have HM:=za H;obtain⟨q0,q1,q2,q3⟩:=Mr M;have D:=c.size;have rr:=za (Wa.out wr c);have HB:=za c;clear H;go_wp2_with fail
  refine rr.out.mono ?_;rintro e S ⟨rfl,d⟩;have u:=HB.out.trans (d.mono D);go_wp2;go_ret;exact⟨by rw[HX.out,HM.out,Zm];rfl,u⟩
