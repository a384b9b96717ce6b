/- tree.Put: its three checks, and it itself. -/
import Derived.Test.YtdbmifjankgfpaaGreatDoorKA30
import Derived.Test.YtdbmifjankgfpaaGreatDoorKA34
import Derived.Test.YtdbmifjankgfpaaGreatDoorKA37
set_option linter.all false
set_option maxRecDepth 100000
set_option maxHeartbeats 2000000
open Go.Proofs.Tryz
namespace Go.Proofs.YtdbmifjankgfpaaGreatDoor
open Go.RowKit
theorem XA (ty:Ty)(x:It)(B m o:Nat)(w:World)(d k l t3 j c b:Value)(n:af w m 43 #[d,k,l,t3])(p:af w o 28 #[j,c,b])(h:cG w B ty d k l t3)(i:dX w B x j c b)(q:B<=w.heap.size)(u:Laid w):
 Calls prog 142 #[.pointer (some ⟨m,0,none⟩),.pointer (some ⟨o,0,none⟩)] w fun e w'=>e= .returned (.int .i64 (eO ty x))/\Below w.heap.size w w':=by
 have s:=za (I9 ty x B w d k l t3 j c b h i q u);obtain⟨z,y,F,I,_⟩:=aS n;obtain⟨D,H,K⟩:=ku p;obtain⟨A,cap,rfl,rfl,rfl,rfl,_⟩:=h.open_;obtain⟨C,J,rfl,rfl,rfl,_⟩:=i.open_;generalize eO ty x=E at*;clear h i n p;go_enter func142,ntmps142
 go_wp2_with fail
 refine s.out.mono ?_;rintro e G ⟨rfl,r⟩;go_wp2;go_ret;exact⟨rfl,r⟩
theorem XB (x:It)(D M:Int)(B k j d:Nat)(w:World)(i c b:Value)(m:af w k 28 #[i,c,b])(l:af w j 3 #[.int .i64 D])(n:af w d 3 #[.int .i64 M])(h:dX w B x i c b)(o:B<=w.heap.size):
 Calls prog 144 #[.pointer (some ⟨k,0,none⟩),.pointer (some ⟨j,0,none⟩),.pointer (some ⟨d,0,none⟩)] w fun e w'=>e= .returned (.int .i64 (fV x D M))/\Below w.heap.size w w':=by
 have q:=za (Xx x D M B w i c b h o);obtain⟨s,y,F⟩:=ku m;have z:w.cell? ⟨j,0,none⟩=some (.int .i64 D):=l.cell 0;have A:w.cell? ⟨d,0,none⟩=some (.int .i64 M):=n.cell 0;obtain⟨r,C,rfl,rfl,rfl,_⟩:=h.open_;generalize fV x D M=E at*;clear h m l n;go_enter func144,ntmps144
 go_wp2_with fail
 refine q.out.mono ?_;rintro e u ⟨rfl,p⟩;go_wp2;go_ret;exact⟨rfl,p⟩
theorem XC (x:It)(B o b:Nat)(w:World)(z l h d:Value)(q:af w o 28 #[l,h,d])(m:af w b 9 #[z])(k:dX w B x l h d)(r:B<=w.heap.size)(n:x.may=true)(p:x.gN.length<=1099511627776):
 Calls prog 146 #[.pointer (some ⟨o,0,none⟩),.pointer (some ⟨b,0,none⟩)] w fun e w'=>e= .returned (.int .i64 0)/\af w' b 9 #[.string ⟨x.gN.toArray⟩]/\ae [b] w w':=by
 have C:=za (QK x B w l h d k r n p);obtain⟨F,H,J⟩:=ku q;obtain⟨E,I,rfl,rfl,rfl,_⟩:=k.open_;have u:=za m;have y:=m.lt;generalize (⟨x.gN.toArray⟩:ByteArray)=S at*;clear k q p n m;go_enter func146,ntmps146
 go_wp2_with fail
 refine C.out.mono ?_;rintro e j ⟨rfl,i⟩;have c:=u.out.ag i y;have D:j.cell? ⟨b,0,none⟩=some z:=c.cell 0;have G:j.frozen? ⟨b,0,none⟩=false:=c.frozen 0;have s:=za c;have A:Hid (ae [b] w j):=za ((ae.ah i (zg _)).mono (by simp));clear c i;go_wp2;go_ret;exact⟨rfl,s.out.set 0 _,A.out.setCell (by simp) _⟩
theorem No (ty:Ty)(x:It)(D M:Int)(B:Nat)(w:World)(o q r t3 m j i:Value)(F:cG w B ty o q r t3)(p:dX w B x m j i)(s:B<=w.heap.size)(K:Laid w)(L:x.gN.length<=1099511627776):
 Calls prog 119 #[.agg #[o,q,r,t3],.agg #[m,j,i],.int .i64 D,.int .i64 M] w fun e w'=>e= .returned (.tuple #[.string (if gX ty x D M=0 then⟨x.gN.toArray⟩else⟨#[]⟩),.int .i64 (gX ty x D M)])/\Below w.heap.size w w':=by
 obtain⟨b,d⟩:∃b,((((((w.alloc (.cells #[o,q,r,t3] 43)).alloc (.cells #[m,j,i] 28)).alloc (.cells #[.int .i64 D] 3)).alloc (.cells #[.int .i64 M] 3)).alloc (.cells #[.string ⟨#[]⟩] 9)).alloc (.cells #[.func (.func 142) #[] #[.pointer (some ⟨w.heap.size,0,none⟩),.pointer (some ⟨w.heap.size+1,0,none⟩)],.func (.func 144) #[] #[.pointer (some ⟨w.heap.size+1,0,none⟩),.pointer (some ⟨w.heap.size+1+1,0,none⟩),.pointer (some ⟨w.heap.size+1+1+1,0,none⟩)],.func (.func 146) #[] #[.pointer (some ⟨w.heap.size+1,0,none⟩),.pointer (some ⟨w.heap.size+1+1+1+1,0,none⟩)]] 61))=b:=⟨_,rfl⟩
 have hz:b.heap.size=w.heap.size+6:=by rw[<-d];simp
 have k:Below w.heap.size w b:=by rw[<-d];exact bT
 have I:af b (w.heap.size) 43 #[o,q,r,t3]:=by rw[<-d];exact(((((af.at_ (by simp)).alloc _).alloc _).alloc _).alloc _).alloc _
 have z:af b (w.heap.size+1) 28 #[m,j,i]:=by rw[<-d];exact((((af.at_ (by simp)).alloc _).alloc _).alloc _).alloc _
 have N:af b (w.heap.size+1+1) 3 #[.int .i64 D]:=by rw[<-d];exact(((af.at_ (by simp)).alloc _).alloc _).alloc _
 have U:af b (w.heap.size+1+1+1) 3 #[.int .i64 M]:=by rw[<-d];exact((af.at_ (by simp)).alloc _).alloc _
 have R:af b (w.heap.size+1+1+1+1) 9 #[.string ⟨#[]⟩]:=by rw[<-d];exact(af.at_ (by simp)).alloc _
 have hF:af b (w.heap.size+1+1+1+1+1) 61 #[.func (.func 142) #[] #[.pointer (some ⟨w.heap.size,0,none⟩),.pointer (some ⟨w.heap.size+1,0,none⟩)],.func (.func 144) #[] #[.pointer (some ⟨w.heap.size+1,0,none⟩),.pointer (some ⟨w.heap.size+1+1,0,none⟩),.pointer (some ⟨w.heap.size+1+1+1,0,none⟩)],.func (.func 146) #[] #[.pointer (some ⟨w.heap.size+1,0,none⟩),.pointer (some ⟨w.heap.size+1+1+1+1,0,none⟩)]]:=by rw[<-d];exact af.at_ (by simp)
 have y:=za (I6 b (w.heap.size+1+1+1+1+1) #[.pointer (some ⟨w.heap.size,0,none⟩),.pointer (some ⟨w.heap.size+1,0,none⟩)] #[.pointer (some ⟨w.heap.size+1,0,none⟩),.pointer (some ⟨w.heap.size+1+1,0,none⟩),.pointer (some ⟨w.heap.size+1+1+1,0,none⟩)] #[.pointer (some ⟨w.heap.size+1,0,none⟩),.pointer (some ⟨w.heap.size+1+1+1+1,0,none⟩)] (eO ty x) (fV x D M) 0 (fun w'=>Below b.heap.size b w') (fun w'=>Below b.heap.size b w') (fun w'=>af w' (w.heap.size+1+1+1+1) 9 #[.string ⟨x.gN.toArray⟩]/\ae [w.heap.size+1+1+1+1] b w') hF
  (XA ty x B _ _ b o q r t3 m j i I z (F.below (k.mono s)) (p.below (k.mono s)) (by omega) (K.below k K.pos))
  (fun _ l c=>(XB x D M B _ _ _ l m j i (z.ag c (by omega)) (N.ag c (by omega)) (U.ag c (by omega)) ((p.below (k.mono s)).below (c.mono (by omega))) (by have:=c.size;omega)).mono fun e w' ⟨n,Y⟩=>⟨n,c.trans (Y.mono c.size)⟩)
  (fun X _ w2 h=>(XC x B _ _ w2 _ m j i (z.ag h (by omega)) (R.ag h (by omega)) ((p.below (k.mono s)).below (h.mono (by omega))) (by have:=h.size;omega) ((B0 ty x).1 X).2.1 L).mono fun e w' ⟨n,W,Z⟩=>⟨n,W,((ae.ah h (zg _)).mono (by simp)).trans Z⟩)
  (fun w' c=>hF.ag c (by omega)) (fun w' c=>hF.ag c (by omega)))
 have u:=za k;have O:=za hz;have C:Hid (gX ty x D M=tI (eO ty x) (fV x D M) 0):=za (by
  unfold gX tI;by_cases c:eO ty x≠0
  ·rw[zi c,zi c]
  rw[zh c,zh c];by_cases h:fV x D M≠0
  ·rw[zi h]
  rw[zh h];exact zC.1 h)
 have H:=za d;obtain⟨A,cap,rfl,rfl,rfl,rfl,_⟩:=F.open_;obtain⟨A',aq,rfl,rfl,rfl,_⟩:=p.open_;have G:Hid (gX ty x D M=0->eO ty x=0/\fV x D M=0):=za (lS ty x D M).1;generalize gX ty x D M=E at*;generalize (⟨x.gN.toArray⟩:ByteArray)=S at*;generalize eO ty x=E0 at*;generalize fV x D M=E1 at*;clear I z N U R hF k hz d F p L;rcases eY E with⟨n,k1,k2⟩|⟨n,k1,k2⟩
 ·subst n;obtain⟨rfl,rfl⟩:=G.out rfl;go_enter func119,ntmps119
  go_wp2_with fail
  rw[H.out];refine y.out.mono ?_;rintro e l ⟨rfl,hi⟩;have hi:af l (w.heap.size+1+1+1+1) 9 #[.string S]/\ae [w.heap.size+1+1+1+1] b l:=by
   have:=hi;simpa[tJ]using this
  rw[<-C.out];have q1:l.cell? ⟨w.heap.size+1+1+1+1,0,none⟩=some (.string S):=hi.1.cell 0;have HO:=za hi.2;clear hi y C G;go_wp2;go_ret2
  refine⟨?_,u.out.trans (HO.out.below (by have:=O.out;omega) (by simp;omega))⟩;rfl
 go_enter func119,ntmps119
 go_wp2_with fail
 rw[H.out];refine y.out.mono ?_;rintro e l ⟨rfl,hi⟩;have J:Below w.heap.size w l:=by
  unfold tJ at hi;have hz:=O.out;split at hi
  ·exact u.out.trans (hi.mono (by omega))
  split at hi
  ·exact u.out.trans (hi.mono (by omega))
  exact u.out.trans (hi.2.below (by omega) (by simp;omega))
 rw[<-C.out];have R5:=za J;clear hi y C G J;go_wp2;go_ret2
 exact⟨rfl,R5.out⟩
def Dj (ty:Ty):Int:=if ty.may=false then 1 else 0
theorem XD (ty:Ty)(B j:Nat)(w:World)(d c h t3:Value)(n:af w j 43 #[d,c,h,t3])(b:cG w B ty d c h t3)(p:B<=w.heap.size)(o:Laid w):
 Calls prog 148 #[.pointer (some ⟨j,0,none⟩)] w fun e w'=>e= .returned (.int .i64 (Dj ty))/\Below w.heap.size w w':=by
 have k:=za (kB ty B w d c h t3 b p o);obtain⟨s,r,x,u,_⟩:=aS n;obtain⟨A,cap,rfl,rfl,rfl,rfl,_⟩:=b.open_;have l:Hid (Dj ty=if ty.may=false then 1 else 0):=za rfl;generalize Dj ty=E at*;generalize ty.may=m at*;clear b n;cases m with
 |true=>
  obtain rfl:E=0:=l.out;go_enter func148,ntmps148
  go_wp2_with fail
  refine k.out.mono ?_;rintro e q ⟨rfl,i⟩;go_wp2;go_ret;exact⟨rfl,i⟩
 |false=>
  obtain rfl:E=1:=l.out;go_enter func148,ntmps148
  go_wp2_with fail
  refine k.out.mono ?_;rintro e q ⟨rfl,i⟩;go_wp2;go_ret;exact⟨rfl,i⟩
def Jb (w:World)(g S:Nat)(x:It):Prop:=∃c0 c1 c2,af w g 28 #[c0,c1,c2]/\gz w (S<= ·) x c0 c1 c2
theorem Jb.below {w w':World}{g S:Nat}{x:It}(h:Jb w g S x)(c:Below w.heap.size w w'):Jb w' g S x:=by
 obtain⟨e,i,d,b,j⟩:=h;exact⟨e,i,d,b.ag c b.lt,j.below c⟩
theorem XE (s:ByteArray)(D M:Int)(i l j b:Nat)(w:World)(I u x:Value)(q:af w i 9 #[.string s])(p:af w l 3 #[.int .i64 D])(r:af w j 3 #[.int .i64 M])(m:af w b 28 #[I,u,x])(F:s.size<=4611686018427387904):
 Calls prog 150 #[.pointer (some ⟨i,0,none⟩),.pointer (some ⟨l,0,none⟩),.pointer (some ⟨j,0,none⟩),.pointer (some ⟨b,0,none⟩)] w fun e w'=>e= .returned (.int .i64 (lR D M s))/\Jb w' b w.heap.size (jh D M s)/\ae [b] w w':=by
 have H:=za (QL s D M w F);have S:w.cell? ⟨i,0,none⟩=some (.string s):=q.cell 0;have Y:w.cell? ⟨l,0,none⟩=some (.int .i64 D):=p.cell 0;have Z:w.cell? ⟨j,0,none⟩=some (.int .i64 M):=r.cell 0;have z:=za m;have B:=m.lt;generalize lR D M s=E at*;generalize jh D M s=X at*;clear q p r m;go_enter func150,ntmps150
 go_wp2_with fail
 refine H.out.mono ?_;rintro e o ⟨d,U,N,K,rfl,c⟩;obtain⟨A,k,rfl,rfl,rfl,_⟩:=c.open_;have n:=z.out.ag d B;obtain⟨L,O,p2,W,J,R⟩:=a8 n;have y:=za n;have C:=za c;have G:Hid (ae [b] w o):=za ((ae.ah d (zg _)).mono (by simp));clear n d c;go_wp2;go_ret;refine⟨rfl,⟨_,_,_,dK y.out _ _ _, ?_⟩,((G.out.setCell (by simp) _).setCell (by simp) _).setCell (by simp) _⟩;exact C.out.only ((((ae.refl [b] o).setCell (by simp) _).setCell (by simp) _).setCell (by simp) _) (by simp<;>omega) (fun k _ h=>h)
theorem XF (ty:Ty)(x:It)(B m o:Nat)(w:World)(d k l t3 j c b:Value)(n:af w m 43 #[d,k,l,t3])(p:af w o 28 #[j,c,b])(h:cG w B ty d k l t3)(i:dX w B x j c b)(q:B<=w.heap.size)(u:Laid w):
 Calls prog 152 #[.pointer (some ⟨m,0,none⟩),.pointer (some ⟨o,0,none⟩)] w fun e w'=>e= .returned (.int .i64 (eO ty x))/\Below w.heap.size w w':=by
 have s:=za (I9 ty x B w d k l t3 j c b h i q u);obtain⟨z,y,F,I,_⟩:=aS n;obtain⟨D,H,K⟩:=ku p;obtain⟨A,cap,rfl,rfl,rfl,rfl,_⟩:=h.open_;obtain⟨C,J,rfl,rfl,rfl,_⟩:=i.open_;generalize eO ty x=E at*;clear h i n p;go_enter func152,ntmps152
 go_wp2_with fail
 refine s.out.mono ?_;rintro e G ⟨rfl,r⟩;go_wp2;go_ret;exact⟨rfl,r⟩
theorem Np (ty:Ty)(s:ByteArray)(D M:Int)(B:Nat)(w:World)(n o p t3:Value)(N:cG w B ty n o p t3)(hB:B<=w.heap.size)(O:Laid w)(hs:s.size<=4611686018427387904):
 Calls prog 120 #[.agg #[n,o,p,t3],.string s,.int .i64 D,.int .i64 M] w fun e w'=>vD w w' (qh ty s D M) (kt ty s D M) e:=by
 obtain⟨b,d⟩:∃b,(((((((w.alloc (.cells #[n,o,p,t3] 43)).alloc (.cells #[.string s] 9)).alloc (.cells #[.int .i64 D] 3)).alloc (.cells #[.int .i64 M] 3)).alloc (.cells #[.string ⟨#[]⟩,.bool false,.slice none 0 0] 28)).alloc (.cells #[.string ⟨#[]⟩,.bool false,.slice none 0 0] 28)).alloc (.cells #[.func (.func 148) #[] #[.pointer (some ⟨w.heap.size,0,none⟩)],.func (.func 150) #[] #[.pointer (some ⟨w.heap.size+1,0,none⟩),.pointer (some ⟨w.heap.size+1+1,0,none⟩),.pointer (some ⟨w.heap.size+1+1+1,0,none⟩),.pointer (some ⟨w.heap.size+1+1+1+1+1,0,none⟩)],.func (.func 152) #[] #[.pointer (some ⟨w.heap.size,0,none⟩),.pointer (some ⟨w.heap.size+1+1+1+1+1,0,none⟩)]] 61))=b:=⟨_,rfl⟩
 have hz:b.heap.size=w.heap.size+7:=by rw[<-d];simp
 have x:Below w.heap.size w b:=by rw[<-d];exact bT
 have J:af b (w.heap.size) 43 #[n,o,p,t3]:=by rw[<-d];exact((((((af.at_ (by simp)).alloc _).alloc _).alloc _).alloc _).alloc _).alloc _
 have h5:af b (w.heap.size+1) 9 #[.string s]:=by rw[<-d];exact(((((af.at_ (by simp)).alloc _).alloc _).alloc _).alloc _).alloc _
 have h6:af b (w.heap.size+1+1) 3 #[.int .i64 D]:=by rw[<-d];exact((((af.at_ (by simp)).alloc _).alloc _).alloc _).alloc _
 have h7:af b (w.heap.size+1+1+1) 3 #[.int .i64 M]:=by rw[<-d];exact(((af.at_ (by simp)).alloc _).alloc _).alloc _
 have Z:af b (w.heap.size+1+1+1+1) 28 #[.string ⟨#[]⟩,.bool false,.slice none 0 0]:=by rw[<-d];exact((af.at_ (by simp)).alloc _).alloc _
 have Ak:af b (w.heap.size+1+1+1+1+1) 28 #[.string ⟨#[]⟩,.bool false,.slice none 0 0]:=by rw[<-d];exact(af.at_ (by simp)).alloc _
 have hF:af b (w.heap.size+1+1+1+1+1+1) 61 #[.func (.func 148) #[] #[.pointer (some ⟨w.heap.size,0,none⟩)],.func (.func 150) #[] #[.pointer (some ⟨w.heap.size+1,0,none⟩),.pointer (some ⟨w.heap.size+1+1,0,none⟩),.pointer (some ⟨w.heap.size+1+1+1,0,none⟩),.pointer (some ⟨w.heap.size+1+1+1+1+1,0,none⟩)],.func (.func 152) #[] #[.pointer (some ⟨w.heap.size,0,none⟩),.pointer (some ⟨w.heap.size+1+1+1+1+1,0,none⟩)]]:=by rw[<-d];exact af.at_ (by simp)
 have L:=O.below x O.pos;have U:=N.below (x.mono hB);have F:=za (I7 b (w.heap.size+1+1+1+1+1+1) #[.pointer (some ⟨w.heap.size,0,none⟩)] #[.pointer (some ⟨w.heap.size+1,0,none⟩),.pointer (some ⟨w.heap.size+1+1,0,none⟩),.pointer (some ⟨w.heap.size+1+1+1,0,none⟩),.pointer (some ⟨w.heap.size+1+1+1+1+1,0,none⟩)] #[.pointer (some ⟨w.heap.size,0,none⟩),.pointer (some ⟨w.heap.size+1+1+1+1+1,0,none⟩)] (Dj ty) (lR D M s) (eO ty (jh D M s)) (fun w'=>Below b.heap.size b w') (fun w'=>Jb w' (w.heap.size+1+1+1+1+1) b.heap.size (jh D M s)/\ae [w.heap.size+1+1+1+1+1] b w') (fun w'=>Jb w' (w.heap.size+1+1+1+1+1) b.heap.size (jh D M s)/\ae [w.heap.size+1+1+1+1+1] b w') hF
  (XD ty B _ b n o p t3 J U (by omega) L)
  (fun _ l c=>(XE s D M _ _ _ _ l _ _ _ (h5.ag c (by omega)) (h6.ag c (by omega)) (h7.ag c (by omega)) (Ak.ag c (by omega)) hs).mono fun e w' ⟨m,⟨u,r,q,j,hi⟩,i⟩=>⟨m,⟨u,r,q,j,hi.iz (fun k _ j=>zF c.size j)⟩,((ae.ah c (zg _)).mono (by simp)).trans i⟩)
  (fun _ _ w2 ⟨hv,i⟩=>by
   obtain⟨u,r,q,j,hi⟩:=hv;have eX:=i.size;refine(XF ty (jh D M s) w2.heap.size _ _ w2 n o p t3 u r q (J.only i (by simp<;>omega)) j ((U.below (i.below (by omega) (by simp<;>omega))).mono (by omega)) (hi.Fg) (zg _) (L.only i (by simp<;>omega))).mono fun e w' ⟨m,R⟩=>⟨m,⟨u,r,q,j.ag R j.lt,hi.below R⟩,i.trans ((ae.ah R (zg _)).mono (by simp))⟩)
  (fun w' c=>hF.ag c (by omega)) (fun w' c=>hF.only c.2 (by simp)))
 have y:=za Z;have C:=za x;have HZ:=za hz;have G:Hid (kt ty s D M=tI (Dj ty) (lR D M s) (eO ty (jh D M s))):=za (by
  unfold kt tI Dj;cases ty.may<;>simp)
 have z:Hid (qh ty s D M=if kt ty s D M≠0 then ju else jh D M s):=za rfl;have Gu:=za d;obtain⟨A,cap,rfl,rfl,rfl,rfl,_⟩:=N.open_;have S:Hid (kt ty s D M=0->Dj ty=0/\lR D M s=0):=za (fun h=>by
  have c:=(pc ty s D M).1 h;exact⟨by unfold Dj;rw[c.1];rfl,c.2.1⟩)
 generalize kt ty s D M=E at*;generalize qh ty s D M=Y at*;generalize jh D M s=X at*;generalize eO ty X=E2 at*;generalize Dj ty=E0 at*;generalize lR D M s=E1 at*;clear J h5 h6 h7 Z Ak hF x hz d N L U O;rcases eY E with⟨m,k1,k2⟩|⟨m,k1,k2⟩
 ·subst m;obtain⟨rfl,rfl⟩:=S.out rfl;obtain rfl:Y=X:=by have:=z.out;simpa using this
  go_enter func120,ntmps120
  go_wp2_with fail
  rw[Gu.out];refine F.out.mono ?_;rintro e l ⟨rfl,hi⟩;have hi:Jb l (w.heap.size+1+1+1+1+1) b.heap.size Y/\ae [w.heap.size+1+1+1+1+1] b l:=by
   have:=hi;simpa[tJ]using this
  rw[<-G.out];obtain⟨⟨u,r,q,j,I⟩,i⟩:=hi;obtain⟨W,k3,rfl,rfl,rfl,_⟩:=I.open_;have H:=y.out.only i (by simp);obtain⟨p0,p1,p2,Eb,Ec,Ea⟩:=a8 H;obtain⟨g0,g1,g2,_⟩:=a8 j;have H9:=za H;have JU:=za I;have HO:=za i;clear F G S z H j I i;go_wp2;obtain⟨d0,d1,d2,_⟩:=a8 (dK H9.out (.string Y.text) (.bool Y.list) (.slice W Y.sub.length k3));refine zj (v:= .tuple #[.agg #[.string Y.text,.bool Y.list,.slice W Y.sub.length k3],.int .i64 0]) (by simp[results,results120,go_sem,d0,d1,d2]) rfl ?_;have hz:=HZ.out;refine⟨(((C.out.trans (HO.out.below (by omega) (by simp<;>omega))).setCell (by simp<;>omega) _).setCell (by simp<;>omega) _).setCell (by simp<;>omega) _,_,_,_,rfl, ?_⟩;exact JU.out.only ((((ae.refl [w.heap.size+1+1+1+1] l).setCell (by simp) _).setCell (by simp) _).setCell (by simp) _) (by simp<;>omega) (fun k _ h=>by omega)
 obtain rfl:Y=ju:=by have:=z.out;rwa [zi m]at this
 go_enter func120,ntmps120
 go_wp2_with fail
 rw[Gu.out];refine F.out.mono ?_;rintro e l ⟨rfl,hi⟩;have K:Below w.heap.size w l/\af l (w.heap.size+1+1+1+1) 28 #[.string ⟨#[]⟩,.bool false,.slice none 0 0]:=by
  unfold tJ at hi;have hz:=HZ.out;split at hi
  ·exact⟨C.out.trans (hi.mono (by omega)),y.out.ag hi (by omega)⟩
  split at hi
  ·exact⟨C.out.trans (hi.2.below (by omega) (by simp<;>omega)),y.out.only hi.2 (by simp)⟩
  exact⟨C.out.trans (hi.2.below (by omega) (by simp<;>omega)),y.out.only hi.2 (by simp)⟩
 rw[<-G.out];obtain⟨p0,p1,p2,Eb,Ec,Ea⟩:=a8 K.2;have R5:=za K;clear hi F G S K z;go_wp2;obtain⟨d0,d1,d2,_⟩:=a8 (dK R5.out.2 (.string ⟨#[]⟩) (.bool false) (.slice none 0 0));refine zj (v:= .tuple #[.agg #[.string ⟨#[]⟩,.bool false,.slice none 0 0],.int .i64 E]) (by simp[results,results120,go_sem,d0,d1,d2]) rfl ?_;exact⟨((R5.out.1.setCell (by simp<;>omega) _).setCell (by simp<;>omega) _).setCell (by simp<;>omega) _,_,_,_,rfl,nF _ _⟩
