/- tree.Put: its three checks, and it itself. -/
import Derived.Test.YtdbmifjankgfpaaGreatDoorKA26
import Derived.Test.YtdbmifjankgfpaaGreatDoorKA30
import Derived.Test.YtdbmifjankgfpaaGreatDoorKA32
set_option linter.all false
set_option maxRecDepth 100000
set_option maxHeartbeats 2000000
open Go.Proofs.Tryz
namespace Go.Proofs.YtdbmifjankgfpaaGreatDoor
open Go.RowKit
theorem XN (ty:Ty)(x:It)(B n o:Nat)(w:World)(d b c t3 h j i:Value)(m:af w n 43 #[d,b,c,t3])(p:af w o 28 #[h,j,i])(l:cD w B ty d b c t3)(k:dg w B x h j i)(r:B<=w.heap.size)(s:Laid w):
 Calls prog 142 #[.pointer (some ⟨n,0,none⟩),.pointer (some ⟨o,0,none⟩)] w fun e w'=>e= .returned (.int .i64 (eO ty x))/\Below w.heap.size w w':=by
 have u:=za (Jj ty x B w d b c t3 h j i l k r s);obtain⟨C,H,J,D,_⟩:=aU m;obtain⟨K,z,G⟩:=kz p;obtain⟨A,cap,rfl,rfl,rfl,rfl,_⟩:=l.open_;obtain⟨y,I,rfl,rfl,rfl,_⟩:=k.open_;generalize eO ty x=E at*;clear l k m p;go_enter func142,ntmps142
 go_wp2_with fail
 refine u.out.mono ?_;rintro e F ⟨rfl,q⟩;go_wp2;go_ret;exact⟨rfl,q⟩
theorem XO (x:It)(D M:Int)(B m h d:Nat)(w:World)(b i c:Value)(n:af w m 28 #[b,i,c])(l:af w h 3 #[.int .i64 D])(k:af w d 3 #[.int .i64 M])(j:dg w B x b i c)(p:B<=w.heap.size):
 Calls prog 144 #[.pointer (some ⟨m,0,none⟩),.pointer (some ⟨h,0,none⟩),.pointer (some ⟨d,0,none⟩)] w fun e w'=>e= .returned (.int .i64 (fO x D M))/\Below w.heap.size w w':=by
 have q:=za (XK x D M B w b i c j p);obtain⟨F,s,A⟩:=kz n;have u:w.cell? ⟨h,0,none⟩=some (.int .i64 D):=l.cell 0;have y:w.cell? ⟨d,0,none⟩=some (.int .i64 M):=k.cell 0;obtain⟨r,C,rfl,rfl,rfl,_⟩:=j.open_;generalize fO x D M=E at*;clear j n l k;go_enter func144,ntmps144
 go_wp2_with fail
 refine q.out.mono ?_;rintro e z ⟨rfl,o⟩;go_wp2;go_ret;exact⟨rfl,o⟩
theorem XP (x:It)(B p b:Nat)(w:World)(z h l i:Value)(q:af w p 28 #[h,l,i])(j:af w b 9 #[z])(m:dg w B x h l i)(y:B<=w.heap.size)(o:x.may=true)(n:x.gI.length<=1099511627776):
 Calls prog 146 #[.pointer (some ⟨p,0,none⟩),.pointer (some ⟨b,0,none⟩)] w fun e w'=>e= .returned (.int .i64 0)/\af w' b 9 #[.string ⟨x.gI.toArray⟩]/\ae [b] w w':=by
 have C:=za (QI x B w h l i m y o n);obtain⟨J,E,G⟩:=kz q;obtain⟨D,I,rfl,rfl,rfl,_⟩:=m.open_;have A:=za j;have s:=j.lt;generalize (⟨x.gI.toArray⟩:ByteArray)=S at*;clear m q n o j;go_enter func146,ntmps146
 go_wp2_with fail
 refine C.out.mono ?_;rintro e k ⟨rfl,d⟩;have c:=A.out.ag d s;have H:k.cell? ⟨b,0,none⟩=some z:=c.cell 0;have F:k.frozen? ⟨b,0,none⟩=false:=c.frozen 0;have u:=za c;have r:Hid (ae [b] w k):=za ((ae.ah d (zd _)).mono (by simp));clear c d;go_wp2;go_ret;exact⟨rfl,u.out.set 0 _,r.out.setCell (by simp) _⟩
theorem Nu (ty:Ty)(x:It)(D M:Int)(B:Nat)(w:World)(q o p t3 j m k:Value)(G:cD w B ty q o p t3)(r:dg w B x j m k)(y:B<=w.heap.size)(U:Laid w)(H:x.gI.length<=1099511627776):
 Calls prog 119 #[.agg #[q,o,p,t3],.agg #[j,m,k],.int .i64 D,.int .i64 M] w fun e w'=>e= .returned (.tuple #[.string (if gU ty x D M=0 then⟨x.gI.toArray⟩else⟨#[]⟩),.int .i64 (gU ty x D M)])/\Below w.heap.size w w':=by
 obtain⟨b,d⟩:∃b,((((((w.alloc (.cells #[q,o,p,t3] 43)).alloc (.cells #[j,m,k] 28)).alloc (.cells #[.int .i64 D] 3)).alloc (.cells #[.int .i64 M] 3)).alloc (.cells #[.string ⟨#[]⟩] 9)).alloc (.cells #[.func (.func 142) #[] #[.pointer (some ⟨w.heap.size,0,none⟩),.pointer (some ⟨w.heap.size+1,0,none⟩)],.func (.func 144) #[] #[.pointer (some ⟨w.heap.size+1,0,none⟩),.pointer (some ⟨w.heap.size+1+1,0,none⟩),.pointer (some ⟨w.heap.size+1+1+1,0,none⟩)],.func (.func 146) #[] #[.pointer (some ⟨w.heap.size+1,0,none⟩),.pointer (some ⟨w.heap.size+1+1+1+1,0,none⟩)]] 61))=b:=⟨_,rfl⟩
 have hz:b.heap.size=w.heap.size+6:=by rw[<-d];simp
 have i:Below w.heap.size w b:=by rw[<-d];exact bQ
 have K:af b (w.heap.size) 43 #[q,o,p,t3]:=by rw[<-d];exact(((((af.at_ (by simp)).alloc _).alloc _).alloc _).alloc _).alloc _
 have C:af b (w.heap.size+1) 28 #[j,m,k]:=by rw[<-d];exact((((af.at_ (by simp)).alloc _).alloc _).alloc _).alloc _
 have L:af b (w.heap.size+1+1) 3 #[.int .i64 D]:=by rw[<-d];exact(((af.at_ (by simp)).alloc _).alloc _).alloc _
 have I:af b (w.heap.size+1+1+1) 3 #[.int .i64 M]:=by rw[<-d];exact((af.at_ (by simp)).alloc _).alloc _
 have O:af b (w.heap.size+1+1+1+1) 9 #[.string ⟨#[]⟩]:=by rw[<-d];exact(af.at_ (by simp)).alloc _
 have hF:af b (w.heap.size+1+1+1+1+1) 61 #[.func (.func 142) #[] #[.pointer (some ⟨w.heap.size,0,none⟩),.pointer (some ⟨w.heap.size+1,0,none⟩)],.func (.func 144) #[] #[.pointer (some ⟨w.heap.size+1,0,none⟩),.pointer (some ⟨w.heap.size+1+1,0,none⟩),.pointer (some ⟨w.heap.size+1+1+1,0,none⟩)],.func (.func 146) #[] #[.pointer (some ⟨w.heap.size+1,0,none⟩),.pointer (some ⟨w.heap.size+1+1+1+1,0,none⟩)]]:=by rw[<-d];exact af.at_ (by simp)
 have u:=za (Jg b (w.heap.size+1+1+1+1+1) #[.pointer (some ⟨w.heap.size,0,none⟩),.pointer (some ⟨w.heap.size+1,0,none⟩)] #[.pointer (some ⟨w.heap.size+1,0,none⟩),.pointer (some ⟨w.heap.size+1+1,0,none⟩),.pointer (some ⟨w.heap.size+1+1+1,0,none⟩)] #[.pointer (some ⟨w.heap.size+1,0,none⟩),.pointer (some ⟨w.heap.size+1+1+1+1,0,none⟩)] (eO ty x) (fO x D M) 0 (fun w'=>Below b.heap.size b w') (fun w'=>Below b.heap.size b w') (fun w'=>af w' (w.heap.size+1+1+1+1) 9 #[.string ⟨x.gI.toArray⟩]/\ae [w.heap.size+1+1+1+1] b w') hF
  (XN ty x B _ _ b q o p t3 j m k K C (G.below (i.mono y)) (r.below (i.mono y)) (by omega) (U.below i U.pos))
  (fun _ l c=>(XO x D M B _ _ _ l j m k (C.ag c (by omega)) (L.ag c (by omega)) (I.ag c (by omega)) ((r.below (i.mono y)).below (c.mono (by omega))) (by have:=c.size;omega)).mono fun e w' ⟨n,X⟩=>⟨n,c.trans (X.mono c.size)⟩)
  (fun Y _ Z h=>(XP x B _ _ Z _ j m k (C.ag h (by omega)) (O.ag h (by omega)) ((r.below (i.mono y)).below (h.mono (by omega))) (by have:=h.size;omega) ((Cc ty x).1 Y).2.1 H).mono fun e w' ⟨n,hk,ho⟩=>⟨n,hk,((ae.ah h (zd _)).mono (by simp)).trans ho⟩)
  (fun w' c=>hF.ag c (by omega)) (fun w' c=>hF.ag c (by omega)))
 have z:=za i;have J:=za hz;have s:Hid (gU ty x D M=tJ (eO ty x) (fO x D M) 0):=za (by
  unfold gU tJ;by_cases c:eO ty x≠0
  ·rw[zi c,zi c]
  rw[zh c,zh c];by_cases h:fO x D M≠0
  ·rw[zi h]
  rw[zh h];exact zC.1 h)
 have N:=za d;obtain⟨A,cap,rfl,rfl,rfl,rfl,_⟩:=G.open_;obtain⟨A',aq,rfl,rfl,rfl,_⟩:=r.open_;have F:Hid (gU ty x D M=0->eO ty x=0/\fO x D M=0):=za (l5 ty x D M).1;generalize gU ty x D M=E at*;generalize (⟨x.gI.toArray⟩:ByteArray)=S at*;generalize eO ty x=E0 at*;generalize fO x D M=E1 at*;clear K C L I O hF i hz d G r H;rcases eT E with⟨n,k1,k2⟩|⟨n,k1,k2⟩
 ·subst n;obtain⟨rfl,rfl⟩:=F.out rfl;go_enter func119,ntmps119
  go_wp2_with fail
  rw[N.out];refine u.out.mono ?_;rintro e l ⟨rfl,hi⟩;have hi:af l (w.heap.size+1+1+1+1) 9 #[.string S]/\ae [w.heap.size+1+1+1+1] b l:=by
   have:=hi;simpa[tK]using this
  rw[<-s.out];have q1:l.cell? ⟨w.heap.size+1+1+1+1,0,none⟩=some (.string S):=hi.1.cell 0;have W:=za hi.2;clear hi u s F;go_wp2;go_ret2
  refine⟨?_,z.out.trans (W.out.below (by have:=J.out;omega) (by simp;omega))⟩;rfl
 go_enter func119,ntmps119
 go_wp2_with fail
 rw[N.out];refine u.out.mono ?_;rintro e l ⟨rfl,hi⟩;have R:Below w.heap.size w l:=by
  unfold tK at hi;have hz:=J.out;split at hi
  ·exact z.out.trans (hi.mono (by omega))
  split at hi
  ·exact z.out.trans (hi.mono (by omega))
  exact z.out.trans (hi.2.below (by omega) (by simp;omega))
 rw[<-s.out];have Sb:=za R;clear hi u s F R;go_wp2;go_ret2
 exact⟨rfl,Sb.out⟩
def DC (ty:Ty):Int:=if ty.may=false then 1 else 0
theorem XQ (ty:Ty)(B j:Nat)(w:World)(h c d t3:Value)(n:af w j 43 #[h,c,d,t3])(i:cD w B ty h c d t3)(q:B<=w.heap.size)(o:Laid w):
 Calls prog 148 #[.pointer (some ⟨j,0,none⟩)] w fun e w'=>e= .returned (.int .i64 (DC ty))/\Below w.heap.size w w':=by
 have k:=za (kF ty B w h c d t3 i q o);obtain⟨x,r,u,s,_⟩:=aU n;obtain⟨A,cap,rfl,rfl,rfl,rfl,_⟩:=i.open_;have l:Hid (DC ty=if ty.may=false then 1 else 0):=za rfl;generalize DC ty=E at*;generalize ty.may=m at*;clear i n;cases m with
 |true=>
  obtain rfl:E=0:=l.out;go_enter func148,ntmps148
  go_wp2_with fail
  refine k.out.mono ?_;rintro e p ⟨rfl,b⟩;go_wp2;go_ret;exact⟨rfl,b⟩
 |false=>
  obtain rfl:E=1:=l.out;go_enter func148,ntmps148
  go_wp2_with fail
  refine k.out.mono ?_;rintro e p ⟨rfl,b⟩;go_wp2;go_ret;exact⟨rfl,b⟩
def Jm (w:World)(g S:Nat)(x:It):Prop:=∃c0 c1 c2,af w g 28 #[c0,c1,c2]/\gq w (S<= ·) x c0 c1 c2
theorem Jm.below {w w':World}{g S:Nat}{x:It}(h:Jm w g S x)(b:Below w.heap.size w w'):Jm w' g S x:=by
 obtain⟨d,e,j,c,i⟩:=h;exact⟨d,e,j,c.ag b c.lt,i.below b⟩
theorem XR (s:ByteArray)(D M:Int)(m j i b:Nat)(w:World)(u z H:Value)(r:af w m 9 #[.string s])(p:af w j 3 #[.int .i64 D])(o:af w i 3 #[.int .i64 M])(d:af w b 28 #[u,z,H])(y:s.size<=4611686018427387904):
 Calls prog 150 #[.pointer (some ⟨m,0,none⟩),.pointer (some ⟨j,0,none⟩),.pointer (some ⟨i,0,none⟩),.pointer (some ⟨b,0,none⟩)] w fun e w'=>e= .returned (.int .i64 (lZ D M s))/\Jm w' b w.heap.size (jf D M s)/\ae [b] w w':=by
 have I:=za (QJ s D M w y);have L:w.cell? ⟨m,0,none⟩=some (.string s):=r.cell 0;have O:w.cell? ⟨j,0,none⟩=some (.int .i64 D):=p.cell 0;have R:w.cell? ⟨i,0,none⟩=some (.int .i64 M):=o.cell 0;have G:=za d;have B:=d.lt;generalize lZ D M s=E at*;generalize jf D M s=X at*;clear r p o d;go_enter func150,ntmps150
 go_wp2_with fail
 refine I.out.mono ?_;rintro e q ⟨c,S,Y,U,rfl,l⟩;obtain⟨A,k,rfl,rfl,rfl,_⟩:=l.open_;have n:=G.out.ag c B;obtain⟨p0,N,W,K,J,Z⟩:=bg n;have F:=za n;have C:=za l;have x:Hid (ae [b] w q):=za ((ae.ah c (zd _)).mono (by simp));clear n c l;go_wp2;go_ret;refine⟨rfl,⟨_,_,_,ec F.out _ _ _, ?_⟩,((x.out.setCell (by simp) _).setCell (by simp) _).setCell (by simp) _⟩;exact C.out.only ((((ae.refl [b] q).setCell (by simp) _).setCell (by simp) _).setCell (by simp) _) (by simp<;>omega) (fun k _ h=>h)
theorem XS (ty:Ty)(x:It)(B o m:Nat)(w:World)(d b c t3 h j i:Value)(n:af w o 43 #[d,b,c,t3])(p:af w m 28 #[h,j,i])(l:cD w B ty d b c t3)(k:dg w B x h j i)(r:B<=w.heap.size)(s:Laid w):
 Calls prog 152 #[.pointer (some ⟨o,0,none⟩),.pointer (some ⟨m,0,none⟩)] w fun e w'=>e= .returned (.int .i64 (eO ty x))/\Below w.heap.size w w':=by
 have u:=za (Jj ty x B w d b c t3 h j i l k r s);obtain⟨C,H,J,D,_⟩:=aU n;obtain⟨K,z,G⟩:=kz p;obtain⟨A,cap,rfl,rfl,rfl,rfl,_⟩:=l.open_;obtain⟨y,I,rfl,rfl,rfl,_⟩:=k.open_;generalize eO ty x=E at*;clear l k n p;go_enter func152,ntmps152
 go_wp2_with fail
 refine u.out.mono ?_;rintro e F ⟨rfl,q⟩;go_wp2;go_ret;exact⟨rfl,q⟩
theorem Nv (ty:Ty)(s:ByteArray)(D M:Int)(B:Nat)(w:World)(p n o t3:Value)(S:cD w B ty p n o t3)(hB:B<=w.heap.size)(R:Laid w)(hs:s.size<=4611686018427387904):
 Calls prog 120 #[.agg #[p,n,o,t3],.string s,.int .i64 D,.int .i64 M] w fun e w'=>vM w w' (qu ty s D M) (ky ty s D M) e:=by
 obtain⟨b,d⟩:∃b,(((((((w.alloc (.cells #[p,n,o,t3] 43)).alloc (.cells #[.string s] 9)).alloc (.cells #[.int .i64 D] 3)).alloc (.cells #[.int .i64 M] 3)).alloc (.cells #[.string ⟨#[]⟩,.bool false,.slice none 0 0] 28)).alloc (.cells #[.string ⟨#[]⟩,.bool false,.slice none 0 0] 28)).alloc (.cells #[.func (.func 148) #[] #[.pointer (some ⟨w.heap.size,0,none⟩)],.func (.func 150) #[] #[.pointer (some ⟨w.heap.size+1,0,none⟩),.pointer (some ⟨w.heap.size+1+1,0,none⟩),.pointer (some ⟨w.heap.size+1+1+1,0,none⟩),.pointer (some ⟨w.heap.size+1+1+1+1+1,0,none⟩)],.func (.func 152) #[] #[.pointer (some ⟨w.heap.size,0,none⟩),.pointer (some ⟨w.heap.size+1+1+1+1+1,0,none⟩)]] 61))=b:=⟨_,rfl⟩
 have hz:b.heap.size=w.heap.size+7:=by rw[<-d];simp
 have z:Below w.heap.size w b:=by rw[<-d];exact bQ
 have I:af b (w.heap.size) 43 #[p,n,o,t3]:=by rw[<-d];exact((((((af.at_ (by simp)).alloc _).alloc _).alloc _).alloc _).alloc _).alloc _
 have h5:af b (w.heap.size+1) 9 #[.string s]:=by rw[<-d];exact(((((af.at_ (by simp)).alloc _).alloc _).alloc _).alloc _).alloc _
 have h6:af b (w.heap.size+1+1) 3 #[.int .i64 D]:=by rw[<-d];exact((((af.at_ (by simp)).alloc _).alloc _).alloc _).alloc _
 have W:af b (w.heap.size+1+1+1) 3 #[.int .i64 M]:=by rw[<-d];exact(((af.at_ (by simp)).alloc _).alloc _).alloc _
 have h8:af b (w.heap.size+1+1+1+1) 28 #[.string ⟨#[]⟩,.bool false,.slice none 0 0]:=by rw[<-d];exact((af.at_ (by simp)).alloc _).alloc _
 have AG:af b (w.heap.size+1+1+1+1+1) 28 #[.string ⟨#[]⟩,.bool false,.slice none 0 0]:=by rw[<-d];exact(af.at_ (by simp)).alloc _
 have hF:af b (w.heap.size+1+1+1+1+1+1) 61 #[.func (.func 148) #[] #[.pointer (some ⟨w.heap.size,0,none⟩)],.func (.func 150) #[] #[.pointer (some ⟨w.heap.size+1,0,none⟩),.pointer (some ⟨w.heap.size+1+1,0,none⟩),.pointer (some ⟨w.heap.size+1+1+1,0,none⟩),.pointer (some ⟨w.heap.size+1+1+1+1+1,0,none⟩)],.func (.func 152) #[] #[.pointer (some ⟨w.heap.size,0,none⟩),.pointer (some ⟨w.heap.size+1+1+1+1+1,0,none⟩)]]:=by rw[<-d];exact af.at_ (by simp)
 have U:=R.below z R.pos;have K:=S.below (z.mono hB);have y:=za (Jh b (w.heap.size+1+1+1+1+1+1) #[.pointer (some ⟨w.heap.size,0,none⟩)] #[.pointer (some ⟨w.heap.size+1,0,none⟩),.pointer (some ⟨w.heap.size+1+1,0,none⟩),.pointer (some ⟨w.heap.size+1+1+1,0,none⟩),.pointer (some ⟨w.heap.size+1+1+1+1+1,0,none⟩)] #[.pointer (some ⟨w.heap.size,0,none⟩),.pointer (some ⟨w.heap.size+1+1+1+1+1,0,none⟩)] (DC ty) (lZ D M s) (eO ty (jf D M s)) (fun w'=>Below b.heap.size b w') (fun w'=>Jm w' (w.heap.size+1+1+1+1+1) b.heap.size (jf D M s)/\ae [w.heap.size+1+1+1+1+1] b w') (fun w'=>Jm w' (w.heap.size+1+1+1+1+1) b.heap.size (jf D M s)/\ae [w.heap.size+1+1+1+1+1] b w') hF
  (XQ ty B _ b p n o t3 I K (by omega) U)
  (fun _ l c=>(XR s D M _ _ _ _ l _ _ _ (h5.ag c (by omega)) (h6.ag c (by omega)) (W.ag c (by omega)) (AG.ag c (by omega)) hs).mono fun e w' ⟨m,⟨q,u,r,j,hi⟩,i⟩=>⟨m,⟨q,u,r,j,hi.fe (fun k _ j=>zF c.size j)⟩,((ae.ah c (zd _)).mono (by simp)).trans i⟩)
  (fun _ _ w2 ⟨hv,i⟩=>by
   obtain⟨q,u,r,j,hi⟩:=hv;have gF:=i.size;refine(XS ty (jf D M s) w2.heap.size _ _ w2 p n o t3 q u r (I.only i (by simp<;>omega)) j ((K.below (i.below (by omega) (by simp<;>omega))).mono (by omega)) (hi.AZ) (zd _) (U.only i (by simp<;>omega))).mono fun e w' ⟨m,J⟩=>⟨m,⟨q,u,r,j.ag J j.lt,hi.below J⟩,i.trans ((ae.ah J (zd _)).mono (by simp))⟩)
  (fun w' c=>hF.ag c (by omega)) (fun w' c=>hF.only c.2 (by simp)))
 have C:=za h8;have F:=za z;have Z:=za hz;have x:Hid (ky ty s D M=tJ (DC ty) (lZ D M s) (eO ty (jf D M s))):=za (by
  unfold ky tJ DC;cases ty.may<;>simp)
 have G:Hid (qu ty s D M=if ky ty s D M≠0 then jv else jf D M s):=za rfl;have GW:=za d;obtain⟨A,cap,rfl,rfl,rfl,rfl,_⟩:=S.open_;have H:Hid (ky ty s D M=0->DC ty=0/\lZ D M s=0):=za (fun h=>by
  have c:=(pn ty s D M).1 h;exact⟨by unfold DC;rw[c.1];rfl,c.2.1⟩)
 generalize ky ty s D M=E at*;generalize qu ty s D M=Y at*;generalize jf D M s=X at*;generalize eO ty X=E2 at*;generalize DC ty=E0 at*;generalize lZ D M s=E1 at*;clear I h5 h6 W h8 AG hF z hz d S U K R;rcases eT E with⟨m,k1,k2⟩|⟨m,k1,k2⟩
 ·subst m;obtain⟨rfl,rfl⟩:=H.out rfl;obtain rfl:Y=X:=by have:=G.out;simpa using this
  go_enter func120,ntmps120
  go_wp2_with fail
  rw[GW.out];refine y.out.mono ?_;rintro e l ⟨rfl,hi⟩;have hi:Jm l (w.heap.size+1+1+1+1+1) b.heap.size Y/\ae [w.heap.size+1+1+1+1+1] b l:=by
   have:=hi;simpa[tK]using this
  rw[<-x.out];obtain⟨⟨q,u,r,j,N⟩,i⟩:=hi;obtain⟨A2,k3,rfl,rfl,rfl,_⟩:=N.open_;have O:=C.out.only i (by simp);obtain⟨p0,p1,p2,Ev,Eu,Ew⟩:=bg O;obtain⟨g0,g1,g2,_⟩:=bg j;have H9:=za O;have J9:=za N;have HO:=za i;clear y x H G O j N i;go_wp2;obtain⟨d0,d1,d2,_⟩:=bg (ec H9.out (.string Y.text) (.bool Y.list) (.slice A2 Y.sub.length k3));refine zk (v:= .tuple #[.agg #[.string Y.text,.bool Y.list,.slice A2 Y.sub.length k3],.int .i64 0]) (by simp[results,results120,go_sem,d0,d1,d2]) rfl ?_;have hz:=Z.out;refine⟨(((F.out.trans (HO.out.below (by omega) (by simp<;>omega))).setCell (by simp<;>omega) _).setCell (by simp<;>omega) _).setCell (by simp<;>omega) _,_,_,_,rfl, ?_⟩;exact J9.out.only ((((ae.refl [w.heap.size+1+1+1+1] l).setCell (by simp) _).setCell (by simp) _).setCell (by simp) _) (by simp<;>omega) (fun k _ h=>by omega)
 obtain rfl:Y=jv:=by have:=G.out;rwa [zi m]at this
 go_enter func120,ntmps120
 go_wp2_with fail
 rw[GW.out];refine y.out.mono ?_;rintro e l ⟨rfl,hi⟩;have L:Below w.heap.size w l/\af l (w.heap.size+1+1+1+1) 28 #[.string ⟨#[]⟩,.bool false,.slice none 0 0]:=by
  unfold tK at hi;have hz:=Z.out;split at hi
  ·exact⟨F.out.trans (hi.mono (by omega)),C.out.ag hi (by omega)⟩
  split at hi
  ·exact⟨F.out.trans (hi.2.below (by omega) (by simp<;>omega)),C.out.only hi.2 (by simp)⟩
  exact⟨F.out.trans (hi.2.below (by omega) (by simp<;>omega)),C.out.only hi.2 (by simp)⟩
 rw[<-x.out];obtain⟨p0,p1,p2,Ev,Eu,Ew⟩:=bg L.2;have Sb:=za L;clear hi y x H L G;go_wp2;obtain⟨d0,d1,d2,_⟩:=bg (ec Sb.out.2 (.string ⟨#[]⟩) (.bool false) (.slice none 0 0));refine zk (v:= .tuple #[.agg #[.string ⟨#[]⟩,.bool false,.slice none 0 0],.int .i64 E]) (by simp[results,results120,go_sem,d0,d1,d2]) rfl ?_;exact⟨((Sb.out.1.setCell (by simp<;>omega) _).setCell (by simp<;>omega) _).setCell (by simp<;>omega) _,_,_,_,rfl,nN _ _⟩
