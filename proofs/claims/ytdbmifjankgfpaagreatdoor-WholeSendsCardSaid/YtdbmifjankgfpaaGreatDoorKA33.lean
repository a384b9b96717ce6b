/- tree.Put: its three checks, and it itself. -/
import Derived.Test.YtdbmifjankgfpaaGreatDoorKA28
import Derived.Test.YtdbmifjankgfpaaGreatDoorKA32
import Derived.Test.YtdbmifjankgfpaaGreatDoorKA35
set_option linter.all false
set_option maxRecDepth 100000
set_option maxHeartbeats 2000000
open Go.Proofs.Tryz
namespace Go.Proofs.YtdbmifjankgfpaaGreatDoor
open Go.RowKit
theorem XP (ty:Ty)(x:It)(B n p:Nat)(w:World)(c i l t3 k b j:Value)(o:af w n 43 #[c,i,l,t3])(m:af w p 28 #[k,b,j])(d:cC w B ty c i l t3)(h:bT w B x k b j)(s:B<=w.heap.size)(q:Laid w):
 Calls prog 142 #[.pointer (some ⟨n,0,none⟩),.pointer (some ⟨p,0,none⟩)] w fun e w'=>e= .returned (.int .i64 (cU ty x))/\Below w.heap.size w w':=by
 have r:=za (Jt ty x B w c i l t3 k b j d h s q);obtain⟨K,H,D,F,_⟩:=aN o;obtain⟨z,y,C⟩:=kr m;obtain⟨A,cap,rfl,rfl,rfl,rfl,_⟩:=d.open_;obtain⟨J,G,rfl,rfl,rfl,_⟩:=h.open_;generalize cU ty x=E at*;clear d h o m;go_enter func142,ntmps142
 go_wp2_with fail
 refine r.out.mono ?_;rintro e I ⟨rfl,u⟩;go_wp2;go_ret;exact⟨rfl,u⟩
theorem XQ (x:It)(D M:Int)(B n c d:Nat)(w:World)(j b i:Value)(l:af w n 28 #[j,b,i])(m:af w c 3 #[.int .i64 D])(k:af w d 3 #[.int .i64 M])(h:bT w B x j b i)(p:B<=w.heap.size):
 Calls prog 144 #[.pointer (some ⟨n,0,none⟩),.pointer (some ⟨c,0,none⟩),.pointer (some ⟨d,0,none⟩)] w fun e w'=>e= .returned (.int .i64 (fD x D M))/\Below w.heap.size w w':=by
 have o:=za (XM x D M B w j b i h p);obtain⟨s,r,u⟩:=kr l;have z:w.cell? ⟨c,0,none⟩=some (.int .i64 D):=m.cell 0;have y:w.cell? ⟨d,0,none⟩=some (.int .i64 M):=k.cell 0;obtain⟨F,A,rfl,rfl,rfl,_⟩:=h.open_;generalize fD x D M=E at*;clear h l m k;go_enter func144,ntmps144
 go_wp2_with fail
 refine o.out.mono ?_;rintro e C ⟨rfl,q⟩;go_wp2;go_ret;exact⟨rfl,q⟩
theorem XR (x:It)(B q b:Nat)(w:World)(z k d j:Value)(o:af w q 28 #[k,d,j])(h:af w b 9 #[z])(i:bT w B x k d j)(y:B<=w.heap.size)(p:x.may=true)(n:x.fO.length<=1099511627776):
 Calls prog 146 #[.pointer (some ⟨q,0,none⟩),.pointer (some ⟨b,0,none⟩)] w fun e w'=>e= .returned (.int .i64 0)/\af w' b 9 #[.string ⟨x.fO.toArray⟩]/\ae [b] w w':=by
 have r:=za (QY x B w k d j i y p n);obtain⟨E,D,F⟩:=kr o;obtain⟨I,G,rfl,rfl,rfl,_⟩:=i.open_;have C:=za h;have s:=h.lt;generalize (⟨x.fO.toArray⟩:ByteArray)=S at*;clear i o n p h;go_enter func146,ntmps146
 go_wp2_with fail
 refine r.out.mono ?_;rintro e m ⟨rfl,l⟩;have c:=C.out.ag l s;have H:m.cell? ⟨b,0,none⟩=some z:=c.cell 0;have J:m.frozen? ⟨b,0,none⟩=false:=c.frozen 0;have u:=za c;have A:Hid (ae [b] w m):=za ((ae.ah l (zg _)).mono (by simp));clear c l;go_wp2;go_ret;exact⟨rfl,u.out.set 0 _,A.out.setCell (by simp) _⟩
theorem NN (ty:Ty)(x:It)(D M:Int)(B:Nat)(w:World)(o q r t3 k i j:Value)(G:cC w B ty o q r t3)(p:bT w B x k i j)(C:B<=w.heap.size)(K:Laid w)(H:x.fO.length<=1099511627776):
 Calls prog 119 #[.agg #[o,q,r,t3],.agg #[k,i,j],.int .i64 D,.int .i64 M] w fun e w'=>e= .returned (.tuple #[.string (if eJ ty x D M=0 then⟨x.fO.toArray⟩else⟨#[]⟩),.int .i64 (eJ ty x D M)])/\Below w.heap.size w w':=by
 obtain⟨b,d⟩:∃b,((((((w.alloc (.cells #[o,q,r,t3] 43)).alloc (.cells #[k,i,j] 28)).alloc (.cells #[.int .i64 D] 3)).alloc (.cells #[.int .i64 M] 3)).alloc (.cells #[.string ⟨#[]⟩] 9)).alloc (.cells #[.func (.func 142) #[] #[.pointer (some ⟨w.heap.size,0,none⟩),.pointer (some ⟨w.heap.size+1,0,none⟩)],.func (.func 144) #[] #[.pointer (some ⟨w.heap.size+1,0,none⟩),.pointer (some ⟨w.heap.size+1+1,0,none⟩),.pointer (some ⟨w.heap.size+1+1+1,0,none⟩)],.func (.func 146) #[] #[.pointer (some ⟨w.heap.size+1,0,none⟩),.pointer (some ⟨w.heap.size+1+1+1+1,0,none⟩)]] 61))=b:=⟨_,rfl⟩
 have hz:b.heap.size=w.heap.size+6:=by rw[<-d];simp
 have l:Below w.heap.size w b:=by rw[<-d];exact bD
 have R:af b (w.heap.size) 43 #[o,q,r,t3]:=by rw[<-d];exact(((((af.at_ (by simp)).alloc _).alloc _).alloc _).alloc _).alloc _
 have u:af b (w.heap.size+1) 28 #[k,i,j]:=by rw[<-d];exact((((af.at_ (by simp)).alloc _).alloc _).alloc _).alloc _
 have O:af b (w.heap.size+1+1) 3 #[.int .i64 D]:=by rw[<-d];exact(((af.at_ (by simp)).alloc _).alloc _).alloc _
 have J:af b (w.heap.size+1+1+1) 3 #[.int .i64 M]:=by rw[<-d];exact((af.at_ (by simp)).alloc _).alloc _
 have N:af b (w.heap.size+1+1+1+1) 9 #[.string ⟨#[]⟩]:=by rw[<-d];exact(af.at_ (by simp)).alloc _
 have hF:af b (w.heap.size+1+1+1+1+1) 61 #[.func (.func 142) #[] #[.pointer (some ⟨w.heap.size,0,none⟩),.pointer (some ⟨w.heap.size+1,0,none⟩)],.func (.func 144) #[] #[.pointer (some ⟨w.heap.size+1,0,none⟩),.pointer (some ⟨w.heap.size+1+1,0,none⟩),.pointer (some ⟨w.heap.size+1+1+1,0,none⟩)],.func (.func 146) #[] #[.pointer (some ⟨w.heap.size+1,0,none⟩),.pointer (some ⟨w.heap.size+1+1+1+1,0,none⟩)]]:=by rw[<-d];exact af.at_ (by simp)
 have s:=za (Jq b (w.heap.size+1+1+1+1+1) #[.pointer (some ⟨w.heap.size,0,none⟩),.pointer (some ⟨w.heap.size+1,0,none⟩)] #[.pointer (some ⟨w.heap.size+1,0,none⟩),.pointer (some ⟨w.heap.size+1+1,0,none⟩),.pointer (some ⟨w.heap.size+1+1+1,0,none⟩)] #[.pointer (some ⟨w.heap.size+1,0,none⟩),.pointer (some ⟨w.heap.size+1+1+1+1,0,none⟩)] (cU ty x) (fD x D M) 0 (fun w'=>Below b.heap.size b w') (fun w'=>Below b.heap.size b w') (fun w'=>af w' (w.heap.size+1+1+1+1) 9 #[.string ⟨x.fO.toArray⟩]/\ae [w.heap.size+1+1+1+1] b w') hF
  (XP ty x B _ _ b o q r t3 k i j R u (G.below (l.mono C)) (p.below (l.mono C)) (by omega) (K.below l K.pos))
  (fun _ m c=>(XQ x D M B _ _ _ m k i j (u.ag c (by omega)) (O.ag c (by omega)) (J.ag c (by omega)) ((p.below (l.mono C)).below (c.mono (by omega))) (by have:=c.size;omega)).mono fun e w' ⟨n,wR⟩=>⟨n,c.trans (wR.mono c.size)⟩)
  (fun hf _ Y h=>(XR x B _ _ Y _ k i j (u.ag h (by omega)) (N.ag h (by omega)) ((p.below (l.mono C)).below (h.mono (by omega))) (by have:=h.size;omega) ((BV ty x).1 hf).2.1 H).mono fun e w' ⟨n,X,Z⟩=>⟨n,X,((ae.ah h (zg _)).mono (by simp)).trans Z⟩)
  (fun w' c=>hF.ag c (by omega)) (fun w' c=>hF.ag c (by omega)))
 have y:=za l;have I:=za hz;have z:Hid (eJ ty x D M=tI (cU ty x) (fD x D M) 0):=za (by
  unfold eJ tI;by_cases c:cU ty x≠0
  ·rw[zi c,zi c]
  rw[zh c,zh c];by_cases h:fD x D M≠0
  ·rw[zi h]
  rw[zh h];exact zH.1 h)
 have L:=za d;obtain⟨A,cap,rfl,rfl,rfl,rfl,_⟩:=G.open_;obtain⟨A',aj,rfl,rfl,rfl,_⟩:=p.open_;have F:Hid (eJ ty x D M=0->cU ty x=0/\fD x D M=0):=za (lS ty x D M).1;generalize eJ ty x D M=E at*;generalize (⟨x.fO.toArray⟩:ByteArray)=S at*;generalize cU ty x=E0 at*;generalize fD x D M=E1 at*;clear R u O J N hF l hz d G p H;rcases eP E with⟨n,k1,k2⟩|⟨n,k1,k2⟩
 ·subst n;obtain⟨rfl,rfl⟩:=F.out rfl;go_enter func119,ntmps119
  go_wp2_with fail
  rw[L.out];refine s.out.mono ?_;rintro e m ⟨rfl,hi⟩;have hi:af m (w.heap.size+1+1+1+1) 9 #[.string S]/\ae [w.heap.size+1+1+1+1] b m:=by
   have:=hi;simpa[tJ]using this
  rw[<-z.out];have q1:m.cell? ⟨w.heap.size+1+1+1+1,0,none⟩=some (.string S):=hi.1.cell 0;have HO:=za hi.2;clear hi s z F;go_wp2;go_ret2
  refine⟨?_,y.out.trans (HO.out.below (by have:=I.out;omega) (by simp;omega))⟩;rfl
 go_enter func119,ntmps119
 go_wp2_with fail
 rw[L.out];refine s.out.mono ?_;rintro e m ⟨rfl,hi⟩;have U:Below w.heap.size w m:=by
  unfold tJ at hi;have hz:=I.out;split at hi
  ·exact y.out.trans (hi.mono (by omega))
  split at hi
  ·exact y.out.trans (hi.mono (by omega))
  exact y.out.trans (hi.2.below (by omega) (by simp;omega))
 rw[<-z.out];have W:=za U;clear hi s z F U;go_wp2;go_ret2
 exact⟨rfl,W.out⟩
def Dp (ty:Ty):Int:=if ty.may=false then 1 else 0
theorem XS (ty:Ty)(B n:Nat)(w:World)(i h c t3:Value)(j:af w n 43 #[i,h,c,t3])(b:cC w B ty i h c t3)(o:B<=w.heap.size)(p:Laid w):
 Calls prog 148 #[.pointer (some ⟨n,0,none⟩)] w fun e w'=>e= .returned (.int .i64 (Dp ty))/\Below w.heap.size w w':=by
 have l:=za (kz ty B w i h c t3 b o p);obtain⟨r,u,x,s,_⟩:=aN j;obtain⟨A,cap,rfl,rfl,rfl,rfl,_⟩:=b.open_;have k:Hid (Dp ty=if ty.may=false then 1 else 0):=za rfl;generalize Dp ty=E at*;generalize ty.may=m at*;clear b j;cases m with
 |true=>
  obtain rfl:E=0:=k.out;go_enter func148,ntmps148
  go_wp2_with fail
  refine l.out.mono ?_;rintro e q ⟨rfl,d⟩;go_wp2;go_ret;exact⟨rfl,d⟩
 |false=>
  obtain rfl:E=1:=k.out;go_enter func148,ntmps148
  go_wp2_with fail
  refine l.out.mono ?_;rintro e q ⟨rfl,d⟩;go_wp2;go_ret;exact⟨rfl,d⟩
def Jw (w:World)(g S:Nat)(x:It):Prop:=∃c0 c1 c2,af w g 28 #[c0,c1,c2]/\ga w (S<= ·) x c0 c1 c2
theorem Jw.below {w w':World}{g S:Nat}{x:It}(h:Jw w g S x)(c:Below w.heap.size w w'):Jw w' g S x:=by
 obtain⟨d,e,j,b,i⟩:=h;exact⟨d,e,j,b.ag c b.lt,i.below c⟩
theorem XT (s:ByteArray)(D M:Int)(n c j b:Nat)(w:World)(B C y:Value)(p:af w n 9 #[.string s])(q:af w c 3 #[.int .i64 D])(o:af w j 3 #[.int .i64 M])(d:af w b 28 #[B,C,y])(I:s.size<=4611686018427387904):
 Calls prog 150 #[.pointer (some ⟨n,0,none⟩),.pointer (some ⟨c,0,none⟩),.pointer (some ⟨j,0,none⟩),.pointer (some ⟨b,0,none⟩)] w fun e w'=>e= .returned (.int .i64 (lR D M s))/\Jw w' b w.heap.size (iY D M s)/\ae [b] w w':=by
 have u:=za (QZ s D M w I);have R:w.cell? ⟨n,0,none⟩=some (.string s):=p.cell 0;have W:w.cell? ⟨c,0,none⟩=some (.int .i64 D):=q.cell 0;have S:w.cell? ⟨j,0,none⟩=some (.int .i64 M):=o.cell 0;have H:=za d;have x:=d.lt;generalize lR D M s=E at*;generalize iY D M s=X at*;clear p q o d;go_enter func150,ntmps150
 go_wp2_with fail
 refine u.out.mono ?_;rintro e r ⟨m,Z,K,Y,rfl,i⟩;obtain⟨A,k,rfl,rfl,rfl,_⟩:=i.open_;have l:=H.out.ag m x;obtain⟨L,J,N,Ei,U,O⟩:=aZ l;have z:=za l;have F:=za i;have G:Hid (ae [b] w r):=za ((ae.ah m (zg _)).mono (by simp));clear l m i;go_wp2;go_ret;refine⟨rfl,⟨_,_,_,ef z.out _ _ _, ?_⟩,((G.out.setCell (by simp) _).setCell (by simp) _).setCell (by simp) _⟩;exact F.out.only ((((ae.refl [b] r).setCell (by simp) _).setCell (by simp) _).setCell (by simp) _) (by simp<;>omega) (fun k _ h=>h)
theorem XU (ty:Ty)(x:It)(B n o:Nat)(w:World)(c i l t3 k b j:Value)(p:af w n 43 #[c,i,l,t3])(m:af w o 28 #[k,b,j])(d:cC w B ty c i l t3)(h:bT w B x k b j)(s:B<=w.heap.size)(q:Laid w):
 Calls prog 152 #[.pointer (some ⟨n,0,none⟩),.pointer (some ⟨o,0,none⟩)] w fun e w'=>e= .returned (.int .i64 (cU ty x))/\Below w.heap.size w w':=by
 have r:=za (Jt ty x B w c i l t3 k b j d h s q);obtain⟨K,H,D,F,_⟩:=aN p;obtain⟨z,y,C⟩:=kr m;obtain⟨A,cap,rfl,rfl,rfl,rfl,_⟩:=d.open_;obtain⟨J,G,rfl,rfl,rfl,_⟩:=h.open_;generalize cU ty x=E at*;clear d h p m;go_enter func152,ntmps152
 go_wp2_with fail
 refine r.out.mono ?_;rintro e I ⟨rfl,u⟩;go_wp2;go_ret;exact⟨rfl,u⟩
theorem NO (ty:Ty)(s:ByteArray)(D M:Int)(B:Nat)(w:World)(n o p t3:Value)(L:cC w B ty n o p t3)(hB:B<=w.heap.size)(H:Laid w)(hs:s.size<=4611686018427387904):
 Calls prog 120 #[.agg #[n,o,p,t3],.string s,.int .i64 D,.int .i64 M] w fun e w'=>vG w w' (qw ty s D M) (kn ty s D M) e:=by
 obtain⟨b,i⟩:∃b,(((((((w.alloc (.cells #[n,o,p,t3] 43)).alloc (.cells #[.string s] 9)).alloc (.cells #[.int .i64 D] 3)).alloc (.cells #[.int .i64 M] 3)).alloc (.cells #[.string ⟨#[]⟩,.bool false,.slice none 0 0] 28)).alloc (.cells #[.string ⟨#[]⟩,.bool false,.slice none 0 0] 28)).alloc (.cells #[.func (.func 148) #[] #[.pointer (some ⟨w.heap.size,0,none⟩)],.func (.func 150) #[] #[.pointer (some ⟨w.heap.size+1,0,none⟩),.pointer (some ⟨w.heap.size+1+1,0,none⟩),.pointer (some ⟨w.heap.size+1+1+1,0,none⟩),.pointer (some ⟨w.heap.size+1+1+1+1+1,0,none⟩)],.func (.func 152) #[] #[.pointer (some ⟨w.heap.size,0,none⟩),.pointer (some ⟨w.heap.size+1+1+1+1+1,0,none⟩)]] 61))=b:=⟨_,rfl⟩
 have hz:b.heap.size=w.heap.size+7:=by rw[<-i];simp
 have G:Below w.heap.size w b:=by rw[<-i];exact bD
 have R:af b (w.heap.size) 43 #[n,o,p,t3]:=by rw[<-i];exact((((((af.at_ (by simp)).alloc _).alloc _).alloc _).alloc _).alloc _).alloc _
 have h5:af b (w.heap.size+1) 9 #[.string s]:=by rw[<-i];exact(((((af.at_ (by simp)).alloc _).alloc _).alloc _).alloc _).alloc _
 have h6:af b (w.heap.size+1+1) 3 #[.int .i64 D]:=by rw[<-i];exact((((af.at_ (by simp)).alloc _).alloc _).alloc _).alloc _
 have Z:af b (w.heap.size+1+1+1) 3 #[.int .i64 M]:=by rw[<-i];exact(((af.at_ (by simp)).alloc _).alloc _).alloc _
 have h8:af b (w.heap.size+1+1+1+1) 28 #[.string ⟨#[]⟩,.bool false,.slice none 0 0]:=by rw[<-i];exact((af.at_ (by simp)).alloc _).alloc _
 have Am:af b (w.heap.size+1+1+1+1+1) 28 #[.string ⟨#[]⟩,.bool false,.slice none 0 0]:=by rw[<-i];exact(af.at_ (by simp)).alloc _
 have hF:af b (w.heap.size+1+1+1+1+1+1) 61 #[.func (.func 148) #[] #[.pointer (some ⟨w.heap.size,0,none⟩)],.func (.func 150) #[] #[.pointer (some ⟨w.heap.size+1,0,none⟩),.pointer (some ⟨w.heap.size+1+1,0,none⟩),.pointer (some ⟨w.heap.size+1+1+1,0,none⟩),.pointer (some ⟨w.heap.size+1+1+1+1+1,0,none⟩)],.func (.func 152) #[] #[.pointer (some ⟨w.heap.size,0,none⟩),.pointer (some ⟨w.heap.size+1+1+1+1+1,0,none⟩)]]:=by rw[<-i];exact af.at_ (by simp)
 have N:=H.below G H.pos;have I:=L.below (G.mono hB);have x:=za (Jr b (w.heap.size+1+1+1+1+1+1) #[.pointer (some ⟨w.heap.size,0,none⟩)] #[.pointer (some ⟨w.heap.size+1,0,none⟩),.pointer (some ⟨w.heap.size+1+1,0,none⟩),.pointer (some ⟨w.heap.size+1+1+1,0,none⟩),.pointer (some ⟨w.heap.size+1+1+1+1+1,0,none⟩)] #[.pointer (some ⟨w.heap.size,0,none⟩),.pointer (some ⟨w.heap.size+1+1+1+1+1,0,none⟩)] (Dp ty) (lR D M s) (cU ty (iY D M s)) (fun w'=>Below b.heap.size b w') (fun w'=>Jw w' (w.heap.size+1+1+1+1+1) b.heap.size (iY D M s)/\ae [w.heap.size+1+1+1+1+1] b w') (fun w'=>Jw w' (w.heap.size+1+1+1+1+1) b.heap.size (iY D M s)/\ae [w.heap.size+1+1+1+1+1] b w') hF
  (XS ty B _ b n o p t3 R I (by omega) N)
  (fun _ l c=>(XT s D M _ _ _ _ l _ _ _ (h5.ag c (by omega)) (h6.ag c (by omega)) (Z.ag c (by omega)) (Am.ag c (by omega)) hs).mono fun e w' ⟨m,⟨u,q,r,j,hi⟩,d⟩=>⟨m,⟨u,q,r,j,hi.gQ (fun k _ j=>zK c.size j)⟩,((ae.ah c (zg _)).mono (by simp)).trans d⟩)
  (fun _ _ w2 ⟨hv,d⟩=>by
   obtain⟨u,q,r,j,hi⟩:=hv;have fG:=d.size;refine(XU ty (iY D M s) w2.heap.size _ _ w2 n o p t3 u q r (R.only d (by simp<;>omega)) j ((I.below (d.below (by omega) (by simp<;>omega))).mono (by omega)) (hi.AM) (zg _) (N.only d (by simp<;>omega))).mono fun e w' ⟨m,S⟩=>⟨m,⟨u,q,r,j.ag S j.lt,hi.below S⟩,d.trans ((ae.ah S (zg _)).mono (by simp))⟩)
  (fun w' c=>hF.ag c (by omega)) (fun w' c=>hF.only c.2 (by simp)))
 have z:=za h8;have C:=za G;have W:=za hz;have F:Hid (kn ty s D M=tI (Dp ty) (lR D M s) (cU ty (iY D M s))):=za (by
  unfold kn tI Dp;cases ty.may<;>simp)
 have y:Hid (qw ty s D M=if kn ty s D M≠0 then jk else iY D M s):=za rfl;have DS:=za i;obtain⟨A,cap,rfl,rfl,rfl,rfl,_⟩:=L.open_;have J:Hid (kn ty s D M=0->Dp ty=0/\lR D M s=0):=za (fun h=>by
  have c:=(pc ty s D M).1 h;exact⟨by unfold Dp;rw[c.1];rfl,c.2.1⟩)
 generalize kn ty s D M=E at*;generalize qw ty s D M=Y at*;generalize iY D M s=X at*;generalize cU ty X=E2 at*;generalize Dp ty=E0 at*;generalize lR D M s=E1 at*;clear R h5 h6 Z h8 Am hF G hz i L N I H;rcases eP E with⟨m,k1,k2⟩|⟨m,k1,k2⟩
 ·subst m;obtain⟨rfl,rfl⟩:=J.out rfl;obtain rfl:Y=X:=by have:=y.out;simpa using this
  go_enter func120,ntmps120
  go_wp2_with fail
  rw[DS.out];refine x.out.mono ?_;rintro e l ⟨rfl,hi⟩;have hi:Jw l (w.heap.size+1+1+1+1+1) b.heap.size Y/\ae [w.heap.size+1+1+1+1+1] b l:=by
   have:=hi;simpa[tJ]using this
  rw[<-F.out];obtain⟨⟨u,q,r,j,K⟩,d⟩:=hi;obtain⟨A2,k3,rfl,rfl,rfl,_⟩:=K.open_;have O:=z.out.only d (by simp);obtain⟨p0,p1,p2,Ei,Ek,Eh⟩:=aZ O;obtain⟨g0,g1,g2,_⟩:=aZ j;have H9:=za O;have Kb:=za K;have HO:=za d;clear x F J y O j K d;go_wp2;obtain⟨d0,d1,d2,_⟩:=aZ (ef H9.out (.string Y.text) (.bool Y.list) (.slice A2 Y.sub.length k3));refine zk (v:= .tuple #[.agg #[.string Y.text,.bool Y.list,.slice A2 Y.sub.length k3],.int .i64 0]) (by simp[results,results120,go_sem,d0,d1,d2]) rfl ?_;have hz:=W.out;refine⟨(((C.out.trans (HO.out.below (by omega) (by simp<;>omega))).setCell (by simp<;>omega) _).setCell (by simp<;>omega) _).setCell (by simp<;>omega) _,_,_,_,rfl, ?_⟩;exact Kb.out.only ((((ae.refl [w.heap.size+1+1+1+1] l).setCell (by simp) _).setCell (by simp) _).setCell (by simp) _) (by simp<;>omega) (fun k _ h=>by omega)
 obtain rfl:Y=jk:=by have:=y.out;rwa [zi m]at this
 go_enter func120,ntmps120
 go_wp2_with fail
 rw[DS.out];refine x.out.mono ?_;rintro e l ⟨rfl,hi⟩;have U:Below w.heap.size w l/\af l (w.heap.size+1+1+1+1) 28 #[.string ⟨#[]⟩,.bool false,.slice none 0 0]:=by
  unfold tJ at hi;have hz:=W.out;split at hi
  ·exact⟨C.out.trans (hi.mono (by omega)),z.out.ag hi (by omega)⟩
  split at hi
  ·exact⟨C.out.trans (hi.2.below (by omega) (by simp<;>omega)),z.out.only hi.2 (by simp)⟩
  exact⟨C.out.trans (hi.2.below (by omega) (by simp<;>omega)),z.out.only hi.2 (by simp)⟩
 rw[<-F.out];obtain⟨p0,p1,p2,Ei,Ek,Eh⟩:=aZ U.2;have Ox:=za U;clear hi x F J U y;go_wp2;obtain⟨d0,d1,d2,_⟩:=aZ (ef Ox.out.2 (.string ⟨#[]⟩) (.bool false) (.slice none 0 0));refine zk (v:= .tuple #[.agg #[.string ⟨#[]⟩,.bool false,.slice none 0 0],.int .i64 E]) (by simp[results,results120,go_sem,d0,d1,d2]) rfl ?_;exact⟨((Ox.out.1.setCell (by simp<;>omega) _).setCell (by simp<;>omega) _).setCell (by simp<;>omega) _,_,_,_,rfl,ny _ _⟩
