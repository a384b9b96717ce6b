/- tree.Put: its three checks, and it itself. -/
import Derived.Test.YtimoclkoflamkaaGreatDoorKA20
import Derived.Test.YtimoclkoflamkaaGreatDoorKA25
import Derived.Test.YtimoclkoflamkaaGreatDoorKA27
set_option linter.all false
set_option maxRecDepth 100000
set_option maxHeartbeats 2000000
open Go.Proofs.Tryz
namespace Go.Proofs.YtimoclkoflamkaaGreatDoor
open Go.RowKit
theorem aa7 (ty:Ty)(x:It)(B o p:Nat)(w:World)(d h c t3 b l i:Value)(m:af w o 70 #[d,h,c,t3])(n:af w p 28 #[b,l,i])(k:cz w B ty d h c t3)(j:bH w B x b l i)(s:B<=w.heap.size)(u:Laid w):
 Calls prog 108 #[.pointer (some ⟨o,0,none⟩),.pointer (some ⟨p,0,none⟩)] w fun e w'=>e= .returned (.int .i64 (ep ty x))/\Below w.heap.size w w':=by
 have r:=za (Kv ty x B w d h c t3 b l i k j s u);obtain⟨K,I,H,F,_⟩:=aY m;obtain⟨G,C,y⟩:=kt n;obtain⟨A,cap,rfl,rfl,rfl,rfl,_⟩:=k.open_;obtain⟨z,D,rfl,rfl,rfl,_⟩:=j.open_;generalize ep ty x=E at*;clear k j m n;go_enter func108,ntmps108
 go_wp2_with fail
 refine r.out.mono ?_;rintro e J ⟨rfl,q⟩;go_wp2;go_ret;exact⟨rfl,q⟩
theorem aa8 (x:It)(D M:Int)(B n d c:Nat)(w:World)(b j h:Value)(l:af w n 28 #[b,j,h])(k:af w d 3 #[.int .i64 D])(m:af w c 3 #[.int .i64 M])(i:bH w B x b j h)(q:B<=w.heap.size):
 Calls prog 110 #[.pointer (some ⟨n,0,none⟩),.pointer (some ⟨d,0,none⟩),.pointer (some ⟨c,0,none⟩)] w fun e w'=>e= .returned (.int .i64 (fP x D M))/\Below w.heap.size w w':=by
 have p:=za (aa1 x D M B w b j h i q);obtain⟨A,y,r⟩:=kt l;have C:w.cell? ⟨d,0,none⟩=some (.int .i64 D):=k.cell 0;have s:w.cell? ⟨c,0,none⟩=some (.int .i64 M):=m.cell 0;obtain⟨u,z,rfl,rfl,rfl,_⟩:=i.open_;generalize fP x D M=E at*;clear i l k m;go_enter func110,ntmps110
 go_wp2_with fail
 refine p.out.mono ?_;rintro e F ⟨rfl,o⟩;go_wp2;go_ret;exact⟨rfl,o⟩
theorem aa9 (x:It)(B q b:Nat)(w:World)(z d m j:Value)(p:af w q 28 #[d,m,j])(h:af w b 9 #[z])(k:bH w B x d m j)(C:B<=w.heap.size)(n:x.may=true)(o:x.fB.length<=1099511627776):
 Calls prog 112 #[.pointer (some ⟨q,0,none⟩),.pointer (some ⟨b,0,none⟩)] w fun e w'=>e= .returned (.int .i64 0)/\af w' b 9 #[.string ⟨x.fB.toArray⟩]/\ae [b] w w':=by
 have s:=za (SG x B w d m j k C n o);obtain⟨I,G,E⟩:=kt p;obtain⟨F,H,rfl,rfl,rfl,_⟩:=k.open_;have r:=za h;have y:=h.lt;generalize (⟨x.fB.toArray⟩:ByteArray)=S at*;clear k p o n h;go_enter func112,ntmps112
 go_wp2_with fail
 refine s.out.mono ?_;rintro e l ⟨rfl,i⟩;have c:=r.out.ah i y;have J:l.cell? ⟨b,0,none⟩=some z:=c.cell 0;have D:l.frozen? ⟨b,0,none⟩=false:=c.frozen 0;have u:=za c;have A:Hid (ae [b] w l):=za ((ae.ai i (ze _)).mono (by simp));clear c i;go_wp2;go_ret;exact⟨rfl,u.out.set 0 _,A.out.setCell (by simp) _⟩
theorem O3 (ty:Ty)(x:It)(D M:Int)(B:Nat)(w:World)(p q o t3 i m k:Value)(G:cz w B ty p q o t3)(r:bH w B x i m k)(z:B<=w.heap.size)(U:Laid w)(L:x.fB.length<=1099511627776):
 Calls prog 79 #[.agg #[p,q,o,t3],.agg #[i,m,k],.int .i64 D,.int .i64 M] w fun e w'=>e= .returned (.tuple #[.string (if gD ty x D M=0 then⟨x.fB.toArray⟩else⟨#[]⟩),.int .i64 (gD ty x D M)])/\Below w.heap.size w w':=by
 obtain⟨b,d⟩:∃b,((((((w.alloc (.cells #[p,q,o,t3] 70)).alloc (.cells #[i,m,k] 28)).alloc (.cells #[.int .i64 D] 3)).alloc (.cells #[.int .i64 M] 3)).alloc (.cells #[.string ⟨#[]⟩] 9)).alloc (.cells #[.func (.func 108) #[] #[.pointer (some ⟨w.heap.size,0,none⟩),.pointer (some ⟨w.heap.size+1,0,none⟩)],.func (.func 110) #[] #[.pointer (some ⟨w.heap.size+1,0,none⟩),.pointer (some ⟨w.heap.size+1+1,0,none⟩),.pointer (some ⟨w.heap.size+1+1+1,0,none⟩)],.func (.func 112) #[] #[.pointer (some ⟨w.heap.size+1,0,none⟩),.pointer (some ⟨w.heap.size+1+1+1+1,0,none⟩)]] 89))=b:=⟨_,rfl⟩
 have hz:b.heap.size=w.heap.size+6:=by rw[<-d];simp
 have j:Below w.heap.size w b:=by rw[<-d];exact bQ
 have K:af b (w.heap.size) 70 #[p,q,o,t3]:=by rw[<-d];exact(((((af.at_ (by simp)).alloc _).alloc _).alloc _).alloc _).alloc _
 have y:af b (w.heap.size+1) 28 #[i,m,k]:=by rw[<-d];exact((((af.at_ (by simp)).alloc _).alloc _).alloc _).alloc _
 have J:af b (w.heap.size+1+1) 3 #[.int .i64 D]:=by rw[<-d];exact(((af.at_ (by simp)).alloc _).alloc _).alloc _
 have O:af b (w.heap.size+1+1+1) 3 #[.int .i64 M]:=by rw[<-d];exact((af.at_ (by simp)).alloc _).alloc _
 have H:af b (w.heap.size+1+1+1+1) 9 #[.string ⟨#[]⟩]:=by rw[<-d];exact(af.at_ (by simp)).alloc _
 have hF:af b (w.heap.size+1+1+1+1+1) 89 #[.func (.func 108) #[] #[.pointer (some ⟨w.heap.size,0,none⟩),.pointer (some ⟨w.heap.size+1,0,none⟩)],.func (.func 110) #[] #[.pointer (some ⟨w.heap.size+1,0,none⟩),.pointer (some ⟨w.heap.size+1+1,0,none⟩),.pointer (some ⟨w.heap.size+1+1+1,0,none⟩)],.func (.func 112) #[] #[.pointer (some ⟨w.heap.size+1,0,none⟩),.pointer (some ⟨w.heap.size+1+1+1+1,0,none⟩)]]:=by rw[<-d];exact af.at_ (by simp)
 have C:=za (Ks b (w.heap.size+1+1+1+1+1) #[.pointer (some ⟨w.heap.size,0,none⟩),.pointer (some ⟨w.heap.size+1,0,none⟩)] #[.pointer (some ⟨w.heap.size+1,0,none⟩),.pointer (some ⟨w.heap.size+1+1,0,none⟩),.pointer (some ⟨w.heap.size+1+1+1,0,none⟩)] #[.pointer (some ⟨w.heap.size+1,0,none⟩),.pointer (some ⟨w.heap.size+1+1+1+1,0,none⟩)] (ep ty x) (fP x D M) 0 (fun w'=>Below b.heap.size b w') (fun w'=>Below b.heap.size b w') (fun w'=>af w' (w.heap.size+1+1+1+1) 9 #[.string ⟨x.fB.toArray⟩]/\ae [w.heap.size+1+1+1+1] b w') hF
  (aa7 ty x B _ _ b p q o t3 i m k K y (G.below (j.mono z)) (r.below (j.mono z)) (by omega) (U.below j U.pos))
  (fun _ l c=>(aa8 x D M B _ _ _ l i m k (y.ah c (by omega)) (J.ah c (by omega)) (O.ah c (by omega)) ((r.below (j.mono z)).below (c.mono (by omega))) (by have:=c.size;omega)).mono fun e w' ⟨n,W⟩=>⟨n,c.trans (W.mono c.size)⟩)
  (fun Y _ w2 h=>(aa9 x B _ _ w2 _ i m k (y.ah h (by omega)) (H.ah h (by omega)) ((r.below (j.mono z)).below (h.mono (by omega))) (by have:=h.size;omega) ((sH ty x).1 Y).2.1 L).mono fun e w' ⟨n,hk,ho⟩=>⟨n,hk,((ae.ai h (ze _)).mono (by simp)).trans ho⟩)
  (fun w' c=>hF.ah c (by omega)) (fun w' c=>hF.ah c (by omega)))
 have u:=za j;have I:=za hz;have s:Hid (gD ty x D M=uR (ep ty x) (fP x D M) 0):=za (by
  unfold gD uR;by_cases c:ep ty x≠0
  ·rw[zg c,zg c]
  rw[zf c,zf c];by_cases h:fP x D M≠0
  ·rw[zg h]
  rw[zf h];exact zC.1 h)
 have N:=za d;obtain⟨A,cap,rfl,rfl,rfl,rfl,_⟩:=G.open_;obtain⟨A',aj,rfl,rfl,rfl,_⟩:=r.open_;have F:Hid (gD ty x D M=0->ep ty x=0/\fP x D M=0):=za (lV ty x D M).1;generalize gD ty x D M=E at*;generalize (⟨x.fB.toArray⟩:ByteArray)=S at*;generalize ep ty x=E0 at*;generalize fP x D M=E1 at*;clear K y J O H hF j hz d G r L;rcases eR E with⟨n,k1,k2⟩|⟨n,k1,k2⟩
 ·subst n;obtain⟨rfl,rfl⟩:=F.out rfl;go_enter func79,ntmps79
  go_wp2_with fail
  rw[N.out];refine C.out.mono ?_;rintro e l ⟨rfl,hi⟩;have hi:af l (w.heap.size+1+1+1+1) 9 #[.string S]/\ae [w.heap.size+1+1+1+1] b l:=by
   have:=hi;simpa[uS]using this
  rw[<-s.out];have q1:l.cell? ⟨w.heap.size+1+1+1+1,0,none⟩=some (.string S):=hi.1.cell 0;have X:=za hi.2;clear hi C s F;go_wp2;go_ret2
  refine⟨?_,u.out.trans (X.out.below (by have:=I.out;omega) (by simp;omega))⟩;rfl
 go_enter func79,ntmps79
 go_wp2_with fail
 rw[N.out];refine C.out.mono ?_;rintro e l ⟨rfl,hi⟩;have R:Below w.heap.size w l:=by
  unfold uS at hi;have hz:=I.out;split at hi
  ·exact u.out.trans (hi.mono (by omega))
  split at hi
  ·exact u.out.trans (hi.mono (by omega))
  exact u.out.trans (hi.2.below (by omega) (by simp;omega))
 rw[<-s.out];have Z:=za R;clear hi C s F R;go_wp2;go_ret2
 exact⟨rfl,Z.out⟩
def Ew (ty:Ty):Int:=if ty.may=false then 1 else 0
theorem aa' (ty:Ty)(B k:Nat)(w:World)(i c b t3:Value)(l:af w k 70 #[i,c,b,t3])(h:cz w B ty i c b t3)(o:B<=w.heap.size)(q:Laid w):
 Calls prog 114 #[.pointer (some ⟨k,0,none⟩)] w fun e w'=>e= .returned (.int .i64 (Ew ty))/\Below w.heap.size w w':=by
 have n:=za (kB ty B w i c b t3 h o q);obtain⟨s,r,x,u,_⟩:=aY l;obtain⟨A,cap,rfl,rfl,rfl,rfl,_⟩:=h.open_;have j:Hid (Ew ty=if ty.may=false then 1 else 0):=za rfl;generalize Ew ty=E at*;generalize ty.may=m at*;clear h l;cases m with
 |true=>
  obtain rfl:E=0:=j.out;go_enter func114,ntmps114
  go_wp2_with fail
  refine n.out.mono ?_;rintro e p ⟨rfl,d⟩;go_wp2;go_ret;exact⟨rfl,d⟩
 |false=>
  obtain rfl:E=1:=j.out;go_enter func114,ntmps114
  go_wp2_with fail
  refine n.out.mono ?_;rintro e p ⟨rfl,d⟩;go_wp2;go_ret;exact⟨rfl,d⟩
def Kz (w:World)(g S:Nat)(x:It):Prop:=∃c0 c1 c2,af w g 28 #[c0,c1,c2]/\fV w (S<= ·) x c0 c1 c2
theorem Kz.below {w w':World}{g S:Nat}{x:It}(h:Kz w g S x)(c:Below w.heap.size w w'):Kz w' g S x:=by
 obtain⟨d,j,e,b,i⟩:=h;exact⟨d,j,e,b.ah c b.lt,i.below c⟩
theorem aba (s:ByteArray)(D M:Int)(n m j b:Nat)(w:World)(I H G:Value)(p:af w n 9 #[.string s])(o:af w m 3 #[.int .i64 D])(q:af w j 3 #[.int .i64 M])(c:af w b 28 #[I,H,G])(F:s.size<=4611686018427387904):
 Calls prog 116 #[.pointer (some ⟨n,0,none⟩),.pointer (some ⟨m,0,none⟩),.pointer (some ⟨j,0,none⟩),.pointer (some ⟨b,0,none⟩)] w fun e w'=>e= .returned (.int .i64 (lU D M s))/\Kz w' b w.heap.size (ja D M s)/\ae [b] w w':=by
 have x:=za (SH s D M w F);have L:w.cell? ⟨n,0,none⟩=some (.string s):=p.cell 0;have W:w.cell? ⟨m,0,none⟩=some (.int .i64 D):=o.cell 0;have N:w.cell? ⟨j,0,none⟩=some (.int .i64 M):=q.cell 0;have u:=za c;have z:=c.lt;generalize lU D M s=E at*;generalize ja D M s=X at*;clear p o q c;go_enter func116,ntmps116
 go_wp2_with fail
 refine x.out.mono ?_;rintro e r ⟨i,J,c1,Y,rfl,l⟩;obtain⟨A,k,rfl,rfl,rfl,_⟩:=l.open_;have d:=u.out.ah i z;obtain⟨S,O,K,Z,U,R⟩:=bq d;have y:=za d;have B:=za l;have C:Hid (ae [b] w r):=za ((ae.ai i (ze _)).mono (by simp));clear d i l;go_wp2;go_ret;refine⟨rfl,⟨_,_,_,gZ y.out _ _ _, ?_⟩,((C.out.setCell (by simp) _).setCell (by simp) _).setCell (by simp) _⟩;exact B.out.only ((((ae.refl [b] r).setCell (by simp) _).setCell (by simp) _).setCell (by simp) _) (by simp<;>omega) (fun k _ h=>h)
theorem abb (ty:Ty)(x:It)(B p n:Nat)(w:World)(d h c t3 b l i:Value)(o:af w p 70 #[d,h,c,t3])(m:af w n 28 #[b,l,i])(k:cz w B ty d h c t3)(j:bH w B x b l i)(s:B<=w.heap.size)(u:Laid w):
 Calls prog 118 #[.pointer (some ⟨p,0,none⟩),.pointer (some ⟨n,0,none⟩)] w fun e w'=>e= .returned (.int .i64 (ep ty x))/\Below w.heap.size w w':=by
 have r:=za (Kv ty x B w d h c t3 b l i k j s u);obtain⟨K,I,H,F,_⟩:=aY o;obtain⟨G,C,y⟩:=kt m;obtain⟨A,cap,rfl,rfl,rfl,rfl,_⟩:=k.open_;obtain⟨z,D,rfl,rfl,rfl,_⟩:=j.open_;generalize ep ty x=E at*;clear k j o m;go_enter func118,ntmps118
 go_wp2_with fail
 refine r.out.mono ?_;rintro e J ⟨rfl,q⟩;go_wp2;go_ret;exact⟨rfl,q⟩
theorem O4 (ty:Ty)(s:ByteArray)(D M:Int)(B:Nat)(w:World)(o p n t3:Value)(U:cz w B ty o p n t3)(hB:B<=w.heap.size)(S:Laid w)(hs:s.size<=4611686018427387904):
 Calls prog 80 #[.agg #[o,p,n,t3],.string s,.int .i64 D,.int .i64 M] w fun e w'=>wV w w' (qK ty s D M) (kr ty s D M) e:=by
 obtain⟨b,d⟩:∃b,(((((((w.alloc (.cells #[o,p,n,t3] 70)).alloc (.cells #[.string s] 9)).alloc (.cells #[.int .i64 D] 3)).alloc (.cells #[.int .i64 M] 3)).alloc (.cells #[.string ⟨#[]⟩,.bool false,.slice none 0 0] 28)).alloc (.cells #[.string ⟨#[]⟩,.bool false,.slice none 0 0] 28)).alloc (.cells #[.func (.func 114) #[] #[.pointer (some ⟨w.heap.size,0,none⟩)],.func (.func 116) #[] #[.pointer (some ⟨w.heap.size+1,0,none⟩),.pointer (some ⟨w.heap.size+1+1,0,none⟩),.pointer (some ⟨w.heap.size+1+1+1,0,none⟩),.pointer (some ⟨w.heap.size+1+1+1+1+1,0,none⟩)],.func (.func 118) #[] #[.pointer (some ⟨w.heap.size,0,none⟩),.pointer (some ⟨w.heap.size+1+1+1+1+1,0,none⟩)]] 89))=b:=⟨_,rfl⟩
 have hz:b.heap.size=w.heap.size+7:=by rw[<-d];simp
 have y:Below w.heap.size w b:=by rw[<-d];exact bQ
 have L:af b (w.heap.size) 70 #[o,p,n,t3]:=by rw[<-d];exact((((((af.at_ (by simp)).alloc _).alloc _).alloc _).alloc _).alloc _).alloc _
 have h5:af b (w.heap.size+1) 9 #[.string s]:=by rw[<-d];exact(((((af.at_ (by simp)).alloc _).alloc _).alloc _).alloc _).alloc _
 have h6:af b (w.heap.size+1+1) 3 #[.int .i64 D]:=by rw[<-d];exact((((af.at_ (by simp)).alloc _).alloc _).alloc _).alloc _
 have h7:af b (w.heap.size+1+1+1) 3 #[.int .i64 M]:=by rw[<-d];exact(((af.at_ (by simp)).alloc _).alloc _).alloc _
 have h8:af b (w.heap.size+1+1+1+1) 28 #[.string ⟨#[]⟩,.bool false,.slice none 0 0]:=by rw[<-d];exact((af.at_ (by simp)).alloc _).alloc _
 have W:af b (w.heap.size+1+1+1+1+1) 28 #[.string ⟨#[]⟩,.bool false,.slice none 0 0]:=by rw[<-d];exact(af.at_ (by simp)).alloc _
 have hF:af b (w.heap.size+1+1+1+1+1+1) 89 #[.func (.func 114) #[] #[.pointer (some ⟨w.heap.size,0,none⟩)],.func (.func 116) #[] #[.pointer (some ⟨w.heap.size+1,0,none⟩),.pointer (some ⟨w.heap.size+1+1,0,none⟩),.pointer (some ⟨w.heap.size+1+1+1,0,none⟩),.pointer (some ⟨w.heap.size+1+1+1+1+1,0,none⟩)],.func (.func 118) #[] #[.pointer (some ⟨w.heap.size,0,none⟩),.pointer (some ⟨w.heap.size+1+1+1+1+1,0,none⟩)]]:=by rw[<-d];exact af.at_ (by simp)
 have K:=S.below y S.pos;have N:=U.below (y.mono hB);have G:=za (Kt b (w.heap.size+1+1+1+1+1+1) #[.pointer (some ⟨w.heap.size,0,none⟩)] #[.pointer (some ⟨w.heap.size+1,0,none⟩),.pointer (some ⟨w.heap.size+1+1,0,none⟩),.pointer (some ⟨w.heap.size+1+1+1,0,none⟩),.pointer (some ⟨w.heap.size+1+1+1+1+1,0,none⟩)] #[.pointer (some ⟨w.heap.size,0,none⟩),.pointer (some ⟨w.heap.size+1+1+1+1+1,0,none⟩)] (Ew ty) (lU D M s) (ep ty (ja D M s)) (fun w'=>Below b.heap.size b w') (fun w'=>Kz w' (w.heap.size+1+1+1+1+1) b.heap.size (ja D M s)/\ae [w.heap.size+1+1+1+1+1] b w') (fun w'=>Kz w' (w.heap.size+1+1+1+1+1) b.heap.size (ja D M s)/\ae [w.heap.size+1+1+1+1+1] b w') hF
  (aa' ty B _ b o p n t3 L N (by omega) K)
  (fun _ l c=>(aba s D M _ _ _ _ l _ _ _ (h5.ah c (by omega)) (h6.ah c (by omega)) (h7.ah c (by omega)) (W.ah c (by omega)) hs).mono fun e w' ⟨m,⟨q,u,r,j,hi⟩,i⟩=>⟨m,⟨q,u,r,j,hi.eG (fun k _ j=>zz c.size j)⟩,((ae.ai c (ze _)).mono (by simp)).trans i⟩)
  (fun _ _ w2 ⟨hv,i⟩=>by
   obtain⟨q,u,r,j,hi⟩:=hv;have dZ:=i.size;refine(abb ty (ja D M s) w2.heap.size _ _ w2 o p n t3 q u r (L.only i (by simp<;>omega)) j ((N.below (i.below (by omega) (by simp<;>omega))).mono (by omega)) (hi.uL) (ze _) (K.only i (by simp<;>omega))).mono fun e w' ⟨m,H⟩=>⟨m,⟨q,u,r,j.ah H j.lt,hi.below H⟩,i.trans ((ae.ai H (ze _)).mono (by simp))⟩)
  (fun w' c=>hF.ah c (by omega)) (fun w' c=>hF.only c.2 (by simp)))
 have F:=za h8;have z:=za y;have Z:=za hz;have x:Hid (kr ty s D M=uR (Ew ty) (lU D M s) (ep ty (ja D M s))):=za (by
  unfold kr uR Ew;cases ty.may<;>simp)
 have C:Hid (qK ty s D M=if kr ty s D M≠0 then kG else ja D M s):=za rfl;have ID:=za d;obtain⟨A,cap,rfl,rfl,rfl,rfl,_⟩:=U.open_;have I:Hid (kr ty s D M=0->Ew ty=0/\lU D M s=0):=za (fun h=>by
  have c:=(pL ty s D M).1 h;exact⟨by unfold Ew;rw[c.1];rfl,c.2.1⟩)
 generalize kr ty s D M=E at*;generalize qK ty s D M=Y at*;generalize ja D M s=X at*;generalize ep ty X=E2 at*;generalize Ew ty=E0 at*;generalize lU D M s=E1 at*;clear L h5 h6 h7 h8 W hF y hz d U K N S;rcases eR E with⟨m,k1,k2⟩|⟨m,k1,k2⟩
 ·subst m;obtain⟨rfl,rfl⟩:=I.out rfl;obtain rfl:Y=X:=by have:=C.out;simpa using this
  go_enter func80,ntmps80
  go_wp2_with fail
  rw[ID.out];refine G.out.mono ?_;rintro e l ⟨rfl,hi⟩;have hi:Kz l (w.heap.size+1+1+1+1+1) b.heap.size Y/\ae [w.heap.size+1+1+1+1+1] b l:=by
   have:=hi;simpa[uS]using this
  rw[<-x.out];obtain⟨⟨q,u,r,j,J⟩,i⟩:=hi;obtain⟨A2,k3,rfl,rfl,rfl,_⟩:=J.open_;have R:=F.out.only i (by simp);obtain⟨p0,p1,p2,FA,Fy,Fz⟩:=bq R;obtain⟨g0,g1,g2,_⟩:=bq j;have H9:=za R;have Ll:=za J;have HO:=za i;clear G x I C R j J i;go_wp2;obtain⟨d0,d1,d2,_⟩:=bq (gZ H9.out (.string Y.text) (.bool Y.list) (.slice A2 Y.sub.length k3));refine zj (v:= .tuple #[.agg #[.string Y.text,.bool Y.list,.slice A2 Y.sub.length k3],.int .i64 0]) (by simp[results,results80,go_sem,d0,d1,d2]) rfl ?_;have hz:=Z.out;refine⟨(((z.out.trans (HO.out.below (by omega) (by simp<;>omega))).setCell (by simp<;>omega) _).setCell (by simp<;>omega) _).setCell (by simp<;>omega) _,_,_,_,rfl, ?_⟩;exact Ll.out.only ((((ae.refl [w.heap.size+1+1+1+1] l).setCell (by simp) _).setCell (by simp) _).setCell (by simp) _) (by simp<;>omega) (fun k _ h=>by omega)
 obtain rfl:Y=kG:=by have:=C.out;rwa [zg m]at this
 go_enter func80,ntmps80
 go_wp2_with fail
 rw[ID.out];refine G.out.mono ?_;rintro e l ⟨rfl,hi⟩;have O:Below w.heap.size w l/\af l (w.heap.size+1+1+1+1) 28 #[.string ⟨#[]⟩,.bool false,.slice none 0 0]:=by
  unfold uS at hi;have hz:=Z.out;split at hi
  ·exact⟨z.out.trans (hi.mono (by omega)),F.out.ah hi (by omega)⟩
  split at hi
  ·exact⟨z.out.trans (hi.2.below (by omega) (by simp<;>omega)),F.out.only hi.2 (by simp)⟩
  exact⟨z.out.trans (hi.2.below (by omega) (by simp<;>omega)),F.out.only hi.2 (by simp)⟩
 rw[<-x.out];obtain⟨p0,p1,p2,FA,Fy,Fz⟩:=bq O.2;have IL:=za O;clear hi G x I O C;go_wp2;obtain⟨d0,d1,d2,_⟩:=bq (gZ IL.out.2 (.string ⟨#[]⟩) (.bool false) (.slice none 0 0));refine zj (v:= .tuple #[.agg #[.string ⟨#[]⟩,.bool false,.slice none 0 0],.int .i64 E]) (by simp[results,results80,go_sem,d0,d1,d2]) rfl ?_;exact⟨((IL.out.1.setCell (by simp<;>omega) _).setCell (by simp<;>omega) _).setCell (by simp<;>omega) _,_,_,_,rfl,nH _ _⟩
