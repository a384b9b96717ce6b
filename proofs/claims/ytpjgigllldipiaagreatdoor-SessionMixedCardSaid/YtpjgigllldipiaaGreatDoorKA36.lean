/- tree.Put: its three checks, and it itself. -/
import Derived.Test.YtpjgigllldipiaaGreatDoorKA31
import Derived.Test.YtpjgigllldipiaaGreatDoorKA35
import Derived.Test.YtpjgigllldipiaaGreatDoorKA38
set_option linter.all false
set_option maxRecDepth 100000
set_option maxHeartbeats 2000000
namespace Go.Proofs.YtpjgigllldipiaaGreatDoor
open Tryz
open Go.RowKit
theorem Wx (ty:Ty)(x:It)(B o p:Nat)(w:World)(i c d t3 j h k:Value)(m:af w o 64 #[i,c,d,t3])(n:af w p 28 #[j,h,k])(l:cx w B ty i c d t3)(b:bZ w B x j h k)(u:B<=w.heap.size)(s:Laid w):
 Calls prog 86 #[.pointer (some ⟨o,0,none⟩),.pointer (some ⟨p,0,none⟩)] w fun e w'=>e= .returned (.int .i64 (eB ty x))/\Below w.heap.size w w':=by
 have q:=za (ID ty x B w i c d t3 j h k l b u s);obtain⟨I,K,G,D,_⟩:=aO m;obtain⟨C,H,y⟩:=jY n;obtain⟨A,cap,rfl,rfl,rfl,rfl,_⟩:=l.open_;obtain⟨F,J,rfl,rfl,rfl,_⟩:=b.open_;generalize eB ty x=E at*;clear l b m n;go_enter func86,ntmps86
 go_wp2_with fail
 refine q.out.mono ?_;rintro e z ⟨rfl,r⟩;go_wp2;go_ret;exact⟨rfl,r⟩
theorem Wy (x:It)(D M:Int)(B n c i:Nat)(w:World)(h d j:Value)(l:af w n 28 #[h,d,j])(k:af w c 3 #[.int .i64 D])(m:af w i 3 #[.int .i64 M])(b:bZ w B x h d j)(q:B<=w.heap.size):
 Calls prog 88 #[.pointer (some ⟨n,0,none⟩),.pointer (some ⟨c,0,none⟩),.pointer (some ⟨i,0,none⟩)] w fun e w'=>e= .returned (.int .i64 (fz x D M))/\Below w.heap.size w w':=by
 have o:=za (Wu x D M B w h d j b q);obtain⟨y,A,s⟩:=jY l;have r:w.cell? ⟨c,0,none⟩=some (.int .i64 D):=k.cell 0;have C:w.cell? ⟨i,0,none⟩=some (.int .i64 M):=m.cell 0;obtain⟨z,F,rfl,rfl,rfl,_⟩:=b.open_;generalize fz x D M=E at*;clear b l k m;go_enter func88,ntmps88
 go_wp2_with fail
 refine o.out.mono ?_;rintro e u ⟨rfl,p⟩;go_wp2;go_ret;exact⟨rfl,p⟩
theorem Wz (x:It)(B q b:Nat)(w:World)(z l i m:Value)(n:af w q 28 #[l,i,m])(k:af w b 9 #[z])(d:bZ w B x l i m)(y:B<=w.heap.size)(p:x.may=true)(o:x.fA.length<=1099511627776):
 Calls prog 90 #[.pointer (some ⟨q,0,none⟩),.pointer (some ⟨b,0,none⟩)] w fun e w'=>e= .returned (.int .i64 0)/\af w' b 9 #[.string ⟨x.fA.toArray⟩]/\ae [b] w w':=by
 have r:=za (PQ x B w l i m d y p o);obtain⟨E,H,D⟩:=jY n;obtain⟨F,I,rfl,rfl,rfl,_⟩:=d.open_;have A:=za k;have C:=k.lt;generalize (⟨x.fA.toArray⟩:ByteArray)=S at*;clear d n o p k;go_enter func90,ntmps90
 go_wp2_with fail
 refine r.out.mono ?_;rintro e h ⟨rfl,j⟩;have c:=A.out.ah j C;have J:h.cell? ⟨b,0,none⟩=some z:=c.cell 0;have G:h.frozen? ⟨b,0,none⟩=false:=c.frozen 0;have s:=za c;have u:Hid (ae [b] w h):=za ((ae.ag j (zf _)).mono (by simp));clear c j;go_wp2;go_ret;exact⟨rfl,s.out.set 0 _,u.out.setCell (by simp) _⟩
theorem My (ty:Ty)(x:It)(D M:Int)(B:Nat)(w:World)(r p q t3 l j m:Value)(G:cx w B ty r p q t3)(o:bZ w B x l j m)(z:B<=w.heap.size)(U:Laid w)(L:x.fA.length<=1099511627776):
 Calls prog 58 #[.agg #[r,p,q,t3],.agg #[l,j,m],.int .i64 D,.int .i64 M] w fun e w'=>e= .returned (.tuple #[.string (if gE ty x D M=0 then⟨x.fA.toArray⟩else⟨#[]⟩),.int .i64 (gE ty x D M)])/\Below w.heap.size w w':=by
 obtain⟨b,d⟩:∃b,((((((w.alloc (.cells #[r,p,q,t3] 64)).alloc (.cells #[l,j,m] 28)).alloc (.cells #[.int .i64 D] 3)).alloc (.cells #[.int .i64 M] 3)).alloc (.cells #[.string ⟨#[]⟩] 9)).alloc (.cells #[.func (.func 86) #[] #[.pointer (some ⟨w.heap.size,0,none⟩),.pointer (some ⟨w.heap.size+1,0,none⟩)],.func (.func 88) #[] #[.pointer (some ⟨w.heap.size+1,0,none⟩),.pointer (some ⟨w.heap.size+1+1,0,none⟩),.pointer (some ⟨w.heap.size+1+1+1,0,none⟩)],.func (.func 90) #[] #[.pointer (some ⟨w.heap.size+1,0,none⟩),.pointer (some ⟨w.heap.size+1+1+1+1,0,none⟩)]] 111))=b:=⟨_,rfl⟩
 have hz:b.heap.size=w.heap.size+6:=by rw[<-d];simp
 have k:Below w.heap.size w b:=by rw[<-d];exact bN
 have I:af b (w.heap.size) 64 #[r,p,q,t3]:=by rw[<-d];exact(((((af.at_ (by simp)).alloc _).alloc _).alloc _).alloc _).alloc _
 have y:af b (w.heap.size+1) 28 #[l,j,m]:=by rw[<-d];exact((((af.at_ (by simp)).alloc _).alloc _).alloc _).alloc _
 have H:af b (w.heap.size+1+1) 3 #[.int .i64 D]:=by rw[<-d];exact(((af.at_ (by simp)).alloc _).alloc _).alloc _
 have N:af b (w.heap.size+1+1+1) 3 #[.int .i64 M]:=by rw[<-d];exact((af.at_ (by simp)).alloc _).alloc _
 have J:af b (w.heap.size+1+1+1+1) 9 #[.string ⟨#[]⟩]:=by rw[<-d];exact(af.at_ (by simp)).alloc _
 have hF:af b (w.heap.size+1+1+1+1+1) 111 #[.func (.func 86) #[] #[.pointer (some ⟨w.heap.size,0,none⟩),.pointer (some ⟨w.heap.size+1,0,none⟩)],.func (.func 88) #[] #[.pointer (some ⟨w.heap.size+1,0,none⟩),.pointer (some ⟨w.heap.size+1+1,0,none⟩),.pointer (some ⟨w.heap.size+1+1+1,0,none⟩)],.func (.func 90) #[] #[.pointer (some ⟨w.heap.size+1,0,none⟩),.pointer (some ⟨w.heap.size+1+1+1+1,0,none⟩)]]:=by rw[<-d];exact af.at_ (by simp)
 have u:=za (IB b (w.heap.size+1+1+1+1+1) #[.pointer (some ⟨w.heap.size,0,none⟩),.pointer (some ⟨w.heap.size+1,0,none⟩)] #[.pointer (some ⟨w.heap.size+1,0,none⟩),.pointer (some ⟨w.heap.size+1+1,0,none⟩),.pointer (some ⟨w.heap.size+1+1+1,0,none⟩)] #[.pointer (some ⟨w.heap.size+1,0,none⟩),.pointer (some ⟨w.heap.size+1+1+1+1,0,none⟩)] (eB ty x) (fz x D M) 0 (fun w'=>Below b.heap.size b w') (fun w'=>Below b.heap.size b w') (fun w'=>af w' (w.heap.size+1+1+1+1) 9 #[.string ⟨x.fA.toArray⟩]/\ae [w.heap.size+1+1+1+1] b w') hF
  (Wx ty x B _ _ b r p q t3 l j m I y (G.below (k.mono z)) (o.below (k.mono z)) (by omega) (U.below k U.pos))
  (fun _ i c=>(Wy x D M B _ _ _ i l j m (y.ah c (by omega)) (H.ah c (by omega)) (N.ah c (by omega)) ((o.below (k.mono z)).below (c.mono (by omega))) (by have:=c.size;omega)).mono fun e w' ⟨n,W⟩=>⟨n,c.trans (W.mono c.size)⟩)
  (fun hf _ w2 h=>(Wz x B _ _ w2 _ l j m (y.ah h (by omega)) (J.ah h (by omega)) ((o.below (k.mono z)).below (h.mono (by omega))) (by have:=h.size;omega) ((Bx ty x).1 hf).2.1 L).mono fun e w' ⟨n,Z,X⟩=>⟨n,Z,((ae.ag h (zf _)).mono (by simp)).trans X⟩)
  (fun w' c=>hF.ah c (by omega)) (fun w' c=>hF.ah c (by omega)))
 have C:=za k;have O:=za hz;have s:Hid (gE ty x D M=s6 (eB ty x) (fz x D M) 0):=za (by
  unfold gE s6;by_cases c:eB ty x≠0
  ·rw[zl c,zl c]
  rw[zj c,zj c];by_cases h:fz x D M≠0
  ·rw[zl h]
  rw[zj h];exact zJ.1 h)
 have K:=za d;obtain⟨A,cap,rfl,rfl,rfl,rfl,_⟩:=G.open_;obtain⟨A',aj,rfl,rfl,rfl,_⟩:=o.open_;have F:Hid (gE ty x D M=0->eB ty x=0/\fz x D M=0):=za (lr ty x D M).1;generalize gE ty x D M=E at*;generalize (⟨x.fA.toArray⟩:ByteArray)=S at*;generalize eB ty x=E0 at*;generalize fz x D M=E1 at*;clear I y H N J hF k hz d G o L;rcases eF E with⟨n,k1,k2⟩|⟨n,k1,k2⟩
 ·subst n;obtain⟨rfl,rfl⟩:=F.out rfl;go_enter func58,ntmps58
  go_wp2_with fail
  rw[K.out];refine u.out.mono ?_;rintro e i ⟨rfl,hi⟩;have hi:af i (w.heap.size+1+1+1+1) 9 #[.string S]/\ae [w.heap.size+1+1+1+1] b i:=by
   have:=hi;simpa[s7]using this
  rw[<-s.out];have q1:i.cell? ⟨w.heap.size+1+1+1+1,0,none⟩=some (.string S):=hi.1.cell 0;have HO:=za hi.2;clear hi u s F;go_wp2;go_ret2
  refine⟨?_,C.out.trans (HO.out.below (by have:=O.out;omega) (by simp;omega))⟩;rfl
 go_enter func58,ntmps58
 go_wp2_with fail
 rw[K.out];refine u.out.mono ?_;rintro e i ⟨rfl,hi⟩;have R:Below w.heap.size w i:=by
  unfold s7 at hi;have hz:=O.out;split at hi
  ·exact C.out.trans (hi.mono (by omega))
  split at hi
  ·exact C.out.trans (hi.mono (by omega))
  exact C.out.trans (hi.2.below (by omega) (by simp;omega))
 rw[<-s.out];have Y:=za R;clear hi u s F R;go_wp2;go_ret2
 exact⟨rfl,Y.out⟩
def C0 (ty:Ty):Int:=if ty.may=false then 1 else 0
theorem WA (ty:Ty)(B k:Nat)(w:World)(d h i t3:Value)(l:af w k 64 #[d,h,i,t3])(b:cx w B ty d h i t3)(q:B<=w.heap.size)(p:Laid w):
 Calls prog 92 #[.pointer (some ⟨k,0,none⟩)] w fun e w'=>e= .returned (.int .i64 (C0 ty))/\Below w.heap.size w w':=by
 have j:=za (j7 ty B w d h i t3 b q p);obtain⟨s,x,r,u,_⟩:=aO l;obtain⟨A,cap,rfl,rfl,rfl,rfl,_⟩:=b.open_;have n:Hid (C0 ty=if ty.may=false then 1 else 0):=za rfl;generalize C0 ty=E at*;generalize ty.may=m at*;clear b l;cases m with
 |true=>
  obtain rfl:E=0:=n.out;go_enter func92,ntmps92
  go_wp2_with fail
  refine j.out.mono ?_;rintro e o ⟨rfl,c⟩;go_wp2;go_ret;exact⟨rfl,c⟩
 |false=>
  obtain rfl:E=1:=n.out;go_enter func92,ntmps92
  go_wp2_with fail
  refine j.out.mono ?_;rintro e o ⟨rfl,c⟩;go_wp2;go_ret;exact⟨rfl,c⟩
def II (w:World)(g S:Nat)(x:It):Prop:=∃c0 c1 c2,af w g 28 #[c0,c1,c2]/\fO w (S<= ·) x c0 c1 c2
theorem II.below {w w':World}{g S:Nat}{x:It}(h:II w g S x)(b:Below w.heap.size w w'):II w' g S x:=by
 obtain⟨d,e,i,c,j⟩:=h;exact⟨d,e,i,c.ah b c.lt,j.below b⟩
theorem WB (s:ByteArray)(D M:Int)(m d l b:Nat)(w:World)(x G B:Value)(q:af w m 9 #[.string s])(p:af w d 3 #[.int .i64 D])(r:af w l 3 #[.int .i64 M])(j:af w b 28 #[x,G,B])(y:s.size<=4611686018427387904):
 Calls prog 94 #[.pointer (some ⟨m,0,none⟩),.pointer (some ⟨d,0,none⟩),.pointer (some ⟨l,0,none⟩),.pointer (some ⟨b,0,none⟩)] w fun e w'=>e= .returned (.int .i64 (lq D M s))/\II w' b w.heap.size (iG D M s)/\ae [b] w w':=by
 have u:=za (PR s D M w y);have R:w.cell? ⟨m,0,none⟩=some (.string s):=q.cell 0;have J:w.cell? ⟨d,0,none⟩=some (.int .i64 D):=p.cell 0;have Z:w.cell? ⟨l,0,none⟩=some (.int .i64 M):=r.cell 0;have H:=za j;have I:=j.lt;generalize lq D M s=E at*;generalize iG D M s=X at*;clear q p r j;go_enter func94,ntmps94
 go_wp2_with fail
 refine u.out.mono ?_;rintro e o ⟨i,S,N,c2,rfl,c⟩;obtain⟨A,k,rfl,rfl,rfl,_⟩:=c.open_;have n:=H.out.ah i I;obtain⟨L,Y,K,W,O,U⟩:=a8 n;have z:=za n;have F:=za c;have C:Hid (ae [b] w o):=za ((ae.ag i (zf _)).mono (by simp));clear n i c;go_wp2;go_ret;refine⟨rfl,⟨_,_,_,dP z.out _ _ _, ?_⟩,((C.out.setCell (by simp) _).setCell (by simp) _).setCell (by simp) _⟩;exact F.out.only ((((ae.refl [b] o).setCell (by simp) _).setCell (by simp) _).setCell (by simp) _) (by simp<;>omega) (fun k _ h=>h)
theorem WC (ty:Ty)(x:It)(B p m:Nat)(w:World)(i c d t3 j h k:Value)(n:af w p 64 #[i,c,d,t3])(o:af w m 28 #[j,h,k])(l:cx w B ty i c d t3)(b:bZ w B x j h k)(u:B<=w.heap.size)(s:Laid w):
 Calls prog 96 #[.pointer (some ⟨p,0,none⟩),.pointer (some ⟨m,0,none⟩)] w fun e w'=>e= .returned (.int .i64 (eB ty x))/\Below w.heap.size w w':=by
 have q:=za (ID ty x B w i c d t3 j h k l b u s);obtain⟨I,K,G,D,_⟩:=aO n;obtain⟨C,H,y⟩:=jY o;obtain⟨A,cap,rfl,rfl,rfl,rfl,_⟩:=l.open_;obtain⟨F,J,rfl,rfl,rfl,_⟩:=b.open_;generalize eB ty x=E at*;clear l b n o;go_enter func96,ntmps96
 go_wp2_with fail
 refine q.out.mono ?_;rintro e z ⟨rfl,r⟩;go_wp2;go_ret;exact⟨rfl,r⟩
theorem Mz (ty:Ty)(s:ByteArray)(D M:Int)(B:Nat)(w:World)(p n o t3:Value)(S:cx w B ty p n o t3)(hB:B<=w.heap.size)(U:Laid w)(hs:s.size<=4611686018427387904):
 Calls prog 59 #[.agg #[p,n,o,t3],.string s,.int .i64 D,.int .i64 M] w fun e w'=>uV w w' (pJ ty s D M) (jW ty s D M) e:=by
 obtain⟨b,i⟩:∃b,(((((((w.alloc (.cells #[p,n,o,t3] 64)).alloc (.cells #[.string s] 9)).alloc (.cells #[.int .i64 D] 3)).alloc (.cells #[.int .i64 M] 3)).alloc (.cells #[.string ⟨#[]⟩,.bool false,.slice none 0 0] 28)).alloc (.cells #[.string ⟨#[]⟩,.bool false,.slice none 0 0] 28)).alloc (.cells #[.func (.func 92) #[] #[.pointer (some ⟨w.heap.size,0,none⟩)],.func (.func 94) #[] #[.pointer (some ⟨w.heap.size+1,0,none⟩),.pointer (some ⟨w.heap.size+1+1,0,none⟩),.pointer (some ⟨w.heap.size+1+1+1,0,none⟩),.pointer (some ⟨w.heap.size+1+1+1+1+1,0,none⟩)],.func (.func 96) #[] #[.pointer (some ⟨w.heap.size,0,none⟩),.pointer (some ⟨w.heap.size+1+1+1+1+1,0,none⟩)]] 111))=b:=⟨_,rfl⟩
 have hz:b.heap.size=w.heap.size+7:=by rw[<-i];simp
 have C:Below w.heap.size w b:=by rw[<-i];exact bN
 have L:af b (w.heap.size) 64 #[p,n,o,t3]:=by rw[<-i];exact((((((af.at_ (by simp)).alloc _).alloc _).alloc _).alloc _).alloc _).alloc _
 have h5:af b (w.heap.size+1) 9 #[.string s]:=by rw[<-i];exact(((((af.at_ (by simp)).alloc _).alloc _).alloc _).alloc _).alloc _
 have W:af b (w.heap.size+1+1) 3 #[.int .i64 D]:=by rw[<-i];exact((((af.at_ (by simp)).alloc _).alloc _).alloc _).alloc _
 have h7:af b (w.heap.size+1+1+1) 3 #[.int .i64 M]:=by rw[<-i];exact(((af.at_ (by simp)).alloc _).alloc _).alloc _
 have h8:af b (w.heap.size+1+1+1+1) 28 #[.string ⟨#[]⟩,.bool false,.slice none 0 0]:=by rw[<-i];exact((af.at_ (by simp)).alloc _).alloc _
 have wG:af b (w.heap.size+1+1+1+1+1) 28 #[.string ⟨#[]⟩,.bool false,.slice none 0 0]:=by rw[<-i];exact(af.at_ (by simp)).alloc _
 have hF:af b (w.heap.size+1+1+1+1+1+1) 111 #[.func (.func 92) #[] #[.pointer (some ⟨w.heap.size,0,none⟩)],.func (.func 94) #[] #[.pointer (some ⟨w.heap.size+1,0,none⟩),.pointer (some ⟨w.heap.size+1+1,0,none⟩),.pointer (some ⟨w.heap.size+1+1+1,0,none⟩),.pointer (some ⟨w.heap.size+1+1+1+1+1,0,none⟩)],.func (.func 96) #[] #[.pointer (some ⟨w.heap.size,0,none⟩),.pointer (some ⟨w.heap.size+1+1+1+1+1,0,none⟩)]]:=by rw[<-i];exact af.at_ (by simp)
 have J:=U.below C U.pos;have K:=S.below (C.mono hB);have z:=za (IC b (w.heap.size+1+1+1+1+1+1) #[.pointer (some ⟨w.heap.size,0,none⟩)] #[.pointer (some ⟨w.heap.size+1,0,none⟩),.pointer (some ⟨w.heap.size+1+1,0,none⟩),.pointer (some ⟨w.heap.size+1+1+1,0,none⟩),.pointer (some ⟨w.heap.size+1+1+1+1+1,0,none⟩)] #[.pointer (some ⟨w.heap.size,0,none⟩),.pointer (some ⟨w.heap.size+1+1+1+1+1,0,none⟩)] (C0 ty) (lq D M s) (eB ty (iG D M s)) (fun w'=>Below b.heap.size b w') (fun w'=>II w' (w.heap.size+1+1+1+1+1) b.heap.size (iG D M s)/\ae [w.heap.size+1+1+1+1+1] b w') (fun w'=>II w' (w.heap.size+1+1+1+1+1) b.heap.size (iG D M s)/\ae [w.heap.size+1+1+1+1+1] b w') hF
  (WA ty B _ b p n o t3 L K (by omega) J)
  (fun _ l c=>(WB s D M _ _ _ _ l _ _ _ (h5.ah c (by omega)) (W.ah c (by omega)) (h7.ah c (by omega)) (wG.ah c (by omega)) hs).mono fun e w' ⟨m,⟨r,q,u,j,hi⟩,d⟩=>⟨m,⟨r,q,u,j,hi.gh (fun k _ j=>zK c.size j)⟩,((ae.ag c (zf _)).mono (by simp)).trans d⟩)
  (fun _ _ w2 ⟨hv,d⟩=>by
   obtain⟨r,q,u,j,hi⟩:=hv;have fC:=d.size;refine(WC ty (iG D M s) w2.heap.size _ _ w2 p n o t3 r q u (L.only d (by simp<;>omega)) j ((K.below (d.below (by omega) (by simp<;>omega))).mono (by omega)) (hi.wY) (zf _) (J.only d (by simp<;>omega))).mono fun e w' ⟨m,I⟩=>⟨m,⟨r,q,u,j.ah I j.lt,hi.below I⟩,d.trans ((ae.ag I (zf _)).mono (by simp))⟩)
  (fun w' c=>hF.ah c (by omega)) (fun w' c=>hF.only c.2 (by simp)))
 have x:=za h8;have G:=za C;have HZ:=za hz;have y:Hid (jW ty s D M=s6 (C0 ty) (lq D M s) (eB ty (iG D M s))):=za (by
  unfold jW s6 C0;cases ty.may<;>simp)
 have F:Hid (pJ ty s D M=if jW ty s D M≠0 then iU else iG D M s):=za rfl;have Gc:=za i;obtain⟨A,cap,rfl,rfl,rfl,rfl,_⟩:=S.open_;have N:Hid (jW ty s D M=0->C0 ty=0/\lq D M s=0):=za (fun h=>by
  have c:=(oG ty s D M).1 h;exact⟨by unfold C0;rw[c.1];rfl,c.2.1⟩)
 generalize jW ty s D M=E at*;generalize pJ ty s D M=Y at*;generalize iG D M s=X at*;generalize eB ty X=E2 at*;generalize C0 ty=E0 at*;generalize lq D M s=E1 at*;clear L h5 W h7 h8 wG hF C hz i S J K U;rcases eF E with⟨m,k1,k2⟩|⟨m,k1,k2⟩
 ·subst m;obtain⟨rfl,rfl⟩:=N.out rfl;obtain rfl:Y=X:=by have:=F.out;simpa using this
  go_enter func59,ntmps59
  go_wp2_with fail
  rw[Gc.out];refine z.out.mono ?_;rintro e l ⟨rfl,hi⟩;have hi:II l (w.heap.size+1+1+1+1+1) b.heap.size Y/\ae [w.heap.size+1+1+1+1+1] b l:=by
   have:=hi;simpa[s7]using this
  rw[<-y.out];obtain⟨⟨r,q,u,j,H⟩,d⟩:=hi;obtain⟨A2,k3,rfl,rfl,rfl,_⟩:=H.open_;have O:=x.out.only d (by simp);obtain⟨p0,p1,p2,DO,DP,DQ⟩:=a8 O;obtain⟨g0,g1,g2,_⟩:=a8 j;have H9:=za O;have GD:=za H;have HO:=za d;clear z y N F O j H d;go_wp2;obtain⟨d0,d1,d2,_⟩:=a8 (dP H9.out (.string Y.text) (.bool Y.list) (.slice A2 Y.sub.length k3));refine zo (v:= .tuple #[.agg #[.string Y.text,.bool Y.list,.slice A2 Y.sub.length k3],.int .i64 0]) (by simp[results,results59,go_sem,d0,d1,d2]) rfl ?_;have hz:=HZ.out;refine⟨(((G.out.trans (HO.out.below (by omega) (by simp<;>omega))).setCell (by simp<;>omega) _).setCell (by simp<;>omega) _).setCell (by simp<;>omega) _,_,_,_,rfl, ?_⟩;exact GD.out.only ((((ae.refl [w.heap.size+1+1+1+1] l).setCell (by simp) _).setCell (by simp) _).setCell (by simp) _) (by simp<;>omega) (fun k _ h=>by omega)
 obtain rfl:Y=iU:=by have:=F.out;rwa [zl m]at this
 go_enter func59,ntmps59
 go_wp2_with fail
 rw[Gc.out];refine z.out.mono ?_;rintro e l ⟨rfl,hi⟩;have R:Below w.heap.size w l/\af l (w.heap.size+1+1+1+1) 28 #[.string ⟨#[]⟩,.bool false,.slice none 0 0]:=by
  unfold s7 at hi;have hz:=HZ.out;split at hi
  ·exact⟨G.out.trans (hi.mono (by omega)),x.out.ah hi (by omega)⟩
  split at hi
  ·exact⟨G.out.trans (hi.2.below (by omega) (by simp<;>omega)),x.out.only hi.2 (by simp)⟩
  exact⟨G.out.trans (hi.2.below (by omega) (by simp<;>omega)),x.out.only hi.2 (by simp)⟩
 rw[<-y.out];obtain⟨p0,p1,p2,DO,DP,DQ⟩:=a8 R.2;have Z:=za R;clear hi z y N R F;go_wp2;obtain⟨d0,d1,d2,_⟩:=a8 (dP Z.out.2 (.string ⟨#[]⟩) (.bool false) (.slice none 0 0));refine zo (v:= .tuple #[.agg #[.string ⟨#[]⟩,.bool false,.slice none 0 0],.int .i64 E]) (by simp[results,results59,go_sem,d0,d1,d2]) rfl ?_;exact⟨((Z.out.1.setCell (by simp<;>omega) _).setCell (by simp<;>omega) _).setCell (by simp<;>omega) _,_,_,_,rfl,mS _ _⟩
