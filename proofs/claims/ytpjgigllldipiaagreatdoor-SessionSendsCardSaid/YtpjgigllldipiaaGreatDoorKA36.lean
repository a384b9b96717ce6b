/- tree.Put: its three checks, and it itself. -/
import Derived.Test.YtpjgigllldipiaaGreatDoorKA31
import Derived.Test.YtpjgigllldipiaaGreatDoorKA35
import Derived.Test.YtpjgigllldipiaaGreatDoorKA37
set_option linter.all false
set_option maxRecDepth 100000
set_option maxHeartbeats 2000000
namespace Go.Proofs.YtpjgigllldipiaaGreatDoor
open Go.RowKit
theorem WX (ty:Ty)(x:It)(B o p:Nat)(w:World)(d c i t3 k j h:Value)(n:af w o 64 #[d,c,i,t3])(m:af w p 28 #[k,j,h])(l:cw w B ty d c i t3)(b:bW w B x k j h)(u:B<=w.heap.size)(r:Laid w):
 Calls Tryz.prog 86 #[.pointer (some ⟨o,0,none⟩),.pointer (some ⟨p,0,none⟩)] w fun e w'=>e= .returned (.int .i64 (eI ty x))/\Below w.heap.size w w':=by
 have s:=za (IV ty x B w d c i t3 k j h l b u r);obtain⟨z,K,F,D,_⟩:=aL n;obtain⟨C,y,G⟩:=j7 m;obtain⟨A,cap,rfl,rfl,rfl,rfl,_⟩:=l.open_;obtain⟨I,H,rfl,rfl,rfl,_⟩:=b.open_;generalize eI ty x=E at*;clear l b n m;go_enter Tryz.func86,Tryz.ntmps86
 go_wp2_with fail
 refine s.out.mono ?_;rintro e J ⟨rfl,q⟩;go_wp2;go_ret;exact⟨rfl,q⟩
theorem WY (x:It)(D M:Int)(B m c b:Nat)(w:World)(j i h:Value)(k:af w m 28 #[j,i,h])(l:af w c 3 #[.int .i64 D])(n:af w b 3 #[.int .i64 M])(d:bW w B x j i h)(q:B<=w.heap.size):
 Calls Tryz.prog 88 #[.pointer (some ⟨m,0,none⟩),.pointer (some ⟨c,0,none⟩),.pointer (some ⟨b,0,none⟩)] w fun e w'=>e= .returned (.int .i64 (fI x D M))/\Below w.heap.size w w':=by
 have p:=za (WU x D M B w j i h d q);obtain⟨s,r,u⟩:=j7 k;have z:w.cell? ⟨c,0,none⟩=some (.int .i64 D):=l.cell 0;have F:w.cell? ⟨b,0,none⟩=some (.int .i64 M):=n.cell 0;obtain⟨A,y,rfl,rfl,rfl,_⟩:=d.open_;generalize fI x D M=E at*;clear d k l n;go_enter Tryz.func88,Tryz.ntmps88
 go_wp2_with fail
 refine p.out.mono ?_;rintro e C ⟨rfl,o⟩;go_wp2;go_ret;exact⟨rfl,o⟩
theorem WZ (x:It)(B q b:Nat)(w:World)(z m l j:Value)(n:af w q 28 #[m,l,j])(i:af w b 9 #[z])(h:bW w B x m l j)(y:B<=w.heap.size)(o:x.may=true)(p:x.fJ.length<=1099511627776):
 Calls Tryz.prog 90 #[.pointer (some ⟨q,0,none⟩),.pointer (some ⟨b,0,none⟩)] w fun e w'=>e= .returned (.int .i64 0)/\af w' b 9 #[.string ⟨x.fJ.toArray⟩]/\ae [b] w w':=by
 have u:=za (Qa x B w m l j h y o p);obtain⟨E,D,F⟩:=j7 n;obtain⟨I,G,rfl,rfl,rfl,_⟩:=h.open_;have A:=za i;have C:=i.lt;generalize (⟨x.fJ.toArray⟩:ByteArray)=S at*;clear h n p o i;go_enter Tryz.func90,Tryz.ntmps90
 go_wp2_with fail
 refine u.out.mono ?_;rintro e k ⟨rfl,d⟩;have c:=A.out.ag d C;have J:k.cell? ⟨b,0,none⟩=some z:=c.cell 0;have H:k.frozen? ⟨b,0,none⟩=false:=c.frozen 0;have r:=za c;have s:Hid (ae [b] w k):=za ((ae.ah d (zi _)).mono (by simp));clear c d;go_wp2;go_ret;exact⟨rfl,r.out.set 0 _,s.out.setCell (by simp) _⟩
theorem MU (ty:Ty)(x:It)(D M:Int)(B:Nat)(w:World)(q p r t3 m l j:Value)(G:cw w B ty q p r t3)(o:bW w B x m l j)(C:B<=w.heap.size)(L:Laid w)(O:x.fJ.length<=1099511627776):
 Calls Tryz.prog 58 #[.agg #[q,p,r,t3],.agg #[m,l,j],.int .i64 D,.int .i64 M] w fun e w'=>e= .returned (.tuple #[.string (if gI ty x D M=0 then⟨x.fJ.toArray⟩else⟨#[]⟩),.int .i64 (gI ty x D M)])/\Below w.heap.size w w':=by
 obtain⟨b,d⟩:∃b,((((((w.alloc (.cells #[q,p,r,t3] 64)).alloc (.cells #[m,l,j] 28)).alloc (.cells #[.int .i64 D] 3)).alloc (.cells #[.int .i64 M] 3)).alloc (.cells #[.string ⟨#[]⟩] 9)).alloc (.cells #[.func (.func 86) #[] #[.pointer (some ⟨w.heap.size,0,none⟩),.pointer (some ⟨w.heap.size+1,0,none⟩)],.func (.func 88) #[] #[.pointer (some ⟨w.heap.size+1,0,none⟩),.pointer (some ⟨w.heap.size+1+1,0,none⟩),.pointer (some ⟨w.heap.size+1+1+1,0,none⟩)],.func (.func 90) #[] #[.pointer (some ⟨w.heap.size+1,0,none⟩),.pointer (some ⟨w.heap.size+1+1+1+1,0,none⟩)]] 111))=b:=⟨_,rfl⟩
 have hz:b.heap.size=w.heap.size+6:=by rw[<-d];simp
 have i:Below w.heap.size w b:=by rw[<-d];exact bM
 have H:af b (w.heap.size) 64 #[q,p,r,t3]:=by rw[<-d];exact(((((af.at_ (by simp)).alloc _).alloc _).alloc _).alloc _).alloc _
 have u:af b (w.heap.size+1) 28 #[m,l,j]:=by rw[<-d];exact((((af.at_ (by simp)).alloc _).alloc _).alloc _).alloc _
 have J:af b (w.heap.size+1+1) 3 #[.int .i64 D]:=by rw[<-d];exact(((af.at_ (by simp)).alloc _).alloc _).alloc _
 have U:af b (w.heap.size+1+1+1) 3 #[.int .i64 M]:=by rw[<-d];exact((af.at_ (by simp)).alloc _).alloc _
 have K:af b (w.heap.size+1+1+1+1) 9 #[.string ⟨#[]⟩]:=by rw[<-d];exact(af.at_ (by simp)).alloc _
 have hF:af b (w.heap.size+1+1+1+1+1) 111 #[.func (.func 86) #[] #[.pointer (some ⟨w.heap.size,0,none⟩),.pointer (some ⟨w.heap.size+1,0,none⟩)],.func (.func 88) #[] #[.pointer (some ⟨w.heap.size+1,0,none⟩),.pointer (some ⟨w.heap.size+1+1,0,none⟩),.pointer (some ⟨w.heap.size+1+1+1,0,none⟩)],.func (.func 90) #[] #[.pointer (some ⟨w.heap.size+1,0,none⟩),.pointer (some ⟨w.heap.size+1+1+1+1,0,none⟩)]]:=by rw[<-d];exact af.at_ (by simp)
 have y:=za (IS b (w.heap.size+1+1+1+1+1) #[.pointer (some ⟨w.heap.size,0,none⟩),.pointer (some ⟨w.heap.size+1,0,none⟩)] #[.pointer (some ⟨w.heap.size+1,0,none⟩),.pointer (some ⟨w.heap.size+1+1,0,none⟩),.pointer (some ⟨w.heap.size+1+1+1,0,none⟩)] #[.pointer (some ⟨w.heap.size+1,0,none⟩),.pointer (some ⟨w.heap.size+1+1+1+1,0,none⟩)] (eI ty x) (fI x D M) 0 (fun w'=>Below b.heap.size b w') (fun w'=>Below b.heap.size b w') (fun w'=>af w' (w.heap.size+1+1+1+1) 9 #[.string ⟨x.fJ.toArray⟩]/\ae [w.heap.size+1+1+1+1] b w') hF
  (WX ty x B _ _ b q p r t3 m l j H u (G.below (i.mono C)) (o.below (i.mono C)) (by omega) (L.below i L.pos))
  (fun _ k c=>(WY x D M B _ _ _ k m l j (u.ag c (by omega)) (J.ag c (by omega)) (U.ag c (by omega)) ((o.below (i.mono C)).below (c.mono (by omega))) (by have:=c.size;omega)).mono fun e w' ⟨n,Y⟩=>⟨n,c.trans (Y.mono c.size)⟩)
  (fun X _ w2 h=>(WZ x B _ _ w2 _ m l j (u.ag h (by omega)) (K.ag h (by omega)) ((o.below (i.mono C)).below (h.mono (by omega))) (by have:=h.size;omega) ((BF ty x).1 X).2.1 O).mono fun e w' ⟨n,hk,ho⟩=>⟨n,hk,((ae.ah h (zi _)).mono (by simp)).trans ho⟩)
  (fun w' c=>hF.ag c (by omega)) (fun w' c=>hF.ag c (by omega)))
 have s:=za i;have I:=za hz;have z:Hid (gI ty x D M=tk (eI ty x) (fI x D M) 0):=za (by
  unfold gI tk;by_cases c:eI ty x≠0
  ·rw[zl c,zl c]
  rw[zj c,zj c];by_cases h:fI x D M≠0
  ·rw[zl h]
  rw[zj h];exact zJ.1 h)
 have R:=za d;obtain⟨A,cap,rfl,rfl,rfl,rfl,_⟩:=G.open_;obtain⟨A',aq,rfl,rfl,rfl,_⟩:=o.open_;have F:Hid (gI ty x D M=0->eI ty x=0/\fI x D M=0):=za (lB ty x D M).1;generalize gI ty x D M=E at*;generalize (⟨x.fJ.toArray⟩:ByteArray)=S at*;generalize eI ty x=E0 at*;generalize fI x D M=E1 at*;clear H u J U K hF i hz d G o O;rcases eH E with⟨n,k1,k2⟩|⟨n,k1,k2⟩
 ·subst n;obtain⟨rfl,rfl⟩:=F.out rfl;go_enter Tryz.func58,Tryz.ntmps58
  go_wp2_with fail
  rw[R.out];refine y.out.mono ?_;rintro e k ⟨rfl,hi⟩;have hi:af k (w.heap.size+1+1+1+1) 9 #[.string S]/\ae [w.heap.size+1+1+1+1] b k:=by
   have:=hi;simpa[tp]using this
  rw[<-z.out];have q1:k.cell? ⟨w.heap.size+1+1+1+1,0,none⟩=some (.string S):=hi.1.cell 0;have Z:=za hi.2;clear hi y z F;go_wp2;go_ret2
  refine⟨?_,s.out.trans (Z.out.below (by have:=I.out;omega) (by simp;omega))⟩;rfl
 go_enter Tryz.func58,Tryz.ntmps58
 go_wp2_with fail
 rw[R.out];refine y.out.mono ?_;rintro e k ⟨rfl,hi⟩;have N:Below w.heap.size w k:=by
  unfold tp at hi;have hz:=I.out;split at hi
  ·exact s.out.trans (hi.mono (by omega))
  split at hi
  ·exact s.out.trans (hi.mono (by omega))
  exact s.out.trans (hi.2.below (by omega) (by simp;omega))
 rw[<-z.out];have W:=za N;clear hi y z F N;go_wp2;go_ret2
 exact⟨rfl,W.out⟩
def C9 (ty:Ty):Int:=if ty.may=false then 1 else 0
theorem Xa (ty:Ty)(B n:Nat)(w:World)(i h b t3:Value)(j:af w n 64 #[i,h,b,t3])(d:cw w B ty i h b t3)(q:B<=w.heap.size)(p:Laid w):
 Calls Tryz.prog 92 #[.pointer (some ⟨n,0,none⟩)] w fun e w'=>e= .returned (.int .i64 (C9 ty))/\Below w.heap.size w w':=by
 have l:=za (kd ty B w i h b t3 d q p);obtain⟨s,x,r,u,_⟩:=aL j;obtain⟨A,cap,rfl,rfl,rfl,rfl,_⟩:=d.open_;have k:Hid (C9 ty=if ty.may=false then 1 else 0):=za rfl;generalize C9 ty=E at*;generalize ty.may=m at*;clear d j;cases m with
 |true=>
  obtain rfl:E=0:=k.out;go_enter Tryz.func92,Tryz.ntmps92
  go_wp2_with fail
  refine l.out.mono ?_;rintro e o ⟨rfl,c⟩;go_wp2;go_ret;exact⟨rfl,c⟩
 |false=>
  obtain rfl:E=1:=k.out;go_enter Tryz.func92,Tryz.ntmps92
  go_wp2_with fail
  refine l.out.mono ?_;rintro e o ⟨rfl,c⟩;go_wp2;go_ret;exact⟨rfl,c⟩
def IZ (w:World)(g S:Nat)(x:It):Prop:=∃c0 c1 c2,af w g 28 #[c0,c1,c2]/\fV w (S<= ·) x c0 c1 c2
theorem IZ.below {w w':World}{g S:Nat}{x:It}(h:IZ w g S x)(b:Below w.heap.size w w'):IZ w' g S x:=by
 obtain⟨i,e,j,c,d⟩:=h;exact⟨i,e,j,c.ag b c.lt,d.below b⟩
theorem Xb (s:ByteArray)(D M:Int)(n i d b:Nat)(w:World)(G F x:Value)(o:af w n 9 #[.string s])(p:af w i 3 #[.int .i64 D])(r:af w d 3 #[.int .i64 M])(l:af w b 28 #[G,F,x])(u:s.size<=4611686018427387904):
 Calls Tryz.prog 94 #[.pointer (some ⟨n,0,none⟩),.pointer (some ⟨i,0,none⟩),.pointer (some ⟨d,0,none⟩),.pointer (some ⟨b,0,none⟩)] w fun e w'=>e= .returned (.int .i64 (lA D M s))/\IZ w' b w.heap.size (iN D M s)/\ae [b] w w':=by
 have C:=za (Qb s D M w u);have O:w.cell? ⟨n,0,none⟩=some (.string s):=o.cell 0;have U:w.cell? ⟨i,0,none⟩=some (.int .i64 D):=p.cell 0;have Y:w.cell? ⟨d,0,none⟩=some (.int .i64 M):=r.cell 0;have I:=za l;have z:=l.lt;generalize lA D M s=E at*;generalize iN D M s=X at*;clear o p r l;go_enter Tryz.func94,Tryz.ntmps94
 go_wp2_with fail
 refine C.out.mono ?_;rintro e q ⟨c,Z,W,R,rfl,j⟩;obtain⟨A,k,rfl,rfl,rfl,_⟩:=j.open_;have m:=I.out.ag c z;obtain⟨L,K,N,J,DZ,S⟩:=a8 m;have y:=za m;have H:=za j;have B:Hid (ae [b] w q):=za ((ae.ah c (zi _)).mono (by simp));clear m c j;go_wp2;go_ret;refine⟨rfl,⟨_,_,_,dV y.out _ _ _, ?_⟩,((B.out.setCell (by simp) _).setCell (by simp) _).setCell (by simp) _⟩;exact H.out.only ((((ae.refl [b] q).setCell (by simp) _).setCell (by simp) _).setCell (by simp) _) (by simp<;>omega) (fun k _ h=>h)
theorem Xc (ty:Ty)(x:It)(B p m:Nat)(w:World)(d c i t3 k j h:Value)(n:af w p 64 #[d,c,i,t3])(o:af w m 28 #[k,j,h])(l:cw w B ty d c i t3)(b:bW w B x k j h)(u:B<=w.heap.size)(r:Laid w):
 Calls Tryz.prog 96 #[.pointer (some ⟨p,0,none⟩),.pointer (some ⟨m,0,none⟩)] w fun e w'=>e= .returned (.int .i64 (eI ty x))/\Below w.heap.size w w':=by
 have s:=za (IV ty x B w d c i t3 k j h l b u r);obtain⟨z,K,F,D,_⟩:=aL n;obtain⟨C,y,G⟩:=j7 o;obtain⟨A,cap,rfl,rfl,rfl,rfl,_⟩:=l.open_;obtain⟨I,H,rfl,rfl,rfl,_⟩:=b.open_;generalize eI ty x=E at*;clear l b n o;go_enter Tryz.func96,Tryz.ntmps96
 go_wp2_with fail
 refine s.out.mono ?_;rintro e J ⟨rfl,q⟩;go_wp2;go_ret;exact⟨rfl,q⟩
theorem MV (ty:Ty)(s:ByteArray)(D M:Int)(B:Nat)(w:World)(o n p t3:Value)(S:cw w B ty o n p t3)(hB:B<=w.heap.size)(L:Laid w)(hs:s.size<=4611686018427387904):
 Calls Tryz.prog 59 #[.agg #[o,n,p,t3],.string s,.int .i64 D,.int .i64 M] w fun e w'=>ve w w' (pQ ty s D M) (j5 ty s D M) e:=by
 obtain⟨b,d⟩:∃b,(((((((w.alloc (.cells #[o,n,p,t3] 64)).alloc (.cells #[.string s] 9)).alloc (.cells #[.int .i64 D] 3)).alloc (.cells #[.int .i64 M] 3)).alloc (.cells #[.string ⟨#[]⟩,.bool false,.slice none 0 0] 28)).alloc (.cells #[.string ⟨#[]⟩,.bool false,.slice none 0 0] 28)).alloc (.cells #[.func (.func 92) #[] #[.pointer (some ⟨w.heap.size,0,none⟩)],.func (.func 94) #[] #[.pointer (some ⟨w.heap.size+1,0,none⟩),.pointer (some ⟨w.heap.size+1+1,0,none⟩),.pointer (some ⟨w.heap.size+1+1+1,0,none⟩),.pointer (some ⟨w.heap.size+1+1+1+1+1,0,none⟩)],.func (.func 96) #[] #[.pointer (some ⟨w.heap.size,0,none⟩),.pointer (some ⟨w.heap.size+1+1+1+1+1,0,none⟩)]] 111))=b:=⟨_,rfl⟩
 have hz:b.heap.size=w.heap.size+7:=by rw[<-d];simp
 have x:Below w.heap.size w b:=by rw[<-d];exact bM
 have I:af b (w.heap.size) 64 #[o,n,p,t3]:=by rw[<-d];exact((((((af.at_ (by simp)).alloc _).alloc _).alloc _).alloc _).alloc _).alloc _
 have Z:af b (w.heap.size+1) 9 #[.string s]:=by rw[<-d];exact(((((af.at_ (by simp)).alloc _).alloc _).alloc _).alloc _).alloc _
 have h6:af b (w.heap.size+1+1) 3 #[.int .i64 D]:=by rw[<-d];exact((((af.at_ (by simp)).alloc _).alloc _).alloc _).alloc _
 have h7:af b (w.heap.size+1+1+1) 3 #[.int .i64 M]:=by rw[<-d];exact(((af.at_ (by simp)).alloc _).alloc _).alloc _
 have h8:af b (w.heap.size+1+1+1+1) 28 #[.string ⟨#[]⟩,.bool false,.slice none 0 0]:=by rw[<-d];exact((af.at_ (by simp)).alloc _).alloc _
 have wU:af b (w.heap.size+1+1+1+1+1) 28 #[.string ⟨#[]⟩,.bool false,.slice none 0 0]:=by rw[<-d];exact(af.at_ (by simp)).alloc _
 have hF:af b (w.heap.size+1+1+1+1+1+1) 111 #[.func (.func 92) #[] #[.pointer (some ⟨w.heap.size,0,none⟩)],.func (.func 94) #[] #[.pointer (some ⟨w.heap.size+1,0,none⟩),.pointer (some ⟨w.heap.size+1+1,0,none⟩),.pointer (some ⟨w.heap.size+1+1+1,0,none⟩),.pointer (some ⟨w.heap.size+1+1+1+1+1,0,none⟩)],.func (.func 96) #[] #[.pointer (some ⟨w.heap.size,0,none⟩),.pointer (some ⟨w.heap.size+1+1+1+1+1,0,none⟩)]]:=by rw[<-d];exact af.at_ (by simp)
 have O:=L.below x L.pos;have J:=S.below (x.mono hB);have F:=za (IU b (w.heap.size+1+1+1+1+1+1) #[.pointer (some ⟨w.heap.size,0,none⟩)] #[.pointer (some ⟨w.heap.size+1,0,none⟩),.pointer (some ⟨w.heap.size+1+1,0,none⟩),.pointer (some ⟨w.heap.size+1+1+1,0,none⟩),.pointer (some ⟨w.heap.size+1+1+1+1+1,0,none⟩)] #[.pointer (some ⟨w.heap.size,0,none⟩),.pointer (some ⟨w.heap.size+1+1+1+1+1,0,none⟩)] (C9 ty) (lA D M s) (eI ty (iN D M s)) (fun w'=>Below b.heap.size b w') (fun w'=>IZ w' (w.heap.size+1+1+1+1+1) b.heap.size (iN D M s)/\ae [w.heap.size+1+1+1+1+1] b w') (fun w'=>IZ w' (w.heap.size+1+1+1+1+1) b.heap.size (iN D M s)/\ae [w.heap.size+1+1+1+1+1] b w') hF
  (Xa ty B _ b o n p t3 I J (by omega) O)
  (fun _ l c=>(Xb s D M _ _ _ _ l _ _ _ (Z.ag c (by omega)) (h6.ag c (by omega)) (h7.ag c (by omega)) (wU.ag c (by omega)) hs).mono fun e w' ⟨m,⟨u,r,q,j,hi⟩,i⟩=>⟨m,⟨u,r,q,j,hi.fW (fun k _ j=>zP c.size j)⟩,((ae.ah c (zi _)).mono (by simp)).trans i⟩)
  (fun _ _ w2 ⟨hv,i⟩=>by
   obtain⟨u,r,q,j,hi⟩:=hv;have ej:=i.size;refine(Xc ty (iN D M s) w2.heap.size _ _ w2 o n p t3 u r q (I.only i (by simp<;>omega)) j ((J.below (i.below (by omega) (by simp<;>omega))).mono (by omega)) (hi.Aj) (zi _) (O.only i (by simp<;>omega))).mono fun e w' ⟨m,K⟩=>⟨m,⟨u,r,q,j.ag K j.lt,hi.below K⟩,i.trans ((ae.ah K (zi _)).mono (by simp))⟩)
  (fun w' c=>hF.ag c (by omega)) (fun w' c=>hF.only c.2 (by simp)))
 have C:=za h8;have y:=za x;have HZ:=za hz;have G:Hid (j5 ty s D M=tk (C9 ty) (lA D M s) (eI ty (iN D M s))):=za (by
  unfold j5 tk C9;cases ty.may<;>simp)
 have z:Hid (pQ ty s D M=if j5 ty s D M≠0 then i' else iN D M s):=za rfl;have Gp:=za d;obtain⟨A,cap,rfl,rfl,rfl,rfl,_⟩:=S.open_;have R:Hid (j5 ty s D M=0->C9 ty=0/\lA D M s=0):=za (fun h=>by
  have c:=(oK ty s D M).1 h;exact⟨by unfold C9;rw[c.1];rfl,c.2.1⟩)
 generalize j5 ty s D M=E at*;generalize pQ ty s D M=Y at*;generalize iN D M s=X at*;generalize eI ty X=E2 at*;generalize C9 ty=E0 at*;generalize lA D M s=E1 at*;clear I Z h6 h7 h8 wU hF x hz d S O J L;rcases eH E with⟨m,k1,k2⟩|⟨m,k1,k2⟩
 ·subst m;obtain⟨rfl,rfl⟩:=R.out rfl;obtain rfl:Y=X:=by have:=z.out;simpa using this
  go_enter Tryz.func59,Tryz.ntmps59
  go_wp2_with fail
  rw[Gp.out];refine F.out.mono ?_;rintro e l ⟨rfl,hi⟩;have hi:IZ l (w.heap.size+1+1+1+1+1) b.heap.size Y/\ae [w.heap.size+1+1+1+1+1] b l:=by
   have:=hi;simpa[tp]using this
  rw[<-G.out];obtain⟨⟨u,r,q,j,H⟩,i⟩:=hi;obtain⟨W,k3,rfl,rfl,rfl,_⟩:=H.open_;have U:=C.out.only i (by simp);obtain⟨p0,p1,p2,DY,DZ,D0⟩:=a8 U;obtain⟨g0,g1,g2,_⟩:=a8 j;have H9:=za U;have JB:=za H;have HO:=za i;clear F G R z U j H i;go_wp2;obtain⟨d0,d1,d2,_⟩:=a8 (dV H9.out (.string Y.text) (.bool Y.list) (.slice W Y.sub.length k3));refine zp (v:= .tuple #[.agg #[.string Y.text,.bool Y.list,.slice W Y.sub.length k3],.int .i64 0]) (by simp[results,Tryz.results59,go_sem,d0,d1,d2]) rfl ?_;have hz:=HZ.out;refine⟨(((y.out.trans (HO.out.below (by omega) (by simp<;>omega))).setCell (by simp<;>omega) _).setCell (by simp<;>omega) _).setCell (by simp<;>omega) _,_,_,_,rfl, ?_⟩;exact JB.out.only ((((ae.refl [w.heap.size+1+1+1+1] l).setCell (by simp) _).setCell (by simp) _).setCell (by simp) _) (by simp<;>omega) (fun k _ h=>by omega)
 obtain rfl:Y=i':=by have:=z.out;rwa [zl m]at this
 go_enter Tryz.func59,Tryz.ntmps59
 go_wp2_with fail
 rw[Gp.out];refine F.out.mono ?_;rintro e l ⟨rfl,hi⟩;have N:Below w.heap.size w l/\af l (w.heap.size+1+1+1+1) 28 #[.string ⟨#[]⟩,.bool false,.slice none 0 0]:=by
  unfold tp at hi;have hz:=HZ.out;split at hi
  ·exact⟨y.out.trans (hi.mono (by omega)),C.out.ag hi (by omega)⟩
  split at hi
  ·exact⟨y.out.trans (hi.2.below (by omega) (by simp<;>omega)),C.out.only hi.2 (by simp)⟩
  exact⟨y.out.trans (hi.2.below (by omega) (by simp<;>omega)),C.out.only hi.2 (by simp)⟩
 rw[<-G.out];obtain⟨p0,p1,p2,DY,DZ,D0⟩:=a8 N.2;have JI:=za N;clear hi F G R N z;go_wp2;obtain⟨d0,d1,d2,_⟩:=a8 (dV JI.out.2 (.string ⟨#[]⟩) (.bool false) (.slice none 0 0));refine zp (v:= .tuple #[.agg #[.string ⟨#[]⟩,.bool false,.slice none 0 0],.int .i64 E]) (by simp[results,Tryz.results59,go_sem,d0,d1,d2]) rfl ?_;exact⟨((JI.out.1.setCell (by simp<;>omega) _).setCell (by simp<;>omega) _).setCell (by simp<;>omega) _,_,_,_,rfl,mX _ _⟩
