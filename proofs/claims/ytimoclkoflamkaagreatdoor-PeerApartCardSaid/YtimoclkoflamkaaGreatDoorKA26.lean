/- tree.Put: its three checks, and it itself. -/
import Derived.Test.YtimoclkoflamkaaGreatDoorKA20
import Derived.Test.YtimoclkoflamkaaGreatDoorKA25
import Derived.Test.YtimoclkoflamkaaGreatDoorKA27
set_option linter.all false
set_option maxRecDepth 100000
set_option maxHeartbeats 2000000
open Go.Proofs.Tryz
namespace Go.Proofs.YtimoclkoflamkaaGreatDoor
open Go.RowKit
theorem XL (ty:Ty)(x:It)(B m p:Nat)(w:World)(b k j t3 l i d:Value)(n:ag w m 70 #[b,k,j,t3])(o:ag w p 28 #[l,i,d])(h:cq w B ty b k j t3)(c:bI w B x l i d)(s:B<=w.heap.size)(q:Laid w):
 Calls prog 108 #[.pointer (some ⟨m,0,none⟩),.pointer (some ⟨p,0,none⟩)] w fun e w'=>e= .returned (.int .i64 (dZ ty x))/\Below w.heap.size w w':=by
 have r:=za (Jj ty x B w b k j t3 l i d h c s q);obtain⟨H,y,D,K,_⟩:=aU n;obtain⟨C,I,z⟩:=kf o;obtain⟨A,cap,rfl,rfl,rfl,rfl,_⟩:=h.open_;obtain⟨G,F,rfl,rfl,rfl,_⟩:=c.open_;generalize dZ ty x=E at*;clear h c n o;go_enter func108,ntmps108
 go_wp2_with fail
 refine r.out.mono ?_;rintro e J ⟨rfl,u⟩;go_wp2;go_ret;exact⟨rfl,u⟩
theorem XM (x:It)(D M:Int)(B n j i:Nat)(w:World)(h d c:Value)(l:ag w n 28 #[h,d,c])(k:ag w j 3 #[.int .i64 D])(m:ag w i 3 #[.int .i64 M])(b:bI w B x h d c)(p:B<=w.heap.size):
 Calls prog 110 #[.pointer (some ⟨n,0,none⟩),.pointer (some ⟨j,0,none⟩),.pointer (some ⟨i,0,none⟩)] w fun e w'=>e= .returned (.int .i64 (fM x D M))/\Below w.heap.size w w':=by
 have o:=za (XF x D M B w h d c b p);obtain⟨s,A,r⟩:=kf l;have F:w.cell? ⟨j,0,none⟩=some (.int .i64 D):=k.cell 0;have y:w.cell? ⟨i,0,none⟩=some (.int .i64 M):=m.cell 0;obtain⟨z,u,rfl,rfl,rfl,_⟩:=b.open_;generalize fM x D M=E at*;clear b l k m;go_enter func110,ntmps110
 go_wp2_with fail
 refine o.out.mono ?_;rintro e C ⟨rfl,q⟩;go_wp2;go_ret;exact⟨rfl,q⟩
theorem XN (x:It)(B q b:Nat)(w:World)(z k i h:Value)(o:ag w q 28 #[k,i,h])(j:ag w b 9 #[z])(d:bI w B x k i h)(u:B<=w.heap.size)(p:x.may=true)(n:x.fy.length<=1099511627776):
 Calls prog 112 #[.pointer (some ⟨q,0,none⟩),.pointer (some ⟨b,0,none⟩)] w fun e w'=>e= .returned (.int .i64 0)/\ag w' b 9 #[.string ⟨x.fy.toArray⟩]/\ae [b] w w':=by
 have s:=za (QA x B w k i h d u p n);obtain⟨F,J,E⟩:=kf o;obtain⟨I,H,rfl,rfl,rfl,_⟩:=d.open_;have y:=za j;have A:=j.lt;generalize (⟨x.fy.toArray⟩:ByteArray)=S at*;clear d o n p j;go_enter func112,ntmps112
 go_wp2_with fail
 refine s.out.mono ?_;rintro e m ⟨rfl,l⟩;have c:=y.out.ah l A;have D:m.cell? ⟨b,0,none⟩=some z:=c.cell 0;have G:m.frozen? ⟨b,0,none⟩=false:=c.frozen 0;have r:=za c;have C:Hid (ae [b] w m):=za ((ae.ai l (zd _)).mono (by simp));clear c l;go_wp2;go_ret;exact⟨rfl,r.out.set 0 _,C.out.setCell (by simp) _⟩
theorem Ni (ty:Ty)(x:It)(D M:Int)(B:Nat)(w:World)(o r q t3 k j i:Value)(G:cq w B ty o r q t3)(p:bI w B x k j i)(C:B<=w.heap.size)(I:Laid w)(K:x.fy.length<=1099511627776):
 Calls prog 79 #[.agg #[o,r,q,t3],.agg #[k,j,i],.int .i64 D,.int .i64 M] w fun e w'=>e= .returned (.tuple #[.string (if gq ty x D M=0 then⟨x.fy.toArray⟩else⟨#[]⟩),.int .i64 (gq ty x D M)])/\Below w.heap.size w w':=by
 obtain⟨b,d⟩:∃b,((((((w.alloc (.cells #[o,r,q,t3] 70)).alloc (.cells #[k,j,i] 28)).alloc (.cells #[.int .i64 D] 3)).alloc (.cells #[.int .i64 M] 3)).alloc (.cells #[.string ⟨#[]⟩] 9)).alloc (.cells #[.func (.func 108) #[] #[.pointer (some ⟨w.heap.size,0,none⟩),.pointer (some ⟨w.heap.size+1,0,none⟩)],.func (.func 110) #[] #[.pointer (some ⟨w.heap.size+1,0,none⟩),.pointer (some ⟨w.heap.size+1+1,0,none⟩),.pointer (some ⟨w.heap.size+1+1+1,0,none⟩)],.func (.func 112) #[] #[.pointer (some ⟨w.heap.size+1,0,none⟩),.pointer (some ⟨w.heap.size+1+1+1+1,0,none⟩)]] 89))=b:=⟨_,rfl⟩
 have hz:b.heap.size=w.heap.size+6:=by rw[<-d];simp
 have l:Below w.heap.size w b:=by rw[<-d];exact bO
 have J:ag b (w.heap.size) 70 #[o,r,q,t3]:=by rw[<-d];exact(((((ag.at_ (by simp)).alloc _).alloc _).alloc _).alloc _).alloc _
 have y:ag b (w.heap.size+1) 28 #[k,j,i]:=by rw[<-d];exact((((ag.at_ (by simp)).alloc _).alloc _).alloc _).alloc _
 have H:ag b (w.heap.size+1+1) 3 #[.int .i64 D]:=by rw[<-d];exact(((ag.at_ (by simp)).alloc _).alloc _).alloc _
 have L:ag b (w.heap.size+1+1+1) 3 #[.int .i64 M]:=by rw[<-d];exact((ag.at_ (by simp)).alloc _).alloc _
 have N:ag b (w.heap.size+1+1+1+1) 9 #[.string ⟨#[]⟩]:=by rw[<-d];exact(ag.at_ (by simp)).alloc _
 have hF:ag b (w.heap.size+1+1+1+1+1) 89 #[.func (.func 108) #[] #[.pointer (some ⟨w.heap.size,0,none⟩),.pointer (some ⟨w.heap.size+1,0,none⟩)],.func (.func 110) #[] #[.pointer (some ⟨w.heap.size+1,0,none⟩),.pointer (some ⟨w.heap.size+1+1,0,none⟩),.pointer (some ⟨w.heap.size+1+1+1,0,none⟩)],.func (.func 112) #[] #[.pointer (some ⟨w.heap.size+1,0,none⟩),.pointer (some ⟨w.heap.size+1+1+1+1,0,none⟩)]]:=by rw[<-d];exact ag.at_ (by simp)
 have s:=za (Jg b (w.heap.size+1+1+1+1+1) #[.pointer (some ⟨w.heap.size,0,none⟩),.pointer (some ⟨w.heap.size+1,0,none⟩)] #[.pointer (some ⟨w.heap.size+1,0,none⟩),.pointer (some ⟨w.heap.size+1+1,0,none⟩),.pointer (some ⟨w.heap.size+1+1+1,0,none⟩)] #[.pointer (some ⟨w.heap.size+1,0,none⟩),.pointer (some ⟨w.heap.size+1+1+1+1,0,none⟩)] (dZ ty x) (fM x D M) 0 (fun w'=>Below b.heap.size b w') (fun w'=>Below b.heap.size b w') (fun w'=>ag w' (w.heap.size+1+1+1+1) 9 #[.string ⟨x.fy.toArray⟩]/\ae [w.heap.size+1+1+1+1] b w') hF
  (XL ty x B _ _ b o r q t3 k j i J y (G.below (l.mono C)) (p.below (l.mono C)) (by omega) (I.below l I.pos))
  (fun _ m c=>(XM x D M B _ _ _ m k j i (y.ah c (by omega)) (H.ah c (by omega)) (L.ah c (by omega)) ((p.below (l.mono C)).below (c.mono (by omega))) (by have:=c.size;omega)).mono fun e w' ⟨n,rh⟩=>⟨n,c.trans (rh.mono c.size)⟩)
  (fun Y _ X h=>(XN x B _ _ X _ k j i (y.ah h (by omega)) (N.ah h (by omega)) ((p.below (l.mono C)).below (h.mono (by omega))) (by have:=h.size;omega) ((rK ty x).1 Y).2.1 K).mono fun e w' ⟨n,Z,W⟩=>⟨n,Z,((ae.ai h (zd _)).mono (by simp)).trans W⟩)
  (fun w' c=>hF.ah c (by omega)) (fun w' c=>hF.ah c (by omega)))
 have z:=za l;have U:=za hz;have u:Hid (gq ty x D M=tO (dZ ty x) (fM x D M) 0):=za (by
  unfold gq tO;by_cases c:dZ ty x≠0
  ·rw[zj c,zj c]
  rw[zi c,zi c];by_cases h:fM x D M≠0
  ·rw[zj h]
  rw[zi h];exact zE.1 h)
 have R:=za d;obtain⟨A,cap,rfl,rfl,rfl,rfl,_⟩:=G.open_;obtain⟨A',an,rfl,rfl,rfl,_⟩:=p.open_;have F:Hid (gq ty x D M=0->dZ ty x=0/\fM x D M=0):=za (lK ty x D M).1;generalize gq ty x D M=E at*;generalize (⟨x.fy.toArray⟩:ByteArray)=S at*;generalize dZ ty x=E0 at*;generalize fM x D M=E1 at*;clear J y H L N hF l hz d G p K;rcases eN E with⟨n,k1,k2⟩|⟨n,k1,k2⟩
 ·subst n;obtain⟨rfl,rfl⟩:=F.out rfl;go_enter func79,ntmps79
  go_wp2_with fail
  rw[R.out];refine s.out.mono ?_;rintro e m ⟨rfl,hi⟩;have hi:ag m (w.heap.size+1+1+1+1) 9 #[.string S]/\ae [w.heap.size+1+1+1+1] b m:=by
   have:=hi;simpa[tP]using this
  rw[<-u.out];have q1:m.cell? ⟨w.heap.size+1+1+1+1,0,none⟩=some (.string S):=hi.1.cell 0;have HO:=za hi.2;clear hi s u F;go_wp2;go_ret2
  refine⟨?_,z.out.trans (HO.out.below (by have:=U.out;omega) (by simp;omega))⟩;rfl
 go_enter func79,ntmps79
 go_wp2_with fail
 rw[R.out];refine s.out.mono ?_;rintro e m ⟨rfl,hi⟩;have O:Below w.heap.size w m:=by
  unfold tP at hi;have hz:=U.out;split at hi
  ·exact z.out.trans (hi.mono (by omega))
  split at hi
  ·exact z.out.trans (hi.mono (by omega))
  exact z.out.trans (hi.2.below (by omega) (by simp;omega))
 rw[<-u.out];have R4:=za O;clear hi s u F O;go_wp2;go_ret2
 exact⟨rfl,R4.out⟩
def Dq (ty:Ty):Int:=if ty.may=false then 1 else 0
theorem XO (ty:Ty)(B j:Nat)(w:World)(c h i t3:Value)(n:ag w j 70 #[c,h,i,t3])(d:cq w B ty c h i t3)(q:B<=w.heap.size)(o:Laid w):
 Calls prog 114 #[.pointer (some ⟨j,0,none⟩)] w fun e w'=>e= .returned (.int .i64 (Dq ty))/\Below w.heap.size w w':=by
 have k:=za (ko ty B w c h i t3 d q o);obtain⟨u,s,r,x,_⟩:=aU n;obtain⟨A,cap,rfl,rfl,rfl,rfl,_⟩:=d.open_;have l:Hid (Dq ty=if ty.may=false then 1 else 0):=za rfl;generalize Dq ty=E at*;generalize ty.may=m at*;clear d n;cases m with
 |true=>
  obtain rfl:E=0:=l.out;go_enter func114,ntmps114
  go_wp2_with fail
  refine k.out.mono ?_;rintro e p ⟨rfl,b⟩;go_wp2;go_ret;exact⟨rfl,b⟩
 |false=>
  obtain rfl:E=1:=l.out;go_enter func114,ntmps114
  go_wp2_with fail
  refine k.out.mono ?_;rintro e p ⟨rfl,b⟩;go_wp2;go_ret;exact⟨rfl,b⟩
def Jn (w:World)(g S:Nat)(x:It):Prop:=∃c0 c1 c2,ag w g 28 #[c0,c1,c2]/\fR w (S<= ·) x c0 c1 c2
theorem Jn.below {w w':World}{g S:Nat}{x:It}(h:Jn w g S x)(b:Below w.heap.size w w'):Jn w' g S x:=by
 obtain⟨e,j,i,c,d⟩:=h;exact⟨e,j,i,c.ah b c.lt,d.below b⟩
theorem XP (s:ByteArray)(D M:Int)(l n m b:Nat)(w:World)(z u F:Value)(p:ag w l 9 #[.string s])(o:ag w n 3 #[.int .i64 D])(q:ag w m 3 #[.int .i64 M])(i:ag w b 28 #[z,u,F])(C:s.size<=4611686018427387904):
 Calls prog 116 #[.pointer (some ⟨l,0,none⟩),.pointer (some ⟨n,0,none⟩),.pointer (some ⟨m,0,none⟩),.pointer (some ⟨b,0,none⟩)] w fun e w'=>e= .returned (.int .i64 (lJ D M s))/\Jn w' b w.heap.size (iT D M s)/\ae [b] w w':=by
 have B:=za (QB s D M w C);have Y:w.cell? ⟨l,0,none⟩=some (.string s):=p.cell 0;have q6:w.cell? ⟨n,0,none⟩=some (.int .i64 D):=o.cell 0;have R:w.cell? ⟨m,0,none⟩=some (.int .i64 M):=q.cell 0;have G:=za i;have H:=i.lt;generalize lJ D M s=E at*;generalize iT D M s=X at*;clear p o q i;go_enter func116,ntmps116
 go_wp2_with fail
 refine B.out.mono ?_;rintro e r ⟨j,W,S,N,rfl,c⟩;obtain⟨A,k,rfl,rfl,rfl,_⟩:=c.open_;have d:=G.out.ah j H;obtain⟨K,Z,J,U,O,L⟩:=bp d;have x:=za d;have y:=za c;have I:Hid (ae [b] w r):=za ((ae.ai j (zd _)).mono (by simp));clear d j c;go_wp2;go_ret;refine⟨rfl,⟨_,_,_,gS x.out _ _ _, ?_⟩,((I.out.setCell (by simp) _).setCell (by simp) _).setCell (by simp) _⟩;exact y.out.only ((((ae.refl [b] r).setCell (by simp) _).setCell (by simp) _).setCell (by simp) _) (by simp<;>omega) (fun k _ h=>h)
theorem XQ (ty:Ty)(x:It)(B m p:Nat)(w:World)(b k j t3 l i d:Value)(n:ag w m 70 #[b,k,j,t3])(o:ag w p 28 #[l,i,d])(h:cq w B ty b k j t3)(c:bI w B x l i d)(s:B<=w.heap.size)(q:Laid w):
 Calls prog 118 #[.pointer (some ⟨m,0,none⟩),.pointer (some ⟨p,0,none⟩)] w fun e w'=>e= .returned (.int .i64 (dZ ty x))/\Below w.heap.size w w':=by
 have r:=za (Jj ty x B w b k j t3 l i d h c s q);obtain⟨H,y,D,K,_⟩:=aU n;obtain⟨C,I,z⟩:=kf o;obtain⟨A,cap,rfl,rfl,rfl,rfl,_⟩:=h.open_;obtain⟨G,F,rfl,rfl,rfl,_⟩:=c.open_;generalize dZ ty x=E at*;clear h c n o;go_enter func118,ntmps118
 go_wp2_with fail
 refine r.out.mono ?_;rintro e J ⟨rfl,u⟩;go_wp2;go_ret;exact⟨rfl,u⟩
theorem Nj (ty:Ty)(s:ByteArray)(D M:Int)(B:Nat)(w:World)(n p o t3:Value)(N:cq w B ty n p o t3)(hB:B<=w.heap.size)(H:Laid w)(hs:s.size<=4611686018427387904):
 Calls prog 80 #[.agg #[n,p,o,t3],.string s,.int .i64 D,.int .i64 M] w fun e w'=>vI w w' (qj ty s D M) (kb ty s D M) e:=by
 obtain⟨b,i⟩:∃b,(((((((w.alloc (.cells #[n,p,o,t3] 70)).alloc (.cells #[.string s] 9)).alloc (.cells #[.int .i64 D] 3)).alloc (.cells #[.int .i64 M] 3)).alloc (.cells #[.string ⟨#[]⟩,.bool false,.slice none 0 0] 28)).alloc (.cells #[.string ⟨#[]⟩,.bool false,.slice none 0 0] 28)).alloc (.cells #[.func (.func 114) #[] #[.pointer (some ⟨w.heap.size,0,none⟩)],.func (.func 116) #[] #[.pointer (some ⟨w.heap.size+1,0,none⟩),.pointer (some ⟨w.heap.size+1+1,0,none⟩),.pointer (some ⟨w.heap.size+1+1+1,0,none⟩),.pointer (some ⟨w.heap.size+1+1+1+1+1,0,none⟩)],.func (.func 118) #[] #[.pointer (some ⟨w.heap.size,0,none⟩),.pointer (some ⟨w.heap.size+1+1+1+1+1,0,none⟩)]] 89))=b:=⟨_,rfl⟩
 have hz:b.heap.size=w.heap.size+7:=by rw[<-i];simp
 have F:Below w.heap.size w b:=by rw[<-i];exact bO
 have J:ag b (w.heap.size) 70 #[n,p,o,t3]:=by rw[<-i];exact((((((ag.at_ (by simp)).alloc _).alloc _).alloc _).alloc _).alloc _).alloc _
 have h5:ag b (w.heap.size+1) 9 #[.string s]:=by rw[<-i];exact(((((ag.at_ (by simp)).alloc _).alloc _).alloc _).alloc _).alloc _
 have W:ag b (w.heap.size+1+1) 3 #[.int .i64 D]:=by rw[<-i];exact((((ag.at_ (by simp)).alloc _).alloc _).alloc _).alloc _
 have h7:ag b (w.heap.size+1+1+1) 3 #[.int .i64 M]:=by rw[<-i];exact(((ag.at_ (by simp)).alloc _).alloc _).alloc _
 have h8:ag b (w.heap.size+1+1+1+1) 28 #[.string ⟨#[]⟩,.bool false,.slice none 0 0]:=by rw[<-i];exact((ag.at_ (by simp)).alloc _).alloc _
 have uD:ag b (w.heap.size+1+1+1+1+1) 28 #[.string ⟨#[]⟩,.bool false,.slice none 0 0]:=by rw[<-i];exact(ag.at_ (by simp)).alloc _
 have hF:ag b (w.heap.size+1+1+1+1+1+1) 89 #[.func (.func 114) #[] #[.pointer (some ⟨w.heap.size,0,none⟩)],.func (.func 116) #[] #[.pointer (some ⟨w.heap.size+1,0,none⟩),.pointer (some ⟨w.heap.size+1+1,0,none⟩),.pointer (some ⟨w.heap.size+1+1+1,0,none⟩),.pointer (some ⟨w.heap.size+1+1+1+1+1,0,none⟩)],.func (.func 118) #[] #[.pointer (some ⟨w.heap.size,0,none⟩),.pointer (some ⟨w.heap.size+1+1+1+1+1,0,none⟩)]]:=by rw[<-i];exact ag.at_ (by simp)
 have O:=H.below F H.pos;have L:=N.below (F.mono hB);have x:=za (Jh b (w.heap.size+1+1+1+1+1+1) #[.pointer (some ⟨w.heap.size,0,none⟩)] #[.pointer (some ⟨w.heap.size+1,0,none⟩),.pointer (some ⟨w.heap.size+1+1,0,none⟩),.pointer (some ⟨w.heap.size+1+1+1,0,none⟩),.pointer (some ⟨w.heap.size+1+1+1+1+1,0,none⟩)] #[.pointer (some ⟨w.heap.size,0,none⟩),.pointer (some ⟨w.heap.size+1+1+1+1+1,0,none⟩)] (Dq ty) (lJ D M s) (dZ ty (iT D M s)) (fun w'=>Below b.heap.size b w') (fun w'=>Jn w' (w.heap.size+1+1+1+1+1) b.heap.size (iT D M s)/\ae [w.heap.size+1+1+1+1+1] b w') (fun w'=>Jn w' (w.heap.size+1+1+1+1+1) b.heap.size (iT D M s)/\ae [w.heap.size+1+1+1+1+1] b w') hF
  (XO ty B _ b n p o t3 J L (by omega) O)
  (fun _ l c=>(XP s D M _ _ _ _ l _ _ _ (h5.ah c (by omega)) (W.ah c (by omega)) (h7.ah c (by omega)) (uD.ah c (by omega)) hs).mono fun e w' ⟨m,⟨u,r,q,j,hi⟩,d⟩=>⟨m,⟨u,r,q,j,hi.ef (fun k _ j=>zG c.size j)⟩,((ae.ai c (zd _)).mono (by simp)).trans d⟩)
  (fun _ _ Z ⟨hv,d⟩=>by
   obtain⟨u,r,q,j,hi⟩:=hv;have fa:=d.size;refine(XQ ty (iT D M s) Z.heap.size _ _ Z n p o t3 u r q (J.only d (by simp<;>omega)) j ((L.below (d.below (by omega) (by simp<;>omega))).mono (by omega)) (hi.tJ) (zd _) (O.only d (by simp<;>omega))).mono fun e w' ⟨m,U⟩=>⟨m,⟨u,r,q,j.ah U j.lt,hi.below U⟩,d.trans ((ae.ai U (zd _)).mono (by simp))⟩)
  (fun w' c=>hF.ah c (by omega)) (fun w' c=>hF.only c.2 (by simp)))
 have C:=za h8;have z:=za F;have HZ:=za hz;have y:Hid (kb ty s D M=tO (Dq ty) (lJ D M s) (dZ ty (iT D M s))):=za (by
  unfold kb tO Dq;cases ty.may<;>simp)
 have G:Hid (qj ty s D M=if kb ty s D M≠0 then kx else iT D M s):=za rfl;have GH:=za i;obtain⟨A,cap,rfl,rfl,rfl,rfl,_⟩:=N.open_;have I:Hid (kb ty s D M=0->Dq ty=0/\lJ D M s=0):=za (fun h=>by
  have c:=(pa ty s D M).1 h;exact⟨by unfold Dq;rw[c.1];rfl,c.2.1⟩)
 generalize kb ty s D M=E at*;generalize qj ty s D M=Y at*;generalize iT D M s=X at*;generalize dZ ty X=E2 at*;generalize Dq ty=E0 at*;generalize lJ D M s=E1 at*;clear J h5 W h7 h8 uD hF F hz i N O L H;rcases eN E with⟨m,k1,k2⟩|⟨m,k1,k2⟩
 ·subst m;obtain⟨rfl,rfl⟩:=I.out rfl;obtain rfl:Y=X:=by have:=G.out;simpa using this
  go_enter func80,ntmps80
  go_wp2_with fail
  rw[GH.out];refine x.out.mono ?_;rintro e l ⟨rfl,hi⟩;have hi:Jn l (w.heap.size+1+1+1+1+1) b.heap.size Y/\ae [w.heap.size+1+1+1+1+1] b l:=by
   have:=hi;simpa[tP]using this
  rw[<-y.out];obtain⟨⟨u,r,q,j,K⟩,d⟩:=hi;obtain⟨A2,k3,rfl,rfl,rfl,_⟩:=K.open_;have S:=C.out.only d (by simp);obtain⟨p0,p1,p2,Ej,Ei,Eh⟩:=bp S;obtain⟨g0,g1,g2,_⟩:=bp j;have H9:=za S;have JW:=za K;have HO:=za d;clear x y I G S j K d;go_wp2;obtain⟨d0,d1,d2,_⟩:=bp (gS H9.out (.string Y.text) (.bool Y.list) (.slice A2 Y.sub.length k3));refine zl (v:= .tuple #[.agg #[.string Y.text,.bool Y.list,.slice A2 Y.sub.length k3],.int .i64 0]) (by simp[results,results80,go_sem,d0,d1,d2]) rfl ?_;have hz:=HZ.out;refine⟨(((z.out.trans (HO.out.below (by omega) (by simp<;>omega))).setCell (by simp<;>omega) _).setCell (by simp<;>omega) _).setCell (by simp<;>omega) _,_,_,_,rfl, ?_⟩;exact JW.out.only ((((ae.refl [w.heap.size+1+1+1+1] l).setCell (by simp) _).setCell (by simp) _).setCell (by simp) _) (by simp<;>omega) (fun k _ h=>by omega)
 obtain rfl:Y=kx:=by have:=G.out;rwa [zj m]at this
 go_enter func80,ntmps80
 go_wp2_with fail
 rw[GH.out];refine x.out.mono ?_;rintro e l ⟨rfl,hi⟩;have R:Below w.heap.size w l/\ag l (w.heap.size+1+1+1+1) 28 #[.string ⟨#[]⟩,.bool false,.slice none 0 0]:=by
  unfold tP at hi;have hz:=HZ.out;split at hi
  ·exact⟨z.out.trans (hi.mono (by omega)),C.out.ah hi (by omega)⟩
  split at hi
  ·exact⟨z.out.trans (hi.2.below (by omega) (by simp<;>omega)),C.out.only hi.2 (by simp)⟩
  exact⟨z.out.trans (hi.2.below (by omega) (by simp<;>omega)),C.out.only hi.2 (by simp)⟩
 rw[<-y.out];obtain⟨p0,p1,p2,Ej,Ei,Eh⟩:=bp R.2;have R4:=za R;clear hi x y I R G;go_wp2;obtain⟨d0,d1,d2,_⟩:=bp (gS R4.out.2 (.string ⟨#[]⟩) (.bool false) (.slice none 0 0));refine zl (v:= .tuple #[.agg #[.string ⟨#[]⟩,.bool false,.slice none 0 0],.int .i64 E]) (by simp[results,results80,go_sem,d0,d1,d2]) rfl ?_;exact⟨((R4.out.1.setCell (by simp<;>omega) _).setCell (by simp<;>omega) _).setCell (by simp<;>omega) _,_,_,_,rfl,nh _ _⟩
