/- layout: a value is read: the heads. -/
import Derived.Test.YtimoclkoflamkaaGreatDoorKA10
import Derived.Test.YtimoclkoflamkaaGreatDoorKA15
set_option linter.all false
set_option maxRecDepth 100000
set_option maxHeartbeats 4000000
open Go.Proofs.Tryz
namespace Go.Proofs.YtimoclkoflamkaaGreatDoor
open Go.RowKit
variable {w V V':World}{g k e B:Nat}{s:ByteArray}{f m d i:Int}{tc:Array Value}{acc:List It}{v:Value}{l:List Ty}
def yY:=@results164
def xu:=@ntmps164
def xG:=@func164
def ZE:=@Nat.zero_mul
def gU (w:World)(g gl fb:Nat)(s:ByteArray)(M:Int)(R:Us)(e:Ending)(w':World):Prop:=
 ∃(X:It) (c0 c1 c2:Value) (k':Nat) (m':Int),e= .returned (.agg #[c0,c1,c2])/\fV w' (w.heap.size<= ·) X c0 c1 c2/\jC w' g gl fb s k' R.e m'/\ae [g,gl] w w'/\k'<=s.size/\(R.e=0->X=R.x/\R.q=s.data.toList.drop k'/\m'=M-R.n)
theorem jC.oU {gl c:Nat}{l:Array Value}(h:jC w g gl e s k f m)(b:af w c 28 l)(n i j:Value):jC (((w.setCell (c,0) n).setCell (c,1) i).setCell (c,2) j) g gl e s k f m:=
 have n1:=h.rdr.Fh b (by decide);have n2:=h.left.Fh b (by decide);have d:=h.box.Fh b (by decide)
 ⟨((af.dI (show af w g _ _ from h.rdr) (p:=⟨c,0,none⟩) n1 _).dI (p:=⟨c,1,none⟩) n1 _).dI (p:=⟨c,2,none⟩) n1 _,((h.left.dI (p:=⟨c,0,none⟩) n2 _).dI (p:=⟨c,1,none⟩) n2 _).dI (p:=⟨c,2,none⟩) n2 _,((h.box.dI (p:=⟨c,0,none⟩) d _).dI (p:=⟨c,1,none⟩) d _).dI (p:=⟨c,2,none⟩) d _⟩
theorem jC.less {gl b:Nat}(h:jC w g gl b s k f m)(u:Int):jC (w.setCell (gl,0) u) g gl b s k f u:=
 ⟨af.dI (show af w g _ _ from h.rdr) (p:=(gl,0)) h.apart.1.symm _,one_setCell h.left,h.box.dI (p:=(gl,0)) h.apart.2.2 _⟩
structure uQ (w:World)(g gl fb:Nat)(s:ByteArray)(k:Nat)(f m:Int)(tc:Array Value)(V:World):Prop where
 rdg:af V w.heap.size 223 (j8 g gl fb)
 ty:af V (w.heap.size+1) 70 tc
 res:af V (w.heap.size+1+1) 28 #[eS,false,nS]
 st:jC V g gl fb s k f m
 only:ae [g,gl] w V
 siz:w.heap.size+3<=V.heap.size
theorem uQ.start {gl b:Nat}(h:jC w g gl b s k f m):uQ w g gl b s k f m tc (((w.alloc (.cells (j8 g gl b) 223)).alloc (.cells tc 70)).alloc (.cells #[eS,false,nS] 28)) where
 rdg:=((af.new w _ _).alloc _).alloc _
 ty:=af.alloc (af.at_ (by simp)) _
 res:=af.at_ (by simp)
 st:=h.below ((((zi _ w).alloc (ze _) _).alloc (by simp) _).alloc (by simp;omega) _)
 only:=(((ae.refl _ w).alloc _).alloc _).alloc _
 siz:=by simp
theorem uQ.less {gl b:Nat}(h:uQ w g gl b s k f m tc V)(u:Int):uQ w g gl b s k f u tc (V.setCell (gl,0) u) where
 rdg:=h.rdg.dI (p:=(gl,0)) (h.rdg.Fh h.st.left (by decide)) _
 ty:=h.ty.dI (p:=(gl,0)) (h.ty.Fh h.st.left (by decide)) _
 res:=h.res.dI (p:=(gl,0)) (h.res.Fh h.st.left (by decide)) _
 st:=h.st.less u
 only:=h.only.setCell (by simp) _
 siz:=by have:=h.siz;simpa[World.setCell]using this
theorem uQ.eQ {gl:Nat}{c:Nat}(h:uQ w g gl e s k f m tc V)(b:ae [g] V V')(i:iP V' g s c d):uQ w g gl e s c d m tc V' where
 rdg:=h.rdg.only b (by simp[h.rdg.Fh h.st.rdr (by decide)])
 ty:=h.ty.only b (by simp[h.ty.Fh h.st.rdr (by decide)])
 res:=h.res.only b (by simp[h.res.Fh h.st.rdr (by decide)])
 st:=h.st.eQ b i
 only:=h.only.trans (b.mono (by simp))
 siz:=zz h.siz b.size
theorem uQ.below {gl c:Nat}(h:uQ w g gl c s k f m tc V)(b:Below V.heap.size V V'):uQ w g gl c s k f m tc V' where
 rdg:=(b.block _ h.rdg.lt).trans h.rdg
 ty:=(b.block _ h.ty.lt).trans h.ty
 res:=(b.block _ h.res.lt).trans h.res
 st:=h.st.below b
 only:=h.only.trans ((ae.ai b (ze _)).mono (by simp))
 siz:=zz h.siz b.size
theorem uQ.ends {gl:Nat}(h:uQ w g gl e s k f m tc V)(b c d:Value):
 jC (((V.setCell ⟨w.heap.size+1+1,0,none⟩ b).setCell ⟨w.heap.size+1+1,1,none⟩ c).setCell ⟨w.heap.size+1+1,2,none⟩ d) g gl e s k f m/\ae [g,gl] w (((V.setCell ⟨w.heap.size+1+1,0,none⟩ b).setCell ⟨w.heap.size+1+1,1,none⟩ c).setCell ⟨w.heap.size+1+1,2,none⟩ d)/\
 (V.setCell ⟨w.heap.size+1+1,0,none⟩ b).cell? ⟨w.heap.size+1+1,0,none⟩=some b/\((V.setCell ⟨w.heap.size+1+1,0,none⟩ b).setCell ⟨w.heap.size+1+1,1,none⟩ c).cell? ⟨w.heap.size+1+1,1,none⟩=some c/\(((V.setCell ⟨w.heap.size+1+1,0,none⟩ b).setCell ⟨w.heap.size+1+1,1,none⟩ c).setCell ⟨w.heap.size+1+1,2,none⟩ d).cell? ⟨w.heap.size+1+1,2,none⟩=some d:=
 ⟨h.st.oU h.res b c d,((h.only.setCell (by simp;omega) _).setCell (by simp;omega) _).setCell (by simp;omega) _,by have:=(h.res.set 0 b).cell 0;simpa using this,by have:=((h.res.set 0 b).set 1 c).cell 1;simpa using this,by have:=(((h.res.set 0 b).set 1 c).set 2 d).cell 2;simpa using this⟩
theorem je {t:TypeId}{a b c:Value}(h:af w g t #[a,b,c]):(w,g,0,a)/\(w,g,1,b)/\(w,g,2,c)/\w.frozen? (g,0)=false/\w.frozen? (g,1)=false/\w.frozen? (g,2)=false:=⟨h.cell 0,h.cell 1,h.cell 2,h.frozen 0,h.frozen 1,h.frozen 2⟩
theorem Kk (k z l:Int)(m:List Ty)(A:Option Addr)(cap:Nat)(w:World)(g gl d:Nat)(s:ByteArray)(c n:Nat)(M:Int)(hS:jC w g gl d s c 0 (M-n))(x:c<=s.size)(K:M<=n):
 Calls prog 164 #[js g gl d,.agg #[k,z,.slice A m.length cap,l]] w fun e w'=>gU w g gl d s M (.bad 4 n (s.data.toList.drop c)) e w':=by
 have O:decide (M-(n:Int)<=0)=true:=zD (by omega);have b:=za (uQ.start (tc:= #[.int .i64 (k),z,.slice A m.length cap,l]) hS);generalize y:(((w.alloc (.cells (j8 g gl d) 223)).alloc (.cells #[.int .i64 (k),z,.slice A m.length cap,l] 70)).alloc (.cells #[eS,false,nS] 28))=o at*;unfold j8 at y;obtain⟨R,N,J,L,Y,I⟩:=fy (show af o w.heap.size 223 #[_,_,_,_,_,_]from b.out.rdg);obtain⟨X,U,Z,S,_⟩:=aY b.out.ty;have G:o.cell? (gl,0)=some (.int .i64 (M-n)):=b.out.st.left.cell 0;have D:=za (iQ g s c 4 o b.out.st.rdr);unfold js;clear hS;go_enter xG,xu
 go_wp2_with fail
 refine D.out.mono ?_;rintro e W ⟨rfl,q,r⟩;have p:=za (b.out.eQ r q);clear q r;obtain⟨H,n1,n2,m0,m1,m2⟩:=je p.out.res;obtain⟨i,j,u,C,B⟩:=p.out.ends (.string ⟨#[]⟩) (.bool false) (.slice none 0 0);have F:=za i;have E:=za j;clear i j;go_wp2;have i:=F.out;have j:=E.out;refine zj (v:= .agg #[.string ⟨#[]⟩,.bool false,.slice none 0 0]) (by simp[results,yY,go_sem,u,C,B]) rfl ?_;exact⟨kG,_,_,_,c,_,rfl,fV.text false (by simp[ByteArray.size]),i,j,x,fun h=>absurd h (show¬(4:Int)=0 by decide)⟩
theorem As (s:ByteArray)(k n:Nat):(s.extract k (k+n)).data.toList=(s.data.toList.drop k).take n:=by
 rw[aq,Zc,show k+n-k=n from by omega]
theorem OS (b:Nat)(A:Option Addr)(cap:Nat)(w:World)(g gl B:Nat)(s:ByteArray)(c n:Nat)(M:Int)(hS:jC w g gl B s c 0 (M-n))(hk:c<=s.size)(hs:s.size<=1099511627776)(hM:¬M<=n)(DB:M<=1024)(hz:1<=b)(UN:b<=8):
 Calls prog 164 #[js g gl B,.agg #[(1:Int),b,.slice A ([]:List Ty).length cap,(0:Int)]] w fun e w'=>gU w g gl B s M ((Ty.mk 1 b [] 0).rd M n (s.data.toList.drop c)) e w':=by
 have d0:decide (M-(n:Int)<=0)=false:=zt (by omega);rw[JJ hM,show((b:Int)).toNat=b from rfl,zN,aa];obtain⟨z,C,E,ez,et,el⟩:∃(z C:Int) (E:List Ty),z=b/\C=0/\E= []:=⟨_,_,_,rfl,rfl,rfl⟩
 rw[<-ez,<-et,<-el];have k:=za (uQ.start (tc:= #[.int .i64 (1),z,.slice A E.length cap,C]) hS);generalize lF:(((w.alloc (.cells (j8 g gl B) 223)).alloc (.cells #[.int .i64 (1),z,.slice A E.length cap,C] 70)).alloc (.cells #[eS,false,nS] 28))=H at*;unfold j8 at lF;obtain⟨p0,Z,W,Y,p4,U⟩:=fy (show af H w.heap.size 223 #[_,_,_,_,_,_]from k.out.rdg);obtain⟨G,F,I,D,_⟩:=aY k.out.ty;have l0:H.cell? (gl,0)=some (.int .i64 (M-n)):=k.out.st.left.cell 0;have l1:=k.out.st.left.frozen 0;subst ez et el;simp only[zM]at lF k;by_cases B6:s.size<c+b
 ·rw[zg (by omega)];have i:=za (k.out.less (M-n-1));generalize vM:H.setCell (gl,0) (.int .i64 (M-n-1))=o at*;clear G F I D;obtain⟨p0,Z,W,Y,p4,U⟩:=fy (show af o w.heap.size 223 #[_,_,_,_,_,_]from i.out.rdg);obtain⟨G,F,I,D,_⟩:=aY i.out.ty;unfold js;clear hS;go_enter xG,xu
  go_wp2_with fail
  refine(gq g s c b o i.out.st.rdr hk (by omega) B6 (by omega)).mono ?_;rintro e u ⟨rfl,p,q⟩;have K:=za (i.out.eQ q p);clear p q;go_wp2_with fail
  refine(nE ⟨#[]⟩ u rfl).mono ?_;rintro e w' ⟨rfl,rfl⟩;go_wp2_with fail
  refine(G5 0 u (by omega)).mono ?_;rintro e w2 ⟨rfl,l⟩;have r:=za (K.out.below l);clear l;obtain⟨n0,n1,n2,m0,m1,m2⟩:=je r.out.res;obtain⟨d,j,J,N,L⟩:=r.out.ends (.string ⟨(cJ 0).toArray⟩) (.bool false) (.slice none 0 0);have R:=za d;have O:=za j;clear d j;go_wp2;have d:=R.out;have j:=O.out;refine zj (v:= .agg #[.string ⟨(cJ 0).toArray⟩,.bool false,.slice none 0 0]) (by simp[results,yY,go_sem,J,N,L]) rfl ?_;exact⟨.mk ⟨(cJ 0).toArray⟩ false [],_,_,_,c,_,rfl,fV.text false (by simp[dq,ByteArray.size]),d,j,hk,fun h=>absurd h (show¬(2:Int)=0 by decide)⟩
 rw[zf (by omega)];have y:=As s c b;have S:(s.extract c (c+b)).size=b:=by rw[ar s c (c+b) (by omega)];omega
 have X:=za (fun V=>fa (s.extract c (c+b)) V (by omega) (by omega));rw[y]at X;have x:=jG ((s.data.toList.drop c).take b);rw[<-y,aa,S]at x;have ab:2^(8*b)<=18446744073709551616:=le_pow _ UN;rw[y]at x;generalize dg ((s.data.toList.drop c).take b)=m at*;have HN:=za (fun V=>G5 m V (by omega));have rP:=gC b m x;have WK:Hid ((⟨(cJ m).toArray⟩:ByteArray).size<=9223372036854775807):=za (by rw[bJ];omega);have WL:Hid ((s.data.toList.drop c).drop b=s.data.toList.drop (c+b)):=za (by rw[xx]);generalize (⟨(cJ m).toArray⟩:ByteArray)=T at*;clear y S x rP;have i:=za (k.out.less (M-n-1));generalize vM:H.setCell (gl,0) (.int .i64 (M-n-1))=o at*;clear G F I D;obtain⟨p0,Z,W,Y,p4,U⟩:=fy (show af o w.heap.size 223 #[_,_,_,_,_,_]from i.out.rdg);obtain⟨G,F,I,D,_⟩:=aY i.out.ty;unfold js;clear hS;go_enter xG,xu
 go_wp2_with fail
 refine(eI g s c b o i.out.st.rdr (by omega) (by omega)).mono ?_;rintro e u ⟨rfl,p,q⟩;have K:=za (i.out.eQ q p);clear p q;go_wp2_with fail
 refine(X.out u).mono ?_;rintro e w' ⟨rfl,rfl⟩;go_wp2_with fail
 refine(HN.out u).mono ?_;rintro e w2 ⟨rfl,l⟩;have r:=za (K.out.below l);clear l;obtain⟨n0,n1,n2,m0,m1,m2⟩:=je r.out.res;obtain⟨d,j,J,N,L⟩:=r.out.ends (.string T) (.bool false) (.slice none 0 0);have R:=za d;have O:=za j;clear d j;go_wp2;have d:=R.out;have j:=O.out;refine zj (v:= .agg #[.string T,.bool false,.slice none 0 0]) (by simp[results,yY,go_sem,J,N,L]) rfl ?_;exact⟨.mk T false [],_,_,_,c+b,_,rfl,fV.text false WK.out,d,j,by omega,fun _=>⟨rfl,WL.out,by simp only;omega⟩⟩
theorem OT (c:Nat)(A:Option Addr)(cap:Nat)(w:World)(g gl r:Nat)(s:ByteArray)(b n:Nat)(M:Int)(hS:jC w g gl r s b 0 (M-n))(X:b<=s.size)(hs:s.size<=1099511627776)(hM:¬M<=n)(DB:M<=1024)(UN:c<=65536):
 Calls prog 164 #[js g gl r,.agg #[(2:Int),c,.slice A ([]:List Ty).length cap,(0:Int)]] w fun e w'=>gU w g gl r s M ((Ty.mk 2 c [] 0).rd M n (s.data.toList.drop b)) e w':=by
 have d0:decide (M-(n:Int)<=0)=false:=zt (by omega);rw[JK hM,show((c:Int)).toNat=c from rfl,zN,aa];obtain⟨z,u,y,W,et,el⟩:∃(z u:Int) (y:List Ty),z=c/\u=0/\y= []:=⟨_,_,_,rfl,rfl,rfl⟩
 rw[<-W,<-et,<-el];have k:=za (uQ.start (tc:= #[.int .i64 (2),z,.slice A y.length cap,u]) hS);generalize Z:(((w.alloc (.cells (j8 g gl r) 223)).alloc (.cells #[.int .i64 (2),z,.slice A y.length cap,u] 70)).alloc (.cells #[eS,false,nS] 28))=D at*;unfold j8 at Z;obtain⟨Y,U,O,R,p4,N⟩:=fy (show af D w.heap.size 223 #[_,_,_,_,_,_]from k.out.rdg);obtain⟨C,B,E,x,_⟩:=aY k.out.ty;have l0:D.cell? (gl,0)=some (.int .i64 (M-n)):=k.out.st.left.cell 0;have l1:=k.out.st.left.frozen 0;subst W et el;simp only[zM]at Z k;by_cases B6:s.size<b+c
 ·rw[zg (by omega)];have i:=za (k.out.less (M-n-1));generalize vM:D.setCell (gl,0) (.int .i64 (M-n-1))=m at*;clear C B E x;obtain⟨Y,U,O,R,p4,N⟩:=fy (show af m w.heap.size 223 #[_,_,_,_,_,_]from i.out.rdg);obtain⟨C,B,E,x,_⟩:=aY i.out.ty;unfold js;clear hS;go_enter xG,xu
  go_wp2_with fail
  refine(gq g s b c m i.out.st.rdr X (by omega) B6 (by omega)).mono ?_;rintro e J ⟨rfl,o,p⟩;have G:=za (i.out.eQ p o);clear o p;go_wp2_with fail
  refine(D5 ⟨#[]⟩ J).mono ?_;rintro e w2 ⟨rfl,l⟩;have q:=za (G.out.below l);clear l;obtain⟨n0,n1,n2,m0,m1,m2⟩:=je q.out.res;obtain⟨d,j,F,I,H⟩:=q.out.ends (.string ⟨#[]⟩) (.bool false) (.slice none 0 0);have L:=za d;have K:=za j;clear d j;go_wp2;have d:=L.out;have j:=K.out;refine zj (v:= .agg #[.string ⟨#[]⟩,.bool false,.slice none 0 0]) (by simp[results,yY,go_sem,F,I,H]) rfl ?_;exact⟨kG,_,_,_,b,_,rfl,fV.text false (by simp[ByteArray.size]),d,j,X,fun h=>absurd h (show¬(2:Int)=0 by decide)⟩
 rw[zf (by omega)];have S:=As s b c;have EP:(s.extract b (b+c)).size=c:=by rw[ar s b (b+c) (by omega)];omega
 have HX:Hid ((⟨((s.data.toList.drop b).take c).toArray⟩:ByteArray)=s.extract b (b+c)):=za (aE (by rw[S]));rw[HX.out];have WK:Hid ((s.extract b (b+c)).size<=9223372036854775807):=za (by omega);have WL:Hid ((s.data.toList.drop b).drop c=s.data.toList.drop (b+c)):=za (by rw[xx]);clear S EP;have i:=za (k.out.less (M-n-1));generalize vM:D.setCell (gl,0) (.int .i64 (M-n-1))=m at*;clear C B E x;obtain⟨Y,U,O,R,p4,N⟩:=fy (show af m w.heap.size 223 #[_,_,_,_,_,_]from i.out.rdg);obtain⟨C,B,E,x,_⟩:=aY i.out.ty;unfold js;clear hS;go_enter xG,xu
 go_wp2_with fail
 refine(eI g s b c m i.out.st.rdr (by omega) (by omega)).mono ?_;rintro e J ⟨rfl,o,p⟩;have G:=za (i.out.eQ p o);clear o p HX;generalize hT:s.extract b (b+c)=T at*;have HT:=za hT;clear hT;go_wp2_with fail
 refine(D5 T J).mono ?_;rintro e w2 ⟨rfl,l⟩;have q:=za (G.out.below l);clear l;obtain⟨n0,n1,n2,m0,m1,m2⟩:=je q.out.res;obtain⟨d,j,F,I,H⟩:=q.out.ends (.string T) (.bool false) (.slice none 0 0);have L:=za d;have K:=za j;clear d j;go_wp2;have d:=L.out;have j:=K.out;refine zj (v:= .agg #[.string T,.bool false,.slice none 0 0]) (by simp[results,yY,go_sem,F,I,H]) rfl ?_;exact⟨.mk T false [],_,_,_,b+c,_,rfl,fV.text false WK.out,d,j,by omega,fun _=>⟨by show It.mk T false []=It.mk (s.extract b (b+c)) false [];rw[HT.out],WL.out,by simp only;omega⟩⟩
def St (s:ByteArray)(k n:Nat)(f:Int)(S:ByteArray)(k2:Nat)(f2:Int):Prop:=(f≠0/\S=⟨#[]⟩/\k2=k/\f2=f)\/(f=0/\s.size<k+n/\S=⟨#[]⟩/\k2=k/\f2=2)\/(f=0/\k+n<=s.size/\S=s.extract k (k+n)/\k2=k+n/\f2=0)
theorem aaZ (g:Nat)(s:ByteArray)(k n:Nat)(f:Int)(j:k<=s.size)(d:s.size<=9223372036854775807)(l:n<=9223372036854775807):∃S k2 i,St s k n f S k2 i/\∀w,iP w g s k f->
 Calls prog 142 #[(g,0),n] w fun e w'=>e= .returned (.string S)/\iP w' g s k2 i/\ae [g] w w':=by
 by_cases h:f=0
 ·subst h;by_cases c:s.size<k+n
  ·exact⟨_,_,_,.inr (.inl ⟨rfl,c,rfl,rfl,rfl⟩),fun w b=>gq g s k n w b j d c l⟩
  exact⟨_,_,_,.inr (.inr ⟨rfl,by omega,rfl,rfl,rfl⟩),fun w b=>eI g s k n w b d (by omega)⟩
 exact⟨_,_,_,.inl ⟨h,rfl,rfl,rfl⟩,fun w b=>J2 g s k f n w b (zl.2 h)⟩
theorem Mz (s:ByteArray)(z k:Nat)(d:k<=s.size):nO (au (s.data.toList.drop k)) z k<=s.size:=by
 have c:=fun(b:(au (s.data.toList.drop k)).2.2=0)=>(iN (s.data.toList.drop k) (au (s.data.toList.drop k)).1 (au (s.data.toList.drop k)).2.1 (by rw[<-b])).2.1
 rw[zN,aa]at c;rcases lj (au (s.data.toList.drop k)) z k with⟨_,_,_,h⟩|⟨_,_,_,_,h⟩|⟨b,_,_,_,h⟩<;>rw[h]
 ·exact d
 ·exact d
 have:=c b;omega
theorem Kl {M:Int}{n c b:Nat}{S:ByteArray}{k2:Nat}{f2:Int}(o:¬M<=n)(i:b<=s.size)(q:s.size<=1099511627776)
 (h:St s (nO (au (s.data.toList.drop b)) c b) (nN (au (s.data.toList.drop b)) c) (lh (au (s.data.toList.drop b)) c) S k2 f2):
 ((Ty.mk 3 c [] 0).rd M n (s.data.toList.drop b)).e=f2/\k2<=s.size/\S.size<=9223372036854775807/\(f2=0->It.mk S false []=((Ty.mk 3 c [] 0).rd M n (s.data.toList.drop b)).x/\((Ty.mk 3 c [] 0).rd M n (s.data.toList.drop b)).q=s.data.toList.drop k2/\M-n-1=M-((Ty.mk 3 c [] 0).rd M n (s.data.toList.drop b)).n):=by
 have m:=Mz s c b i;have j:(⟨#[]⟩:ByteArray).size<=9223372036854775807:=by simp[ByteArray.size]
 rw[wK o];generalize au (s.data.toList.drop b)=N at*;rcases lj N c b with⟨d,l,k,e⟩|⟨d,p,l,k,e⟩|⟨d,p,l,k,e⟩<;>rw[l,k,e]at h<;>rw[e]at m
 ·rw[zg d];rcases h with⟨_,rfl,rfl,rfl⟩|⟨a,_⟩|⟨a,_⟩
  ·exact⟨rfl,i,j,fun h=>absurd h d⟩
  ·exact absurd a d
  exact absurd a d
 ·rw[zf (by rw[d];simp),zg (by omega)];rcases h with⟨_,rfl,rfl,rfl⟩|⟨a,_⟩|⟨a,_⟩
  ·exact⟨rfl,i,j,fun h=>absurd h (by decide)⟩
  ·cases a
  cases a
 rw[zf (by rw[d];simp),zf (by omega),xx,zN,aa];rcases h with⟨a,_⟩|⟨_,a,rfl,rfl,rfl⟩|⟨_,a,rfl,rfl,rfl⟩
 ·exact absurd rfl a
 ·rw[zg (by omega)];exact⟨rfl,m,j,fun h=>absurd h (by decide)⟩
 rw[zf (by omega)];exact⟨rfl,a,by rw[ar _ _ _ a];omega,fun _=>⟨by rw[show(⟨((s.data.toList.drop (b+N.2.1)).take N.1).toArray⟩:ByteArray)=_ from aE (by rw[As])],by rw[xx],by simp only;omega⟩⟩
theorem jC.drew {gl b:Nat}(h:jC w g gl b s k f m):jC w.drew g gl b s k f m:=⟨h.rdr.drew,h.left.drew,h.box.drew⟩
theorem G7 (b:Nat)(A:Option Addr)(cap:Nat)(w:World)(g gl d:Nat)(s:ByteArray)(c n:Nat)(M:Int)(hS:jC w g gl d s c 0 (M-n))(E:c<=s.size)(hs:s.size<=1099511627776)(hM:¬M<=n)(DB:M<=1024)(UN:b<=65536)(hL:aW w)(hg:0<g)(j7:0<gl):
 Calls prog 164 #[js g gl d,.agg #[(3:Int),b,.slice A ([]:List Ty).length cap,(0:Int)]] w fun e w'=>gU w g gl d s M ((Ty.mk 3 b [] 0).rd M n (s.data.toList.drop c)) e w':=by
 have d0:decide (M-(n:Int)<=0)=false:=zt (by omega);have TH:=za (fun V (j:jC V g gl d s c 0 (M-n-1)) (hl:aW V)=>C' g gl d s c b _ V j E (by omega) UN hl (by omega));obtain⟨S,k2,f2,H,C⟩:=aaZ g s _ _ (lh (au (s.data.toList.drop c)) b) (Mz s b c E) (by omega) (zz (GR (au (s.data.toList.drop c)) b) (by omega));have mC:=za (Kl hM E hs H);generalize nN (au (s.data.toList.drop c)) b=num at*;generalize nO (au (s.data.toList.drop c)) b c=k1 at*;generalize lh (au (s.data.toList.drop c)) b=f1 at*;generalize (Ty.mk 3 b [] 0).rd M n (s.data.toList.drop c)=R at*;replace C:=za C;obtain⟨z,u,y,L,W,el⟩:∃(z u:Int) (y:List Ty),z=b/\u=0/\y= []:=⟨_,_,_,rfl,rfl,rfl⟩
 rw[<-W,<-el,<-L];have l:=za (uQ.start (tc:= #[.int .i64 (3),z,.slice A y.length cap,u]) hS);generalize U:(((w.alloc (.cells (j8 g gl d) 223)).alloc (.cells #[.int .i64 (3),z,.slice A y.length cap,u] 70)).alloc (.cells #[eS,false,nS] 28))=G at*;unfold j8 at U;obtain⟨p0,p1,p2,p3,p4,p5⟩:=fy (show af G w.heap.size 223 #[_,_,_,_,_,_]from l.out.rdg);obtain⟨Z,Y,q2,N,_⟩:=aY l.out.ty;have l0:G.cell? (gl,0)=some (.int .i64 (M-n)):=l.out.st.left.cell 0;have l1:=l.out.st.left.frozen 0;subst L W el;simp only[zM]at U l;have X:=fun V (h:uQ w g gl d s c 0 (M-n-1) #[(3:Int),b,.slice A 0 cap,(0:Int)] V)=>hL.only h.only (by simp;omega)
 have EV:=za X;clear X hL H;have m:=za (l.out.less (M-n-1));generalize vM:G.setCell (gl,0) (.int .i64 (M-n-1))=r at*;clear Z Y q2 N;obtain⟨p0,p1,p2,p3,p4,p5⟩:=fy (show af r w.heap.size 223 #[_,_,_,_,_,_]from m.out.rdg);obtain⟨Z,Y,q2,N,_⟩:=aY m.out.ty;unfold js;clear hS;go_enter xG,xu
 go_wp2_with fail
 have uu:aW r.drew:=EV.out r m.out;have q:Hid (∀k f V,uQ w g gl d s k f (M-n-1) #[(3:Int),b,.slice A 0 cap,(0:Int)] V->(V,w.heap.size,0,Value.func (.func 142) #[(g,0)] #[])/\(V,w.heap.size,4,Value.func (.func 162) #[] #[(d,0)])/\(V,w.heap.size+1,1,b)):=za fun k f V h=>⟨h.rdg.cell 0,h.rdg.cell 4,h.ty.cell 1⟩
 refine Uu (q.out c 0) 9 (by kernel_rfl) (by kernel_rfl) ?_;have hHeld:=q.out _ _ _ (m.out.below (zi _ _).drew);refine GT.iv [0,1,2,3,4,5] hHeld (fun _ _ _ _ _ h=>h) (by kernel_rfl) ?_;refine .c (v:= .pointer (some (w.heap.size,0))) rfl rfl (fun V j=>by go_simp<;>with_reducible rfl) ?_;try simp only[Act.put,zb,zc,zd];refine .c (v:= .func (.func 142) #[(g,0)] #[]) rfl rfl (fun V j=>by go_simp<;>with_reducible rfl) ?_;try simp only[Act.put,zb,zc,zd];refine .c (v:= .pointer (some (w.heap.size,4))) rfl rfl (fun V j=>by go_simp<;>with_reducible rfl) ?_;try simp only[Act.put,zb,zc,zd];refine .c (v:= .func (.func 162) #[] #[(d,0)]) rfl rfl (fun V j=>by go_simp<;>with_reducible rfl) ?_;try simp only[Act.put,zb,zc,zd];refine .c (v:= .pointer (some (w.heap.size+1,1))) rfl rfl (fun V j=>by go_simp<;>with_reducible rfl) ?_;try simp only[Act.put,zb,zc,zd];refine .c (v:= .int .i64 b) rfl rfl (fun V j=>by go_simp<;>with_reducible rfl) ?_;try simp only[Act.put,zb,zc,zd];refine .nil ?_;refine GT.fx 6 (fun K i=> ?_) rfl (by kernel_rfl);go_simp;refine(TH.out r.drew m.out.st.drew uu).mono ?_;rintro e w1 ⟨rfl,o,p⟩;have F:=za ((m.out.below (zi _ _).drew).eQ p o.rdr);clear o p;go_wp2_with fail
 refine i.out _ _ (q.out _ _ _ F.out) (fun hHeld=> ?_);clear i K;try simp only[Act.put,zb,zc,zd]
 refine GT.fx 7 (fun K i=> ?_) rfl (by kernel_rfl);go_simp;refine(C.out w1 F.out.st.rdr).mono ?_;rintro e w2 ⟨rfl,o,p⟩;have O:=za (F.out.eQ p o);clear o p;go_wp2_with fail
 refine i.out _ _ (q.out _ _ _ O.out) (fun hHeld=> ?_);clear i K;try simp only[Act.put,zb,zc,zd]
 refine GT.fx 8 (fun K i=> ?_) rfl (by kernel_rfl);go_simp;refine cm (D5 S w2) fun w3 I=> ?_
 have D:=za (O.out.below I);clear I;go_wp2_with fail
 refine i.out _ _ (q.out _ _ _ D.out) (fun hHeld=> ?_);clear i K;try simp only[Act.put,zb,zc,zd]
 obtain⟨n0,n1,n2,m0,m1,m2⟩:=je D.out.res;obtain⟨x,B,y0,y1,y2⟩:=D.out.ends S false nS;have E1:=za x;have E2:=za B;clear x B;refine GT.oF 9 ?_ rfl (by kernel_rfl);go_simp;go_wp2;have x:=E1.out;have B:=E2.out;refine zj (v:= .agg #[.string S,.bool false,.slice none 0 0]) (by simp[results,yY,go_sem,y0,y1,y2]) rfl ?_;obtain⟨J,dW,rP,WM⟩:=mC.out;exact⟨.mk S false [],_,_,_,k2,_,rfl,fV.text false rP,by rw[J];exact x,B,dW,fun h=>WM (by rw[<-J];exact h)⟩
def k6.pre (acc:List It)(R:k6):k6:=⟨R.e,acc++R.xs,R.n,R.q⟩
theorem k6.Su (acc:List It)(x:It)(R:k6):(R.cons x).pre acc=R.pre (acc++ [x]):=by simp[k6.pre,k6.cons]
structure VR (M:Int)(c:Nat)(s:ByteArray)(T:Nat->Ty)(th:Nat->Nat->Bool)(rest:Nat->Nat->List UInt8->k6):Prop where
 done:∀i n r,c<=i->rest i n r=⟨0,[],n,r⟩
 lack:∀i n k,i<c->k<=s.size->th i k=false->rest i n (s.data.toList.drop k)=⟨0,[],n,s.data.toList.drop k⟩
 next:∀i n k,i<c->k<=s.size->th i k=true->rest i n (s.data.toList.drop k)=if((T i).rd M n (s.data.toList.drop k)).e≠0 then⟨((T i).rd M n (s.data.toList.drop k)).e,[((T i).rd M n (s.data.toList.drop k)).x],((T i).rd M n (s.data.toList.drop k)).n,((T i).rd M n (s.data.toList.drop k)).q⟩else(rest (i+1) ((T i).rd M n (s.data.toList.drop k)).n ((T i).rd M n (s.data.toList.drop k)).q).cons ((T i).rd M n (s.data.toList.drop k)).x
theorem VR.Ut (M:Int)(c:Nat)(s:ByteArray)(a:Ty):VR M c s (fun _=>a) (fun _ _=>true) (fun i n r=>uJ (fun n r=>a.rd M n r) (c-i) n r) where
 done i n r h:=by rw[show c-i=0 from by omega,uJ]
 lack i n k _ _ h:=by cases h
 next i n k h _ _:=by rw[show c-i=(c-(i+1))+1 from by omega,uJ]
theorem VR.ofT (M:Int)(s:ByteArray)(l:List Ty)(c:Int)(p:0<=c):VR M l.length s (fun i=>l[i]?.getD (.mk 0 0 [] 0)) (fun i k=>decide ((i:Int)<(l.length:Int)-c)||decide (k<s.size)) (fun i n r=>ox M (l.drop i) (((l.length:Int)-c).toNat-i) n r) where
 done i n r h:=by rw[zL h,ox]
 lack i n k h j b:=by
  rw[xC h,ox];simp only[Zd,yM]at b;rw[zg ⟨by omega,zL (by rw[aa];omega)⟩]
 next i n k h j b:=by
  rw[xC h,ox];simp only[ZY,zU]at b;have d:k<s.size->s.data.toList.drop k≠ []:=fun q e=>by
   have:=yi List.length e;rw[zN,aa]at this;simp at this;omega
  rw[zf (by
   rintro⟨o,m⟩;rcases b with b|b
   ·omega
   exact d b m)]
  simp only[zr h,Option.getD_some,Nat.sub_sub]
structure G8 (w:World)(g gl fb:Nat)(s:ByteArray)(k:Nat)(f m:Int)(acc:List It)(v:Value)(V:World):Prop where
 rdg:af V w.heap.size 223 (j8 g gl fb)
 res:af V (w.heap.size+1) 28 #[eS,false,nS]
 xb:af V (w.heap.size+1+1) 28 #[eS,true,v]
 its:Acc V (w.heap.size+3) acc v
 st:jC V g gl fb s k f m
 only:ae [g,gl] w V
 siz:w.heap.size+3<=V.heap.size
 glt:g<w.heap.size/\gl<w.heap.size
 fbl:fb<w.heap.size
theorem G8.start {gl b:Nat}(h:jC w g gl b s k f m):G8 w g gl b s k f m [] nS (((w.alloc (.cells (j8 g gl b) 223)).alloc (.cells #[eS,false,nS] 28)).alloc (.cells #[eS,true,nS] 28)) where
 rdg:=((af.new w _ _).alloc _).alloc _
 res:=af.alloc (af.at_ (by simp)) _
 xb:=af.at_ (by simp)
 its:=Acc.nil _ _
 st:=h.below ((((zi _ w).alloc (ze _) _).alloc (by simp) _).alloc (by simp;omega) _)
 only:=(((ae.refl _ w).alloc _).alloc _).alloc _
 siz:=by simp
 glt:=⟨h.rdr.lt,h.left.lt⟩
 fbl:=h.box.lt
theorem G8.below {gl c:Nat}(h:G8 w g gl c s k f m acc v V)(b:Below V.heap.size V V'):G8 w g gl c s k f m acc v V' where
 rdg:=(b.block _ h.rdg.lt).trans h.rdg
 res:=(b.block _ h.res.lt).trans h.res
 xb:=(b.block _ h.xb.lt).trans h.xb
 its:=h.its.below b
 st:=h.st.below b
 only:=h.only.trans ((ae.ai b (ze _)).mono (by simp))
 siz:=zz h.siz b.size
 glt:=h.glt
 fbl:=h.fbl
theorem G8.eQ {gl c:Nat}(h:G8 w g gl c s k f m acc v V)(b:ae [g,gl] V V')(j:jC V' g gl c s e i d):G8 w g gl c s e i d acc v V' where
 rdg:=h.rdg.only b (by have:=h.glt;simp;omega)
 res:=h.res.only b (by have:=h.glt;simp;omega)
 xb:=h.xb.only b (by have:=h.glt;simp;omega)
 its:=h.its.only b (by have:=h.glt;simp;omega)
 st:=j
 only:=h.only.trans b
 siz:=zz h.siz b.size
 glt:=h.glt
 fbl:=h.fbl
theorem G8.more {gl i:Nat}{d:List It}{c:Value}(h:G8 w g gl i s k f m acc v V)(b:V.grownBy V' v.ownBlock)(n:Acc V' (w.heap.size+3) d c):G8 w g gl i s k f m d c (V'.setCell (w.heap.size+1+1,2) c) where
 rdg:=(h.rdg.grown b (fun e=>by have:=(h.its.ge _ e).1;omega)).dI (p:=⟨w.heap.size+1+1,2,none⟩) (by simp;omega) _
 res:=(h.res.grown b (fun e=>by have:=(h.its.ge _ e).1;omega)).dI (p:=(w.heap.size+1+1,2)) (by simp) _
 xb:=(h.xb.grown b (fun e=>by have:=(h.its.ge _ e).1;omega)).set 2 c
 its:=n.only (L:= [w.heap.size+1+1]) ((ae.refl _ _).setCell (by simp) _) (by simp)
 st:=⟨af.dI (show af V' g _ _ from af.grown h.st.rdr b (fun e=>by have:=(h.its.ge _ e).1;have:=h.glt;omega)) (p:=(w.heap.size+1+1,2)) (by have:=h.glt;simp;omega) _,
  (h.st.left.grown b (fun e=>by have:=(h.its.ge _ e).1;have:=h.glt;omega)).dI (p:=(w.heap.size+1+1,2)) (by have:=h.glt;simp;omega) _,
  (h.st.box.grown b (fun e=>by have:=(h.its.ge _ e).1;have:=h.fbl;omega)).dI (p:=⟨w.heap.size+1+1,2,none⟩) (by have:=h.fbl;simp;omega) _⟩
 only:=(h.only.grown b (fun j l=> .inr (by have:=(h.its.ge _ l).1;omega))).setCell (by simp;omega) _
 siz:=by have:=h.siz;have:=b.size;simp[World.setCell];omega
 glt:=h.glt
 fbl:=h.fbl
theorem G8.cells {gl c:Nat}(h:G8 w g gl c s k f m acc v V)(b:V.grownBy V' v.ownBlock):af V' w.heap.size 223 (j8 g gl c)/\af V' (w.heap.size+1+1) 28 #[eS,true,v]:=
 ⟨h.rdg.grown b (fun e=>by have:=(h.its.ge _ e).1;omega),h.xb.grown b (fun e=>by have:=(h.its.ge _ e).1;omega)⟩
theorem G8.ends {gl d:Nat}(h:G8 w g gl d s k f m acc v V)(b c:Value):
 jC (((V.setCell (w.heap.size+1,0) b).setCell (w.heap.size+1,1) c).setCell (w.heap.size+1,2) v) g gl d s k f m/\ae [g,gl] w (((V.setCell (w.heap.size+1,0) b).setCell (w.heap.size+1,1) c).setCell (w.heap.size+1,2) v)/\
 ((V.setCell (w.heap.size+1,0) b),w.heap.size+1,0,b)/\(((V.setCell (w.heap.size+1,0) b).setCell (w.heap.size+1,1) c),w.heap.size+1,1,c)/\((((V.setCell (w.heap.size+1,0) b).setCell (w.heap.size+1,1) c).setCell (w.heap.size+1,2) v),w.heap.size+1,2,v)/\
 Acc (((V.setCell (w.heap.size+1,0) b).setCell (w.heap.size+1,1) c).setCell (w.heap.size+1,2) v) (w.heap.size+3) acc v:=
 ⟨h.st.oU h.res b c v,((h.only.setCell (by simp) _).setCell (by simp) _).setCell (by simp) _,by have:=(h.res.set 0 b).cell 0;simpa using this,by have:=((h.res.set 0 b).set 1 c).cell 1;simpa using this,by have:=(((h.res.set 0 b).set 1 c).set 2 v).cell 2;simpa using this,
  h.its.only (L:= [w.heap.size+1]) ((((ae.refl _ V).setCell (by simp) _).setCell (by simp) _).setCell (by simp) _) (by simp)⟩
theorem rj (F:Nat)(cs:Array Value)(A:Value->Array Value)(hF:(F=206/\∃Y:Nat,cs= #[.pointer (some ⟨Y,0,none⟩)]/\A=fun v=> #[v,.pointer (some ⟨Y,0,none⟩)])\/F=207/\∃Y br:Nat,cs= #[.pointer (some ⟨Y,0,none⟩),.pointer (some ⟨br,0,none⟩)]/\A=fun v=> #[v,.pointer (some ⟨Y,0,none⟩),.pointer (some ⟨br,0,none⟩)])(c:Nat)(T:Nat->Ty)(th:Nat->Nat->Bool)(rest:Nat->Nat->List UInt8->k6)(G:Nat->Option Addr)(dn D:Nat->Nat)(w:World)(g gl y:Nat)(s:ByteArray)(k:Nat)(f m M:Int)(n0:Nat)(hS:jC w g gl y s k f m)(hk:k<=s.size)(hs:s.size<=1099511627776)(hc:c<=1024)(E:Int)(R:k6)(HR:VR M c s T th rest)
 (ag:f=0->m=M-n0/\R=rest 0 n0 (s.data.toList.drop k)/\E=R.e) (an:f≠0->E=f)
 (HC:Hid (∀i,i<c->∀V H f' m',ae [g,gl] w V->jC V g gl y s H f' m'->H<=s.size->Calls prog F (A i) V fun e w'=>e= .returned (.tuple #[.agg #[.int .i64 (T i).kind,.int .i64 (T i).size,.slice (G i) (dn i) (D i),.int .i64 (T i).tail],.bool (th i H)])/\(V,w')))
 (HV:Hid (∀i,i<c->∀V H (n':Nat),ae [g,gl] w V->jC V g gl y s H 0 (M-n')->H<=s.size->Calls prog 164 #[js g gl y,.agg #[.int .i64 (T i).kind,.int .i64 (T i).size,.slice (G i) (dn i) (D i),.int .i64 (T i).tail]] V fun e w'=>gU V g gl y s M ((T i).rd M n' (s.data.toList.drop H)) e w')):
 Calls prog 205 #[js g gl y,c,.func (.func F) #[] cs] w fun e w'=>gU w g gl y s M ⟨E,.mk ⟨#[]⟩ true R.xs,R.n,R.q⟩ e w':=by
 have dm:=za (G8.start hS);have ad:=za HR;have H0:Hid ((f=0->∃B:Nat,m=M-B/\R=(rest 0 B (s.data.toList.drop k)).pre []/\E=R.e)/\(f≠0->E=f)):=za ⟨fun h=>by obtain⟨n,p,C⟩:=ag h;exact⟨n0,n,by rw[p];rfl,C⟩,an⟩;clear hS ag an HR;unfold j8 at dm;unfold js;unfold js at HV;have HC:=HC.out;rcases hF with⟨rfl,Y,rfl,rfl⟩|⟨rfl,Y,br,rfl,rfl⟩;all_goals
  dsimp only at HC;have HC:=za HC;go_enter func205,ntmps205
  go_wp2_with fail
  go_loopw [13] (fun i wr=>∃(j r:Nat) (F I:Int) (acc:List It) (v:Value),j<=c/\i= .int .i64 j/\Hid (G8 w g gl y s r F I acc v wr)/\r<=s.size/\acc.length<=j/\Hid ((F=0->∃B:Nat,I=M-B/\R=(rest j B (s.data.toList.drop r)).pre acc/\E=R.e)/\(F≠0->E=F))) (fun i _=>c-(intOf i).toNat)
  case atStart=>exact⟨0,k,f,m,[],_,by omega,rfl,dm,hk,by simp,H0⟩
  case round=>
   obtain⟨j,r,F,I,acc,v,hj,rfl,d,U,ju,HI⟩:=hrel;obtain⟨Z,S,O,rfl,aw,au,ay⟩:=d.out.its.bK;by_cases aD:j<c
   ·have UO:=za (HC.out j aD wr r F I d.out.only d.out.st U);have ai:=za (HV.out j aD);obtain⟨b,z⟩:∃b,th j r=b:=⟨_,rfl⟩
    have HB:=za z;rw[z]at UO;obtain⟨N,ah⟩:∃u,dn j=u:=⟨_,rfl⟩
    rw[ah]at UO ai;clear z HC HV ah;by_cases IX:b=true/\F=0
    ·obtain⟨rfl,rfl⟩:=IX;go_wp2_with fail
     refine UO.out.mono ?_;rintro e l ⟨rfl,z⟩;have x:=za (d.out.below z);obtain⟨r0,r1,r2,r3,r4,r5⟩:=fy (show af l w.heap.size 223 #[_,_,_,_,_,_]from x.out.rdg);have cg:=x.out.siz;have al:w.heap.size<l.heap.size:=by omega
     have d:=za (x.out.below ((zi _ l).alloc (ze _) (.cells #[.int .i64 (T j).kind,.int .i64 (T j).size,.slice (G j) N (D j),.int .i64 (T j).tail] 70)));clear z;go_wp2_with fail
     refine(bu g s r 0 _ (x.out.st.rdr.alloc _)).mono ?_;rintro e w' ⟨rfl,rfl⟩;have HT:=za (af.new l 70 #[.int .i64 (T j).kind,.int .i64 (T j).size,.slice (G j) N (D j),.int .i64 (T j).tail]);generalize mS:l.alloc (.cells #[.int .i64 (T j).kind,.int .i64 (T j).size,.slice (G j) N (D j),.int .i64 (T j).tail] 70)=W2 at*;obtain⟨B,rfl,hR,hE⟩:=HI.out.1 (by simp);have Fx:=za (And.intro hR hE);have j7:=d.out.glt;have HG:Hid (l.heap.size∉ [g,gl]):=za (by simp;omega);have TK:Hid (∀V,af V w.heap.size 223 (j8 g gl y)/\af V (w.heap.size+1+1) 28 #[eS,true,.slice Z S O]->af V l.heap.size 70 #[.int .i64 (T j).kind,.int .i64 (T j).size,.slice (G j) N (D j),.int .i64 (T j).tail]->(V,w.heap.size,0,Value.func (.func 142) #[(g,0)] #[])/\(V,w.heap.size,1,Value.func (.func 160) #[(g,0)] #[])/\(V,w.heap.size,2,Value.func (.func 143) #[(g,0)] #[])/\(V,w.heap.size,3,Value.func (.func 161) #[(g,0)] #[])/\(V,w.heap.size,4,Value.func (.func 162) #[] #[(y,0)])/\(V,w.heap.size,5,gl,0)/\(V,l.heap.size,0,Value.int .i64 (T j).kind)/\(V,l.heap.size,1,Value.int .i64 (T j).size)/\(V,l.heap.size,2,Value.slice (G j) N (D j))/\(V,l.heap.size,3,Value.int .i64 (T j).tail)/\(V,w.heap.size+1+1,2,Value.slice Z S O)/\V.frozen? (w.heap.size+1+1,2)=false):=za (fun V n p=>⟨n.1.cell 0,n.1.cell 1,n.1.cell 2,n.1.cell 3,n.1.cell 4,n.1.cell 5,p.cell 0,p.cell 1,p.cell 2,p.cell 3,n.2.cell 2,n.2.frozen 2⟩);have ao:=za (ai.out W2.drew r B d.out.only.drew (show jC W2.drew g gl y s r 0 (M-B)from d.out.st.drew) U)
     have vH:=za (ad.out.next j B r aD U HB.out);obtain⟨Rj,ak⟩:∃Rj,(T j).rd M B (s.data.toList.drop r)=Rj:=⟨_,rfl⟩
     rw[ak]at ao vH;clear hR hE j7 ak cg r0 r1 r2 r3 r4 r5;go_wp2_with fail
     refine aL 8 (fun V=>(V,w.heap.size,0,Value.func (.func 142) #[(g,0)] #[])/\(V,w.heap.size,1,Value.func (.func 160) #[(g,0)] #[])/\(V,w.heap.size,2,Value.func (.func 143) #[(g,0)] #[])/\(V,w.heap.size,3,Value.func (.func 161) #[(g,0)] #[])/\(V,w.heap.size,4,Value.func (.func 162) #[] #[(y,0)])/\(V,w.heap.size,5,gl,0)/\(V,l.heap.size,0,Value.int .i64 (T j).kind)/\(V,l.heap.size,1,Value.int .i64 (T j).size)/\(V,l.heap.size,2,Value.slice (G j) N (D j))/\(V,l.heap.size,3,Value.int .i64 (T j).tail)/\(V,w.heap.size+1+1,2,Value.slice Z S O)/\V.frozen? (w.heap.size+1+1,2)=false) (by kernel_rfl) (by kernel_rfl) ?_;have hHeld:=TK.out W2.drew ⟨d.out.rdg.drew,d.out.xb.drew⟩ HT.out.drew;refine GT.iv [0,1,2,3] hHeld (fun _ _ _ _ _ h=>h) (by kernel_rfl) ?_;repeat(refine .c rfl rfl (fun V hV=>by go_simp<;>with_reducible rfl) ?_;simp only[Act.put,zb,zc,zd])
     refine .nil ?_;refine GT.fx 4 (fun ab K=> ?_) rfl (by kernel_rfl);go_simp;refine ao.out.mono ?_;rintro e w3 ⟨X,c0,c1,c2,H,m',rfl,hX,uC,ho,AY,iW⟩;have W:=za ((d.out.below (zi _ W2).drew).eQ ho uC);have Qt:=za (HT.out.drew.only ho HG.out);have WN:=za iW;have HX:=za hX;obtain⟨ax,bx,rfl,rfl,rfl,_⟩:=hX.open_;clear hX uC ho iW;go_wp2_with fail
     refine K.out _ _ (TK.out w3 ⟨W.out.rdg,W.out.xb⟩ Qt.out) (fun hHeld=> ?_);clear K ab;try simp only[Act.put,zb,zc,zd]
     refine GT.fx 5 (fun ab K=> ?_) rfl (by kernel_rfl);go_simp;refine K.out _ _ (TK.out _ ⟨W.out.rdg.alloc _,W.out.xb.alloc _⟩ (Qt.out.alloc _)) (fun hHeld=> ?_);clear K ab;try simp only[Act.put,zb,zc,zd]
     refine GT.fx 6 (fun ab K=> ?_) rfl (by kernel_rfl);have ar:Hid (fV (w3.alloc (.cells #[X.text,X.list,.slice ax X.sub.length bx] 28)) (fun q=>w.heap.size+3<=q/\(Value.slice Z S O).ownBlock≠some q) X X.text X.list (.slice ax X.sub.length bx)):=za ((HX.out.below ((zi _ w3).alloc (ze _) _)).eG (fun q _ hq=>⟨by have:=d.out.siz;simp at hq;omega,fun e=>by have:=(d.out.its.ge _ e).2;simp at hq;omega⟩));have Lg:acc.length<=1000000:=by omega
     have aq:w.heap.size+3<=(w3.alloc (.cells #[X.text,X.list,.slice ax X.sub.length bx] 28)).heap.size:=by have:=W.out.siz;simp;omega
     refine qQ (by rfl) (.tmp 31) (.tmp 35) (by rfl) (w.heap.size+3) acc (by rfl) (W.out.its.below ((zi _ w3).alloc (ze _) _)) X ar.out _ (by rfl) (by simp) (by simp) (by simp) Lg aq ?_;intro g' n' aj w5 Tn IA dM av;have Be:=za (W.out.below ((zi _ w3).alloc (ze _) (.cells #[X.text,X.list,.slice ax X.sub.length bx] 28)));have Tw:=za ((Qt.out.alloc _).grown dM (fun e=>by have:=(x.out.its.ge _ e).2;omega));have mz:=za (Be.out.more dM IA);refine K.out _ _ (TK.out w5 (Be.out.cells dM) Tw.out) (fun hHeld=> ?_);clear K ab;try simp only[Act.put,zb,zc,zd]
     refine GT.iv [7] hHeld (fun _ _ _ _ _ h=>h) (by kernel_rfl) ?_;refine .c rfl rfl (fun V hV=>by go_simp<;>with_reducible rfl) ?_;simp only[Act.put,zb,zc,zd];refine .nil ?_;refine GT.oF 8 ?_ rfl (by kernel_rfl);obtain⟨z0,z1,z2,z3,z4,z5,z6,z7,z8,z9,az,aA⟩:=hHeld;clear IA dM;go_simp;all_goals
      go_wp2;go_roundw
      case rel=>
       refine⟨j+1,H,Rj.e,m',acc++ [X],_,by omega,by go_num,mz,AY,by simp;omega,za ⟨fun h0=> ?_,fun h0=> ?_⟩⟩
       ·obtain⟨g1,g2,g3⟩:=WN.out h0;have o:=vH.out;rw[zf (by simp[h0])]at o;refine⟨Rj.n,g3, ?_,Fx.out.2⟩;rw[Fx.out.1,o,k6.Su,g1,g2]
       have o:=vH.out;rw[zg h0]at o;rw[Fx.out.2,Fx.out.1,o];rfl
      case measure=>simp[intOf];omega
    have aa:Hid (E=F/\(E=0->R.xs=acc/\R.q=s.data.toList.drop r/\I=M-R.n)):=za (by
     by_cases hF:F=0
     ·obtain⟨B,n,p,C⟩:=HI.out.1 hF;rw[ad.out.lack _ _ _ aD U (by cases b<;>simp_all[HB.out])]at p;subst p;exact⟨by rw[C,hF];rfl,fun _=>⟨by simp[k6.pre],rfl,n⟩⟩
     exact⟨HI.out.2 hF,fun h=>absurd ((HI.out.2 hF).symm.trans h) hF⟩)
    obtain rfl:F=E:=aa.out.1.symm;cases b with
    |false=>
     go_wp2_with fail
     refine UO.out.mono ?_;rintro e l ⟨rfl,z⟩;have x:=za (d.out.below z);obtain⟨r0,r1,r2,r3,r4,r5⟩:=fy (show af l w.heap.size 223 #[_,_,_,_,_,_]from x.out.rdg);have cg:=x.out.siz;have al:w.heap.size<l.heap.size:=by omega
     have d:=za (x.out.below ((zi _ l).alloc (ze _) (.cells #[.int .i64 (T j).kind,.int .i64 (T j).size,.slice (G j) N (D j),.int .i64 (T j).tail] 70)));clear z;obtain⟨n0,n1,n2,m0,m1,m2⟩:=je d.out.res;obtain⟨x0,x1,x2,_,_,_⟩:=je d.out.xb;obtain⟨o,L,y0,y1,y2,J⟩:=d.out.ends eS true;have E1:=za o;have E2:=za L;have HA:=za (J.list (by omega));clear o L J;go_wp2;have o:=E1.out;refine zj (v:= .agg #[eS,true,.slice Z S O]) (by simp[results,results205,go_sem,y0,y1,y2]) rfl ?_;refine⟨_,_,_,_,r,I,rfl,HA.out.eG (fun _ _ h=>by omega),o,E2.out,U,fun h=> ?_⟩;obtain⟨n,p,C⟩:=aa.out.2 h;exact⟨by rw[n],p,C⟩
    |true=>
     have hF:(F !=0)=true:=yL.2 (fun h=>IX ⟨rfl,h⟩);go_wp2_with fail
     refine UO.out.mono ?_;rintro e l ⟨rfl,z⟩;have x:=za (d.out.below z);obtain⟨r0,r1,r2,r3,r4,r5⟩:=fy (show af l w.heap.size 223 #[_,_,_,_,_,_]from x.out.rdg);have cg:=x.out.siz;have al:w.heap.size<l.heap.size:=by omega
     have d:=za (x.out.below ((zi _ l).alloc (ze _) (.cells #[.int .i64 (T j).kind,.int .i64 (T j).size,.slice (G j) N (D j),.int .i64 (T j).tail] 70)));clear z;go_wp2_with fail
     refine(bu g s r F _ (x.out.st.rdr.alloc _)).mono ?_;rintro e w' ⟨rfl,rfl⟩;obtain⟨n0,n1,n2,m0,m1,m2⟩:=je d.out.res;obtain⟨x0,x1,x2,_,_,_⟩:=je d.out.xb;obtain⟨o,L,y0,y1,y2,J⟩:=d.out.ends eS true;have E1:=za o;have E2:=za L;have HA:=za (J.list (by omega));clear o L J;go_wp2;have o:=E1.out;refine zj (v:= .agg #[eS,true,.slice Z S O]) (by simp[results,results205,go_sem,y0,y1,y2]) rfl ?_;refine⟨_,_,_,_,r,I,rfl,HA.out.eG (fun _ _ h=>by omega),o,E2.out,U,fun h=> ?_⟩;obtain⟨n,p,C⟩:=aa.out.2 h;exact⟨by rw[n],p,C⟩
   have aa:Hid (E=F/\(E=0->R.xs=acc/\R.q=s.data.toList.drop r/\I=M-R.n)):=za (by
    by_cases hF:F=0
    ·obtain⟨B,n,p,C⟩:=HI.out.1 hF;rw[ad.out.done _ _ _ (by omega)]at p;subst p;exact⟨by rw[C,hF];rfl,fun _=>⟨by simp[k6.pre],rfl,n⟩⟩
    exact⟨HI.out.2 hF,fun h=>absurd ((HI.out.2 hF).symm.trans h) hF⟩)
   obtain rfl:F=E:=aa.out.1.symm;obtain⟨n0,n1,n2,m0,m1,m2⟩:=je d.out.res;obtain⟨x0,x1,x2,_,_,_⟩:=je d.out.xb;obtain⟨o,L,y0,y1,y2,J⟩:=d.out.ends eS true;have E1:=za o;have E2:=za L;have HA:=za (J.list (by omega));clear o L J;go_wp2;have o:=E1.out;refine zj (v:= .agg #[eS,true,.slice Z S O]) (by simp[results,results205,go_sem,y0,y1,y2]) rfl ?_;refine⟨_,_,_,_,r,I,rfl,HA.out.eG (fun _ _ h=>by omega),o,E2.out,U,fun h=> ?_⟩;obtain⟨n,p,C⟩:=aa.out.2 h;exact⟨by rw[n],p,C⟩
theorem uQ.MA {gl c:Nat}(h:uQ w g gl c s k f m tc V)(b:ae [g,gl] V V')(j:jC V' g gl c s e i d):uQ w g gl c s e i d tc V' where
 rdg:=h.rdg.only b (by simp[h.rdg.Fh h.st.rdr (by decide),h.rdg.Fh h.st.left (by decide)])
 ty:=h.ty.only b (by simp[h.ty.Fh h.st.rdr (by decide),h.ty.Fh h.st.left (by decide)])
 res:=h.res.only b (by simp[h.res.Fh h.st.rdr (by decide),h.res.Fh h.st.left (by decide)])
 st:=j
 only:=h.only.trans b
 siz:=zz h.siz b.size
theorem fV.oU {b:Nat}{X:It}{c e d:Value}(h:fV w (B<= ·) X c e d)(l:b<B)(i j k:Value):fV (((w.setCell (b,0) i).setCell (b,1) j).setCell (b,2) k) (B<= ·) X c e d:=
 h.only (L:= [b]) ((((ae.refl _ w).setCell (by simp) _).setCell (by simp) _).setCell (by simp) _) (by simp;omega) (fun _ _ h=>h)
theorem Km (a:Ty)(D:Nat)(B:Nat)(A:Option Addr)(cap:Nat)(w:World)(g gl q:Nat)(s:ByteArray)(c n:Nat)(M:Int)(hS:jC w g gl q s c 0 (M-n))(hk:c<=s.size)(hs:s.size<=1099511627776)(hM:¬M<=n)(DB:M<=1024)(UN:D<=1024)(hL:aW w)(hg:0<g)(j7:0<gl)
 (hT:eZ w B [a] A 0) (hB:B<=w.heap.size) (al:B<=g) (Dn:B<=gl)
 (IH:Hid (∀V c0 c1 c2 c3 c (n:Nat),cz V B a c0 c1 c2 c3->B<=V.heap.size->jC V g gl q s c 0 (M-n)->c<=s.size->aW V->Calls prog 164 #[js g gl q,.agg #[c0,c1,c2,c3]] V fun e w'=>gU V g gl q s M (a.rd M n (s.data.toList.drop c)) e w')):
 Calls prog 164 #[js g gl q,.agg #[(4:Int),D,.slice A [a].length cap,(0:Int)]] w fun e w'=>gU w g gl q s M ((Ty.mk 4 D [a] 0).rd M n (s.data.toList.drop c)) e w':=by
 have aD:=hS.rdr.lt;have qb:=hS.left.lt;have d0:decide (M-(n:Int)<=0)=false:=zt (by omega);rw[DW hM];have TH:=za (fun V (hV:jC V g gl q s c 0 (M-n-1)) (hl:aW V)=>C' g gl q s c D _ V hV hk (by omega) (by omega) hl (by omega));have Bb:=fun(h0:(au (s.data.toList.drop c)).2.2=0)=>(iN (s.data.toList.drop c) (au (s.data.toList.drop c)).1 (au (s.data.toList.drop c)).2.1 (by rw[<-h0])).2.1
 rw[zN,aa]at Bb;have ah:=lj (au (s.data.toList.drop c)) D c;obtain⟨b,o,t0,t1,t2,t3,rfl,gu,e0,d,k,e3,oO⟩:=hT.at_ 0 (by simp);simp only[zK,ZE,xa,yQ]at e0 d k e3 oO;obtain⟨dA,dc,rfl,rfl,rfl,rfl,_⟩:=oO.open_;have ak:=za oO;have HE:=za (And.intro e0 (And.intro d (And.intro k e3)));have I8:=za hL;obtain⟨ad,ta,tl,ez,et,el⟩:∃(ad ta:Int) (tl:List Ty),ad=D/\ta=0/\tl= [a]:=⟨_,_,_,rfl,rfl,rfl⟩
 rw[<-et,<-ez];obtain⟨A,hA⟩:∃A,(some ((b,o):Addr))=A:=⟨_,rfl⟩
 rw[hA];have aj:=za hA;rw[show [a].length=tl.length from by rw[el]];clear hA hT oO e0 d k e3;have I:=za (uQ.start (tc:= #[.int .i64 (4),ad,.slice A tl.length cap,ta]) hS);generalize lF:(((w.alloc (.cells (j8 g gl q) 223)).alloc (.cells #[.int .i64 (4),ad,.slice A tl.length cap,ta] 70)).alloc (.cells #[eS,false,nS] 28))=W3 at*;unfold j8 at lF;obtain⟨U,O,Z,p3,R,N⟩:=fy (show af W3 w.heap.size 223 #[_,_,_,_,_,_]from I.out.rdg);obtain⟨q0,q1,Y,W,_⟩:=aY I.out.ty;have l0:W3.cell? (gl,0)=some (.int .i64 (M-n)):=I.out.st.left.cell 0;have l1:=I.out.st.left.frozen 0;subst ez et;have ag:tl.length=1:=by rw[el];rfl
 rw[ag]at lF I⊢;clear el ag;have TJ:=fun V (h:uQ w g gl q s c 0 (M-n-1) #[(4:Int),D,.slice A 1 cap,(0:Int)] V)=>hL.only h.only (by simp;omega)
 have EV:=za TJ;clear TJ hL;generalize au (s.data.toList.drop c)=ai at*;obtain⟨Nm,L,Ne⟩:=ai;simp only at Bb ah⊢;rcases ah with⟨u,hE,Ux,hK⟩|⟨u,C,hE,Ux,hK⟩|⟨u,C,hE,Ux,hK⟩
 ·rw[zg u];rw[hE,Ux,hK]at TH;have m:=za (I.out.less (M-n-1));generalize vM:W3.setCell (gl,0) (.int .i64 (M-n-1))=p at*;clear q0 q1 Y W;obtain⟨U,O,Z,p3,R,N⟩:=fy (show af p w.heap.size 223 #[_,_,_,_,_,_]from m.out.rdg);obtain⟨q0,q1,Y,W,_⟩:=aY m.out.ty;unfold js;clear hS;go_enter xG,xu
  go_wp2_with fail
  have uu:aW p:=EV.out p m.out;refine(TH.out p m.out.st uu).mono ?_;rintro e z ⟨rfl,J,l⟩;have j:=za (m.out.eQ l J.rdr);obtain⟨U,O,Z,p3,R,N⟩:=fy (show af z w.heap.size 223 #[_,_,_,_,_,_]from j.out.rdg);clear J l;go_wp2_with fail
  refine(rj _ _ _ (.inl ⟨rfl,w.heap.size+1,rfl,rfl⟩) 0 (fun _=>a) (fun _ _=>true) (fun i n r=>uJ (fun n r=>a.rd M n r) (0-i) n r) (fun _=>dA) (fun _=>a.sub.length) (fun _=>dc) z g gl q s c Ne _ M (n+1) j.out.st hk hs (by omega) Ne ⟨0,[],0,[]⟩ (VR.Ut M 0 s a) (fun h=>absurd h u) (fun _=>rfl) (za fun i hi=>by omega) (za fun i hi=>by omega)).mono ?_;rintro e w2 ⟨X,c0,c1,c2,G,S,rfl,x,H,l,F,K⟩;obtain⟨y,bx,rfl,rfl,rfl,_⟩:=x.open_;have E:=za (j.out.MA l H);have HX:=za (x.oU (b:=w.heap.size+1+1) (by have:=j.out.siz;omega) X.text X.list (.slice y X.sub.length bx));have WN:=za K;clear x H l K;obtain⟨n0,n1,n2,m0,m1,m2⟩:=je E.out.res;obtain⟨d,k,y0,y1,y2⟩:=E.out.ends (.string X.text) (.bool X.list) (.slice y X.sub.length bx);have E1:=za d;have E2:=za k;clear d k;go_wp2;have d:=E1.out;have k:=E2.out;refine zj (v:= .agg #[.string X.text,.bool X.list,.slice y X.sub.length bx]) (by simp[results,yY,go_sem,y0,y1,y2]) rfl ?_;exact⟨X,_,_,_,G,S,rfl,HX.out.eG (fun _ _ h=>by have:=j.out.siz;omega),d,k,F,fun h=>absurd h u⟩
 ·rw[zf (by rw[u];simp),zg (by omega)];rw[hE,Ux,hK]at TH;have m:=za (I.out.less (M-n-1));generalize vM:W3.setCell (gl,0) (.int .i64 (M-n-1))=p at*;clear q0 q1 Y W;obtain⟨U,O,Z,p3,R,N⟩:=fy (show af p w.heap.size 223 #[_,_,_,_,_,_]from m.out.rdg);obtain⟨q0,q1,Y,W,_⟩:=aY m.out.ty;unfold js;clear hS;go_enter xG,xu
  go_wp2_with fail
  have uu:aW p:=EV.out p m.out;refine(TH.out p m.out.st uu).mono ?_;rintro e z ⟨rfl,J,l⟩;have j:=za (m.out.eQ l J.rdr);obtain⟨U,O,Z,p3,R,N⟩:=fy (show af z w.heap.size 223 #[_,_,_,_,_,_]from j.out.rdg);clear J l;go_wp2_with fail
  refine(rj _ _ _ (.inl ⟨rfl,w.heap.size+1,rfl,rfl⟩) 0 (fun _=>a) (fun _ _=>true) (fun i n r=>uJ (fun n r=>a.rd M n r) (0-i) n r) (fun _=>dA) (fun _=>a.sub.length) (fun _=>dc) z g gl q s c 5 _ M (n+1) j.out.st hk hs (by omega) 5 ⟨0,[],0,[]⟩ (VR.Ut M 0 s a) (fun h=>absurd h (by decide)) (fun _=>rfl) (za fun i hi=>by omega) (za fun i hi=>by omega)).mono ?_;rintro e w2 ⟨X,c0,c1,c2,G,S,rfl,x,H,l,F,K⟩;obtain⟨y,bx,rfl,rfl,rfl,_⟩:=x.open_;have E:=za (j.out.MA l H);have HX:=za (x.oU (b:=w.heap.size+1+1) (by have:=j.out.siz;omega) X.text X.list (.slice y X.sub.length bx));have WN:=za K;clear x H l K;obtain⟨n0,n1,n2,m0,m1,m2⟩:=je E.out.res;obtain⟨d,k,y0,y1,y2⟩:=E.out.ends (.string X.text) (.bool X.list) (.slice y X.sub.length bx);have E1:=za d;have E2:=za k;clear d k;go_wp2;have d:=E1.out;have k:=E2.out;refine zj (v:= .agg #[.string X.text,.bool X.list,.slice y X.sub.length bx]) (by simp[results,yY,go_sem,y0,y1,y2]) rfl ?_;exact⟨X,_,_,_,G,S,rfl,HX.out.eG (fun _ _ h=>by have:=j.out.siz;omega),d,k,F,fun h=>absurd h (show¬(5:Int)=0 by decide)⟩
 rw[zf (by rw[u];simp),zf (by omega)];rw[hE,Ux,hK]at TH;have aI:=Bb u;rw[xx];show Calls _ _ _ _ fun e w'=>gU w g gl q s M ⟨(uJ (fun n r=>a.rd M n r) Nm (n+1) (s.data.toList.drop (c+L))).e,.mk ⟨#[]⟩ true (uJ (fun n r=>a.rd M n r) Nm (n+1) (s.data.toList.drop (c+L))).xs,(uJ (fun n r=>a.rd M n r) Nm (n+1) (s.data.toList.drop (c+L))).n,(uJ (fun n r=>a.rd M n r) Nm (n+1) (s.data.toList.drop (c+L))).q⟩ e w'
 obtain⟨ab,hR⟩:∃ab,uJ (fun n r=>a.rd M n r) Nm (n+1) (s.data.toList.drop (c+L))=ab:=⟨_,rfl⟩
 rw[hR];have py:=za hR;clear hR;have m:=za (I.out.less (M-n-1));generalize vM:W3.setCell (gl,0) (.int .i64 (M-n-1))=p at*;clear q0 q1 Y W;obtain⟨U,O,Z,p3,R,N⟩:=fy (show af p w.heap.size 223 #[_,_,_,_,_,_]from m.out.rdg);obtain⟨q0,q1,Y,W,_⟩:=aY m.out.ty;unfold js;clear hS;go_enter xG,xu
 go_wp2_with fail
 have uu:aW p:=EV.out p m.out;refine(TH.out p m.out.st uu).mono ?_;rintro e z ⟨rfl,J,l⟩;have j:=za (m.out.eQ l J.rdr);obtain⟨U,O,Z,p3,R,N⟩:=fy (show af z w.heap.size 223 #[_,_,_,_,_,_]from j.out.rdg);clear J l;go_wp2_with fail
 have mR:af z (w.heap.size+1) 70 #[(4:Int),D,.slice (some (b,o)) 1 cap,(0:Int)]:=by rw[aj.out];exact j.out.ty
 have iV:∀V,ae [g,gl] z V->ae [g,gl] w V/\Below B w V:=fun V h=>⟨j.out.only.trans h,(j.out.only.trans h).below hB (by simp;omega)⟩
 refine(rj _ _ _ (.inl ⟨rfl,w.heap.size+1,rfl,rfl⟩) Nm (fun _=>a) (fun _ _=>true) (fun i n r=>uJ (fun n r=>a.rd M n r) (Nm-i) n r) (fun _=>dA) (fun _=>a.sub.length) (fun _=>dc) z g gl q s (c+L) 0 _ M (n+1) j.out.st (by omega) hs (by omega) ab.e ab (VR.Ut M Nm s a) (fun _=>⟨by omega,by rw[<-py.out];simp,rfl⟩) (fun h=>absurd rfl h) (za fun i hi V G f' S UP hV F=>by
  obtain⟨u,C⟩:=iV V UP;obtain⟨e0,d,k,e3⟩:=HE.out;exact aaQ i (w.heap.size+1) b o 1 cap 4 D 0 _ _ _ _ V (mR.only UP (by simp;omega)) (by omega) (by omega) ((C.cell gu).trans e0) ((C.cell gu).trans d) ((C.cell gu).trans k) ((C.cell gu).trans e3) (by have:=C.size;omega) _ _ _ _ _ _ rfl rfl rfl rfl) (za fun i hi V G n' UP hV F=>by
  obtain⟨u,C⟩:=iV V UP;exact IH.out V _ _ _ _ G n' (ak.out.below C) (by have:=C.size;omega) hV F (I8.out.only u (by simp;omega)))).mono ?_
 rintro e w2 ⟨X,c0,c1,c2,G,S,rfl,x,H,l,F,K⟩;obtain⟨y,bx,rfl,rfl,rfl,_⟩:=x.open_;have E:=za (j.out.MA l H);have HX:=za (x.oU (b:=w.heap.size+1+1) (by have:=j.out.siz;omega) X.text X.list (.slice y X.sub.length bx));have WN:=za K;clear x H l K;obtain⟨n0,n1,n2,m0,m1,m2⟩:=je E.out.res;obtain⟨d,k,y0,y1,y2⟩:=E.out.ends (.string X.text) (.bool X.list) (.slice y X.sub.length bx);have E1:=za d;have E2:=za k;clear d k;go_wp2;have d:=E1.out;have k:=E2.out;refine zj (v:= .agg #[.string X.text,.bool X.list,.slice y X.sub.length bx]) (by simp[results,yY,go_sem,y0,y1,y2]) rfl ?_;exact⟨X,_,_,_,G,S,rfl,HX.out.eG (fun _ _ h=>by have:=j.out.siz;omega),d,k,F,WN.out⟩
theorem OU {A:Option Addr}(h:eZ w B l A 0):∃p:Nat->Option Addr×Nat,∀i (hi:i<l.length),∃b o,A=some ⟨b,o,none⟩/\b<B/\(w,b,o+i*4,Value.int .i64 (l[i]).kind)/\(w,b,o+i*4+1,Value.int .i64 (l[i]).size)/\(w,b,o+i*4+2,Value.slice (p i).1 (l[i]).sub.length (p i).2)/\(w,b,o+i*4+3,Value.int .i64 (l[i]).tail)/\cz w B l[i] (.int .i64 (l[i]).kind) (.int .i64 (l[i]).size) (.slice (p i).1 (l[i]).sub.length (p i).2) (.int .i64 (l[i]).tail):=by
 have key:∀i,∃p:Option Addr×Nat,∀(hi:i<l.length),∃b o,A=some ⟨b,o,none⟩/\b<B/\(w,b,o+i*4,Value.int .i64 (l[i]).kind)/\(w,b,o+i*4+1,Value.int .i64 (l[i]).size)/\(w,b,o+i*4+2,Value.slice p.1 (l[i]).sub.length p.2)/\(w,b,o+i*4+3,Value.int .i64 (l[i]).tail)/\cz w B l[i] (.int .i64 (l[i]).kind) (.int .i64 (l[i]).size) (.slice p.1 (l[i]).sub.length p.2) (.int .i64 (l[i]).tail):=fun i=>by
  by_cases hi:i<l.length
  ·obtain⟨b,o,r,x,s,u,m,q,c,j,e,d,k⟩:=h.at_ i hi;obtain⟨n,cap,rfl,rfl,rfl,rfl,_⟩:=k.open_;simp only[zK]at c j e d;exact⟨(n,cap),fun _=>⟨b,o,m,q,c,j,e,d,k⟩⟩
  exact⟨(none,0),fun h=>absurd h hi⟩
 exact⟨fun i=>Classical.choose (key i),fun i hi=>Classical.choose_spec (key i) hi⟩
theorem Sv {i:Nat}(h:i<l.length):l[i]?.getD (.mk 0 0 [] 0)=l[i]:=by simp[h]
theorem Kn (l:List Ty)(c:Int)(B:Nat)(A:Option Addr)(cap:Nat)(w:World)(g gl j:Nat)(s:ByteArray)(d n:Nat)(M:Int)(hS:jC w g gl j s d 0 (M-n))(hk:d<=s.size)(hs:s.size<=1099511627776)(hM:¬M<=n)(DB:M<=1024)(hl:l.length<=16)(oO:0<=c)(K4:c<=l.length)(hL:aW w)(hg:0<g)(j7:0<gl)
 (hT:eZ w B l A 0) (hB:B<=w.heap.size) (aa:B<=g) (Dn:B<=gl)
 (IH:Hid (∀a∈l,∀V Z c1 L c3 d (n:Nat),cz V B a Z c1 L c3->B<=V.heap.size->jC V g gl j s d 0 (M-n)->d<=s.size->aW V->Calls prog 164 #[js g gl j,.agg #[Z,c1,L,c3]] V fun e w'=>gU V g gl j s M (a.rd M n (s.data.toList.drop d)) e w')):
 Calls prog 164 #[js g gl j,.agg #[(5:Int),(0:Int),.slice A l.length cap,c]] w fun e w'=>gU w g gl j s M ((Ty.mk 5 0 l c).rd M n (s.data.toList.drop d)) e w':=by
 have aD:=hS.rdr.lt;have qb:=hS.left.lt;have d0:decide (M-(n:Int)<=0)=false:=zt (by omega);rw[vx hM];obtain⟨p,hp⟩:=OU hT;have HP:=za hp;have I8:=za hL;show Calls _ _ _ _ fun e w'=>gU w g gl j s M ⟨(ox M l ((l.length:Int)-c).toNat (n+1) (s.data.toList.drop d)).e,.mk ⟨#[]⟩ true (ox M l ((l.length:Int)-c).toNat (n+1) (s.data.toList.drop d)).xs,(ox M l ((l.length:Int)-c).toNat (n+1) (s.data.toList.drop d)).n,(ox M l ((l.length:Int)-c).toNat (n+1) (s.data.toList.drop d)).q⟩ e w'
 obtain⟨R,W⟩:∃R,ox M l ((l.length:Int)-c).toNat (n+1) (s.data.toList.drop d)=R:=⟨_,rfl⟩
 rw[W];have py:=za W;clear W hp hT;obtain⟨z,E,ez,el⟩:∃(z:Int) (E:List Ty),z=0/\E=l:=⟨_,_,rfl,rfl⟩
 rw[<-ez];rw[show l.length=E.length from by rw[el]];have D:=za (uQ.start (tc:= #[.int .i64 (5),z,.slice A E.length cap,c]) hS);generalize lF:(((w.alloc (.cells (j8 g gl j) 223)).alloc (.cells #[.int .i64 (5),z,.slice A E.length cap,c] 70)).alloc (.cells #[eS,false,nS] 28))=S at*;unfold j8 at lF;obtain⟨p0,p1,p2,p3,p4,p5⟩:=fy (show af S w.heap.size 223 #[_,_,_,_,_,_]from D.out.rdg);obtain⟨q0,q1,q2,q3,_⟩:=aY D.out.ty;have l0:S.cell? (gl,0)=some (.int .i64 (M-n)):=D.out.st.left.cell 0;have l1:=D.out.st.left.frozen 0;subst ez;obtain⟨J,Y⟩:∃J,E.length=J:=⟨_,rfl⟩
 have u:Hid (l.length=J):=za (by rw[<-Y,el]);rw[Y]at lF D⊢;clear Y el hL;have q:=za (D.out.less (M-n-1));generalize vM:S.setCell (gl,0) (.int .i64 (M-n-1))=K at*;clear q0 q1 q2 q3;obtain⟨p0,p1,p2,p3,p4,p5⟩:=fy (show af K w.heap.size 223 #[_,_,_,_,_,_]from q.out.rdg);obtain⟨q0,q1,q2,q3,_⟩:=aY q.out.ty;unfold js;clear hS;go_enter xG,xu
 go_wp2_with fail
 have mR:=q.out.ty;have iV:∀V,ae [g,gl] K V->ae [g,gl] w V/\Below B w V:=fun V h=>⟨q.out.only.trans h,(q.out.only.trans h).below hB (by simp;omega)⟩
 refine(rj _ _ _ (.inr ⟨rfl,w.heap.size+1,w.heap.size,rfl,rfl⟩) J (fun i=>l[i]?.getD (.mk 0 0 [] 0)) (fun i k=>decide ((i:Int)<(l.length:Int)-c)||decide (k<s.size)) (fun i n r=>ox M (l.drop i) (((l.length:Int)-c).toNat-i) n r) (fun i=>(p i).1) (fun i=>(l[i]?.getD (.mk 0 0 [] 0)).sub.length) (fun i=>(p i).2) K g gl j s d 0 _ M (n+1) q.out.st hk hs (by have:=u.out;omega) R.e R (by rw[<-u.out];exact VR.ofT M s l c oO) (fun _=>⟨by omega,by rw[<-py.out];simp,rfl⟩) (fun h=>absurd rfl h) (za fun i hi V H f' N I U G=>by
  obtain⟨h1,m⟩:=iV V I;have C:i<l.length:=by rw[u.out];exact hi
  rw[Sv C];obtain⟨b,o,hA,F,e0,x,y,e3,_⟩:=HP.out i C;rw[hA]at mR;have:=m.size;rw[u.out];exact aaR i (w.heap.size+1) w.heap.size g gl j b o J cap s H N 5 0 c _ _ _ _ V (mR.only I (by simp;omega)) (q.out.rdg.only I (by simp;omega)) f' U G (by omega) hi (by have:=u.out;omega) oO (by have:=u.out;omega) ((m.cell F).trans e0) ((m.cell F).trans x) ((m.cell F).trans y) ((m.cell F).trans e3) (by omega) _ _ _ _ _ _ rfl rfl rfl rfl) (za fun i hi V H n' I U G=>by
  obtain⟨h1,m⟩:=iV V I;have C:i<l.length:=by rw[u.out];exact hi
  rw[Sv C];obtain⟨b,o,hA,F,e0,x,y,e3,Bs⟩:=HP.out i C;exact IH.out _ (zA C) V _ _ _ _ H n' (Bs.below m) (by have:=m.size;omega) U G (I8.out.only h1 (by simp;omega)))).mono ?_
 have O:=q;rintro e w2 ⟨X,Z,c1,L,H,N,rfl,hX,uC,ho,G,iW⟩;obtain⟨ax,bx,rfl,rfl,rfl,_⟩:=hX.open_;have uD:=za (O.out.MA ho uC);have HX:=za (hX.oU (b:=w.heap.size+1+1) (by have:=O.out.siz;omega) X.text X.list (.slice ax X.sub.length bx));have WN:=za iW;clear hX uC ho iW;obtain⟨n0,n1,n2,m0,m1,m2⟩:=je uD.out.res;obtain⟨x,y,y0,y1,y2⟩:=uD.out.ends (.string X.text) (.bool X.list) (.slice ax X.sub.length bx);have E1:=za x;have E2:=za y;clear x y;go_wp2;have x:=E1.out;have y:=E2.out;refine zj (v:= .agg #[.string X.text,.bool X.list,.slice ax X.sub.length bx]) (by simp[results,yY,go_sem,y0,y1,y2]) rfl ?_;exact⟨X,_,_,_,H,N,rfl,HX.out.eG (fun _ _ h=>by have:=O.out.siz;omega),x,y,G,WN.out⟩
theorem VS :∀(x:Ty) (B:Nat) (w:World) (D O L F:Value) (g gl d:Nat) (s:ByteArray) (c n:Nat) (M:Int),cz w B x D O L F->B<=w.heap.size->B<=g->B<=gl->x.right=true->jC w g gl d s c 0 (M-n)->c<=s.size->s.size<=1099511627776->M<=1024->aW w->0<g->0<gl->
 Calls prog 164 #[js g gl d,.agg #[D,O,L,F]] w fun e w'=>gU w g gl d s M (x.rd M n (s.data.toList.drop c)) e w':=by
 intro x;induction x using Ty.ind with
 |h ki z l ta ih=>
  intro B w D O L F g gl d s c n M h W u y Y hS p m k N r q;obtain⟨rfl,rfl,rfl,_,_,_,Tc,A,cap,rfl,od,jf,S⟩:=h;obtain⟨Z,U⟩:=jJ Y;by_cases i:M<=n
  ·rw[LV i];exact Kk ki z ta l A cap w g gl d s c n M hS p i
  rcases kq Z with⟨rfl,C,o,rfl⟩|⟨rfl,C,I,o,rfl⟩|⟨rfl,C,I,o,rfl⟩|⟨rfl,C,I,o,rfl⟩|⟨rfl,rfl,I,h5,h6⟩
  ·obtain rfl:l= []:=zk o;obtain⟨b,rfl⟩:∃b:Nat,z=b:=⟨z.toNat,by omega⟩
   exact OS b A cap w g gl d s c n M hS p m i k (by omega) (by omega)
  ·obtain rfl:l= []:=zk o;obtain⟨b,rfl⟩:∃b:Nat,z=b:=⟨z.toNat,by omega⟩
   exact OT b A cap w g gl d s c n M hS p m i k (by omega)
  ·obtain rfl:l= []:=zk o;obtain⟨b,rfl⟩:∃b:Nat,z=b:=⟨z.toNat,by omega⟩
   exact G7 b A cap w g gl d s c n M hS p m i k (by omega) N r q
  ·obtain⟨a,rfl⟩:=Yz.1 o;obtain⟨b,rfl⟩:∃b:Nat,z=b:=⟨z.toNat,by omega⟩
   have X:a.right=true:=by simpa[bS]using U
   exact Km a b B A cap w g gl d s c n M hS p m i k (by omega) N r q S W u y (za fun V d0 d1 d2 d3 c n E H G K J=>ih a (by simp) B V d0 d1 d2 d3 g gl d s c n M E H u y X G K m k J r q)
  exact Kn l ta B A cap w g gl d s c n M hS p m i k (by omega) (by omega) (by omega) N r q S W u y (za fun a R V d0 d1 d2 d3 c n E H G K J=>by
   obtain⟨j,hj,rfl⟩:=yS R;exact ih _ R B V d0 d1 d2 d3 g gl d s c n M E H u y (eK U j hj) G K m k J r q)
theorem Au (most b:Int)(c a u t p:Nat)(s:ByteArray)(w:World)(m:s.size<=9223372036854775807)(j: -9223372036854775808<=most)(n:most<=9223372036854775807)(k:uP w c a u t p)(r:a<=9223372036854775807)(hu:u+70000<=a)(y:t+70000<=9223372036854775807)(z:b<=70000):
 Calls prog 101 #[most,b,(c,0),s] w fun e w'=>e=Dd (aT most b s)/\(∃q,uP w' c a (u+(aT most b s).2.2.2.2) (t+(aT most b s).2.2.2.2) q)/\ae [c] w w':=by
 by_cases hx:(an most s).1≠0\/(aB (an most s).2.2.1).2.2≠0\/b<(aB (an most s).2.2.1).1
 ·have hz:(aT most b s).2.2.2.2=0:=by
   rw[bP];by_cases i:(an most s).1≠0
   ·rw[zg i]
   rw[zf i];by_cases d:(aB (an most s).2.2.1).2.2≠0
   ·rw[zg d]
   rw[zf d,zg (by rcases hx with h|h|h;exact absurd h i;exact absurd h d;exact h)]
  rw[hz];exact(BS most b c s w m j n hx).mono fun e w' ⟨o,l⟩=>⟨o,⟨p,k.only l (by simp)⟩,l.mono (by simp)⟩
 have i:(an most s).1=0:=Decidable.byContradiction fun h=>hx (.inl h)
 have d:(aB (an most s).2.2.1).2.2=0:=Decidable.byContradiction fun h=>hx (.inr (.inl h))
 have x:((aB (an most s).2.2.1).1:Int)<=b:=by
  have:¬b<(aB (an most s).2.2.1).1:=fun h=>hx (.inr (.inr h))
  omega
 have hz:(aT most b s).2.2.2.2=(aB (an most s).2.2.1).1:=by
  rw[bP,zf (by rw[i];simp),zf (by rw[d];simp),zf (by omega)];split<;>rfl
 rw[hz];exact BT most b c a u t p s w m j n k r i d x (by omega) (by omega)
theorem Ko (most b:Int)(s:ByteArray):(aT most b s).2.2.2.2=0\/((aT most b s).2.2.2.2:Int)<=b:=by
 rw[bP];split
 ·exact .inl rfl
 split
 ·exact .inl rfl
 split
 ·exact .inl rfl
 right;split<;>simp only<;>omega
