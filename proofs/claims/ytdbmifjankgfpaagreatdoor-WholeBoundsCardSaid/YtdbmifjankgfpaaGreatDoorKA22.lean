/- packed.Next by a meter with much room. -/
import Derived.Test.YtdbmifjankgfpaaGreatDoorKA21
import Derived.Test.YtdbmifjankgfpaaGreatDoorKA24
set_option linter.all false
set_option maxRecDepth 100000
set_option maxHeartbeats 4000000
open Go.Proofs.Tryz
namespace Go.Proofs.YtdbmifjankgfpaaGreatDoor
open Go.RowKit
variable {w V V':World}{g k d e B:Nat}{s:ByteArray}{f m i:Int}{tc:Array Value}{acc:List It}{v:Value}{l:List Ty}
def yN:=@results183
def yV:=@ntmps183
def yZ:=@func183
def ZW:=@Nat.sub_sub
theorem vX (most b:Int)(d a u t p:Nat)(s:ByteArray)(w:World)(l:s.size<=9223372036854775807)(k: -9223372036854775808<=most)(m:most<=9223372036854775807)(j:ra w d a u t p)(o:a<=9223372036854775807)(hu:u+70000<=a)(z:t+70000<=9223372036854775807)(y:b<=70000):
 Calls prog 83 #[.int .i64 most,.int .i64 b,.pointer (some ⟨d,0,none⟩),.string s] w fun e w'=>e=Ck (aQ most b s)/\(∃q,ra w' d a (u+(aQ most b s).2.2.2.2) (t+(aQ most b s).2.2.2.2) q)/\ae [d] w w':=by
 by_cases hx:(aj most s).1≠0\/(aB (aj most s).2.2.1).2.2≠0\/b<(aB (aj most s).2.2.1).1
 ·have hz:(aQ most b s).2.2.2.2=0:=by
   rw[bC];by_cases i:(aj most s).1≠0
   ·rw[zi i]
   rw[zh i];by_cases c:(aB (aj most s).2.2.1).2.2≠0
   ·rw[zi c]
   rw[zh c,zi (by rcases hx with h|h|h;exact absurd h i;exact absurd h c;exact h)]
  rw[hz];exact(AP most b d s w l k m hx).mono fun e w' ⟨x,n⟩=>⟨x,⟨p,j.only n (by simp)⟩,n.mono (by simp)⟩
 have i:(aj most s).1=0:=Decidable.byContradiction fun h=>hx (.inl h)
 have c:(aB (aj most s).2.2.1).2.2=0:=Decidable.byContradiction fun h=>hx (.inr (.inl h))
 have r:((aB (aj most s).2.2.1).1:Int)<=b:=by
  have:¬b<(aB (aj most s).2.2.1).1:=fun h=>hx (.inr (.inr h))
  omega
 have hz:(aQ most b s).2.2.2.2=(aB (aj most s).2.2.1).1:=by
  rw[bC,zh (by rw[i];simp),zh (by rw[c];simp),zh (by omega)];split<;>rfl
 rw[hz];exact AQ most b d a u t p s w l k m j o i c r (by omega) (by omega)
theorem IW (most b:Int)(s:ByteArray):(aQ most b s).2.2.2.2=0\/((aQ most b s).2.2.2.2:Int)<=b:=by
 rw[bC];split
 ·exact .inl rfl
 split
 ·exact .inl rfl
 split
 ·exact .inl rfl
 right;split<;>simp only<;>omega
def gY (w:World)(g gl fb:Nat)(s:ByteArray)(M:Int)(R:SL)(e:Ending)(w':World):Prop:=
 ∃(X:It) (c0 c1 c2:Value) (k':Nat) (m':Int),e= .returned (.agg #[c0,c1,c2])/\gz w' (w.heap.size<= ·) X c0 c1 c2/\jI w' g gl fb s k' R.e m'/\ae [g,gl] w w'/\k'<=s.size/\(R.e=0->X=R.x/\R.q=s.data.toList.drop k'/\m'=M-R.n)
theorem jI.kK {gl c:Nat}{n:Array Value}(h:jI w g gl e s k f m)(d:af w c 28 n)(i j l:Value):jI (((w.setCell ⟨c,0,none⟩ i).setCell ⟨c,1,none⟩ j).setCell ⟨c,2,none⟩ l) g gl e s k f m:=
 have n1:=h.rdr.DY d (by decide);have n2:=h.left.DY d (by decide);have b:=h.box.DY d (by decide)
 ⟨((af.dN (show af w g _ _ from h.rdr) (p:=⟨c,0,none⟩) n1 _).dN (p:=⟨c,1,none⟩) n1 _).dN (p:=⟨c,2,none⟩) n1 _,((h.left.dN (p:=⟨c,0,none⟩) n2 _).dN (p:=⟨c,1,none⟩) n2 _).dN (p:=⟨c,2,none⟩) n2 _,((h.box.dN (p:=⟨c,0,none⟩) b _).dN (p:=⟨c,1,none⟩) b _).dN (p:=⟨c,2,none⟩) b _⟩
theorem jI.less {gl b:Nat}(h:jI w g gl b s k f m)(u:Int):jI (w.setCell ⟨gl,0,none⟩ (.int .i64 u)) g gl b s k f u:=
 ⟨af.dN (show af w g _ _ from h.rdr) (p:=⟨gl,0,none⟩) h.apart.1.symm _,one_setCell h.left,h.box.dN (p:=⟨gl,0,none⟩) h.apart.2.2 _⟩
structure uq (w:World)(g gl fb:Nat)(s:ByteArray)(k:Nat)(f m:Int)(tc:Array Value)(V:World):Prop where
 rdg:af V w.heap.size 240 (kf g gl fb)
 ty:af V (w.heap.size+1) 43 tc
 res:af V (w.heap.size+1+1) 28 #[.string ⟨#[]⟩,.bool false,.slice none 0 0]
 st:jI V g gl fb s k f m
 only:ae [g,gl] w V
 siz:w.heap.size+3<=V.heap.size
theorem uq.start {gl b:Nat}(h:jI w g gl b s k f m):uq w g gl b s k f m tc (((w.alloc (.cells (kf g gl b) 240)).alloc (.cells tc 43)).alloc (.cells #[.string ⟨#[]⟩,.bool false,.slice none 0 0] 28)) where
 rdg:=((af.new w _ _).alloc _).alloc _
 ty:=af.alloc (af.at_ (by simp)) _
 res:=af.at_ (by simp)
 st:=h.below ((((zm _ w).alloc (zg _) _).alloc (by simp) _).alloc (by simp;omega) _)
 only:=(((ae.refl _ w).alloc _).alloc _).alloc _
 siz:=by simp
theorem uq.less {gl b:Nat}(h:uq w g gl b s k f m tc V)(u:Int):uq w g gl b s k f u tc (V.setCell ⟨gl,0,none⟩ (.int .i64 u)) where
 rdg:=h.rdg.dN (p:=⟨gl,0,none⟩) (h.rdg.DY h.st.left (by decide)) _
 ty:=h.ty.dN (p:=⟨gl,0,none⟩) (h.ty.DY h.st.left (by decide)) _
 res:=h.res.dN (p:=⟨gl,0,none⟩) (h.res.DY h.st.left (by decide)) _
 st:=h.st.less u
 only:=h.only.setCell (by simp) _
 siz:=by have:=h.siz;simpa[World.setCell]using this
theorem uq.dF {gl:Nat}{c:Nat}{d:Int}(h:uq w g gl e s k f m tc V)(b:ae [g] V V')(i:ji V' g s c d):uq w g gl e s c d m tc V' where
 rdg:=h.rdg.only b (by simp[h.rdg.DY h.st.rdr (by decide)])
 ty:=h.ty.only b (by simp[h.ty.DY h.st.rdr (by decide)])
 res:=h.res.only b (by simp[h.res.DY h.st.rdr (by decide)])
 st:=h.st.dF b i
 only:=h.only.trans (b.mono (by simp))
 siz:=zF h.siz b.size
theorem uq.below {gl c:Nat}(h:uq w g gl c s k f m tc V)(b:Below V.heap.size V V'):uq w g gl c s k f m tc V' where
 rdg:=(b.block _ h.rdg.lt).trans h.rdg
 ty:=(b.block _ h.ty.lt).trans h.ty
 res:=(b.block _ h.res.lt).trans h.res
 st:=h.st.below b
 only:=h.only.trans ((ae.ah b (zg _)).mono (by simp))
 siz:=zF h.siz b.size
theorem uq.ends {gl:Nat}(h:uq w g gl e s k f m tc V)(b c d:Value):
 jI (((V.setCell ⟨w.heap.size+1+1,0,none⟩ b).setCell ⟨w.heap.size+1+1,1,none⟩ c).setCell ⟨w.heap.size+1+1,2,none⟩ d) g gl e s k f m/\ae [g,gl] w (((V.setCell ⟨w.heap.size+1+1,0,none⟩ b).setCell ⟨w.heap.size+1+1,1,none⟩ c).setCell ⟨w.heap.size+1+1,2,none⟩ d)/\
 (V.setCell ⟨w.heap.size+1+1,0,none⟩ b).cell? ⟨w.heap.size+1+1,0,none⟩=some b/\((V.setCell ⟨w.heap.size+1+1,0,none⟩ b).setCell ⟨w.heap.size+1+1,1,none⟩ c).cell? ⟨w.heap.size+1+1,1,none⟩=some c/\(((V.setCell ⟨w.heap.size+1+1,0,none⟩ b).setCell ⟨w.heap.size+1+1,1,none⟩ c).setCell ⟨w.heap.size+1+1,2,none⟩ d).cell? ⟨w.heap.size+1+1,2,none⟩=some d:=
 ⟨h.st.kK h.res b c d,((h.only.setCell (by simp;omega) _).setCell (by simp;omega) _).setCell (by simp;omega) _,by have:=(h.res.set 0 b).cell 0;simpa using this,by have:=((h.res.set 0 b).set 1 c).cell 1;simpa using this,by have:=(((h.res.set 0 b).set 1 c).set 2 d).cell 2;simpa using this⟩
theorem gZ {t:TypeId}{a b c:Value}(h:af w g t #[a,b,c]):w.cell? ⟨g,0,none⟩=some a/\w.cell? ⟨g,1,none⟩=some b/\w.cell? ⟨g,2,none⟩=some c/\w.frozen? ⟨g,0,none⟩=false/\w.frozen? ⟨g,1,none⟩=false/\w.frozen? ⟨g,2,none⟩=false:=⟨h.cell 0,h.cell 1,h.cell 2,h.frozen 0,h.frozen 1,h.frozen 2⟩
theorem IX (k z l:Int)(o:List Ty)(A:Option Addr)(cap:Nat)(w:World)(g gl d:Nat)(s:ByteArray)(c n:Nat)(M:Int)(hS:jI w g gl d s c 0 (M-n))(F:c<=s.size)(I:M<=n):
 Calls prog 183 #[iB g gl d,.agg #[.int .i64 k,.int .i64 z,.slice A o.length cap,.int .i64 l]] w fun e w'=>gY w g gl d s M (.bad 4 n (s.data.toList.drop c)) e w':=by
 have X:decide (M-(n:Int)<=0)=true:=zD (by omega);have b:=za (uq.start (tc:= #[.int .i64 (k),.int .i64 z,.slice A o.length cap,.int .i64 l]) hS);generalize x:(((w.alloc (.cells (kf g gl d) 240)).alloc (.cells #[.int .i64 (k),.int .i64 z,.slice A o.length cap,.int .i64 l] 43)).alloc (.cells #[.string ⟨#[]⟩,.bool false,.slice none 0 0] 28))=m at*;unfold kf at x;obtain⟨J,N,Z,U,W,R⟩:=eR (show af m w.heap.size 240 #[_,_,_,_,_,_]from b.out.rdg);obtain⟨H,G,K,O,_⟩:=aS b.out.ty;have Y:m.cell? ⟨gl,0,none⟩=some (.int .i64 (M-n)):=b.out.st.left.cell 0;have B:=za (iX g s c 4 m b.out.st.rdr);unfold iB;clear hS;go_enter yZ,yV
 go_wp2_with fail
 refine B.out.mono ?_;rintro e L ⟨rfl,p,r⟩;have q:=za (b.out.dF r p);clear p r;obtain⟨S,n1,n2,m0,m1,m2⟩:=gZ q.out.res;obtain⟨i,j,u,C,y⟩:=q.out.ends (.string ⟨#[]⟩) (.bool false) (.slice none 0 0);have D:=za i;have E:=za j;clear i j;go_wp2;have i:=D.out;have j:=E.out;refine zj (v:= .agg #[.string ⟨#[]⟩,.bool false,.slice none 0 0]) (by simp[results,yN,go_sem,u,C,y]) rfl ?_;exact⟨ju,_,_,_,c,_,rfl,gz.text false (by simp[ByteArray.size]),i,j,F,fun h=>absurd h (show¬(4:Int)=0 by decide)⟩
theorem vY (s:ByteArray)(k n:Nat):(s.extract k (k+n)).data.toList=(s.data.toList.drop k).take n:=by
 rw[ar,ZP,show k+n-k=n from by omega]
theorem Nb (b:Nat)(A:Option Addr)(cap:Nat)(w:World)(g gl H:Nat)(s:ByteArray)(c n:Nat)(M:Int)(hS:jI w g gl H s c 0 (M-n))(hk:c<=s.size)(hs:s.size<=1099511627776)(hM:¬M<=n)(uA:M<=1024)(hz:1<=b)(SY:b<=8):
 Calls prog 183 #[iB g gl H,.agg #[.int .i64 1,.int .i64 b,.slice A ([]:List Ty).length cap,.int .i64 0]] w fun e w'=>gY w g gl H s M ((Ty.mk 1 b [] 0).rd M n (s.data.toList.drop c)) e w':=by
 have d0:decide (M-(n:Int)<=0)=false:=zv (by omega);rw[Ik hM,show((b:Int)).toNat=b from rfl,zK,aa];obtain⟨z,C,I,Z,Y,el⟩:∃(z C:Int) (I:List Ty),z=b/\C=0/\I= []:=⟨_,_,_,rfl,rfl,rfl⟩
 rw[<-Z,<-Y,<-el];have k:=za (uq.start (tc:= #[.int .i64 (1),.int .i64 z,.slice A I.length cap,.int .i64 C]) hS);generalize U:(((w.alloc (.cells (kf g gl H) 240)).alloc (.cells #[.int .i64 (1),.int .i64 z,.slice A I.length cap,.int .i64 C] 43)).alloc (.cells #[.string ⟨#[]⟩,.bool false,.slice none 0 0] 28))=F at*;unfold kf at U;obtain⟨S,W,p2,p3,p4,p5⟩:=eR (show af F w.heap.size 240 #[_,_,_,_,_,_]from k.out.rdg);obtain⟨y,x,D,G,_⟩:=aS k.out.ty;have l0:F.cell? ⟨gl,0,none⟩=some (.int .i64 (M-n)):=k.out.st.left.cell 0;have l1:=k.out.st.left.frozen 0;subst Z Y el;simp only[zJ]at U k;by_cases wR:s.size<c+b
 ·rw[zi (by omega)];have j:=za (k.out.less (M-n-1));generalize sx:F.setCell ⟨gl,0,none⟩ (.int .i64 (M-n-1))=o at*;clear y x D G;obtain⟨S,W,p2,p3,p4,p5⟩:=eR (show af o w.heap.size 240 #[_,_,_,_,_,_]from j.out.rdg);obtain⟨y,x,D,G,_⟩:=aS j.out.ty;unfold iB;clear hS;go_enter yZ,yV
  go_wp2_with fail
  refine(gA g s c b o j.out.st.rdr hk (by omega) wR (by omega)).mono ?_;rintro e q ⟨rfl,l,u⟩;have K:=za (j.out.dF u l);clear l u;go_wp2_with fail
  refine(nB ⟨#[]⟩ q rfl).mono ?_;rintro e w' ⟨rfl,rfl⟩;go_wp2_with fail
  refine(FH 0 q (by omega)).mono ?_;rintro e w2 ⟨rfl,p⟩;have r:=za (K.out.below p);clear p;obtain⟨n0,n1,n2,m0,m1,m2⟩:=gZ r.out.res;obtain⟨d,i,J,O,L⟩:=r.out.ends (.string ⟨(cJ 0).toArray⟩) (.bool false) (.slice none 0 0);have R:=za d;have N:=za i;clear d i;go_wp2;have d:=R.out;have i:=N.out;refine zj (v:= .agg #[.string ⟨(cJ 0).toArray⟩,.bool false,.slice none 0 0]) (by simp[results,yN,go_sem,J,O,L]) rfl ?_;exact⟨.mk ⟨(cJ 0).toArray⟩ false [],_,_,_,c,_,rfl,gz.text false (by simp[dy,ByteArray.size]),d,i,hk,fun h=>absurd h (show¬(2:Int)=0 by decide)⟩
 rw[zh (by omega)];have E:=vY s c b;have X:(s.extract c (c+b)).size=b:=by rw[an s c (c+b) (by omega)];omega
 have HG:=za (fun V=>eo (s.extract c (c+b)) V (by omega) (by omega));rw[E]at HG;have B:=jK ((s.data.toList.drop c).take b);rw[<-E,aa,X]at B;have ab:2^(8*b)<=18446744073709551616:=le_pow _ SY;rw[E]at B;generalize dh ((s.data.toList.drop c).take b)=m at*;have HN:=za (fun V=>FH m V (by omega));have Cx:=iU b m B;have UK:Hid ((⟨(cJ m).toArray⟩:ByteArray).size<=9223372036854775807):=za (by rw[bP];omega);have Gx:Hid ((s.data.toList.drop c).drop b=s.data.toList.drop (c+b)):=za (by rw[xN]);generalize (⟨(cJ m).toArray⟩:ByteArray)=T at*;clear E X B Cx;have j:=za (k.out.less (M-n-1));generalize sx:F.setCell ⟨gl,0,none⟩ (.int .i64 (M-n-1))=o at*;clear y x D G;obtain⟨S,W,p2,p3,p4,p5⟩:=eR (show af o w.heap.size 240 #[_,_,_,_,_,_]from j.out.rdg);obtain⟨y,x,D,G,_⟩:=aS j.out.ty;unfold iB;clear hS;go_enter yZ,yV
 go_wp2_with fail
 refine(eH g s c b o j.out.st.rdr (by omega) (by omega)).mono ?_;rintro e q ⟨rfl,l,u⟩;have K:=za (j.out.dF u l);clear l u;go_wp2_with fail
 refine(HG.out q).mono ?_;rintro e w' ⟨rfl,rfl⟩;go_wp2_with fail
 refine(HN.out q).mono ?_;rintro e w2 ⟨rfl,p⟩;have r:=za (K.out.below p);clear p;obtain⟨n0,n1,n2,m0,m1,m2⟩:=gZ r.out.res;obtain⟨d,i,J,O,L⟩:=r.out.ends (.string T) (.bool false) (.slice none 0 0);have R:=za d;have N:=za i;clear d i;go_wp2;have d:=R.out;have i:=N.out;refine zj (v:= .agg #[.string T,.bool false,.slice none 0 0]) (by simp[results,yN,go_sem,J,O,L]) rfl ?_;exact⟨.mk T false [],_,_,_,c+b,_,rfl,gz.text false UK.out,d,i,by omega,fun _=>⟨rfl,Gx.out,by simp only;omega⟩⟩
theorem Nc (c:Nat)(A:Option Addr)(cap:Nat)(w:World)(g gl D:Nat)(s:ByteArray)(b n:Nat)(M:Int)(hS:jI w g gl D s b 0 (M-n))(hk:b<=s.size)(hs:s.size<=1099511627776)(hM:¬M<=n)(uA:M<=1024)(SY:c<=65536):
 Calls prog 183 #[iB g gl D,.agg #[.int .i64 2,.int .i64 c,.slice A ([]:List Ty).length cap,.int .i64 0]] w fun e w'=>gY w g gl D s M ((Ty.mk 2 c [] 0).rd M n (s.data.toList.drop b)) e w':=by
 have d0:decide (M-(n:Int)<=0)=false:=zv (by omega);rw[Il hM,show((c:Int)).toNat=c from rfl,zK,aa];obtain⟨z,x,E,W,U,el⟩:∃(z x:Int) (E:List Ty),z=c/\x=0/\E= []:=⟨_,_,_,rfl,rfl,rfl⟩
 rw[<-W,<-U,<-el];have k:=za (uq.start (tc:= #[.int .i64 (2),.int .i64 z,.slice A E.length cap,.int .i64 x]) hS);generalize O:(((w.alloc (.cells (kf g gl D) 240)).alloc (.cells #[.int .i64 (2),.int .i64 z,.slice A E.length cap,.int .i64 x] 43)).alloc (.cells #[.string ⟨#[]⟩,.bool false,.slice none 0 0] 28))=B at*;unfold kf at O;obtain⟨N,S,p2,p3,p4,Y⟩:=eR (show af B w.heap.size 240 #[_,_,_,_,_,_]from k.out.rdg);obtain⟨u,r,y,C,_⟩:=aS k.out.ty;have l0:B.cell? ⟨gl,0,none⟩=some (.int .i64 (M-n)):=k.out.st.left.cell 0;have l1:=k.out.st.left.frozen 0;subst W U el;simp only[zJ]at O k;by_cases wR:s.size<b+c
 ·rw[zi (by omega)];have j:=za (k.out.less (M-n-1));generalize sx:B.setCell ⟨gl,0,none⟩ (.int .i64 (M-n-1))=m at*;clear u r y C;obtain⟨N,S,p2,p3,p4,Y⟩:=eR (show af m w.heap.size 240 #[_,_,_,_,_,_]from j.out.rdg);obtain⟨u,r,y,C,_⟩:=aS j.out.ty;unfold iB;clear hS;go_enter yZ,yV
  go_wp2_with fail
  refine(gA g s b c m j.out.st.rdr hk (by omega) wR (by omega)).mono ?_;rintro e H ⟨rfl,l,q⟩;have G:=za (j.out.dF q l);clear l q;go_wp2_with fail
  refine(pf ⟨#[]⟩ H).mono ?_;rintro e w2 ⟨rfl,o⟩;have p:=za (G.out.below o);clear o;obtain⟨n0,n1,n2,m0,m1,m2⟩:=gZ p.out.res;obtain⟨d,i,F,K,I⟩:=p.out.ends (.string ⟨#[]⟩) (.bool false) (.slice none 0 0);have L:=za d;have J:=za i;clear d i;go_wp2;have d:=L.out;have i:=J.out;refine zj (v:= .agg #[.string ⟨#[]⟩,.bool false,.slice none 0 0]) (by simp[results,yN,go_sem,F,K,I]) rfl ?_;exact⟨ju,_,_,_,b,_,rfl,gz.text false (by simp[ByteArray.size]),d,i,hk,fun h=>absurd h (show¬(2:Int)=0 by decide)⟩
 rw[zh (by omega)];have R:=vY s b c;have Be:(s.extract b (b+c)).size=c:=by rw[an s b (b+c) (by omega)];omega
 have Z:Hid ((⟨((s.data.toList.drop b).take c).toArray⟩:ByteArray)=s.extract b (b+c)):=za (aM (by rw[R]));rw[Z.out];have UK:Hid ((s.extract b (b+c)).size<=9223372036854775807):=za (by omega);have Gx:Hid ((s.data.toList.drop b).drop c=s.data.toList.drop (b+c)):=za (by rw[xN]);clear R Be;have j:=za (k.out.less (M-n-1));generalize sx:B.setCell ⟨gl,0,none⟩ (.int .i64 (M-n-1))=m at*;clear u r y C;obtain⟨N,S,p2,p3,p4,Y⟩:=eR (show af m w.heap.size 240 #[_,_,_,_,_,_]from j.out.rdg);obtain⟨u,r,y,C,_⟩:=aS j.out.ty;unfold iB;clear hS;go_enter yZ,yV
 go_wp2_with fail
 refine(eH g s b c m j.out.st.rdr (by omega) (by omega)).mono ?_;rintro e H ⟨rfl,l,q⟩;have G:=za (j.out.dF q l);clear l q Z;generalize X:s.extract b (b+c)=T at*;have HT:=za X;clear X;go_wp2_with fail
 refine(pf T H).mono ?_;rintro e w2 ⟨rfl,o⟩;have p:=za (G.out.below o);clear o;obtain⟨n0,n1,n2,m0,m1,m2⟩:=gZ p.out.res;obtain⟨d,i,F,K,I⟩:=p.out.ends (.string T) (.bool false) (.slice none 0 0);have L:=za d;have J:=za i;clear d i;go_wp2;have d:=L.out;have i:=J.out;refine zj (v:= .agg #[.string T,.bool false,.slice none 0 0]) (by simp[results,yN,go_sem,F,K,I]) rfl ?_;exact⟨.mk T false [],_,_,_,b+c,_,rfl,gz.text false UK.out,d,i,by omega,fun _=>⟨by show It.mk T false []=It.mk (s.extract b (b+c)) false [];rw[HT.out],Gx.out,by simp only;omega⟩⟩
theorem jI.drew {gl b:Nat}(h:jI w g gl b s k f m):jI w.drew g gl b s k f m:=⟨h.rdr.drew,h.left.drew,h.box.drew⟩
theorem FI (i:Nat)(A:Option Addr)(cap:Nat)(w:World)(g gl d:Nat)(s:ByteArray)(b n:Nat)(M:Int)(hS:jI w g gl d s b 0 (M-n))(hk:b<=s.size)(hs:s.size<=1099511627776)(hM:¬M<=n)(uA:M<=1024)(SY:i<=65536)(hL:bq w)(hg:0<g)(pC:0<gl):
 Calls prog 183 #[iB g gl d,.agg #[.int .i64 3,.int .i64 i,.slice A ([]:List Ty).length cap,.int .i64 0]] w fun e w'=>gY w g gl d s M ((Ty.mk 3 i [] 0).rd M n (s.data.toList.drop b)) e w':=by
 have d0:decide (M-(n:Int)<=0)=false:=zv (by omega);rw[vn hM];have R:=za (fun V (j:jI V g gl d s b 0 (M-n-1)) (hl:bq V)=>Ch g gl d s b i _ V j hk (by omega) SY hl (by omega));have nP:=fun(h0:(aA (s.data.toList.drop b)).2.2=0)=>(iW (s.data.toList.drop b) (aA (s.data.toList.drop b)).1 (aA (s.data.toList.drop b)).2.1 (by rw[<-h0])).2.1
 rw[zK,aa]at nP;have HW:=oa (aA (s.data.toList.drop b)) i b;obtain⟨ab,ta,tl,ez,et,el⟩:∃(ab ta:Int) (tl:List Ty),ab=i/\ta=0/\tl= []:=⟨_,_,_,rfl,rfl,rfl⟩
 rw[<-et,<-el,<-ez];have E:=za (uq.start (tc:= #[.int .i64 (3),.int .i64 ab,.slice A tl.length cap,.int .i64 ta]) hS);generalize kE:(((w.alloc (.cells (kf g gl d) 240)).alloc (.cells #[.int .i64 (3),.int .i64 ab,.slice A tl.length cap,.int .i64 ta] 43)).alloc (.cells #[.string ⟨#[]⟩,.bool false,.slice none 0 0] 28))=W3 at*;unfold kf at kE;obtain⟨H,p1,p2,p3,J,p5⟩:=eR (show af W3 w.heap.size 240 #[_,_,_,_,_,_]from E.out.rdg);obtain⟨F,z,I,G,_⟩:=aS E.out.ty;have l0:W3.cell? ⟨gl,0,none⟩=some (.int .i64 (M-n)):=E.out.st.left.cell 0;have l1:=E.out.st.left.frozen 0;subst ez et el;simp only[zJ]at kE E;have RJ:=fun V (h:uq w g gl d s b 0 (M-n-1) #[.int .i64 3,.int .i64 i,.slice A 0 cap,.int .i64 0] V)=>hL.only h.only (by simp;omega)
 have Am:=za RJ;clear RJ hL;generalize aA (s.data.toList.drop b)=ad at*;obtain⟨Nm,k,Ne⟩:=ad;simp only at nP HW⊢;rcases HW with⟨L,hE,GP,c⟩|⟨L,h2,hE,GP,c⟩|⟨L,h2,hE,GP,c⟩
 ·rw[zi L];rw[hE,GP,c]at R;have p:=za (E.out.less (M-n-1));generalize sx:W3.setCell ⟨gl,0,none⟩ (.int .i64 (M-n-1))=l at*;clear F z I G;obtain⟨H,p1,p2,p3,J,p5⟩:=eR (show af l w.heap.size 240 #[_,_,_,_,_,_]from p.out.rdg);obtain⟨F,z,I,G,_⟩:=aS p.out.ty;unfold iB;clear hS;go_enter yZ,yV
  go_wp2_with fail
  have Z:bq l.drew:=Am.out l p.out;refine aD 9 (fun V=>V.cell? ⟨w.heap.size,0,none⟩=some (.func (.func 113) #[.pointer (some ⟨g,0,none⟩)] #[])/\V.cell? ⟨w.heap.size,4,none⟩=some (.func (.func 181) #[] #[.pointer (some ⟨d,0,none⟩)])/\V.cell? ⟨w.heap.size+1,1,none⟩=some (.int .i64 i)) (by kernel_rfl) (by kernel_rfl) ?_;have hHeld:(fun V:World=>V.cell? ⟨w.heap.size,0,none⟩=some (.func (.func 113) #[.pointer (some ⟨g,0,none⟩)] #[])/\V.cell? ⟨w.heap.size,4,none⟩=some (.func (.func 181) #[] #[.pointer (some ⟨d,0,none⟩)])/\V.cell? ⟨w.heap.size+1,1,none⟩=some (.int .i64 i)) l.drew:=⟨H,J,z⟩
  refine GT.jV [0,1,2,3,4,5] hHeld (fun _ _ _ _ _ h=>h) (by kernel_rfl) ?_;refine .c (v:= .pointer (some ⟨w.heap.size,0,none⟩)) rfl rfl (fun V j=>by go_simp<;>with_reducible rfl) ?_;try simp only[Act.put,zb,zd,ze];refine .c (v:= .func (.func 113) #[.pointer (some ⟨g,0,none⟩)] #[]) rfl rfl (fun V j=>by go_simp<;>with_reducible rfl) ?_;try simp only[Act.put,zb,zd,ze];refine .c (v:= .pointer (some ⟨w.heap.size,4,none⟩)) rfl rfl (fun V j=>by go_simp<;>with_reducible rfl) ?_;try simp only[Act.put,zb,zd,ze];refine .c (v:= .func (.func 181) #[] #[.pointer (some ⟨d,0,none⟩)]) rfl rfl (fun V j=>by go_simp<;>with_reducible rfl) ?_;try simp only[Act.put,zb,zd,ze];refine .c (v:= .pointer (some ⟨w.heap.size+1,1,none⟩)) rfl rfl (fun V j=>by go_simp<;>with_reducible rfl) ?_;try simp only[Act.put,zb,zd,ze];refine .c (v:= .int .i64 i) rfl rfl (fun V j=>by go_simp<;>with_reducible rfl) ?_;try simp only[Act.put,zb,zd,ze];refine .nil ?_;refine GT.fP 6 (fun K c=> ?_) rfl (by kernel_rfl);go_simp;refine(R.out l.drew p.out.st.drew Z).mono ?_;rintro e B ⟨rfl,q,o⟩;have r:=za ((p.out.below (zm _ _).drew).dF o q.rdr);have N:(fun V:World=>V.cell? ⟨w.heap.size,0,none⟩=some (.func (.func 113) #[.pointer (some ⟨g,0,none⟩)] #[])/\V.cell? ⟨w.heap.size,4,none⟩=some (.func (.func 181) #[] #[.pointer (some ⟨d,0,none⟩)])/\V.cell? ⟨w.heap.size+1,1,none⟩=some (.int .i64 i)) B:=⟨r.out.rdg.cell 0,r.out.rdg.cell 4,r.out.ty.cell 1⟩
  clear q o;go_wp2_with fail
  refine c.out _ _ N (fun hHeld=> ?_);clear c K;try simp only[Act.put,zb,zd,ze]
  refine GT.fP 7 (fun K c=> ?_) rfl (by kernel_rfl);go_simp;refine(vI g s b Ne 0 B r.out.st.rdr (zo.2 L)).mono ?_;rintro e C ⟨rfl,q,o⟩;have u:=za (r.out.dF o q);have X:(fun V:World=>V.cell? ⟨w.heap.size,0,none⟩=some (.func (.func 113) #[.pointer (some ⟨g,0,none⟩)] #[])/\V.cell? ⟨w.heap.size,4,none⟩=some (.func (.func 181) #[] #[.pointer (some ⟨d,0,none⟩)])/\V.cell? ⟨w.heap.size+1,1,none⟩=some (.int .i64 i)) C:=⟨u.out.rdg.cell 0,u.out.rdg.cell 4,u.out.ty.cell 1⟩
  clear q o;go_wp2_with fail
  refine c.out _ _ X (fun hHeld=> ?_);clear c K;try simp only[Act.put,zb,zd,ze]
  refine GT.fP 8 (fun K c=> ?_) rfl (by kernel_rfl);go_simp;refine(pf ⟨#[]⟩ C).mono ?_;rintro e w3 ⟨rfl,D⟩;have m:=za (u.out.below D);have Y:(fun V:World=>V.cell? ⟨w.heap.size,0,none⟩=some (.func (.func 113) #[.pointer (some ⟨g,0,none⟩)] #[])/\V.cell? ⟨w.heap.size,4,none⟩=some (.func (.func 181) #[] #[.pointer (some ⟨d,0,none⟩)])/\V.cell? ⟨w.heap.size+1,1,none⟩=some (.int .i64 i)) w3:=⟨m.out.rdg.cell 0,m.out.rdg.cell 4,m.out.ty.cell 1⟩
  clear D;go_wp2_with fail
  refine c.out _ _ Y (fun hHeld=> ?_);clear c K;try simp only[Act.put,zb,zd,ze]
  obtain⟨n0,n1,n2,m0,m1,m2⟩:=gZ m.out.res;obtain⟨y,x,O,U,S⟩:=m.out.ends (.string ⟨#[]⟩) (.bool false) (.slice none 0 0);have W:=za y;have E2:=za x;clear y x;refine GT.pt 9 ?_ rfl (by kernel_rfl);go_simp;go_wp2;have y:=W.out;have x:=E2.out;refine zj (v:= .agg #[.string ⟨#[]⟩,.bool false,.slice none 0 0]) (by simp[results,yN,go_sem,O,U,S]) rfl ?_;exact⟨ju,_,_,_,b,_,rfl,gz.text false (by simp[ByteArray.size]),y,x,hk,fun h=>absurd h L⟩
 ·rw[zh (by rw[L];simp),zi (by omega)];rw[hE,GP,c]at R;have p:=za (E.out.less (M-n-1));generalize sx:W3.setCell ⟨gl,0,none⟩ (.int .i64 (M-n-1))=l at*;clear F z I G;obtain⟨H,p1,p2,p3,J,p5⟩:=eR (show af l w.heap.size 240 #[_,_,_,_,_,_]from p.out.rdg);obtain⟨F,z,I,G,_⟩:=aS p.out.ty;unfold iB;clear hS;go_enter yZ,yV
  go_wp2_with fail
  have Z:bq l.drew:=Am.out l p.out;refine aD 9 (fun V=>V.cell? ⟨w.heap.size,0,none⟩=some (.func (.func 113) #[.pointer (some ⟨g,0,none⟩)] #[])/\V.cell? ⟨w.heap.size,4,none⟩=some (.func (.func 181) #[] #[.pointer (some ⟨d,0,none⟩)])/\V.cell? ⟨w.heap.size+1,1,none⟩=some (.int .i64 i)) (by kernel_rfl) (by kernel_rfl) ?_;have hHeld:(fun V:World=>V.cell? ⟨w.heap.size,0,none⟩=some (.func (.func 113) #[.pointer (some ⟨g,0,none⟩)] #[])/\V.cell? ⟨w.heap.size,4,none⟩=some (.func (.func 181) #[] #[.pointer (some ⟨d,0,none⟩)])/\V.cell? ⟨w.heap.size+1,1,none⟩=some (.int .i64 i)) l.drew:=⟨H,J,z⟩
  refine GT.jV [0,1,2,3,4,5] hHeld (fun _ _ _ _ _ h=>h) (by kernel_rfl) ?_;refine .c (v:= .pointer (some ⟨w.heap.size,0,none⟩)) rfl rfl (fun V j=>by go_simp<;>with_reducible rfl) ?_;try simp only[Act.put,zb,zd,ze];refine .c (v:= .func (.func 113) #[.pointer (some ⟨g,0,none⟩)] #[]) rfl rfl (fun V j=>by go_simp<;>with_reducible rfl) ?_;try simp only[Act.put,zb,zd,ze];refine .c (v:= .pointer (some ⟨w.heap.size,4,none⟩)) rfl rfl (fun V j=>by go_simp<;>with_reducible rfl) ?_;try simp only[Act.put,zb,zd,ze];refine .c (v:= .func (.func 181) #[] #[.pointer (some ⟨d,0,none⟩)]) rfl rfl (fun V j=>by go_simp<;>with_reducible rfl) ?_;try simp only[Act.put,zb,zd,ze];refine .c (v:= .pointer (some ⟨w.heap.size+1,1,none⟩)) rfl rfl (fun V j=>by go_simp<;>with_reducible rfl) ?_;try simp only[Act.put,zb,zd,ze];refine .c (v:= .int .i64 i) rfl rfl (fun V j=>by go_simp<;>with_reducible rfl) ?_;try simp only[Act.put,zb,zd,ze];refine .nil ?_;refine GT.fP 6 (fun K c=> ?_) rfl (by kernel_rfl);go_simp;refine(R.out l.drew p.out.st.drew Z).mono ?_;rintro e B ⟨rfl,q,o⟩;have r:=za ((p.out.below (zm _ _).drew).dF o q.rdr);have N:(fun V:World=>V.cell? ⟨w.heap.size,0,none⟩=some (.func (.func 113) #[.pointer (some ⟨g,0,none⟩)] #[])/\V.cell? ⟨w.heap.size,4,none⟩=some (.func (.func 181) #[] #[.pointer (some ⟨d,0,none⟩)])/\V.cell? ⟨w.heap.size+1,1,none⟩=some (.int .i64 i)) B:=⟨r.out.rdg.cell 0,r.out.rdg.cell 4,r.out.ty.cell 1⟩
  clear q o;go_wp2_with fail
  refine c.out _ _ N (fun hHeld=> ?_);clear c K;try simp only[Act.put,zb,zd,ze]
  refine GT.fP 7 (fun K c=> ?_) rfl (by kernel_rfl);go_simp;refine(vI g s b 5 0 B r.out.st.rdr (by decide)).mono ?_;rintro e C ⟨rfl,q,o⟩;have u:=za (r.out.dF o q);have X:(fun V:World=>V.cell? ⟨w.heap.size,0,none⟩=some (.func (.func 113) #[.pointer (some ⟨g,0,none⟩)] #[])/\V.cell? ⟨w.heap.size,4,none⟩=some (.func (.func 181) #[] #[.pointer (some ⟨d,0,none⟩)])/\V.cell? ⟨w.heap.size+1,1,none⟩=some (.int .i64 i)) C:=⟨u.out.rdg.cell 0,u.out.rdg.cell 4,u.out.ty.cell 1⟩
  clear q o;go_wp2_with fail
  refine c.out _ _ X (fun hHeld=> ?_);clear c K;try simp only[Act.put,zb,zd,ze]
  refine GT.fP 8 (fun K c=> ?_) rfl (by kernel_rfl);go_simp;refine(pf ⟨#[]⟩ C).mono ?_;rintro e w3 ⟨rfl,D⟩;have m:=za (u.out.below D);have Y:(fun V:World=>V.cell? ⟨w.heap.size,0,none⟩=some (.func (.func 113) #[.pointer (some ⟨g,0,none⟩)] #[])/\V.cell? ⟨w.heap.size,4,none⟩=some (.func (.func 181) #[] #[.pointer (some ⟨d,0,none⟩)])/\V.cell? ⟨w.heap.size+1,1,none⟩=some (.int .i64 i)) w3:=⟨m.out.rdg.cell 0,m.out.rdg.cell 4,m.out.ty.cell 1⟩
  clear D;go_wp2_with fail
  refine c.out _ _ Y (fun hHeld=> ?_);clear c K;try simp only[Act.put,zb,zd,ze]
  obtain⟨n0,n1,n2,m0,m1,m2⟩:=gZ m.out.res;obtain⟨y,x,O,U,S⟩:=m.out.ends (.string ⟨#[]⟩) (.bool false) (.slice none 0 0);have W:=za y;have E2:=za x;clear y x;refine GT.pt 9 ?_ rfl (by kernel_rfl);go_simp;go_wp2;have y:=W.out;have x:=E2.out;refine zj (v:= .agg #[.string ⟨#[]⟩,.bool false,.slice none 0 0]) (by simp[results,yN,go_sem,O,U,S]) rfl ?_;exact⟨ju,_,_,_,b,_,rfl,gz.text false (by simp[ByteArray.size]),y,x,hk,fun h=>absurd h (show¬(5:Int)=0 by decide)⟩
 rw[zh (by rw[L];simp),zh (by omega)];rw[hE,GP,c]at R;have aO:=nP L;rw[xN,zK,aa];by_cases wR:s.size<b+k+Nm
 ·rw[zi (by omega)];have p:=za (E.out.less (M-n-1));generalize sx:W3.setCell ⟨gl,0,none⟩ (.int .i64 (M-n-1))=l at*;clear F z I G;obtain⟨H,p1,p2,p3,J,p5⟩:=eR (show af l w.heap.size 240 #[_,_,_,_,_,_]from p.out.rdg);obtain⟨F,z,I,G,_⟩:=aS p.out.ty;unfold iB;clear hS;go_enter yZ,yV
  go_wp2_with fail
  have Z:bq l.drew:=Am.out l p.out;refine aD 9 (fun V=>V.cell? ⟨w.heap.size,0,none⟩=some (.func (.func 113) #[.pointer (some ⟨g,0,none⟩)] #[])/\V.cell? ⟨w.heap.size,4,none⟩=some (.func (.func 181) #[] #[.pointer (some ⟨d,0,none⟩)])/\V.cell? ⟨w.heap.size+1,1,none⟩=some (.int .i64 i)) (by kernel_rfl) (by kernel_rfl) ?_;have hHeld:(fun V:World=>V.cell? ⟨w.heap.size,0,none⟩=some (.func (.func 113) #[.pointer (some ⟨g,0,none⟩)] #[])/\V.cell? ⟨w.heap.size,4,none⟩=some (.func (.func 181) #[] #[.pointer (some ⟨d,0,none⟩)])/\V.cell? ⟨w.heap.size+1,1,none⟩=some (.int .i64 i)) l.drew:=⟨H,J,z⟩
  refine GT.jV [0,1,2,3,4,5] hHeld (fun _ _ _ _ _ h=>h) (by kernel_rfl) ?_;refine .c (v:= .pointer (some ⟨w.heap.size,0,none⟩)) rfl rfl (fun V j=>by go_simp<;>with_reducible rfl) ?_;try simp only[Act.put,zb,zd,ze];refine .c (v:= .func (.func 113) #[.pointer (some ⟨g,0,none⟩)] #[]) rfl rfl (fun V j=>by go_simp<;>with_reducible rfl) ?_;try simp only[Act.put,zb,zd,ze];refine .c (v:= .pointer (some ⟨w.heap.size,4,none⟩)) rfl rfl (fun V j=>by go_simp<;>with_reducible rfl) ?_;try simp only[Act.put,zb,zd,ze];refine .c (v:= .func (.func 181) #[] #[.pointer (some ⟨d,0,none⟩)]) rfl rfl (fun V j=>by go_simp<;>with_reducible rfl) ?_;try simp only[Act.put,zb,zd,ze];refine .c (v:= .pointer (some ⟨w.heap.size+1,1,none⟩)) rfl rfl (fun V j=>by go_simp<;>with_reducible rfl) ?_;try simp only[Act.put,zb,zd,ze];refine .c (v:= .int .i64 i) rfl rfl (fun V j=>by go_simp<;>with_reducible rfl) ?_;try simp only[Act.put,zb,zd,ze];refine .nil ?_;refine GT.fP 6 (fun K c=> ?_) rfl (by kernel_rfl);go_simp;refine(R.out l.drew p.out.st.drew Z).mono ?_;rintro e B ⟨rfl,q,o⟩;have r:=za ((p.out.below (zm _ _).drew).dF o q.rdr);have N:(fun V:World=>V.cell? ⟨w.heap.size,0,none⟩=some (.func (.func 113) #[.pointer (some ⟨g,0,none⟩)] #[])/\V.cell? ⟨w.heap.size,4,none⟩=some (.func (.func 181) #[] #[.pointer (some ⟨d,0,none⟩)])/\V.cell? ⟨w.heap.size+1,1,none⟩=some (.int .i64 i)) B:=⟨r.out.rdg.cell 0,r.out.rdg.cell 4,r.out.ty.cell 1⟩
  clear q o;go_wp2_with fail
  refine c.out _ _ N (fun hHeld=> ?_);clear c K;try simp only[Act.put,zb,zd,ze]
  refine GT.fP 7 (fun K c=> ?_) rfl (by kernel_rfl);go_simp;refine(gA g s (b+k) Nm B r.out.st.rdr (by omega) (by omega) wR (by omega)).mono ?_;rintro e C ⟨rfl,q,o⟩;have u:=za (r.out.dF o q);have X:(fun V:World=>V.cell? ⟨w.heap.size,0,none⟩=some (.func (.func 113) #[.pointer (some ⟨g,0,none⟩)] #[])/\V.cell? ⟨w.heap.size,4,none⟩=some (.func (.func 181) #[] #[.pointer (some ⟨d,0,none⟩)])/\V.cell? ⟨w.heap.size+1,1,none⟩=some (.int .i64 i)) C:=⟨u.out.rdg.cell 0,u.out.rdg.cell 4,u.out.ty.cell 1⟩
  clear q o;go_wp2_with fail
  refine c.out _ _ X (fun hHeld=> ?_);clear c K;try simp only[Act.put,zb,zd,ze]
  refine GT.fP 8 (fun K c=> ?_) rfl (by kernel_rfl);go_simp;refine(pf ⟨#[]⟩ C).mono ?_;rintro e w3 ⟨rfl,D⟩;have m:=za (u.out.below D);have Y:(fun V:World=>V.cell? ⟨w.heap.size,0,none⟩=some (.func (.func 113) #[.pointer (some ⟨g,0,none⟩)] #[])/\V.cell? ⟨w.heap.size,4,none⟩=some (.func (.func 181) #[] #[.pointer (some ⟨d,0,none⟩)])/\V.cell? ⟨w.heap.size+1,1,none⟩=some (.int .i64 i)) w3:=⟨m.out.rdg.cell 0,m.out.rdg.cell 4,m.out.ty.cell 1⟩
  clear D;go_wp2_with fail
  refine c.out _ _ Y (fun hHeld=> ?_);clear c K;try simp only[Act.put,zb,zd,ze]
  obtain⟨n0,n1,n2,m0,m1,m2⟩:=gZ m.out.res;obtain⟨y,x,O,U,S⟩:=m.out.ends (.string ⟨#[]⟩) (.bool false) (.slice none 0 0);have W:=za y;have E2:=za x;clear y x;refine GT.pt 9 ?_ rfl (by kernel_rfl);go_simp;go_wp2;have y:=W.out;have x:=E2.out;refine zj (v:= .agg #[.string ⟨#[]⟩,.bool false,.slice none 0 0]) (by simp[results,yN,go_sem,O,U,S]) rfl ?_;exact⟨ju,_,_,_,b+k,_,rfl,gz.text false (by simp[ByteArray.size]),y,x,by omega,fun h=>absurd h (show¬(2:Int)=0 by decide)⟩
 rw[zh (by omega)];have hX:=vY s (b+k) Nm;have Be:(s.extract (b+k) (b+k+Nm)).size=Nm:=by rw[an s (b+k) (b+k+Nm) (by omega)];omega
 have HX:Hid ((⟨((s.data.toList.drop (b+k)).take Nm).toArray⟩:ByteArray)=s.extract (b+k) (b+k+Nm)):=za (aM (by rw[hX]));rw[HX.out];have UK:Hid ((s.extract (b+k) (b+k+Nm)).size<=9223372036854775807):=za (by omega);have Gx:Hid ((s.data.toList.drop (b+k)).drop Nm=s.data.toList.drop (b+k+Nm)):=za (by rw[xN]);clear hX Be;have p:=za (E.out.less (M-n-1));generalize sx:W3.setCell ⟨gl,0,none⟩ (.int .i64 (M-n-1))=l at*;clear F z I G;obtain⟨H,p1,p2,p3,J,p5⟩:=eR (show af l w.heap.size 240 #[_,_,_,_,_,_]from p.out.rdg);obtain⟨F,z,I,G,_⟩:=aS p.out.ty;unfold iB;clear hS;go_enter yZ,yV
 go_wp2_with fail
 have Z:bq l.drew:=Am.out l p.out;refine aD 9 (fun V=>V.cell? ⟨w.heap.size,0,none⟩=some (.func (.func 113) #[.pointer (some ⟨g,0,none⟩)] #[])/\V.cell? ⟨w.heap.size,4,none⟩=some (.func (.func 181) #[] #[.pointer (some ⟨d,0,none⟩)])/\V.cell? ⟨w.heap.size+1,1,none⟩=some (.int .i64 i)) (by kernel_rfl) (by kernel_rfl) ?_;have hHeld:(fun V:World=>V.cell? ⟨w.heap.size,0,none⟩=some (.func (.func 113) #[.pointer (some ⟨g,0,none⟩)] #[])/\V.cell? ⟨w.heap.size,4,none⟩=some (.func (.func 181) #[] #[.pointer (some ⟨d,0,none⟩)])/\V.cell? ⟨w.heap.size+1,1,none⟩=some (.int .i64 i)) l.drew:=⟨H,J,z⟩
 refine GT.jV [0,1,2,3,4,5] hHeld (fun _ _ _ _ _ h=>h) (by kernel_rfl) ?_;refine .c (v:= .pointer (some ⟨w.heap.size,0,none⟩)) rfl rfl (fun V j=>by go_simp<;>with_reducible rfl) ?_;try simp only[Act.put,zb,zd,ze];refine .c (v:= .func (.func 113) #[.pointer (some ⟨g,0,none⟩)] #[]) rfl rfl (fun V j=>by go_simp<;>with_reducible rfl) ?_;try simp only[Act.put,zb,zd,ze];refine .c (v:= .pointer (some ⟨w.heap.size,4,none⟩)) rfl rfl (fun V j=>by go_simp<;>with_reducible rfl) ?_;try simp only[Act.put,zb,zd,ze];refine .c (v:= .func (.func 181) #[] #[.pointer (some ⟨d,0,none⟩)]) rfl rfl (fun V j=>by go_simp<;>with_reducible rfl) ?_;try simp only[Act.put,zb,zd,ze];refine .c (v:= .pointer (some ⟨w.heap.size+1,1,none⟩)) rfl rfl (fun V j=>by go_simp<;>with_reducible rfl) ?_;try simp only[Act.put,zb,zd,ze];refine .c (v:= .int .i64 i) rfl rfl (fun V j=>by go_simp<;>with_reducible rfl) ?_;try simp only[Act.put,zb,zd,ze];refine .nil ?_;refine GT.fP 6 (fun K c=> ?_) rfl (by kernel_rfl);go_simp;refine(R.out l.drew p.out.st.drew Z).mono ?_;rintro e B ⟨rfl,q,o⟩;have r:=za ((p.out.below (zm _ _).drew).dF o q.rdr);have N:(fun V:World=>V.cell? ⟨w.heap.size,0,none⟩=some (.func (.func 113) #[.pointer (some ⟨g,0,none⟩)] #[])/\V.cell? ⟨w.heap.size,4,none⟩=some (.func (.func 181) #[] #[.pointer (some ⟨d,0,none⟩)])/\V.cell? ⟨w.heap.size+1,1,none⟩=some (.int .i64 i)) B:=⟨r.out.rdg.cell 0,r.out.rdg.cell 4,r.out.ty.cell 1⟩
 clear q o;go_wp2_with fail
 refine c.out _ _ N (fun hHeld=> ?_);clear c K;try simp only[Act.put,zb,zd,ze]
 refine GT.fP 7 (fun K c=> ?_) rfl (by kernel_rfl);go_simp;refine(eH g s (b+k) Nm B r.out.st.rdr (by omega) (by omega)).mono ?_;rintro e C ⟨rfl,q,o⟩;have u:=za (r.out.dF o q);have X:(fun V:World=>V.cell? ⟨w.heap.size,0,none⟩=some (.func (.func 113) #[.pointer (some ⟨g,0,none⟩)] #[])/\V.cell? ⟨w.heap.size,4,none⟩=some (.func (.func 181) #[] #[.pointer (some ⟨d,0,none⟩)])/\V.cell? ⟨w.heap.size+1,1,none⟩=some (.int .i64 i)) C:=⟨u.out.rdg.cell 0,u.out.rdg.cell 4,u.out.ty.cell 1⟩
 clear q o;go_wp2_with fail
 refine c.out _ _ X (fun hHeld=> ?_);clear c K;try simp only[Act.put,zb,zd,ze]
 refine GT.fP 8 (fun K c=> ?_) rfl (by kernel_rfl);go_simp;refine(pf (s.extract (b+k) (b+k+Nm)) C).mono ?_;rintro e w3 ⟨rfl,D⟩;have m:=za (u.out.below D);have Y:(fun V:World=>V.cell? ⟨w.heap.size,0,none⟩=some (.func (.func 113) #[.pointer (some ⟨g,0,none⟩)] #[])/\V.cell? ⟨w.heap.size,4,none⟩=some (.func (.func 181) #[] #[.pointer (some ⟨d,0,none⟩)])/\V.cell? ⟨w.heap.size+1,1,none⟩=some (.int .i64 i)) w3:=⟨m.out.rdg.cell 0,m.out.rdg.cell 4,m.out.ty.cell 1⟩
 clear D;go_wp2_with fail
 refine c.out _ _ Y (fun hHeld=> ?_);clear c K;try simp only[Act.put,zb,zd,ze]
 obtain⟨n0,n1,n2,m0,m1,m2⟩:=gZ m.out.res;obtain⟨y,x,O,U,S⟩:=m.out.ends (.string (s.extract (b+k) (b+k+Nm))) (.bool false) (.slice none 0 0);have W:=za y;have E2:=za x;clear y x;refine GT.pt 9 ?_ rfl (by kernel_rfl);go_simp;go_wp2;have y:=W.out;have x:=E2.out;refine zj (v:= .agg #[.string (s.extract (b+k) (b+k+Nm)),.bool false,.slice none 0 0]) (by simp[results,yN,go_sem,O,U,S]) rfl ?_;exact⟨.mk (s.extract (b+k) (b+k+Nm)) false [],_,_,_,b+k+Nm,_,rfl,gz.text false UK.out,y,x,by omega,fun _=>⟨rfl,Gx.out,by simp only;omega⟩⟩
def la.pre (acc:List It)(R:la):la:=⟨R.e,acc++R.xs,R.n,R.q⟩
theorem la.QA (acc:List It)(x:It)(R:la):(R.cons x).pre acc=R.pre (acc++ [x]):=by simp[la.pre,la.cons]
structure T6 (M:Int)(c:Nat)(s:ByteArray)(T:Nat->Ty)(th:Nat->Nat->Bool)(rest:Nat->Nat->List UInt8->la):Prop where
 done:∀i n r,c<=i->rest i n r=⟨0,[],n,r⟩
 lack:∀i n k,i<c->k<=s.size->th i k=false->rest i n (s.data.toList.drop k)=⟨0,[],n,s.data.toList.drop k⟩
 next:∀i n k,i<c->k<=s.size->th i k=true->rest i n (s.data.toList.drop k)=if((T i).rd M n (s.data.toList.drop k)).e≠0 then⟨((T i).rd M n (s.data.toList.drop k)).e,[((T i).rd M n (s.data.toList.drop k)).x],((T i).rd M n (s.data.toList.drop k)).n,((T i).rd M n (s.data.toList.drop k)).q⟩else(rest (i+1) ((T i).rd M n (s.data.toList.drop k)).n ((T i).rd M n (s.data.toList.drop k)).q).cons ((T i).rd M n (s.data.toList.drop k)).x
theorem T6.SM (M:Int)(c:Nat)(s:ByteArray)(a:Ty):T6 M c s (fun _=>a) (fun _ _=>true) (fun i n r=>tG (fun n r=>a.rd M n r) (c-i) n r) where
 done i n r h:=by rw[show c-i=0 from by omega,tG]
 lack i n k _ _ h:=by cases h
 next i n k h _ _:=by rw[show c-i=(c-(i+1))+1 from by omega,tG]
theorem T6.ofT (M:Int)(s:ByteArray)(l:List Ty)(c:Int)(q:0<=c):T6 M l.length s (fun i=>l[i]?.getD (.mk 0 0 [] 0)) (fun i k=>decide ((i:Int)<(l.length:Int)-c)||decide (k<s.size)) (fun i n r=>nX M (l.drop i) (((l.length:Int)-c).toNat-i) n r) where
 done i n r h:=by rw[zH h,nX]
 lack i n k h m b:=by
  rw[xC h,nX];simp only[Bool.or_eq_false_iff,xj]at b;rw[zi ⟨by omega,zH (by rw[aa];omega)⟩]
 next i n k h m b:=by
  rw[xC h,nX];simp only[Bool.or_eq_true,yb]at b;have j:k<s.size->s.data.toList.drop k≠ []:=fun o e=>by
   have:=xo List.length e;rw[zK,aa]at this;simp at this;omega
  rw[zh (by
   rintro⟨p,d⟩;rcases b with b|b
   ·omega
   exact j b d)]
  simp only[zB h,Option.getD_some,ZW]
structure FJ (w:World)(g gl fb:Nat)(s:ByteArray)(k:Nat)(f m:Int)(acc:List It)(v:Value)(V:World):Prop where
 rdg:af V w.heap.size 240 (kf g gl fb)
 res:af V (w.heap.size+1) 28 #[.string ⟨#[]⟩,.bool false,.slice none 0 0]
 xb:af V (w.heap.size+1+1) 28 #[.string ⟨#[]⟩,.bool true,v]
 its:Acc V (w.heap.size+3) acc v
 st:jI V g gl fb s k f m
 only:ae [g,gl] w V
 siz:w.heap.size+3<=V.heap.size
 glt:g<w.heap.size/\gl<w.heap.size
 fbl:fb<w.heap.size
theorem FJ.start {gl b:Nat}(h:jI w g gl b s k f m):FJ w g gl b s k f m [] (.slice none 0 0) (((w.alloc (.cells (kf g gl b) 240)).alloc (.cells #[.string ⟨#[]⟩,.bool false,.slice none 0 0] 28)).alloc (.cells #[.string ⟨#[]⟩,.bool true,.slice none 0 0] 28)) where
 rdg:=((af.new w _ _).alloc _).alloc _
 res:=af.alloc (af.at_ (by simp)) _
 xb:=af.at_ (by simp)
 its:=Acc.nil _ _
 st:=h.below ((((zm _ w).alloc (zg _) _).alloc (by simp) _).alloc (by simp;omega) _)
 only:=(((ae.refl _ w).alloc _).alloc _).alloc _
 siz:=by simp
 glt:=⟨h.rdr.lt,h.left.lt⟩
 fbl:=h.box.lt
theorem FJ.below {gl c:Nat}(h:FJ w g gl c s k f m acc v V)(b:Below V.heap.size V V'):FJ w g gl c s k f m acc v V' where
 rdg:=(b.block _ h.rdg.lt).trans h.rdg
 res:=(b.block _ h.res.lt).trans h.res
 xb:=(b.block _ h.xb.lt).trans h.xb
 its:=h.its.below b
 st:=h.st.below b
 only:=h.only.trans ((ae.ah b (zg _)).mono (by simp))
 siz:=zF h.siz b.size
 glt:=h.glt
 fbl:=h.fbl
theorem FJ.dF {gl c:Nat}{e:Int}(h:FJ w g gl c s k f m acc v V)(b:ae [g,gl] V V')(j:jI V' g gl c s d i e):FJ w g gl c s d i e acc v V' where
 rdg:=h.rdg.only b (by have:=h.glt;simp;omega)
 res:=h.res.only b (by have:=h.glt;simp;omega)
 xb:=h.xb.only b (by have:=h.glt;simp;omega)
 its:=h.its.only b (by have:=h.glt;simp;omega)
 st:=j
 only:=h.only.trans b
 siz:=zF h.siz b.size
 glt:=h.glt
 fbl:=h.fbl
theorem FJ.more {gl:Nat}{i:List It}{c:Value}(h:FJ w g gl d s k f m acc v V)(b:V.grownBy V' v.ownBlock)(l:Acc V' (w.heap.size+3) i c):FJ w g gl d s k f m i c (V'.setCell ⟨w.heap.size+1+1,2,none⟩ c) where
 rdg:=(h.rdg.grown b (fun e=>by have:=(h.its.ge _ e).1;omega)).dN (p:=⟨w.heap.size+1+1,2,none⟩) (by simp;omega) _
 res:=(h.res.grown b (fun e=>by have:=(h.its.ge _ e).1;omega)).dN (p:=⟨w.heap.size+1+1,2,none⟩) (by simp) _
 xb:=(h.xb.grown b (fun e=>by have:=(h.its.ge _ e).1;omega)).set 2 c
 its:=l.only (L:= [w.heap.size+1+1]) ((ae.refl _ _).setCell (by simp) _) (by simp)
 st:=⟨af.dN (show af V' g _ _ from af.grown h.st.rdr b (fun e=>by have:=(h.its.ge _ e).1;have:=h.glt;omega)) (p:=⟨w.heap.size+1+1,2,none⟩) (by have:=h.glt;simp;omega) _,
  (h.st.left.grown b (fun e=>by have:=(h.its.ge _ e).1;have:=h.glt;omega)).dN (p:=⟨w.heap.size+1+1,2,none⟩) (by have:=h.glt;simp;omega) _,
  (h.st.box.grown b (fun e=>by have:=(h.its.ge _ e).1;have:=h.fbl;omega)).dN (p:=⟨w.heap.size+1+1,2,none⟩) (by have:=h.fbl;simp;omega) _⟩
 only:=(h.only.grown b (fun j n=> .inr (by have:=(h.its.ge _ n).1;omega))).setCell (by simp;omega) _
 siz:=by have:=h.siz;have:=b.size;simp[World.setCell];omega
 glt:=h.glt
 fbl:=h.fbl
theorem FJ.cells {gl c:Nat}(h:FJ w g gl c s k f m acc v V)(b:V.grownBy V' v.ownBlock):af V' w.heap.size 240 (kf g gl c)/\af V' (w.heap.size+1+1) 28 #[.string ⟨#[]⟩,.bool true,v]:=
 ⟨h.rdg.grown b (fun e=>by have:=(h.its.ge _ e).1;omega),h.xb.grown b (fun e=>by have:=(h.its.ge _ e).1;omega)⟩
theorem FJ.ends {gl:Nat}(h:FJ w g gl d s k f m acc v V)(b c:Value):
 jI (((V.setCell ⟨w.heap.size+1,0,none⟩ b).setCell ⟨w.heap.size+1,1,none⟩ c).setCell ⟨w.heap.size+1,2,none⟩ v) g gl d s k f m/\ae [g,gl] w (((V.setCell ⟨w.heap.size+1,0,none⟩ b).setCell ⟨w.heap.size+1,1,none⟩ c).setCell ⟨w.heap.size+1,2,none⟩ v)/\
 (V.setCell ⟨w.heap.size+1,0,none⟩ b).cell? ⟨w.heap.size+1,0,none⟩=some b/\((V.setCell ⟨w.heap.size+1,0,none⟩ b).setCell ⟨w.heap.size+1,1,none⟩ c).cell? ⟨w.heap.size+1,1,none⟩=some c/\(((V.setCell ⟨w.heap.size+1,0,none⟩ b).setCell ⟨w.heap.size+1,1,none⟩ c).setCell ⟨w.heap.size+1,2,none⟩ v).cell? ⟨w.heap.size+1,2,none⟩=some v/\
 Acc (((V.setCell ⟨w.heap.size+1,0,none⟩ b).setCell ⟨w.heap.size+1,1,none⟩ c).setCell ⟨w.heap.size+1,2,none⟩ v) (w.heap.size+3) acc v:=
 ⟨h.st.kK h.res b c v,((h.only.setCell (by simp) _).setCell (by simp) _).setCell (by simp) _,by have:=(h.res.set 0 b).cell 0;simpa using this,by have:=((h.res.set 0 b).set 1 c).cell 1;simpa using this,by have:=(((h.res.set 0 b).set 1 c).set 2 v).cell 2;simpa using this,
  h.its.only (L:= [w.heap.size+1]) ((((ae.refl _ V).setCell (by simp) _).setCell (by simp) _).setCell (by simp) _) (by simp)⟩
theorem qB (F:Nat)(cs:Array Value)(A:Value->Array Value)(hF:(F=220/\∃O:Nat,cs= #[.pointer (some ⟨O,0,none⟩)]/\A=fun v=> #[v,.pointer (some ⟨O,0,none⟩)])\/F=221/\∃O br:Nat,cs= #[.pointer (some ⟨O,0,none⟩),.pointer (some ⟨br,0,none⟩)]/\A=fun v=> #[v,.pointer (some ⟨O,0,none⟩),.pointer (some ⟨br,0,none⟩)])(c:Nat)(T:Nat->Ty)(th:Nat->Nat->Bool)(rest:Nat->Nat->List UInt8->la)(D:Nat->Option Addr)(dn G:Nat->Nat)(w:World)(g gl z:Nat)(s:ByteArray)(k:Nat)(f m M:Int)(n0:Nat)(hS:jI w g gl z s k f m)(hk:k<=s.size)(hs:s.size<=1099511627776)(hc:c<=1024)(E:Int)(R:la)(HR:T6 M c s T th rest)
 (ak:f=0->m=M-n0/\R=rest 0 n0 (s.data.toList.drop k)/\E=R.e) (aj:f≠0->E=f)
 (HC:Hid (∀i,i<c->∀V H f' m',ae [g,gl] w V->jI V g gl z s H f' m'->H<=s.size->Calls prog F (A (.int .i64 i)) V fun e w'=>e= .returned (.tuple #[.agg #[.int .i64 (T i).kind,.int .i64 (T i).size,.slice (D i) (dn i) (G i),.int .i64 (T i).tail],.bool (th i H)])/\Below V.heap.size V w'))
 (HV:Hid (∀i,i<c->∀V H (n':Nat),ae [g,gl] w V->jI V g gl z s H 0 (M-n')->H<=s.size->Calls prog 183 #[iB g gl z,.agg #[.int .i64 (T i).kind,.int .i64 (T i).size,.slice (D i) (dn i) (G i),.int .i64 (T i).tail]] V fun e w'=>gY V g gl z s M ((T i).rd M n' (s.data.toList.drop H)) e w')):
 Calls prog 219 #[iB g gl z,.int .i64 c,.func (.func F) #[] cs] w fun e w'=>gY w g gl z s M ⟨E,.mk ⟨#[]⟩ true R.xs,R.n,R.q⟩ e w':=by
 have cw:=za (FJ.start hS);have ag:=za HR;have H0:Hid ((f=0->∃y:Nat,m=M-y/\R=(rest 0 y (s.data.toList.drop k)).pre []/\E=R.e)/\(f≠0->E=f)):=za ⟨fun h=>by obtain⟨o,p,C⟩:=ak h;exact⟨n0,o,by rw[p];rfl,C⟩,aj⟩;clear hS ak aj HR;unfold kf at cw;unfold iB;unfold iB at HV;have HC:=HC.out;rcases hF with⟨rfl,O,rfl,rfl⟩|⟨rfl,O,br,rfl,rfl⟩;all_goals
  dsimp only at HC;have HC:=za HC;go_enter func219,ntmps219
  go_wp2_with fail
  go_loopw [13] (fun i wr=>∃(j r:Nat) (F I:Int) (acc:List It) (v:Value),j<=c/\i= .int .i64 j/\Hid (FJ w g gl z s r F I acc v wr)/\r<=s.size/\acc.length<=j/\Hid ((F=0->∃y:Nat,I=M-y/\R=(rest j y (s.data.toList.drop r)).pre acc/\E=R.e)/\(F≠0->E=F))) (fun i _=>c-(intOf i).toNat)
  case atStart=>exact⟨0,k,f,m,[],_,by omega,rfl,cw,hk,by simp,H0⟩
  case round=>
   obtain⟨j,r,F,I,acc,v,hj,rfl,d,W,lD,U⟩:=hrel;obtain⟨A5,S,Z,rfl,av,aw,aA⟩:=d.out.its.cF;by_cases aE:j<c
   ·have SZ:=za (HC.out j aE wr r F I d.out.only d.out.st W);have ah:=za (HV.out j aE);obtain⟨b,B⟩:∃b,th j r=b:=⟨_,rfl⟩
    have HB:=za B;rw[B]at SZ;obtain⟨N,an⟩:∃u,dn j=u:=⟨_,rfl⟩
    rw[an]at SZ ah;clear B HC HV an;by_cases GV:b=true/\F=0
    ·obtain⟨rfl,rfl⟩:=GV;go_wp2_with fail
     refine SZ.out.mono ?_;rintro e l ⟨rfl,B⟩;have x:=za (d.out.below B);obtain⟨r0,r1,r2,r3,r4,r5⟩:=eR (show af l w.heap.size 240 #[_,_,_,_,_,_]from x.out.rdg);have cr:=x.out.siz;have al:w.heap.size<l.heap.size:=by omega
     have d:=za (x.out.below ((zm _ l).alloc (zg _) (.cells #[.int .i64 (T j).kind,.int .i64 (T j).size,.slice (D j) N (G j),.int .i64 (T j).tail] 43)));clear B;go_wp2_with fail
     refine(bw g s r 0 _ (x.out.st.rdr.alloc _)).mono ?_;rintro e w' ⟨rfl,rfl⟩;have HT:=za (af.new l 43 #[.int .i64 (T j).kind,.int .i64 (T j).size,.slice (D j) N (G j),.int .i64 (T j).tail]);generalize mQ:l.alloc (.cells #[.int .i64 (T j).kind,.int .i64 (T j).size,.slice (D j) N (G j),.int .i64 (T j).tail] 43)=W2 at*;obtain⟨y,rfl,hR,hE⟩:=U.out.1 (by simp);have Lw:=za (And.intro hR hE);have pC:=d.out.glt;have HG:Hid (l.heap.size∉ [g,gl]):=za (by simp;omega)
     have N7:Hid (∀V,af V w.heap.size 240 (kf g gl z)/\af V (w.heap.size+1+1) 28 #[.string ⟨#[]⟩,.bool true,.slice A5 S Z]->af V l.heap.size 43 #[.int .i64 (T j).kind,.int .i64 (T j).size,.slice (D j) N (G j),.int .i64 (T j).tail]->V.cell? ⟨w.heap.size,0,none⟩=some (.func (.func 113) #[.pointer (some ⟨g,0,none⟩)] #[])/\V.cell? ⟨w.heap.size,1,none⟩=some (.func (.func 140) #[.pointer (some ⟨g,0,none⟩)] #[])/\V.cell? ⟨w.heap.size,2,none⟩=some (.func (.func 114) #[.pointer (some ⟨g,0,none⟩)] #[])/\V.cell? ⟨w.heap.size,3,none⟩=some (.func (.func 138) #[.pointer (some ⟨g,0,none⟩)] #[])/\V.cell? ⟨w.heap.size,4,none⟩=some (.func (.func 181) #[] #[.pointer (some ⟨z,0,none⟩)])/\V.cell? ⟨w.heap.size,5,none⟩=some (.pointer (some ⟨gl,0,none⟩))/\V.cell? ⟨l.heap.size,0,none⟩=some (.int .i64 (T j).kind)/\V.cell? ⟨l.heap.size,1,none⟩=some (.int .i64 (T j).size)/\V.cell? ⟨l.heap.size,2,none⟩=some (.slice (D j) N (G j))/\V.cell? ⟨l.heap.size,3,none⟩=some (.int .i64 (T j).tail)/\V.cell? ⟨w.heap.size+1+1,2,none⟩=some (.slice A5 S Z)/\V.frozen? ⟨w.heap.size+1+1,2,none⟩=false):=za (fun V o p=>⟨o.1.cell 0,o.1.cell 1,o.1.cell 2,o.1.cell 3,o.1.cell 4,o.1.cell 5,p.cell 0,p.cell 1,p.cell 2,p.cell 3,o.2.cell 2,o.2.frozen 2⟩);have ai:=za (ah.out W2.drew r y d.out.only.drew (show jI W2.drew g gl z s r 0 (M-y)from d.out.st.drew) W);have uv:=za (ag.out.next j y r aE W HB.out);obtain⟨Rj,ao⟩:∃Rj,(T j).rd M y (s.data.toList.drop r)=Rj:=⟨_,rfl⟩
     rw[ao]at ai uv;clear hR hE pC ao cr r0 r1 r2 r3 r4 r5;go_wp2_with fail
     refine aD 8 (fun V=>V.cell? ⟨w.heap.size,0,none⟩=some (.func (.func 113) #[.pointer (some ⟨g,0,none⟩)] #[])/\V.cell? ⟨w.heap.size,1,none⟩=some (.func (.func 140) #[.pointer (some ⟨g,0,none⟩)] #[])/\V.cell? ⟨w.heap.size,2,none⟩=some (.func (.func 114) #[.pointer (some ⟨g,0,none⟩)] #[])/\V.cell? ⟨w.heap.size,3,none⟩=some (.func (.func 138) #[.pointer (some ⟨g,0,none⟩)] #[])/\V.cell? ⟨w.heap.size,4,none⟩=some (.func (.func 181) #[] #[.pointer (some ⟨z,0,none⟩)])/\V.cell? ⟨w.heap.size,5,none⟩=some (.pointer (some ⟨gl,0,none⟩))/\V.cell? ⟨l.heap.size,0,none⟩=some (.int .i64 (T j).kind)/\V.cell? ⟨l.heap.size,1,none⟩=some (.int .i64 (T j).size)/\V.cell? ⟨l.heap.size,2,none⟩=some (.slice (D j) N (G j))/\V.cell? ⟨l.heap.size,3,none⟩=some (.int .i64 (T j).tail)/\V.cell? ⟨w.heap.size+1+1,2,none⟩=some (.slice A5 S Z)/\V.frozen? ⟨w.heap.size+1+1,2,none⟩=false) (by kernel_rfl) (by kernel_rfl) ?_;have hHeld:=N7.out W2.drew ⟨d.out.rdg.drew,d.out.xb.drew⟩ HT.out.drew;refine GT.jV [0,1,2,3] hHeld (fun _ _ _ _ _ h=>h) (by kernel_rfl) ?_;repeat(refine .c rfl rfl (fun V hV=>by go_simp<;>with_reducible rfl) ?_;simp only[Act.put,zb,zd,ze])
     refine .nil ?_;refine GT.fP 4 (fun ab L=> ?_) rfl (by kernel_rfl);go_simp;refine ai.out.mono ?_;rintro e w3 ⟨X,c0,c1,c2,H,m',rfl,hX,pJ,ho,wO,jb⟩;have Y:=za ((d.out.below (zm _ W2).drew).dF ho pJ);have ad:=za (HT.out.drew.only ho HG.out);have UM:=za jb;have HX:=za hX;obtain⟨ax,bx,rfl,rfl,rfl,_⟩:=hX.open_;clear hX pJ ho jb;go_wp2_with fail
     refine L.out _ _ (N7.out w3 ⟨Y.out.rdg,Y.out.xb⟩ ad.out) (fun hHeld=> ?_);clear L ab;try simp only[Act.put,zb,zd,ze]
     refine GT.fP 5 (fun ab L=> ?_) rfl (by kernel_rfl);go_simp;refine L.out _ _ (N7.out _ ⟨Y.out.rdg.alloc _,Y.out.xb.alloc _⟩ (ad.out.alloc _)) (fun hHeld=> ?_);clear L ab;try simp only[Act.put,zb,zd,ze]
     refine GT.fP 6 (fun ab L=> ?_) rfl (by kernel_rfl);have ar:Hid (gz (w3.alloc (.cells #[.string X.text,.bool X.list,.slice ax X.sub.length bx] 28)) (fun q=>w.heap.size+3<=q/\(Value.slice A5 S Z).ownBlock≠some q) X (.string X.text) (.bool X.list) (.slice ax X.sub.length bx)):=za ((HX.out.below ((zm _ w3).alloc (zg _) _)).iz (fun q _ hq=>⟨by have:=d.out.siz;simp at hq;omega,fun e=>by have:=(d.out.its.ge _ e).2;simp at hq;omega⟩));have YW:acc.length<=1000000:=by omega
     have UL:w.heap.size+3<=(w3.alloc (.cells #[.string X.text,.bool X.list,.slice ax X.sub.length bx] 28)).heap.size:=by have:=Y.out.siz;simp;omega
     refine qt (by rfl) (.tmp 31) (.tmp 35) (by rfl) (w.heap.size+3) acc (by rfl) (Y.out.its.below ((zm _ w3).alloc (zg _) _)) X ar.out _ (by rfl) (by simp) (by simp) (by simp) YW UL ?_;intro g' n' aq w5 Rq kF fu ay;have Bk:=za (Y.out.below ((zm _ w3).alloc (zg _) (.cells #[.string X.text,.bool X.list,.slice ax X.sub.length bx] 28)));have RG:=za ((ad.out.alloc _).grown fu (fun e=>by have:=(x.out.its.ge _ e).2;omega));have rr:=za (Bk.out.more fu kF);refine L.out _ _ (N7.out w5 (Bk.out.cells fu) RG.out) (fun hHeld=> ?_);clear L ab;try simp only[Act.put,zb,zd,ze]
     refine GT.jV [7] hHeld (fun _ _ _ _ _ h=>h) (by kernel_rfl) ?_;refine .c rfl rfl (fun V hV=>by go_simp<;>with_reducible rfl) ?_;simp only[Act.put,zb,zd,ze];refine .nil ?_;refine GT.pt 8 ?_ rfl (by kernel_rfl);obtain⟨z0,z1,z2,z3,z4,z5,z6,z7,z8,z9,au,az⟩:=hHeld;clear kF fu;go_simp;all_goals
      go_wp2;go_roundw
      case rel=>
       refine⟨j+1,H,Rj.e,m',acc++ [X],_,by omega,by go_num,rr,wO,by simp;omega,za ⟨fun h0=> ?_,fun h0=> ?_⟩⟩
       ·obtain⟨g1,g2,g3⟩:=UM.out h0;have n:=uv.out;rw[zh (by simp[h0])]at n;refine⟨Rj.n,g3, ?_,Lw.out.2⟩;rw[Lw.out.1,n,la.QA,g1,g2]
       have n:=uv.out;rw[zi h0]at n;rw[Lw.out.2,Lw.out.1,n];rfl
      case measure=>simp[intOf];omega
    have aa:Hid (E=F/\(E=0->R.xs=acc/\R.q=s.data.toList.drop r/\I=M-R.n)):=za (by
     by_cases hF:F=0
     ·obtain⟨y,o,p,C⟩:=U.out.1 hF;rw[ag.out.lack _ _ _ aE W (by cases b<;>simp_all[HB.out])]at p;subst p;exact⟨by rw[C,hF];rfl,fun _=>⟨by simp[la.pre],rfl,o⟩⟩
     exact⟨U.out.2 hF,fun h=>absurd ((U.out.2 hF).symm.trans h) hF⟩)
    obtain rfl:F=E:=aa.out.1.symm;cases b with
    |false=>
     go_wp2_with fail
     refine SZ.out.mono ?_;rintro e l ⟨rfl,B⟩;have x:=za (d.out.below B);obtain⟨r0,r1,r2,r3,r4,r5⟩:=eR (show af l w.heap.size 240 #[_,_,_,_,_,_]from x.out.rdg);have cr:=x.out.siz;have al:w.heap.size<l.heap.size:=by omega
     have d:=za (x.out.below ((zm _ l).alloc (zg _) (.cells #[.int .i64 (T j).kind,.int .i64 (T j).size,.slice (D j) N (G j),.int .i64 (T j).tail] 43)));clear B;obtain⟨n0,n1,n2,m0,m1,m2⟩:=gZ d.out.res;obtain⟨x0,x1,x2,_,_,_⟩:=gZ d.out.xb;obtain⟨n,K,y0,y1,y2,J⟩:=d.out.ends (.string ⟨#[]⟩) (.bool true);have E1:=za n;have E2:=za K;have HA:=za (J.list (by omega));clear n K J;go_wp2;have n:=E1.out;refine zj (v:= .agg #[.string ⟨#[]⟩,.bool true,.slice A5 S Z]) (by simp[results,results219,go_sem,y0,y1,y2]) rfl ?_;refine⟨_,_,_,_,r,I,rfl,HA.out.iz (fun _ _ h=>by omega),n,E2.out,W,fun h=> ?_⟩;obtain⟨o,p,C⟩:=aa.out.2 h;exact⟨by rw[o],p,C⟩
    |true=>
     have hF:(F !=0)=true:=yz.2 (fun h=>GV ⟨rfl,h⟩);go_wp2_with fail
     refine SZ.out.mono ?_;rintro e l ⟨rfl,B⟩;have x:=za (d.out.below B);obtain⟨r0,r1,r2,r3,r4,r5⟩:=eR (show af l w.heap.size 240 #[_,_,_,_,_,_]from x.out.rdg);have cr:=x.out.siz;have al:w.heap.size<l.heap.size:=by omega
     have d:=za (x.out.below ((zm _ l).alloc (zg _) (.cells #[.int .i64 (T j).kind,.int .i64 (T j).size,.slice (D j) N (G j),.int .i64 (T j).tail] 43)));clear B;go_wp2_with fail
     refine(bw g s r F _ (x.out.st.rdr.alloc _)).mono ?_;rintro e w' ⟨rfl,rfl⟩;obtain⟨n0,n1,n2,m0,m1,m2⟩:=gZ d.out.res;obtain⟨x0,x1,x2,_,_,_⟩:=gZ d.out.xb;obtain⟨n,K,y0,y1,y2,J⟩:=d.out.ends (.string ⟨#[]⟩) (.bool true);have E1:=za n;have E2:=za K;have HA:=za (J.list (by omega));clear n K J;go_wp2;have n:=E1.out;refine zj (v:= .agg #[.string ⟨#[]⟩,.bool true,.slice A5 S Z]) (by simp[results,results219,go_sem,y0,y1,y2]) rfl ?_;refine⟨_,_,_,_,r,I,rfl,HA.out.iz (fun _ _ h=>by omega),n,E2.out,W,fun h=> ?_⟩;obtain⟨o,p,C⟩:=aa.out.2 h;exact⟨by rw[o],p,C⟩
   have aa:Hid (E=F/\(E=0->R.xs=acc/\R.q=s.data.toList.drop r/\I=M-R.n)):=za (by
    by_cases hF:F=0
    ·obtain⟨y,o,p,C⟩:=U.out.1 hF;rw[ag.out.done _ _ _ (by omega)]at p;subst p;exact⟨by rw[C,hF];rfl,fun _=>⟨by simp[la.pre],rfl,o⟩⟩
    exact⟨U.out.2 hF,fun h=>absurd ((U.out.2 hF).symm.trans h) hF⟩)
   obtain rfl:F=E:=aa.out.1.symm;obtain⟨n0,n1,n2,m0,m1,m2⟩:=gZ d.out.res;obtain⟨x0,x1,x2,_,_,_⟩:=gZ d.out.xb;obtain⟨n,K,y0,y1,y2,J⟩:=d.out.ends (.string ⟨#[]⟩) (.bool true);have E1:=za n;have E2:=za K;have HA:=za (J.list (by omega));clear n K J;go_wp2;have n:=E1.out;refine zj (v:= .agg #[.string ⟨#[]⟩,.bool true,.slice A5 S Z]) (by simp[results,results219,go_sem,y0,y1,y2]) rfl ?_;refine⟨_,_,_,_,r,I,rfl,HA.out.iz (fun _ _ h=>by omega),n,E2.out,W,fun h=> ?_⟩;obtain⟨o,p,C⟩:=aa.out.2 h;exact⟨by rw[o],p,C⟩
theorem uq.KV {gl c:Nat}{e:Int}(h:uq w g gl c s k f m tc V)(b:ae [g,gl] V V')(j:jI V' g gl c s d i e):uq w g gl c s d i e tc V' where
 rdg:=h.rdg.only b (by simp[h.rdg.DY h.st.rdr (by decide),h.rdg.DY h.st.left (by decide)])
 ty:=h.ty.only b (by simp[h.ty.DY h.st.rdr (by decide),h.ty.DY h.st.left (by decide)])
 res:=h.res.only b (by simp[h.res.DY h.st.rdr (by decide),h.res.DY h.st.left (by decide)])
 st:=j
 only:=h.only.trans b
 siz:=zF h.siz b.size
theorem gz.kK {b:Nat}{X:It}{d e c:Value}(h:gz w (B<= ·) X d e c)(l:b<B)(i j k:Value):gz (((w.setCell ⟨b,0,none⟩ i).setCell ⟨b,1,none⟩ j).setCell ⟨b,2,none⟩ k) (B<= ·) X d e c:=
 h.only (L:= [b]) ((((ae.refl _ w).setCell (by simp) _).setCell (by simp) _).setCell (by simp) _) (by simp;omega) (fun _ _ h=>h)
theorem IY (a:Ty)(D:Nat)(B:Nat)(A:Option Addr)(cap:Nat)(w:World)(g gl q:Nat)(s:ByteArray)(c n:Nat)(M:Int)(hS:jI w g gl q s c 0 (M-n))(hk:c<=s.size)(hs:s.size<=1099511627776)(hM:¬M<=n)(uA:M<=1024)(SY:D<=1024)(hL:bq w)(hg:0<g)(pC:0<gl)
 (hT:fk w B [a] A 0) (hB:B<=w.heap.size) (al:B<=g) (Cp:B<=gl)
 (IH:Hid (∀V c0 c1 c2 c3 c (n:Nat),cG V B a c0 c1 c2 c3->B<=V.heap.size->jI V g gl q s c 0 (M-n)->c<=s.size->bq V->Calls prog 183 #[iB g gl q,.agg #[c0,c1,c2,c3]] V fun e w'=>gY V g gl q s M (a.rd M n (s.data.toList.drop c)) e w')):
 Calls prog 183 #[iB g gl q,.agg #[.int .i64 4,.int .i64 D,.slice A [a].length cap,.int .i64 0]] w fun e w'=>gY w g gl q s M ((Ty.mk 4 D [a] 0).rd M n (s.data.toList.drop c)) e w':=by
 have aE:=hS.rdr.lt;have kV:=hS.left.lt;have d0:decide (M-(n:Int)<=0)=false:=zv (by omega);rw[CS hM];have S:=za (fun V (hV:jI V g gl q s c 0 (M-n-1)) (hl:bq V)=>Ch g gl q s c D _ V hV hk (by omega) (by omega) hl (by omega));have nP:=fun(h0:(aA (s.data.toList.drop c)).2.2=0)=>(iW (s.data.toList.drop c) (aA (s.data.toList.drop c)).1 (aA (s.data.toList.drop c)).2.1 (by rw[<-h0])).2.1
 rw[zK,aa]at nP;have ah:=oa (aA (s.data.toList.drop c)) D c;obtain⟨b,o,t0,t1,t2,t3,rfl,fL,e0,k,d,e3,oq⟩:=hT.at_ 0 (by simp);simp only[zQ,Nat.zero_mul,xd,yU]at e0 k d e3 oq;obtain⟨dA,dc,rfl,rfl,rfl,rfl,_⟩:=oq.open_;have ai:=za oq;have HE:=za (And.intro e0 (And.intro k (And.intro d e3)));have N8:=za hL;obtain⟨ab,ta,N,ez,et,el⟩:∃(ab ta:Int) (N:List Ty),ab=D/\ta=0/\N= [a]:=⟨_,_,_,rfl,rfl,rfl⟩
 rw[<-et,<-ez];obtain⟨A,hA⟩:∃A,(some (⟨b,o,none⟩:Addr))=A:=⟨_,rfl⟩
 rw[hA];have aj:=za hA;rw[show [a].length=N.length from by rw[el]];clear hA hT oq e0 k d e3;have G:=za (uq.start (tc:= #[.int .i64 (4),.int .i64 ab,.slice A N.length cap,.int .i64 ta]) hS);generalize kE:(((w.alloc (.cells (kf g gl q) 240)).alloc (.cells #[.int .i64 (4),.int .i64 ab,.slice A N.length cap,.int .i64 ta] 43)).alloc (.cells #[.string ⟨#[]⟩,.bool false,.slice none 0 0] 28))=W3 at*;unfold kf at kE;obtain⟨W,p1,O,p3,p4,Z⟩:=eR (show af W3 w.heap.size 240 #[_,_,_,_,_,_]from G.out.rdg);obtain⟨L,R,Y,U,_⟩:=aS G.out.ty;have l0:W3.cell? ⟨gl,0,none⟩=some (.int .i64 (M-n)):=G.out.st.left.cell 0;have l1:=G.out.st.left.frozen 0;subst ez et;have ag:N.length=1:=by rw[el];rfl
 rw[ag]at kE G⊢;clear el ag;have RJ:=fun V (h:uq w g gl q s c 0 (M-n-1) #[.int .i64 4,.int .i64 D,.slice A 1 cap,.int .i64 0] V)=>hL.only h.only (by simp;omega)
 have Am:=za RJ;clear RJ hL;generalize aA (s.data.toList.drop c)=ak at*;obtain⟨Nm,Nz,Ne⟩:=ak;simp only at nP ah⊢;rcases ah with⟨x,hE,GP,hK⟩|⟨x,C,hE,GP,hK⟩|⟨x,C,hE,GP,hK⟩
 ·rw[zi x];rw[hE,GP,hK]at S;have m:=za (G.out.less (M-n-1));generalize sx:W3.setCell ⟨gl,0,none⟩ (.int .i64 (M-n-1))=p at*;clear L R Y U;obtain⟨W,p1,O,p3,p4,Z⟩:=eR (show af p w.heap.size 240 #[_,_,_,_,_,_]from m.out.rdg);obtain⟨L,R,Y,U,_⟩:=aS m.out.ty;unfold iB;clear hS;go_enter yZ,yV
  go_wp2_with fail
  have oC:bq p:=Am.out p m.out;refine(S.out p m.out.st oC).mono ?_;rintro e z ⟨rfl,H,l⟩;have j:=za (m.out.dF l H.rdr);obtain⟨W,p1,O,p3,p4,Z⟩:=eR (show af z w.heap.size 240 #[_,_,_,_,_,_]from j.out.rdg);clear H l;go_wp2_with fail
  refine(qB _ _ _ (.inl ⟨rfl,w.heap.size+1,rfl,rfl⟩) 0 (fun _=>a) (fun _ _=>true) (fun i n r=>tG (fun n r=>a.rd M n r) (0-i) n r) (fun _=>dA) (fun _=>a.sub.length) (fun _=>dc) z g gl q s c Ne _ M (n+1) j.out.st hk hs (by omega) Ne ⟨0,[],0,[]⟩ (T6.SM M 0 s a) (fun h=>absurd h x) (fun _=>rfl) (za fun i hi=>by omega) (za fun i hi=>by omega)).mono ?_;rintro e w2 ⟨X,c0,c1,c2,I,m',rfl,u,J,l,K,F⟩;obtain⟨y,bx,rfl,rfl,rfl,_⟩:=u.open_;have E:=za (j.out.KV l J);have HX:=za (u.kK (b:=w.heap.size+1+1) (by have:=j.out.siz;omega) (.string X.text) (.bool X.list) (.slice y X.sub.length bx));have UM:=za F;clear u J l F;obtain⟨n0,n1,n2,m0,m1,m2⟩:=gZ E.out.res;obtain⟨k,d,y0,y1,y2⟩:=E.out.ends (.string X.text) (.bool X.list) (.slice y X.sub.length bx);have E1:=za k;have E2:=za d;clear k d;go_wp2;have k:=E1.out;have d:=E2.out;refine zj (v:= .agg #[.string X.text,.bool X.list,.slice y X.sub.length bx]) (by simp[results,yN,go_sem,y0,y1,y2]) rfl ?_;exact⟨X,_,_,_,I,m',rfl,HX.out.iz (fun _ _ h=>by have:=j.out.siz;omega),k,d,K,fun h=>absurd h x⟩
 ·rw[zh (by rw[x];simp),zi (by omega)];rw[hE,GP,hK]at S;have m:=za (G.out.less (M-n-1));generalize sx:W3.setCell ⟨gl,0,none⟩ (.int .i64 (M-n-1))=p at*;clear L R Y U;obtain⟨W,p1,O,p3,p4,Z⟩:=eR (show af p w.heap.size 240 #[_,_,_,_,_,_]from m.out.rdg);obtain⟨L,R,Y,U,_⟩:=aS m.out.ty;unfold iB;clear hS;go_enter yZ,yV
  go_wp2_with fail
  have oC:bq p:=Am.out p m.out;refine(S.out p m.out.st oC).mono ?_;rintro e z ⟨rfl,H,l⟩;have j:=za (m.out.dF l H.rdr);obtain⟨W,p1,O,p3,p4,Z⟩:=eR (show af z w.heap.size 240 #[_,_,_,_,_,_]from j.out.rdg);clear H l;go_wp2_with fail
  refine(qB _ _ _ (.inl ⟨rfl,w.heap.size+1,rfl,rfl⟩) 0 (fun _=>a) (fun _ _=>true) (fun i n r=>tG (fun n r=>a.rd M n r) (0-i) n r) (fun _=>dA) (fun _=>a.sub.length) (fun _=>dc) z g gl q s c 5 _ M (n+1) j.out.st hk hs (by omega) 5 ⟨0,[],0,[]⟩ (T6.SM M 0 s a) (fun h=>absurd h (by decide)) (fun _=>rfl) (za fun i hi=>by omega) (za fun i hi=>by omega)).mono ?_;rintro e w2 ⟨X,c0,c1,c2,I,m',rfl,u,J,l,K,F⟩;obtain⟨y,bx,rfl,rfl,rfl,_⟩:=u.open_;have E:=za (j.out.KV l J);have HX:=za (u.kK (b:=w.heap.size+1+1) (by have:=j.out.siz;omega) (.string X.text) (.bool X.list) (.slice y X.sub.length bx));have UM:=za F;clear u J l F;obtain⟨n0,n1,n2,m0,m1,m2⟩:=gZ E.out.res;obtain⟨k,d,y0,y1,y2⟩:=E.out.ends (.string X.text) (.bool X.list) (.slice y X.sub.length bx);have E1:=za k;have E2:=za d;clear k d;go_wp2;have k:=E1.out;have d:=E2.out;refine zj (v:= .agg #[.string X.text,.bool X.list,.slice y X.sub.length bx]) (by simp[results,yN,go_sem,y0,y1,y2]) rfl ?_;exact⟨X,_,_,_,I,m',rfl,HX.out.iz (fun _ _ h=>by have:=j.out.siz;omega),k,d,K,fun h=>absurd h (show¬(5:Int)=0 by decide)⟩
 rw[zh (by rw[x];simp),zh (by omega)];rw[hE,GP,hK]at S;have aO:=nP x;rw[xN];show Calls _ _ _ _ fun e w'=>gY w g gl q s M ⟨(tG (fun n r=>a.rd M n r) Nm (n+1) (s.data.toList.drop (c+Nz))).e,.mk ⟨#[]⟩ true (tG (fun n r=>a.rd M n r) Nm (n+1) (s.data.toList.drop (c+Nz))).xs,(tG (fun n r=>a.rd M n r) Nm (n+1) (s.data.toList.drop (c+Nz))).n,(tG (fun n r=>a.rd M n r) Nm (n+1) (s.data.toList.drop (c+Nz))).q⟩ e w'
 obtain⟨ad,hR⟩:∃ad,tG (fun n r=>a.rd M n r) Nm (n+1) (s.data.toList.drop (c+Nz))=ad:=⟨_,rfl⟩
 rw[hR];have D9:=za hR;clear hR;have m:=za (G.out.less (M-n-1));generalize sx:W3.setCell ⟨gl,0,none⟩ (.int .i64 (M-n-1))=p at*;clear L R Y U;obtain⟨W,p1,O,p3,p4,Z⟩:=eR (show af p w.heap.size 240 #[_,_,_,_,_,_]from m.out.rdg);obtain⟨L,R,Y,U,_⟩:=aS m.out.ty;unfold iB;clear hS;go_enter yZ,yV
 go_wp2_with fail
 have oC:bq p:=Am.out p m.out;refine(S.out p m.out.st oC).mono ?_;rintro e z ⟨rfl,H,l⟩;have j:=za (m.out.dF l H.rdr);obtain⟨W,p1,O,p3,p4,Z⟩:=eR (show af z w.heap.size 240 #[_,_,_,_,_,_]from j.out.rdg);clear H l;go_wp2_with fail
 have ot:af z (w.heap.size+1) 43 #[.int .i64 4,.int .i64 D,.slice (some ⟨b,o,none⟩) 1 cap,.int .i64 0]:=by rw[aj.out];exact j.out.ty
 have jJ:∀V,ae [g,gl] z V->ae [g,gl] w V/\Below B w V:=fun V h=>⟨j.out.only.trans h,(j.out.only.trans h).below hB (by simp;omega)⟩
 refine(qB _ _ _ (.inl ⟨rfl,w.heap.size+1,rfl,rfl⟩) Nm (fun _=>a) (fun _ _=>true) (fun i n r=>tG (fun n r=>a.rd M n r) (Nm-i) n r) (fun _=>dA) (fun _=>a.sub.length) (fun _=>dc) z g gl q s (c+Nz) 0 _ M (n+1) j.out.st (by omega) hs (by omega) ad.e ad (T6.SM M Nm s a) (fun _=>⟨by omega,by rw[<-D9.out];simp,rfl⟩) (fun h=>absurd rfl h) (za fun i hi V I f' m' S2 hV K=>by
  obtain⟨x,C⟩:=jJ V S2;obtain⟨e0,k,d,e3⟩:=HE.out;exact Xq i (w.heap.size+1) b o 1 cap 4 D 0 _ _ _ _ V (ot.only S2 (by simp;omega)) (by omega) (by omega) ((C.cell fL).trans e0) ((C.cell fL).trans k) ((C.cell fL).trans d) ((C.cell fL).trans e3) (by have:=C.size;omega) _ _ _ _ _ _ rfl rfl rfl rfl) (za fun i hi V I n' S2 hV K=>by
  obtain⟨x,C⟩:=jJ V S2;exact IH.out V _ _ _ _ I n' (ai.out.below C) (by have:=C.size;omega) hV K (N8.out.only x (by simp;omega)))).mono ?_
 rintro e w2 ⟨X,c0,c1,c2,I,m',rfl,u,J,l,K,F⟩;obtain⟨y,bx,rfl,rfl,rfl,_⟩:=u.open_;have E:=za (j.out.KV l J);have HX:=za (u.kK (b:=w.heap.size+1+1) (by have:=j.out.siz;omega) (.string X.text) (.bool X.list) (.slice y X.sub.length bx));have UM:=za F;clear u J l F;obtain⟨n0,n1,n2,m0,m1,m2⟩:=gZ E.out.res;obtain⟨k,d,y0,y1,y2⟩:=E.out.ends (.string X.text) (.bool X.list) (.slice y X.sub.length bx);have E1:=za k;have E2:=za d;clear k d;go_wp2;have k:=E1.out;have d:=E2.out;refine zj (v:= .agg #[.string X.text,.bool X.list,.slice y X.sub.length bx]) (by simp[results,yN,go_sem,y0,y1,y2]) rfl ?_;exact⟨X,_,_,_,I,m',rfl,HX.out.iz (fun _ _ h=>by have:=j.out.siz;omega),k,d,K,UM.out⟩
theorem Nd {A:Option Addr}(h:fk w B l A 0):∃p:Nat->Option Addr×Nat,∀i (hi:i<l.length),∃b o,A=some ⟨b,o,none⟩/\b<B/\w.cell? ⟨b,o+i*4,none⟩=some (.int .i64 (l[i]).kind)/\w.cell? ⟨b,o+i*4+1,none⟩=some (.int .i64 (l[i]).size)/\w.cell? ⟨b,o+i*4+2,none⟩=some (.slice (p i).1 (l[i]).sub.length (p i).2)/\w.cell? ⟨b,o+i*4+3,none⟩=some (.int .i64 (l[i]).tail)/\cG w B l[i] (.int .i64 (l[i]).kind) (.int .i64 (l[i]).size) (.slice (p i).1 (l[i]).sub.length (p i).2) (.int .i64 (l[i]).tail):=by
 have key:∀i,∃p:Option Addr×Nat,∀(hi:i<l.length),∃b o,A=some ⟨b,o,none⟩/\b<B/\w.cell? ⟨b,o+i*4,none⟩=some (.int .i64 (l[i]).kind)/\w.cell? ⟨b,o+i*4+1,none⟩=some (.int .i64 (l[i]).size)/\w.cell? ⟨b,o+i*4+2,none⟩=some (.slice p.1 (l[i]).sub.length p.2)/\w.cell? ⟨b,o+i*4+3,none⟩=some (.int .i64 (l[i]).tail)/\cG w B l[i] (.int .i64 (l[i]).kind) (.int .i64 (l[i]).size) (.slice p.1 (l[i]).sub.length p.2) (.int .i64 (l[i]).tail):=fun i=>by
  by_cases hi:i<l.length
  ·obtain⟨b,o,s,u,r,x,n,q,j,k,d,c,e⟩:=h.at_ i hi;obtain⟨m,cap,rfl,rfl,rfl,rfl,_⟩:=e.open_;simp only[zQ]at j k d c;exact⟨(m,cap),fun _=>⟨b,o,n,q,j,k,d,c,e⟩⟩
  exact⟨(none,0),fun h=>absurd h hi⟩
 exact⟨fun i=>Classical.choose (key i),fun i hi=>Classical.choose_spec (key i) hi⟩
theorem QB {i:Nat}(h:i<l.length):l[i]?.getD (.mk 0 0 [] 0)=l[i]:=by simp[h]
theorem IZ (l:List Ty)(c:Int)(B:Nat)(A:Option Addr)(cap:Nat)(w:World)(g gl j:Nat)(s:ByteArray)(d n:Nat)(M:Int)(hS:jI w g gl j s d 0 (M-n))(hk:d<=s.size)(hs:s.size<=1099511627776)(hM:¬M<=n)(uA:M<=1024)(hl:l.length<=16)(oq:0<=c)(JH:c<=l.length)(hL:bq w)(hg:0<g)(pC:0<gl)
 (hT:fk w B l A 0) (hB:B<=w.heap.size) (ab:B<=g) (Cp:B<=gl)
 (IH:Hid (∀a∈l,∀V U L W c3 d (n:Nat),cG V B a U L W c3->B<=V.heap.size->jI V g gl j s d 0 (M-n)->d<=s.size->bq V->Calls prog 183 #[iB g gl j,.agg #[U,L,W,c3]] V fun e w'=>gY V g gl j s M (a.rd M n (s.data.toList.drop d)) e w')):
 Calls prog 183 #[iB g gl j,.agg #[.int .i64 5,.int .i64 0,.slice A l.length cap,.int .i64 c]] w fun e w'=>gY w g gl j s M ((Ty.mk 5 0 l c).rd M n (s.data.toList.drop d)) e w':=by
 have aE:=hS.rdr.lt;have kV:=hS.left.lt;have d0:decide (M-(n:Int)<=0)=false:=zv (by omega);rw[uh hM];obtain⟨p,hp⟩:=Nd hT;have HP:=za hp;have N8:=za hL;show Calls _ _ _ _ fun e w'=>gY w g gl j s M ⟨(nX M l ((l.length:Int)-c).toNat (n+1) (s.data.toList.drop d)).e,.mk ⟨#[]⟩ true (nX M l ((l.length:Int)-c).toNat (n+1) (s.data.toList.drop d)).xs,(nX M l ((l.length:Int)-c).toNat (n+1) (s.data.toList.drop d)).n,(nX M l ((l.length:Int)-c).toNat (n+1) (s.data.toList.drop d)).q⟩ e w'
 obtain⟨R,J⟩:∃R,nX M l ((l.length:Int)-c).toNat (n+1) (s.data.toList.drop d)=R:=⟨_,rfl⟩
 rw[J];have D9:=za J;clear J hp hT;obtain⟨z,C,ez,el⟩:∃(z:Int) (C:List Ty),z=0/\C=l:=⟨_,_,rfl,rfl⟩
 rw[<-ez];rw[show l.length=C.length from by rw[el]];have D:=za (uq.start (tc:= #[.int .i64 (5),.int .i64 z,.slice A C.length cap,.int .i64 c]) hS);generalize kE:(((w.alloc (.cells (kf g gl j) 240)).alloc (.cells #[.int .i64 (5),.int .i64 z,.slice A C.length cap,.int .i64 c] 43)).alloc (.cells #[.string ⟨#[]⟩,.bool false,.slice none 0 0] 28))=S at*;unfold kf at kE;obtain⟨p0,p1,p2,p3,p4,p5⟩:=eR (show af S w.heap.size 240 #[_,_,_,_,_,_]from D.out.rdg);obtain⟨q0,q1,q2,q3,_⟩:=aS D.out.ty;have l0:S.cell? ⟨gl,0,none⟩=some (.int .i64 (M-n)):=D.out.st.left.cell 0;have l1:=D.out.st.left.frozen 0;subst ez;obtain⟨G,N⟩:∃G,C.length=G:=⟨_,rfl⟩
 have u:Hid (l.length=G):=za (by rw[<-N,el]);rw[N]at kE D⊢;clear N el hL;have m:=za (D.out.less (M-n-1));generalize sx:S.setCell ⟨gl,0,none⟩ (.int .i64 (M-n-1))=K at*;clear q0 q1 q2 q3;obtain⟨p0,p1,p2,p3,p4,p5⟩:=eR (show af K w.heap.size 240 #[_,_,_,_,_,_]from m.out.rdg);obtain⟨q0,q1,q2,q3,_⟩:=aS m.out.ty;unfold iB;clear hS;go_enter yZ,yV
 go_wp2_with fail
 have ot:=m.out.ty;have jJ:∀V,ae [g,gl] K V->ae [g,gl] w V/\Below B w V:=fun V h=>⟨m.out.only.trans h,(m.out.only.trans h).below hB (by simp;omega)⟩
 refine(qB _ _ _ (.inr ⟨rfl,w.heap.size+1,w.heap.size,rfl,rfl⟩) G (fun i=>l[i]?.getD (.mk 0 0 [] 0)) (fun i k=>decide ((i:Int)<(l.length:Int)-c)||decide (k<s.size)) (fun i n aa=>nX M (l.drop i) (((l.length:Int)-c).toNat-i) n aa) (fun i=>(p i).1) (fun i=>(l[i]?.getD (.mk 0 0 [] 0)).sub.length) (fun i=>(p i).2) K g gl j s d 0 _ M (n+1) m.out.st hk hs (by have:=u.out;omega) R.e R (by rw[<-u.out];exact T6.ofT M s l c oq) (fun _=>⟨by omega,by rw[<-D9.out];simp,rfl⟩) (fun h=>absurd rfl h) (za fun i hi V H f' m' F Y I=>by
  obtain⟨h1,q⟩:=jJ V F;have y:i<l.length:=by rw[u.out];exact hi
  rw[QB y];obtain⟨b,o,hA,E,e0,x,r,e3,_⟩:=HP.out i y;rw[hA]at ot;have:=q.size;rw[u.out];exact Xr i (w.heap.size+1) w.heap.size g gl j b o G cap s H m' 5 0 c _ _ _ _ V (ot.only F (by simp;omega)) (m.out.rdg.only F (by simp;omega)) f' Y I (by omega) hi (by have:=u.out;omega) oq (by have:=u.out;omega) ((q.cell E).trans e0) ((q.cell E).trans x) ((q.cell E).trans r) ((q.cell E).trans e3) (by omega) _ _ _ _ _ _ rfl rfl rfl rfl) (za fun i hi V H n' F Y I=>by
  obtain⟨h1,q⟩:=jJ V F;have y:i<l.length:=by rw[u.out];exact hi
  rw[QB y];obtain⟨b,o,hA,E,e0,x,r,e3,Dx⟩:=HP.out i y;exact IH.out _ (zR y) V _ _ _ _ H n' (Dx.below q) (by have:=q.size;omega) Y I (N8.out.only h1 (by simp;omega)))).mono ?_
 have Z:=m;rintro e w2 ⟨X,U,L,W,H,m',rfl,O,pJ,ho,I,jb⟩;obtain⟨ax,bx,rfl,rfl,rfl,_⟩:=O.open_;have kS:=za (Z.out.KV ho pJ);have HX:=za (O.kK (b:=w.heap.size+1+1) (by have:=Z.out.siz;omega) (.string X.text) (.bool X.list) (.slice ax X.sub.length bx));have UM:=za jb;clear O pJ ho jb;obtain⟨n0,n1,n2,m0,m1,m2⟩:=gZ kS.out.res;obtain⟨x,r,y0,y1,y2⟩:=kS.out.ends (.string X.text) (.bool X.list) (.slice ax X.sub.length bx);have E1:=za x;have E2:=za r;clear x r;go_wp2;have x:=E1.out;have r:=E2.out;refine zj (v:= .agg #[.string X.text,.bool X.list,.slice ax X.sub.length bx]) (by simp[results,yN,go_sem,y0,y1,y2]) rfl ?_;exact⟨X,_,_,_,H,m',rfl,HX.out.iz (fun _ _ h=>by have:=Z.out.siz;omega),x,r,I,UM.out⟩
theorem T7 :∀(x:Ty) (B:Nat) (w:World) (J F D K:Value) (g gl d:Nat) (s:ByteArray) (c n:Nat) (M:Int),cG w B x J F D K->B<=w.heap.size->B<=g->B<=gl->x.right=true->jI w g gl d s c 0 (M-n)->c<=s.size->s.size<=1099511627776->M<=1024->bq w->0<g->0<gl->
 Calls prog 183 #[iB g gl d,.agg #[J,F,D,K]] w fun e w'=>gY w g gl d s M (x.rd M n (s.data.toList.drop c)) e w':=by
 intro x;induction x using Ty.ind with
 |h ki z l ta ih=>
  intro B w J F D K g gl d s c n M h R u y X hS p k m I r q;obtain⟨rfl,rfl,rfl,_,_,_,Re,A,cap,rfl,so,mA,W⟩:=h;obtain⟨bG,U⟩:=jL X;by_cases i:M<=n
  ·rw[Kn i];exact IX ki z ta l A cap w g gl d s c n M hS p i
  rcases lM bG with⟨rfl,O,o,rfl⟩|⟨rfl,O,H,o,rfl⟩|⟨rfl,O,H,o,rfl⟩|⟨rfl,O,H,o,rfl⟩|⟨rfl,rfl,H,h5,h6⟩
  ·obtain rfl:l= []:=zp o;obtain⟨b,rfl⟩:∃b:Nat,z=b:=⟨z.toNat,by omega⟩
   exact Nb b A cap w g gl d s c n M hS p k i m (by omega) (by omega)
  ·obtain rfl:l= []:=zp o;obtain⟨b,rfl⟩:∃b:Nat,z=b:=⟨z.toNat,by omega⟩
   exact Nc b A cap w g gl d s c n M hS p k i m (by omega)
  ·obtain rfl:l= []:=zp o;obtain⟨b,rfl⟩:∃b:Nat,z=b:=⟨z.toNat,by omega⟩
   exact FI b A cap w g gl d s c n M hS p k i m (by omega) I r q
  ·obtain⟨a,rfl⟩:=Yd.1 o;obtain⟨b,rfl⟩:∃b:Nat,z=b:=⟨z.toNat,by omega⟩
   have Z:a.right=true:=by simpa[bR]using U
   exact IY a b B A cap w g gl d s c n M hS p k i m (by omega) I r q W R u y (za fun V d0 d1 d2 d3 c n C N G E L=>ih a (by simp) B V d0 d1 d2 d3 g gl d s c n M C N u y Z G E k m L r q)
  exact IZ l ta B A cap w g gl d s c n M hS p k i m (by omega) (by omega) (by omega) I r q W R u y (za fun a S V d0 d1 d2 d3 c n C N G E L=>by
   obtain⟨j,Y,rfl⟩:=y7 S;exact ih _ S B V d0 d1 d2 d3 g gl d s c n M C N u y (dT U j Y) G E k m L r q)
