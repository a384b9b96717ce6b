/- packed.Next by a meter with much room. -/
import Derived.Test.YtpjgigllldipiaaGreatDoorKA20
import Derived.Test.YtpjgigllldipiaaGreatDoorKA25
set_option linter.all false
set_option maxRecDepth 100000
set_option maxHeartbeats 1600000
namespace Go.Proofs.YtpjgigllldipiaaGreatDoor
open Tryz
open Go.RowKit
def yO:=@results145
def y7:=@ntmps145
def xg:=@func145
theorem vn (most b:Int)(d a u t p:Nat)(s:ByteArray)(w:World)(n:s.size<=9223372036854775807)(j: -9223372036854775808<=most)(m:most<=9223372036854775807)(k:s0 w d a u t p)(r:a<=9223372036854775807)(hu:u+70000<=a)(y:t+70000<=9223372036854775807)(z:b<=70000):
 Calls prog 80 #[.int .i64 most,.int .i64 b,.pointer (some ⟨d,0,none⟩),.string s] w fun e w'=>e=BO (aS most b s)/\(∃q,s0 w' d a (u+(aS most b s).2.2.2.2) (t+(aS most b s).2.2.2.2) q)/\ae [d] w w':=by
 by_cases hx:(ai most s).1≠0\/(aB (ai most s).2.2.1).2.2≠0\/b<(aB (ai most s).2.2.1).1
 ·have hz:(aS most b s).2.2.2.2=0:=by
   rw[bI];by_cases c:(ai most s).1≠0
   ·rw[zl c]
   rw[zj c];by_cases i:(aB (ai most s).2.2.1).2.2≠0
   ·rw[zl i]
   rw[zj i,zl (by rcases hx with h|h|h;exact absurd h c;exact absurd h i;exact h)]
  rw[hz];exact(Ah most b d s w n j m hx).mono fun e w' ⟨o,l⟩=>⟨o,⟨p,k.only l (by simp)⟩,l.mono (by simp)⟩
 have c:(ai most s).1=0:=Decidable.byContradiction fun h=>hx (.inl h)
 have i:(aB (ai most s).2.2.1).2.2=0:=Decidable.byContradiction fun h=>hx (.inr (.inl h))
 have x:((aB (ai most s).2.2.1).1:Int)<=b:=by
  have:¬b<(aB (ai most s).2.2.1).1:=fun h=>hx (.inr (.inr h))
  omega
 have hz:(aS most b s).2.2.2.2=(aB (ai most s).2.2.1).1:=by
  rw[bI,zj (by rw[c];simp),zj (by rw[i];simp),zj (by omega)];split<;>rfl
 rw[hz];exact Ai most b d a u t p s w n j m k r c i x (by omega) (by omega)
theorem Iu (most b:Int)(s:ByteArray):(aS most b s).2.2.2.2=0\/((aS most b s).2.2.2.2:Int)<=b:=by
 rw[bI];split
 ·exact .inl rfl
 split
 ·exact .inl rfl
 split
 ·exact .inl rfl
 right;split<;>simp only<;>omega
def gG (w:World)(g gl fb:Nat)(s:ByteArray)(M:Int)(R:RN)(e:Ending)(w':World):Prop:=
 ∃(X:It) (c0 c1 c2:Value) (k':Nat) (m':Int),e= .returned (.agg #[c0,c1,c2])/\fO w' (w.heap.size<= ·) X c0 c1 c2/\jh w' g gl fb s k' R.e m'/\ae [g,gl] w w'/\k'<=s.size/\(R.e=0->X=R.x/\R.q=s.data.toList.drop k'/\m'=M-R.n)
theorem jh.kR {w:World}{g gl e c:Nat}{s:ByteArray}{k:Nat}{f m:Int}{i:Array Value}(h:jh w g gl e s k f m)(b:af w c 28 i)(j l n:Value):jh (((w.setCell ⟨c,0,none⟩ j).setCell ⟨c,1,none⟩ l).setCell ⟨c,2,none⟩ n) g gl e s k f m:=
 have n1:=h.rdr.DC b (by decide);have n2:=h.left.DC b (by decide);have d:=h.box.DC b (by decide)
 ⟨((af.dE (show af w g _ _ from h.rdr) (p:=⟨c,0,none⟩) n1 _).dE (p:=⟨c,1,none⟩) n1 _).dE (p:=⟨c,2,none⟩) n1 _,((h.left.dE (p:=⟨c,0,none⟩) n2 _).dE (p:=⟨c,1,none⟩) n2 _).dE (p:=⟨c,2,none⟩) n2 _,((h.box.dE (p:=⟨c,0,none⟩) d _).dE (p:=⟨c,1,none⟩) d _).dE (p:=⟨c,2,none⟩) d _⟩
theorem jh.less {w:World}{g gl b:Nat}{s:ByteArray}{k:Nat}{f m:Int}(h:jh w g gl b s k f m)(u:Int):jh (w.setCell ⟨gl,0,none⟩ (.int .i64 u)) g gl b s k f u:=
 ⟨af.dE (show af w g _ _ from h.rdr) (p:=⟨gl,0,none⟩) h.apart.1.symm _,one_setCell h.left,h.box.dE (p:=⟨gl,0,none⟩) h.apart.2.2 _⟩
structure tI (w:World)(g gl fb:Nat)(s:ByteArray)(k:Nat)(f m:Int)(tc:Array Value)(V:World):Prop where
 rdg:af V w.heap.size 197 (jN g gl fb)
 ty:af V (w.heap.size+1) 64 tc
 res:af V (w.heap.size+1+1) 28 #[.string ⟨#[]⟩,.bool false,.slice none 0 0]
 st:jh V g gl fb s k f m
 only:ae [g,gl] w V
 siz:w.heap.size+3<=V.heap.size
theorem tI.start {w:World}{g gl b:Nat}{s:ByteArray}{k:Nat}{f m:Int}{tc:Array Value}(h:jh w g gl b s k f m):tI w g gl b s k f m tc (((w.alloc (.cells (jN g gl b) 197)).alloc (.cells tc 64)).alloc (.cells #[.string ⟨#[]⟩,.bool false,.slice none 0 0] 28)) where
 rdg:=((af.new w _ _).alloc _).alloc _
 ty:=af.alloc (af.at_ (by simp)) _
 res:=af.at_ (by simp)
 st:=h.below ((((zq _ w).alloc (zf _) _).alloc (by simp) _).alloc (by simp;omega) _)
 only:=(((ae.refl _ w).alloc _).alloc _).alloc _
 siz:=by simp
theorem tI.less {w V:World}{g gl b:Nat}{s:ByteArray}{k:Nat}{f m:Int}{tc:Array Value}(h:tI w g gl b s k f m tc V)(u:Int):tI w g gl b s k f u tc (V.setCell ⟨gl,0,none⟩ (.int .i64 u)) where
 rdg:=h.rdg.dE (p:=⟨gl,0,none⟩) (h.rdg.DC h.st.left (by decide)) _
 ty:=h.ty.dE (p:=⟨gl,0,none⟩) (h.ty.DC h.st.left (by decide)) _
 res:=h.res.dE (p:=⟨gl,0,none⟩) (h.res.DC h.st.left (by decide)) _
 st:=h.st.less u
 only:=h.only.setCell (by simp) _
 siz:=by have:=h.siz;simpa[World.setCell]using this
theorem tI.dw {w V V':World}{g gl c:Nat}{s:ByteArray}{k d:Nat}{f e m:Int}{tc:Array Value}(h:tI w g gl c s k f m tc V)(b:ae [g] V V')(i:iI V' g s d e):tI w g gl c s d e m tc V' where
 rdg:=h.rdg.only b (by simp[h.rdg.DC h.st.rdr (by decide)])
 ty:=h.ty.only b (by simp[h.ty.DC h.st.rdr (by decide)])
 res:=h.res.only b (by simp[h.res.DC h.st.rdr (by decide)])
 st:=h.st.dw b i
 only:=h.only.trans (b.mono (by simp))
 siz:=zK h.siz b.size
theorem tI.below {w V V':World}{g gl c:Nat}{s:ByteArray}{k:Nat}{f m:Int}{tc:Array Value}(h:tI w g gl c s k f m tc V)(b:Below V.heap.size V V'):tI w g gl c s k f m tc V' where
 rdg:=(b.block _ h.rdg.lt).trans h.rdg
 ty:=(b.block _ h.ty.lt).trans h.ty
 res:=(b.block _ h.res.lt).trans h.res
 st:=h.st.below b
 only:=h.only.trans ((ae.ag b (zf _)).mono (by simp))
 siz:=zK h.siz b.size
theorem tI.ends {w V:World}{g gl e:Nat}{s:ByteArray}{k:Nat}{f m:Int}{tc:Array Value}(h:tI w g gl e s k f m tc V)(b c d:Value):
 jh (((V.setCell ⟨w.heap.size+1+1,0,none⟩ b).setCell ⟨w.heap.size+1+1,1,none⟩ c).setCell ⟨w.heap.size+1+1,2,none⟩ d) g gl e s k f m/\ae [g,gl] w (((V.setCell ⟨w.heap.size+1+1,0,none⟩ b).setCell ⟨w.heap.size+1+1,1,none⟩ c).setCell ⟨w.heap.size+1+1,2,none⟩ d)/\
 (V.setCell ⟨w.heap.size+1+1,0,none⟩ b).cell? ⟨w.heap.size+1+1,0,none⟩=some b/\((V.setCell ⟨w.heap.size+1+1,0,none⟩ b).setCell ⟨w.heap.size+1+1,1,none⟩ c).cell? ⟨w.heap.size+1+1,1,none⟩=some c/\(((V.setCell ⟨w.heap.size+1+1,0,none⟩ b).setCell ⟨w.heap.size+1+1,1,none⟩ c).setCell ⟨w.heap.size+1+1,2,none⟩ d).cell? ⟨w.heap.size+1+1,2,none⟩=some d:=
 ⟨h.st.kR h.res b c d,((h.only.setCell (by simp;omega) _).setCell (by simp;omega) _).setCell (by simp;omega) _,by have:=(h.res.set 0 b).cell 0;simpa using this,by have:=((h.res.set 0 b).set 1 c).cell 1;simpa using this,by have:=(((h.res.set 0 b).set 1 c).set 2 d).cell 2;simpa using this⟩
theorem gH {w:World}{g:Nat}{t:TypeId}{a b c:Value}(h:af w g t #[a,b,c]):w.cell? ⟨g,0,none⟩=some a/\w.cell? ⟨g,1,none⟩=some b/\w.cell? ⟨g,2,none⟩=some c/\w.frozen? ⟨g,0,none⟩=false/\w.frozen? ⟨g,1,none⟩=false/\w.frozen? ⟨g,2,none⟩=false:=⟨h.cell 0,h.cell 1,h.cell 2,h.frozen 0,h.frozen 1,h.frozen 2⟩
theorem Iv (k z o:Int)(l:List Ty)(A:Option Addr)(cap:Nat)(w:World)(g gl i:Nat)(s:ByteArray)(c n:Nat)(M:Int)(hS:jh w g gl i s c 0 (M-n))(B:c<=s.size)(U:M<=n):
 Calls prog 145 #[gX g gl i,.agg #[.int .i64 k,.int .i64 z,.slice A l.length cap,.int .i64 o]] w fun e w'=>gG w g gl i s M (.bad 4 n (s.data.toList.drop c)) e w':=by
 have J:decide (M-(n:Int)<=0)=true:=zH (by omega);have b:=za (tI.start (tc:= #[.int .i64 (k),.int .i64 z,.slice A l.length cap,.int .i64 o]) hS);generalize C:(((w.alloc (.cells (jN g gl i) 197)).alloc (.cells #[.int .i64 (k),.int .i64 z,.slice A l.length cap,.int .i64 o] 64)).alloc (.cells #[.string ⟨#[]⟩,.bool false,.slice none 0 0] 28))=m at*;unfold jN at C;obtain⟨I,R,G,O,Y,N⟩:=fB (show af m w.heap.size 197 #[_,_,_,_,_,_]from b.out.rdg);obtain⟨X,Z,L,K,_⟩:=aO b.out.ty;have W:m.cell? ⟨gl,0,none⟩=some (.int .i64 (M-n)):=b.out.st.left.cell 0;have x:=za (iu g s c 4 m b.out.st.rdr);unfold gX;clear hS;go_enter xg,y7
 go_wp2_with fail
 refine x.out.mono ?_;rintro e H ⟨rfl,r,q⟩;have p:=za (b.out.dw q r);clear r q;obtain⟨S,n1,n2,m0,m1,m2⟩:=gH p.out.res;obtain⟨j,d,E,u,y⟩:=p.out.ends (.string ⟨#[]⟩) (.bool false) (.slice none 0 0);have D:=za j;have F:=za d;clear j d;go_wp2;have j:=D.out;have d:=F.out;refine zo (v:= .agg #[.string ⟨#[]⟩,.bool false,.slice none 0 0]) (by simp[results,yO,go_sem,E,u,y]) rfl ?_;exact⟨iU,_,_,_,c,_,rfl,fO.text false (by simp[ByteArray.size]),j,d,B,fun h=>absurd h (show¬(4:Int)=0 by decide)⟩
theorem vo (s:ByteArray)(k n:Nat):(s.extract k (k+n)).data.toList=(s.data.toList.drop k).take n:=by
 rw[aq,Z6,show k+n-k=n from by omega]
theorem Mm (b:Nat)(A:Option Addr)(cap:Nat)(w:World)(g gl G:Nat)(s:ByteArray)(c n:Nat)(M:Int)(hS:jh w g gl G s c 0 (M-n))(Z:c<=s.size)(hs:s.size<=1099511627776)(hM:¬M<=n)(B7:M<=1024)(hz:1<=b)(R4:b<=8):
 Calls prog 145 #[gX g gl G,.agg #[.int .i64 1,.int .i64 b,.slice A ([]:List Ty).length cap,.int .i64 0]] w fun e w'=>gG w g gl G s M ((Ty.mk 1 b [] 0).rd M n (s.data.toList.drop c)) e w':=by
 have d0:decide (M-(n:Int)<=0)=false:=zz (by omega);rw[Hb hM,show((b:Int)).toNat=b from rfl,zZ,aa];obtain⟨z,E,y,W,et,el⟩:∃(z E:Int) (y:List Ty),z=b/\E=0/\y= []:=⟨_,_,_,rfl,rfl,rfl⟩
 rw[<-W,<-et,<-el];have k:=za (tI.start (tc:= #[.int .i64 (1),.int .i64 z,.slice A y.length cap,.int .i64 E]) hS);generalize oq:(((w.alloc (.cells (jN g gl G) 197)).alloc (.cells #[.int .i64 (1),.int .i64 z,.slice A y.length cap,.int .i64 E] 64)).alloc (.cells #[.string ⟨#[]⟩,.bool false,.slice none 0 0] 28))=C at*;unfold jN at oq;obtain⟨U,p1,S,p3,p4,Y⟩:=fB (show af C w.heap.size 197 #[_,_,_,_,_,_]from k.out.rdg);obtain⟨H,I,B,x,_⟩:=aO k.out.ty;have l0:C.cell? ⟨gl,0,none⟩=some (.int .i64 (M-n)):=k.out.st.left.cell 0;have l1:=k.out.st.left.frozen 0;subst W et el;simp only[zS]at oq k;by_cases vZ:s.size<c+b
 ·rw[zl (by omega)];have i:=za (k.out.less (M-n-1));generalize rJ:C.setCell ⟨gl,0,none⟩ (.int .i64 (M-n-1))=u at*;clear H I B x;obtain⟨U,p1,S,p3,p4,Y⟩:=fB (show af u w.heap.size 197 #[_,_,_,_,_,_]from i.out.rdg);obtain⟨H,I,B,x,_⟩:=aO i.out.ty;unfold gX;clear hS;go_enter xg,y7
  go_wp2_with fail
  refine(fP g s c b u i.out.st.rdr Z (by omega) vZ (by omega)).mono ?_;rintro e l ⟨rfl,r,o⟩;have L:=za (i.out.dw o r);clear r o;go_wp2_with fail
  refine(mN ⟨#[]⟩ l rfl).mono ?_;rintro e w' ⟨rfl,rfl⟩;go_wp2_with fail
  refine(Fq 0 l (by omega)).mono ?_;rintro e w2 ⟨rfl,q⟩;have p:=za (L.out.below q);clear q;obtain⟨n0,n1,n2,m0,m1,m2⟩:=gH p.out.res;obtain⟨j,d,O,J,K⟩:=p.out.ends (.string ⟨(cA 0).toArray⟩) (.bool false) (.slice none 0 0);have N:=za j;have R:=za d;clear j d;go_wp2;have j:=N.out;have d:=R.out;refine zo (v:= .agg #[.string ⟨(cA 0).toArray⟩,.bool false,.slice none 0 0]) (by simp[results,yO,go_sem,O,J,K]) rfl ?_;exact⟨.mk ⟨(cA 0).toArray⟩ false [],_,_,_,c,_,rfl,fO.text false (by simp[da,ByteArray.size]),j,d,Z,fun h=>absurd h (show¬(2:Int)=0 by decide)⟩
 rw[zj (by omega)];have D:=vo s c b;have AB:(s.extract c (c+b)).size=b:=by rw[an s c (c+b) (by omega)];omega
 have X:=za (fun V=>eP (s.extract c (c+b)) V (by omega) (by omega));rw[D]at X;have F:=jm ((s.data.toList.drop c).take b);rw[<-D,aa,AB]at F;have ab:2^(8*b)<=18446744073709551616:=le_pow _ R4;rw[D]at F;generalize cV ((s.data.toList.drop c).take b)=m at*;have HN:=za (fun V=>Fq m V (by omega));have B9:=fW b m F;have TV:Hid ((⟨(cA m).toArray⟩:ByteArray).size<=9223372036854775807):=za (by rw[bH];omega);have QP:Hid ((s.data.toList.drop c).drop b=s.data.toList.drop (c+b)):=za (by rw[xR]);generalize (⟨(cA m).toArray⟩:ByteArray)=T at*;clear D AB F B9;have i:=za (k.out.less (M-n-1));generalize rJ:C.setCell ⟨gl,0,none⟩ (.int .i64 (M-n-1))=u at*;clear H I B x;obtain⟨U,p1,S,p3,p4,Y⟩:=fB (show af u w.heap.size 197 #[_,_,_,_,_,_]from i.out.rdg);obtain⟨H,I,B,x,_⟩:=aO i.out.ty;unfold gX;clear hS;go_enter xg,y7
 go_wp2_with fail
 refine(ei g s c b u i.out.st.rdr (by omega) (by omega)).mono ?_;rintro e l ⟨rfl,r,o⟩;have L:=za (i.out.dw o r);clear r o;go_wp2_with fail
 refine(X.out l).mono ?_;rintro e w' ⟨rfl,rfl⟩;go_wp2_with fail
 refine(HN.out l).mono ?_;rintro e w2 ⟨rfl,q⟩;have p:=za (L.out.below q);clear q;obtain⟨n0,n1,n2,m0,m1,m2⟩:=gH p.out.res;obtain⟨j,d,O,J,K⟩:=p.out.ends (.string T) (.bool false) (.slice none 0 0);have N:=za j;have R:=za d;clear j d;go_wp2;have j:=N.out;have d:=R.out;refine zo (v:= .agg #[.string T,.bool false,.slice none 0 0]) (by simp[results,yO,go_sem,O,J,K]) rfl ?_;exact⟨.mk T false [],_,_,_,c+b,_,rfl,fO.text false TV.out,j,d,by omega,fun _=>⟨rfl,QP.out,by simp only;omega⟩⟩
theorem Mn (c:Nat)(A:Option Addr)(cap:Nat)(w:World)(g gl C:Nat)(s:ByteArray)(b n:Nat)(M:Int)(hS:jh w g gl C s b 0 (M-n))(U:b<=s.size)(hs:s.size<=1099511627776)(hM:¬M<=n)(B7:M<=1024)(R4:c<=65536):
 Calls prog 145 #[gX g gl C,.agg #[.int .i64 2,.int .i64 c,.slice A ([]:List Ty).length cap,.int .i64 0]] w fun e w'=>gG w g gl C s M ((Ty.mk 2 c [] 0).rd M n (s.data.toList.drop b)) e w':=by
 have d0:decide (M-(n:Int)<=0)=false:=zz (by omega);rw[Hd hM,show((c:Int)).toNat=c from rfl,zZ,aa];obtain⟨z,B,u,R,et,el⟩:∃(z B:Int) (u:List Ty),z=c/\B=0/\u= []:=⟨_,_,_,rfl,rfl,rfl⟩
 rw[<-R,<-et,<-el];have k:=za (tI.start (tc:= #[.int .i64 (2),.int .i64 z,.slice A u.length cap,.int .i64 B]) hS);generalize Z:(((w.alloc (.cells (jN g gl C) 197)).alloc (.cells #[.int .i64 (2),.int .i64 z,.slice A u.length cap,.int .i64 B] 64)).alloc (.cells #[.string ⟨#[]⟩,.bool false,.slice none 0 0] 28))=y at*;unfold jN at Z;obtain⟨O,Y,N,X,p4,S⟩:=fB (show af y w.heap.size 197 #[_,_,_,_,_,_]from k.out.rdg);obtain⟨D,E,x,r,_⟩:=aO k.out.ty;have l0:y.cell? ⟨gl,0,none⟩=some (.int .i64 (M-n)):=k.out.st.left.cell 0;have l1:=k.out.st.left.frozen 0;subst R et el;simp only[zS]at Z k;by_cases vZ:s.size<b+c
 ·rw[zl (by omega)];have i:=za (k.out.less (M-n-1));generalize rJ:y.setCell ⟨gl,0,none⟩ (.int .i64 (M-n-1))=q at*;clear D E x r;obtain⟨O,Y,N,X,p4,S⟩:=fB (show af q w.heap.size 197 #[_,_,_,_,_,_]from i.out.rdg);obtain⟨D,E,x,r,_⟩:=aO i.out.ty;unfold gX;clear hS;go_enter xg,y7
  go_wp2_with fail
  refine(fP g s b c q i.out.st.rdr U (by omega) vZ (by omega)).mono ?_;rintro e G ⟨rfl,p,l⟩;have I:=za (i.out.dw l p);clear p l;go_wp2_with fail
  refine(oI ⟨#[]⟩ G).mono ?_;rintro e w2 ⟨rfl,o⟩;have m:=za (I.out.below o);clear o;obtain⟨n0,n1,n2,m0,m1,m2⟩:=gH m.out.res;obtain⟨j,d,K,F,H⟩:=m.out.ends (.string ⟨#[]⟩) (.bool false) (.slice none 0 0);have J:=za j;have L:=za d;clear j d;go_wp2;have j:=J.out;have d:=L.out;refine zo (v:= .agg #[.string ⟨#[]⟩,.bool false,.slice none 0 0]) (by simp[results,yO,go_sem,K,F,H]) rfl ?_;exact⟨iU,_,_,_,b,_,rfl,fO.text false (by simp[ByteArray.size]),j,d,U,fun h=>absurd h (show¬(2:Int)=0 by decide)⟩
 rw[zj (by omega)];have W:=vo s b c;have AB:(s.extract b (b+c)).size=c:=by rw[an s b (b+c) (by omega)];omega
 have HX:Hid ((⟨((s.data.toList.drop b).take c).toArray⟩:ByteArray)=s.extract b (b+c)):=za (aL (by rw[W]));rw[HX.out];have TV:Hid ((s.extract b (b+c)).size<=9223372036854775807):=za (by omega);have QP:Hid ((s.data.toList.drop b).drop c=s.data.toList.drop (b+c)):=za (by rw[xR]);clear W AB;have i:=za (k.out.less (M-n-1));generalize rJ:y.setCell ⟨gl,0,none⟩ (.int .i64 (M-n-1))=q at*;clear D E x r;obtain⟨O,Y,N,X,p4,S⟩:=fB (show af q w.heap.size 197 #[_,_,_,_,_,_]from i.out.rdg);obtain⟨D,E,x,r,_⟩:=aO i.out.ty;unfold gX;clear hS;go_enter xg,y7
 go_wp2_with fail
 refine(ei g s b c q i.out.st.rdr (by omega) (by omega)).mono ?_;rintro e G ⟨rfl,p,l⟩;have I:=za (i.out.dw l p);clear p l HX;generalize hT:s.extract b (b+c)=T at*;have HT:=za hT;clear hT;go_wp2_with fail
 refine(oI T G).mono ?_;rintro e w2 ⟨rfl,o⟩;have m:=za (I.out.below o);clear o;obtain⟨n0,n1,n2,m0,m1,m2⟩:=gH m.out.res;obtain⟨j,d,K,F,H⟩:=m.out.ends (.string T) (.bool false) (.slice none 0 0);have J:=za j;have L:=za d;clear j d;go_wp2;have j:=J.out;have d:=L.out;refine zo (v:= .agg #[.string T,.bool false,.slice none 0 0]) (by simp[results,yO,go_sem,K,F,H]) rfl ?_;exact⟨.mk T false [],_,_,_,b+c,_,rfl,fO.text false TV.out,j,d,by omega,fun _=>⟨by show It.mk T false []=It.mk (s.extract b (b+c)) false [];rw[HT.out],QP.out,by simp only;omega⟩⟩
theorem jh.drew {w:World}{g gl b:Nat}{s:ByteArray}{k:Nat}{f m:Int}(h:jh w g gl b s k f m):jh w.drew g gl b s k f m:=⟨h.rdr.drew,h.left.drew,h.box.drew⟩
theorem Fu (d:Nat)(A:Option Addr)(cap:Nat)(w:World)(g gl i:Nat)(s:ByteArray)(b n:Nat)(M:Int)(hS:jh w g gl i s b 0 (M-n))(hk:b<=s.size)(hs:s.size<=1099511627776)(hM:¬M<=n)(B7:M<=1024)(R4:d<=65536)(hL:bj w)(hg:0<g)(lT:0<gl):
 Calls prog 145 #[gX g gl i,.agg #[.int .i64 3,.int .i64 d,.slice A ([]:List Ty).length cap,.int .i64 0]] w fun e w'=>gG w g gl i s M ((Ty.mk 3 d [] 0).rd M n (s.data.toList.drop b)) e w':=by
 have d0:decide (M-(n:Int)<=0)=false:=zz (by omega);rw[uJ hM];have Y:=za (fun V (k:jh V g gl i s b 0 (M-n-1)) (hl:bj V)=>BP g gl i s b d _ V k hk (by omega) R4 hl (by omega));have ni:=fun(h0:(au (s.data.toList.drop b)).2.2=0)=>(ir (s.data.toList.drop b) (au (s.data.toList.drop b)).1 (au (s.data.toList.drop b)).2.1 (by rw[<-h0])).2.1
 rw[zZ,aa]at ni;have HW:=nF (au (s.data.toList.drop b)) d b;obtain⟨ab,ta,tl,ez,et,el⟩:∃(ab ta:Int) (tl:List Ty),ab=d/\ta=0/\tl= []:=⟨_,_,_,rfl,rfl,rfl⟩
 rw[<-et,<-el,<-ez];have E:=za (tI.start (tc:= #[.int .i64 (3),.int .i64 ab,.slice A tl.length cap,.int .i64 ta]) hS);generalize oq:(((w.alloc (.cells (jN g gl i) 197)).alloc (.cells #[.int .i64 (3),.int .i64 ab,.slice A tl.length cap,.int .i64 ta] 64)).alloc (.cells #[.string ⟨#[]⟩,.bool false,.slice none 0 0] 28))=W3 at*;unfold jN at oq;obtain⟨F,p1,p2,p3,I,p5⟩:=fB (show af W3 w.heap.size 197 #[_,_,_,_,_,_]from E.out.rdg);obtain⟨G,z,L,J,_⟩:=aO E.out.ty;have l0:W3.cell? ⟨gl,0,none⟩=some (.int .i64 (M-n)):=E.out.st.left.cell 0;have l1:=E.out.st.left.frozen 0;subst ez et el;simp only[zS]at oq E;have QQ:=fun V (h:tI w g gl i s b 0 (M-n-1) #[.int .i64 3,.int .i64 d,.slice A 0 cap,.int .i64 0] V)=>hL.only h.only (by simp;omega)
 have wL:=za QQ;clear QQ hL;generalize au (s.data.toList.drop b)=ad at*;obtain⟨Nm,j,Ne⟩:=ad;simp only at ni HW⊢;rcases HW with⟨H,hE,Gs,c⟩|⟨H,h2,hE,Gs,c⟩|⟨H,h2,hE,Gs,c⟩
 ·rw[zl H];rw[hE,Gs,c]at Y;have o:=za (E.out.less (M-n-1));generalize rJ:W3.setCell ⟨gl,0,none⟩ (.int .i64 (M-n-1))=r at*;clear G z L J;obtain⟨F,p1,p2,p3,I,p5⟩:=fB (show af r w.heap.size 197 #[_,_,_,_,_,_]from o.out.rdg);obtain⟨G,z,L,J,_⟩:=aO o.out.ty;unfold gX;clear hS;go_enter xg,y7
  go_wp2_with fail
  have R:bj r.drew:=wL.out r o.out;refine aA 9 (fun V=>V.cell? ⟨w.heap.size,0,none⟩=some (.func (.func 120) #[.pointer (some ⟨g,0,none⟩)] #[])/\V.cell? ⟨w.heap.size,4,none⟩=some (.func (.func 143) #[] #[.pointer (some ⟨i,0,none⟩)])/\V.cell? ⟨w.heap.size+1,1,none⟩=some (.int .i64 d)) (by kernel_rfl) (by kernel_rfl) ?_;have hHeld:(fun V:World=>V.cell? ⟨w.heap.size,0,none⟩=some (.func (.func 120) #[.pointer (some ⟨g,0,none⟩)] #[])/\V.cell? ⟨w.heap.size,4,none⟩=some (.func (.func 143) #[] #[.pointer (some ⟨i,0,none⟩)])/\V.cell? ⟨w.heap.size+1,1,none⟩=some (.int .i64 d)) r.drew:=⟨F,I,z⟩
  refine GT.jy [0,1,2,3,4,5] hHeld (fun _ _ _ _ _ h=>h) (by kernel_rfl) ?_;refine .c (v:= .pointer (some ⟨w.heap.size,0,none⟩)) rfl rfl (fun V k=>by go_simp<;>with_reducible rfl) ?_;try simp only[Act.put,zc,ze,zh];refine .c (v:= .func (.func 120) #[.pointer (some ⟨g,0,none⟩)] #[]) rfl rfl (fun V k=>by go_simp<;>with_reducible rfl) ?_;try simp only[Act.put,zc,ze,zh];refine .c (v:= .pointer (some ⟨w.heap.size,4,none⟩)) rfl rfl (fun V k=>by go_simp<;>with_reducible rfl) ?_;try simp only[Act.put,zc,ze,zh];refine .c (v:= .func (.func 143) #[] #[.pointer (some ⟨i,0,none⟩)]) rfl rfl (fun V k=>by go_simp<;>with_reducible rfl) ?_;try simp only[Act.put,zc,ze,zh];refine .c (v:= .pointer (some ⟨w.heap.size+1,1,none⟩)) rfl rfl (fun V k=>by go_simp<;>with_reducible rfl) ?_;try simp only[Act.put,zc,ze,zh];refine .c (v:= .int .i64 d) rfl rfl (fun V k=>by go_simp<;>with_reducible rfl) ?_;try simp only[Act.put,zc,ze,zh];refine .nil ?_;refine GT.fw 6 (fun K c=> ?_) rfl (by kernel_rfl);go_simp;refine(Y.out r.drew o.out.st.drew R).mono ?_;rintro e B ⟨rfl,m,p⟩;have q:=za ((o.out.below (zq _ _).drew).dw p m.rdr);have O:(fun V:World=>V.cell? ⟨w.heap.size,0,none⟩=some (.func (.func 120) #[.pointer (some ⟨g,0,none⟩)] #[])/\V.cell? ⟨w.heap.size,4,none⟩=some (.func (.func 143) #[] #[.pointer (some ⟨i,0,none⟩)])/\V.cell? ⟨w.heap.size+1,1,none⟩=some (.int .i64 d)) B:=⟨q.out.rdg.cell 0,q.out.rdg.cell 4,q.out.ty.cell 1⟩
  clear m p;go_wp2_with fail
  refine c.out _ _ O (fun hHeld=> ?_);clear c K;try simp only[Act.put,zc,ze,zh]
  refine GT.fw 7 (fun K c=> ?_) rfl (by kernel_rfl);go_simp;refine(u9 g s b Ne 0 B q.out.st.rdr (zr.2 H)).mono ?_;rintro e D ⟨rfl,m,p⟩;have x:=za (q.out.dw p m);have U:(fun V:World=>V.cell? ⟨w.heap.size,0,none⟩=some (.func (.func 120) #[.pointer (some ⟨g,0,none⟩)] #[])/\V.cell? ⟨w.heap.size,4,none⟩=some (.func (.func 143) #[] #[.pointer (some ⟨i,0,none⟩)])/\V.cell? ⟨w.heap.size+1,1,none⟩=some (.int .i64 d)) D:=⟨x.out.rdg.cell 0,x.out.rdg.cell 4,x.out.ty.cell 1⟩
  clear m p;go_wp2_with fail
  refine c.out _ _ U (fun hHeld=> ?_);clear c K;try simp only[Act.put,zc,ze,zh]
  refine GT.fw 8 (fun K c=> ?_) rfl (by kernel_rfl);go_simp;refine(oI ⟨#[]⟩ D).mono ?_;rintro e w3 ⟨rfl,C⟩;have l:=za (x.out.below C);have S:(fun V:World=>V.cell? ⟨w.heap.size,0,none⟩=some (.func (.func 120) #[.pointer (some ⟨g,0,none⟩)] #[])/\V.cell? ⟨w.heap.size,4,none⟩=some (.func (.func 143) #[] #[.pointer (some ⟨i,0,none⟩)])/\V.cell? ⟨w.heap.size+1,1,none⟩=some (.int .i64 d)) w3:=⟨l.out.rdg.cell 0,l.out.rdg.cell 4,l.out.ty.cell 1⟩
  clear C;go_wp2_with fail
  refine c.out _ _ S (fun hHeld=> ?_);clear c K;try simp only[Act.put,zc,ze,zh]
  obtain⟨n0,n1,n2,m0,m1,m2⟩:=gH l.out.res;obtain⟨y,u,W,N,Z⟩:=l.out.ends (.string ⟨#[]⟩) (.bool false) (.slice none 0 0);have E1:=za y;have X:=za u;clear y u;refine GT.oL 9 ?_ rfl (by kernel_rfl);go_simp;go_wp2;have y:=E1.out;have u:=X.out;refine zo (v:= .agg #[.string ⟨#[]⟩,.bool false,.slice none 0 0]) (by simp[results,yO,go_sem,W,N,Z]) rfl ?_;exact⟨iU,_,_,_,b,_,rfl,fO.text false (by simp[ByteArray.size]),y,u,hk,fun h=>absurd h H⟩
 ·rw[zj (by rw[H];simp),zl (by omega)];rw[hE,Gs,c]at Y;have o:=za (E.out.less (M-n-1));generalize rJ:W3.setCell ⟨gl,0,none⟩ (.int .i64 (M-n-1))=r at*;clear G z L J;obtain⟨F,p1,p2,p3,I,p5⟩:=fB (show af r w.heap.size 197 #[_,_,_,_,_,_]from o.out.rdg);obtain⟨G,z,L,J,_⟩:=aO o.out.ty;unfold gX;clear hS;go_enter xg,y7
  go_wp2_with fail
  have R:bj r.drew:=wL.out r o.out;refine aA 9 (fun V=>V.cell? ⟨w.heap.size,0,none⟩=some (.func (.func 120) #[.pointer (some ⟨g,0,none⟩)] #[])/\V.cell? ⟨w.heap.size,4,none⟩=some (.func (.func 143) #[] #[.pointer (some ⟨i,0,none⟩)])/\V.cell? ⟨w.heap.size+1,1,none⟩=some (.int .i64 d)) (by kernel_rfl) (by kernel_rfl) ?_;have hHeld:(fun V:World=>V.cell? ⟨w.heap.size,0,none⟩=some (.func (.func 120) #[.pointer (some ⟨g,0,none⟩)] #[])/\V.cell? ⟨w.heap.size,4,none⟩=some (.func (.func 143) #[] #[.pointer (some ⟨i,0,none⟩)])/\V.cell? ⟨w.heap.size+1,1,none⟩=some (.int .i64 d)) r.drew:=⟨F,I,z⟩
  refine GT.jy [0,1,2,3,4,5] hHeld (fun _ _ _ _ _ h=>h) (by kernel_rfl) ?_;refine .c (v:= .pointer (some ⟨w.heap.size,0,none⟩)) rfl rfl (fun V k=>by go_simp<;>with_reducible rfl) ?_;try simp only[Act.put,zc,ze,zh];refine .c (v:= .func (.func 120) #[.pointer (some ⟨g,0,none⟩)] #[]) rfl rfl (fun V k=>by go_simp<;>with_reducible rfl) ?_;try simp only[Act.put,zc,ze,zh];refine .c (v:= .pointer (some ⟨w.heap.size,4,none⟩)) rfl rfl (fun V k=>by go_simp<;>with_reducible rfl) ?_;try simp only[Act.put,zc,ze,zh];refine .c (v:= .func (.func 143) #[] #[.pointer (some ⟨i,0,none⟩)]) rfl rfl (fun V k=>by go_simp<;>with_reducible rfl) ?_;try simp only[Act.put,zc,ze,zh];refine .c (v:= .pointer (some ⟨w.heap.size+1,1,none⟩)) rfl rfl (fun V k=>by go_simp<;>with_reducible rfl) ?_;try simp only[Act.put,zc,ze,zh];refine .c (v:= .int .i64 d) rfl rfl (fun V k=>by go_simp<;>with_reducible rfl) ?_;try simp only[Act.put,zc,ze,zh];refine .nil ?_;refine GT.fw 6 (fun K c=> ?_) rfl (by kernel_rfl);go_simp;refine(Y.out r.drew o.out.st.drew R).mono ?_;rintro e B ⟨rfl,m,p⟩;have q:=za ((o.out.below (zq _ _).drew).dw p m.rdr);have O:(fun V:World=>V.cell? ⟨w.heap.size,0,none⟩=some (.func (.func 120) #[.pointer (some ⟨g,0,none⟩)] #[])/\V.cell? ⟨w.heap.size,4,none⟩=some (.func (.func 143) #[] #[.pointer (some ⟨i,0,none⟩)])/\V.cell? ⟨w.heap.size+1,1,none⟩=some (.int .i64 d)) B:=⟨q.out.rdg.cell 0,q.out.rdg.cell 4,q.out.ty.cell 1⟩
  clear m p;go_wp2_with fail
  refine c.out _ _ O (fun hHeld=> ?_);clear c K;try simp only[Act.put,zc,ze,zh]
  refine GT.fw 7 (fun K c=> ?_) rfl (by kernel_rfl);go_simp;refine(u9 g s b 5 0 B q.out.st.rdr (by decide)).mono ?_;rintro e D ⟨rfl,m,p⟩;have x:=za (q.out.dw p m);have U:(fun V:World=>V.cell? ⟨w.heap.size,0,none⟩=some (.func (.func 120) #[.pointer (some ⟨g,0,none⟩)] #[])/\V.cell? ⟨w.heap.size,4,none⟩=some (.func (.func 143) #[] #[.pointer (some ⟨i,0,none⟩)])/\V.cell? ⟨w.heap.size+1,1,none⟩=some (.int .i64 d)) D:=⟨x.out.rdg.cell 0,x.out.rdg.cell 4,x.out.ty.cell 1⟩
  clear m p;go_wp2_with fail
  refine c.out _ _ U (fun hHeld=> ?_);clear c K;try simp only[Act.put,zc,ze,zh]
  refine GT.fw 8 (fun K c=> ?_) rfl (by kernel_rfl);go_simp;refine(oI ⟨#[]⟩ D).mono ?_;rintro e w3 ⟨rfl,C⟩;have l:=za (x.out.below C);have S:(fun V:World=>V.cell? ⟨w.heap.size,0,none⟩=some (.func (.func 120) #[.pointer (some ⟨g,0,none⟩)] #[])/\V.cell? ⟨w.heap.size,4,none⟩=some (.func (.func 143) #[] #[.pointer (some ⟨i,0,none⟩)])/\V.cell? ⟨w.heap.size+1,1,none⟩=some (.int .i64 d)) w3:=⟨l.out.rdg.cell 0,l.out.rdg.cell 4,l.out.ty.cell 1⟩
  clear C;go_wp2_with fail
  refine c.out _ _ S (fun hHeld=> ?_);clear c K;try simp only[Act.put,zc,ze,zh]
  obtain⟨n0,n1,n2,m0,m1,m2⟩:=gH l.out.res;obtain⟨y,u,W,N,Z⟩:=l.out.ends (.string ⟨#[]⟩) (.bool false) (.slice none 0 0);have E1:=za y;have X:=za u;clear y u;refine GT.oL 9 ?_ rfl (by kernel_rfl);go_simp;go_wp2;have y:=E1.out;have u:=X.out;refine zo (v:= .agg #[.string ⟨#[]⟩,.bool false,.slice none 0 0]) (by simp[results,yO,go_sem,W,N,Z]) rfl ?_;exact⟨iU,_,_,_,b,_,rfl,fO.text false (by simp[ByteArray.size]),y,u,hk,fun h=>absurd h (show¬(5:Int)=0 by decide)⟩
 rw[zj (by rw[H];simp),zj (by omega)];rw[hE,Gs,c]at Y;have aM:=ni H;rw[xR,zZ,aa];by_cases vZ:s.size<b+j+Nm
 ·rw[zl (by omega)];have o:=za (E.out.less (M-n-1));generalize rJ:W3.setCell ⟨gl,0,none⟩ (.int .i64 (M-n-1))=r at*;clear G z L J;obtain⟨F,p1,p2,p3,I,p5⟩:=fB (show af r w.heap.size 197 #[_,_,_,_,_,_]from o.out.rdg);obtain⟨G,z,L,J,_⟩:=aO o.out.ty;unfold gX;clear hS;go_enter xg,y7
  go_wp2_with fail
  have R:bj r.drew:=wL.out r o.out;refine aA 9 (fun V=>V.cell? ⟨w.heap.size,0,none⟩=some (.func (.func 120) #[.pointer (some ⟨g,0,none⟩)] #[])/\V.cell? ⟨w.heap.size,4,none⟩=some (.func (.func 143) #[] #[.pointer (some ⟨i,0,none⟩)])/\V.cell? ⟨w.heap.size+1,1,none⟩=some (.int .i64 d)) (by kernel_rfl) (by kernel_rfl) ?_;have hHeld:(fun V:World=>V.cell? ⟨w.heap.size,0,none⟩=some (.func (.func 120) #[.pointer (some ⟨g,0,none⟩)] #[])/\V.cell? ⟨w.heap.size,4,none⟩=some (.func (.func 143) #[] #[.pointer (some ⟨i,0,none⟩)])/\V.cell? ⟨w.heap.size+1,1,none⟩=some (.int .i64 d)) r.drew:=⟨F,I,z⟩
  refine GT.jy [0,1,2,3,4,5] hHeld (fun _ _ _ _ _ h=>h) (by kernel_rfl) ?_;refine .c (v:= .pointer (some ⟨w.heap.size,0,none⟩)) rfl rfl (fun V k=>by go_simp<;>with_reducible rfl) ?_;try simp only[Act.put,zc,ze,zh];refine .c (v:= .func (.func 120) #[.pointer (some ⟨g,0,none⟩)] #[]) rfl rfl (fun V k=>by go_simp<;>with_reducible rfl) ?_;try simp only[Act.put,zc,ze,zh];refine .c (v:= .pointer (some ⟨w.heap.size,4,none⟩)) rfl rfl (fun V k=>by go_simp<;>with_reducible rfl) ?_;try simp only[Act.put,zc,ze,zh];refine .c (v:= .func (.func 143) #[] #[.pointer (some ⟨i,0,none⟩)]) rfl rfl (fun V k=>by go_simp<;>with_reducible rfl) ?_;try simp only[Act.put,zc,ze,zh];refine .c (v:= .pointer (some ⟨w.heap.size+1,1,none⟩)) rfl rfl (fun V k=>by go_simp<;>with_reducible rfl) ?_;try simp only[Act.put,zc,ze,zh];refine .c (v:= .int .i64 d) rfl rfl (fun V k=>by go_simp<;>with_reducible rfl) ?_;try simp only[Act.put,zc,ze,zh];refine .nil ?_;refine GT.fw 6 (fun K c=> ?_) rfl (by kernel_rfl);go_simp;refine(Y.out r.drew o.out.st.drew R).mono ?_;rintro e B ⟨rfl,m,p⟩;have q:=za ((o.out.below (zq _ _).drew).dw p m.rdr);have O:(fun V:World=>V.cell? ⟨w.heap.size,0,none⟩=some (.func (.func 120) #[.pointer (some ⟨g,0,none⟩)] #[])/\V.cell? ⟨w.heap.size,4,none⟩=some (.func (.func 143) #[] #[.pointer (some ⟨i,0,none⟩)])/\V.cell? ⟨w.heap.size+1,1,none⟩=some (.int .i64 d)) B:=⟨q.out.rdg.cell 0,q.out.rdg.cell 4,q.out.ty.cell 1⟩
  clear m p;go_wp2_with fail
  refine c.out _ _ O (fun hHeld=> ?_);clear c K;try simp only[Act.put,zc,ze,zh]
  refine GT.fw 7 (fun K c=> ?_) rfl (by kernel_rfl);go_simp;refine(fP g s (b+j) Nm B q.out.st.rdr (by omega) (by omega) vZ (by omega)).mono ?_;rintro e D ⟨rfl,m,p⟩;have x:=za (q.out.dw p m);have U:(fun V:World=>V.cell? ⟨w.heap.size,0,none⟩=some (.func (.func 120) #[.pointer (some ⟨g,0,none⟩)] #[])/\V.cell? ⟨w.heap.size,4,none⟩=some (.func (.func 143) #[] #[.pointer (some ⟨i,0,none⟩)])/\V.cell? ⟨w.heap.size+1,1,none⟩=some (.int .i64 d)) D:=⟨x.out.rdg.cell 0,x.out.rdg.cell 4,x.out.ty.cell 1⟩
  clear m p;go_wp2_with fail
  refine c.out _ _ U (fun hHeld=> ?_);clear c K;try simp only[Act.put,zc,ze,zh]
  refine GT.fw 8 (fun K c=> ?_) rfl (by kernel_rfl);go_simp;refine(oI ⟨#[]⟩ D).mono ?_;rintro e w3 ⟨rfl,C⟩;have l:=za (x.out.below C);have S:(fun V:World=>V.cell? ⟨w.heap.size,0,none⟩=some (.func (.func 120) #[.pointer (some ⟨g,0,none⟩)] #[])/\V.cell? ⟨w.heap.size,4,none⟩=some (.func (.func 143) #[] #[.pointer (some ⟨i,0,none⟩)])/\V.cell? ⟨w.heap.size+1,1,none⟩=some (.int .i64 d)) w3:=⟨l.out.rdg.cell 0,l.out.rdg.cell 4,l.out.ty.cell 1⟩
  clear C;go_wp2_with fail
  refine c.out _ _ S (fun hHeld=> ?_);clear c K;try simp only[Act.put,zc,ze,zh]
  obtain⟨n0,n1,n2,m0,m1,m2⟩:=gH l.out.res;obtain⟨y,u,W,N,Z⟩:=l.out.ends (.string ⟨#[]⟩) (.bool false) (.slice none 0 0);have E1:=za y;have X:=za u;clear y u;refine GT.oL 9 ?_ rfl (by kernel_rfl);go_simp;go_wp2;have y:=E1.out;have u:=X.out;refine zo (v:= .agg #[.string ⟨#[]⟩,.bool false,.slice none 0 0]) (by simp[results,yO,go_sem,W,N,Z]) rfl ?_;exact⟨iU,_,_,_,b+j,_,rfl,fO.text false (by simp[ByteArray.size]),y,u,by omega,fun h=>absurd h (show¬(2:Int)=0 by decide)⟩
 rw[zj (by omega)];have hX:=vo s (b+j) Nm;have AB:(s.extract (b+j) (b+j+Nm)).size=Nm:=by rw[an s (b+j) (b+j+Nm) (by omega)];omega
 have HX:Hid ((⟨((s.data.toList.drop (b+j)).take Nm).toArray⟩:ByteArray)=s.extract (b+j) (b+j+Nm)):=za (aL (by rw[hX]));rw[HX.out];have TV:Hid ((s.extract (b+j) (b+j+Nm)).size<=9223372036854775807):=za (by omega);have QP:Hid ((s.data.toList.drop (b+j)).drop Nm=s.data.toList.drop (b+j+Nm)):=za (by rw[xR]);clear hX AB;have o:=za (E.out.less (M-n-1));generalize rJ:W3.setCell ⟨gl,0,none⟩ (.int .i64 (M-n-1))=r at*;clear G z L J;obtain⟨F,p1,p2,p3,I,p5⟩:=fB (show af r w.heap.size 197 #[_,_,_,_,_,_]from o.out.rdg);obtain⟨G,z,L,J,_⟩:=aO o.out.ty;unfold gX;clear hS;go_enter xg,y7
 go_wp2_with fail
 have R:bj r.drew:=wL.out r o.out;refine aA 9 (fun V=>V.cell? ⟨w.heap.size,0,none⟩=some (.func (.func 120) #[.pointer (some ⟨g,0,none⟩)] #[])/\V.cell? ⟨w.heap.size,4,none⟩=some (.func (.func 143) #[] #[.pointer (some ⟨i,0,none⟩)])/\V.cell? ⟨w.heap.size+1,1,none⟩=some (.int .i64 d)) (by kernel_rfl) (by kernel_rfl) ?_;have hHeld:(fun V:World=>V.cell? ⟨w.heap.size,0,none⟩=some (.func (.func 120) #[.pointer (some ⟨g,0,none⟩)] #[])/\V.cell? ⟨w.heap.size,4,none⟩=some (.func (.func 143) #[] #[.pointer (some ⟨i,0,none⟩)])/\V.cell? ⟨w.heap.size+1,1,none⟩=some (.int .i64 d)) r.drew:=⟨F,I,z⟩
 refine GT.jy [0,1,2,3,4,5] hHeld (fun _ _ _ _ _ h=>h) (by kernel_rfl) ?_;refine .c (v:= .pointer (some ⟨w.heap.size,0,none⟩)) rfl rfl (fun V k=>by go_simp<;>with_reducible rfl) ?_;try simp only[Act.put,zc,ze,zh];refine .c (v:= .func (.func 120) #[.pointer (some ⟨g,0,none⟩)] #[]) rfl rfl (fun V k=>by go_simp<;>with_reducible rfl) ?_;try simp only[Act.put,zc,ze,zh];refine .c (v:= .pointer (some ⟨w.heap.size,4,none⟩)) rfl rfl (fun V k=>by go_simp<;>with_reducible rfl) ?_;try simp only[Act.put,zc,ze,zh];refine .c (v:= .func (.func 143) #[] #[.pointer (some ⟨i,0,none⟩)]) rfl rfl (fun V k=>by go_simp<;>with_reducible rfl) ?_;try simp only[Act.put,zc,ze,zh];refine .c (v:= .pointer (some ⟨w.heap.size+1,1,none⟩)) rfl rfl (fun V k=>by go_simp<;>with_reducible rfl) ?_;try simp only[Act.put,zc,ze,zh];refine .c (v:= .int .i64 d) rfl rfl (fun V k=>by go_simp<;>with_reducible rfl) ?_;try simp only[Act.put,zc,ze,zh];refine .nil ?_;refine GT.fw 6 (fun K c=> ?_) rfl (by kernel_rfl);go_simp;refine(Y.out r.drew o.out.st.drew R).mono ?_;rintro e B ⟨rfl,m,p⟩;have q:=za ((o.out.below (zq _ _).drew).dw p m.rdr);have O:(fun V:World=>V.cell? ⟨w.heap.size,0,none⟩=some (.func (.func 120) #[.pointer (some ⟨g,0,none⟩)] #[])/\V.cell? ⟨w.heap.size,4,none⟩=some (.func (.func 143) #[] #[.pointer (some ⟨i,0,none⟩)])/\V.cell? ⟨w.heap.size+1,1,none⟩=some (.int .i64 d)) B:=⟨q.out.rdg.cell 0,q.out.rdg.cell 4,q.out.ty.cell 1⟩
 clear m p;go_wp2_with fail
 refine c.out _ _ O (fun hHeld=> ?_);clear c K;try simp only[Act.put,zc,ze,zh]
 refine GT.fw 7 (fun K c=> ?_) rfl (by kernel_rfl);go_simp;refine(ei g s (b+j) Nm B q.out.st.rdr (by omega) (by omega)).mono ?_;rintro e D ⟨rfl,m,p⟩;have x:=za (q.out.dw p m);have U:(fun V:World=>V.cell? ⟨w.heap.size,0,none⟩=some (.func (.func 120) #[.pointer (some ⟨g,0,none⟩)] #[])/\V.cell? ⟨w.heap.size,4,none⟩=some (.func (.func 143) #[] #[.pointer (some ⟨i,0,none⟩)])/\V.cell? ⟨w.heap.size+1,1,none⟩=some (.int .i64 d)) D:=⟨x.out.rdg.cell 0,x.out.rdg.cell 4,x.out.ty.cell 1⟩
 clear m p;go_wp2_with fail
 refine c.out _ _ U (fun hHeld=> ?_);clear c K;try simp only[Act.put,zc,ze,zh]
 refine GT.fw 8 (fun K c=> ?_) rfl (by kernel_rfl);go_simp;refine(oI (s.extract (b+j) (b+j+Nm)) D).mono ?_;rintro e w3 ⟨rfl,C⟩;have l:=za (x.out.below C);have S:(fun V:World=>V.cell? ⟨w.heap.size,0,none⟩=some (.func (.func 120) #[.pointer (some ⟨g,0,none⟩)] #[])/\V.cell? ⟨w.heap.size,4,none⟩=some (.func (.func 143) #[] #[.pointer (some ⟨i,0,none⟩)])/\V.cell? ⟨w.heap.size+1,1,none⟩=some (.int .i64 d)) w3:=⟨l.out.rdg.cell 0,l.out.rdg.cell 4,l.out.ty.cell 1⟩
 clear C;go_wp2_with fail
 refine c.out _ _ S (fun hHeld=> ?_);clear c K;try simp only[Act.put,zc,ze,zh]
 obtain⟨n0,n1,n2,m0,m1,m2⟩:=gH l.out.res;obtain⟨y,u,W,N,Z⟩:=l.out.ends (.string (s.extract (b+j) (b+j+Nm))) (.bool false) (.slice none 0 0);have E1:=za y;have X:=za u;clear y u;refine GT.oL 9 ?_ rfl (by kernel_rfl);go_simp;go_wp2;have y:=E1.out;have u:=X.out;refine zo (v:= .agg #[.string (s.extract (b+j) (b+j+Nm)),.bool false,.slice none 0 0]) (by simp[results,yO,go_sem,W,N,Z]) rfl ?_;exact⟨.mk (s.extract (b+j) (b+j+Nm)) false [],_,_,_,b+j+Nm,_,rfl,fO.text false TV.out,y,u,by omega,fun _=>⟨rfl,QP.out,by simp only;omega⟩⟩
