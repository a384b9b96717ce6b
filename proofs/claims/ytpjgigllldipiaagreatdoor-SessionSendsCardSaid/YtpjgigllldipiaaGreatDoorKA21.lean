/- packed.Next by a meter with much room. -/
import Derived.Test.YtpjgigllldipiaaGreatDoorKA20
import Derived.Test.YtpjgigllldipiaaGreatDoorKA25
set_option linter.all false
set_option maxRecDepth 100000
set_option maxHeartbeats 1600000
namespace Go.Proofs.YtpjgigllldipiaaGreatDoor
open Go.RowKit
def yS:=@Tryz.results145
def y9:=@Tryz.ntmps145
def xf:=@Tryz.func145
theorem vB (most b:Int)(i a u t p:Nat)(s:ByteArray)(w:World)(k:s.size<=9223372036854775807)(j: -9223372036854775808<=most)(l:most<=9223372036854775807)(m:tj w i a u t p)(r:a<=9223372036854775807)(hu:u+70000<=a)(z:t+70000<=9223372036854775807)(y:b<=70000):
 Calls Tryz.prog 80 #[.int .i64 most,.int .i64 b,.pointer (some ⟨i,0,none⟩),.string s] w fun e w'=>e=BY (aT most b s)/\(∃q,tj w' i a (u+(aT most b s).2.2.2.2) (t+(aT most b s).2.2.2.2) q)/\ae [i] w w':=by
 by_cases hx:(ai most s).1≠0\/(aC (ai most s).2.2.1).2.2≠0\/b<(aC (ai most s).2.2.1).1
 ·have hz:(aT most b s).2.2.2.2=0:=by
   rw[bI];by_cases c:(ai most s).1≠0
   ·rw[zl c]
   rw[zj c];by_cases d:(aC (ai most s).2.2.1).2.2≠0
   ·rw[zl d]
   rw[zj d,zl (by rcases hx with h|h|h;exact absurd h c;exact absurd h d;exact h)]
  rw[hz];exact(Ar most b i s w k j l hx).mono fun e w' ⟨x,n⟩=>⟨x,⟨p,m.only n (by simp)⟩,n.mono (by simp)⟩
 have c:(ai most s).1=0:=Decidable.byContradiction fun h=>hx (.inl h)
 have d:(aC (ai most s).2.2.1).2.2=0:=Decidable.byContradiction fun h=>hx (.inr (.inl h))
 have o:((aC (ai most s).2.2.1).1:Int)<=b:=by
  have:¬b<(aC (ai most s).2.2.1).1:=fun h=>hx (.inr (.inr h))
  omega
 have hz:(aT most b s).2.2.2.2=(aC (ai most s).2.2.1).1:=by
  rw[bI,zj (by rw[c];simp),zj (by rw[d];simp),zj (by omega)];split<;>rfl
 rw[hz];exact As most b i a u t p s w k j l m r c d o (by omega) (by omega)
theorem IJ (most b:Int)(s:ByteArray):(aT most b s).2.2.2.2=0\/((aT most b s).2.2.2.2:Int)<=b:=by
 rw[bI];split
 ·exact .inl rfl
 split
 ·exact .inl rfl
 split
 ·exact .inl rfl
 right;split<;>simp only<;>omega
def gJ (w:World)(g gl fb:Nat)(s:ByteArray)(M:Int)(R:Sa)(e:Ending)(w':World):Prop:=
 ∃(X:It) (c0 c1 c2:Value) (k':Nat) (m':Int),e= .returned (.agg #[c0,c1,c2])/\fV w' (w.heap.size<= ·) X c0 c1 c2/\jn w' g gl fb s k' R.e m'/\ae [g,gl] w w'/\k'<=s.size/\(R.e=0->X=R.x/\R.q=s.data.toList.drop k'/\m'=M-R.n)
theorem jn.kX {w:World}{g gl e c:Nat}{s:ByteArray}{k:Nat}{f m:Int}{j:Array Value}(h:jn w g gl e s k f m)(d:af w c 28 j)(n l i:Value):jn (((w.setCell ⟨c,0,none⟩ n).setCell ⟨c,1,none⟩ l).setCell ⟨c,2,none⟩ i) g gl e s k f m:=
 have n1:=h.rdr.DL d (by decide);have n2:=h.left.DL d (by decide);have b:=h.box.DL d (by decide)
 ⟨((af.dz (show af w g _ _ from h.rdr) (p:=⟨c,0,none⟩) n1 _).dz (p:=⟨c,1,none⟩) n1 _).dz (p:=⟨c,2,none⟩) n1 _,((h.left.dz (p:=⟨c,0,none⟩) n2 _).dz (p:=⟨c,1,none⟩) n2 _).dz (p:=⟨c,2,none⟩) n2 _,((h.box.dz (p:=⟨c,0,none⟩) b _).dz (p:=⟨c,1,none⟩) b _).dz (p:=⟨c,2,none⟩) b _⟩
theorem jn.less {w:World}{g gl b:Nat}{s:ByteArray}{k:Nat}{f m:Int}(h:jn w g gl b s k f m)(u:Int):jn (w.setCell ⟨gl,0,none⟩ (.int .i64 u)) g gl b s k f u:=
 ⟨af.dz (show af w g _ _ from h.rdr) (p:=⟨gl,0,none⟩) h.apart.1.symm _,one_setCell h.left,h.box.dz (p:=⟨gl,0,none⟩) h.apart.2.2 _⟩
structure tP (w:World)(g gl fb:Nat)(s:ByteArray)(k:Nat)(f m:Int)(tc:Array Value)(V:World):Prop where
 rdg:af V w.heap.size 197 (jS g gl fb)
 ty:af V (w.heap.size+1) 64 tc
 res:af V (w.heap.size+1+1) 28 #[.string ⟨#[]⟩,.bool false,.slice none 0 0]
 st:jn V g gl fb s k f m
 only:ae [g,gl] w V
 siz:w.heap.size+3<=V.heap.size
theorem tP.start {w:World}{g gl b:Nat}{s:ByteArray}{k:Nat}{f m:Int}{tc:Array Value}(h:jn w g gl b s k f m):tP w g gl b s k f m tc (((w.alloc (.cells (jS g gl b) 197)).alloc (.cells tc 64)).alloc (.cells #[.string ⟨#[]⟩,.bool false,.slice none 0 0] 28)) where
 rdg:=((af.new w _ _).alloc _).alloc _
 ty:=af.alloc (af.at_ (by simp)) _
 res:=af.at_ (by simp)
 st:=h.below ((((zq _ w).alloc (zi _) _).alloc (by simp) _).alloc (by simp;omega) _)
 only:=(((ae.refl _ w).alloc _).alloc _).alloc _
 siz:=by simp
theorem tP.less {w V:World}{g gl b:Nat}{s:ByteArray}{k:Nat}{f m:Int}{tc:Array Value}(h:tP w g gl b s k f m tc V)(u:Int):tP w g gl b s k f u tc (V.setCell ⟨gl,0,none⟩ (.int .i64 u)) where
 rdg:=h.rdg.dz (p:=⟨gl,0,none⟩) (h.rdg.DL h.st.left (by decide)) _
 ty:=h.ty.dz (p:=⟨gl,0,none⟩) (h.ty.DL h.st.left (by decide)) _
 res:=h.res.dz (p:=⟨gl,0,none⟩) (h.res.DL h.st.left (by decide)) _
 st:=h.st.less u
 only:=h.only.setCell (by simp) _
 siz:=by have:=h.siz;simpa[World.setCell]using this
theorem tP.dC {w V V':World}{g gl c:Nat}{s:ByteArray}{k e:Nat}{f d m:Int}{tc:Array Value}(h:tP w g gl c s k f m tc V)(b:ae [g] V V')(i:iO V' g s e d):tP w g gl c s e d m tc V' where
 rdg:=h.rdg.only b (by simp[h.rdg.DL h.st.rdr (by decide)])
 ty:=h.ty.only b (by simp[h.ty.DL h.st.rdr (by decide)])
 res:=h.res.only b (by simp[h.res.DL h.st.rdr (by decide)])
 st:=h.st.dC b i
 only:=h.only.trans (b.mono (by simp))
 siz:=zP h.siz b.size
theorem tP.below {w V V':World}{g gl c:Nat}{s:ByteArray}{k:Nat}{f m:Int}{tc:Array Value}(h:tP w g gl c s k f m tc V)(b:Below V.heap.size V V'):tP w g gl c s k f m tc V' where
 rdg:=(b.block _ h.rdg.lt).trans h.rdg
 ty:=(b.block _ h.ty.lt).trans h.ty
 res:=(b.block _ h.res.lt).trans h.res
 st:=h.st.below b
 only:=h.only.trans ((ae.ah b (zi _)).mono (by simp))
 siz:=zP h.siz b.size
theorem tP.ends {w V:World}{g gl e:Nat}{s:ByteArray}{k:Nat}{f m:Int}{tc:Array Value}(h:tP w g gl e s k f m tc V)(b c d:Value):
 jn (((V.setCell ⟨w.heap.size+1+1,0,none⟩ b).setCell ⟨w.heap.size+1+1,1,none⟩ c).setCell ⟨w.heap.size+1+1,2,none⟩ d) g gl e s k f m/\ae [g,gl] w (((V.setCell ⟨w.heap.size+1+1,0,none⟩ b).setCell ⟨w.heap.size+1+1,1,none⟩ c).setCell ⟨w.heap.size+1+1,2,none⟩ d)/\
 (V.setCell ⟨w.heap.size+1+1,0,none⟩ b).cell? ⟨w.heap.size+1+1,0,none⟩=some b/\((V.setCell ⟨w.heap.size+1+1,0,none⟩ b).setCell ⟨w.heap.size+1+1,1,none⟩ c).cell? ⟨w.heap.size+1+1,1,none⟩=some c/\(((V.setCell ⟨w.heap.size+1+1,0,none⟩ b).setCell ⟨w.heap.size+1+1,1,none⟩ c).setCell ⟨w.heap.size+1+1,2,none⟩ d).cell? ⟨w.heap.size+1+1,2,none⟩=some d:=
 ⟨h.st.kX h.res b c d,((h.only.setCell (by simp;omega) _).setCell (by simp;omega) _).setCell (by simp;omega) _,by have:=(h.res.set 0 b).cell 0;simpa using this,by have:=((h.res.set 0 b).set 1 c).cell 1;simpa using this,by have:=(((h.res.set 0 b).set 1 c).set 2 d).cell 2;simpa using this⟩
theorem gK {w:World}{g:Nat}{t:TypeId}{a b c:Value}(h:af w g t #[a,b,c]):w.cell? ⟨g,0,none⟩=some a/\w.cell? ⟨g,1,none⟩=some b/\w.cell? ⟨g,2,none⟩=some c/\w.frozen? ⟨g,0,none⟩=false/\w.frozen? ⟨g,1,none⟩=false/\w.frozen? ⟨g,2,none⟩=false:=⟨h.cell 0,h.cell 1,h.cell 2,h.frozen 0,h.frozen 1,h.frozen 2⟩
theorem IK (k z l:Int)(o:List Ty)(A:Option Addr)(cap:Nat)(w:World)(g gl d:Nat)(s:ByteArray)(b n:Nat)(M:Int)(hS:jn w g gl d s b 0 (M-n))(y:b<=s.size)(I:M<=n):
 Calls Tryz.prog 145 #[hC g gl d,.agg #[.int .i64 k,.int .i64 z,.slice A o.length cap,.int .i64 l]] w fun e w'=>gJ w g gl d s M (.bad 4 n (s.data.toList.drop b)) e w':=by
 have X:decide (M-(n:Int)<=0)=true:=zH (by omega);have c:=za (tP.start (tc:= #[.int .i64 (k),.int .i64 z,.slice A o.length cap,.int .i64 l]) hS);generalize E:(((w.alloc (.cells (jS g gl d) 197)).alloc (.cells #[.int .i64 (k),.int .i64 z,.slice A o.length cap,.int .i64 l] 64)).alloc (.cells #[.string ⟨#[]⟩,.bool false,.slice none 0 0] 28))=m at*;unfold jS at E;obtain⟨L,H,S,U,G,J⟩:=fu (show af m w.heap.size 197 #[_,_,_,_,_,_]from c.out.rdg);obtain⟨N,W,R,O,_⟩:=aL c.out.ty;have Y:m.cell? ⟨gl,0,none⟩=some (.int .i64 (M-n)):=c.out.st.left.cell 0;have x:=za (iA g s b 4 m c.out.st.rdr);unfold hC;clear hS;go_enter xf,y9
 go_wp2_with fail
 refine x.out.mono ?_;rintro e Z ⟨rfl,r,p⟩;have q:=za (c.out.dC p r);clear r p;obtain⟨K,n1,n2,m0,m1,m2⟩:=gK q.out.res;obtain⟨i,j,C,F,u⟩:=q.out.ends (.string ⟨#[]⟩) (.bool false) (.slice none 0 0);have B:=za i;have D:=za j;clear i j;go_wp2;have i:=B.out;have j:=D.out;refine zp (v:= .agg #[.string ⟨#[]⟩,.bool false,.slice none 0 0]) (by simp[results,yS,go_sem,C,F,u]) rfl ?_;exact⟨i',_,_,_,b,_,rfl,fV.text false (by simp[ByteArray.size]),i,j,y,fun h=>absurd h (show¬(4:Int)=0 by decide)⟩
theorem vC (s:ByteArray)(k n:Nat):(s.extract k (k+n)).data.toList=(s.data.toList.drop k).take n:=by
 rw[aj,Z7,show k+n-k=n from by omega]
theorem MG (b:Nat)(A:Option Addr)(cap:Nat)(w:World)(g gl y:Nat)(s:ByteArray)(c n:Nat)(M:Int)(hS:jn w g gl y s c 0 (M-n))(hk:c<=s.size)(hs:s.size<=1099511627776)(hM:¬M<=n)(Cj:M<=1024)(hz:1<=b)(Sm:b<=8):
 Calls Tryz.prog 145 #[hC g gl y,.agg #[.int .i64 1,.int .i64 b,.slice A ([]:List Ty).length cap,.int .i64 0]] w fun e w'=>gJ w g gl y s M ((Ty.mk 1 b [] 0).rd M n (s.data.toList.drop c)) e w':=by
 have d0:decide (M-(n:Int)<=0)=false:=zz (by omega);rw[H6 hM,show((b:Int)).toNat=b from rfl,zZ,aa];obtain⟨z,C,I,ez,W,el⟩:∃(z C:Int) (I:List Ty),z=b/\C=0/\I= []:=⟨_,_,_,rfl,rfl,rfl⟩
 rw[<-ez,<-W,<-el];have k:=za (tP.start (tc:= #[.int .i64 (1),.int .i64 z,.slice A I.length cap,.int .i64 C]) hS);generalize ox:(((w.alloc (.cells (jS g gl y) 197)).alloc (.cells #[.int .i64 (1),.int .i64 z,.slice A I.length cap,.int .i64 C] 64)).alloc (.cells #[.string ⟨#[]⟩,.bool false,.slice none 0 0] 28))=H at*;unfold jS at ox;obtain⟨Z,U,p2,p3,S,X⟩:=fu (show af H w.heap.size 197 #[_,_,_,_,_,_]from k.out.rdg);obtain⟨D,G,F,E,_⟩:=aL k.out.ty;have l0:H.cell? ⟨gl,0,none⟩=some (.int .i64 (M-n)):=k.out.st.left.cell 0;have l1:=k.out.st.left.frozen 0;subst ez W el;simp only[zO]at ox k;by_cases wC:s.size<c+b
 ·rw[zl (by omega)];have i:=za (k.out.less (M-n-1));generalize rQ:H.setCell ⟨gl,0,none⟩ (.int .i64 (M-n-1))=p at*;clear D G F E;obtain⟨Z,U,p2,p3,S,X⟩:=fu (show af p w.heap.size 197 #[_,_,_,_,_,_]from i.out.rdg);obtain⟨D,G,F,E,_⟩:=aL i.out.ty;unfold hC;clear hS;go_enter xf,y9
  go_wp2_with fail
  refine(fX g s c b p i.out.st.rdr hk (by omega) wC (by omega)).mono ?_;rintro e r ⟨rfl,u,o⟩;have K:=za (i.out.dC o u);clear u o;go_wp2_with fail
  refine(mS ⟨#[]⟩ r rfl).mono ?_;rintro e w' ⟨rfl,rfl⟩;go_wp2_with fail
  refine(Fy 0 r (by omega)).mono ?_;rintro e w2 ⟨rfl,l⟩;have q:=za (K.out.below l);clear l;obtain⟨n0,n1,n2,m0,m1,m2⟩:=gK q.out.res;obtain⟨d,j,N,R,J⟩:=q.out.ends (.string ⟨(cB 0).toArray⟩) (.bool false) (.slice none 0 0);have L:=za d;have O:=za j;clear d j;go_wp2;have d:=L.out;have j:=O.out;refine zp (v:= .agg #[.string ⟨(cB 0).toArray⟩,.bool false,.slice none 0 0]) (by simp[results,yS,go_sem,N,R,J]) rfl ?_;exact⟨.mk ⟨(cB 0).toArray⟩ false [],_,_,_,c,_,rfl,fV.text false (by simp[dm,ByteArray.size]),d,j,hk,fun h=>absurd h (show¬(2:Int)=0 by decide)⟩
 rw[zj (by omega)];have x:=vC s c b;have Y:(s.extract c (c+b)).size=b:=by rw[an s c (c+b) (by omega)];omega
 have HG:=za (fun V=>eV (s.extract c (c+b)) V (by omega) (by omega));rw[x]at HG;have B:=jq ((s.data.toList.drop c).take b);rw[<-x,aa,Y]at B;have ab:2^(8*b)<=18446744073709551616:=le_pow _ Sm;rw[x]at B;generalize cZ ((s.data.toList.drop c).take b)=m at*;have HN:=za (fun V=>Fy m V (by omega));have tY:=gd b m B;have Ua:Hid ((⟨(cB m).toArray⟩:ByteArray).size<=9223372036854775807):=za (by rw[bD];omega);have Ra:Hid ((s.data.toList.drop c).drop b=s.data.toList.drop (c+b)):=za (by rw[xV]);generalize (⟨(cB m).toArray⟩:ByteArray)=T at*;clear x Y B tY;have i:=za (k.out.less (M-n-1));generalize rQ:H.setCell ⟨gl,0,none⟩ (.int .i64 (M-n-1))=p at*;clear D G F E;obtain⟨Z,U,p2,p3,S,X⟩:=fu (show af p w.heap.size 197 #[_,_,_,_,_,_]from i.out.rdg);obtain⟨D,G,F,E,_⟩:=aL i.out.ty;unfold hC;clear hS;go_enter xf,y9
 go_wp2_with fail
 refine(eA g s c b p i.out.st.rdr (by omega) (by omega)).mono ?_;rintro e r ⟨rfl,u,o⟩;have K:=za (i.out.dC o u);clear u o;go_wp2_with fail
 refine(HG.out r).mono ?_;rintro e w' ⟨rfl,rfl⟩;go_wp2_with fail
 refine(HN.out r).mono ?_;rintro e w2 ⟨rfl,l⟩;have q:=za (K.out.below l);clear l;obtain⟨n0,n1,n2,m0,m1,m2⟩:=gK q.out.res;obtain⟨d,j,N,R,J⟩:=q.out.ends (.string T) (.bool false) (.slice none 0 0);have L:=za d;have O:=za j;clear d j;go_wp2;have d:=L.out;have j:=O.out;refine zp (v:= .agg #[.string T,.bool false,.slice none 0 0]) (by simp[results,yS,go_sem,N,R,J]) rfl ?_;exact⟨.mk T false [],_,_,_,c+b,_,rfl,fV.text false Ua.out,d,j,by omega,fun _=>⟨rfl,Ra.out,by simp only;omega⟩⟩
theorem MH (c:Nat)(A:Option Addr)(cap:Nat)(w:World)(g gl r:Nat)(s:ByteArray)(b n:Nat)(M:Int)(hS:jn w g gl r s b 0 (M-n))(X:b<=s.size)(hs:s.size<=1099511627776)(hM:¬M<=n)(Cj:M<=1024)(Sm:c<=65536):
 Calls Tryz.prog 145 #[hC g gl r,.agg #[.int .i64 2,.int .i64 c,.slice A ([]:List Ty).length cap,.int .i64 0]] w fun e w'=>gJ w g gl r s M ((Ty.mk 2 c [] 0).rd M n (s.data.toList.drop b)) e w':=by
 have d0:decide (M-(n:Int)<=0)=false:=zz (by omega);rw[H7 hM,show((c:Int)).toNat=c from rfl,zZ,aa];obtain⟨z,u,E,ez,S,el⟩:∃(z u:Int) (E:List Ty),z=c/\u=0/\E= []:=⟨_,_,_,rfl,rfl,rfl⟩
 rw[<-ez,<-S,<-el];have k:=za (tP.start (tc:= #[.int .i64 (2),.int .i64 z,.slice A E.length cap,.int .i64 u]) hS);generalize ox:(((w.alloc (.cells (jS g gl r) 197)).alloc (.cells #[.int .i64 (2),.int .i64 z,.slice A E.length cap,.int .i64 u] 64)).alloc (.cells #[.string ⟨#[]⟩,.bool false,.slice none 0 0] 28))=D at*;unfold jS at ox;obtain⟨W,R,Y,Z,N,U⟩:=fu (show af D w.heap.size 197 #[_,_,_,_,_,_]from k.out.rdg);obtain⟨x,C,B,y,_⟩:=aL k.out.ty;have l0:D.cell? ⟨gl,0,none⟩=some (.int .i64 (M-n)):=k.out.st.left.cell 0;have l1:=k.out.st.left.frozen 0;subst ez S el;simp only[zO]at ox k;by_cases wC:s.size<b+c
 ·rw[zl (by omega)];have i:=za (k.out.less (M-n-1));generalize rQ:D.setCell ⟨gl,0,none⟩ (.int .i64 (M-n-1))=o at*;clear x C B y;obtain⟨W,R,Y,Z,N,U⟩:=fu (show af o w.heap.size 197 #[_,_,_,_,_,_]from i.out.rdg);obtain⟨x,C,B,y,_⟩:=aL i.out.ty;unfold hC;clear hS;go_enter xf,y9
  go_wp2_with fail
  refine(fX g s b c o i.out.st.rdr X (by omega) wC (by omega)).mono ?_;rintro e L ⟨rfl,q,m⟩;have G:=za (i.out.dC m q);clear q m;go_wp2_with fail
  refine(oM ⟨#[]⟩ L).mono ?_;rintro e w2 ⟨rfl,l⟩;have p:=za (G.out.below l);clear l;obtain⟨n0,n1,n2,m0,m1,m2⟩:=gK p.out.res;obtain⟨d,j,I,K,F⟩:=p.out.ends (.string ⟨#[]⟩) (.bool false) (.slice none 0 0);have H:=za d;have J:=za j;clear d j;go_wp2;have d:=H.out;have j:=J.out;refine zp (v:= .agg #[.string ⟨#[]⟩,.bool false,.slice none 0 0]) (by simp[results,yS,go_sem,I,K,F]) rfl ?_;exact⟨i',_,_,_,b,_,rfl,fV.text false (by simp[ByteArray.size]),d,j,X,fun h=>absurd h (show¬(2:Int)=0 by decide)⟩
 rw[zj (by omega)];have O:=vC s b c;have AK:(s.extract b (b+c)).size=c:=by rw[an s b (b+c) (by omega)];omega
 have HX:Hid ((⟨((s.data.toList.drop b).take c).toArray⟩:ByteArray)=s.extract b (b+c)):=za (aG (by rw[O]));rw[HX.out];have Ua:Hid ((s.extract b (b+c)).size<=9223372036854775807):=za (by omega);have Ra:Hid ((s.data.toList.drop b).drop c=s.data.toList.drop (b+c)):=za (by rw[xV]);clear O AK;have i:=za (k.out.less (M-n-1));generalize rQ:D.setCell ⟨gl,0,none⟩ (.int .i64 (M-n-1))=o at*;clear x C B y;obtain⟨W,R,Y,Z,N,U⟩:=fu (show af o w.heap.size 197 #[_,_,_,_,_,_]from i.out.rdg);obtain⟨x,C,B,y,_⟩:=aL i.out.ty;unfold hC;clear hS;go_enter xf,y9
 go_wp2_with fail
 refine(eA g s b c o i.out.st.rdr (by omega) (by omega)).mono ?_;rintro e L ⟨rfl,q,m⟩;have G:=za (i.out.dC m q);clear q m HX;generalize hT:s.extract b (b+c)=T at*;have HT:=za hT;clear hT;go_wp2_with fail
 refine(oM T L).mono ?_;rintro e w2 ⟨rfl,l⟩;have p:=za (G.out.below l);clear l;obtain⟨n0,n1,n2,m0,m1,m2⟩:=gK p.out.res;obtain⟨d,j,I,K,F⟩:=p.out.ends (.string T) (.bool false) (.slice none 0 0);have H:=za d;have J:=za j;clear d j;go_wp2;have d:=H.out;have j:=J.out;refine zp (v:= .agg #[.string T,.bool false,.slice none 0 0]) (by simp[results,yS,go_sem,I,K,F]) rfl ?_;exact⟨.mk T false [],_,_,_,b+c,_,rfl,fV.text false Ua.out,d,j,by omega,fun _=>⟨by show It.mk T false []=It.mk (s.extract b (b+c)) false [];rw[HT.out],Ra.out,by simp only;omega⟩⟩
theorem jn.drew {w:World}{g gl b:Nat}{s:ByteArray}{k:Nat}{f m:Int}(h:jn w g gl b s k f m):jn w.drew g gl b s k f m:=⟨h.rdr.drew,h.left.drew,h.box.drew⟩
theorem FB (d:Nat)(A:Option Addr)(cap:Nat)(w:World)(g gl i:Nat)(s:ByteArray)(b n:Nat)(M:Int)(hS:jn w g gl i s b 0 (M-n))(hk:b<=s.size)(hs:s.size<=1099511627776)(hM:¬M<=n)(Cj:M<=1024)(Sm:d<=65536)(hL:bn w)(hg:0<g)(o7:0<gl):
 Calls Tryz.prog 145 #[hC g gl i,.agg #[.int .i64 3,.int .i64 d,.slice A ([]:List Ty).length cap,.int .i64 0]] w fun e w'=>gJ w g gl i s M ((Ty.mk 3 d [] 0).rd M n (s.data.toList.drop b)) e w':=by
 have d0:decide (M-(n:Int)<=0)=false:=zz (by omega);rw[uT hM];have Gq:=za (fun V (j:jn V g gl i s b 0 (M-n-1)) (hl:bn V)=>BZ g gl i s b d _ V j hk (by omega) Sm hl (by omega));have nt:=fun(h0:(aw (s.data.toList.drop b)).2.2=0)=>(iz (s.data.toList.drop b) (aw (s.data.toList.drop b)).1 (aw (s.data.toList.drop b)).2.1 (by rw[<-h0])).2.1
 rw[zZ,aa]at nt;have HW:=nJ (aw (s.data.toList.drop b)) d b;obtain⟨ab,ta,tl,ez,et,el⟩:∃(ab ta:Int) (tl:List Ty),ab=d/\ta=0/\tl= []:=⟨_,_,_,rfl,rfl,rfl⟩
 rw[<-et,<-el,<-ez];have E:=za (tP.start (tc:= #[.int .i64 (3),.int .i64 ab,.slice A tl.length cap,.int .i64 ta]) hS);generalize ox:(((w.alloc (.cells (jS g gl i) 197)).alloc (.cells #[.int .i64 (3),.int .i64 ab,.slice A tl.length cap,.int .i64 ta] 64)).alloc (.cells #[.string ⟨#[]⟩,.bool false,.slice none 0 0] 28))=W3 at*;unfold jS at ox;obtain⟨J,p1,p2,p3,H,p5⟩:=fu (show af W3 w.heap.size 197 #[_,_,_,_,_,_]from E.out.rdg);obtain⟨I,z,L,G,_⟩:=aL E.out.ty;have l0:W3.cell? ⟨gl,0,none⟩=some (.int .i64 (M-n)):=E.out.st.left.cell 0;have l1:=E.out.st.left.frozen 0;subst ez et el;simp only[zO]at ox E;have Rb:=fun V (h:tP w g gl i s b 0 (M-n-1) #[.int .i64 3,.int .i64 d,.slice A 0 cap,.int .i64 0] V)=>hL.only h.only (by simp;omega)
 have wX:=za Rb;clear Rb hL;generalize aw (s.data.toList.drop b)=ad at*;obtain⟨Nm,k,Ne⟩:=ad;simp only at nt HW⊢;rcases HW with⟨F,hE,GF,c⟩|⟨F,h2,hE,GF,c⟩|⟨F,h2,hE,GF,c⟩
 ·rw[zl F];rw[hE,GF,c]at Gq;have q:=za (E.out.less (M-n-1));generalize rQ:W3.setCell ⟨gl,0,none⟩ (.int .i64 (M-n-1))=r at*;clear I z L G;obtain⟨J,p1,p2,p3,H,p5⟩:=fu (show af r w.heap.size 197 #[_,_,_,_,_,_]from q.out.rdg);obtain⟨I,z,L,G,_⟩:=aL q.out.ty;unfold hC;clear hS;go_enter xf,y9
  go_wp2_with fail
  have N:bn r.drew:=wX.out r q.out;refine aB 9 (fun V=>V.cell? ⟨w.heap.size,0,none⟩=some (.func (.func 120) #[.pointer (some ⟨g,0,none⟩)] #[])/\V.cell? ⟨w.heap.size,4,none⟩=some (.func (.func 143) #[] #[.pointer (some ⟨i,0,none⟩)])/\V.cell? ⟨w.heap.size+1,1,none⟩=some (.int .i64 d)) (by kernel_rfl) (by kernel_rfl) ?_;have hHeld:(fun V:World=>V.cell? ⟨w.heap.size,0,none⟩=some (.func (.func 120) #[.pointer (some ⟨g,0,none⟩)] #[])/\V.cell? ⟨w.heap.size,4,none⟩=some (.func (.func 143) #[] #[.pointer (some ⟨i,0,none⟩)])/\V.cell? ⟨w.heap.size+1,1,none⟩=some (.int .i64 d)) r.drew:=⟨J,H,z⟩
  refine GT.jD [0,1,2,3,4,5] hHeld (fun _ _ _ _ _ h=>h) (by kernel_rfl) ?_;refine .c (v:= .pointer (some ⟨w.heap.size,0,none⟩)) rfl rfl (fun V j=>by go_simp<;>with_reducible rfl) ?_;try simp only[Act.put,zc,ze,zg];refine .c (v:= .func (.func 120) #[.pointer (some ⟨g,0,none⟩)] #[]) rfl rfl (fun V j=>by go_simp<;>with_reducible rfl) ?_;try simp only[Act.put,zc,ze,zg];refine .c (v:= .pointer (some ⟨w.heap.size,4,none⟩)) rfl rfl (fun V j=>by go_simp<;>with_reducible rfl) ?_;try simp only[Act.put,zc,ze,zg];refine .c (v:= .func (.func 143) #[] #[.pointer (some ⟨i,0,none⟩)]) rfl rfl (fun V j=>by go_simp<;>with_reducible rfl) ?_;try simp only[Act.put,zc,ze,zg];refine .c (v:= .pointer (some ⟨w.heap.size+1,1,none⟩)) rfl rfl (fun V j=>by go_simp<;>with_reducible rfl) ?_;try simp only[Act.put,zc,ze,zg];refine .c (v:= .int .i64 d) rfl rfl (fun V j=>by go_simp<;>with_reducible rfl) ?_;try simp only[Act.put,zc,ze,zg];refine .nil ?_;refine GT.fF 6 (fun K c=> ?_) rfl (by kernel_rfl);go_simp;refine(Gq.out r.drew q.out.st.drew N).mono ?_;rintro e C ⟨rfl,o,l⟩;have p:=za ((q.out.below (zq _ _).drew).dC l o.rdr);have S:(fun V:World=>V.cell? ⟨w.heap.size,0,none⟩=some (.func (.func 120) #[.pointer (some ⟨g,0,none⟩)] #[])/\V.cell? ⟨w.heap.size,4,none⟩=some (.func (.func 143) #[] #[.pointer (some ⟨i,0,none⟩)])/\V.cell? ⟨w.heap.size+1,1,none⟩=some (.int .i64 d)) C:=⟨p.out.rdg.cell 0,p.out.rdg.cell 4,p.out.ty.cell 1⟩
  clear o l;go_wp2_with fail
  refine c.out _ _ S (fun hHeld=> ?_);clear c K;try simp only[Act.put,zc,ze,zg]
  refine GT.fF 7 (fun K c=> ?_) rfl (by kernel_rfl);go_simp;refine(vm g s b Ne 0 C p.out.st.rdr (zr.2 F)).mono ?_;rintro e D ⟨rfl,o,l⟩;have x:=za (p.out.dC l o);have W:(fun V:World=>V.cell? ⟨w.heap.size,0,none⟩=some (.func (.func 120) #[.pointer (some ⟨g,0,none⟩)] #[])/\V.cell? ⟨w.heap.size,4,none⟩=some (.func (.func 143) #[] #[.pointer (some ⟨i,0,none⟩)])/\V.cell? ⟨w.heap.size+1,1,none⟩=some (.int .i64 d)) D:=⟨x.out.rdg.cell 0,x.out.rdg.cell 4,x.out.ty.cell 1⟩
  clear o l;go_wp2_with fail
  refine c.out _ _ W (fun hHeld=> ?_);clear c K;try simp only[Act.put,zc,ze,zg]
  refine GT.fF 8 (fun K c=> ?_) rfl (by kernel_rfl);go_simp;refine(oM ⟨#[]⟩ D).mono ?_;rintro e w3 ⟨rfl,B⟩;have m:=za (x.out.below B);have Y:(fun V:World=>V.cell? ⟨w.heap.size,0,none⟩=some (.func (.func 120) #[.pointer (some ⟨g,0,none⟩)] #[])/\V.cell? ⟨w.heap.size,4,none⟩=some (.func (.func 143) #[] #[.pointer (some ⟨i,0,none⟩)])/\V.cell? ⟨w.heap.size+1,1,none⟩=some (.int .i64 d)) w3:=⟨m.out.rdg.cell 0,m.out.rdg.cell 4,m.out.ty.cell 1⟩
  clear B;go_wp2_with fail
  refine c.out _ _ Y (fun hHeld=> ?_);clear c K;try simp only[Act.put,zc,ze,zg]
  obtain⟨n0,n1,n2,m0,m1,m2⟩:=gK m.out.res;obtain⟨u,y,Z,U,R⟩:=m.out.ends (.string ⟨#[]⟩) (.bool false) (.slice none 0 0);have O:=za u;have X:=za y;clear u y;refine GT.oP 9 ?_ rfl (by kernel_rfl);go_simp;go_wp2;have u:=O.out;have y:=X.out;refine zp (v:= .agg #[.string ⟨#[]⟩,.bool false,.slice none 0 0]) (by simp[results,yS,go_sem,Z,U,R]) rfl ?_;exact⟨i',_,_,_,b,_,rfl,fV.text false (by simp[ByteArray.size]),u,y,hk,fun h=>absurd h F⟩
 ·rw[zj (by rw[F];simp),zl (by omega)];rw[hE,GF,c]at Gq;have q:=za (E.out.less (M-n-1));generalize rQ:W3.setCell ⟨gl,0,none⟩ (.int .i64 (M-n-1))=r at*;clear I z L G;obtain⟨J,p1,p2,p3,H,p5⟩:=fu (show af r w.heap.size 197 #[_,_,_,_,_,_]from q.out.rdg);obtain⟨I,z,L,G,_⟩:=aL q.out.ty;unfold hC;clear hS;go_enter xf,y9
  go_wp2_with fail
  have N:bn r.drew:=wX.out r q.out;refine aB 9 (fun V=>V.cell? ⟨w.heap.size,0,none⟩=some (.func (.func 120) #[.pointer (some ⟨g,0,none⟩)] #[])/\V.cell? ⟨w.heap.size,4,none⟩=some (.func (.func 143) #[] #[.pointer (some ⟨i,0,none⟩)])/\V.cell? ⟨w.heap.size+1,1,none⟩=some (.int .i64 d)) (by kernel_rfl) (by kernel_rfl) ?_;have hHeld:(fun V:World=>V.cell? ⟨w.heap.size,0,none⟩=some (.func (.func 120) #[.pointer (some ⟨g,0,none⟩)] #[])/\V.cell? ⟨w.heap.size,4,none⟩=some (.func (.func 143) #[] #[.pointer (some ⟨i,0,none⟩)])/\V.cell? ⟨w.heap.size+1,1,none⟩=some (.int .i64 d)) r.drew:=⟨J,H,z⟩
  refine GT.jD [0,1,2,3,4,5] hHeld (fun _ _ _ _ _ h=>h) (by kernel_rfl) ?_;refine .c (v:= .pointer (some ⟨w.heap.size,0,none⟩)) rfl rfl (fun V j=>by go_simp<;>with_reducible rfl) ?_;try simp only[Act.put,zc,ze,zg];refine .c (v:= .func (.func 120) #[.pointer (some ⟨g,0,none⟩)] #[]) rfl rfl (fun V j=>by go_simp<;>with_reducible rfl) ?_;try simp only[Act.put,zc,ze,zg];refine .c (v:= .pointer (some ⟨w.heap.size,4,none⟩)) rfl rfl (fun V j=>by go_simp<;>with_reducible rfl) ?_;try simp only[Act.put,zc,ze,zg];refine .c (v:= .func (.func 143) #[] #[.pointer (some ⟨i,0,none⟩)]) rfl rfl (fun V j=>by go_simp<;>with_reducible rfl) ?_;try simp only[Act.put,zc,ze,zg];refine .c (v:= .pointer (some ⟨w.heap.size+1,1,none⟩)) rfl rfl (fun V j=>by go_simp<;>with_reducible rfl) ?_;try simp only[Act.put,zc,ze,zg];refine .c (v:= .int .i64 d) rfl rfl (fun V j=>by go_simp<;>with_reducible rfl) ?_;try simp only[Act.put,zc,ze,zg];refine .nil ?_;refine GT.fF 6 (fun K c=> ?_) rfl (by kernel_rfl);go_simp;refine(Gq.out r.drew q.out.st.drew N).mono ?_;rintro e C ⟨rfl,o,l⟩;have p:=za ((q.out.below (zq _ _).drew).dC l o.rdr);have S:(fun V:World=>V.cell? ⟨w.heap.size,0,none⟩=some (.func (.func 120) #[.pointer (some ⟨g,0,none⟩)] #[])/\V.cell? ⟨w.heap.size,4,none⟩=some (.func (.func 143) #[] #[.pointer (some ⟨i,0,none⟩)])/\V.cell? ⟨w.heap.size+1,1,none⟩=some (.int .i64 d)) C:=⟨p.out.rdg.cell 0,p.out.rdg.cell 4,p.out.ty.cell 1⟩
  clear o l;go_wp2_with fail
  refine c.out _ _ S (fun hHeld=> ?_);clear c K;try simp only[Act.put,zc,ze,zg]
  refine GT.fF 7 (fun K c=> ?_) rfl (by kernel_rfl);go_simp;refine(vm g s b 5 0 C p.out.st.rdr (by decide)).mono ?_;rintro e D ⟨rfl,o,l⟩;have x:=za (p.out.dC l o);have W:(fun V:World=>V.cell? ⟨w.heap.size,0,none⟩=some (.func (.func 120) #[.pointer (some ⟨g,0,none⟩)] #[])/\V.cell? ⟨w.heap.size,4,none⟩=some (.func (.func 143) #[] #[.pointer (some ⟨i,0,none⟩)])/\V.cell? ⟨w.heap.size+1,1,none⟩=some (.int .i64 d)) D:=⟨x.out.rdg.cell 0,x.out.rdg.cell 4,x.out.ty.cell 1⟩
  clear o l;go_wp2_with fail
  refine c.out _ _ W (fun hHeld=> ?_);clear c K;try simp only[Act.put,zc,ze,zg]
  refine GT.fF 8 (fun K c=> ?_) rfl (by kernel_rfl);go_simp;refine(oM ⟨#[]⟩ D).mono ?_;rintro e w3 ⟨rfl,B⟩;have m:=za (x.out.below B);have Y:(fun V:World=>V.cell? ⟨w.heap.size,0,none⟩=some (.func (.func 120) #[.pointer (some ⟨g,0,none⟩)] #[])/\V.cell? ⟨w.heap.size,4,none⟩=some (.func (.func 143) #[] #[.pointer (some ⟨i,0,none⟩)])/\V.cell? ⟨w.heap.size+1,1,none⟩=some (.int .i64 d)) w3:=⟨m.out.rdg.cell 0,m.out.rdg.cell 4,m.out.ty.cell 1⟩
  clear B;go_wp2_with fail
  refine c.out _ _ Y (fun hHeld=> ?_);clear c K;try simp only[Act.put,zc,ze,zg]
  obtain⟨n0,n1,n2,m0,m1,m2⟩:=gK m.out.res;obtain⟨u,y,Z,U,R⟩:=m.out.ends (.string ⟨#[]⟩) (.bool false) (.slice none 0 0);have O:=za u;have X:=za y;clear u y;refine GT.oP 9 ?_ rfl (by kernel_rfl);go_simp;go_wp2;have u:=O.out;have y:=X.out;refine zp (v:= .agg #[.string ⟨#[]⟩,.bool false,.slice none 0 0]) (by simp[results,yS,go_sem,Z,U,R]) rfl ?_;exact⟨i',_,_,_,b,_,rfl,fV.text false (by simp[ByteArray.size]),u,y,hk,fun h=>absurd h (show¬(5:Int)=0 by decide)⟩
 rw[zj (by rw[F];simp),zj (by omega)];rw[hE,GF,c]at Gq;have aM:=nt F;rw[xV,zZ,aa];by_cases wC:s.size<b+k+Nm
 ·rw[zl (by omega)];have q:=za (E.out.less (M-n-1));generalize rQ:W3.setCell ⟨gl,0,none⟩ (.int .i64 (M-n-1))=r at*;clear I z L G;obtain⟨J,p1,p2,p3,H,p5⟩:=fu (show af r w.heap.size 197 #[_,_,_,_,_,_]from q.out.rdg);obtain⟨I,z,L,G,_⟩:=aL q.out.ty;unfold hC;clear hS;go_enter xf,y9
  go_wp2_with fail
  have N:bn r.drew:=wX.out r q.out;refine aB 9 (fun V=>V.cell? ⟨w.heap.size,0,none⟩=some (.func (.func 120) #[.pointer (some ⟨g,0,none⟩)] #[])/\V.cell? ⟨w.heap.size,4,none⟩=some (.func (.func 143) #[] #[.pointer (some ⟨i,0,none⟩)])/\V.cell? ⟨w.heap.size+1,1,none⟩=some (.int .i64 d)) (by kernel_rfl) (by kernel_rfl) ?_;have hHeld:(fun V:World=>V.cell? ⟨w.heap.size,0,none⟩=some (.func (.func 120) #[.pointer (some ⟨g,0,none⟩)] #[])/\V.cell? ⟨w.heap.size,4,none⟩=some (.func (.func 143) #[] #[.pointer (some ⟨i,0,none⟩)])/\V.cell? ⟨w.heap.size+1,1,none⟩=some (.int .i64 d)) r.drew:=⟨J,H,z⟩
  refine GT.jD [0,1,2,3,4,5] hHeld (fun _ _ _ _ _ h=>h) (by kernel_rfl) ?_;refine .c (v:= .pointer (some ⟨w.heap.size,0,none⟩)) rfl rfl (fun V j=>by go_simp<;>with_reducible rfl) ?_;try simp only[Act.put,zc,ze,zg];refine .c (v:= .func (.func 120) #[.pointer (some ⟨g,0,none⟩)] #[]) rfl rfl (fun V j=>by go_simp<;>with_reducible rfl) ?_;try simp only[Act.put,zc,ze,zg];refine .c (v:= .pointer (some ⟨w.heap.size,4,none⟩)) rfl rfl (fun V j=>by go_simp<;>with_reducible rfl) ?_;try simp only[Act.put,zc,ze,zg];refine .c (v:= .func (.func 143) #[] #[.pointer (some ⟨i,0,none⟩)]) rfl rfl (fun V j=>by go_simp<;>with_reducible rfl) ?_;try simp only[Act.put,zc,ze,zg];refine .c (v:= .pointer (some ⟨w.heap.size+1,1,none⟩)) rfl rfl (fun V j=>by go_simp<;>with_reducible rfl) ?_;try simp only[Act.put,zc,ze,zg];refine .c (v:= .int .i64 d) rfl rfl (fun V j=>by go_simp<;>with_reducible rfl) ?_;try simp only[Act.put,zc,ze,zg];refine .nil ?_;refine GT.fF 6 (fun K c=> ?_) rfl (by kernel_rfl);go_simp;refine(Gq.out r.drew q.out.st.drew N).mono ?_;rintro e C ⟨rfl,o,l⟩;have p:=za ((q.out.below (zq _ _).drew).dC l o.rdr);have S:(fun V:World=>V.cell? ⟨w.heap.size,0,none⟩=some (.func (.func 120) #[.pointer (some ⟨g,0,none⟩)] #[])/\V.cell? ⟨w.heap.size,4,none⟩=some (.func (.func 143) #[] #[.pointer (some ⟨i,0,none⟩)])/\V.cell? ⟨w.heap.size+1,1,none⟩=some (.int .i64 d)) C:=⟨p.out.rdg.cell 0,p.out.rdg.cell 4,p.out.ty.cell 1⟩
  clear o l;go_wp2_with fail
  refine c.out _ _ S (fun hHeld=> ?_);clear c K;try simp only[Act.put,zc,ze,zg]
  refine GT.fF 7 (fun K c=> ?_) rfl (by kernel_rfl);go_simp;refine(fX g s (b+k) Nm C p.out.st.rdr (by omega) (by omega) wC (by omega)).mono ?_;rintro e D ⟨rfl,o,l⟩;have x:=za (p.out.dC l o);have W:(fun V:World=>V.cell? ⟨w.heap.size,0,none⟩=some (.func (.func 120) #[.pointer (some ⟨g,0,none⟩)] #[])/\V.cell? ⟨w.heap.size,4,none⟩=some (.func (.func 143) #[] #[.pointer (some ⟨i,0,none⟩)])/\V.cell? ⟨w.heap.size+1,1,none⟩=some (.int .i64 d)) D:=⟨x.out.rdg.cell 0,x.out.rdg.cell 4,x.out.ty.cell 1⟩
  clear o l;go_wp2_with fail
  refine c.out _ _ W (fun hHeld=> ?_);clear c K;try simp only[Act.put,zc,ze,zg]
  refine GT.fF 8 (fun K c=> ?_) rfl (by kernel_rfl);go_simp;refine(oM ⟨#[]⟩ D).mono ?_;rintro e w3 ⟨rfl,B⟩;have m:=za (x.out.below B);have Y:(fun V:World=>V.cell? ⟨w.heap.size,0,none⟩=some (.func (.func 120) #[.pointer (some ⟨g,0,none⟩)] #[])/\V.cell? ⟨w.heap.size,4,none⟩=some (.func (.func 143) #[] #[.pointer (some ⟨i,0,none⟩)])/\V.cell? ⟨w.heap.size+1,1,none⟩=some (.int .i64 d)) w3:=⟨m.out.rdg.cell 0,m.out.rdg.cell 4,m.out.ty.cell 1⟩
  clear B;go_wp2_with fail
  refine c.out _ _ Y (fun hHeld=> ?_);clear c K;try simp only[Act.put,zc,ze,zg]
  obtain⟨n0,n1,n2,m0,m1,m2⟩:=gK m.out.res;obtain⟨u,y,Z,U,R⟩:=m.out.ends (.string ⟨#[]⟩) (.bool false) (.slice none 0 0);have O:=za u;have X:=za y;clear u y;refine GT.oP 9 ?_ rfl (by kernel_rfl);go_simp;go_wp2;have u:=O.out;have y:=X.out;refine zp (v:= .agg #[.string ⟨#[]⟩,.bool false,.slice none 0 0]) (by simp[results,yS,go_sem,Z,U,R]) rfl ?_;exact⟨i',_,_,_,b+k,_,rfl,fV.text false (by simp[ByteArray.size]),u,y,by omega,fun h=>absurd h (show¬(2:Int)=0 by decide)⟩
 rw[zj (by omega)];have hX:=vC s (b+k) Nm;have AK:(s.extract (b+k) (b+k+Nm)).size=Nm:=by rw[an s (b+k) (b+k+Nm) (by omega)];omega
 have HX:Hid ((⟨((s.data.toList.drop (b+k)).take Nm).toArray⟩:ByteArray)=s.extract (b+k) (b+k+Nm)):=za (aG (by rw[hX]));rw[HX.out];have Ua:Hid ((s.extract (b+k) (b+k+Nm)).size<=9223372036854775807):=za (by omega);have Ra:Hid ((s.data.toList.drop (b+k)).drop Nm=s.data.toList.drop (b+k+Nm)):=za (by rw[xV]);clear hX AK;have q:=za (E.out.less (M-n-1));generalize rQ:W3.setCell ⟨gl,0,none⟩ (.int .i64 (M-n-1))=r at*;clear I z L G;obtain⟨J,p1,p2,p3,H,p5⟩:=fu (show af r w.heap.size 197 #[_,_,_,_,_,_]from q.out.rdg);obtain⟨I,z,L,G,_⟩:=aL q.out.ty;unfold hC;clear hS;go_enter xf,y9
 go_wp2_with fail
 have N:bn r.drew:=wX.out r q.out;refine aB 9 (fun V=>V.cell? ⟨w.heap.size,0,none⟩=some (.func (.func 120) #[.pointer (some ⟨g,0,none⟩)] #[])/\V.cell? ⟨w.heap.size,4,none⟩=some (.func (.func 143) #[] #[.pointer (some ⟨i,0,none⟩)])/\V.cell? ⟨w.heap.size+1,1,none⟩=some (.int .i64 d)) (by kernel_rfl) (by kernel_rfl) ?_;have hHeld:(fun V:World=>V.cell? ⟨w.heap.size,0,none⟩=some (.func (.func 120) #[.pointer (some ⟨g,0,none⟩)] #[])/\V.cell? ⟨w.heap.size,4,none⟩=some (.func (.func 143) #[] #[.pointer (some ⟨i,0,none⟩)])/\V.cell? ⟨w.heap.size+1,1,none⟩=some (.int .i64 d)) r.drew:=⟨J,H,z⟩
 refine GT.jD [0,1,2,3,4,5] hHeld (fun _ _ _ _ _ h=>h) (by kernel_rfl) ?_;refine .c (v:= .pointer (some ⟨w.heap.size,0,none⟩)) rfl rfl (fun V j=>by go_simp<;>with_reducible rfl) ?_;try simp only[Act.put,zc,ze,zg];refine .c (v:= .func (.func 120) #[.pointer (some ⟨g,0,none⟩)] #[]) rfl rfl (fun V j=>by go_simp<;>with_reducible rfl) ?_;try simp only[Act.put,zc,ze,zg];refine .c (v:= .pointer (some ⟨w.heap.size,4,none⟩)) rfl rfl (fun V j=>by go_simp<;>with_reducible rfl) ?_;try simp only[Act.put,zc,ze,zg];refine .c (v:= .func (.func 143) #[] #[.pointer (some ⟨i,0,none⟩)]) rfl rfl (fun V j=>by go_simp<;>with_reducible rfl) ?_;try simp only[Act.put,zc,ze,zg];refine .c (v:= .pointer (some ⟨w.heap.size+1,1,none⟩)) rfl rfl (fun V j=>by go_simp<;>with_reducible rfl) ?_;try simp only[Act.put,zc,ze,zg];refine .c (v:= .int .i64 d) rfl rfl (fun V j=>by go_simp<;>with_reducible rfl) ?_;try simp only[Act.put,zc,ze,zg];refine .nil ?_;refine GT.fF 6 (fun K c=> ?_) rfl (by kernel_rfl);go_simp;refine(Gq.out r.drew q.out.st.drew N).mono ?_;rintro e C ⟨rfl,o,l⟩;have p:=za ((q.out.below (zq _ _).drew).dC l o.rdr);have S:(fun V:World=>V.cell? ⟨w.heap.size,0,none⟩=some (.func (.func 120) #[.pointer (some ⟨g,0,none⟩)] #[])/\V.cell? ⟨w.heap.size,4,none⟩=some (.func (.func 143) #[] #[.pointer (some ⟨i,0,none⟩)])/\V.cell? ⟨w.heap.size+1,1,none⟩=some (.int .i64 d)) C:=⟨p.out.rdg.cell 0,p.out.rdg.cell 4,p.out.ty.cell 1⟩
 clear o l;go_wp2_with fail
 refine c.out _ _ S (fun hHeld=> ?_);clear c K;try simp only[Act.put,zc,ze,zg]
 refine GT.fF 7 (fun K c=> ?_) rfl (by kernel_rfl);go_simp;refine(eA g s (b+k) Nm C p.out.st.rdr (by omega) (by omega)).mono ?_;rintro e D ⟨rfl,o,l⟩;have x:=za (p.out.dC l o);have W:(fun V:World=>V.cell? ⟨w.heap.size,0,none⟩=some (.func (.func 120) #[.pointer (some ⟨g,0,none⟩)] #[])/\V.cell? ⟨w.heap.size,4,none⟩=some (.func (.func 143) #[] #[.pointer (some ⟨i,0,none⟩)])/\V.cell? ⟨w.heap.size+1,1,none⟩=some (.int .i64 d)) D:=⟨x.out.rdg.cell 0,x.out.rdg.cell 4,x.out.ty.cell 1⟩
 clear o l;go_wp2_with fail
 refine c.out _ _ W (fun hHeld=> ?_);clear c K;try simp only[Act.put,zc,ze,zg]
 refine GT.fF 8 (fun K c=> ?_) rfl (by kernel_rfl);go_simp;refine(oM (s.extract (b+k) (b+k+Nm)) D).mono ?_;rintro e w3 ⟨rfl,B⟩;have m:=za (x.out.below B);have Y:(fun V:World=>V.cell? ⟨w.heap.size,0,none⟩=some (.func (.func 120) #[.pointer (some ⟨g,0,none⟩)] #[])/\V.cell? ⟨w.heap.size,4,none⟩=some (.func (.func 143) #[] #[.pointer (some ⟨i,0,none⟩)])/\V.cell? ⟨w.heap.size+1,1,none⟩=some (.int .i64 d)) w3:=⟨m.out.rdg.cell 0,m.out.rdg.cell 4,m.out.ty.cell 1⟩
 clear B;go_wp2_with fail
 refine c.out _ _ Y (fun hHeld=> ?_);clear c K;try simp only[Act.put,zc,ze,zg]
 obtain⟨n0,n1,n2,m0,m1,m2⟩:=gK m.out.res;obtain⟨u,y,Z,U,R⟩:=m.out.ends (.string (s.extract (b+k) (b+k+Nm))) (.bool false) (.slice none 0 0);have O:=za u;have X:=za y;clear u y;refine GT.oP 9 ?_ rfl (by kernel_rfl);go_simp;go_wp2;have u:=O.out;have y:=X.out;refine zp (v:= .agg #[.string (s.extract (b+k) (b+k+Nm)),.bool false,.slice none 0 0]) (by simp[results,yS,go_sem,Z,U,R]) rfl ?_;exact⟨.mk (s.extract (b+k) (b+k+Nm)) false [],_,_,_,b+k+Nm,_,rfl,fV.text false Ua.out,u,y,by omega,fun _=>⟨rfl,Ra.out,by simp only;omega⟩⟩
