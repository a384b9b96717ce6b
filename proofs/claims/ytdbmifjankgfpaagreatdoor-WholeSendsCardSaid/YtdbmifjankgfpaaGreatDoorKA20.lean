/- packed.Next by a meter with much room. -/
import Derived.Test.YtdbmifjankgfpaaGreatDoorKA19
import Derived.Test.YtdbmifjankgfpaaGreatDoorKA22
set_option linter.all false
set_option maxRecDepth 100000
set_option maxHeartbeats 4000000
open Go.Proofs.Tryz
namespace Go.Proofs.YtdbmifjankgfpaaGreatDoor
open Go.RowKit
variable {w V V':World}{g k d B:Nat}{s:ByteArray}{f m e i:Int}{tc:Array Value}{acc:List It}{v:Value}{l:List Ty}
def yN:=@results183
def yT:=@ntmps183
def y8:=@func183
theorem we (most b:Int)(i a u t p:Nat)(s:ByteArray)(w:World)(l:s.size<=9223372036854775807)(n: -9223372036854775808<=most)(k:most<=9223372036854775807)(m:tH w i a u t p)(x:a<=9223372036854775807)(hu:u+70000<=a)(z:t+70000<=9223372036854775807)(y:b<=70000):
 Calls prog 83 #[.int .i64 most,.int .i64 b,.pointer (some ⟨i,0,none⟩),.string s] w fun e w'=>e=Ch (aV most b s)/\(∃q,tH w' i a (u+(aV most b s).2.2.2.2) (t+(aV most b s).2.2.2.2) q)/\ae [i] w w':=by
 by_cases hx:(an most s).1≠0\/(aE (an most s).2.2.1).2.2≠0\/b<(aE (an most s).2.2.1).1
 ·have hz:(aV most b s).2.2.2.2=0:=by
   rw[bO];by_cases d:(an most s).1≠0
   ·rw[zi d]
   rw[zh d];by_cases c:(aE (an most s).2.2.1).2.2≠0
   ·rw[zi c]
   rw[zh c,zi (by rcases hx with h|h|h;exact absurd h d;exact absurd h c;exact h)]
  rw[hz];exact(AT most b i s w l n k hx).mono fun e w' ⟨r,j⟩=>⟨r,⟨p,m.only j (by simp)⟩,j.mono (by simp)⟩
 have d:(an most s).1=0:=Decidable.byContradiction fun h=>hx (.inl h)
 have c:(aE (an most s).2.2.1).2.2=0:=Decidable.byContradiction fun h=>hx (.inr (.inl h))
 have o:((aE (an most s).2.2.1).1:Int)<=b:=by
  have:¬b<(aE (an most s).2.2.1).1:=fun h=>hx (.inr (.inr h))
  omega
 have hz:(aV most b s).2.2.2.2=(aE (an most s).2.2.1).1:=by
  rw[bO,zh (by rw[d];simp),zh (by rw[c];simp),zh (by omega)];split<;>rfl
 rw[hz];exact AU most b i a u t p s w l n k m x d c o (by omega) (by omega)
theorem Jj (most b:Int)(s:ByteArray):(aV most b s).2.2.2.2=0\/((aV most b s).2.2.2.2:Int)<=b:=by
 rw[bO];split
 ·exact .inl rfl
 split
 ·exact .inl rfl
 split
 ·exact .inl rfl
 right;split<;>simp only<;>omega
def gR (w:World)(g gl fb:Nat)(s:ByteArray)(M:Int)(R:SV)(e:Ending)(w':World):Prop:=
 ∃(X:It) (c0 c1 c2:Value) (k':Nat) (m':Int),e= .returned (.agg #[c0,c1,c2])/\ga w' (w.heap.size<= ·) X c0 c1 c2/\jz w' g gl fb s k' R.e m'/\ae [g,gl] w w'/\k'<=s.size/\(R.e=0->X=R.x/\R.q=s.data.toList.drop k'/\m'=M-R.n)
theorem jz.lz {gl e c:Nat}{j:Array Value}(h:jz w g gl e s k f m)(b:af w c 28 j)(i l n:Value):jz (((w.setCell ⟨c,0,none⟩ i).setCell ⟨c,1,none⟩ l).setCell ⟨c,2,none⟩ n) g gl e s k f m:=
 have n1:=h.rdr.D5 b (by decide);have n2:=h.left.D5 b (by decide);have d:=h.box.D5 b (by decide)
 ⟨((af.dS (show af w g _ _ from h.rdr) (p:=⟨c,0,none⟩) n1 _).dS (p:=⟨c,1,none⟩) n1 _).dS (p:=⟨c,2,none⟩) n1 _,((h.left.dS (p:=⟨c,0,none⟩) n2 _).dS (p:=⟨c,1,none⟩) n2 _).dS (p:=⟨c,2,none⟩) n2 _,((h.box.dS (p:=⟨c,0,none⟩) d _).dS (p:=⟨c,1,none⟩) d _).dS (p:=⟨c,2,none⟩) d _⟩
theorem jz.less {gl b:Nat}(h:jz w g gl b s k f m)(u:Int):jz (w.setCell ⟨gl,0,none⟩ (.int .i64 u)) g gl b s k f u:=
 ⟨af.dS (show af w g _ _ from h.rdr) (p:=⟨gl,0,none⟩) h.apart.1.symm _,one_setCell h.left,h.box.dS (p:=⟨gl,0,none⟩) h.apart.2.2 _⟩
structure uu (w:World)(g gl fb:Nat)(s:ByteArray)(k:Nat)(f m:Int)(tc:Array Value)(V:World):Prop where
 rdg:af V w.heap.size 240 (j7 g gl fb)
 ty:af V (w.heap.size+1) 43 tc
 res:af V (w.heap.size+1+1) 28 #[.string ⟨#[]⟩,.bool false,.slice none 0 0]
 st:jz V g gl fb s k f m
 only:ae [g,gl] w V
 siz:w.heap.size+3<=V.heap.size
theorem uu.start {gl b:Nat}(h:jz w g gl b s k f m):uu w g gl b s k f m tc (((w.alloc (.cells (j7 g gl b) 240)).alloc (.cells tc 43)).alloc (.cells #[.string ⟨#[]⟩,.bool false,.slice none 0 0] 28)) where
 rdg:=((af.new w _ _).alloc _).alloc _
 ty:=af.alloc (af.at_ (by simp)) _
 res:=af.at_ (by simp)
 st:=h.below ((((zl _ w).alloc (zg _) _).alloc (by simp) _).alloc (by simp;omega) _)
 only:=(((ae.refl _ w).alloc _).alloc _).alloc _
 siz:=by simp
theorem uu.less {gl b:Nat}(h:uu w g gl b s k f m tc V)(u:Int):uu w g gl b s k f u tc (V.setCell ⟨gl,0,none⟩ (.int .i64 u)) where
 rdg:=h.rdg.dS (p:=⟨gl,0,none⟩) (h.rdg.D5 h.st.left (by decide)) _
 ty:=h.ty.dS (p:=⟨gl,0,none⟩) (h.ty.D5 h.st.left (by decide)) _
 res:=h.res.dS (p:=⟨gl,0,none⟩) (h.res.D5 h.st.left (by decide)) _
 st:=h.st.less u
 only:=h.only.setCell (by simp) _
 siz:=by have:=h.siz;simpa[World.setCell]using this
theorem uu.dJ {gl:Nat}{c:Nat}(h:uu w g gl d s k f m tc V)(b:ae [g] V V')(i:i' V' g s c e):uu w g gl d s c e m tc V' where
 rdg:=h.rdg.only b (by simp[h.rdg.D5 h.st.rdr (by decide)])
 ty:=h.ty.only b (by simp[h.ty.D5 h.st.rdr (by decide)])
 res:=h.res.only b (by simp[h.res.D5 h.st.rdr (by decide)])
 st:=h.st.dJ b i
 only:=h.only.trans (b.mono (by simp))
 siz:=zK h.siz b.size
theorem uu.below {gl c:Nat}(h:uu w g gl c s k f m tc V)(b:Below V.heap.size V V'):uu w g gl c s k f m tc V' where
 rdg:=(b.block _ h.rdg.lt).trans h.rdg
 ty:=(b.block _ h.ty.lt).trans h.ty
 res:=(b.block _ h.res.lt).trans h.res
 st:=h.st.below b
 only:=h.only.trans ((ae.ah b (zg _)).mono (by simp))
 siz:=zK h.siz b.size
theorem uu.ends {gl e:Nat}(h:uu w g gl e s k f m tc V)(b c d:Value):
 jz (((V.setCell ⟨w.heap.size+1+1,0,none⟩ b).setCell ⟨w.heap.size+1+1,1,none⟩ c).setCell ⟨w.heap.size+1+1,2,none⟩ d) g gl e s k f m/\ae [g,gl] w (((V.setCell ⟨w.heap.size+1+1,0,none⟩ b).setCell ⟨w.heap.size+1+1,1,none⟩ c).setCell ⟨w.heap.size+1+1,2,none⟩ d)/\
 (V.setCell ⟨w.heap.size+1+1,0,none⟩ b).cell? ⟨w.heap.size+1+1,0,none⟩=some b/\((V.setCell ⟨w.heap.size+1+1,0,none⟩ b).setCell ⟨w.heap.size+1+1,1,none⟩ c).cell? ⟨w.heap.size+1+1,1,none⟩=some c/\(((V.setCell ⟨w.heap.size+1+1,0,none⟩ b).setCell ⟨w.heap.size+1+1,1,none⟩ c).setCell ⟨w.heap.size+1+1,2,none⟩ d).cell? ⟨w.heap.size+1+1,2,none⟩=some d:=
 ⟨h.st.lz h.res b c d,((h.only.setCell (by simp;omega) _).setCell (by simp;omega) _).setCell (by simp;omega) _,by have:=(h.res.set 0 b).cell 0;simpa using this,by have:=((h.res.set 0 b).set 1 c).cell 1;simpa using this,by have:=(((h.res.set 0 b).set 1 c).set 2 d).cell 2;simpa using this⟩
theorem gS {t:TypeId}{a b c:Value}(h:af w g t #[a,b,c]):w.cell? ⟨g,0,none⟩=some a/\w.cell? ⟨g,1,none⟩=some b/\w.cell? ⟨g,2,none⟩=some c/\w.frozen? ⟨g,0,none⟩=false/\w.frozen? ⟨g,1,none⟩=false/\w.frozen? ⟨g,2,none⟩=false:=⟨h.cell 0,h.cell 1,h.cell 2,h.frozen 0,h.frozen 1,h.frozen 2⟩
theorem Jk (k z o:Int)(m:List Ty)(A:Option Addr)(cap:Nat)(w:World)(g gl j:Nat)(s:ByteArray)(b n:Nat)(M:Int)(hS:jz w g gl j s b 0 (M-n))(C:b<=s.size)(K:M<=n):
 Calls prog 183 #[il g gl j,.agg #[.int .i64 k,.int .i64 z,.slice A m.length cap,.int .i64 o]] w fun e w'=>gR w g gl j s M (.bad 4 n (s.data.toList.drop b)) e w':=by
 have W:decide (M-(n:Int)<=0)=true:=zD (by omega);have c:=za (uu.start (tc:= #[.int .i64 (k),.int .i64 z,.slice A m.length cap,.int .i64 o]) hS);generalize E:(((w.alloc (.cells (j7 g gl j) 240)).alloc (.cells #[.int .i64 (k),.int .i64 z,.slice A m.length cap,.int .i64 o] 43)).alloc (.cells #[.string ⟨#[]⟩,.bool false,.slice none 0 0] 28))=l at*;unfold j7 at E;obtain⟨H,G,I,S,R,X⟩:=eV (show af l w.heap.size 240 #[_,_,_,_,_,_]from c.out.rdg);obtain⟨Z,U,L,O,_⟩:=aN c.out.ty;have J:l.cell? ⟨gl,0,none⟩=some (.int .i64 (M-n)):=c.out.st.left.cell 0;have u:=za (iM g s b 4 l c.out.st.rdr);unfold il;clear hS;go_enter y8,yT
 go_wp2_with fail
 refine u.out.mono ?_;rintro e Y ⟨rfl,r,p⟩;have q:=za (c.out.dJ p r);clear r p;obtain⟨N,n1,n2,m0,m1,m2⟩:=gS q.out.res;obtain⟨d,i,y,D,F⟩:=q.out.ends (.string ⟨#[]⟩) (.bool false) (.slice none 0 0);have B:=za d;have x:=za i;clear d i;go_wp2;have d:=B.out;have i:=x.out;refine zk (v:= .agg #[.string ⟨#[]⟩,.bool false,.slice none 0 0]) (by simp[results,yN,go_sem,y,D,F]) rfl ?_;exact⟨jk,_,_,_,b,_,rfl,ga.text false (by simp[ByteArray.size]),d,i,C,fun h=>absurd h (show¬(4:Int)=0 by decide)⟩
theorem wg (s:ByteArray)(k n:Nat):(s.extract k (k+n)).data.toList=(s.data.toList.drop k).take n:=by
 rw[ar,ZS,show k+n-k=n from by omega]
theorem NA (b:Nat)(A:Option Addr)(cap:Nat)(w:World)(g gl I:Nat)(s:ByteArray)(c n:Nat)(M:Int)(hS:jz w g gl I s c 0 (M-n))(Y:c<=s.size)(hs:s.size<=1099511627776)(hM:¬M<=n)(Cw:M<=1024)(hz:1<=b)(S7:b<=8):
 Calls prog 183 #[il g gl I,.agg #[.int .i64 1,.int .i64 b,.slice A ([]:List Ty).length cap,.int .i64 0]] w fun e w'=>gR w g gl I s M ((Ty.mk 1 b [] 0).rd M n (s.data.toList.drop c)) e w':=by
 have d0:decide (M-(n:Int)<=0)=false:=zu (by omega);rw[Ix hM,show((b:Int)).toNat=b from rfl,zS,aa];obtain⟨z,D,B,U,et,el⟩:∃(z D:Int) (B:List Ty),z=b/\D=0/\B= []:=⟨_,_,_,rfl,rfl,rfl⟩
 rw[<-U,<-et,<-el];have k:=za (uu.start (tc:= #[.int .i64 (1),.int .i64 z,.slice A B.length cap,.int .i64 D]) hS);generalize oX:(((w.alloc (.cells (j7 g gl I) 240)).alloc (.cells #[.int .i64 (1),.int .i64 z,.slice A B.length cap,.int .i64 D] 43)).alloc (.cells #[.string ⟨#[]⟩,.bool false,.slice none 0 0] 28))=x at*;unfold j7 at oX;obtain⟨W,S,X,p3,p4,p5⟩:=eV (show af x w.heap.size 240 #[_,_,_,_,_,_]from k.out.rdg);obtain⟨H,G,C,E,_⟩:=aN k.out.ty;have l0:x.cell? ⟨gl,0,none⟩=some (.int .i64 (M-n)):=k.out.st.left.cell 0;have l1:=k.out.st.left.frozen 0;subst U et el;simp only[zL]at oX k;by_cases wW:s.size<c+b
 ·rw[zi (by omega)];have j:=za (k.out.less (M-n-1));generalize pU:x.setCell ⟨gl,0,none⟩ (.int .i64 (M-n-1))=l at*;clear H G C E;obtain⟨W,S,X,p3,p4,p5⟩:=eV (show af l w.heap.size 240 #[_,_,_,_,_,_]from j.out.rdg);obtain⟨H,G,C,E,_⟩:=aN j.out.ty;unfold il;clear hS;go_enter y8,yT
  go_wp2_with fail
  refine(gb g s c b l j.out.st.rdr Y (by omega) wW (by omega)).mono ?_;rintro e u ⟨rfl,q,o⟩;have O:=za (j.out.dJ o q);clear q o;go_wp2_with fail
  refine(nr ⟨#[]⟩ u rfl).mono ?_;rintro e w' ⟨rfl,rfl⟩;go_wp2_with fail
  refine(F2 0 u (by omega)).mono ?_;rintro e w2 ⟨rfl,p⟩;have r:=za (O.out.below p);clear p;obtain⟨n0,n1,n2,m0,m1,m2⟩:=gS r.out.res;obtain⟨d,i,K,N,R⟩:=r.out.ends (.string ⟨(cN 0).toArray⟩) (.bool false) (.slice none 0 0);have L:=za d;have J:=za i;clear d i;go_wp2;have d:=L.out;have i:=J.out;refine zk (v:= .agg #[.string ⟨(cN 0).toArray⟩,.bool false,.slice none 0 0]) (by simp[results,yN,go_sem,K,N,R]) rfl ?_;exact⟨.mk ⟨(cN 0).toArray⟩ false [],_,_,_,c,_,rfl,ga.text false (by simp[dy,ByteArray.size]),d,i,Y,fun h=>absurd h (show¬(2:Int)=0 by decide)⟩
 rw[zh (by omega)];have y:=wg s c b;have Z:(s.extract c (c+b)).size=b:=by rw[aq s c (c+b) (by omega)];omega
 have HG:=za (fun V=>fg (s.extract c (c+b)) V (by omega) (by omega));rw[y]at HG;have F:=jC ((s.data.toList.drop c).take b);rw[<-y,aa,Z]at F;have ab:2^(8*b)<=18446744073709551616:=le_pow _ S7;rw[y]at F;generalize du ((s.data.toList.drop c).take b)=m at*;have HN:=za (fun V=>F2 m V (by omega));have uE:=gw b m F;have UQ:Hid ((⟨(cN m).toArray⟩:ByteArray).size<=9223372036854775807):=za (by rw[bI];omega);have RU:Hid ((s.data.toList.drop c).drop b=s.data.toList.drop (c+b)):=za (by rw[xO]);generalize (⟨(cN m).toArray⟩:ByteArray)=T at*;clear y Z F uE;have j:=za (k.out.less (M-n-1));generalize pU:x.setCell ⟨gl,0,none⟩ (.int .i64 (M-n-1))=l at*;clear H G C E;obtain⟨W,S,X,p3,p4,p5⟩:=eV (show af l w.heap.size 240 #[_,_,_,_,_,_]from j.out.rdg);obtain⟨H,G,C,E,_⟩:=aN j.out.ty;unfold il;clear hS;go_enter y8,yT
 go_wp2_with fail
 refine(eK g s c b l j.out.st.rdr (by omega) (by omega)).mono ?_;rintro e u ⟨rfl,q,o⟩;have O:=za (j.out.dJ o q);clear q o;go_wp2_with fail
 refine(HG.out u).mono ?_;rintro e w' ⟨rfl,rfl⟩;go_wp2_with fail
 refine(HN.out u).mono ?_;rintro e w2 ⟨rfl,p⟩;have r:=za (O.out.below p);clear p;obtain⟨n0,n1,n2,m0,m1,m2⟩:=gS r.out.res;obtain⟨d,i,K,N,R⟩:=r.out.ends (.string T) (.bool false) (.slice none 0 0);have L:=za d;have J:=za i;clear d i;go_wp2;have d:=L.out;have i:=J.out;refine zk (v:= .agg #[.string T,.bool false,.slice none 0 0]) (by simp[results,yN,go_sem,K,N,R]) rfl ?_;exact⟨.mk T false [],_,_,_,c+b,_,rfl,ga.text false UQ.out,d,i,by omega,fun _=>⟨rfl,RU.out,by simp only;omega⟩⟩
theorem NB (c:Nat)(A:Option Addr)(cap:Nat)(w:World)(g gl E:Nat)(s:ByteArray)(b n:Nat)(M:Int)(hS:jz w g gl E s b 0 (M-n))(W:b<=s.size)(hs:s.size<=1099511627776)(hM:¬M<=n)(Cw:M<=1024)(S7:c<=65536):
 Calls prog 183 #[il g gl E,.agg #[.int .i64 2,.int .i64 c,.slice A ([]:List Ty).length cap,.int .i64 0]] w fun e w'=>gR w g gl E s M ((Ty.mk 2 c [] 0).rd M n (s.data.toList.drop b)) e w':=by
 have d0:decide (M-(n:Int)<=0)=false:=zu (by omega);rw[Iy hM,show((c:Int)).toNat=c from rfl,zS,aa];obtain⟨z,y,u,O,Y,el⟩:∃(z y:Int) (u:List Ty),z=c/\y=0/\u= []:=⟨_,_,_,rfl,rfl,rfl⟩
 rw[<-O,<-Y,<-el];have k:=za (uu.start (tc:= #[.int .i64 (2),.int .i64 z,.slice A u.length cap,.int .i64 y]) hS);generalize oX:(((w.alloc (.cells (j7 g gl E) 240)).alloc (.cells #[.int .i64 (2),.int .i64 z,.slice A u.length cap,.int .i64 y] 43)).alloc (.cells #[.string ⟨#[]⟩,.bool false,.slice none 0 0] 28))=r at*;unfold j7 at oX;obtain⟨R,N,S,p3,Z,p5⟩:=eV (show af r w.heap.size 240 #[_,_,_,_,_,_]from k.out.rdg);obtain⟨D,C,x,B,_⟩:=aN k.out.ty;have l0:r.cell? ⟨gl,0,none⟩=some (.int .i64 (M-n)):=k.out.st.left.cell 0;have l1:=k.out.st.left.frozen 0;subst O Y el;simp only[zL]at oX k;by_cases wW:s.size<b+c
 ·rw[zi (by omega)];have j:=za (k.out.less (M-n-1));generalize pU:r.setCell ⟨gl,0,none⟩ (.int .i64 (M-n-1))=l at*;clear D C x B;obtain⟨R,N,S,p3,Z,p5⟩:=eV (show af l w.heap.size 240 #[_,_,_,_,_,_]from j.out.rdg);obtain⟨D,C,x,B,_⟩:=aN j.out.ty;unfold il;clear hS;go_enter y8,yT
  go_wp2_with fail
  refine(gb g s b c l j.out.st.rdr W (by omega) wW (by omega)).mono ?_;rintro e L ⟨rfl,p,m⟩;have J:=za (j.out.dJ m p);clear p m;go_wp2_with fail
  refine(pf ⟨#[]⟩ L).mono ?_;rintro e w2 ⟨rfl,o⟩;have q:=za (J.out.below o);clear o;obtain⟨n0,n1,n2,m0,m1,m2⟩:=gS q.out.res;obtain⟨d,i,G,I,K⟩:=q.out.ends (.string ⟨#[]⟩) (.bool false) (.slice none 0 0);have H:=za d;have F:=za i;clear d i;go_wp2;have d:=H.out;have i:=F.out;refine zk (v:= .agg #[.string ⟨#[]⟩,.bool false,.slice none 0 0]) (by simp[results,yN,go_sem,G,I,K]) rfl ?_;exact⟨jk,_,_,_,b,_,rfl,ga.text false (by simp[ByteArray.size]),d,i,W,fun h=>absurd h (show¬(2:Int)=0 by decide)⟩
 rw[zh (by omega)];have U:=wg s b c;have Bc:(s.extract b (b+c)).size=c:=by rw[aq s b (b+c) (by omega)];omega
 have HX:Hid ((⟨((s.data.toList.drop b).take c).toArray⟩:ByteArray)=s.extract b (b+c)):=za (aF (by rw[U]));rw[HX.out];have UQ:Hid ((s.extract b (b+c)).size<=9223372036854775807):=za (by omega);have RU:Hid ((s.data.toList.drop b).drop c=s.data.toList.drop (b+c)):=za (by rw[xO]);clear U Bc;have j:=za (k.out.less (M-n-1));generalize pU:r.setCell ⟨gl,0,none⟩ (.int .i64 (M-n-1))=l at*;clear D C x B;obtain⟨R,N,S,p3,Z,p5⟩:=eV (show af l w.heap.size 240 #[_,_,_,_,_,_]from j.out.rdg);obtain⟨D,C,x,B,_⟩:=aN j.out.ty;unfold il;clear hS;go_enter y8,yT
 go_wp2_with fail
 refine(eK g s b c l j.out.st.rdr (by omega) (by omega)).mono ?_;rintro e L ⟨rfl,p,m⟩;have J:=za (j.out.dJ m p);clear p m HX;generalize X:s.extract b (b+c)=T at*;have HT:=za X;clear X;go_wp2_with fail
 refine(pf T L).mono ?_;rintro e w2 ⟨rfl,o⟩;have q:=za (J.out.below o);clear o;obtain⟨n0,n1,n2,m0,m1,m2⟩:=gS q.out.res;obtain⟨d,i,G,I,K⟩:=q.out.ends (.string T) (.bool false) (.slice none 0 0);have H:=za d;have F:=za i;clear d i;go_wp2;have d:=H.out;have i:=F.out;refine zk (v:= .agg #[.string T,.bool false,.slice none 0 0]) (by simp[results,yN,go_sem,G,I,K]) rfl ?_;exact⟨.mk T false [],_,_,_,b+c,_,rfl,ga.text false UQ.out,d,i,by omega,fun _=>⟨by show It.mk T false []=It.mk (s.extract b (b+c)) false [];rw[HT.out],RU.out,by simp only;omega⟩⟩
theorem jz.drew {gl b:Nat}(h:jz w g gl b s k f m):jz w.drew g gl b s k f m:=⟨h.rdr.drew,h.left.drew,h.box.drew⟩
theorem F3 (d:Nat)(A:Option Addr)(cap:Nat)(w:World)(g gl i:Nat)(s:ByteArray)(b n:Nat)(M:Int)(hS:jz w g gl i s b 0 (M-n))(hk:b<=s.size)(hs:s.size<=1099511627776)(hM:¬M<=n)(Cw:M<=1024)(S7:d<=65536)(hL:bj w)(hg:0<g)(pH:0<gl):
 Calls prog 183 #[il g gl i,.agg #[.int .i64 3,.int .i64 d,.slice A ([]:List Ty).length cap,.int .i64 0]] w fun e w'=>gR w g gl i s M ((Ty.mk 3 d [] 0).rd M n (s.data.toList.drop b)) e w':=by
 have d0:decide (M-(n:Int)<=0)=false:=zu (by omega);rw[vt hM];have R:=za (fun V (k:jz V g gl i s b 0 (M-n-1)) (hl:bj V)=>Ce g gl i s b d _ V k hk (by omega) S7 hl (by omega));have nO:=fun(h0:(aw (s.data.toList.drop b)).2.2=0)=>(iL (s.data.toList.drop b) (aw (s.data.toList.drop b)).1 (aw (s.data.toList.drop b)).2.1 (by rw[<-h0])).2.1
 rw[zS,aa]at nO;have HW:=nZ (aw (s.data.toList.drop b)) d b;obtain⟨ad,ta,tl,ez,et,el⟩:∃(ad ta:Int) (tl:List Ty),ad=d/\ta=0/\tl= []:=⟨_,_,_,rfl,rfl,rfl⟩
 rw[<-et,<-el,<-ez];have E:=za (uu.start (tc:= #[.int .i64 (3),.int .i64 ad,.slice A tl.length cap,.int .i64 ta]) hS);generalize oX:(((w.alloc (.cells (j7 g gl i) 240)).alloc (.cells #[.int .i64 (3),.int .i64 ad,.slice A tl.length cap,.int .i64 ta] 43)).alloc (.cells #[.string ⟨#[]⟩,.bool false,.slice none 0 0] 28))=W3 at*;unfold j7 at oX;obtain⟨L,p1,p2,p3,H,p5⟩:=eV (show af W3 w.heap.size 240 #[_,_,_,_,_,_]from E.out.rdg);obtain⟨J,z,F,G,_⟩:=aN E.out.ty;have l0:W3.cell? ⟨gl,0,none⟩=some (.int .i64 (M-n)):=E.out.st.left.cell 0;have l1:=E.out.st.left.frozen 0;subst ez et el;simp only[zL]at oX E;have RV:=fun V (h:uu w g gl i s b 0 (M-n-1) #[.int .i64 3,.int .i64 d,.slice A 0 cap,.int .i64 0] V)=>hL.only h.only (by simp;omega)
 have Ar:=za RV;clear RV hL;generalize aw (s.data.toList.drop b)=ae at*;obtain⟨Nm,j,Ne⟩:=ae;simp only at nO HW⊢;rcases HW with⟨I,hE,G6,c⟩|⟨I,h2,hE,G6,c⟩|⟨I,h2,hE,G6,c⟩
 ·rw[zi I];rw[hE,G6,c]at R;have p:=za (E.out.less (M-n-1));generalize pU:W3.setCell ⟨gl,0,none⟩ (.int .i64 (M-n-1))=l at*;clear J z F G;obtain⟨L,p1,p2,p3,H,p5⟩:=eV (show af l w.heap.size 240 #[_,_,_,_,_,_]from p.out.rdg);obtain⟨J,z,F,G,_⟩:=aN p.out.ty;unfold il;clear hS;go_enter y8,yT
  go_wp2_with fail
  have U:bj l.drew:=Ar.out l p.out;refine aB 9 (fun V=>V.cell? ⟨w.heap.size,0,none⟩=some (.func (.func 113) #[.pointer (some ⟨g,0,none⟩)] #[])/\V.cell? ⟨w.heap.size,4,none⟩=some (.func (.func 181) #[] #[.pointer (some ⟨i,0,none⟩)])/\V.cell? ⟨w.heap.size+1,1,none⟩=some (.int .i64 d)) (by kernel_rfl) (by kernel_rfl) ?_;have hHeld:(fun V:World=>V.cell? ⟨w.heap.size,0,none⟩=some (.func (.func 113) #[.pointer (some ⟨g,0,none⟩)] #[])/\V.cell? ⟨w.heap.size,4,none⟩=some (.func (.func 181) #[] #[.pointer (some ⟨i,0,none⟩)])/\V.cell? ⟨w.heap.size+1,1,none⟩=some (.int .i64 d)) l.drew:=⟨L,H,z⟩
  refine GT.jr [0,1,2,3,4,5] hHeld (fun _ _ _ _ _ h=>h) (by kernel_rfl) ?_;refine .c (v:= .pointer (some ⟨w.heap.size,0,none⟩)) rfl rfl (fun V k=>by go_simp<;>with_reducible rfl) ?_;try simp only[Act.put,zb,zd,ze];refine .c (v:= .func (.func 113) #[.pointer (some ⟨g,0,none⟩)] #[]) rfl rfl (fun V k=>by go_simp<;>with_reducible rfl) ?_;try simp only[Act.put,zb,zd,ze];refine .c (v:= .pointer (some ⟨w.heap.size,4,none⟩)) rfl rfl (fun V k=>by go_simp<;>with_reducible rfl) ?_;try simp only[Act.put,zb,zd,ze];refine .c (v:= .func (.func 181) #[] #[.pointer (some ⟨i,0,none⟩)]) rfl rfl (fun V k=>by go_simp<;>with_reducible rfl) ?_;try simp only[Act.put,zb,zd,ze];refine .c (v:= .pointer (some ⟨w.heap.size+1,1,none⟩)) rfl rfl (fun V k=>by go_simp<;>with_reducible rfl) ?_;try simp only[Act.put,zb,zd,ze];refine .c (v:= .int .i64 d) rfl rfl (fun V k=>by go_simp<;>with_reducible rfl) ?_;try simp only[Act.put,zb,zd,ze];refine .nil ?_;refine GT.fF 6 (fun K c=> ?_) rfl (by kernel_rfl);go_simp;refine(R.out l.drew p.out.st.drew U).mono ?_;rintro e D ⟨rfl,q,o⟩;have m:=za ((p.out.below (zl _ _).drew).dJ o q.rdr);have O:(fun V:World=>V.cell? ⟨w.heap.size,0,none⟩=some (.func (.func 113) #[.pointer (some ⟨g,0,none⟩)] #[])/\V.cell? ⟨w.heap.size,4,none⟩=some (.func (.func 181) #[] #[.pointer (some ⟨i,0,none⟩)])/\V.cell? ⟨w.heap.size+1,1,none⟩=some (.int .i64 d)) D:=⟨m.out.rdg.cell 0,m.out.rdg.cell 4,m.out.ty.cell 1⟩
  clear q o;go_wp2_with fail
  refine c.out _ _ O (fun hHeld=> ?_);clear c K;try simp only[Act.put,zb,zd,ze]
  refine GT.fF 7 (fun K c=> ?_) rfl (by kernel_rfl);go_simp;refine(vL g s b Ne 0 D m.out.st.rdr (zm.2 I)).mono ?_;rintro e B ⟨rfl,q,o⟩;have y:=za (m.out.dJ o q);have Y:(fun V:World=>V.cell? ⟨w.heap.size,0,none⟩=some (.func (.func 113) #[.pointer (some ⟨g,0,none⟩)] #[])/\V.cell? ⟨w.heap.size,4,none⟩=some (.func (.func 181) #[] #[.pointer (some ⟨i,0,none⟩)])/\V.cell? ⟨w.heap.size+1,1,none⟩=some (.int .i64 d)) B:=⟨y.out.rdg.cell 0,y.out.rdg.cell 4,y.out.ty.cell 1⟩
  clear q o;go_wp2_with fail
  refine c.out _ _ Y (fun hHeld=> ?_);clear c K;try simp only[Act.put,zb,zd,ze]
  refine GT.fF 8 (fun K c=> ?_) rfl (by kernel_rfl);go_simp;refine(pf ⟨#[]⟩ B).mono ?_;rintro e w3 ⟨rfl,C⟩;have r:=za (y.out.below C);have ab:(fun V:World=>V.cell? ⟨w.heap.size,0,none⟩=some (.func (.func 113) #[.pointer (some ⟨g,0,none⟩)] #[])/\V.cell? ⟨w.heap.size,4,none⟩=some (.func (.func 181) #[] #[.pointer (some ⟨i,0,none⟩)])/\V.cell? ⟨w.heap.size+1,1,none⟩=some (.int .i64 d)) w3:=⟨r.out.rdg.cell 0,r.out.rdg.cell 4,r.out.ty.cell 1⟩
  clear C;go_wp2_with fail
  refine c.out _ _ ab (fun hHeld=> ?_);clear c K;try simp only[Act.put,zb,zd,ze]
  obtain⟨n0,n1,n2,m0,m1,m2⟩:=gS r.out.res;obtain⟨u,x,S,N,X⟩:=r.out.ends (.string ⟨#[]⟩) (.bool false) (.slice none 0 0);have W:=za u;have Z:=za x;clear u x;refine GT.oL 9 ?_ rfl (by kernel_rfl);go_simp;go_wp2;have u:=W.out;have x:=Z.out;refine zk (v:= .agg #[.string ⟨#[]⟩,.bool false,.slice none 0 0]) (by simp[results,yN,go_sem,S,N,X]) rfl ?_;exact⟨jk,_,_,_,b,_,rfl,ga.text false (by simp[ByteArray.size]),u,x,hk,fun h=>absurd h I⟩
 ·rw[zh (by rw[I];simp),zi (by omega)];rw[hE,G6,c]at R;have p:=za (E.out.less (M-n-1));generalize pU:W3.setCell ⟨gl,0,none⟩ (.int .i64 (M-n-1))=l at*;clear J z F G;obtain⟨L,p1,p2,p3,H,p5⟩:=eV (show af l w.heap.size 240 #[_,_,_,_,_,_]from p.out.rdg);obtain⟨J,z,F,G,_⟩:=aN p.out.ty;unfold il;clear hS;go_enter y8,yT
  go_wp2_with fail
  have U:bj l.drew:=Ar.out l p.out;refine aB 9 (fun V=>V.cell? ⟨w.heap.size,0,none⟩=some (.func (.func 113) #[.pointer (some ⟨g,0,none⟩)] #[])/\V.cell? ⟨w.heap.size,4,none⟩=some (.func (.func 181) #[] #[.pointer (some ⟨i,0,none⟩)])/\V.cell? ⟨w.heap.size+1,1,none⟩=some (.int .i64 d)) (by kernel_rfl) (by kernel_rfl) ?_;have hHeld:(fun V:World=>V.cell? ⟨w.heap.size,0,none⟩=some (.func (.func 113) #[.pointer (some ⟨g,0,none⟩)] #[])/\V.cell? ⟨w.heap.size,4,none⟩=some (.func (.func 181) #[] #[.pointer (some ⟨i,0,none⟩)])/\V.cell? ⟨w.heap.size+1,1,none⟩=some (.int .i64 d)) l.drew:=⟨L,H,z⟩
  refine GT.jr [0,1,2,3,4,5] hHeld (fun _ _ _ _ _ h=>h) (by kernel_rfl) ?_;refine .c (v:= .pointer (some ⟨w.heap.size,0,none⟩)) rfl rfl (fun V k=>by go_simp<;>with_reducible rfl) ?_;try simp only[Act.put,zb,zd,ze];refine .c (v:= .func (.func 113) #[.pointer (some ⟨g,0,none⟩)] #[]) rfl rfl (fun V k=>by go_simp<;>with_reducible rfl) ?_;try simp only[Act.put,zb,zd,ze];refine .c (v:= .pointer (some ⟨w.heap.size,4,none⟩)) rfl rfl (fun V k=>by go_simp<;>with_reducible rfl) ?_;try simp only[Act.put,zb,zd,ze];refine .c (v:= .func (.func 181) #[] #[.pointer (some ⟨i,0,none⟩)]) rfl rfl (fun V k=>by go_simp<;>with_reducible rfl) ?_;try simp only[Act.put,zb,zd,ze];refine .c (v:= .pointer (some ⟨w.heap.size+1,1,none⟩)) rfl rfl (fun V k=>by go_simp<;>with_reducible rfl) ?_;try simp only[Act.put,zb,zd,ze];refine .c (v:= .int .i64 d) rfl rfl (fun V k=>by go_simp<;>with_reducible rfl) ?_;try simp only[Act.put,zb,zd,ze];refine .nil ?_;refine GT.fF 6 (fun K c=> ?_) rfl (by kernel_rfl);go_simp;refine(R.out l.drew p.out.st.drew U).mono ?_;rintro e D ⟨rfl,q,o⟩;have m:=za ((p.out.below (zl _ _).drew).dJ o q.rdr);have O:(fun V:World=>V.cell? ⟨w.heap.size,0,none⟩=some (.func (.func 113) #[.pointer (some ⟨g,0,none⟩)] #[])/\V.cell? ⟨w.heap.size,4,none⟩=some (.func (.func 181) #[] #[.pointer (some ⟨i,0,none⟩)])/\V.cell? ⟨w.heap.size+1,1,none⟩=some (.int .i64 d)) D:=⟨m.out.rdg.cell 0,m.out.rdg.cell 4,m.out.ty.cell 1⟩
  clear q o;go_wp2_with fail
  refine c.out _ _ O (fun hHeld=> ?_);clear c K;try simp only[Act.put,zb,zd,ze]
  refine GT.fF 7 (fun K c=> ?_) rfl (by kernel_rfl);go_simp;refine(vL g s b 5 0 D m.out.st.rdr (by decide)).mono ?_;rintro e B ⟨rfl,q,o⟩;have y:=za (m.out.dJ o q);have Y:(fun V:World=>V.cell? ⟨w.heap.size,0,none⟩=some (.func (.func 113) #[.pointer (some ⟨g,0,none⟩)] #[])/\V.cell? ⟨w.heap.size,4,none⟩=some (.func (.func 181) #[] #[.pointer (some ⟨i,0,none⟩)])/\V.cell? ⟨w.heap.size+1,1,none⟩=some (.int .i64 d)) B:=⟨y.out.rdg.cell 0,y.out.rdg.cell 4,y.out.ty.cell 1⟩
  clear q o;go_wp2_with fail
  refine c.out _ _ Y (fun hHeld=> ?_);clear c K;try simp only[Act.put,zb,zd,ze]
  refine GT.fF 8 (fun K c=> ?_) rfl (by kernel_rfl);go_simp;refine(pf ⟨#[]⟩ B).mono ?_;rintro e w3 ⟨rfl,C⟩;have r:=za (y.out.below C);have ab:(fun V:World=>V.cell? ⟨w.heap.size,0,none⟩=some (.func (.func 113) #[.pointer (some ⟨g,0,none⟩)] #[])/\V.cell? ⟨w.heap.size,4,none⟩=some (.func (.func 181) #[] #[.pointer (some ⟨i,0,none⟩)])/\V.cell? ⟨w.heap.size+1,1,none⟩=some (.int .i64 d)) w3:=⟨r.out.rdg.cell 0,r.out.rdg.cell 4,r.out.ty.cell 1⟩
  clear C;go_wp2_with fail
  refine c.out _ _ ab (fun hHeld=> ?_);clear c K;try simp only[Act.put,zb,zd,ze]
  obtain⟨n0,n1,n2,m0,m1,m2⟩:=gS r.out.res;obtain⟨u,x,S,N,X⟩:=r.out.ends (.string ⟨#[]⟩) (.bool false) (.slice none 0 0);have W:=za u;have Z:=za x;clear u x;refine GT.oL 9 ?_ rfl (by kernel_rfl);go_simp;go_wp2;have u:=W.out;have x:=Z.out;refine zk (v:= .agg #[.string ⟨#[]⟩,.bool false,.slice none 0 0]) (by simp[results,yN,go_sem,S,N,X]) rfl ?_;exact⟨jk,_,_,_,b,_,rfl,ga.text false (by simp[ByteArray.size]),u,x,hk,fun h=>absurd h (show¬(5:Int)=0 by decide)⟩
 rw[zh (by rw[I];simp),zh (by omega)];rw[hE,G6,c]at R;have aJ:=nO I;rw[xO,zS,aa];by_cases wW:s.size<b+j+Nm
 ·rw[zi (by omega)];have p:=za (E.out.less (M-n-1));generalize pU:W3.setCell ⟨gl,0,none⟩ (.int .i64 (M-n-1))=l at*;clear J z F G;obtain⟨L,p1,p2,p3,H,p5⟩:=eV (show af l w.heap.size 240 #[_,_,_,_,_,_]from p.out.rdg);obtain⟨J,z,F,G,_⟩:=aN p.out.ty;unfold il;clear hS;go_enter y8,yT
  go_wp2_with fail
  have U:bj l.drew:=Ar.out l p.out;refine aB 9 (fun V=>V.cell? ⟨w.heap.size,0,none⟩=some (.func (.func 113) #[.pointer (some ⟨g,0,none⟩)] #[])/\V.cell? ⟨w.heap.size,4,none⟩=some (.func (.func 181) #[] #[.pointer (some ⟨i,0,none⟩)])/\V.cell? ⟨w.heap.size+1,1,none⟩=some (.int .i64 d)) (by kernel_rfl) (by kernel_rfl) ?_;have hHeld:(fun V:World=>V.cell? ⟨w.heap.size,0,none⟩=some (.func (.func 113) #[.pointer (some ⟨g,0,none⟩)] #[])/\V.cell? ⟨w.heap.size,4,none⟩=some (.func (.func 181) #[] #[.pointer (some ⟨i,0,none⟩)])/\V.cell? ⟨w.heap.size+1,1,none⟩=some (.int .i64 d)) l.drew:=⟨L,H,z⟩
  refine GT.jr [0,1,2,3,4,5] hHeld (fun _ _ _ _ _ h=>h) (by kernel_rfl) ?_;refine .c (v:= .pointer (some ⟨w.heap.size,0,none⟩)) rfl rfl (fun V k=>by go_simp<;>with_reducible rfl) ?_;try simp only[Act.put,zb,zd,ze];refine .c (v:= .func (.func 113) #[.pointer (some ⟨g,0,none⟩)] #[]) rfl rfl (fun V k=>by go_simp<;>with_reducible rfl) ?_;try simp only[Act.put,zb,zd,ze];refine .c (v:= .pointer (some ⟨w.heap.size,4,none⟩)) rfl rfl (fun V k=>by go_simp<;>with_reducible rfl) ?_;try simp only[Act.put,zb,zd,ze];refine .c (v:= .func (.func 181) #[] #[.pointer (some ⟨i,0,none⟩)]) rfl rfl (fun V k=>by go_simp<;>with_reducible rfl) ?_;try simp only[Act.put,zb,zd,ze];refine .c (v:= .pointer (some ⟨w.heap.size+1,1,none⟩)) rfl rfl (fun V k=>by go_simp<;>with_reducible rfl) ?_;try simp only[Act.put,zb,zd,ze];refine .c (v:= .int .i64 d) rfl rfl (fun V k=>by go_simp<;>with_reducible rfl) ?_;try simp only[Act.put,zb,zd,ze];refine .nil ?_;refine GT.fF 6 (fun K c=> ?_) rfl (by kernel_rfl);go_simp;refine(R.out l.drew p.out.st.drew U).mono ?_;rintro e D ⟨rfl,q,o⟩;have m:=za ((p.out.below (zl _ _).drew).dJ o q.rdr);have O:(fun V:World=>V.cell? ⟨w.heap.size,0,none⟩=some (.func (.func 113) #[.pointer (some ⟨g,0,none⟩)] #[])/\V.cell? ⟨w.heap.size,4,none⟩=some (.func (.func 181) #[] #[.pointer (some ⟨i,0,none⟩)])/\V.cell? ⟨w.heap.size+1,1,none⟩=some (.int .i64 d)) D:=⟨m.out.rdg.cell 0,m.out.rdg.cell 4,m.out.ty.cell 1⟩
  clear q o;go_wp2_with fail
  refine c.out _ _ O (fun hHeld=> ?_);clear c K;try simp only[Act.put,zb,zd,ze]
  refine GT.fF 7 (fun K c=> ?_) rfl (by kernel_rfl);go_simp;refine(gb g s (b+j) Nm D m.out.st.rdr (by omega) (by omega) wW (by omega)).mono ?_;rintro e B ⟨rfl,q,o⟩;have y:=za (m.out.dJ o q);have Y:(fun V:World=>V.cell? ⟨w.heap.size,0,none⟩=some (.func (.func 113) #[.pointer (some ⟨g,0,none⟩)] #[])/\V.cell? ⟨w.heap.size,4,none⟩=some (.func (.func 181) #[] #[.pointer (some ⟨i,0,none⟩)])/\V.cell? ⟨w.heap.size+1,1,none⟩=some (.int .i64 d)) B:=⟨y.out.rdg.cell 0,y.out.rdg.cell 4,y.out.ty.cell 1⟩
  clear q o;go_wp2_with fail
  refine c.out _ _ Y (fun hHeld=> ?_);clear c K;try simp only[Act.put,zb,zd,ze]
  refine GT.fF 8 (fun K c=> ?_) rfl (by kernel_rfl);go_simp;refine(pf ⟨#[]⟩ B).mono ?_;rintro e w3 ⟨rfl,C⟩;have r:=za (y.out.below C);have ab:(fun V:World=>V.cell? ⟨w.heap.size,0,none⟩=some (.func (.func 113) #[.pointer (some ⟨g,0,none⟩)] #[])/\V.cell? ⟨w.heap.size,4,none⟩=some (.func (.func 181) #[] #[.pointer (some ⟨i,0,none⟩)])/\V.cell? ⟨w.heap.size+1,1,none⟩=some (.int .i64 d)) w3:=⟨r.out.rdg.cell 0,r.out.rdg.cell 4,r.out.ty.cell 1⟩
  clear C;go_wp2_with fail
  refine c.out _ _ ab (fun hHeld=> ?_);clear c K;try simp only[Act.put,zb,zd,ze]
  obtain⟨n0,n1,n2,m0,m1,m2⟩:=gS r.out.res;obtain⟨u,x,S,N,X⟩:=r.out.ends (.string ⟨#[]⟩) (.bool false) (.slice none 0 0);have W:=za u;have Z:=za x;clear u x;refine GT.oL 9 ?_ rfl (by kernel_rfl);go_simp;go_wp2;have u:=W.out;have x:=Z.out;refine zk (v:= .agg #[.string ⟨#[]⟩,.bool false,.slice none 0 0]) (by simp[results,yN,go_sem,S,N,X]) rfl ?_;exact⟨jk,_,_,_,b+j,_,rfl,ga.text false (by simp[ByteArray.size]),u,x,by omega,fun h=>absurd h (show¬(2:Int)=0 by decide)⟩
 rw[zh (by omega)];have hX:=wg s (b+j) Nm;have Bc:(s.extract (b+j) (b+j+Nm)).size=Nm:=by rw[aq s (b+j) (b+j+Nm) (by omega)];omega
 have HX:Hid ((⟨((s.data.toList.drop (b+j)).take Nm).toArray⟩:ByteArray)=s.extract (b+j) (b+j+Nm)):=za (aF (by rw[hX]));rw[HX.out];have UQ:Hid ((s.extract (b+j) (b+j+Nm)).size<=9223372036854775807):=za (by omega);have RU:Hid ((s.data.toList.drop (b+j)).drop Nm=s.data.toList.drop (b+j+Nm)):=za (by rw[xO]);clear hX Bc;have p:=za (E.out.less (M-n-1));generalize pU:W3.setCell ⟨gl,0,none⟩ (.int .i64 (M-n-1))=l at*;clear J z F G;obtain⟨L,p1,p2,p3,H,p5⟩:=eV (show af l w.heap.size 240 #[_,_,_,_,_,_]from p.out.rdg);obtain⟨J,z,F,G,_⟩:=aN p.out.ty;unfold il;clear hS;go_enter y8,yT
 go_wp2_with fail
 have U:bj l.drew:=Ar.out l p.out;refine aB 9 (fun V=>V.cell? ⟨w.heap.size,0,none⟩=some (.func (.func 113) #[.pointer (some ⟨g,0,none⟩)] #[])/\V.cell? ⟨w.heap.size,4,none⟩=some (.func (.func 181) #[] #[.pointer (some ⟨i,0,none⟩)])/\V.cell? ⟨w.heap.size+1,1,none⟩=some (.int .i64 d)) (by kernel_rfl) (by kernel_rfl) ?_;have hHeld:(fun V:World=>V.cell? ⟨w.heap.size,0,none⟩=some (.func (.func 113) #[.pointer (some ⟨g,0,none⟩)] #[])/\V.cell? ⟨w.heap.size,4,none⟩=some (.func (.func 181) #[] #[.pointer (some ⟨i,0,none⟩)])/\V.cell? ⟨w.heap.size+1,1,none⟩=some (.int .i64 d)) l.drew:=⟨L,H,z⟩
 refine GT.jr [0,1,2,3,4,5] hHeld (fun _ _ _ _ _ h=>h) (by kernel_rfl) ?_;refine .c (v:= .pointer (some ⟨w.heap.size,0,none⟩)) rfl rfl (fun V k=>by go_simp<;>with_reducible rfl) ?_;try simp only[Act.put,zb,zd,ze];refine .c (v:= .func (.func 113) #[.pointer (some ⟨g,0,none⟩)] #[]) rfl rfl (fun V k=>by go_simp<;>with_reducible rfl) ?_;try simp only[Act.put,zb,zd,ze];refine .c (v:= .pointer (some ⟨w.heap.size,4,none⟩)) rfl rfl (fun V k=>by go_simp<;>with_reducible rfl) ?_;try simp only[Act.put,zb,zd,ze];refine .c (v:= .func (.func 181) #[] #[.pointer (some ⟨i,0,none⟩)]) rfl rfl (fun V k=>by go_simp<;>with_reducible rfl) ?_;try simp only[Act.put,zb,zd,ze];refine .c (v:= .pointer (some ⟨w.heap.size+1,1,none⟩)) rfl rfl (fun V k=>by go_simp<;>with_reducible rfl) ?_;try simp only[Act.put,zb,zd,ze];refine .c (v:= .int .i64 d) rfl rfl (fun V k=>by go_simp<;>with_reducible rfl) ?_;try simp only[Act.put,zb,zd,ze];refine .nil ?_;refine GT.fF 6 (fun K c=> ?_) rfl (by kernel_rfl);go_simp;refine(R.out l.drew p.out.st.drew U).mono ?_;rintro e D ⟨rfl,q,o⟩;have m:=za ((p.out.below (zl _ _).drew).dJ o q.rdr);have O:(fun V:World=>V.cell? ⟨w.heap.size,0,none⟩=some (.func (.func 113) #[.pointer (some ⟨g,0,none⟩)] #[])/\V.cell? ⟨w.heap.size,4,none⟩=some (.func (.func 181) #[] #[.pointer (some ⟨i,0,none⟩)])/\V.cell? ⟨w.heap.size+1,1,none⟩=some (.int .i64 d)) D:=⟨m.out.rdg.cell 0,m.out.rdg.cell 4,m.out.ty.cell 1⟩
 clear q o;go_wp2_with fail
 refine c.out _ _ O (fun hHeld=> ?_);clear c K;try simp only[Act.put,zb,zd,ze]
 refine GT.fF 7 (fun K c=> ?_) rfl (by kernel_rfl);go_simp;refine(eK g s (b+j) Nm D m.out.st.rdr (by omega) (by omega)).mono ?_;rintro e B ⟨rfl,q,o⟩;have y:=za (m.out.dJ o q);have Y:(fun V:World=>V.cell? ⟨w.heap.size,0,none⟩=some (.func (.func 113) #[.pointer (some ⟨g,0,none⟩)] #[])/\V.cell? ⟨w.heap.size,4,none⟩=some (.func (.func 181) #[] #[.pointer (some ⟨i,0,none⟩)])/\V.cell? ⟨w.heap.size+1,1,none⟩=some (.int .i64 d)) B:=⟨y.out.rdg.cell 0,y.out.rdg.cell 4,y.out.ty.cell 1⟩
 clear q o;go_wp2_with fail
 refine c.out _ _ Y (fun hHeld=> ?_);clear c K;try simp only[Act.put,zb,zd,ze]
 refine GT.fF 8 (fun K c=> ?_) rfl (by kernel_rfl);go_simp;refine(pf (s.extract (b+j) (b+j+Nm)) B).mono ?_;rintro e w3 ⟨rfl,C⟩;have r:=za (y.out.below C);have ab:(fun V:World=>V.cell? ⟨w.heap.size,0,none⟩=some (.func (.func 113) #[.pointer (some ⟨g,0,none⟩)] #[])/\V.cell? ⟨w.heap.size,4,none⟩=some (.func (.func 181) #[] #[.pointer (some ⟨i,0,none⟩)])/\V.cell? ⟨w.heap.size+1,1,none⟩=some (.int .i64 d)) w3:=⟨r.out.rdg.cell 0,r.out.rdg.cell 4,r.out.ty.cell 1⟩
 clear C;go_wp2_with fail
 refine c.out _ _ ab (fun hHeld=> ?_);clear c K;try simp only[Act.put,zb,zd,ze]
 obtain⟨n0,n1,n2,m0,m1,m2⟩:=gS r.out.res;obtain⟨u,x,S,N,X⟩:=r.out.ends (.string (s.extract (b+j) (b+j+Nm))) (.bool false) (.slice none 0 0);have W:=za u;have Z:=za x;clear u x;refine GT.oL 9 ?_ rfl (by kernel_rfl);go_simp;go_wp2;have u:=W.out;have x:=Z.out;refine zk (v:= .agg #[.string (s.extract (b+j) (b+j+Nm)),.bool false,.slice none 0 0]) (by simp[results,yN,go_sem,S,N,X]) rfl ?_;exact⟨.mk (s.extract (b+j) (b+j+Nm)) false [],_,_,_,b+j+Nm,_,rfl,ga.text false UQ.out,u,x,by omega,fun _=>⟨rfl,RU.out,by simp only;omega⟩⟩
def lf.pre (acc:List It)(R:lf):lf:=⟨R.e,acc++R.xs,R.n,R.q⟩
theorem lf.QO (acc:List It)(x:It)(R:lf):(R.cons x).pre acc=R.pre (acc++ [x]):=by simp[lf.pre,lf.cons]
structure Uc (M:Int)(c:Nat)(s:ByteArray)(T:Nat->Ty)(th:Nat->Nat->Bool)(rest:Nat->Nat->List UInt8->lf):Prop where
 done:∀i n r,c<=i->rest i n r=⟨0,[],n,r⟩
 lack:∀i n k,i<c->k<=s.size->th i k=false->rest i n (s.data.toList.drop k)=⟨0,[],n,s.data.toList.drop k⟩
 next:∀i n k,i<c->k<=s.size->th i k=true->rest i n (s.data.toList.drop k)=if((T i).rd M n (s.data.toList.drop k)).e≠0 then⟨((T i).rd M n (s.data.toList.drop k)).e,[((T i).rd M n (s.data.toList.drop k)).x],((T i).rd M n (s.data.toList.drop k)).n,((T i).rd M n (s.data.toList.drop k)).q⟩else(rest (i+1) ((T i).rd M n (s.data.toList.drop k)).n ((T i).rd M n (s.data.toList.drop k)).q).cons ((T i).rd M n (s.data.toList.drop k)).x
theorem Uc.SW (M:Int)(c:Nat)(s:ByteArray)(a:Ty):Uc M c s (fun _=>a) (fun _ _=>true) (fun i n r=>tF (fun n r=>a.rd M n r) (c-i) n r) where
 done i n r h:=by rw[show c-i=0 from by omega,tF]
 lack i n k _ _ h:=by cases h
 next i n k h _ _:=by rw[show c-i=(c-(i+1))+1 from by omega,tF]
theorem Uc.ofT (M:Int)(s:ByteArray)(l:List Ty)(c:Int)(p:0<=c):Uc M l.length s (fun i=>l[i]?.getD (.mk 0 0 [] 0)) (fun i k=>decide ((i:Int)<(l.length:Int)-c)||decide (k<s.size)) (fun i n r=>nV M (l.drop i) (((l.length:Int)-c).toNat-i) n r) where
 done i n r h:=by rw[zI h,nV]
 lack i n k h m b:=by
  rw[y9 h,nV];simp only[ZC,yX]at b;rw[zi ⟨by omega,zI (by rw[aa];omega)⟩]
 next i n k h m b:=by
  rw[y9 h,nV];simp only[Bool.or_eq_true,zY]at b;have j:k<s.size->s.data.toList.drop k≠ []:=fun q e=>by
   have:=xu List.length e;rw[zS,aa]at this;simp at this;omega
  rw[zh (by
   rintro⟨o,d⟩;rcases b with b|b
   ·omega
   exact j b d)]
  simp only[zx h,Option.getD_some,Nat.sub_sub]
structure F4 (w:World)(g gl fb:Nat)(s:ByteArray)(k:Nat)(f m:Int)(acc:List It)(v:Value)(V:World):Prop where
 rdg:af V w.heap.size 240 (j7 g gl fb)
 res:af V (w.heap.size+1) 28 #[.string ⟨#[]⟩,.bool false,.slice none 0 0]
 xb:af V (w.heap.size+1+1) 28 #[.string ⟨#[]⟩,.bool true,v]
 its:Acc V (w.heap.size+3) acc v
 st:jz V g gl fb s k f m
 only:ae [g,gl] w V
 siz:w.heap.size+3<=V.heap.size
 glt:g<w.heap.size/\gl<w.heap.size
 fbl:fb<w.heap.size
theorem F4.start {gl b:Nat}(h:jz w g gl b s k f m):F4 w g gl b s k f m [] (.slice none 0 0) (((w.alloc (.cells (j7 g gl b) 240)).alloc (.cells #[.string ⟨#[]⟩,.bool false,.slice none 0 0] 28)).alloc (.cells #[.string ⟨#[]⟩,.bool true,.slice none 0 0] 28)) where
 rdg:=((af.new w _ _).alloc _).alloc _
 res:=af.alloc (af.at_ (by simp)) _
 xb:=af.at_ (by simp)
 its:=Acc.nil _ _
 st:=h.below ((((zl _ w).alloc (zg _) _).alloc (by simp) _).alloc (by simp;omega) _)
 only:=(((ae.refl _ w).alloc _).alloc _).alloc _
 siz:=by simp
 glt:=⟨h.rdr.lt,h.left.lt⟩
 fbl:=h.box.lt
theorem F4.below {gl c:Nat}(h:F4 w g gl c s k f m acc v V)(b:Below V.heap.size V V'):F4 w g gl c s k f m acc v V' where
 rdg:=(b.block _ h.rdg.lt).trans h.rdg
 res:=(b.block _ h.res.lt).trans h.res
 xb:=(b.block _ h.xb.lt).trans h.xb
 its:=h.its.below b
 st:=h.st.below b
 only:=h.only.trans ((ae.ah b (zg _)).mono (by simp))
 siz:=zK h.siz b.size
 glt:=h.glt
 fbl:=h.fbl
theorem F4.dJ {gl c:Nat}(h:F4 w g gl c s k f m acc v V)(b:ae [g,gl] V V')(j:jz V' g gl c s d i e):F4 w g gl c s d i e acc v V' where
 rdg:=h.rdg.only b (by have:=h.glt;simp;omega)
 res:=h.res.only b (by have:=h.glt;simp;omega)
 xb:=h.xb.only b (by have:=h.glt;simp;omega)
 its:=h.its.only b (by have:=h.glt;simp;omega)
 st:=j
 only:=h.only.trans b
 siz:=zK h.siz b.size
 glt:=h.glt
 fbl:=h.fbl
theorem F4.more {gl i:Nat}{d:List It}{c:Value}(h:F4 w g gl i s k f m acc v V)(b:V.grownBy V' v.ownBlock)(n:Acc V' (w.heap.size+3) d c):F4 w g gl i s k f m d c (V'.setCell ⟨w.heap.size+1+1,2,none⟩ c) where
 rdg:=(h.rdg.grown b (fun e=>by have:=(h.its.ge _ e).1;omega)).dS (p:=⟨w.heap.size+1+1,2,none⟩) (by simp;omega) _
 res:=(h.res.grown b (fun e=>by have:=(h.its.ge _ e).1;omega)).dS (p:=⟨w.heap.size+1+1,2,none⟩) (by simp) _
 xb:=(h.xb.grown b (fun e=>by have:=(h.its.ge _ e).1;omega)).set 2 c
 its:=n.only (L:= [w.heap.size+1+1]) ((ae.refl _ _).setCell (by simp) _) (by simp)
 st:=⟨af.dS (show af V' g _ _ from af.grown h.st.rdr b (fun e=>by have:=(h.its.ge _ e).1;have:=h.glt;omega)) (p:=⟨w.heap.size+1+1,2,none⟩) (by have:=h.glt;simp;omega) _,
  (h.st.left.grown b (fun e=>by have:=(h.its.ge _ e).1;have:=h.glt;omega)).dS (p:=⟨w.heap.size+1+1,2,none⟩) (by have:=h.glt;simp;omega) _,
  (h.st.box.grown b (fun e=>by have:=(h.its.ge _ e).1;have:=h.fbl;omega)).dS (p:=⟨w.heap.size+1+1,2,none⟩) (by have:=h.fbl;simp;omega) _⟩
 only:=(h.only.grown b (fun j l=> .inr (by have:=(h.its.ge _ l).1;omega))).setCell (by simp;omega) _
 siz:=by have:=h.siz;have:=b.size;simp[World.setCell];omega
 glt:=h.glt
 fbl:=h.fbl
theorem F4.cells {gl c:Nat}(h:F4 w g gl c s k f m acc v V)(b:V.grownBy V' v.ownBlock):af V' w.heap.size 240 (j7 g gl c)/\af V' (w.heap.size+1+1) 28 #[.string ⟨#[]⟩,.bool true,v]:=
 ⟨h.rdg.grown b (fun e=>by have:=(h.its.ge _ e).1;omega),h.xb.grown b (fun e=>by have:=(h.its.ge _ e).1;omega)⟩
theorem F4.ends {gl:Nat}(h:F4 w g gl d s k f m acc v V)(b c:Value):
 jz (((V.setCell ⟨w.heap.size+1,0,none⟩ b).setCell ⟨w.heap.size+1,1,none⟩ c).setCell ⟨w.heap.size+1,2,none⟩ v) g gl d s k f m/\ae [g,gl] w (((V.setCell ⟨w.heap.size+1,0,none⟩ b).setCell ⟨w.heap.size+1,1,none⟩ c).setCell ⟨w.heap.size+1,2,none⟩ v)/\
 (V.setCell ⟨w.heap.size+1,0,none⟩ b).cell? ⟨w.heap.size+1,0,none⟩=some b/\((V.setCell ⟨w.heap.size+1,0,none⟩ b).setCell ⟨w.heap.size+1,1,none⟩ c).cell? ⟨w.heap.size+1,1,none⟩=some c/\(((V.setCell ⟨w.heap.size+1,0,none⟩ b).setCell ⟨w.heap.size+1,1,none⟩ c).setCell ⟨w.heap.size+1,2,none⟩ v).cell? ⟨w.heap.size+1,2,none⟩=some v/\
 Acc (((V.setCell ⟨w.heap.size+1,0,none⟩ b).setCell ⟨w.heap.size+1,1,none⟩ c).setCell ⟨w.heap.size+1,2,none⟩ v) (w.heap.size+3) acc v:=
 ⟨h.st.lz h.res b c v,((h.only.setCell (by simp) _).setCell (by simp) _).setCell (by simp) _,by have:=(h.res.set 0 b).cell 0;simpa using this,by have:=((h.res.set 0 b).set 1 c).cell 1;simpa using this,by have:=(((h.res.set 0 b).set 1 c).set 2 v).cell 2;simpa using this,
  h.its.only (L:= [w.heap.size+1]) ((((ae.refl _ V).setCell (by simp) _).setCell (by simp) _).setCell (by simp) _) (by simp)⟩
theorem qL (F:Nat)(cs:Array Value)(A:Value->Array Value)(hF:(F=220/\∃bt:Nat,cs= #[.pointer (some ⟨bt,0,none⟩)]/\A=fun v=> #[v,.pointer (some ⟨bt,0,none⟩)])\/F=221/\∃bt br:Nat,cs= #[.pointer (some ⟨bt,0,none⟩),.pointer (some ⟨br,0,none⟩)]/\A=fun v=> #[v,.pointer (some ⟨bt,0,none⟩),.pointer (some ⟨br,0,none⟩)])(c:Nat)(T:Nat->Ty)(th:Nat->Nat->Bool)(rest:Nat->Nat->List UInt8->lf)(D:Nat->Option Addr)(dn G:Nat->Nat)(w:World)(g gl B:Nat)(s:ByteArray)(k:Nat)(f m M:Int)(n0:Nat)(hS:jz w g gl B s k f m)(hk:k<=s.size)(hs:s.size<=1099511627776)(hc:c<=1024)(E:Int)(R:lf)(HR:Uc M c s T th rest)
 (ah:f=0->m=M-n0/\R=rest 0 n0 (s.data.toList.drop k)/\E=R.e) (aq:f≠0->E=f)
 (U:Hid (∀i,i<c->∀V I f' m',ae [g,gl] w V->jz V g gl B s I f' m'->I<=s.size->Calls prog F (A (.int .i64 i)) V fun e w'=>e= .returned (.tuple #[.agg #[.int .i64 (T i).kind,.int .i64 (T i).size,.slice (D i) (dn i) (G i),.int .i64 (T i).tail],.bool (th i I)])/\Below V.heap.size V w'))
 (HV:Hid (∀i,i<c->∀V I (n':Nat),ae [g,gl] w V->jz V g gl B s I 0 (M-n')->I<=s.size->Calls prog 183 #[il g gl B,.agg #[.int .i64 (T i).kind,.int .i64 (T i).size,.slice (D i) (dn i) (G i),.int .i64 (T i).tail]] V fun e w'=>gR V g gl B s M ((T i).rd M n' (s.data.toList.drop I)) e w')):
 Calls prog 219 #[il g gl B,.int .i64 c,.func (.func F) #[] cs] w fun e w'=>gR w g gl B s M ⟨E,.mk ⟨#[]⟩ true R.xs,R.n,R.q⟩ e w':=by
 have cG:=za (F4.start hS);have ag:=za HR;have H0:Hid ((f=0->∃z:Nat,m=M-z/\R=(rest 0 z (s.data.toList.drop k)).pre []/\E=R.e)/\(f≠0->E=f)):=za ⟨fun h=>by obtain⟨n,p,C⟩:=ah h;exact⟨n0,n,by rw[p];rfl,C⟩,aq⟩;clear hS ah aq HR;unfold j7 at cG;unfold il;unfold il at HV;have U:=U.out;rcases hF with⟨rfl,bt,rfl,rfl⟩|⟨rfl,bt,br,rfl,rfl⟩;all_goals
  dsimp only at U;have U:=za U;go_enter func219,ntmps219
  go_wp2_with fail
  go_loopw [13] (fun i wr=>∃(j r:Nat) (F H:Int) (acc:List It) (v:Value),j<=c/\i= .int .i64 j/\Hid (F4 w g gl B s r F H acc v wr)/\r<=s.size/\acc.length<=j/\Hid ((F=0->∃z:Nat,H=M-z/\R=(rest j z (s.data.toList.drop r)).pre acc/\E=R.e)/\(F≠0->E=F))) (fun i _=>c-(intOf i).toNat)
  case atStart=>exact⟨0,k,f,m,[],_,by omega,rfl,cG,hk,by simp,H0⟩
  case round=>
   obtain⟨j,r,F,H,acc,v,hj,rfl,d,Y,lG,HI⟩:=hrel;obtain⟨Z,S,O,rfl,aA,av,aw⟩:=d.out.its.cH;by_cases aC:j<c
   ·have OW:=za (U.out j aC wr r F H d.out.only d.out.st Y);have ak:=za (HV.out j aC);obtain⟨b,y⟩:∃b,th j r=b:=⟨_,rfl⟩
    have HB:=za y;rw[y]at OW;obtain⟨L,ao⟩:∃u,dn j=u:=⟨_,rfl⟩
    rw[ao]at OW ak;clear y U HV ao;by_cases G8:b=true/\F=0
    ·obtain⟨rfl,rfl⟩:=G8;go_wp2_with fail
     refine OW.out.mono ?_;rintro e l ⟨rfl,y⟩;have x:=za (d.out.below y);obtain⟨r0,r1,r2,r3,r4,r5⟩:=eV (show af l w.heap.size 240 #[_,_,_,_,_,_]from x.out.rdg);have cc:=x.out.siz;have an:w.heap.size<l.heap.size:=by omega
     have d:=za (x.out.below ((zl _ l).alloc (zg _) (.cells #[.int .i64 (T j).kind,.int .i64 (T j).size,.slice (D j) L (G j),.int .i64 (T j).tail] 43)));clear y;go_wp2_with fail
     refine(bu g s r 0 _ (x.out.st.rdr.alloc _)).mono ?_;rintro e w' ⟨rfl,rfl⟩;have HT:=za (af.new l 43 #[.int .i64 (T j).kind,.int .i64 (T j).size,.slice (D j) L (G j),.int .i64 (T j).tail]);generalize mL:l.alloc (.cells #[.int .i64 (T j).kind,.int .i64 (T j).size,.slice (D j) L (G j),.int .i64 (T j).tail] 43)=W2 at*;obtain⟨z,rfl,hR,hE⟩:=HI.out.1 (by simp);have L5:=za (And.intro hR hE);have pH:=d.out.glt;have HG:Hid (l.heap.size∉ [g,gl]):=za (by simp;omega)
     have RW:Hid (∀V,af V w.heap.size 240 (j7 g gl B)/\af V (w.heap.size+1+1) 28 #[.string ⟨#[]⟩,.bool true,.slice Z S O]->af V l.heap.size 43 #[.int .i64 (T j).kind,.int .i64 (T j).size,.slice (D j) L (G j),.int .i64 (T j).tail]->V.cell? ⟨w.heap.size,0,none⟩=some (.func (.func 113) #[.pointer (some ⟨g,0,none⟩)] #[])/\V.cell? ⟨w.heap.size,1,none⟩=some (.func (.func 140) #[.pointer (some ⟨g,0,none⟩)] #[])/\V.cell? ⟨w.heap.size,2,none⟩=some (.func (.func 114) #[.pointer (some ⟨g,0,none⟩)] #[])/\V.cell? ⟨w.heap.size,3,none⟩=some (.func (.func 138) #[.pointer (some ⟨g,0,none⟩)] #[])/\V.cell? ⟨w.heap.size,4,none⟩=some (.func (.func 181) #[] #[.pointer (some ⟨B,0,none⟩)])/\V.cell? ⟨w.heap.size,5,none⟩=some (.pointer (some ⟨gl,0,none⟩))/\V.cell? ⟨l.heap.size,0,none⟩=some (.int .i64 (T j).kind)/\V.cell? ⟨l.heap.size,1,none⟩=some (.int .i64 (T j).size)/\V.cell? ⟨l.heap.size,2,none⟩=some (.slice (D j) L (G j))/\V.cell? ⟨l.heap.size,3,none⟩=some (.int .i64 (T j).tail)/\V.cell? ⟨w.heap.size+1+1,2,none⟩=some (.slice Z S O)/\V.frozen? ⟨w.heap.size+1+1,2,none⟩=false):=za (fun V n p=>⟨n.1.cell 0,n.1.cell 1,n.1.cell 2,n.1.cell 3,n.1.cell 4,n.1.cell 5,p.cell 0,p.cell 1,p.cell 2,p.cell 3,n.2.cell 2,n.2.frozen 2⟩);have al:=za (ak.out W2.drew r z d.out.only.drew (show jz W2.drew g gl B s r 0 (M-z)from d.out.st.drew) Y);have uA:=za (ag.out.next j z r aC Y HB.out);obtain⟨Rj,ai⟩:∃Rj,(T j).rd M z (s.data.toList.drop r)=Rj:=⟨_,rfl⟩
     rw[ai]at al uA;clear hR hE pH ai cc r0 r1 r2 r3 r4 r5;go_wp2_with fail
     refine aB 8 (fun V=>V.cell? ⟨w.heap.size,0,none⟩=some (.func (.func 113) #[.pointer (some ⟨g,0,none⟩)] #[])/\V.cell? ⟨w.heap.size,1,none⟩=some (.func (.func 140) #[.pointer (some ⟨g,0,none⟩)] #[])/\V.cell? ⟨w.heap.size,2,none⟩=some (.func (.func 114) #[.pointer (some ⟨g,0,none⟩)] #[])/\V.cell? ⟨w.heap.size,3,none⟩=some (.func (.func 138) #[.pointer (some ⟨g,0,none⟩)] #[])/\V.cell? ⟨w.heap.size,4,none⟩=some (.func (.func 181) #[] #[.pointer (some ⟨B,0,none⟩)])/\V.cell? ⟨w.heap.size,5,none⟩=some (.pointer (some ⟨gl,0,none⟩))/\V.cell? ⟨l.heap.size,0,none⟩=some (.int .i64 (T j).kind)/\V.cell? ⟨l.heap.size,1,none⟩=some (.int .i64 (T j).size)/\V.cell? ⟨l.heap.size,2,none⟩=some (.slice (D j) L (G j))/\V.cell? ⟨l.heap.size,3,none⟩=some (.int .i64 (T j).tail)/\V.cell? ⟨w.heap.size+1+1,2,none⟩=some (.slice Z S O)/\V.frozen? ⟨w.heap.size+1+1,2,none⟩=false) (by kernel_rfl) (by kernel_rfl) ?_;have hHeld:=RW.out W2.drew ⟨d.out.rdg.drew,d.out.xb.drew⟩ HT.out.drew;refine GT.jr [0,1,2,3] hHeld (fun _ _ _ _ _ h=>h) (by kernel_rfl) ?_;repeat(refine .c rfl rfl (fun V hV=>by go_simp<;>with_reducible rfl) ?_;simp only[Act.put,zb,zd,ze])
     refine .nil ?_;refine GT.fF 4 (fun ab J=> ?_) rfl (by kernel_rfl);go_simp;refine al.out.mono ?_;rintro e w3 ⟨X,c0,c1,c2,I,m',rfl,hX,tz,ho,wT,iQ⟩;have W:=za ((d.out.below (zl _ W2).drew).dJ ho tz);have ad:=za (HT.out.drew.only ho HG.out);have UR:=za iQ;have HX:=za hX;obtain⟨ax,bx,rfl,rfl,rfl,_⟩:=hX.open_;clear hX tz ho iQ;go_wp2_with fail
     refine J.out _ _ (RW.out w3 ⟨W.out.rdg,W.out.xb⟩ ad.out) (fun hHeld=> ?_);clear J ab;try simp only[Act.put,zb,zd,ze]
     refine GT.fF 5 (fun ab J=> ?_) rfl (by kernel_rfl);go_simp;refine J.out _ _ (RW.out _ ⟨W.out.rdg.alloc _,W.out.xb.alloc _⟩ (ad.out.alloc _)) (fun hHeld=> ?_);clear J ab;try simp only[Act.put,zb,zd,ze]
     refine GT.fF 6 (fun ab J=> ?_) rfl (by kernel_rfl);have ar:Hid (ga (w3.alloc (.cells #[.string X.text,.bool X.list,.slice ax X.sub.length bx] 28)) (fun q=>w.heap.size+3<=q/\(Value.slice Z S O).ownBlock≠some q) X (.string X.text) (.bool X.list) (.slice ax X.sub.length bx)):=za ((HX.out.below ((zl _ w3).alloc (zg _) _)).gQ (fun q _ hq=>⟨by have:=d.out.siz;simp at hq;omega,fun e=>by have:=(d.out.its.ge _ e).2;simp at hq;omega⟩));have au:acc.length<=1000000:=by omega
     have RX:w.heap.size+3<=(w3.alloc (.cells #[.string X.text,.bool X.list,.slice ax X.sub.length bx] 28)).heap.size:=by have:=W.out.siz;simp;omega
     refine qA (by rfl) (.tmp 31) (.tmp 35) (by rfl) (w.heap.size+3) acc (by rfl) (W.out.its.below ((zl _ w3).alloc (zg _) _)) X ar.out _ (by rfl) (by simp) (by simp) (by simp) au RX ?_;intro g' n' aj w5 OR kE eW az;have Bj:=za (W.out.below ((zl _ w3).alloc (zg _) (.cells #[.string X.text,.bool X.list,.slice ax X.sub.length bx] 28)));have RR:=za ((ad.out.alloc _).grown eW (fun e=>by have:=(x.out.its.ge _ e).2;omega));have rq:=za (Bj.out.more eW kE);refine J.out _ _ (RW.out w5 (Bj.out.cells eW) RR.out) (fun hHeld=> ?_);clear J ab;try simp only[Act.put,zb,zd,ze]
     refine GT.jr [7] hHeld (fun _ _ _ _ _ h=>h) (by kernel_rfl) ?_;refine .c rfl rfl (fun V hV=>by go_simp<;>with_reducible rfl) ?_;simp only[Act.put,zb,zd,ze];refine .nil ?_;refine GT.oL 8 ?_ rfl (by kernel_rfl);obtain⟨z0,z1,z2,z3,z4,z5,z6,z7,z8,z9,aD,ay⟩:=hHeld;clear kE eW;go_simp;all_goals
      go_wp2;go_roundw
      case rel=>
       refine⟨j+1,I,Rj.e,m',acc++ [X],_,by omega,by go_num,rq,wT,by simp;omega,za ⟨fun h0=> ?_,fun h0=> ?_⟩⟩
       ·obtain⟨g1,g2,g3⟩:=UR.out h0;have o:=uA.out;rw[zh (by simp[h0])]at o;refine⟨Rj.n,g3, ?_,L5.out.2⟩;rw[L5.out.1,o,lf.QO,g1,g2]
       have o:=uA.out;rw[zi h0]at o;rw[L5.out.2,L5.out.1,o];rfl
      case measure=>simp[intOf];omega
    have aa:Hid (E=F/\(E=0->R.xs=acc/\R.q=s.data.toList.drop r/\H=M-R.n)):=za (by
     by_cases hF:F=0
     ·obtain⟨z,n,p,C⟩:=HI.out.1 hF;rw[ag.out.lack _ _ _ aC Y (by cases b<;>simp_all[HB.out])]at p;subst p;exact⟨by rw[C,hF];rfl,fun _=>⟨by simp[lf.pre],rfl,n⟩⟩
     exact⟨HI.out.2 hF,fun h=>absurd ((HI.out.2 hF).symm.trans h) hF⟩)
    obtain rfl:F=E:=aa.out.1.symm;cases b with
    |false=>
     go_wp2_with fail
     refine OW.out.mono ?_;rintro e l ⟨rfl,y⟩;have x:=za (d.out.below y);obtain⟨r0,r1,r2,r3,r4,r5⟩:=eV (show af l w.heap.size 240 #[_,_,_,_,_,_]from x.out.rdg);have cc:=x.out.siz;have an:w.heap.size<l.heap.size:=by omega
     have d:=za (x.out.below ((zl _ l).alloc (zg _) (.cells #[.int .i64 (T j).kind,.int .i64 (T j).size,.slice (D j) L (G j),.int .i64 (T j).tail] 43)));clear y;obtain⟨n0,n1,n2,m0,m1,m2⟩:=gS d.out.res;obtain⟨x0,x1,x2,_,_,_⟩:=gS d.out.xb;obtain⟨o,N,y0,y1,y2,K⟩:=d.out.ends (.string ⟨#[]⟩) (.bool true);have E1:=za o;have E2:=za N;have HA:=za (K.list (by omega));clear o N K;go_wp2;have o:=E1.out;refine zk (v:= .agg #[.string ⟨#[]⟩,.bool true,.slice Z S O]) (by simp[results,results219,go_sem,y0,y1,y2]) rfl ?_;refine⟨_,_,_,_,r,H,rfl,HA.out.gQ (fun _ _ h=>by omega),o,E2.out,Y,fun h=> ?_⟩;obtain⟨n,p,C⟩:=aa.out.2 h;exact⟨by rw[n],p,C⟩
    |true=>
     have hF:(F !=0)=true:=yO.2 (fun h=>G8 ⟨rfl,h⟩);go_wp2_with fail
     refine OW.out.mono ?_;rintro e l ⟨rfl,y⟩;have x:=za (d.out.below y);obtain⟨r0,r1,r2,r3,r4,r5⟩:=eV (show af l w.heap.size 240 #[_,_,_,_,_,_]from x.out.rdg);have cc:=x.out.siz;have an:w.heap.size<l.heap.size:=by omega
     have d:=za (x.out.below ((zl _ l).alloc (zg _) (.cells #[.int .i64 (T j).kind,.int .i64 (T j).size,.slice (D j) L (G j),.int .i64 (T j).tail] 43)));clear y;go_wp2_with fail
     refine(bu g s r F _ (x.out.st.rdr.alloc _)).mono ?_;rintro e w' ⟨rfl,rfl⟩;obtain⟨n0,n1,n2,m0,m1,m2⟩:=gS d.out.res;obtain⟨x0,x1,x2,_,_,_⟩:=gS d.out.xb;obtain⟨o,N,y0,y1,y2,K⟩:=d.out.ends (.string ⟨#[]⟩) (.bool true);have E1:=za o;have E2:=za N;have HA:=za (K.list (by omega));clear o N K;go_wp2;have o:=E1.out;refine zk (v:= .agg #[.string ⟨#[]⟩,.bool true,.slice Z S O]) (by simp[results,results219,go_sem,y0,y1,y2]) rfl ?_;refine⟨_,_,_,_,r,H,rfl,HA.out.gQ (fun _ _ h=>by omega),o,E2.out,Y,fun h=> ?_⟩;obtain⟨n,p,C⟩:=aa.out.2 h;exact⟨by rw[n],p,C⟩
   have aa:Hid (E=F/\(E=0->R.xs=acc/\R.q=s.data.toList.drop r/\H=M-R.n)):=za (by
    by_cases hF:F=0
    ·obtain⟨z,n,p,C⟩:=HI.out.1 hF;rw[ag.out.done _ _ _ (by omega)]at p;subst p;exact⟨by rw[C,hF];rfl,fun _=>⟨by simp[lf.pre],rfl,n⟩⟩
    exact⟨HI.out.2 hF,fun h=>absurd ((HI.out.2 hF).symm.trans h) hF⟩)
   obtain rfl:F=E:=aa.out.1.symm;obtain⟨n0,n1,n2,m0,m1,m2⟩:=gS d.out.res;obtain⟨x0,x1,x2,_,_,_⟩:=gS d.out.xb;obtain⟨o,N,y0,y1,y2,K⟩:=d.out.ends (.string ⟨#[]⟩) (.bool true);have E1:=za o;have E2:=za N;have HA:=za (K.list (by omega));clear o N K;go_wp2;have o:=E1.out;refine zk (v:= .agg #[.string ⟨#[]⟩,.bool true,.slice Z S O]) (by simp[results,results219,go_sem,y0,y1,y2]) rfl ?_;refine⟨_,_,_,_,r,H,rfl,HA.out.gQ (fun _ _ h=>by omega),o,E2.out,Y,fun h=> ?_⟩;obtain⟨n,p,C⟩:=aa.out.2 h;exact⟨by rw[n],p,C⟩
theorem uu.Lj {gl c:Nat}(h:uu w g gl c s k f m tc V)(b:ae [g,gl] V V')(j:jz V' g gl c s d i e):uu w g gl c s d i e tc V' where
 rdg:=h.rdg.only b (by simp[h.rdg.D5 h.st.rdr (by decide),h.rdg.D5 h.st.left (by decide)])
 ty:=h.ty.only b (by simp[h.ty.D5 h.st.rdr (by decide),h.ty.D5 h.st.left (by decide)])
 res:=h.res.only b (by simp[h.res.D5 h.st.rdr (by decide),h.res.D5 h.st.left (by decide)])
 st:=j
 only:=h.only.trans b
 siz:=zK h.siz b.size
theorem ga.lz {b:Nat}{X:It}{c d e:Value}(h:ga w (B<= ·) X c d e)(l:b<B)(i j k:Value):ga (((w.setCell ⟨b,0,none⟩ i).setCell ⟨b,1,none⟩ j).setCell ⟨b,2,none⟩ k) (B<= ·) X c d e:=
 h.only (L:= [b]) ((((ae.refl _ w).setCell (by simp) _).setCell (by simp) _).setCell (by simp) _) (by simp;omega) (fun _ _ h=>h)
theorem Jl (a:Ty)(D:Nat)(B:Nat)(A:Option Addr)(cap:Nat)(w:World)(g gl q:Nat)(s:ByteArray)(c n:Nat)(M:Int)(hS:jz w g gl q s c 0 (M-n))(hk:c<=s.size)(hs:s.size<=1099511627776)(hM:¬M<=n)(Cw:M<=1024)(S7:D<=1024)(hL:bj w)(hg:0<g)(pH:0<gl)
 (hT:ff w B [a] A 0) (hB:B<=w.heap.size) (al:B<=g) (Cm:B<=gl)
 (IH:Hid (∀V c0 c1 c2 c3 c (n:Nat),cC V B a c0 c1 c2 c3->B<=V.heap.size->jz V g gl q s c 0 (M-n)->c<=s.size->bj V->Calls prog 183 #[il g gl q,.agg #[c0,c1,c2,c3]] V fun e w'=>gR V g gl q s M (a.rd M n (s.data.toList.drop c)) e w')):
 Calls prog 183 #[il g gl q,.agg #[.int .i64 4,.int .i64 D,.slice A [a].length cap,.int .i64 0]] w fun e w'=>gR w g gl q s M ((Ty.mk 4 D [a] 0).rd M n (s.data.toList.drop c)) e w':=by
 have aC:=hS.rdr.lt;have kW:=hS.left.lt;have d0:decide (M-(n:Int)<=0)=false:=zu (by omega);rw[CS hM];have R:=za (fun V (hV:jz V g gl q s c 0 (M-n-1)) (hl:bj V)=>Ce g gl q s c D _ V hV hk (by omega) (by omega) hl (by omega));have nO:=fun(h0:(aw (s.data.toList.drop c)).2.2=0)=>(iL (s.data.toList.drop c) (aw (s.data.toList.drop c)).1 (aw (s.data.toList.drop c)).2.1 (by rw[<-h0])).2.1
 rw[zS,aa]at nO;have ah:=nZ (aw (s.data.toList.drop c)) D c;obtain⟨b,o,t0,t1,t2,t3,rfl,cZ,e0,j,k,e3,mJ⟩:=hT.at_ 0 (by simp);simp only[zG,Nat.zero_mul,yU,yR]at e0 j k e3 mJ;obtain⟨dA,dc,rfl,rfl,rfl,rfl,_⟩:=mJ.open_;have ai:=za mJ;have HE:=za (And.intro e0 (And.intro j (And.intro k e3)));have Ou:=za hL;obtain⟨ad,ta,S,ez,et,el⟩:∃(ad ta:Int) (S:List Ty),ad=D/\ta=0/\S= [a]:=⟨_,_,_,rfl,rfl,rfl⟩
 rw[<-et,<-ez];obtain⟨A,hA⟩:∃A,(some (⟨b,o,none⟩:Addr))=A:=⟨_,rfl⟩
 rw[hA];have aj:=za hA;rw[show [a].length=S.length from by rw[el]];clear hA hT mJ e0 j k e3;have G:=za (uu.start (tc:= #[.int .i64 (4),.int .i64 ad,.slice A S.length cap,.int .i64 ta]) hS);generalize oX:(((w.alloc (.cells (j7 g gl q) 240)).alloc (.cells #[.int .i64 (4),.int .i64 ad,.slice A S.length cap,.int .i64 ta] 43)).alloc (.cells #[.string ⟨#[]⟩,.bool false,.slice none 0 0] 28))=W3 at*;unfold j7 at oX;obtain⟨p0,p1,p2,U,O,Y⟩:=eV (show af W3 w.heap.size 240 #[_,_,_,_,_,_]from G.out.rdg);obtain⟨q0,W,L,N,_⟩:=aN G.out.ty;have l0:W3.cell? ⟨gl,0,none⟩=some (.int .i64 (M-n)):=G.out.st.left.cell 0;have l1:=G.out.st.left.frozen 0;subst ez et;have ag:S.length=1:=by rw[el];rfl
 rw[ag]at oX G⊢;clear el ag;have RV:=fun V (h:uu w g gl q s c 0 (M-n-1) #[.int .i64 4,.int .i64 D,.slice A 1 cap,.int .i64 0] V)=>hL.only h.only (by simp;omega)
 have Ar:=za RV;clear RV hL;generalize aw (s.data.toList.drop c)=ak at*;obtain⟨Nm,Z,Ne⟩:=ak;simp only at nO ah⊢;rcases ah with⟨x,hE,G6,hK⟩|⟨x,z,hE,G6,hK⟩|⟨x,z,hE,G6,hK⟩
 ·rw[zi x];rw[hE,G6,hK]at R;have m:=za (G.out.less (M-n-1));generalize pU:W3.setCell ⟨gl,0,none⟩ (.int .i64 (M-n-1))=p at*;clear q0 W L N;obtain⟨p0,p1,p2,U,O,Y⟩:=eV (show af p w.heap.size 240 #[_,_,_,_,_,_]from m.out.rdg);obtain⟨q0,W,L,N,_⟩:=aN m.out.ty;unfold il;clear hS;go_enter y8,yT
  go_wp2_with fail
  have pB:bj p:=Ar.out p m.out;refine(R.out p m.out.st pB).mono ?_;rintro e C ⟨rfl,H,l⟩;have d:=za (m.out.dJ l H.rdr);obtain⟨p0,p1,p2,U,O,Y⟩:=eV (show af C w.heap.size 240 #[_,_,_,_,_,_]from d.out.rdg);clear H l;go_wp2_with fail
  refine(qL _ _ _ (.inl ⟨rfl,w.heap.size+1,rfl,rfl⟩) 0 (fun _=>a) (fun _ _=>true) (fun i n r=>tF (fun n r=>a.rd M n r) (0-i) n r) (fun _=>dA) (fun _=>a.sub.length) (fun _=>dc) C g gl q s c Ne _ M (n+1) d.out.st hk hs (by omega) Ne ⟨0,[],0,[]⟩ (Uc.SW M 0 s a) (fun h=>absurd h x) (fun _=>rfl) (za fun i hi=>by omega) (za fun i hi=>by omega)).mono ?_;rintro e w2 ⟨X,c0,c1,c2,F,m',rfl,u,E,l,J,I⟩;obtain⟨y,bx,rfl,rfl,rfl,_⟩:=u.open_;have K:=za (d.out.Lj l E);have HX:=za (u.lz (b:=w.heap.size+1+1) (by have:=d.out.siz;omega) (.string X.text) (.bool X.list) (.slice y X.sub.length bx));have UR:=za I;clear u E l I;obtain⟨n0,n1,n2,m0,m1,m2⟩:=gS K.out.res;obtain⟨j,k,y0,y1,y2⟩:=K.out.ends (.string X.text) (.bool X.list) (.slice y X.sub.length bx);have E1:=za j;have E2:=za k;clear j k;go_wp2;have j:=E1.out;have k:=E2.out;refine zk (v:= .agg #[.string X.text,.bool X.list,.slice y X.sub.length bx]) (by simp[results,yN,go_sem,y0,y1,y2]) rfl ?_;exact⟨X,_,_,_,F,m',rfl,HX.out.gQ (fun _ _ h=>by have:=d.out.siz;omega),j,k,J,fun h=>absurd h x⟩
 ·rw[zh (by rw[x];simp),zi (by omega)];rw[hE,G6,hK]at R;have m:=za (G.out.less (M-n-1));generalize pU:W3.setCell ⟨gl,0,none⟩ (.int .i64 (M-n-1))=p at*;clear q0 W L N;obtain⟨p0,p1,p2,U,O,Y⟩:=eV (show af p w.heap.size 240 #[_,_,_,_,_,_]from m.out.rdg);obtain⟨q0,W,L,N,_⟩:=aN m.out.ty;unfold il;clear hS;go_enter y8,yT
  go_wp2_with fail
  have pB:bj p:=Ar.out p m.out;refine(R.out p m.out.st pB).mono ?_;rintro e C ⟨rfl,H,l⟩;have d:=za (m.out.dJ l H.rdr);obtain⟨p0,p1,p2,U,O,Y⟩:=eV (show af C w.heap.size 240 #[_,_,_,_,_,_]from d.out.rdg);clear H l;go_wp2_with fail
  refine(qL _ _ _ (.inl ⟨rfl,w.heap.size+1,rfl,rfl⟩) 0 (fun _=>a) (fun _ _=>true) (fun i n r=>tF (fun n r=>a.rd M n r) (0-i) n r) (fun _=>dA) (fun _=>a.sub.length) (fun _=>dc) C g gl q s c 5 _ M (n+1) d.out.st hk hs (by omega) 5 ⟨0,[],0,[]⟩ (Uc.SW M 0 s a) (fun h=>absurd h (by decide)) (fun _=>rfl) (za fun i hi=>by omega) (za fun i hi=>by omega)).mono ?_;rintro e w2 ⟨X,c0,c1,c2,F,m',rfl,u,E,l,J,I⟩;obtain⟨y,bx,rfl,rfl,rfl,_⟩:=u.open_;have K:=za (d.out.Lj l E);have HX:=za (u.lz (b:=w.heap.size+1+1) (by have:=d.out.siz;omega) (.string X.text) (.bool X.list) (.slice y X.sub.length bx));have UR:=za I;clear u E l I;obtain⟨n0,n1,n2,m0,m1,m2⟩:=gS K.out.res;obtain⟨j,k,y0,y1,y2⟩:=K.out.ends (.string X.text) (.bool X.list) (.slice y X.sub.length bx);have E1:=za j;have E2:=za k;clear j k;go_wp2;have j:=E1.out;have k:=E2.out;refine zk (v:= .agg #[.string X.text,.bool X.list,.slice y X.sub.length bx]) (by simp[results,yN,go_sem,y0,y1,y2]) rfl ?_;exact⟨X,_,_,_,F,m',rfl,HX.out.gQ (fun _ _ h=>by have:=d.out.siz;omega),j,k,J,fun h=>absurd h (show¬(5:Int)=0 by decide)⟩
 rw[zh (by rw[x];simp),zh (by omega)];rw[hE,G6,hK]at R;have aJ:=nO x;rw[xO];show Calls _ _ _ _ fun e w'=>gR w g gl q s M ⟨(tF (fun n r=>a.rd M n r) Nm (n+1) (s.data.toList.drop (c+Z))).e,.mk ⟨#[]⟩ true (tF (fun n r=>a.rd M n r) Nm (n+1) (s.data.toList.drop (c+Z))).xs,(tF (fun n r=>a.rd M n r) Nm (n+1) (s.data.toList.drop (c+Z))).n,(tF (fun n r=>a.rd M n r) Nm (n+1) (s.data.toList.drop (c+Z))).q⟩ e w'
 obtain⟨ab,hR⟩:∃ab,tF (fun n r=>a.rd M n r) Nm (n+1) (s.data.toList.drop (c+Z))=ab:=⟨_,rfl⟩
 rw[hR];have Ef:=za hR;clear hR;have m:=za (G.out.less (M-n-1));generalize pU:W3.setCell ⟨gl,0,none⟩ (.int .i64 (M-n-1))=p at*;clear q0 W L N;obtain⟨p0,p1,p2,U,O,Y⟩:=eV (show af p w.heap.size 240 #[_,_,_,_,_,_]from m.out.rdg);obtain⟨q0,W,L,N,_⟩:=aN m.out.ty;unfold il;clear hS;go_enter y8,yT
 go_wp2_with fail
 have pB:bj p:=Ar.out p m.out;refine(R.out p m.out.st pB).mono ?_;rintro e C ⟨rfl,H,l⟩;have d:=za (m.out.dJ l H.rdr);obtain⟨p0,p1,p2,U,O,Y⟩:=eV (show af C w.heap.size 240 #[_,_,_,_,_,_]from d.out.rdg);clear H l;go_wp2_with fail
 have my:af C (w.heap.size+1) 43 #[.int .i64 4,.int .i64 D,.slice (some ⟨b,o,none⟩) 1 cap,.int .i64 0]:=by rw[aj.out];exact d.out.ty
 have gZ:∀V,ae [g,gl] C V->ae [g,gl] w V/\Below B w V:=fun V h=>⟨d.out.only.trans h,(d.out.only.trans h).below hB (by simp;omega)⟩
 refine(qL _ _ _ (.inl ⟨rfl,w.heap.size+1,rfl,rfl⟩) Nm (fun _=>a) (fun _ _=>true) (fun i n r=>tF (fun n r=>a.rd M n r) (Nm-i) n r) (fun _=>dA) (fun _=>a.sub.length) (fun _=>dc) C g gl q s (c+Z) 0 _ M (n+1) d.out.st (by omega) hs (by omega) ab.e ab (Uc.SW M Nm s a) (fun _=>⟨by omega,by rw[<-Ef.out];simp,rfl⟩) (fun h=>absurd rfl h) (za fun i hi V F f' m' S8 hV J=>by
  obtain⟨x,z⟩:=gZ V S8;obtain⟨e0,j,k,e3⟩:=HE.out;exact XF i (w.heap.size+1) b o 1 cap 4 D 0 _ _ _ _ V (my.only S8 (by simp;omega)) (by omega) (by omega) ((z.cell cZ).trans e0) ((z.cell cZ).trans j) ((z.cell cZ).trans k) ((z.cell cZ).trans e3) (by have:=z.size;omega) _ _ _ _ _ _ rfl rfl rfl rfl) (za fun i hi V F n' S8 hV J=>by
  obtain⟨x,z⟩:=gZ V S8;exact IH.out V _ _ _ _ F n' (ai.out.below z) (by have:=z.size;omega) hV J (Ou.out.only x (by simp;omega)))).mono ?_
 rintro e w2 ⟨X,c0,c1,c2,F,m',rfl,u,E,l,J,I⟩;obtain⟨y,bx,rfl,rfl,rfl,_⟩:=u.open_;have K:=za (d.out.Lj l E);have HX:=za (u.lz (b:=w.heap.size+1+1) (by have:=d.out.siz;omega) (.string X.text) (.bool X.list) (.slice y X.sub.length bx));have UR:=za I;clear u E l I;obtain⟨n0,n1,n2,m0,m1,m2⟩:=gS K.out.res;obtain⟨j,k,y0,y1,y2⟩:=K.out.ends (.string X.text) (.bool X.list) (.slice y X.sub.length bx);have E1:=za j;have E2:=za k;clear j k;go_wp2;have j:=E1.out;have k:=E2.out;refine zk (v:= .agg #[.string X.text,.bool X.list,.slice y X.sub.length bx]) (by simp[results,yN,go_sem,y0,y1,y2]) rfl ?_;exact⟨X,_,_,_,F,m',rfl,HX.out.gQ (fun _ _ h=>by have:=d.out.siz;omega),j,k,J,UR.out⟩
theorem NC {A:Option Addr}(h:ff w B l A 0):∃p:Nat->Option Addr×Nat,∀i (hi:i<l.length),∃b o,A=some ⟨b,o,none⟩/\b<B/\w.cell? ⟨b,o+i*4,none⟩=some (.int .i64 (l[i]).kind)/\w.cell? ⟨b,o+i*4+1,none⟩=some (.int .i64 (l[i]).size)/\w.cell? ⟨b,o+i*4+2,none⟩=some (.slice (p i).1 (l[i]).sub.length (p i).2)/\w.cell? ⟨b,o+i*4+3,none⟩=some (.int .i64 (l[i]).tail)/\cC w B l[i] (.int .i64 (l[i]).kind) (.int .i64 (l[i]).size) (.slice (p i).1 (l[i]).sub.length (p i).2) (.int .i64 (l[i]).tail):=by
 have key:∀i,∃p:Option Addr×Nat,∀(hi:i<l.length),∃b o,A=some ⟨b,o,none⟩/\b<B/\w.cell? ⟨b,o+i*4,none⟩=some (.int .i64 (l[i]).kind)/\w.cell? ⟨b,o+i*4+1,none⟩=some (.int .i64 (l[i]).size)/\w.cell? ⟨b,o+i*4+2,none⟩=some (.slice p.1 (l[i]).sub.length p.2)/\w.cell? ⟨b,o+i*4+3,none⟩=some (.int .i64 (l[i]).tail)/\cC w B l[i] (.int .i64 (l[i]).kind) (.int .i64 (l[i]).size) (.slice p.1 (l[i]).sub.length p.2) (.int .i64 (l[i]).tail):=fun i=>by
  by_cases hi:i<l.length
  ·obtain⟨b,o,r,s,x,u,m,n,k,c,d,e,j⟩:=h.at_ i hi;obtain⟨q,cap,rfl,rfl,rfl,rfl,_⟩:=j.open_;simp only[zG]at k c d e;exact⟨(q,cap),fun _=>⟨b,o,m,n,k,c,d,e,j⟩⟩
  exact⟨(none,0),fun h=>absurd h hi⟩
 exact⟨fun i=>Classical.choose (key i),fun i hi=>Classical.choose_spec (key i) hi⟩
theorem QP {i:Nat}(h:i<l.length):l[i]?.getD (.mk 0 0 [] 0)=l[i]:=by simp[h]
theorem Jm (l:List Ty)(c:Int)(B:Nat)(A:Option Addr)(cap:Nat)(w:World)(g gl j:Nat)(s:ByteArray)(d n:Nat)(M:Int)(hS:jz w g gl j s d 0 (M-n))(hk:d<=s.size)(hs:s.size<=1099511627776)(hM:¬M<=n)(Cw:M<=1024)(hl:l.length<=16)(mJ:0<=c)(JZ:c<=l.length)(hL:bj w)(hg:0<g)(pH:0<gl)
 (hT:ff w B l A 0) (hB:B<=w.heap.size) (ad:B<=g) (Cm:B<=gl)
 (IH:Hid (∀a∈l,∀V S W c2 c3 d (n:Nat),cC V B a S W c2 c3->B<=V.heap.size->jz V g gl j s d 0 (M-n)->d<=s.size->bj V->Calls prog 183 #[il g gl j,.agg #[S,W,c2,c3]] V fun e w'=>gR V g gl j s M (a.rd M n (s.data.toList.drop d)) e w')):
 Calls prog 183 #[il g gl j,.agg #[.int .i64 5,.int .i64 0,.slice A l.length cap,.int .i64 c]] w fun e w'=>gR w g gl j s M ((Ty.mk 5 0 l c).rd M n (s.data.toList.drop d)) e w':=by
 have aC:=hS.rdr.lt;have kW:=hS.left.lt;have d0:decide (M-(n:Int)<=0)=false:=zu (by omega);rw[uj hM];obtain⟨p,hp⟩:=NC hT;have HP:=za hp;have Ou:=za hL;show Calls _ _ _ _ fun e w'=>gR w g gl j s M ⟨(nV M l ((l.length:Int)-c).toNat (n+1) (s.data.toList.drop d)).e,.mk ⟨#[]⟩ true (nV M l ((l.length:Int)-c).toNat (n+1) (s.data.toList.drop d)).xs,(nV M l ((l.length:Int)-c).toNat (n+1) (s.data.toList.drop d)).n,(nV M l ((l.length:Int)-c).toNat (n+1) (s.data.toList.drop d)).q⟩ e w'
 obtain⟨R,O⟩:∃R,nV M l ((l.length:Int)-c).toNat (n+1) (s.data.toList.drop d)=R:=⟨_,rfl⟩
 rw[O];have Ef:=za O;clear O hp hT;obtain⟨z,C,ez,el⟩:∃(z:Int) (C:List Ty),z=0/\C=l:=⟨_,_,rfl,rfl⟩
 rw[<-ez];rw[show l.length=C.length from by rw[el]];have y:=za (uu.start (tc:= #[.int .i64 (5),.int .i64 z,.slice A C.length cap,.int .i64 c]) hS);generalize oX:(((w.alloc (.cells (j7 g gl j) 240)).alloc (.cells #[.int .i64 (5),.int .i64 z,.slice A C.length cap,.int .i64 c] 43)).alloc (.cells #[.string ⟨#[]⟩,.bool false,.slice none 0 0] 28))=K at*;unfold j7 at oX;obtain⟨p0,p1,p2,p3,p4,p5⟩:=eV (show af K w.heap.size 240 #[_,_,_,_,_,_]from y.out.rdg);obtain⟨q0,q1,q2,q3,_⟩:=aN y.out.ty;have l0:K.cell? ⟨gl,0,none⟩=some (.int .i64 (M-n)):=y.out.st.left.cell 0;have l1:=y.out.st.left.frozen 0;subst ez;obtain⟨F,aa⟩:∃F,C.length=F:=⟨_,rfl⟩
 have x:Hid (l.length=F):=za (by rw[<-aa,el]);rw[aa]at oX y⊢;clear aa el hL;have q:=za (y.out.less (M-n-1));generalize pU:K.setCell ⟨gl,0,none⟩ (.int .i64 (M-n-1))=J at*;clear q0 q1 q2 q3;obtain⟨p0,p1,p2,p3,p4,p5⟩:=eV (show af J w.heap.size 240 #[_,_,_,_,_,_]from q.out.rdg);obtain⟨q0,q1,q2,q3,_⟩:=aN q.out.ty;unfold il;clear hS;go_enter y8,yT
 go_wp2_with fail
 have my:=q.out.ty;have gZ:∀V,ae [g,gl] J V->ae [g,gl] w V/\Below B w V:=fun V h=>⟨q.out.only.trans h,(q.out.only.trans h).below hB (by simp;omega)⟩
 refine(qL _ _ _ (.inr ⟨rfl,w.heap.size+1,w.heap.size,rfl,rfl⟩) F (fun i=>l[i]?.getD (.mk 0 0 [] 0)) (fun i k=>decide ((i:Int)<(l.length:Int)-c)||decide (k<s.size)) (fun i n ab=>nV M (l.drop i) (((l.length:Int)-c).toNat-i) n ab) (fun i=>(p i).1) (fun i=>(l[i]?.getD (.mk 0 0 [] 0)).sub.length) (fun i=>(p i).2) J g gl j s d 0 _ M (n+1) q.out.st hk hs (by have:=x.out;omega) R.e R (by rw[<-x.out];exact Uc.ofT M s l c mJ) (fun _=>⟨by omega,by rw[<-Ef.out];simp,rfl⟩) (fun h=>absurd rfl h) (za fun i hi V H f' Y E Z I=>by
  obtain⟨h1,m⟩:=gZ V E;have D:i<l.length:=by rw[x.out];exact hi
  rw[QP D];obtain⟨b,o,hA,G,e0,r,u,e3,_⟩:=HP.out i D;rw[hA]at my;have:=m.size;rw[x.out];exact XG i (w.heap.size+1) w.heap.size g gl j b o F cap s H Y 5 0 c _ _ _ _ V (my.only E (by simp;omega)) (q.out.rdg.only E (by simp;omega)) f' Z I (by omega) hi (by have:=x.out;omega) mJ (by have:=x.out;omega) ((m.cell G).trans e0) ((m.cell G).trans r) ((m.cell G).trans u) ((m.cell G).trans e3) (by omega) _ _ _ _ _ _ rfl rfl rfl rfl) (za fun i hi V H n' E Z I=>by
  obtain⟨h1,m⟩:=gZ V E;have D:i<l.length:=by rw[x.out];exact hi
  rw[QP D];obtain⟨b,o,hA,G,e0,r,u,e3,tL⟩:=HP.out i D;exact IH.out _ (zE D) V _ _ _ _ H n' (tL.below m) (by have:=m.size;omega) Z I (Ou.out.only h1 (by simp;omega)))).mono ?_
 have N:=q;rintro e w2 ⟨X,S,W,c2,H,Y,rfl,L,tz,ho,I,iQ⟩;obtain⟨U,bx,rfl,rfl,rfl,_⟩:=L.open_;have kT:=za (N.out.Lj ho tz);have HX:=za (L.lz (b:=w.heap.size+1+1) (by have:=N.out.siz;omega) (.string X.text) (.bool X.list) (.slice U X.sub.length bx));have UR:=za iQ;clear L tz ho iQ;obtain⟨n0,n1,n2,m0,m1,m2⟩:=gS kT.out.res;obtain⟨r,u,y0,y1,y2⟩:=kT.out.ends (.string X.text) (.bool X.list) (.slice U X.sub.length bx);have E1:=za r;have E2:=za u;clear r u;go_wp2;have r:=E1.out;have u:=E2.out;refine zk (v:= .agg #[.string X.text,.bool X.list,.slice U X.sub.length bx]) (by simp[results,yN,go_sem,y0,y1,y2]) rfl ?_;exact⟨X,_,_,_,H,Y,rfl,HX.out.gQ (fun _ _ h=>by have:=N.out.siz;omega),r,u,I,UR.out⟩
theorem Ud :∀(x:Ty) (B:Nat) (w:World) (O E L J:Value) (g gl d:Nat) (s:ByteArray) (c n:Nat) (M:Int),cC w B x O E L J->B<=w.heap.size->B<=g->B<=gl->x.right=true->jz w g gl d s c 0 (M-n)->c<=s.size->s.size<=1099511627776->M<=1024->bj w->0<g->0<gl->
 Calls prog 183 #[il g gl d,.agg #[O,E,L,J]] w fun e w'=>gR w g gl d s M (x.rd M n (s.data.toList.drop c)) e w':=by
 intro x;induction x using Ty.ind with
 |h ki z l ta ih=>
  intro B w O E L J g gl d s c n M h W u y hr hS p o k G q r;obtain⟨rfl,rfl,rfl,_,_,_,Rq,A,cap,rfl,lH,jR,S⟩:=h;obtain⟨X,U⟩:=iI hr;by_cases m:M<=n
  ·rw[KI m];exact Jk ki z ta l A cap w g gl d s c n M hS p m
  rcases km X with⟨rfl,K,i,rfl⟩|⟨rfl,K,N,i,rfl⟩|⟨rfl,K,N,i,rfl⟩|⟨rfl,K,N,i,rfl⟩|⟨rfl,rfl,N,h5,h6⟩
  ·obtain rfl:l= []:=zo i;obtain⟨b,rfl⟩:∃b:Nat,z=b:=⟨z.toNat,by omega⟩
   exact NA b A cap w g gl d s c n M hS p o m k (by omega) (by omega)
  ·obtain rfl:l= []:=zo i;obtain⟨b,rfl⟩:∃b:Nat,z=b:=⟨z.toNat,by omega⟩
   exact NB b A cap w g gl d s c n M hS p o m k (by omega)
  ·obtain rfl:l= []:=zo i;obtain⟨b,rfl⟩:∃b:Nat,z=b:=⟨z.toNat,by omega⟩
   exact F3 b A cap w g gl d s c n M hS p o m k (by omega) G q r
  ·obtain⟨a,rfl⟩:=Yi.1 i;obtain⟨b,rfl⟩:∃b:Nat,z=b:=⟨z.toNat,by omega⟩
   have Z:a.right=true:=by simpa[bR]using U
   exact Jl a b B A cap w g gl d s c n M hS p o m k (by omega) G q r S W u y (za fun V d0 d1 d2 d3 c n I C H F D=>ih a (by simp) B V d0 d1 d2 d3 g gl d s c n M I C u y Z H F o k D q r)
  exact Jm l ta B A cap w g gl d s c n M hS p o m k (by omega) (by omega) (by omega) G q r S W u y (za fun a R V d0 d1 d2 d3 c n I C H F D=>by
   obtain⟨j,Y,rfl⟩:=yS R;exact ih _ R B V d0 d1 d2 d3 g gl d s c n M I C u y (dk U j Y) H F o k D q r)
