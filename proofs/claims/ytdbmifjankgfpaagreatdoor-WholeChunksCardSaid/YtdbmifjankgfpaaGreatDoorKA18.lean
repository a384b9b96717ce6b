/- packed.Next by a meter with much room. -/
import Derived.Test.YtdbmifjankgfpaaGreatDoorKA17
import Derived.Test.YtdbmifjankgfpaaGreatDoorKA20
set_option linter.all false
set_option maxRecDepth 100000
set_option maxHeartbeats 4000000
open Go.Proofs.Tryz
namespace Go.Proofs.YtdbmifjankgfpaaGreatDoor
open Go.RowKit
def yJ:=@results183
def yR:=@ntmps183
def yV:=@func183
theorem wu (most b:Int)(d a u t p:Nat)(s:ByteArray)(w:World)(k:s.size<=9223372036854775807)(j: -9223372036854775808<=most)(l:most<=9223372036854775807)(n:tI w d a u t p)(x:a<=9223372036854775807)(hu:u+70000<=a)(z:t+70000<=9223372036854775807)(y:b<=70000):
 Calls prog 83 #[.int .i64 most,.int .i64 b,.pointer (some ⟨d,0,none⟩),.string s] w fun e w'=>e=Cv (aR most b s)/\(∃q,tI w' d a (u+(aR most b s).2.2.2.2) (t+(aR most b s).2.2.2.2) q)/\ae [d] w w':=by
 by_cases hx:(ai most s).1≠0\/(ay (ai most s).2.2.1).2.2≠0\/b<(ay (ai most s).2.2.1).1
 ·have hz:(aR most b s).2.2.2.2=0:=by
   rw[bu];by_cases c:(ai most s).1≠0
   ·rw[zi c]
   rw[zh c];by_cases i:(ay (ai most s).2.2.1).2.2≠0
   ·rw[zi i]
   rw[zh i,zi (by rcases hx with h|h|h;exact absurd h c;exact absurd h i;exact h)]
  rw[hz];exact(Be most b d s w k j l hx).mono fun e w' ⟨o,m⟩=>⟨o,⟨p,n.only m (by simp)⟩,m.mono (by simp)⟩
 have c:(ai most s).1=0:=Decidable.byContradiction fun h=>hx (.inl h)
 have i:(ay (ai most s).2.2.1).2.2=0:=Decidable.byContradiction fun h=>hx (.inr (.inl h))
 have r:((ay (ai most s).2.2.1).1:Int)<=b:=by
  have:¬b<(ay (ai most s).2.2.1).1:=fun h=>hx (.inr (.inr h))
  omega
 have hz:(aR most b s).2.2.2.2=(ay (ai most s).2.2.1).1:=by
  rw[bu,zh (by rw[c];simp),zh (by rw[i];simp),zh (by omega)];split<;>rfl
 rw[hz];exact Bf most b d a u t p s w k j l n x c i r (by omega) (by omega)
theorem I' (most b:Int)(s:ByteArray):(aR most b s).2.2.2.2=0\/((aR most b s).2.2.2.2:Int)<=b:=by
 rw[bu];split
 ·exact .inl rfl
 split
 ·exact .inl rfl
 split
 ·exact .inl rfl
 right;split<;>simp only<;>omega
def gV (w:World)(g gl fb:Nat)(s:ByteArray)(M:Int)(R:SO)(e:Ending)(w':World):Prop:=
 ∃(X:It) (c0 c1 c2:Value) (k':Nat) (m':Int),e= .returned (.agg #[c0,c1,c2])/\gq w' (w.heap.size<= ·) X c0 c1 c2/\jG w' g gl fb s k' R.e m'/\ae [g,gl] w w'/\k'<=s.size/\(R.e=0->X=R.x/\R.q=s.data.toList.drop k'/\m'=M-R.n)
theorem jG.lB {w:World}{g gl e c:Nat}{s:ByteArray}{k:Nat}{f m:Int}{i:Array Value}(h:jG w g gl e s k f m)(b:af w c 28 i)(n j l:Value):jG (((w.setCell ⟨c,0,none⟩ n).setCell ⟨c,1,none⟩ j).setCell ⟨c,2,none⟩ l) g gl e s k f m:=
 have n1:=h.rdr.Eh b (by decide);have n2:=h.left.Eh b (by decide);have d:=h.box.Eh b (by decide)
 ⟨((af.dK (show af w g _ _ from h.rdr) (p:=⟨c,0,none⟩) n1 _).dK (p:=⟨c,1,none⟩) n1 _).dK (p:=⟨c,2,none⟩) n1 _,((h.left.dK (p:=⟨c,0,none⟩) n2 _).dK (p:=⟨c,1,none⟩) n2 _).dK (p:=⟨c,2,none⟩) n2 _,((h.box.dK (p:=⟨c,0,none⟩) d _).dK (p:=⟨c,1,none⟩) d _).dK (p:=⟨c,2,none⟩) d _⟩
theorem jG.less {w:World}{g gl b:Nat}{s:ByteArray}{k:Nat}{f m:Int}(h:jG w g gl b s k f m)(u:Int):jG (w.setCell ⟨gl,0,none⟩ (.int .i64 u)) g gl b s k f u:=
 ⟨af.dK (show af w g _ _ from h.rdr) (p:=⟨gl,0,none⟩) h.apart.1.symm _,one_setCell h.left,h.box.dK (p:=⟨gl,0,none⟩) h.apart.2.2 _⟩
structure uy (w:World)(g gl fb:Nat)(s:ByteArray)(k:Nat)(f m:Int)(tc:Array Value)(V:World):Prop where
 rdg:af V w.heap.size 240 (kh g gl fb)
 ty:af V (w.heap.size+1) 43 tc
 res:af V (w.heap.size+1+1) 28 #[.string ⟨#[]⟩,.bool false,.slice none 0 0]
 st:jG V g gl fb s k f m
 only:ae [g,gl] w V
 siz:w.heap.size+3<=V.heap.size
theorem uy.start {w:World}{g gl b:Nat}{s:ByteArray}{k:Nat}{f m:Int}{tc:Array Value}(h:jG w g gl b s k f m):uy w g gl b s k f m tc (((w.alloc (.cells (kh g gl b) 240)).alloc (.cells tc 43)).alloc (.cells #[.string ⟨#[]⟩,.bool false,.slice none 0 0] 28)) where
 rdg:=((af.new w _ _).alloc _).alloc _
 ty:=af.alloc (af.at_ (by simp)) _
 res:=af.at_ (by simp)
 st:=h.below ((((zl _ w).alloc (zd _) _).alloc (by simp) _).alloc (by simp;omega) _)
 only:=(((ae.refl _ w).alloc _).alloc _).alloc _
 siz:=by simp
theorem uy.less {w V:World}{g gl b:Nat}{s:ByteArray}{k:Nat}{f m:Int}{tc:Array Value}(h:uy w g gl b s k f m tc V)(u:Int):uy w g gl b s k f u tc (V.setCell ⟨gl,0,none⟩ (.int .i64 u)) where
 rdg:=h.rdg.dK (p:=⟨gl,0,none⟩) (h.rdg.Eh h.st.left (by decide)) _
 ty:=h.ty.dK (p:=⟨gl,0,none⟩) (h.ty.Eh h.st.left (by decide)) _
 res:=h.res.dK (p:=⟨gl,0,none⟩) (h.res.Eh h.st.left (by decide)) _
 st:=h.st.less u
 only:=h.only.setCell (by simp) _
 siz:=by have:=h.siz;simpa[World.setCell]using this
theorem uy.dE {w V V':World}{g gl e:Nat}{s:ByteArray}{k d:Nat}{f c m:Int}{tc:Array Value}(h:uy w g gl e s k f m tc V)(b:ae [g] V V')(i:ji V' g s d c):uy w g gl e s d c m tc V' where
 rdg:=h.rdg.only b (by simp[h.rdg.Eh h.st.rdr (by decide)])
 ty:=h.ty.only b (by simp[h.ty.Eh h.st.rdr (by decide)])
 res:=h.res.only b (by simp[h.res.Eh h.st.rdr (by decide)])
 st:=h.st.dE b i
 only:=h.only.trans (b.mono (by simp))
 siz:=zF h.siz b.size
theorem uy.below {w V V':World}{g gl c:Nat}{s:ByteArray}{k:Nat}{f m:Int}{tc:Array Value}(h:uy w g gl c s k f m tc V)(b:Below V.heap.size V V'):uy w g gl c s k f m tc V' where
 rdg:=(b.block _ h.rdg.lt).trans h.rdg
 ty:=(b.block _ h.ty.lt).trans h.ty
 res:=(b.block _ h.res.lt).trans h.res
 st:=h.st.below b
 only:=h.only.trans ((ae.ah b (zd _)).mono (by simp))
 siz:=zF h.siz b.size
theorem uy.ends {w V:World}{g gl e:Nat}{s:ByteArray}{k:Nat}{f m:Int}{tc:Array Value}(h:uy w g gl e s k f m tc V)(b c d:Value):
 jG (((V.setCell ⟨w.heap.size+1+1,0,none⟩ b).setCell ⟨w.heap.size+1+1,1,none⟩ c).setCell ⟨w.heap.size+1+1,2,none⟩ d) g gl e s k f m/\ae [g,gl] w (((V.setCell ⟨w.heap.size+1+1,0,none⟩ b).setCell ⟨w.heap.size+1+1,1,none⟩ c).setCell ⟨w.heap.size+1+1,2,none⟩ d)/\
 (V.setCell ⟨w.heap.size+1+1,0,none⟩ b).cell? ⟨w.heap.size+1+1,0,none⟩=some b/\((V.setCell ⟨w.heap.size+1+1,0,none⟩ b).setCell ⟨w.heap.size+1+1,1,none⟩ c).cell? ⟨w.heap.size+1+1,1,none⟩=some c/\(((V.setCell ⟨w.heap.size+1+1,0,none⟩ b).setCell ⟨w.heap.size+1+1,1,none⟩ c).setCell ⟨w.heap.size+1+1,2,none⟩ d).cell? ⟨w.heap.size+1+1,2,none⟩=some d:=
 ⟨h.st.lB h.res b c d,((h.only.setCell (by simp;omega) _).setCell (by simp;omega) _).setCell (by simp;omega) _,by have:=(h.res.set 0 b).cell 0;simpa using this,by have:=((h.res.set 0 b).set 1 c).cell 1;simpa using this,by have:=(((h.res.set 0 b).set 1 c).set 2 d).cell 2;simpa using this⟩
theorem gW {w:World}{g:Nat}{t:TypeId}{a b c:Value}(h:af w g t #[a,b,c]):w.cell? ⟨g,0,none⟩=some a/\w.cell? ⟨g,1,none⟩=some b/\w.cell? ⟨g,2,none⟩=some c/\w.frozen? ⟨g,0,none⟩=false/\w.frozen? ⟨g,1,none⟩=false/\w.frozen? ⟨g,2,none⟩=false:=⟨h.cell 0,h.cell 1,h.cell 2,h.frozen 0,h.frozen 1,h.frozen 2⟩
theorem Ja (k z o:Int)(m:List Ty)(A:Option Addr)(cap:Nat)(w:World)(g gl i:Nat)(s:ByteArray)(c n:Nat)(M:Int)(hS:jG w g gl i s c 0 (M-n))(E:c<=s.size)(J:M<=n):
 Calls prog 183 #[iw g gl i,.agg #[.int .i64 k,.int .i64 z,.slice A m.length cap,.int .i64 o]] w fun e w'=>gV w g gl i s M (.bad 4 n (s.data.toList.drop c)) e w':=by
 have Z:decide (M-(n:Int)<=0)=true:=zE (by omega);have b:=za (uy.start (tc:= #[.int .i64 (k),.int .i64 z,.slice A m.length cap,.int .i64 o]) hS);generalize u:(((w.alloc (.cells (kh g gl i) 240)).alloc (.cells #[.int .i64 (k),.int .i64 z,.slice A m.length cap,.int .i64 o] 43)).alloc (.cells #[.string ⟨#[]⟩,.bool false,.slice none 0 0] 28))=l at*;unfold kh at u;obtain⟨X,I,R,K,H,W⟩:=fh (show af l w.heap.size 240 #[_,_,_,_,_,_]from b.out.rdg);obtain⟨L,U,Y,N,_⟩:=aU b.out.ty;have G:l.cell? ⟨gl,0,none⟩=some (.int .i64 (M-n)):=b.out.st.left.cell 0;have y:=za (iV g s c 4 l b.out.st.rdr);unfold iw;clear hS;go_enter yV,yR
 go_wp2_with fail
 refine y.out.mono ?_;rintro e O ⟨rfl,p,r⟩;have q:=za (b.out.dE r p);clear p r;obtain⟨S,n1,n2,m0,m1,m2⟩:=gW q.out.res;obtain⟨d,j,C,x,D⟩:=q.out.ends (.string ⟨#[]⟩) (.bool false) (.slice none 0 0);have B:=za d;have F:=za j;clear d j;go_wp2;have d:=B.out;have j:=F.out;refine zk (v:= .agg #[.string ⟨#[]⟩,.bool false,.slice none 0 0]) (by simp[results,yJ,go_sem,C,x,D]) rfl ?_;exact⟨jv,_,_,_,c,_,rfl,gq.text false (by simp[ByteArray.size]),d,j,E,fun h=>absurd h (show¬(4:Int)=0 by decide)⟩
theorem wv (s:ByteArray)(k n:Nat):(s.extract k (k+n)).data.toList=(s.data.toList.drop k).take n:=by
 rw[an,ZW,show k+n-k=n from by omega]
theorem Ni (b:Nat)(A:Option Addr)(cap:Nat)(w:World)(g gl G:Nat)(s:ByteArray)(c n:Nat)(M:Int)(hS:jG w g gl G s c 0 (M-n))(hk:c<=s.size)(hs:s.size<=1099511627776)(hM:¬M<=n)(CM:M<=1024)(hz:1<=b)(S5:b<=8):
 Calls prog 183 #[iw g gl G,.agg #[.int .i64 1,.int .i64 b,.slice A ([]:List Ty).length cap,.int .i64 0]] w fun e w'=>gV w g gl G s M ((Ty.mk 1 b [] 0).rd M n (s.data.toList.drop c)) e w':=by
 have d0:decide (M-(n:Int)<=0)=false:=zu (by omega);rw[Iw hM,show((b:Int)).toNat=b from rfl,zR,aa];obtain⟨z,F,E,ez,Y,el⟩:∃(z F:Int) (E:List Ty),z=b/\F=0/\E= []:=⟨_,_,_,rfl,rfl,rfl⟩
 rw[<-ez,<-Y,<-el];have k:=za (uy.start (tc:= #[.int .i64 (1),.int .i64 z,.slice A E.length cap,.int .i64 F]) hS);generalize S:(((w.alloc (.cells (kh g gl G) 240)).alloc (.cells #[.int .i64 (1),.int .i64 z,.slice A E.length cap,.int .i64 F] 43)).alloc (.cells #[.string ⟨#[]⟩,.bool false,.slice none 0 0] 28))=x at*;unfold kh at S;obtain⟨p0,W,p2,Z,U,p5⟩:=fh (show af x w.heap.size 240 #[_,_,_,_,_,_]from k.out.rdg);obtain⟨B,H,I,D,_⟩:=aU k.out.ty;have l0:x.cell? ⟨gl,0,none⟩=some (.int .i64 (M-n)):=k.out.st.left.cell 0;have l1:=k.out.st.left.frozen 0;subst ez Y el;simp only[zL]at S k;by_cases tR:s.size<c+b
 ·rw[zi (by omega)];have i:=za (k.out.less (M-n-1));generalize sB:x.setCell ⟨gl,0,none⟩ (.int .i64 (M-n-1))=q at*;clear B H I D;obtain⟨p0,W,p2,Z,U,p5⟩:=fh (show af q w.heap.size 240 #[_,_,_,_,_,_]from i.out.rdg);obtain⟨B,H,I,D,_⟩:=aU i.out.ty;unfold iw;clear hS;go_enter yV,yR
  go_wp2_with fail
  refine(gu g s c b q i.out.st.rdr hk (by omega) tR (by omega)).mono ?_;rintro e r ⟨rfl,l,u⟩;have K:=za (i.out.dE u l);clear l u;go_wp2_with fail
  refine(nH ⟨#[]⟩ r rfl).mono ?_;rintro e w' ⟨rfl,rfl⟩;go_wp2_with fail
  refine(F5 0 r (by omega)).mono ?_;rintro e w2 ⟨rfl,o⟩;have p:=za (K.out.below o);clear o;obtain⟨n0,n1,n2,m0,m1,m2⟩:=gW p.out.res;obtain⟨d,j,O,J,R⟩:=p.out.ends (.string ⟨(cH 0).toArray⟩) (.bool false) (.slice none 0 0);have L:=za d;have N:=za j;clear d j;go_wp2;have d:=L.out;have j:=N.out;refine zk (v:= .agg #[.string ⟨(cH 0).toArray⟩,.bool false,.slice none 0 0]) (by simp[results,yJ,go_sem,O,J,R]) rfl ?_;exact⟨.mk ⟨(cH 0).toArray⟩ false [],_,_,_,c,_,rfl,gq.text false (by simp[dq,ByteArray.size]),d,j,hk,fun h=>absurd h (show¬(2:Int)=0 by decide)⟩
 rw[zh (by omega)];have y:=wv s c b;have Bs:(s.extract c (c+b)).size=b:=by rw[aj s c (c+b) (by omega)];omega
 have X:=za (fun V=>ff (s.extract c (c+b)) V (by omega) (by omega));rw[y]at X;have C:=jL ((s.data.toList.drop c).take b);rw[<-y,aa,Bs]at C;have ab:2^(8*b)<=18446744073709551616:=le_pow _ S5;rw[y]at C;generalize cZ ((s.data.toList.drop c).take b)=m at*;have HN:=za (fun V=>F5 m V (by omega));have CN:=iP b m C;have UN:Hid ((⟨(cH m).toArray⟩:ByteArray).size<=9223372036854775807):=za (by rw[bB];omega);have RI:Hid ((s.data.toList.drop c).drop b=s.data.toList.drop (c+b)):=za (by rw[xJ]);generalize (⟨(cH m).toArray⟩:ByteArray)=T at*;clear y Bs C CN;have i:=za (k.out.less (M-n-1));generalize sB:x.setCell ⟨gl,0,none⟩ (.int .i64 (M-n-1))=q at*;clear B H I D;obtain⟨p0,W,p2,Z,U,p5⟩:=fh (show af q w.heap.size 240 #[_,_,_,_,_,_]from i.out.rdg);obtain⟨B,H,I,D,_⟩:=aU i.out.ty;unfold iw;clear hS;go_enter yV,yR
 go_wp2_with fail
 refine(eE g s c b q i.out.st.rdr (by omega) (by omega)).mono ?_;rintro e r ⟨rfl,l,u⟩;have K:=za (i.out.dE u l);clear l u;go_wp2_with fail
 refine(X.out r).mono ?_;rintro e w' ⟨rfl,rfl⟩;go_wp2_with fail
 refine(HN.out r).mono ?_;rintro e w2 ⟨rfl,o⟩;have p:=za (K.out.below o);clear o;obtain⟨n0,n1,n2,m0,m1,m2⟩:=gW p.out.res;obtain⟨d,j,O,J,R⟩:=p.out.ends (.string T) (.bool false) (.slice none 0 0);have L:=za d;have N:=za j;clear d j;go_wp2;have d:=L.out;have j:=N.out;refine zk (v:= .agg #[.string T,.bool false,.slice none 0 0]) (by simp[results,yJ,go_sem,O,J,R]) rfl ?_;exact⟨.mk T false [],_,_,_,c+b,_,rfl,gq.text false UN.out,d,j,by omega,fun _=>⟨rfl,RI.out,by simp only;omega⟩⟩
theorem Nj (c:Nat)(A:Option Addr)(cap:Nat)(w:World)(g gl C:Nat)(s:ByteArray)(b n:Nat)(M:Int)(hS:jG w g gl C s b 0 (M-n))(hk:b<=s.size)(hs:s.size<=1099511627776)(hM:¬M<=n)(CM:M<=1024)(S5:c<=65536):
 Calls prog 183 #[iw g gl C,.agg #[.int .i64 2,.int .i64 c,.slice A ([]:List Ty).length cap,.int .i64 0]] w fun e w'=>gV w g gl C s M ((Ty.mk 2 c [] 0).rd M n (s.data.toList.drop b)) e w':=by
 have d0:decide (M-(n:Int)<=0)=false:=zu (by omega);rw[Ix hM,show((c:Int)).toNat=c from rfl,zR,aa];obtain⟨z,B,y,X,S,el⟩:∃(z B:Int) (y:List Ty),z=c/\B=0/\y= []:=⟨_,_,_,rfl,rfl,rfl⟩
 rw[<-X,<-S,<-el];have k:=za (uy.start (tc:= #[.int .i64 (2),.int .i64 z,.slice A y.length cap,.int .i64 B]) hS);generalize N:(((w.alloc (.cells (kh g gl C) 240)).alloc (.cells #[.int .i64 (2),.int .i64 z,.slice A y.length cap,.int .i64 B] 43)).alloc (.cells #[.string ⟨#[]⟩,.bool false,.slice none 0 0] 28))=r at*;unfold kh at N;obtain⟨p0,R,Z,W,O,p5⟩:=fh (show af r w.heap.size 240 #[_,_,_,_,_,_]from k.out.rdg);obtain⟨u,D,E,x,_⟩:=aU k.out.ty;have l0:r.cell? ⟨gl,0,none⟩=some (.int .i64 (M-n)):=k.out.st.left.cell 0;have l1:=k.out.st.left.frozen 0;subst X S el;simp only[zL]at N k;by_cases tR:s.size<b+c
 ·rw[zi (by omega)];have i:=za (k.out.less (M-n-1));generalize sB:r.setCell ⟨gl,0,none⟩ (.int .i64 (M-n-1))=p at*;clear u D E x;obtain⟨p0,R,Z,W,O,p5⟩:=fh (show af p w.heap.size 240 #[_,_,_,_,_,_]from i.out.rdg);obtain⟨u,D,E,x,_⟩:=aU i.out.ty;unfold iw;clear hS;go_enter yV,yR
  go_wp2_with fail
  refine(gu g s b c p i.out.st.rdr hk (by omega) tR (by omega)).mono ?_;rintro e L ⟨rfl,l,q⟩;have G:=za (i.out.dE q l);clear l q;go_wp2_with fail
  refine(pr ⟨#[]⟩ L).mono ?_;rintro e w2 ⟨rfl,m⟩;have o:=za (G.out.below m);clear m;obtain⟨n0,n1,n2,m0,m1,m2⟩:=gW o.out.res;obtain⟨d,j,J,F,K⟩:=o.out.ends (.string ⟨#[]⟩) (.bool false) (.slice none 0 0);have H:=za d;have I:=za j;clear d j;go_wp2;have d:=H.out;have j:=I.out;refine zk (v:= .agg #[.string ⟨#[]⟩,.bool false,.slice none 0 0]) (by simp[results,yJ,go_sem,J,F,K]) rfl ?_;exact⟨jv,_,_,_,b,_,rfl,gq.text false (by simp[ByteArray.size]),d,j,hk,fun h=>absurd h (show¬(2:Int)=0 by decide)⟩
 rw[zh (by omega)];have U:=wv s b c;have Bs:(s.extract b (b+c)).size=c:=by rw[aj s b (b+c) (by omega)];omega
 have Y:Hid ((⟨((s.data.toList.drop b).take c).toArray⟩:ByteArray)=s.extract b (b+c)):=za (aB (by rw[U]));rw[Y.out];have UN:Hid ((s.extract b (b+c)).size<=9223372036854775807):=za (by omega);have RI:Hid ((s.data.toList.drop b).drop c=s.data.toList.drop (b+c)):=za (by rw[xJ]);clear U Bs;have i:=za (k.out.less (M-n-1));generalize sB:r.setCell ⟨gl,0,none⟩ (.int .i64 (M-n-1))=p at*;clear u D E x;obtain⟨p0,R,Z,W,O,p5⟩:=fh (show af p w.heap.size 240 #[_,_,_,_,_,_]from i.out.rdg);obtain⟨u,D,E,x,_⟩:=aU i.out.ty;unfold iw;clear hS;go_enter yV,yR
 go_wp2_with fail
 refine(eE g s b c p i.out.st.rdr (by omega) (by omega)).mono ?_;rintro e L ⟨rfl,l,q⟩;have G:=za (i.out.dE q l);clear l q Y;generalize hT:s.extract b (b+c)=T at*;have HT:=za hT;clear hT;go_wp2_with fail
 refine(pr T L).mono ?_;rintro e w2 ⟨rfl,m⟩;have o:=za (G.out.below m);clear m;obtain⟨n0,n1,n2,m0,m1,m2⟩:=gW o.out.res;obtain⟨d,j,J,F,K⟩:=o.out.ends (.string T) (.bool false) (.slice none 0 0);have H:=za d;have I:=za j;clear d j;go_wp2;have d:=H.out;have j:=I.out;refine zk (v:= .agg #[.string T,.bool false,.slice none 0 0]) (by simp[results,yJ,go_sem,J,F,K]) rfl ?_;exact⟨.mk T false [],_,_,_,b+c,_,rfl,gq.text false UN.out,d,j,by omega,fun _=>⟨by show It.mk T false []=It.mk (s.extract b (b+c)) false [];rw[HT.out],RI.out,by simp only;omega⟩⟩
theorem jG.drew {w:World}{g gl b:Nat}{s:ByteArray}{k:Nat}{f m:Int}(h:jG w g gl b s k f m):jG w.drew g gl b s k f m:=⟨h.rdr.drew,h.left.drew,h.box.drew⟩
theorem F6 (i:Nat)(A:Option Addr)(cap:Nat)(w:World)(g gl d:Nat)(s:ByteArray)(b n:Nat)(M:Int)(hS:jG w g gl d s b 0 (M-n))(hk:b<=s.size)(hs:s.size<=1099511627776)(hM:¬M<=n)(CM:M<=1024)(S5:i<=65536)(hL:ba w)(hg:0<g)(mV:0<gl):
 Calls prog 183 #[iw g gl d,.agg #[.int .i64 3,.int .i64 i,.slice A ([]:List Ty).length cap,.int .i64 0]] w fun e w'=>gV w g gl d s M ((Ty.mk 3 i [] 0).rd M n (s.data.toList.drop b)) e w':=by
 have d0:decide (M-(n:Int)<=0)=false:=zu (by omega);rw[vB hM];have GY:=za (fun V (k:jG V g gl d s b 0 (M-n-1)) (hl:ba V)=>Cq g gl d s b i _ V k hk (by omega) S5 hl (by omega));have n7:=fun(h0:(aw (s.data.toList.drop b)).2.2=0)=>(iS (s.data.toList.drop b) (aw (s.data.toList.drop b)).1 (aw (s.data.toList.drop b)).2.1 (by rw[<-h0])).2.1
 rw[zR,aa]at n7;have HW:=ow (aw (s.data.toList.drop b)) i b;obtain⟨ab,ta,tl,ez,et,el⟩:∃(ab ta:Int) (tl:List Ty),ab=i/\ta=0/\tl= []:=⟨_,_,_,rfl,rfl,rfl⟩
 rw[<-et,<-el,<-ez];have E:=za (uy.start (tc:= #[.int .i64 (3),.int .i64 ab,.slice A tl.length cap,.int .i64 ta]) hS);generalize mN:(((w.alloc (.cells (kh g gl d) 240)).alloc (.cells #[.int .i64 (3),.int .i64 ab,.slice A tl.length cap,.int .i64 ta] 43)).alloc (.cells #[.string ⟨#[]⟩,.bool false,.slice none 0 0] 28))=W3 at*;unfold kh at mN;obtain⟨G,p1,p2,p3,I,p5⟩:=fh (show af W3 w.heap.size 240 #[_,_,_,_,_,_]from E.out.rdg);obtain⟨F,z,H,J,_⟩:=aU E.out.ty;have l0:W3.cell? ⟨gl,0,none⟩=some (.int .i64 (M-n)):=E.out.st.left.cell 0;have l1:=E.out.st.left.frozen 0;subst ez et el;simp only[zL]at mN E;have RJ:=fun V (h:uy w g gl d s b 0 (M-n-1) #[.int .i64 3,.int .i64 i,.slice A 0 cap,.int .i64 0] V)=>hL.only h.only (by simp;omega)
 have AM:=za RJ;clear RJ hL;generalize aw (s.data.toList.drop b)=ad at*;obtain⟨Nm,j,Ne⟩:=ad;simp only at n7 HW⊢;rcases HW with⟨L,hE,G8,c⟩|⟨L,h2,hE,G8,c⟩|⟨L,h2,hE,G8,c⟩
 ·rw[zi L];rw[hE,G8,c]at GY;have l:=za (E.out.less (M-n-1));generalize sB:W3.setCell ⟨gl,0,none⟩ (.int .i64 (M-n-1))=p at*;clear F z H J;obtain⟨G,p1,p2,p3,I,p5⟩:=fh (show af p w.heap.size 240 #[_,_,_,_,_,_]from l.out.rdg);obtain⟨F,z,H,J,_⟩:=aU l.out.ty;unfold iw;clear hS;go_enter yV,yR
  go_wp2_with fail
  have S:ba p.drew:=AM.out p l.out;refine aC 9 (fun V=>V.cell? ⟨w.heap.size,0,none⟩=some (.func (.func 113) #[.pointer (some ⟨g,0,none⟩)] #[])/\V.cell? ⟨w.heap.size,4,none⟩=some (.func (.func 181) #[] #[.pointer (some ⟨d,0,none⟩)])/\V.cell? ⟨w.heap.size+1,1,none⟩=some (.int .i64 i)) (by kernel_rfl) (by kernel_rfl) ?_;have hHeld:(fun V:World=>V.cell? ⟨w.heap.size,0,none⟩=some (.func (.func 113) #[.pointer (some ⟨g,0,none⟩)] #[])/\V.cell? ⟨w.heap.size,4,none⟩=some (.func (.func 181) #[] #[.pointer (some ⟨d,0,none⟩)])/\V.cell? ⟨w.heap.size+1,1,none⟩=some (.int .i64 i)) p.drew:=⟨G,I,z⟩
  refine GT.jV [0,1,2,3,4,5] hHeld (fun _ _ _ _ _ h=>h) (by kernel_rfl) ?_;refine .c (v:= .pointer (some ⟨w.heap.size,0,none⟩)) rfl rfl (fun V k=>by go_simp<;>with_reducible rfl) ?_;try simp only[Act.put,zb,ze,zf];refine .c (v:= .func (.func 113) #[.pointer (some ⟨g,0,none⟩)] #[]) rfl rfl (fun V k=>by go_simp<;>with_reducible rfl) ?_;try simp only[Act.put,zb,ze,zf];refine .c (v:= .pointer (some ⟨w.heap.size,4,none⟩)) rfl rfl (fun V k=>by go_simp<;>with_reducible rfl) ?_;try simp only[Act.put,zb,ze,zf];refine .c (v:= .func (.func 181) #[] #[.pointer (some ⟨d,0,none⟩)]) rfl rfl (fun V k=>by go_simp<;>with_reducible rfl) ?_;try simp only[Act.put,zb,ze,zf];refine .c (v:= .pointer (some ⟨w.heap.size+1,1,none⟩)) rfl rfl (fun V k=>by go_simp<;>with_reducible rfl) ?_;try simp only[Act.put,zb,ze,zf];refine .c (v:= .int .i64 i) rfl rfl (fun V k=>by go_simp<;>with_reducible rfl) ?_;try simp only[Act.put,zb,ze,zf];refine .nil ?_;refine GT.fJ 6 (fun K c=> ?_) rfl (by kernel_rfl);go_simp;refine(GY.out p.drew l.out.st.drew S).mono ?_;rintro e B ⟨rfl,r,q⟩;have o:=za ((l.out.below (zl _ _).drew).dE q r.rdr);have X:(fun V:World=>V.cell? ⟨w.heap.size,0,none⟩=some (.func (.func 113) #[.pointer (some ⟨g,0,none⟩)] #[])/\V.cell? ⟨w.heap.size,4,none⟩=some (.func (.func 181) #[] #[.pointer (some ⟨d,0,none⟩)])/\V.cell? ⟨w.heap.size+1,1,none⟩=some (.int .i64 i)) B:=⟨o.out.rdg.cell 0,o.out.rdg.cell 4,o.out.ty.cell 1⟩
  clear r q;go_wp2_with fail
  refine c.out _ _ X (fun hHeld=> ?_);clear c K;try simp only[Act.put,zb,ze,zf]
  refine GT.fJ 7 (fun K c=> ?_) rfl (by kernel_rfl);go_simp;refine(vR g s b Ne 0 B o.out.st.rdr (zm.2 L)).mono ?_;rintro e C ⟨rfl,r,q⟩;have u:=za (o.out.dE q r);have O:(fun V:World=>V.cell? ⟨w.heap.size,0,none⟩=some (.func (.func 113) #[.pointer (some ⟨g,0,none⟩)] #[])/\V.cell? ⟨w.heap.size,4,none⟩=some (.func (.func 181) #[] #[.pointer (some ⟨d,0,none⟩)])/\V.cell? ⟨w.heap.size+1,1,none⟩=some (.int .i64 i)) C:=⟨u.out.rdg.cell 0,u.out.rdg.cell 4,u.out.ty.cell 1⟩
  clear r q;go_wp2_with fail
  refine c.out _ _ O (fun hHeld=> ?_);clear c K;try simp only[Act.put,zb,ze,zf]
  refine GT.fJ 8 (fun K c=> ?_) rfl (by kernel_rfl);go_simp;refine(pr ⟨#[]⟩ C).mono ?_;rintro e w3 ⟨rfl,D⟩;have m:=za (u.out.below D);have R:(fun V:World=>V.cell? ⟨w.heap.size,0,none⟩=some (.func (.func 113) #[.pointer (some ⟨g,0,none⟩)] #[])/\V.cell? ⟨w.heap.size,4,none⟩=some (.func (.func 181) #[] #[.pointer (some ⟨d,0,none⟩)])/\V.cell? ⟨w.heap.size+1,1,none⟩=some (.int .i64 i)) w3:=⟨m.out.rdg.cell 0,m.out.rdg.cell 4,m.out.ty.cell 1⟩
  clear D;go_wp2_with fail
  refine c.out _ _ R (fun hHeld=> ?_);clear c K;try simp only[Act.put,zb,ze,zf]
  obtain⟨n0,n1,n2,m0,m1,m2⟩:=gW m.out.res;obtain⟨x,y,U,N,W⟩:=m.out.ends (.string ⟨#[]⟩) (.bool false) (.slice none 0 0);have Z:=za x;have Y:=za y;clear x y;refine GT.pA 9 ?_ rfl (by kernel_rfl);go_simp;go_wp2;have x:=Z.out;have y:=Y.out;refine zk (v:= .agg #[.string ⟨#[]⟩,.bool false,.slice none 0 0]) (by simp[results,yJ,go_sem,U,N,W]) rfl ?_;exact⟨jv,_,_,_,b,_,rfl,gq.text false (by simp[ByteArray.size]),x,y,hk,fun h=>absurd h L⟩
 ·rw[zh (by rw[L];simp),zi (by omega)];rw[hE,G8,c]at GY;have l:=za (E.out.less (M-n-1));generalize sB:W3.setCell ⟨gl,0,none⟩ (.int .i64 (M-n-1))=p at*;clear F z H J;obtain⟨G,p1,p2,p3,I,p5⟩:=fh (show af p w.heap.size 240 #[_,_,_,_,_,_]from l.out.rdg);obtain⟨F,z,H,J,_⟩:=aU l.out.ty;unfold iw;clear hS;go_enter yV,yR
  go_wp2_with fail
  have S:ba p.drew:=AM.out p l.out;refine aC 9 (fun V=>V.cell? ⟨w.heap.size,0,none⟩=some (.func (.func 113) #[.pointer (some ⟨g,0,none⟩)] #[])/\V.cell? ⟨w.heap.size,4,none⟩=some (.func (.func 181) #[] #[.pointer (some ⟨d,0,none⟩)])/\V.cell? ⟨w.heap.size+1,1,none⟩=some (.int .i64 i)) (by kernel_rfl) (by kernel_rfl) ?_;have hHeld:(fun V:World=>V.cell? ⟨w.heap.size,0,none⟩=some (.func (.func 113) #[.pointer (some ⟨g,0,none⟩)] #[])/\V.cell? ⟨w.heap.size,4,none⟩=some (.func (.func 181) #[] #[.pointer (some ⟨d,0,none⟩)])/\V.cell? ⟨w.heap.size+1,1,none⟩=some (.int .i64 i)) p.drew:=⟨G,I,z⟩
  refine GT.jV [0,1,2,3,4,5] hHeld (fun _ _ _ _ _ h=>h) (by kernel_rfl) ?_;refine .c (v:= .pointer (some ⟨w.heap.size,0,none⟩)) rfl rfl (fun V k=>by go_simp<;>with_reducible rfl) ?_;try simp only[Act.put,zb,ze,zf];refine .c (v:= .func (.func 113) #[.pointer (some ⟨g,0,none⟩)] #[]) rfl rfl (fun V k=>by go_simp<;>with_reducible rfl) ?_;try simp only[Act.put,zb,ze,zf];refine .c (v:= .pointer (some ⟨w.heap.size,4,none⟩)) rfl rfl (fun V k=>by go_simp<;>with_reducible rfl) ?_;try simp only[Act.put,zb,ze,zf];refine .c (v:= .func (.func 181) #[] #[.pointer (some ⟨d,0,none⟩)]) rfl rfl (fun V k=>by go_simp<;>with_reducible rfl) ?_;try simp only[Act.put,zb,ze,zf];refine .c (v:= .pointer (some ⟨w.heap.size+1,1,none⟩)) rfl rfl (fun V k=>by go_simp<;>with_reducible rfl) ?_;try simp only[Act.put,zb,ze,zf];refine .c (v:= .int .i64 i) rfl rfl (fun V k=>by go_simp<;>with_reducible rfl) ?_;try simp only[Act.put,zb,ze,zf];refine .nil ?_;refine GT.fJ 6 (fun K c=> ?_) rfl (by kernel_rfl);go_simp;refine(GY.out p.drew l.out.st.drew S).mono ?_;rintro e B ⟨rfl,r,q⟩;have o:=za ((l.out.below (zl _ _).drew).dE q r.rdr);have X:(fun V:World=>V.cell? ⟨w.heap.size,0,none⟩=some (.func (.func 113) #[.pointer (some ⟨g,0,none⟩)] #[])/\V.cell? ⟨w.heap.size,4,none⟩=some (.func (.func 181) #[] #[.pointer (some ⟨d,0,none⟩)])/\V.cell? ⟨w.heap.size+1,1,none⟩=some (.int .i64 i)) B:=⟨o.out.rdg.cell 0,o.out.rdg.cell 4,o.out.ty.cell 1⟩
  clear r q;go_wp2_with fail
  refine c.out _ _ X (fun hHeld=> ?_);clear c K;try simp only[Act.put,zb,ze,zf]
  refine GT.fJ 7 (fun K c=> ?_) rfl (by kernel_rfl);go_simp;refine(vR g s b 5 0 B o.out.st.rdr (by decide)).mono ?_;rintro e C ⟨rfl,r,q⟩;have u:=za (o.out.dE q r);have O:(fun V:World=>V.cell? ⟨w.heap.size,0,none⟩=some (.func (.func 113) #[.pointer (some ⟨g,0,none⟩)] #[])/\V.cell? ⟨w.heap.size,4,none⟩=some (.func (.func 181) #[] #[.pointer (some ⟨d,0,none⟩)])/\V.cell? ⟨w.heap.size+1,1,none⟩=some (.int .i64 i)) C:=⟨u.out.rdg.cell 0,u.out.rdg.cell 4,u.out.ty.cell 1⟩
  clear r q;go_wp2_with fail
  refine c.out _ _ O (fun hHeld=> ?_);clear c K;try simp only[Act.put,zb,ze,zf]
  refine GT.fJ 8 (fun K c=> ?_) rfl (by kernel_rfl);go_simp;refine(pr ⟨#[]⟩ C).mono ?_;rintro e w3 ⟨rfl,D⟩;have m:=za (u.out.below D);have R:(fun V:World=>V.cell? ⟨w.heap.size,0,none⟩=some (.func (.func 113) #[.pointer (some ⟨g,0,none⟩)] #[])/\V.cell? ⟨w.heap.size,4,none⟩=some (.func (.func 181) #[] #[.pointer (some ⟨d,0,none⟩)])/\V.cell? ⟨w.heap.size+1,1,none⟩=some (.int .i64 i)) w3:=⟨m.out.rdg.cell 0,m.out.rdg.cell 4,m.out.ty.cell 1⟩
  clear D;go_wp2_with fail
  refine c.out _ _ R (fun hHeld=> ?_);clear c K;try simp only[Act.put,zb,ze,zf]
  obtain⟨n0,n1,n2,m0,m1,m2⟩:=gW m.out.res;obtain⟨x,y,U,N,W⟩:=m.out.ends (.string ⟨#[]⟩) (.bool false) (.slice none 0 0);have Z:=za x;have Y:=za y;clear x y;refine GT.pA 9 ?_ rfl (by kernel_rfl);go_simp;go_wp2;have x:=Z.out;have y:=Y.out;refine zk (v:= .agg #[.string ⟨#[]⟩,.bool false,.slice none 0 0]) (by simp[results,yJ,go_sem,U,N,W]) rfl ?_;exact⟨jv,_,_,_,b,_,rfl,gq.text false (by simp[ByteArray.size]),x,y,hk,fun h=>absurd h (show¬(5:Int)=0 by decide)⟩
 rw[zh (by rw[L];simp),zh (by omega)];rw[hE,G8,c]at GY;have aS:=n7 L;rw[xJ,zR,aa];by_cases tR:s.size<b+j+Nm
 ·rw[zi (by omega)];have l:=za (E.out.less (M-n-1));generalize sB:W3.setCell ⟨gl,0,none⟩ (.int .i64 (M-n-1))=p at*;clear F z H J;obtain⟨G,p1,p2,p3,I,p5⟩:=fh (show af p w.heap.size 240 #[_,_,_,_,_,_]from l.out.rdg);obtain⟨F,z,H,J,_⟩:=aU l.out.ty;unfold iw;clear hS;go_enter yV,yR
  go_wp2_with fail
  have S:ba p.drew:=AM.out p l.out;refine aC 9 (fun V=>V.cell? ⟨w.heap.size,0,none⟩=some (.func (.func 113) #[.pointer (some ⟨g,0,none⟩)] #[])/\V.cell? ⟨w.heap.size,4,none⟩=some (.func (.func 181) #[] #[.pointer (some ⟨d,0,none⟩)])/\V.cell? ⟨w.heap.size+1,1,none⟩=some (.int .i64 i)) (by kernel_rfl) (by kernel_rfl) ?_;have hHeld:(fun V:World=>V.cell? ⟨w.heap.size,0,none⟩=some (.func (.func 113) #[.pointer (some ⟨g,0,none⟩)] #[])/\V.cell? ⟨w.heap.size,4,none⟩=some (.func (.func 181) #[] #[.pointer (some ⟨d,0,none⟩)])/\V.cell? ⟨w.heap.size+1,1,none⟩=some (.int .i64 i)) p.drew:=⟨G,I,z⟩
  refine GT.jV [0,1,2,3,4,5] hHeld (fun _ _ _ _ _ h=>h) (by kernel_rfl) ?_;refine .c (v:= .pointer (some ⟨w.heap.size,0,none⟩)) rfl rfl (fun V k=>by go_simp<;>with_reducible rfl) ?_;try simp only[Act.put,zb,ze,zf];refine .c (v:= .func (.func 113) #[.pointer (some ⟨g,0,none⟩)] #[]) rfl rfl (fun V k=>by go_simp<;>with_reducible rfl) ?_;try simp only[Act.put,zb,ze,zf];refine .c (v:= .pointer (some ⟨w.heap.size,4,none⟩)) rfl rfl (fun V k=>by go_simp<;>with_reducible rfl) ?_;try simp only[Act.put,zb,ze,zf];refine .c (v:= .func (.func 181) #[] #[.pointer (some ⟨d,0,none⟩)]) rfl rfl (fun V k=>by go_simp<;>with_reducible rfl) ?_;try simp only[Act.put,zb,ze,zf];refine .c (v:= .pointer (some ⟨w.heap.size+1,1,none⟩)) rfl rfl (fun V k=>by go_simp<;>with_reducible rfl) ?_;try simp only[Act.put,zb,ze,zf];refine .c (v:= .int .i64 i) rfl rfl (fun V k=>by go_simp<;>with_reducible rfl) ?_;try simp only[Act.put,zb,ze,zf];refine .nil ?_;refine GT.fJ 6 (fun K c=> ?_) rfl (by kernel_rfl);go_simp;refine(GY.out p.drew l.out.st.drew S).mono ?_;rintro e B ⟨rfl,r,q⟩;have o:=za ((l.out.below (zl _ _).drew).dE q r.rdr);have X:(fun V:World=>V.cell? ⟨w.heap.size,0,none⟩=some (.func (.func 113) #[.pointer (some ⟨g,0,none⟩)] #[])/\V.cell? ⟨w.heap.size,4,none⟩=some (.func (.func 181) #[] #[.pointer (some ⟨d,0,none⟩)])/\V.cell? ⟨w.heap.size+1,1,none⟩=some (.int .i64 i)) B:=⟨o.out.rdg.cell 0,o.out.rdg.cell 4,o.out.ty.cell 1⟩
  clear r q;go_wp2_with fail
  refine c.out _ _ X (fun hHeld=> ?_);clear c K;try simp only[Act.put,zb,ze,zf]
  refine GT.fJ 7 (fun K c=> ?_) rfl (by kernel_rfl);go_simp;refine(gu g s (b+j) Nm B o.out.st.rdr (by omega) (by omega) tR (by omega)).mono ?_;rintro e C ⟨rfl,r,q⟩;have u:=za (o.out.dE q r);have O:(fun V:World=>V.cell? ⟨w.heap.size,0,none⟩=some (.func (.func 113) #[.pointer (some ⟨g,0,none⟩)] #[])/\V.cell? ⟨w.heap.size,4,none⟩=some (.func (.func 181) #[] #[.pointer (some ⟨d,0,none⟩)])/\V.cell? ⟨w.heap.size+1,1,none⟩=some (.int .i64 i)) C:=⟨u.out.rdg.cell 0,u.out.rdg.cell 4,u.out.ty.cell 1⟩
  clear r q;go_wp2_with fail
  refine c.out _ _ O (fun hHeld=> ?_);clear c K;try simp only[Act.put,zb,ze,zf]
  refine GT.fJ 8 (fun K c=> ?_) rfl (by kernel_rfl);go_simp;refine(pr ⟨#[]⟩ C).mono ?_;rintro e w3 ⟨rfl,D⟩;have m:=za (u.out.below D);have R:(fun V:World=>V.cell? ⟨w.heap.size,0,none⟩=some (.func (.func 113) #[.pointer (some ⟨g,0,none⟩)] #[])/\V.cell? ⟨w.heap.size,4,none⟩=some (.func (.func 181) #[] #[.pointer (some ⟨d,0,none⟩)])/\V.cell? ⟨w.heap.size+1,1,none⟩=some (.int .i64 i)) w3:=⟨m.out.rdg.cell 0,m.out.rdg.cell 4,m.out.ty.cell 1⟩
  clear D;go_wp2_with fail
  refine c.out _ _ R (fun hHeld=> ?_);clear c K;try simp only[Act.put,zb,ze,zf]
  obtain⟨n0,n1,n2,m0,m1,m2⟩:=gW m.out.res;obtain⟨x,y,U,N,W⟩:=m.out.ends (.string ⟨#[]⟩) (.bool false) (.slice none 0 0);have Z:=za x;have Y:=za y;clear x y;refine GT.pA 9 ?_ rfl (by kernel_rfl);go_simp;go_wp2;have x:=Z.out;have y:=Y.out;refine zk (v:= .agg #[.string ⟨#[]⟩,.bool false,.slice none 0 0]) (by simp[results,yJ,go_sem,U,N,W]) rfl ?_;exact⟨jv,_,_,_,b+j,_,rfl,gq.text false (by simp[ByteArray.size]),x,y,by omega,fun h=>absurd h (show¬(2:Int)=0 by decide)⟩
 rw[zh (by omega)];have hX:=wv s (b+j) Nm;have Bs:(s.extract (b+j) (b+j+Nm)).size=Nm:=by rw[aj s (b+j) (b+j+Nm) (by omega)];omega
 have HX:Hid ((⟨((s.data.toList.drop (b+j)).take Nm).toArray⟩:ByteArray)=s.extract (b+j) (b+j+Nm)):=za (aB (by rw[hX]));rw[HX.out];have UN:Hid ((s.extract (b+j) (b+j+Nm)).size<=9223372036854775807):=za (by omega);have RI:Hid ((s.data.toList.drop (b+j)).drop Nm=s.data.toList.drop (b+j+Nm)):=za (by rw[xJ]);clear hX Bs;have l:=za (E.out.less (M-n-1));generalize sB:W3.setCell ⟨gl,0,none⟩ (.int .i64 (M-n-1))=p at*;clear F z H J;obtain⟨G,p1,p2,p3,I,p5⟩:=fh (show af p w.heap.size 240 #[_,_,_,_,_,_]from l.out.rdg);obtain⟨F,z,H,J,_⟩:=aU l.out.ty;unfold iw;clear hS;go_enter yV,yR
 go_wp2_with fail
 have S:ba p.drew:=AM.out p l.out;refine aC 9 (fun V=>V.cell? ⟨w.heap.size,0,none⟩=some (.func (.func 113) #[.pointer (some ⟨g,0,none⟩)] #[])/\V.cell? ⟨w.heap.size,4,none⟩=some (.func (.func 181) #[] #[.pointer (some ⟨d,0,none⟩)])/\V.cell? ⟨w.heap.size+1,1,none⟩=some (.int .i64 i)) (by kernel_rfl) (by kernel_rfl) ?_;have hHeld:(fun V:World=>V.cell? ⟨w.heap.size,0,none⟩=some (.func (.func 113) #[.pointer (some ⟨g,0,none⟩)] #[])/\V.cell? ⟨w.heap.size,4,none⟩=some (.func (.func 181) #[] #[.pointer (some ⟨d,0,none⟩)])/\V.cell? ⟨w.heap.size+1,1,none⟩=some (.int .i64 i)) p.drew:=⟨G,I,z⟩
 refine GT.jV [0,1,2,3,4,5] hHeld (fun _ _ _ _ _ h=>h) (by kernel_rfl) ?_;refine .c (v:= .pointer (some ⟨w.heap.size,0,none⟩)) rfl rfl (fun V k=>by go_simp<;>with_reducible rfl) ?_;try simp only[Act.put,zb,ze,zf];refine .c (v:= .func (.func 113) #[.pointer (some ⟨g,0,none⟩)] #[]) rfl rfl (fun V k=>by go_simp<;>with_reducible rfl) ?_;try simp only[Act.put,zb,ze,zf];refine .c (v:= .pointer (some ⟨w.heap.size,4,none⟩)) rfl rfl (fun V k=>by go_simp<;>with_reducible rfl) ?_;try simp only[Act.put,zb,ze,zf];refine .c (v:= .func (.func 181) #[] #[.pointer (some ⟨d,0,none⟩)]) rfl rfl (fun V k=>by go_simp<;>with_reducible rfl) ?_;try simp only[Act.put,zb,ze,zf];refine .c (v:= .pointer (some ⟨w.heap.size+1,1,none⟩)) rfl rfl (fun V k=>by go_simp<;>with_reducible rfl) ?_;try simp only[Act.put,zb,ze,zf];refine .c (v:= .int .i64 i) rfl rfl (fun V k=>by go_simp<;>with_reducible rfl) ?_;try simp only[Act.put,zb,ze,zf];refine .nil ?_;refine GT.fJ 6 (fun K c=> ?_) rfl (by kernel_rfl);go_simp;refine(GY.out p.drew l.out.st.drew S).mono ?_;rintro e B ⟨rfl,r,q⟩;have o:=za ((l.out.below (zl _ _).drew).dE q r.rdr);have X:(fun V:World=>V.cell? ⟨w.heap.size,0,none⟩=some (.func (.func 113) #[.pointer (some ⟨g,0,none⟩)] #[])/\V.cell? ⟨w.heap.size,4,none⟩=some (.func (.func 181) #[] #[.pointer (some ⟨d,0,none⟩)])/\V.cell? ⟨w.heap.size+1,1,none⟩=some (.int .i64 i)) B:=⟨o.out.rdg.cell 0,o.out.rdg.cell 4,o.out.ty.cell 1⟩
 clear r q;go_wp2_with fail
 refine c.out _ _ X (fun hHeld=> ?_);clear c K;try simp only[Act.put,zb,ze,zf]
 refine GT.fJ 7 (fun K c=> ?_) rfl (by kernel_rfl);go_simp;refine(eE g s (b+j) Nm B o.out.st.rdr (by omega) (by omega)).mono ?_;rintro e C ⟨rfl,r,q⟩;have u:=za (o.out.dE q r);have O:(fun V:World=>V.cell? ⟨w.heap.size,0,none⟩=some (.func (.func 113) #[.pointer (some ⟨g,0,none⟩)] #[])/\V.cell? ⟨w.heap.size,4,none⟩=some (.func (.func 181) #[] #[.pointer (some ⟨d,0,none⟩)])/\V.cell? ⟨w.heap.size+1,1,none⟩=some (.int .i64 i)) C:=⟨u.out.rdg.cell 0,u.out.rdg.cell 4,u.out.ty.cell 1⟩
 clear r q;go_wp2_with fail
 refine c.out _ _ O (fun hHeld=> ?_);clear c K;try simp only[Act.put,zb,ze,zf]
 refine GT.fJ 8 (fun K c=> ?_) rfl (by kernel_rfl);go_simp;refine(pr (s.extract (b+j) (b+j+Nm)) C).mono ?_;rintro e w3 ⟨rfl,D⟩;have m:=za (u.out.below D);have R:(fun V:World=>V.cell? ⟨w.heap.size,0,none⟩=some (.func (.func 113) #[.pointer (some ⟨g,0,none⟩)] #[])/\V.cell? ⟨w.heap.size,4,none⟩=some (.func (.func 181) #[] #[.pointer (some ⟨d,0,none⟩)])/\V.cell? ⟨w.heap.size+1,1,none⟩=some (.int .i64 i)) w3:=⟨m.out.rdg.cell 0,m.out.rdg.cell 4,m.out.ty.cell 1⟩
 clear D;go_wp2_with fail
 refine c.out _ _ R (fun hHeld=> ?_);clear c K;try simp only[Act.put,zb,ze,zf]
 obtain⟨n0,n1,n2,m0,m1,m2⟩:=gW m.out.res;obtain⟨x,y,U,N,W⟩:=m.out.ends (.string (s.extract (b+j) (b+j+Nm))) (.bool false) (.slice none 0 0);have Z:=za x;have Y:=za y;clear x y;refine GT.pA 9 ?_ rfl (by kernel_rfl);go_simp;go_wp2;have x:=Z.out;have y:=Y.out;refine zk (v:= .agg #[.string (s.extract (b+j) (b+j+Nm)),.bool false,.slice none 0 0]) (by simp[results,yJ,go_sem,U,N,W]) rfl ?_;exact⟨.mk (s.extract (b+j) (b+j+Nm)) false [],_,_,_,b+j+Nm,_,rfl,gq.text false UN.out,x,y,by omega,fun _=>⟨rfl,RI.out,by simp only;omega⟩⟩
def ll.pre (acc:List It)(R:ll):ll:=⟨R.e,acc++R.xs,R.n,R.q⟩
theorem ll.Qy (acc:List It)(x:It)(R:ll):(R.cons x).pre acc=R.pre (acc++ [x]):=by simp[ll.pre,ll.cons]
structure Ub (M:Int)(c:Nat)(s:ByteArray)(T:Nat->Ty)(th:Nat->Nat->Bool)(rest:Nat->Nat->List UInt8->ll):Prop where
 done:∀i n r,c<=i->rest i n r=⟨0,[],n,r⟩
 lack:∀i n k,i<c->k<=s.size->th i k=false->rest i n (s.data.toList.drop k)=⟨0,[],n,s.data.toList.drop k⟩
 next:∀i n k,i<c->k<=s.size->th i k=true->rest i n (s.data.toList.drop k)=if((T i).rd M n (s.data.toList.drop k)).e≠0 then⟨((T i).rd M n (s.data.toList.drop k)).e,[((T i).rd M n (s.data.toList.drop k)).x],((T i).rd M n (s.data.toList.drop k)).n,((T i).rd M n (s.data.toList.drop k)).q⟩else(rest (i+1) ((T i).rd M n (s.data.toList.drop k)).n ((T i).rd M n (s.data.toList.drop k)).q).cons ((T i).rd M n (s.data.toList.drop k)).x
theorem Ub.SQ (M:Int)(c:Nat)(s:ByteArray)(a:Ty):Ub M c s (fun _=>a) (fun _ _=>true) (fun i n r=>tG (fun n r=>a.rd M n r) (c-i) n r) where
 done i n r h:=by rw[show c-i=0 from by omega,tG]
 lack i n k _ _ h:=by cases h
 next i n k h _ _:=by rw[show c-i=(c-(i+1))+1 from by omega,tG]
theorem Ub.ofT (M:Int)(s:ByteArray)(l:List Ty)(c:Int)(o:0<=c):Ub M l.length s (fun i=>l[i]?.getD (.mk 0 0 [] 0)) (fun i k=>decide ((i:Int)<(l.length:Int)-c)||decide (k<s.size)) (fun i n r=>om M (l.drop i) (((l.length:Int)-c).toNat-i) n r) where
 done i n r h:=by rw[zI h,om]
 lack i n k h j b:=by
  rw[yX h,om];simp only[Bool.or_eq_false_iff,xH]at b;rw[zi ⟨by omega,zI (by rw[aa];omega)⟩]
 next i n k h j b:=by
  rw[yX h,om];simp only[Bool.or_eq_true,zY]at b;have d:k<s.size->s.data.toList.drop k≠ []:=fun q e=>by
   have:=xi List.length e;rw[zR,aa]at this;simp at this;omega
  rw[zh (by
   rintro⟨p,m⟩;rcases b with b|b
   ·omega
   exact d b m)]
  simp only[zA h,Option.getD_some,Nat.sub_sub]
structure F7 (w:World)(g gl fb:Nat)(s:ByteArray)(k:Nat)(f m:Int)(acc:List It)(v:Value)(V:World):Prop where
 rdg:af V w.heap.size 240 (kh g gl fb)
 res:af V (w.heap.size+1) 28 #[.string ⟨#[]⟩,.bool false,.slice none 0 0]
 xb:af V (w.heap.size+1+1) 28 #[.string ⟨#[]⟩,.bool true,v]
 its:Acc V (w.heap.size+3) acc v
 st:jG V g gl fb s k f m
 only:ae [g,gl] w V
 siz:w.heap.size+3<=V.heap.size
 glt:g<w.heap.size/\gl<w.heap.size
 fbl:fb<w.heap.size
theorem F7.start {w:World}{g gl b:Nat}{s:ByteArray}{k:Nat}{f m:Int}(h:jG w g gl b s k f m):F7 w g gl b s k f m [] (.slice none 0 0) (((w.alloc (.cells (kh g gl b) 240)).alloc (.cells #[.string ⟨#[]⟩,.bool false,.slice none 0 0] 28)).alloc (.cells #[.string ⟨#[]⟩,.bool true,.slice none 0 0] 28)) where
 rdg:=((af.new w _ _).alloc _).alloc _
 res:=af.alloc (af.at_ (by simp)) _
 xb:=af.at_ (by simp)
 its:=Acc.nil _ _
 st:=h.below ((((zl _ w).alloc (zd _) _).alloc (by simp) _).alloc (by simp;omega) _)
 only:=(((ae.refl _ w).alloc _).alloc _).alloc _
 siz:=by simp
 glt:=⟨h.rdr.lt,h.left.lt⟩
 fbl:=h.box.lt
theorem F7.below {w V V':World}{g gl c:Nat}{s:ByteArray}{k:Nat}{f m:Int}{acc:List It}{v:Value}(h:F7 w g gl c s k f m acc v V)(b:Below V.heap.size V V'):F7 w g gl c s k f m acc v V' where
 rdg:=(b.block _ h.rdg.lt).trans h.rdg
 res:=(b.block _ h.res.lt).trans h.res
 xb:=(b.block _ h.xb.lt).trans h.xb
 its:=h.its.below b
 st:=h.st.below b
 only:=h.only.trans ((ae.ah b (zd _)).mono (by simp))
 siz:=zF h.siz b.size
 glt:=h.glt
 fbl:=h.fbl
theorem F7.dE {w V V':World}{g gl c:Nat}{s:ByteArray}{k i:Nat}{f e m d:Int}{acc:List It}{v:Value}(h:F7 w g gl c s k f m acc v V)(b:ae [g,gl] V V')(j:jG V' g gl c s i e d):F7 w g gl c s i e d acc v V' where
 rdg:=h.rdg.only b (by have:=h.glt;simp;omega)
 res:=h.res.only b (by have:=h.glt;simp;omega)
 xb:=h.xb.only b (by have:=h.glt;simp;omega)
 its:=h.its.only b (by have:=h.glt;simp;omega)
 st:=j
 only:=h.only.trans b
 siz:=zF h.siz b.size
 glt:=h.glt
 fbl:=h.fbl
theorem F7.more {w V V':World}{g gl i:Nat}{s:ByteArray}{k:Nat}{f m:Int}{acc d:List It}{v c:Value}(h:F7 w g gl i s k f m acc v V)(b:V.grownBy V' v.ownBlock)(l:Acc V' (w.heap.size+3) d c):F7 w g gl i s k f m d c (V'.setCell ⟨w.heap.size+1+1,2,none⟩ c) where
 rdg:=(h.rdg.grown b (fun e=>by have:=(h.its.ge _ e).1;omega)).dK (p:=⟨w.heap.size+1+1,2,none⟩) (by simp;omega) _
 res:=(h.res.grown b (fun e=>by have:=(h.its.ge _ e).1;omega)).dK (p:=⟨w.heap.size+1+1,2,none⟩) (by simp) _
 xb:=(h.xb.grown b (fun e=>by have:=(h.its.ge _ e).1;omega)).set 2 c
 its:=l.only (L:= [w.heap.size+1+1]) ((ae.refl _ _).setCell (by simp) _) (by simp)
 st:=⟨af.dK (show af V' g _ _ from af.grown h.st.rdr b (fun e=>by have:=(h.its.ge _ e).1;have:=h.glt;omega)) (p:=⟨w.heap.size+1+1,2,none⟩) (by have:=h.glt;simp;omega) _,
  (h.st.left.grown b (fun e=>by have:=(h.its.ge _ e).1;have:=h.glt;omega)).dK (p:=⟨w.heap.size+1+1,2,none⟩) (by have:=h.glt;simp;omega) _,
  (h.st.box.grown b (fun e=>by have:=(h.its.ge _ e).1;have:=h.fbl;omega)).dK (p:=⟨w.heap.size+1+1,2,none⟩) (by have:=h.fbl;simp;omega) _⟩
 only:=(h.only.grown b (fun j n=> .inr (by have:=(h.its.ge _ n).1;omega))).setCell (by simp;omega) _
 siz:=by have:=h.siz;have:=b.size;simp[World.setCell];omega
 glt:=h.glt
 fbl:=h.fbl
theorem F7.cells {w V V':World}{g gl b:Nat}{s:ByteArray}{k:Nat}{f m:Int}{acc:List It}{v:Value}(h:F7 w g gl b s k f m acc v V)(c:V.grownBy V' v.ownBlock):af V' w.heap.size 240 (kh g gl b)/\af V' (w.heap.size+1+1) 28 #[.string ⟨#[]⟩,.bool true,v]:=
 ⟨h.rdg.grown c (fun e=>by have:=(h.its.ge _ e).1;omega),h.xb.grown c (fun e=>by have:=(h.its.ge _ e).1;omega)⟩
theorem F7.ends {w V:World}{g gl d:Nat}{s:ByteArray}{k:Nat}{f m:Int}{acc:List It}{v:Value}(h:F7 w g gl d s k f m acc v V)(b c:Value):
 jG (((V.setCell ⟨w.heap.size+1,0,none⟩ b).setCell ⟨w.heap.size+1,1,none⟩ c).setCell ⟨w.heap.size+1,2,none⟩ v) g gl d s k f m/\ae [g,gl] w (((V.setCell ⟨w.heap.size+1,0,none⟩ b).setCell ⟨w.heap.size+1,1,none⟩ c).setCell ⟨w.heap.size+1,2,none⟩ v)/\
 (V.setCell ⟨w.heap.size+1,0,none⟩ b).cell? ⟨w.heap.size+1,0,none⟩=some b/\((V.setCell ⟨w.heap.size+1,0,none⟩ b).setCell ⟨w.heap.size+1,1,none⟩ c).cell? ⟨w.heap.size+1,1,none⟩=some c/\(((V.setCell ⟨w.heap.size+1,0,none⟩ b).setCell ⟨w.heap.size+1,1,none⟩ c).setCell ⟨w.heap.size+1,2,none⟩ v).cell? ⟨w.heap.size+1,2,none⟩=some v/\
 Acc (((V.setCell ⟨w.heap.size+1,0,none⟩ b).setCell ⟨w.heap.size+1,1,none⟩ c).setCell ⟨w.heap.size+1,2,none⟩ v) (w.heap.size+3) acc v:=
 ⟨h.st.lB h.res b c v,((h.only.setCell (by simp) _).setCell (by simp) _).setCell (by simp) _,by have:=(h.res.set 0 b).cell 0;simpa using this,by have:=((h.res.set 0 b).set 1 c).cell 1;simpa using this,by have:=(((h.res.set 0 b).set 1 c).set 2 v).cell 2;simpa using this,
  h.its.only (L:= [w.heap.size+1]) ((((ae.refl _ V).setCell (by simp) _).setCell (by simp) _).setCell (by simp) _) (by simp)⟩
theorem qM (F:Nat)(cs:Array Value)(A:Value->Array Value)(hF:(F=220/\∃bt:Nat,cs= #[.pointer (some ⟨bt,0,none⟩)]/\A=fun v=> #[v,.pointer (some ⟨bt,0,none⟩)])\/F=221/\∃bt br:Nat,cs= #[.pointer (some ⟨bt,0,none⟩),.pointer (some ⟨br,0,none⟩)]/\A=fun v=> #[v,.pointer (some ⟨bt,0,none⟩),.pointer (some ⟨br,0,none⟩)])(c:Nat)(T:Nat->Ty)(th:Nat->Nat->Bool)(rest:Nat->Nat->List UInt8->ll)(G:Nat->Option Addr)(dn D:Nat->Nat)(w:World)(g gl y:Nat)(s:ByteArray)(k:Nat)(f m M:Int)(n0:Nat)(hS:jG w g gl y s k f m)(hk:k<=s.size)(hs:s.size<=1099511627776)(hc:c<=1024)(E:Int)(R:ll)(HR:Ub M c s T th rest)
 (ak:f=0->m=M-n0/\R=rest 0 n0 (s.data.toList.drop k)/\E=R.e) (al:f≠0->E=f)
 (S:Hid (∀i,i<c->∀V H f' m',ae [g,gl] w V->jG V g gl y s H f' m'->H<=s.size->Calls prog F (A (.int .i64 i)) V fun e w'=>e= .returned (.tuple #[.agg #[.int .i64 (T i).kind,.int .i64 (T i).size,.slice (G i) (dn i) (D i),.int .i64 (T i).tail],.bool (th i H)])/\Below V.heap.size V w'))
 (HV:Hid (∀i,i<c->∀V H (n':Nat),ae [g,gl] w V->jG V g gl y s H 0 (M-n')->H<=s.size->Calls prog 183 #[iw g gl y,.agg #[.int .i64 (T i).kind,.int .i64 (T i).size,.slice (G i) (dn i) (D i),.int .i64 (T i).tail]] V fun e w'=>gV V g gl y s M ((T i).rd M n' (s.data.toList.drop H)) e w')):
 Calls prog 219 #[iw g gl y,.int .i64 c,.func (.func F) #[] cs] w fun e w'=>gV w g gl y s M ⟨E,.mk ⟨#[]⟩ true R.xs,R.n,R.q⟩ e w':=by
 have cG:=za (F7.start hS);have ag:=za HR;have H0:Hid ((f=0->∃B:Nat,m=M-B/\R=(rest 0 B (s.data.toList.drop k)).pre []/\E=R.e)/\(f≠0->E=f)):=za ⟨fun h=>by obtain⟨o,p,C⟩:=ak h;exact⟨n0,o,by rw[p];rfl,C⟩,al⟩;clear hS ak al HR;unfold kh at cG;unfold iw;unfold iw at HV;have S:=S.out;rcases hF with⟨rfl,bt,rfl,rfl⟩|⟨rfl,bt,br,rfl,rfl⟩;all_goals
  dsimp only at S;have S:=za S;go_enter func219,ntmps219
  go_wp2_with fail
  go_loopw [13] (fun i wr=>∃(j r:Nat) (F I:Int) (acc:List It) (v:Value),j<=c/\i= .int .i64 j/\Hid (F7 w g gl y s r F I acc v wr)/\r<=s.size/\acc.length<=j/\Hid ((F=0->∃B:Nat,I=M-B/\R=(rest j B (s.data.toList.drop r)).pre acc/\E=R.e)/\(F≠0->E=F))) (fun i _=>c-(intOf i).toNat)
  case atStart=>exact⟨0,k,f,m,[],_,by omega,rfl,cG,hk,by simp,H0⟩
  case round=>
   obtain⟨j,r,F,I,acc,v,hj,rfl,d,Z,lJ,Y⟩:=hrel;obtain⟨O,U,W,rfl,S6,av,az⟩:=d.out.its.bT;by_cases aD:j<c
   ·have S7:=za (S.out j aD wr r F I d.out.only d.out.st Z);have ao:=za (HV.out j aD);obtain⟨b,z⟩:∃b,th j r=b:=⟨_,rfl⟩
    have HB:=za z;rw[z]at S7;obtain⟨L,ah⟩:∃u,dn j=u:=⟨_,rfl⟩
    rw[ah]at S7 ao;clear z S HV ah;by_cases G':b=true/\F=0
    ·obtain⟨rfl,rfl⟩:=G';go_wp2_with fail
     refine S7.out.mono ?_;rintro e l ⟨rfl,z⟩;have x:=za (d.out.below z);obtain⟨r0,r1,r2,r3,r4,r5⟩:=fh (show af l w.heap.size 240 #[_,_,_,_,_,_]from x.out.rdg);have cl:=x.out.siz;have ai:w.heap.size<l.heap.size:=by omega
     have d:=za (x.out.below ((zl _ l).alloc (zd _) (.cells #[.int .i64 (T j).kind,.int .i64 (T j).size,.slice (G j) L (D j),.int .i64 (T j).tail] 43)));clear z;go_wp2_with fail
     refine(bw g s r 0 _ (x.out.st.rdr.alloc _)).mono ?_;rintro e w' ⟨rfl,rfl⟩;have HT:=za (af.new l 43 #[.int .i64 (T j).kind,.int .i64 (T j).size,.slice (G j) L (D j),.int .i64 (T j).tail]);generalize jH:l.alloc (.cells #[.int .i64 (T j).kind,.int .i64 (T j).size,.slice (G j) L (D j),.int .i64 (T j).tail] 43)=W2 at*;obtain⟨B,rfl,hR,hE⟩:=Y.out.1 (by simp);have LR:=za (And.intro hR hE);have mV:=d.out.glt;have HG:Hid (l.heap.size∉ [g,gl]):=za (by simp;omega)
     have RK:Hid (∀V,af V w.heap.size 240 (kh g gl y)/\af V (w.heap.size+1+1) 28 #[.string ⟨#[]⟩,.bool true,.slice O U W]->af V l.heap.size 43 #[.int .i64 (T j).kind,.int .i64 (T j).size,.slice (G j) L (D j),.int .i64 (T j).tail]->V.cell? ⟨w.heap.size,0,none⟩=some (.func (.func 113) #[.pointer (some ⟨g,0,none⟩)] #[])/\V.cell? ⟨w.heap.size,1,none⟩=some (.func (.func 140) #[.pointer (some ⟨g,0,none⟩)] #[])/\V.cell? ⟨w.heap.size,2,none⟩=some (.func (.func 114) #[.pointer (some ⟨g,0,none⟩)] #[])/\V.cell? ⟨w.heap.size,3,none⟩=some (.func (.func 138) #[.pointer (some ⟨g,0,none⟩)] #[])/\V.cell? ⟨w.heap.size,4,none⟩=some (.func (.func 181) #[] #[.pointer (some ⟨y,0,none⟩)])/\V.cell? ⟨w.heap.size,5,none⟩=some (.pointer (some ⟨gl,0,none⟩))/\V.cell? ⟨l.heap.size,0,none⟩=some (.int .i64 (T j).kind)/\V.cell? ⟨l.heap.size,1,none⟩=some (.int .i64 (T j).size)/\V.cell? ⟨l.heap.size,2,none⟩=some (.slice (G j) L (D j))/\V.cell? ⟨l.heap.size,3,none⟩=some (.int .i64 (T j).tail)/\V.cell? ⟨w.heap.size+1+1,2,none⟩=some (.slice O U W)/\V.frozen? ⟨w.heap.size+1+1,2,none⟩=false):=za (fun V o p=>⟨o.1.cell 0,o.1.cell 1,o.1.cell 2,o.1.cell 3,o.1.cell 4,o.1.cell 5,p.cell 0,p.cell 1,p.cell 2,p.cell 3,o.2.cell 2,o.2.frozen 2⟩);have an:=za (ao.out W2.drew r B d.out.only.drew (show jG W2.drew g gl y s r 0 (M-B)from d.out.st.drew) Z);have uF:=za (ag.out.next j B r aD Z HB.out);obtain⟨Rj,aj⟩:∃Rj,(T j).rd M B (s.data.toList.drop r)=Rj:=⟨_,rfl⟩
     rw[aj]at an uF;clear hR hE mV aj cl r0 r1 r2 r3 r4 r5;go_wp2_with fail
     refine aC 8 (fun V=>V.cell? ⟨w.heap.size,0,none⟩=some (.func (.func 113) #[.pointer (some ⟨g,0,none⟩)] #[])/\V.cell? ⟨w.heap.size,1,none⟩=some (.func (.func 140) #[.pointer (some ⟨g,0,none⟩)] #[])/\V.cell? ⟨w.heap.size,2,none⟩=some (.func (.func 114) #[.pointer (some ⟨g,0,none⟩)] #[])/\V.cell? ⟨w.heap.size,3,none⟩=some (.func (.func 138) #[.pointer (some ⟨g,0,none⟩)] #[])/\V.cell? ⟨w.heap.size,4,none⟩=some (.func (.func 181) #[] #[.pointer (some ⟨y,0,none⟩)])/\V.cell? ⟨w.heap.size,5,none⟩=some (.pointer (some ⟨gl,0,none⟩))/\V.cell? ⟨l.heap.size,0,none⟩=some (.int .i64 (T j).kind)/\V.cell? ⟨l.heap.size,1,none⟩=some (.int .i64 (T j).size)/\V.cell? ⟨l.heap.size,2,none⟩=some (.slice (G j) L (D j))/\V.cell? ⟨l.heap.size,3,none⟩=some (.int .i64 (T j).tail)/\V.cell? ⟨w.heap.size+1+1,2,none⟩=some (.slice O U W)/\V.frozen? ⟨w.heap.size+1+1,2,none⟩=false) (by kernel_rfl) (by kernel_rfl) ?_;have hHeld:=RK.out W2.drew ⟨d.out.rdg.drew,d.out.xb.drew⟩ HT.out.drew;refine GT.jV [0,1,2,3] hHeld (fun _ _ _ _ _ h=>h) (by kernel_rfl) ?_;repeat(refine .c rfl rfl (fun V hV=>by go_simp<;>with_reducible rfl) ?_;simp only[Act.put,zb,ze,zf])
     refine .nil ?_;refine GT.fJ 4 (fun ab K=> ?_) rfl (by kernel_rfl);go_simp;refine an.out.mono ?_;rintro e w3 ⟨X,c0,c1,c2,H,m',rfl,hX,tC,ho,Ad,i'⟩;have uJ:=za ((d.out.below (zl _ W2).drew).dE ho tC);have ad:=za (HT.out.drew.only ho HG.out);have UO:=za i';have HX:=za hX;obtain⟨ax,bx,rfl,rfl,rfl,_⟩:=hX.open_;clear hX tC ho i';go_wp2_with fail
     refine K.out _ _ (RK.out w3 ⟨uJ.out.rdg,uJ.out.xb⟩ ad.out) (fun hHeld=> ?_);clear K ab;try simp only[Act.put,zb,ze,zf]
     refine GT.fJ 5 (fun ab K=> ?_) rfl (by kernel_rfl);go_simp;refine K.out _ _ (RK.out _ ⟨uJ.out.rdg.alloc _,uJ.out.xb.alloc _⟩ (ad.out.alloc _)) (fun hHeld=> ?_);clear K ab;try simp only[Act.put,zb,ze,zf]
     refine GT.fJ 6 (fun ab K=> ?_) rfl (by kernel_rfl);have au:Hid (gq (w3.alloc (.cells #[.string X.text,.bool X.list,.slice ax X.sub.length bx] 28)) (fun q=>w.heap.size+3<=q/\(Value.slice O U W).ownBlock≠some q) X (.string X.text) (.bool X.list) (.slice ax X.sub.length bx)):=za ((HX.out.below ((zl _ w3).alloc (zd _) _)).fe (fun q _ hq=>⟨by have:=d.out.siz;simp at hq;omega,fun e=>by have:=(d.out.its.ge _ e).2;simp at hq;omega⟩));have ar:acc.length<=1000000:=by omega
     have RL:w.heap.size+3<=(w3.alloc (.cells #[.string X.text,.bool X.list,.slice ax X.sub.length bx] 28)).heap.size:=by have:=uJ.out.siz;simp;omega
     refine qD (by rfl) (.tmp 31) (.tmp 35) (by rfl) (w.heap.size+3) acc (by rfl) (uJ.out.its.below ((zl _ w3).alloc (zd _) _)) X au.out _ (by rfl) (by simp) (by simp) (by simp) ar RL ?_;intro g' n' aq w5 Oy kJ eV ay;have Bw:=za (uJ.out.below ((zl _ w3).alloc (zd _) (.cells #[.string X.text,.bool X.list,.slice ax X.sub.length bx] 28)));have RE:=za ((ad.out.alloc _).grown eV (fun e=>by have:=(x.out.its.ge _ e).2;omega));have rB:=za (Bw.out.more eV kJ);refine K.out _ _ (RK.out w5 (Bw.out.cells eV) RE.out) (fun hHeld=> ?_);clear K ab;try simp only[Act.put,zb,ze,zf]
     refine GT.jV [7] hHeld (fun _ _ _ _ _ h=>h) (by kernel_rfl) ?_;refine .c rfl rfl (fun V hV=>by go_simp<;>with_reducible rfl) ?_;simp only[Act.put,zb,ze,zf];refine .nil ?_;refine GT.pA 8 ?_ rfl (by kernel_rfl);obtain⟨z0,z1,z2,z3,z4,z5,z6,z7,z8,z9,aA,aw⟩:=hHeld;clear kJ eV;go_simp;all_goals
      go_wp2;go_roundw
      case rel=>
       refine⟨j+1,H,Rj.e,m',acc++ [X],_,by omega,by go_num,rB,Ad,by simp;omega,za ⟨fun h0=> ?_,fun h0=> ?_⟩⟩
       ·obtain⟨g1,g2,g3⟩:=UO.out h0;have n:=uF.out;rw[zh (by simp[h0])]at n;refine⟨Rj.n,g3, ?_,LR.out.2⟩;rw[LR.out.1,n,ll.Qy,g1,g2]
       have n:=uF.out;rw[zi h0]at n;rw[LR.out.2,LR.out.1,n];rfl
      case measure=>simp[intOf];omega
    have aa:Hid (E=F/\(E=0->R.xs=acc/\R.q=s.data.toList.drop r/\I=M-R.n)):=za (by
     by_cases hF:F=0
     ·obtain⟨B,o,p,C⟩:=Y.out.1 hF;rw[ag.out.lack _ _ _ aD Z (by cases b<;>simp_all[HB.out])]at p;subst p;exact⟨by rw[C,hF];rfl,fun _=>⟨by simp[ll.pre],rfl,o⟩⟩
     exact⟨Y.out.2 hF,fun h=>absurd ((Y.out.2 hF).symm.trans h) hF⟩)
    obtain rfl:F=E:=aa.out.1.symm;cases b with
    |false=>
     go_wp2_with fail
     refine S7.out.mono ?_;rintro e l ⟨rfl,z⟩;have x:=za (d.out.below z);obtain⟨r0,r1,r2,r3,r4,r5⟩:=fh (show af l w.heap.size 240 #[_,_,_,_,_,_]from x.out.rdg);have cl:=x.out.siz;have ai:w.heap.size<l.heap.size:=by omega
     have d:=za (x.out.below ((zl _ l).alloc (zd _) (.cells #[.int .i64 (T j).kind,.int .i64 (T j).size,.slice (G j) L (D j),.int .i64 (T j).tail] 43)));clear z;obtain⟨n0,n1,n2,m0,m1,m2⟩:=gW d.out.res;obtain⟨x0,x1,x2,_,_,_⟩:=gW d.out.xb;obtain⟨n,N,y0,y1,y2,J⟩:=d.out.ends (.string ⟨#[]⟩) (.bool true);have E1:=za n;have E2:=za N;have HA:=za (J.list (by omega));clear n N J;go_wp2;have n:=E1.out;refine zk (v:= .agg #[.string ⟨#[]⟩,.bool true,.slice O U W]) (by simp[results,results219,go_sem,y0,y1,y2]) rfl ?_;refine⟨_,_,_,_,r,I,rfl,HA.out.fe (fun _ _ h=>by omega),n,E2.out,Z,fun h=> ?_⟩;obtain⟨o,p,C⟩:=aa.out.2 h;exact⟨by rw[o],p,C⟩
    |true=>
     have hF:(F !=0)=true:=yL.2 (fun h=>G' ⟨rfl,h⟩);go_wp2_with fail
     refine S7.out.mono ?_;rintro e l ⟨rfl,z⟩;have x:=za (d.out.below z);obtain⟨r0,r1,r2,r3,r4,r5⟩:=fh (show af l w.heap.size 240 #[_,_,_,_,_,_]from x.out.rdg);have cl:=x.out.siz;have ai:w.heap.size<l.heap.size:=by omega
     have d:=za (x.out.below ((zl _ l).alloc (zd _) (.cells #[.int .i64 (T j).kind,.int .i64 (T j).size,.slice (G j) L (D j),.int .i64 (T j).tail] 43)));clear z;go_wp2_with fail
     refine(bw g s r F _ (x.out.st.rdr.alloc _)).mono ?_;rintro e w' ⟨rfl,rfl⟩;obtain⟨n0,n1,n2,m0,m1,m2⟩:=gW d.out.res;obtain⟨x0,x1,x2,_,_,_⟩:=gW d.out.xb;obtain⟨n,N,y0,y1,y2,J⟩:=d.out.ends (.string ⟨#[]⟩) (.bool true);have E1:=za n;have E2:=za N;have HA:=za (J.list (by omega));clear n N J;go_wp2;have n:=E1.out;refine zk (v:= .agg #[.string ⟨#[]⟩,.bool true,.slice O U W]) (by simp[results,results219,go_sem,y0,y1,y2]) rfl ?_;refine⟨_,_,_,_,r,I,rfl,HA.out.fe (fun _ _ h=>by omega),n,E2.out,Z,fun h=> ?_⟩;obtain⟨o,p,C⟩:=aa.out.2 h;exact⟨by rw[o],p,C⟩
   have aa:Hid (E=F/\(E=0->R.xs=acc/\R.q=s.data.toList.drop r/\I=M-R.n)):=za (by
    by_cases hF:F=0
    ·obtain⟨B,o,p,C⟩:=Y.out.1 hF;rw[ag.out.done _ _ _ (by omega)]at p;subst p;exact⟨by rw[C,hF];rfl,fun _=>⟨by simp[ll.pre],rfl,o⟩⟩
    exact⟨Y.out.2 hF,fun h=>absurd ((Y.out.2 hF).symm.trans h) hF⟩)
   obtain rfl:F=E:=aa.out.1.symm;obtain⟨n0,n1,n2,m0,m1,m2⟩:=gW d.out.res;obtain⟨x0,x1,x2,_,_,_⟩:=gW d.out.xb;obtain⟨n,N,y0,y1,y2,J⟩:=d.out.ends (.string ⟨#[]⟩) (.bool true);have E1:=za n;have E2:=za N;have HA:=za (J.list (by omega));clear n N J;go_wp2;have n:=E1.out;refine zk (v:= .agg #[.string ⟨#[]⟩,.bool true,.slice O U W]) (by simp[results,results219,go_sem,y0,y1,y2]) rfl ?_;refine⟨_,_,_,_,r,I,rfl,HA.out.fe (fun _ _ h=>by omega),n,E2.out,Z,fun h=> ?_⟩;obtain⟨o,p,C⟩:=aa.out.2 h;exact⟨by rw[o],p,C⟩
theorem uy.K7 {w V V':World}{g gl c:Nat}{s:ByteArray}{k i:Nat}{f e m d:Int}{tc:Array Value}(h:uy w g gl c s k f m tc V)(b:ae [g,gl] V V')(j:jG V' g gl c s i e d):uy w g gl c s i e d tc V' where
 rdg:=h.rdg.only b (by simp[h.rdg.Eh h.st.rdr (by decide),h.rdg.Eh h.st.left (by decide)])
 ty:=h.ty.only b (by simp[h.ty.Eh h.st.rdr (by decide),h.ty.Eh h.st.left (by decide)])
 res:=h.res.only b (by simp[h.res.Eh h.st.rdr (by decide),h.res.Eh h.st.left (by decide)])
 st:=j
 only:=h.only.trans b
 siz:=zF h.siz b.size
theorem gq.lB {w:World}{B b:Nat}{X:It}{c d e:Value}(h:gq w (B<= ·) X c d e)(l:b<B)(j i k:Value):gq (((w.setCell ⟨b,0,none⟩ j).setCell ⟨b,1,none⟩ i).setCell ⟨b,2,none⟩ k) (B<= ·) X c d e:=
 h.only (L:= [b]) ((((ae.refl _ w).setCell (by simp) _).setCell (by simp) _).setCell (by simp) _) (by simp;omega) (fun _ _ h=>h)
theorem Jb (a:Ty)(D:Nat)(B:Nat)(A:Option Addr)(cap:Nat)(w:World)(g gl p:Nat)(s:ByteArray)(c n:Nat)(M:Int)(hS:jG w g gl p s c 0 (M-n))(hk:c<=s.size)(hs:s.size<=1099511627776)(hM:¬M<=n)(CM:M<=1024)(S5:D<=1024)(hL:ba w)(hg:0<g)(mV:0<gl)
 (hT:fc w B [a] A 0) (hB:B<=w.heap.size) (ak:B<=g) (CB:B<=gl)
 (IH:Hid (∀V c0 c1 c2 c3 c (n:Nat),cD V B a c0 c1 c2 c3->B<=V.heap.size->jG V g gl p s c 0 (M-n)->c<=s.size->ba V->Calls prog 183 #[iw g gl p,.agg #[c0,c1,c2,c3]] V fun e w'=>gV V g gl p s M (a.rd M n (s.data.toList.drop c)) e w')):
 Calls prog 183 #[iw g gl p,.agg #[.int .i64 4,.int .i64 D,.slice A [a].length cap,.int .i64 0]] w fun e w'=>gV w g gl p s M ((Ty.mk 4 D [a] 0).rd M n (s.data.toList.drop c)) e w':=by
 have aD:=hS.rdr.lt;have jI:=hS.left.lt;have d0:decide (M-(n:Int)<=0)=false:=zu (by omega);rw[C8 hM];have GY:=za (fun V (hV:jG V g gl p s c 0 (M-n-1)) (hl:ba V)=>Cq g gl p s c D _ V hV hk (by omega) (by omega) hl (by omega));have n7:=fun(h0:(aw (s.data.toList.drop c)).2.2=0)=>(iS (s.data.toList.drop c) (aw (s.data.toList.drop c)).1 (aw (s.data.toList.drop c)).2.1 (by rw[<-h0])).2.1
 rw[zR,aa]at n7;have ah:=ow (aw (s.data.toList.drop c)) D c;obtain⟨b,o,t0,t1,t2,t3,rfl,fA,e0,j,k,e3,oF⟩:=hT.at_ 0 (by simp);simp only[zM,Nat.zero_mul,y8,yQ]at e0 j k e3 oF;obtain⟨dA,dc,rfl,rfl,rfl,rfl,_⟩:=oF.open_;have Wd:=za oF;have HE:=za (And.intro e0 (And.intro j (And.intro k e3)));have N9:=za hL;obtain⟨ab,ta,tl,ez,et,el⟩:∃(ab ta:Int) (tl:List Ty),ab=D/\ta=0/\tl= [a]:=⟨_,_,_,rfl,rfl,rfl⟩
 rw[<-et,<-ez];obtain⟨A,hA⟩:∃A,(some (⟨b,o,none⟩:Addr))=A:=⟨_,rfl⟩
 rw[hA];have aj:=za hA;rw[show [a].length=tl.length from by rw[el]];clear hA hT oF e0 j k e3;have H:=za (uy.start (tc:= #[.int .i64 (4),.int .i64 ab,.slice A tl.length cap,.int .i64 ta]) hS);generalize mN:(((w.alloc (.cells (kh g gl p) 240)).alloc (.cells #[.int .i64 (4),.int .i64 ab,.slice A tl.length cap,.int .i64 ta] 43)).alloc (.cells #[.string ⟨#[]⟩,.bool false,.slice none 0 0] 28))=W3 at*;unfold kh at mN;obtain⟨N,S,W,p3,Z,R⟩:=fh (show af W3 w.heap.size 240 #[_,_,_,_,_,_]from H.out.rdg);obtain⟨L,q1,Y,q3,_⟩:=aU H.out.ty;have l0:W3.cell? ⟨gl,0,none⟩=some (.int .i64 (M-n)):=H.out.st.left.cell 0;have l1:=H.out.st.left.frozen 0;subst ez et;have ag:tl.length=1:=by rw[el];rfl
 rw[ag]at mN H⊢;clear el ag;have RJ:=fun V (h:uy w g gl p s c 0 (M-n-1) #[.int .i64 4,.int .i64 D,.slice A 1 cap,.int .i64 0] V)=>hL.only h.only (by simp;omega)
 have AM:=za RJ;clear RJ hL;generalize aw (s.data.toList.drop c)=ai at*;obtain⟨Nm,O,Ne⟩:=ai;simp only at n7 ah⊢;rcases ah with⟨y,hE,G8,hK⟩|⟨y,C,hE,G8,hK⟩|⟨y,C,hE,G8,hK⟩
 ·rw[zi y];rw[hE,G8,hK]at GY;have l:=za (H.out.less (M-n-1));generalize sB:W3.setCell ⟨gl,0,none⟩ (.int .i64 (M-n-1))=q at*;clear L q1 Y q3;obtain⟨N,S,W,p3,Z,R⟩:=fh (show af q w.heap.size 240 #[_,_,_,_,_,_]from l.out.rdg);obtain⟨L,q1,Y,q3,_⟩:=aU l.out.ty;unfold iw;clear hS;go_enter yV,yR
  go_wp2_with fail
  have qX:ba q:=AM.out q l.out;refine(GY.out q l.out.st qX).mono ?_;rintro e z ⟨rfl,J,m⟩;have d:=za (l.out.dE m J.rdr);obtain⟨N,S,W,p3,Z,R⟩:=fh (show af z w.heap.size 240 #[_,_,_,_,_,_]from d.out.rdg);clear J m;go_wp2_with fail
  refine(qM _ _ _ (.inl ⟨rfl,w.heap.size+1,rfl,rfl⟩) 0 (fun _=>a) (fun _ _=>true) (fun i n r=>tG (fun n r=>a.rd M n r) (0-i) n r) (fun _=>dA) (fun _=>a.sub.length) (fun _=>dc) z g gl p s c Ne _ M (n+1) d.out.st hk hs (by omega) Ne ⟨0,[],0,[]⟩ (Ub.SQ M 0 s a) (fun h=>absurd h y) (fun _=>rfl) (za fun i hi=>by omega) (za fun i hi=>by omega)).mono ?_;rintro e w2 ⟨X,c0,c1,c2,F,U,rfl,u,I,m,G,K⟩;obtain⟨x,bx,rfl,rfl,rfl,_⟩:=u.open_;have E:=za (d.out.K7 m I);have HX:=za (u.lB (b:=w.heap.size+1+1) (by have:=d.out.siz;omega) (.string X.text) (.bool X.list) (.slice x X.sub.length bx));have UO:=za K;clear u I m K;obtain⟨n0,n1,n2,m0,m1,m2⟩:=gW E.out.res;obtain⟨j,k,y0,y1,y2⟩:=E.out.ends (.string X.text) (.bool X.list) (.slice x X.sub.length bx);have E1:=za j;have E2:=za k;clear j k;go_wp2;have j:=E1.out;have k:=E2.out;refine zk (v:= .agg #[.string X.text,.bool X.list,.slice x X.sub.length bx]) (by simp[results,yJ,go_sem,y0,y1,y2]) rfl ?_;exact⟨X,_,_,_,F,U,rfl,HX.out.fe (fun _ _ h=>by have:=d.out.siz;omega),j,k,G,fun h=>absurd h y⟩
 ·rw[zh (by rw[y];simp),zi (by omega)];rw[hE,G8,hK]at GY;have l:=za (H.out.less (M-n-1));generalize sB:W3.setCell ⟨gl,0,none⟩ (.int .i64 (M-n-1))=q at*;clear L q1 Y q3;obtain⟨N,S,W,p3,Z,R⟩:=fh (show af q w.heap.size 240 #[_,_,_,_,_,_]from l.out.rdg);obtain⟨L,q1,Y,q3,_⟩:=aU l.out.ty;unfold iw;clear hS;go_enter yV,yR
  go_wp2_with fail
  have qX:ba q:=AM.out q l.out;refine(GY.out q l.out.st qX).mono ?_;rintro e z ⟨rfl,J,m⟩;have d:=za (l.out.dE m J.rdr);obtain⟨N,S,W,p3,Z,R⟩:=fh (show af z w.heap.size 240 #[_,_,_,_,_,_]from d.out.rdg);clear J m;go_wp2_with fail
  refine(qM _ _ _ (.inl ⟨rfl,w.heap.size+1,rfl,rfl⟩) 0 (fun _=>a) (fun _ _=>true) (fun i n r=>tG (fun n r=>a.rd M n r) (0-i) n r) (fun _=>dA) (fun _=>a.sub.length) (fun _=>dc) z g gl p s c 5 _ M (n+1) d.out.st hk hs (by omega) 5 ⟨0,[],0,[]⟩ (Ub.SQ M 0 s a) (fun h=>absurd h (by decide)) (fun _=>rfl) (za fun i hi=>by omega) (za fun i hi=>by omega)).mono ?_;rintro e w2 ⟨X,c0,c1,c2,F,U,rfl,u,I,m,G,K⟩;obtain⟨x,bx,rfl,rfl,rfl,_⟩:=u.open_;have E:=za (d.out.K7 m I);have HX:=za (u.lB (b:=w.heap.size+1+1) (by have:=d.out.siz;omega) (.string X.text) (.bool X.list) (.slice x X.sub.length bx));have UO:=za K;clear u I m K;obtain⟨n0,n1,n2,m0,m1,m2⟩:=gW E.out.res;obtain⟨j,k,y0,y1,y2⟩:=E.out.ends (.string X.text) (.bool X.list) (.slice x X.sub.length bx);have E1:=za j;have E2:=za k;clear j k;go_wp2;have j:=E1.out;have k:=E2.out;refine zk (v:= .agg #[.string X.text,.bool X.list,.slice x X.sub.length bx]) (by simp[results,yJ,go_sem,y0,y1,y2]) rfl ?_;exact⟨X,_,_,_,F,U,rfl,HX.out.fe (fun _ _ h=>by have:=d.out.siz;omega),j,k,G,fun h=>absurd h (show¬(5:Int)=0 by decide)⟩
 rw[zh (by rw[y];simp),zh (by omega)];rw[hE,G8,hK]at GY;have aS:=n7 y;rw[xJ];show Calls _ _ _ _ fun e w'=>gV w g gl p s M ⟨(tG (fun n r=>a.rd M n r) Nm (n+1) (s.data.toList.drop (c+O))).e,.mk ⟨#[]⟩ true (tG (fun n r=>a.rd M n r) Nm (n+1) (s.data.toList.drop (c+O))).xs,(tG (fun n r=>a.rd M n r) Nm (n+1) (s.data.toList.drop (c+O))).n,(tG (fun n r=>a.rd M n r) Nm (n+1) (s.data.toList.drop (c+O))).q⟩ e w'
 obtain⟨ad,hR⟩:∃ad,tG (fun n r=>a.rd M n r) Nm (n+1) (s.data.toList.drop (c+O))=ad:=⟨_,rfl⟩
 rw[hR];have Es:=za hR;clear hR;have l:=za (H.out.less (M-n-1));generalize sB:W3.setCell ⟨gl,0,none⟩ (.int .i64 (M-n-1))=q at*;clear L q1 Y q3;obtain⟨N,S,W,p3,Z,R⟩:=fh (show af q w.heap.size 240 #[_,_,_,_,_,_]from l.out.rdg);obtain⟨L,q1,Y,q3,_⟩:=aU l.out.ty;unfold iw;clear hS;go_enter yV,yR
 go_wp2_with fail
 have qX:ba q:=AM.out q l.out;refine(GY.out q l.out.st qX).mono ?_;rintro e z ⟨rfl,J,m⟩;have d:=za (l.out.dE m J.rdr);obtain⟨N,S,W,p3,Z,R⟩:=fh (show af z w.heap.size 240 #[_,_,_,_,_,_]from d.out.rdg);clear J m;go_wp2_with fail
 have oG:af z (w.heap.size+1) 43 #[.int .i64 4,.int .i64 D,.slice (some ⟨b,o,none⟩) 1 cap,.int .i64 0]:=by rw[aj.out];exact d.out.ty
 have kY:∀V,ae [g,gl] z V->ae [g,gl] w V/\Below B w V:=fun V h=>⟨d.out.only.trans h,(d.out.only.trans h).below hB (by simp;omega)⟩
 refine(qM _ _ _ (.inl ⟨rfl,w.heap.size+1,rfl,rfl⟩) Nm (fun _=>a) (fun _ _=>true) (fun i n r=>tG (fun n r=>a.rd M n r) (Nm-i) n r) (fun _=>dA) (fun _=>a.sub.length) (fun _=>dc) z g gl p s (c+O) 0 _ M (n+1) d.out.st (by omega) hs (by omega) ad.e ad (Ub.SQ M Nm s a) (fun _=>⟨by omega,by rw[<-Es.out];simp,rfl⟩) (fun h=>absurd rfl h) (za fun i hi V F f' U S8 hV G=>by
  obtain⟨y,C⟩:=kY V S8;obtain⟨e0,j,k,e3⟩:=HE.out;exact XD i (w.heap.size+1) b o 1 cap 4 D 0 _ _ _ _ V (oG.only S8 (by simp;omega)) (by omega) (by omega) ((C.cell fA).trans e0) ((C.cell fA).trans j) ((C.cell fA).trans k) ((C.cell fA).trans e3) (by have:=C.size;omega) _ _ _ _ _ _ rfl rfl rfl rfl) (za fun i hi V F n' S8 hV G=>by
  obtain⟨y,C⟩:=kY V S8;exact IH.out V _ _ _ _ F n' (Wd.out.below C) (by have:=C.size;omega) hV G (N9.out.only y (by simp;omega)))).mono ?_
 rintro e w2 ⟨X,c0,c1,c2,F,U,rfl,u,I,m,G,K⟩;obtain⟨x,bx,rfl,rfl,rfl,_⟩:=u.open_;have E:=za (d.out.K7 m I);have HX:=za (u.lB (b:=w.heap.size+1+1) (by have:=d.out.siz;omega) (.string X.text) (.bool X.list) (.slice x X.sub.length bx));have UO:=za K;clear u I m K;obtain⟨n0,n1,n2,m0,m1,m2⟩:=gW E.out.res;obtain⟨j,k,y0,y1,y2⟩:=E.out.ends (.string X.text) (.bool X.list) (.slice x X.sub.length bx);have E1:=za j;have E2:=za k;clear j k;go_wp2;have j:=E1.out;have k:=E2.out;refine zk (v:= .agg #[.string X.text,.bool X.list,.slice x X.sub.length bx]) (by simp[results,yJ,go_sem,y0,y1,y2]) rfl ?_;exact⟨X,_,_,_,F,U,rfl,HX.out.fe (fun _ _ h=>by have:=d.out.siz;omega),j,k,G,UO.out⟩
theorem Nk {w:World}{B:Nat}{l:List Ty}{A:Option Addr}(h:fc w B l A 0):∃p:Nat->Option Addr×Nat,∀i (hi:i<l.length),∃b o,A=some ⟨b,o,none⟩/\b<B/\w.cell? ⟨b,o+i*4,none⟩=some (.int .i64 (l[i]).kind)/\w.cell? ⟨b,o+i*4+1,none⟩=some (.int .i64 (l[i]).size)/\w.cell? ⟨b,o+i*4+2,none⟩=some (.slice (p i).1 (l[i]).sub.length (p i).2)/\w.cell? ⟨b,o+i*4+3,none⟩=some (.int .i64 (l[i]).tail)/\cD w B l[i] (.int .i64 (l[i]).kind) (.int .i64 (l[i]).size) (.slice (p i).1 (l[i]).sub.length (p i).2) (.int .i64 (l[i]).tail):=by
 have key:∀i,∃p:Option Addr×Nat,∀(hi:i<l.length),∃b o,A=some ⟨b,o,none⟩/\b<B/\w.cell? ⟨b,o+i*4,none⟩=some (.int .i64 (l[i]).kind)/\w.cell? ⟨b,o+i*4+1,none⟩=some (.int .i64 (l[i]).size)/\w.cell? ⟨b,o+i*4+2,none⟩=some (.slice p.1 (l[i]).sub.length p.2)/\w.cell? ⟨b,o+i*4+3,none⟩=some (.int .i64 (l[i]).tail)/\cD w B l[i] (.int .i64 (l[i]).kind) (.int .i64 (l[i]).size) (.slice p.1 (l[i]).sub.length p.2) (.int .i64 (l[i]).tail):=fun i=>by
  by_cases hi:i<l.length
  ·obtain⟨b,o,r,s,u,x,q,n,k,j,e,d,c⟩:=h.at_ i hi;obtain⟨m,cap,rfl,rfl,rfl,rfl,_⟩:=c.open_;simp only[zM]at k j e d;exact⟨(m,cap),fun _=>⟨b,o,q,n,k,j,e,d,c⟩⟩
  exact⟨(none,0),fun h=>absurd h hi⟩
 exact⟨fun i=>Classical.choose (key i),fun i hi=>Classical.choose_spec (key i) hi⟩
theorem Qz {l:List Ty}{i:Nat}(h:i<l.length):l[i]?.getD (.mk 0 0 [] 0)=l[i]:=by simp[h]
theorem Jc (l:List Ty)(c:Int)(B:Nat)(A:Option Addr)(cap:Nat)(w:World)(g gl j:Nat)(s:ByteArray)(d n:Nat)(M:Int)(hS:jG w g gl j s d 0 (M-n))(hk:d<=s.size)(hs:s.size<=1099511627776)(hM:¬M<=n)(CM:M<=1024)(hl:l.length<=16)(oF:0<=c)(JU:c<=l.length)(hL:ba w)(hg:0<g)(mV:0<gl)
 (hT:fc w B l A 0) (hB:B<=w.heap.size) (ab:B<=g) (CB:B<=gl)
 (IH:Hid (∀a∈l,∀V O Z U c3 d (n:Nat),cD V B a O Z U c3->B<=V.heap.size->jG V g gl j s d 0 (M-n)->d<=s.size->ba V->Calls prog 183 #[iw g gl j,.agg #[O,Z,U,c3]] V fun e w'=>gV V g gl j s M (a.rd M n (s.data.toList.drop d)) e w')):
 Calls prog 183 #[iw g gl j,.agg #[.int .i64 5,.int .i64 0,.slice A l.length cap,.int .i64 c]] w fun e w'=>gV w g gl j s M ((Ty.mk 5 0 l c).rd M n (s.data.toList.drop d)) e w':=by
 have aD:=hS.rdr.lt;have jI:=hS.left.lt;have d0:decide (M-(n:Int)<=0)=false:=zu (by omega);rw[ur hM];obtain⟨p,hp⟩:=Nk hT;have HP:=za hp;have N9:=za hL;show Calls _ _ _ _ fun e w'=>gV w g gl j s M ⟨(om M l ((l.length:Int)-c).toNat (n+1) (s.data.toList.drop d)).e,.mk ⟨#[]⟩ true (om M l ((l.length:Int)-c).toNat (n+1) (s.data.toList.drop d)).xs,(om M l ((l.length:Int)-c).toNat (n+1) (s.data.toList.drop d)).n,(om M l ((l.length:Int)-c).toNat (n+1) (s.data.toList.drop d)).q⟩ e w'
 obtain⟨R,Y⟩:∃R,om M l ((l.length:Int)-c).toNat (n+1) (s.data.toList.drop d)=R:=⟨_,rfl⟩
 rw[Y];have Es:=za Y;clear Y hp hT;obtain⟨z,C,ez,el⟩:∃(z:Int) (C:List Ty),z=0/\C=l:=⟨_,_,rfl,rfl⟩
 rw[<-ez];rw[show l.length=C.length from by rw[el]];have y:=za (uy.start (tc:= #[.int .i64 (5),.int .i64 z,.slice A C.length cap,.int .i64 c]) hS);generalize mN:(((w.alloc (.cells (kh g gl j) 240)).alloc (.cells #[.int .i64 (5),.int .i64 z,.slice A C.length cap,.int .i64 c] 43)).alloc (.cells #[.string ⟨#[]⟩,.bool false,.slice none 0 0] 28))=I at*;unfold kh at mN;obtain⟨p0,p1,p2,p3,p4,p5⟩:=fh (show af I w.heap.size 240 #[_,_,_,_,_,_]from y.out.rdg);obtain⟨q0,q1,q2,q3,_⟩:=aU y.out.ty;have l0:I.cell? ⟨gl,0,none⟩=some (.int .i64 (M-n)):=y.out.st.left.cell 0;have l1:=y.out.st.left.frozen 0;subst ez;obtain⟨F,L⟩:∃F,C.length=F:=⟨_,rfl⟩
 have x:Hid (l.length=F):=za (by rw[<-L,el]);rw[L]at mN y⊢;clear L el hL;have m:=za (y.out.less (M-n-1));generalize sB:I.setCell ⟨gl,0,none⟩ (.int .i64 (M-n-1))=W at*;clear q0 q1 q2 q3;obtain⟨p0,p1,p2,p3,p4,p5⟩:=fh (show af W w.heap.size 240 #[_,_,_,_,_,_]from m.out.rdg);obtain⟨q0,q1,q2,q3,_⟩:=aU m.out.ty;unfold iw;clear hS;go_enter yV,yR
 go_wp2_with fail
 have oG:=m.out.ty;have kY:∀V,ae [g,gl] W V->ae [g,gl] w V/\Below B w V:=fun V h=>⟨m.out.only.trans h,(m.out.only.trans h).below hB (by simp;omega)⟩
 refine(qM _ _ _ (.inr ⟨rfl,w.heap.size+1,w.heap.size,rfl,rfl⟩) F (fun i=>l[i]?.getD (.mk 0 0 [] 0)) (fun i k=>decide ((i:Int)<(l.length:Int)-c)||decide (k<s.size)) (fun i n aa=>om M (l.drop i) (((l.length:Int)-c).toNat-i) n aa) (fun i=>(p i).1) (fun i=>(l[i]?.getD (.mk 0 0 [] 0)).sub.length) (fun i=>(p i).2) W g gl j s d 0 _ M (n+1) m.out.st hk hs (by have:=x.out;omega) R.e R (by rw[<-x.out];exact Ub.ofT M s l c oF) (fun _=>⟨by omega,by rw[<-Es.out];simp,rfl⟩) (fun h=>absurd rfl h) (za fun i hi V D f' S H hV G=>by
  obtain⟨h1,q⟩:=kY V H;have hi':i<l.length:=by rw[x.out];exact hi
  rw[Qz hi'];obtain⟨b,o,hA,E,e0,r,u,e3,_⟩:=HP.out i hi';rw[hA]at oG;have:=q.size;rw[x.out];exact XE i (w.heap.size+1) w.heap.size g gl j b o F cap s D S 5 0 c _ _ _ _ V (oG.only H (by simp;omega)) (m.out.rdg.only H (by simp;omega)) f' hV G (by omega) hi (by have:=x.out;omega) oF (by have:=x.out;omega) ((q.cell E).trans e0) ((q.cell E).trans r) ((q.cell E).trans u) ((q.cell E).trans e3) (by omega) _ _ _ _ _ _ rfl rfl rfl rfl) (za fun i hi V D n' H hV G=>by
  obtain⟨h1,q⟩:=kY V H;have hi':i<l.length:=by rw[x.out];exact hi
  rw[Qz hi'];obtain⟨b,o,hA,E,e0,r,u,e3,x'⟩:=HP.out i hi';exact IH.out _ (zN hi') V _ _ _ _ D n' (x'.below q) (by have:=q.size;omega) hV G (N9.out.only h1 (by simp;omega)))).mono ?_
 have N:=m;rintro e w2 ⟨X,O,Z,U,D,S,rfl,J,tC,ho,G,i'⟩;obtain⟨K,bx,rfl,rfl,rfl,_⟩:=J.open_;have kV:=za (N.out.K7 ho tC);have HX:=za (J.lB (b:=w.heap.size+1+1) (by have:=N.out.siz;omega) (.string X.text) (.bool X.list) (.slice K X.sub.length bx));have UO:=za i';clear J tC ho i';obtain⟨n0,n1,n2,m0,m1,m2⟩:=gW kV.out.res;obtain⟨r,u,y0,y1,y2⟩:=kV.out.ends (.string X.text) (.bool X.list) (.slice K X.sub.length bx);have E1:=za r;have E2:=za u;clear r u;go_wp2;have r:=E1.out;have u:=E2.out;refine zk (v:= .agg #[.string X.text,.bool X.list,.slice K X.sub.length bx]) (by simp[results,yJ,go_sem,y0,y1,y2]) rfl ?_;exact⟨X,_,_,_,D,S,rfl,HX.out.fe (fun _ _ h=>by have:=N.out.siz;omega),r,u,G,UO.out⟩
theorem Uc :∀(x:Ty) (B:Nat) (w:World) (E I F G:Value) (g gl d:Nat) (s:ByteArray) (c n:Nat) (M:Int),cD w B x E I F G->B<=w.heap.size->B<=g->B<=gl->x.right=true->jG w g gl d s c 0 (M-n)->c<=s.size->s.size<=1099511627776->M<=1024->ba w->0<g->0<gl->
 Calls prog 183 #[iw g gl d,.agg #[E,I,F,G]] w fun e w'=>gV w g gl d s M (x.rd M n (s.data.toList.drop c)) e w':=by
 intro x;induction x using Ty.ind with
 |h ki z l ta ih=>
  intro B w E I F G g gl d s c n M h U y u X hS p k m J r q;obtain⟨rfl,rfl,rfl,_,_,_,Rb,A,cap,rfl,qZ,mR,W⟩:=h;obtain⟨bF,S⟩:=jM X;by_cases i:M<=n
  ·rw[KB i];exact Ja ki z ta l A cap w g gl d s c n M hS p i
  rcases lT bF with⟨rfl,D,o,rfl⟩|⟨rfl,D,C,o,rfl⟩|⟨rfl,D,C,o,rfl⟩|⟨rfl,D,C,o,rfl⟩|⟨rfl,rfl,C,h5,h6⟩
  ·obtain rfl:l= []:=zo o;obtain⟨b,rfl⟩:∃b:Nat,z=b:=⟨z.toNat,by omega⟩
   exact Ni b A cap w g gl d s c n M hS p k i m (by omega) (by omega)
  ·obtain rfl:l= []:=zo o;obtain⟨b,rfl⟩:∃b:Nat,z=b:=⟨z.toNat,by omega⟩
   exact Nj b A cap w g gl d s c n M hS p k i m (by omega)
  ·obtain rfl:l= []:=zo o;obtain⟨b,rfl⟩:∃b:Nat,z=b:=⟨z.toNat,by omega⟩
   exact F6 b A cap w g gl d s c n M hS p k i m (by omega) J r q
  ·obtain⟨a,rfl⟩:=Yi.1 o;obtain⟨b,rfl⟩:∃b:Nat,z=b:=⟨z.toNat,by omega⟩
   have Z:a.right=true:=by simpa[bM]using S
   exact Jb a b B A cap w g gl d s c n M hS p k i m (by omega) J r q W U y u (za fun V d0 d1 d2 d3 c n O K N H L=>ih a (by simp) B V d0 d1 d2 d3 g gl d s c n M O K y u Z N H k m L r q)
  exact Jc l ta B A cap w g gl d s c n M hS p k i m (by omega) (by omega) (by omega) J r q W U y u (za fun a R V d0 d1 d2 d3 c n O K N H L=>by
   obtain⟨j,Y,rfl⟩:=yW R;exact ih _ R B V d0 d1 d2 d3 g gl d s c n M O K y u (dQ S j Y) N H k m L r q)
