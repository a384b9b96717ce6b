/- layout: a value is read: the heads. -/
import Derived.Test.YtimoclkoflamkaaGreatDoorKA10
import Derived.Test.YtimoclkoflamkaaGreatDoorKA15
set_option linter.all false
set_option maxRecDepth 100000
set_option maxHeartbeats 4000000
open Go.Proofs.Tryz
namespace Go.Proofs.YtimoclkoflamkaaGreatDoor
open Go.RowKit
variable {w V V':World}{g k e d B:Nat}{s:ByteArray}{f m i:Int}{tc:Array Value}{acc:List It}{v:Value}{l:List Ty}
def yZ:=@results164
def xr:=@ntmps164
def xF:=@func164
def gM (w:World)(g gl fb:Nat)(s:ByteArray)(M:Int)(R:Ss)(e:Ending)(w':World):Prop:=
 ∃(X:It) (c0 c1 c2:Value) (k':Nat) (m':Int),e= .returned (.agg #[c0,c1,c2])/\fR w' (w.heap.size<= ·) X c0 c1 c2/\ju w' g gl fb s k' R.e m'/\ae [g,gl] w w'/\k'<=s.size/\(R.e=0->X=R.x/\R.q=s.data.toList.drop k'/\m'=M-R.n)
theorem ju.oq {gl c:Nat}{j:Array Value}(h:ju w g gl e s k f m)(d:ag w c 28 j)(i n l:Value):ju (((w.setCell (c,0) i).setCell (c,1) n).setCell (c,2) l) g gl e s k f m:=
 have n1:=h.rdr.DW d (by decide);have n2:=h.left.DW d (by decide);have b:=h.box.DW d (by decide)
 ⟨((ag.dE (show ag w g _ _ from h.rdr) (p:=⟨c,0,none⟩) n1 _).dE (p:=⟨c,1,none⟩) n1 _).dE (p:=⟨c,2,none⟩) n1 _,((h.left.dE (p:=⟨c,0,none⟩) n2 _).dE (p:=⟨c,1,none⟩) n2 _).dE (p:=⟨c,2,none⟩) n2 _,((h.box.dE (p:=⟨c,0,none⟩) b _).dE (p:=⟨c,1,none⟩) b _).dE (p:=⟨c,2,none⟩) b _⟩
theorem ju.less {gl b:Nat}(h:ju w g gl b s k f m)(u:Int):ju (w.setCell (gl,0) u) g gl b s k f u:=
 ⟨ag.dE (show ag w g _ _ from h.rdr) (p:=(gl,0)) h.apart.1.symm _,one_setCell h.left,h.box.dE (p:=(gl,0)) h.apart.2.2 _⟩
structure tN (w:World)(g gl fb:Nat)(s:ByteArray)(k:Nat)(f m:Int)(tc:Array Value)(V:World):Prop where
 rdg:ag V w.heap.size 223 (jW g gl fb)
 ty:ag V (w.heap.size+1) 70 tc
 res:ag V (w.heap.size+1+1) 28 #[eS,false,nS]
 st:ju V g gl fb s k f m
 only:ae [g,gl] w V
 siz:w.heap.size+3<=V.heap.size
theorem tN.start {gl b:Nat}(h:ju w g gl b s k f m):tN w g gl b s k f m tc (((w.alloc (.cells (jW g gl b) 223)).alloc (.cells tc 70)).alloc (.cells #[eS,false,nS] 28)) where
 rdg:=((ag.new w _ _).alloc _).alloc _
 ty:=ag.alloc (ag.at_ (by simp)) _
 res:=ag.at_ (by simp)
 st:=h.below ((((zm _ w).alloc (zd _) _).alloc (by simp) _).alloc (by simp;omega) _)
 only:=(((ae.refl _ w).alloc _).alloc _).alloc _
 siz:=by simp
theorem tN.less {gl b:Nat}(h:tN w g gl b s k f m tc V)(u:Int):tN w g gl b s k f u tc (V.setCell (gl,0) u) where
 rdg:=h.rdg.dE (p:=(gl,0)) (h.rdg.DW h.st.left (by decide)) _
 ty:=h.ty.dE (p:=(gl,0)) (h.ty.DW h.st.left (by decide)) _
 res:=h.res.dE (p:=(gl,0)) (h.res.DW h.st.left (by decide)) _
 st:=h.st.less u
 only:=h.only.setCell (by simp) _
 siz:=by have:=h.siz;simpa[World.setCell]using this
theorem tN.eL {gl:Nat}{c:Nat}{e:Int}(h:tN w g gl d s k f m tc V)(b:ae [g] V V')(i:iL V' g s c e):tN w g gl d s c e m tc V' where
 rdg:=h.rdg.only b (by simp[h.rdg.DW h.st.rdr (by decide)])
 ty:=h.ty.only b (by simp[h.ty.DW h.st.rdr (by decide)])
 res:=h.res.only b (by simp[h.res.DW h.st.rdr (by decide)])
 st:=h.st.eL b i
 only:=h.only.trans (b.mono (by simp))
 siz:=zG h.siz b.size
theorem tN.below {gl c:Nat}(h:tN w g gl c s k f m tc V)(b:Below V.heap.size V V'):tN w g gl c s k f m tc V' where
 rdg:=(b.block _ h.rdg.lt).trans h.rdg
 ty:=(b.block _ h.ty.lt).trans h.ty
 res:=(b.block _ h.res.lt).trans h.res
 st:=h.st.below b
 only:=h.only.trans ((ae.ai b (zd _)).mono (by simp))
 siz:=zG h.siz b.size
theorem tN.ends {gl:Nat}(h:tN w g gl e s k f m tc V)(b c d:Value):
 ju (((V.setCell ⟨w.heap.size+1+1,0,none⟩ b).setCell ⟨w.heap.size+1+1,1,none⟩ c).setCell ⟨w.heap.size+1+1,2,none⟩ d) g gl e s k f m/\ae [g,gl] w (((V.setCell ⟨w.heap.size+1+1,0,none⟩ b).setCell ⟨w.heap.size+1+1,1,none⟩ c).setCell ⟨w.heap.size+1+1,2,none⟩ d)/\
 (V.setCell ⟨w.heap.size+1+1,0,none⟩ b).cell? ⟨w.heap.size+1+1,0,none⟩=some b/\((V.setCell ⟨w.heap.size+1+1,0,none⟩ b).setCell ⟨w.heap.size+1+1,1,none⟩ c).cell? ⟨w.heap.size+1+1,1,none⟩=some c/\(((V.setCell ⟨w.heap.size+1+1,0,none⟩ b).setCell ⟨w.heap.size+1+1,1,none⟩ c).setCell ⟨w.heap.size+1+1,2,none⟩ d).cell? ⟨w.heap.size+1+1,2,none⟩=some d:=
 ⟨h.st.oq h.res b c d,((h.only.setCell (by simp;omega) _).setCell (by simp;omega) _).setCell (by simp;omega) _,by have:=(h.res.set 0 b).cell 0;simpa using this,by have:=((h.res.set 0 b).set 1 c).cell 1;simpa using this,by have:=(((h.res.set 0 b).set 1 c).set 2 d).cell 2;simpa using this⟩
theorem jb {t:TypeId}{a b c:Value}(h:ag w g t #[a,b,c]):(w,g,0,a)/\(w,g,1,b)/\(w,g,2,c)/\w.frozen? (g,0)=false/\w.frozen? (g,1)=false/\w.frozen? (g,2)=false:=⟨h.cell 0,h.cell 1,h.cell 2,h.frozen 0,h.frozen 1,h.frozen 2⟩
theorem I9 (k z l:Int)(m:List Ty)(A:Option Addr)(cap:Nat)(w:World)(g gl j:Nat)(s:ByteArray)(c n:Nat)(M:Int)(hS:ju w g gl j s c 0 (M-n))(C:c<=s.size)(L:M<=n):
 Calls prog 164 #[jk g gl j,.agg #[k,z,.slice A m.length cap,l]] w fun e w'=>gM w g gl j s M (.bad 4 n (s.data.toList.drop c)) e w':=by
 have K:decide (M-(n:Int)<=0)=true:=zF (by omega);have b:=za (tN.start (tc:= #[.int .i64 (k),z,.slice A m.length cap,l]) hS);generalize F:(((w.alloc (.cells (jW g gl j) 223)).alloc (.cells #[.int .i64 (k),z,.slice A m.length cap,l] 70)).alloc (.cells #[eS,false,nS] 28))=o at*;unfold jW at F;obtain⟨I,S,H,Z,O,W⟩:=ga (show ag o w.heap.size 223 #[_,_,_,_,_,_]from b.out.rdg);obtain⟨U,G,J,Y,_⟩:=aU b.out.ty;have R:o.cell? (gl,0)=some (.int .i64 (M-n)):=b.out.st.left.cell 0;have u:=za (iM g s c 4 o b.out.st.rdr);unfold jk;clear hS;go_enter xF,xr
 go_wp2_with fail
 refine u.out.mono ?_;rintro e X ⟨rfl,r,p⟩;have q:=za (b.out.eL p r);clear r p;obtain⟨N,n1,n2,m0,m1,m2⟩:=jb q.out.res;obtain⟨i,d,B,E,D⟩:=q.out.ends (.string ⟨#[]⟩) (.bool false) (.slice none 0 0);have y:=za i;have x:=za d;clear i d;go_wp2;have i:=y.out;have d:=x.out;refine zl (v:= .agg #[.string ⟨#[]⟩,.bool false,.slice none 0 0]) (by simp[results,yZ,go_sem,B,E,D]) rfl ?_;exact⟨kx,_,_,_,c,_,rfl,fR.text false (by simp[ByteArray.size]),i,d,C,fun h=>absurd h (show¬(4:Int)=0 by decide)⟩
theorem wh (s:ByteArray)(k n:Nat):(s.extract k (k+n)).data.toList=(s.data.toList.drop k).take n:=by
 rw[aq,Za,show k+n-k=n from by omega]
theorem M6 (b:Nat)(A:Option Addr)(cap:Nat)(w:World)(g gl E:Nat)(s:ByteArray)(c n:Nat)(M:Int)(hS:ju w g gl E s c 0 (M-n))(X:c<=s.size)(hs:s.size<=1099511627776)(hM:¬M<=n)(Cx:M<=1024)(hz:1<=b)(SL:b<=8):
 Calls prog 164 #[jk g gl E,.agg #[(1:Int),b,.slice A ([]:List Ty).length cap,(0:Int)]] w fun e w'=>gM w g gl E s M ((Ty.mk 1 b [] 0).rd M n (s.data.toList.drop c)) e w':=by
 have d0:decide (M-(n:Int)<=0)=false:=zv (by omega);rw[Is hM,show((b:Int)).toNat=b from rfl,zP,aa];obtain⟨z,x,D,W,et,el⟩:∃(z x:Int) (D:List Ty),z=b/\x=0/\D= []:=⟨_,_,_,rfl,rfl,rfl⟩
 rw[<-W,<-et,<-el];have k:=za (tN.start (tc:= #[.int .i64 (1),z,.slice A D.length cap,x]) hS);generalize lq:(((w.alloc (.cells (jW g gl E) 223)).alloc (.cells #[.int .i64 (1),z,.slice A D.length cap,x] 70)).alloc (.cells #[eS,false,nS] 28))=F at*;unfold jW at lq;obtain⟨U,p1,S,p3,Z,p5⟩:=ga (show ag F w.heap.size 223 #[_,_,_,_,_,_]from k.out.rdg);obtain⟨G,y,B,H,_⟩:=aU k.out.ty;have l0:F.cell? (gl,0)=some (.int .i64 (M-n)):=k.out.st.left.cell 0;have l1:=k.out.st.left.frozen 0;subst W et el;simp only[zO]at lq k;by_cases AW:s.size<c+b
 ·rw[zj (by omega)];have j:=za (k.out.less (M-n-1));generalize uM:F.setCell (gl,0) (.int .i64 (M-n-1))=p at*;clear G y B H;obtain⟨U,p1,S,p3,Z,p5⟩:=ga (show ag p w.heap.size 223 #[_,_,_,_,_,_]from j.out.rdg);obtain⟨G,y,B,H,_⟩:=aU j.out.ty;unfold jk;clear hS;go_enter xF,xr
  go_wp2_with fail
  refine(fZ g s c b p j.out.st.rdr X (by omega) AW (by omega)).mono ?_;rintro e u ⟨rfl,q,l⟩;have J:=za (j.out.eL l q);clear q l;go_wp2_with fail
  refine(mZ ⟨#[]⟩ u rfl).mono ?_;rintro e w' ⟨rfl,rfl⟩;go_wp2_with fail
  refine(FY 0 u (by omega)).mono ?_;rintro e w2 ⟨rfl,r⟩;have o:=za (J.out.below r);clear r;obtain⟨n0,n1,n2,m0,m1,m2⟩:=jb o.out.res;obtain⟨i,d,N,R,O⟩:=o.out.ends (.string ⟨(cE 0).toArray⟩) (.bool false) (.slice none 0 0);have L:=za i;have K:=za d;clear i d;go_wp2;have i:=L.out;have d:=K.out;refine zl (v:= .agg #[.string ⟨(cE 0).toArray⟩,.bool false,.slice none 0 0]) (by simp[results,yZ,go_sem,N,R,O]) rfl ?_;exact⟨.mk ⟨(cE 0).toArray⟩ false [],_,_,_,c,_,rfl,fR.text false (by simp[dj,ByteArray.size]),i,d,X,fun h=>absurd h (show¬(2:Int)=0 by decide)⟩
 rw[zi (by omega)];have I:=wh s c b;have Y:(s.extract c (c+b)).size=b:=by rw[ar s c (c+b) (by omega)];omega
 have HG:=za (fun V=>eX (s.extract c (c+b)) V (by omega) (by omega));rw[I]at HG;have C:=jy ((s.data.toList.drop c).take b);rw[<-I,aa,Y]at C;have ab:2^(8*b)<=18446744073709551616:=le_pow _ SL;rw[I]at C;generalize da ((s.data.toList.drop c).take b)=m at*;have HN:=za (fun V=>FY m V (by omega));have Al:=gp b m C;have UH:Hid ((⟨(cE m).toArray⟩:ByteArray).size<=9223372036854775807):=za (by rw[bG];omega);have UG:Hid ((s.data.toList.drop c).drop b=s.data.toList.drop (c+b)):=za (by rw[xw]);generalize (⟨(cE m).toArray⟩:ByteArray)=T at*;clear I Y C Al;have j:=za (k.out.less (M-n-1));generalize uM:F.setCell (gl,0) (.int .i64 (M-n-1))=p at*;clear G y B H;obtain⟨U,p1,S,p3,Z,p5⟩:=ga (show ag p w.heap.size 223 #[_,_,_,_,_,_]from j.out.rdg);obtain⟨G,y,B,H,_⟩:=aU j.out.ty;unfold jk;clear hS;go_enter xF,xr
 go_wp2_with fail
 refine(eD g s c b p j.out.st.rdr (by omega) (by omega)).mono ?_;rintro e u ⟨rfl,q,l⟩;have J:=za (j.out.eL l q);clear q l;go_wp2_with fail
 refine(HG.out u).mono ?_;rintro e w' ⟨rfl,rfl⟩;go_wp2_with fail
 refine(HN.out u).mono ?_;rintro e w2 ⟨rfl,r⟩;have o:=za (J.out.below r);clear r;obtain⟨n0,n1,n2,m0,m1,m2⟩:=jb o.out.res;obtain⟨i,d,N,R,O⟩:=o.out.ends (.string T) (.bool false) (.slice none 0 0);have L:=za i;have K:=za d;clear i d;go_wp2;have i:=L.out;have d:=K.out;refine zl (v:= .agg #[.string T,.bool false,.slice none 0 0]) (by simp[results,yZ,go_sem,N,R,O]) rfl ?_;exact⟨.mk T false [],_,_,_,c+b,_,rfl,fR.text false UH.out,i,d,by omega,fun _=>⟨rfl,UG.out,by simp only;omega⟩⟩
theorem M7 (c:Nat)(A:Option Addr)(cap:Nat)(w:World)(g gl B:Nat)(s:ByteArray)(b n:Nat)(M:Int)(hS:ju w g gl B s b 0 (M-n))(U:b<=s.size)(hs:s.size<=1099511627776)(hM:¬M<=n)(Cx:M<=1024)(SL:c<=65536):
 Calls prog 164 #[jk g gl B,.agg #[(2:Int),c,.slice A ([]:List Ty).length cap,(0:Int)]] w fun e w'=>gM w g gl B s M ((Ty.mk 2 c [] 0).rd M n (s.data.toList.drop b)) e w':=by
 have d0:decide (M-(n:Int)<=0)=false:=zv (by omega);rw[Iu hM,show((c:Int)).toNat=c from rfl,zP,aa];obtain⟨z,r,y,R,et,el⟩:∃(z r:Int) (y:List Ty),z=c/\r=0/\y= []:=⟨_,_,_,rfl,rfl,rfl⟩
 rw[<-R,<-et,<-el];have k:=za (tN.start (tc:= #[.int .i64 (2),z,.slice A y.length cap,r]) hS);generalize X:(((w.alloc (.cells (jW g gl B) 223)).alloc (.cells #[.int .i64 (2),z,.slice A y.length cap,r] 70)).alloc (.cells #[eS,false,nS] 28))=C at*;unfold jW at X;obtain⟨O,Y,N,p3,W,p5⟩:=ga (show ag C w.heap.size 223 #[_,_,_,_,_,_]from k.out.rdg);obtain⟨D,u,x,E,_⟩:=aU k.out.ty;have l0:C.cell? (gl,0)=some (.int .i64 (M-n)):=k.out.st.left.cell 0;have l1:=k.out.st.left.frozen 0;subst R et el;simp only[zO]at X k;by_cases AW:s.size<b+c
 ·rw[zj (by omega)];have j:=za (k.out.less (M-n-1));generalize uM:C.setCell (gl,0) (.int .i64 (M-n-1))=o at*;clear D u x E;obtain⟨O,Y,N,p3,W,p5⟩:=ga (show ag o w.heap.size 223 #[_,_,_,_,_,_]from j.out.rdg);obtain⟨D,u,x,E,_⟩:=aU j.out.ty;unfold jk;clear hS;go_enter xF,xr
  go_wp2_with fail
  refine(fZ g s b c o j.out.st.rdr U (by omega) AW (by omega)).mono ?_;rintro e L ⟨rfl,p,l⟩;have F:=za (j.out.eL l p);clear p l;go_wp2_with fail
  refine(CZ ⟨#[]⟩ L).mono ?_;rintro e w2 ⟨rfl,q⟩;have m:=za (F.out.below q);clear q;obtain⟨n0,n1,n2,m0,m1,m2⟩:=jb m.out.res;obtain⟨i,d,I,K,J⟩:=m.out.ends (.string ⟨#[]⟩) (.bool false) (.slice none 0 0);have H:=za i;have G:=za d;clear i d;go_wp2;have i:=H.out;have d:=G.out;refine zl (v:= .agg #[.string ⟨#[]⟩,.bool false,.slice none 0 0]) (by simp[results,yZ,go_sem,I,K,J]) rfl ?_;exact⟨kx,_,_,_,b,_,rfl,fR.text false (by simp[ByteArray.size]),i,d,U,fun h=>absurd h (show¬(2:Int)=0 by decide)⟩
 rw[zi (by omega)];have hX:=wh s b c;have DE:(s.extract b (b+c)).size=c:=by rw[ar s b (b+c) (by omega)];omega
 have Z:Hid ((⟨((s.data.toList.drop b).take c).toArray⟩:ByteArray)=s.extract b (b+c)):=za (aF (by rw[hX]));rw[Z.out];have UH:Hid ((s.extract b (b+c)).size<=9223372036854775807):=za (by omega);have UG:Hid ((s.data.toList.drop b).drop c=s.data.toList.drop (b+c)):=za (by rw[xw]);clear hX DE;have j:=za (k.out.less (M-n-1));generalize uM:C.setCell (gl,0) (.int .i64 (M-n-1))=o at*;clear D u x E;obtain⟨O,Y,N,p3,W,p5⟩:=ga (show ag o w.heap.size 223 #[_,_,_,_,_,_]from j.out.rdg);obtain⟨D,u,x,E,_⟩:=aU j.out.ty;unfold jk;clear hS;go_enter xF,xr
 go_wp2_with fail
 refine(eD g s b c o j.out.st.rdr (by omega) (by omega)).mono ?_;rintro e L ⟨rfl,p,l⟩;have F:=za (j.out.eL l p);clear p l Z;generalize S:s.extract b (b+c)=T at*;have HT:=za S;clear S;go_wp2_with fail
 refine(CZ T L).mono ?_;rintro e w2 ⟨rfl,q⟩;have m:=za (F.out.below q);clear q;obtain⟨n0,n1,n2,m0,m1,m2⟩:=jb m.out.res;obtain⟨i,d,I,K,J⟩:=m.out.ends (.string T) (.bool false) (.slice none 0 0);have H:=za i;have G:=za d;clear i d;go_wp2;have i:=H.out;have d:=G.out;refine zl (v:= .agg #[.string T,.bool false,.slice none 0 0]) (by simp[results,yZ,go_sem,I,K,J]) rfl ?_;exact⟨.mk T false [],_,_,_,b+c,_,rfl,fR.text false UH.out,i,d,by omega,fun _=>⟨by show It.mk T false []=It.mk (s.extract b (b+c)) false [];rw[HT.out],UG.out,by simp only;omega⟩⟩
def Qn (s:ByteArray)(k n:Nat)(f:Int)(S:ByteArray)(k2:Nat)(f2:Int):Prop:=(f≠0/\S=⟨#[]⟩/\k2=k/\f2=f)\/(f=0/\s.size<k+n/\S=⟨#[]⟩/\k2=k/\f2=2)\/(f=0/\k+n<=s.size/\S=s.extract k (k+n)/\k2=k+n/\f2=0)
theorem XD (g:Nat)(s:ByteArray)(k n:Nat)(f:Int)(j:k<=s.size)(d:s.size<=9223372036854775807)(l:n<=9223372036854775807):∃S k2 i,Qn s k n f S k2 i/\∀w,iL w g s k f->
 Calls prog 142 #[(g,0),n] w fun e w'=>e= .returned (.string S)/\iL w' g s k2 i/\ae [g] w w':=by
 by_cases h:f=0
 ·subst h;by_cases c:s.size<k+n
  ·exact⟨_,_,_,.inr (.inl ⟨rfl,c,rfl,rfl,rfl⟩),fun w b=>fZ g s k n w b j d c l⟩
  exact⟨_,_,_,.inr (.inr ⟨rfl,by omega,rfl,rfl,rfl⟩),fun w b=>eD g s k n w b d (by omega)⟩
 exact⟨_,_,_,.inl ⟨h,rfl,rfl,rfl⟩,fun w b=>IN g s k f n w b (zp.2 h)⟩
theorem KS (s:ByteArray)(z k:Nat)(d:k<=s.size):nr (au (s.data.toList.drop k)) z k<=s.size:=by
 have c:=fun(b:(au (s.data.toList.drop k)).2.2=0)=>(iK (s.data.toList.drop k) (au (s.data.toList.drop k)).1 (au (s.data.toList.drop k)).2.1 (by rw[<-b])).2.1
 rw[zP,aa]at c;rcases kX (au (s.data.toList.drop k)) z k with⟨_,_,_,h⟩|⟨_,_,_,_,h⟩|⟨b,_,_,_,h⟩<;>rw[h]
 ·exact d
 ·exact d
 have:=c b;omega
theorem I' {M:Int}{n c b:Nat}{S:ByteArray}{k2:Nat}{f2:Int}(p:¬M<=n)(j:b<=s.size)(q:s.size<=1099511627776)
 (h:Qn s (nr (au (s.data.toList.drop b)) c b) (np (au (s.data.toList.drop b)) c) (kW (au (s.data.toList.drop b)) c) S k2 f2):
 ((Ty.mk 3 c [] 0).rd M n (s.data.toList.drop b)).e=f2/\k2<=s.size/\S.size<=9223372036854775807/\(f2=0->It.mk S false []=((Ty.mk 3 c [] 0).rd M n (s.data.toList.drop b)).x/\((Ty.mk 3 c [] 0).rd M n (s.data.toList.drop b)).q=s.data.toList.drop k2/\M-n-1=M-((Ty.mk 3 c [] 0).rd M n (s.data.toList.drop b)).n):=by
 have m:=KS s c b j;have l:(⟨#[]⟩:ByteArray).size<=9223372036854775807:=by simp[ByteArray.size]
 rw[vy p];generalize au (s.data.toList.drop b)=N at*;rcases kX N c b with⟨d,i,k,e⟩|⟨d,o,i,k,e⟩|⟨d,o,i,k,e⟩<;>rw[i,k,e]at h<;>rw[e]at m
 ·rw[zj d];rcases h with⟨_,rfl,rfl,rfl⟩|⟨a,_⟩|⟨a,_⟩
  ·exact⟨rfl,j,l,fun h=>absurd h d⟩
  ·exact absurd a d
  exact absurd a d
 ·rw[zi (by rw[d];simp),zj (by omega)];rcases h with⟨_,rfl,rfl,rfl⟩|⟨a,_⟩|⟨a,_⟩
  ·exact⟨rfl,j,l,fun h=>absurd h (by decide)⟩
  ·cases a
  cases a
 rw[zi (by rw[d];simp),zi (by omega),xw,zP,aa];rcases h with⟨a,_⟩|⟨_,a,rfl,rfl,rfl⟩|⟨_,a,rfl,rfl,rfl⟩
 ·exact absurd rfl a
 ·rw[zj (by omega)];exact⟨rfl,m,l,fun h=>absurd h (by decide)⟩
 rw[zi (by omega)];exact⟨rfl,a,by rw[ar _ _ _ a];omega,fun _=>⟨by rw[show(⟨((s.data.toList.drop (b+N.2.1)).take N.1).toArray⟩:ByteArray)=_ from aF (by rw[wh])],by rw[xw],by simp only;omega⟩⟩
theorem ju.drew {gl b:Nat}(h:ju w g gl b s k f m):ju w.drew g gl b s k f m:=⟨h.rdr.drew,h.left.drew,h.box.drew⟩
theorem F0 (b:Nat)(A:Option Addr)(cap:Nat)(w:World)(g gl d:Nat)(s:ByteArray)(c n:Nat)(M:Int)(hS:ju w g gl d s c 0 (M-n))(D:c<=s.size)(hs:s.size<=1099511627776)(hM:¬M<=n)(Cx:M<=1024)(SL:b<=65536)(I:ba w)(hg:0<g)(ks:0<gl):
 Calls prog 164 #[jk g gl d,.agg #[(3:Int),b,.slice A ([]:List Ty).length cap,(0:Int)]] w fun e w'=>gM w g gl d s M ((Ty.mk 3 b [] 0).rd M n (s.data.toList.drop c)) e w':=by
 have d0:decide (M-(n:Int)<=0)=false:=zv (by omega);have RG:=za (fun V (j:ju V g gl d s c 0 (M-n-1)) (hl:ba V)=>B5 g gl d s c b _ V j D (by omega) SL hl (by omega));obtain⟨S,k2,f2,U,G⟩:=XD g s _ _ (kW (au (s.data.toList.drop c)) b) (KS s b c D) (by omega) (zG (FK (au (s.data.toList.drop c)) b) (by omega));have mf:=za (I' hM D hs U);generalize np (au (s.data.toList.drop c)) b=num at*;generalize nr (au (s.data.toList.drop c)) b c=k1 at*;generalize kW (au (s.data.toList.drop c)) b=f1 at*;generalize (Ty.mk 3 b [] 0).rd M n (s.data.toList.drop c)=R at*;replace G:=za G;obtain⟨z,r,y,O,et,el⟩:∃(z r:Int) (y:List Ty),z=b/\r=0/\y= []:=⟨_,_,_,rfl,rfl,rfl⟩
 rw[<-et,<-el,<-O];have m:=za (tN.start (tc:= #[.int .i64 (3),z,.slice A y.length cap,r]) hS);generalize X:(((w.alloc (.cells (jW g gl d) 223)).alloc (.cells #[.int .i64 (3),z,.slice A y.length cap,r] 70)).alloc (.cells #[eS,false,nS] 28))=F at*;unfold jW at X;obtain⟨p0,p1,p2,p3,p4,p5⟩:=ga (show ag F w.heap.size 223 #[_,_,_,_,_,_]from m.out.rdg);obtain⟨Y,H,J,Z,_⟩:=aU m.out.ty;have l0:F.cell? (gl,0)=some (.int .i64 (M-n)):=m.out.st.left.cell 0;have l1:=m.out.st.left.frozen 0;subst O et el;simp only[zO]at X m;have N:=fun V (h:tN w g gl d s c 0 (M-n-1) #[(3:Int),b,.slice A 0 cap,(0:Int)] V)=>I.only h.only (by simp;omega)
 have DL:=za N;clear N I U;have l:=za (m.out.less (M-n-1));generalize uM:F.setCell (gl,0) (.int .i64 (M-n-1))=x at*;clear Y H J Z;obtain⟨p0,p1,p2,p3,p4,p5⟩:=ga (show ag x w.heap.size 223 #[_,_,_,_,_,_]from l.out.rdg);obtain⟨Y,H,J,Z,_⟩:=aU l.out.ty;unfold jk;clear hS;go_enter xF,xr
 go_wp2_with fail
 have uB:ba x.drew:=DL.out x l.out;have p:Hid (∀k f V,tN w g gl d s k f (M-n-1) #[(3:Int),b,.slice A 0 cap,(0:Int)] V->(V,w.heap.size,0,Value.func (.func 142) #[(g,0)] #[])/\(V,w.heap.size,4,Value.func (.func 162) #[] #[(d,0)])/\(V,w.heap.size+1,1,b)):=za fun k f V h=>⟨h.rdg.cell 0,h.rdg.cell 4,h.ty.cell 1⟩
 refine wrl (p.out c 0) 9 (by kernel_rfl) (by kernel_rfl) ?_;have hHeld:=p.out _ _ _ (l.out.below (zm _ _).drew);refine GT.jM [0,1,2,3,4,5] hHeld (fun _ _ _ _ _ h=>h) (by kernel_rfl) ?_;refine .c (v:= .pointer (some (w.heap.size,0))) rfl rfl (fun V j=>by go_simp<;>with_reducible rfl) ?_;try simp only[Act.put,zb,ze,zg];refine .c (v:= .func (.func 142) #[(g,0)] #[]) rfl rfl (fun V j=>by go_simp<;>with_reducible rfl) ?_;try simp only[Act.put,zb,ze,zg];refine .c (v:= .pointer (some (w.heap.size,4))) rfl rfl (fun V j=>by go_simp<;>with_reducible rfl) ?_;try simp only[Act.put,zb,ze,zg];refine .c (v:= .func (.func 162) #[] #[(d,0)]) rfl rfl (fun V j=>by go_simp<;>with_reducible rfl) ?_;try simp only[Act.put,zb,ze,zg];refine .c (v:= .pointer (some (w.heap.size+1,1))) rfl rfl (fun V j=>by go_simp<;>with_reducible rfl) ?_;try simp only[Act.put,zb,ze,zg];refine .c (v:= .int .i64 b) rfl rfl (fun V j=>by go_simp<;>with_reducible rfl) ?_;try simp only[Act.put,zb,ze,zg];refine .nil ?_;refine GT.gw 6 (fun K i=> ?_) rfl (by kernel_rfl);go_simp;refine(RG.out x.drew l.out.st.drew uB).mono ?_;rintro e w1 ⟨rfl,q,o⟩;have C:=za ((l.out.below (zm _ _).drew).eL o q.rdr);clear q o;go_wp2_with fail
 refine i.out _ _ (p.out _ _ _ C.out) (fun hHeld=> ?_);clear i K;try simp only[Act.put,zb,ze,zg]
 refine GT.gw 7 (fun K i=> ?_) rfl (by kernel_rfl);go_simp;refine(G.out w1 C.out.st.rdr).mono ?_;rintro e w2 ⟨rfl,q,o⟩;have L:=za (C.out.eL o q);clear q o;go_wp2_with fail
 refine i.out _ _ (p.out _ _ _ L.out) (fun hHeld=> ?_);clear i K;try simp only[Act.put,zb,ze,zg]
 refine GT.gw 8 (fun K i=> ?_) rfl (by kernel_rfl);go_simp;refine cm (CZ S w2) fun w3 W=> ?_
 have E:=za (L.out.below W);clear W;go_wp2_with fail
 refine i.out _ _ (p.out _ _ _ E.out) (fun hHeld=> ?_);clear i K;try simp only[Act.put,zb,ze,zg]
 obtain⟨n0,n1,n2,m0,m1,m2⟩:=jb E.out.res;obtain⟨B,u,y0,y1,y2⟩:=E.out.ends S false nS;have E1:=za B;have E2:=za u;clear B u;refine GT.pF 9 ?_ rfl (by kernel_rfl);go_simp;go_wp2;have B:=E1.out;have u:=E2.out;refine zl (v:= .agg #[.string S,.bool false,.slice none 0 0]) (by simp[results,yZ,go_sem,y0,y1,y2]) rfl ?_;obtain⟨hR,dT,Al,UI⟩:=mf.out;exact⟨.mk S false [],_,_,_,k2,_,rfl,fR.text false Al,by rw[hR];exact B,u,dT,fun h=>UI (by rw[<-hR];exact h)⟩
def kQ.pre (acc:List It)(R:kQ):kQ:=⟨R.e,acc++R.xs,R.n,R.q⟩
theorem kQ.Qo (acc:List It)(x:It)(R:kQ):(R.cons x).pre acc=R.pre (acc++ [x]):=by simp[kQ.pre,kQ.cons]
structure TW (M:Int)(c:Nat)(s:ByteArray)(T:Nat->Ty)(th:Nat->Nat->Bool)(rest:Nat->Nat->List UInt8->kQ):Prop where
 done:∀i n r,c<=i->rest i n r=⟨0,[],n,r⟩
 lack:∀i n k,i<c->k<=s.size->th i k=false->rest i n (s.data.toList.drop k)=⟨0,[],n,s.data.toList.drop k⟩
 next:∀i n k,i<c->k<=s.size->th i k=true->rest i n (s.data.toList.drop k)=if((T i).rd M n (s.data.toList.drop k)).e≠0 then⟨((T i).rd M n (s.data.toList.drop k)).e,[((T i).rd M n (s.data.toList.drop k)).x],((T i).rd M n (s.data.toList.drop k)).n,((T i).rd M n (s.data.toList.drop k)).q⟩else(rest (i+1) ((T i).rd M n (s.data.toList.drop k)).n ((T i).rd M n (s.data.toList.drop k)).q).cons ((T i).rd M n (s.data.toList.drop k)).x
theorem TW.Su (M:Int)(c:Nat)(s:ByteArray)(a:Ty):TW M c s (fun _=>a) (fun _ _=>true) (fun i n r=>tH (fun n r=>a.rd M n r) (c-i) n r) where
 done i n r h:=by rw[show c-i=0 from by omega,tH]
 lack i n k _ _ h:=by cases h
 next i n k h _ _:=by rw[show c-i=(c-(i+1))+1 from by omega,tH]
theorem TW.ofT (M:Int)(s:ByteArray)(l:List Ty)(c:Int)(o:0<=c):TW M l.length s (fun i=>l[i]?.getD (.mk 0 0 [] 0)) (fun i k=>decide ((i:Int)<(l.length:Int)-c)||decide (k<s.size)) (fun i n r=>nQ M (l.drop i) (((l.length:Int)-c).toNat-i) n r) where
 done i n r h:=by rw[zK h,nQ]
 lack i n k h j b:=by
  rw[xB h,nQ];simp only[ZL,yV]at b;rw[zj ⟨by omega,zK (by rw[aa];omega)⟩]
 next i n k h j b:=by
  rw[xB h,nQ];simp only[Bool.or_eq_true,zY]at b;have m:k<s.size->s.data.toList.drop k≠ []:=fun q e=>by
   have:=yp List.length e;rw[zP,aa]at this;simp at this;omega
  rw[zi (by
   rintro⟨p,d⟩;rcases b with b|b
   ·omega
   exact m b d)]
  simp only[zA h,Option.getD_some,Nat.sub_sub]
structure F1 (w:World)(g gl fb:Nat)(s:ByteArray)(k:Nat)(f m:Int)(acc:List It)(v:Value)(V:World):Prop where
 rdg:ag V w.heap.size 223 (jW g gl fb)
 res:ag V (w.heap.size+1) 28 #[eS,false,nS]
 xb:ag V (w.heap.size+1+1) 28 #[eS,true,v]
 its:Acc V (w.heap.size+3) acc v
 st:ju V g gl fb s k f m
 only:ae [g,gl] w V
 siz:w.heap.size+3<=V.heap.size
 glt:g<w.heap.size/\gl<w.heap.size
 fbl:fb<w.heap.size
theorem F1.start {gl b:Nat}(h:ju w g gl b s k f m):F1 w g gl b s k f m [] nS (((w.alloc (.cells (jW g gl b) 223)).alloc (.cells #[eS,false,nS] 28)).alloc (.cells #[eS,true,nS] 28)) where
 rdg:=((ag.new w _ _).alloc _).alloc _
 res:=ag.alloc (ag.at_ (by simp)) _
 xb:=ag.at_ (by simp)
 its:=Acc.nil _ _
 st:=h.below ((((zm _ w).alloc (zd _) _).alloc (by simp) _).alloc (by simp;omega) _)
 only:=(((ae.refl _ w).alloc _).alloc _).alloc _
 siz:=by simp
 glt:=⟨h.rdr.lt,h.left.lt⟩
 fbl:=h.box.lt
theorem F1.below {gl c:Nat}(h:F1 w g gl c s k f m acc v V)(b:Below V.heap.size V V'):F1 w g gl c s k f m acc v V' where
 rdg:=(b.block _ h.rdg.lt).trans h.rdg
 res:=(b.block _ h.res.lt).trans h.res
 xb:=(b.block _ h.xb.lt).trans h.xb
 its:=h.its.below b
 st:=h.st.below b
 only:=h.only.trans ((ae.ai b (zd _)).mono (by simp))
 siz:=zG h.siz b.size
 glt:=h.glt
 fbl:=h.fbl
theorem F1.eL {gl c:Nat}{d:Int}(h:F1 w g gl c s k f m acc v V)(b:ae [g,gl] V V')(j:ju V' g gl c s e i d):F1 w g gl c s e i d acc v V' where
 rdg:=h.rdg.only b (by have:=h.glt;simp;omega)
 res:=h.res.only b (by have:=h.glt;simp;omega)
 xb:=h.xb.only b (by have:=h.glt;simp;omega)
 its:=h.its.only b (by have:=h.glt;simp;omega)
 st:=j
 only:=h.only.trans b
 siz:=zG h.siz b.size
 glt:=h.glt
 fbl:=h.fbl
theorem F1.more {gl i:Nat}{d:List It}{c:Value}(h:F1 w g gl i s k f m acc v V)(b:V.grownBy V' v.ownBlock)(n:Acc V' (w.heap.size+3) d c):F1 w g gl i s k f m d c (V'.setCell (w.heap.size+1+1,2) c) where
 rdg:=(h.rdg.grown b (fun e=>by have:=(h.its.ge _ e).1;omega)).dE (p:=⟨w.heap.size+1+1,2,none⟩) (by simp;omega) _
 res:=(h.res.grown b (fun e=>by have:=(h.its.ge _ e).1;omega)).dE (p:=(w.heap.size+1+1,2)) (by simp) _
 xb:=(h.xb.grown b (fun e=>by have:=(h.its.ge _ e).1;omega)).set 2 c
 its:=n.only (L:= [w.heap.size+1+1]) ((ae.refl _ _).setCell (by simp) _) (by simp)
 st:=⟨ag.dE (show ag V' g _ _ from ag.grown h.st.rdr b (fun e=>by have:=(h.its.ge _ e).1;have:=h.glt;omega)) (p:=(w.heap.size+1+1,2)) (by have:=h.glt;simp;omega) _,
  (h.st.left.grown b (fun e=>by have:=(h.its.ge _ e).1;have:=h.glt;omega)).dE (p:=(w.heap.size+1+1,2)) (by have:=h.glt;simp;omega) _,
  (h.st.box.grown b (fun e=>by have:=(h.its.ge _ e).1;have:=h.fbl;omega)).dE (p:=⟨w.heap.size+1+1,2,none⟩) (by have:=h.fbl;simp;omega) _⟩
 only:=(h.only.grown b (fun j l=> .inr (by have:=(h.its.ge _ l).1;omega))).setCell (by simp;omega) _
 siz:=by have:=h.siz;have:=b.size;simp[World.setCell];omega
 glt:=h.glt
 fbl:=h.fbl
theorem F1.cells {gl c:Nat}(h:F1 w g gl c s k f m acc v V)(b:V.grownBy V' v.ownBlock):ag V' w.heap.size 223 (jW g gl c)/\ag V' (w.heap.size+1+1) 28 #[eS,true,v]:=
 ⟨h.rdg.grown b (fun e=>by have:=(h.its.ge _ e).1;omega),h.xb.grown b (fun e=>by have:=(h.its.ge _ e).1;omega)⟩
theorem F1.ends {gl:Nat}(h:F1 w g gl d s k f m acc v V)(b c:Value):
 ju (((V.setCell (w.heap.size+1,0) b).setCell (w.heap.size+1,1) c).setCell (w.heap.size+1,2) v) g gl d s k f m/\ae [g,gl] w (((V.setCell (w.heap.size+1,0) b).setCell (w.heap.size+1,1) c).setCell (w.heap.size+1,2) v)/\
 ((V.setCell (w.heap.size+1,0) b),w.heap.size+1,0,b)/\(((V.setCell (w.heap.size+1,0) b).setCell (w.heap.size+1,1) c),w.heap.size+1,1,c)/\((((V.setCell (w.heap.size+1,0) b).setCell (w.heap.size+1,1) c).setCell (w.heap.size+1,2) v),w.heap.size+1,2,v)/\
 Acc (((V.setCell (w.heap.size+1,0) b).setCell (w.heap.size+1,1) c).setCell (w.heap.size+1,2) v) (w.heap.size+3) acc v:=
 ⟨h.st.oq h.res b c v,((h.only.setCell (by simp) _).setCell (by simp) _).setCell (by simp) _,by have:=(h.res.set 0 b).cell 0;simpa using this,by have:=((h.res.set 0 b).set 1 c).cell 1;simpa using this,by have:=(((h.res.set 0 b).set 1 c).set 2 v).cell 2;simpa using this,
  h.its.only (L:= [w.heap.size+1]) ((((ae.refl _ V).setCell (by simp) _).setCell (by simp) _).setCell (by simp) _) (by simp)⟩
theorem qD (F:Nat)(cs:Array Value)(A:Value->Array Value)(hF:(F=206/\∃O:Nat,cs= #[.pointer (some ⟨O,0,none⟩)]/\A=fun v=> #[v,.pointer (some ⟨O,0,none⟩)])\/F=207/\∃O br:Nat,cs= #[.pointer (some ⟨O,0,none⟩),.pointer (some ⟨br,0,none⟩)]/\A=fun v=> #[v,.pointer (some ⟨O,0,none⟩),.pointer (some ⟨br,0,none⟩)])(c:Nat)(T:Nat->Ty)(th:Nat->Nat->Bool)(rest:Nat->Nat->List UInt8->kQ)(D:Nat->Option Addr)(dn G:Nat->Nat)(w:World)(g gl B:Nat)(s:ByteArray)(k:Nat)(f m M:Int)(n0:Nat)(hS:ju w g gl B s k f m)(hk:k<=s.size)(hs:s.size<=1099511627776)(hc:c<=1024)(E:Int)(R:kQ)(HR:TW M c s T th rest)
 (ai:f=0->m=M-n0/\R=rest 0 n0 (s.data.toList.drop k)/\E=R.e) (af:f≠0->E=f)
 (HC:Hid (∀i,i<c->∀V I f' m',ae [g,gl] w V->ju V g gl B s I f' m'->I<=s.size->Calls prog F (A i) V fun e w'=>e= .returned (.tuple #[.agg #[.int .i64 (T i).kind,.int .i64 (T i).size,.slice (D i) (dn i) (G i),.int .i64 (T i).tail],.bool (th i I)])/\(V,w')))
 (HV:Hid (∀i,i<c->∀V I (n':Nat),ae [g,gl] w V->ju V g gl B s I 0 (M-n')->I<=s.size->Calls prog 164 #[jk g gl B,.agg #[.int .i64 (T i).kind,.int .i64 (T i).size,.slice (D i) (dn i) (G i),.int .i64 (T i).tail]] V fun e w'=>gM V g gl B s M ((T i).rd M n' (s.data.toList.drop I)) e w')):
 Calls prog 205 #[jk g gl B,c,.func (.func F) #[] cs] w fun e w'=>gM w g gl B s M ⟨E,.mk ⟨#[]⟩ true R.xs,R.n,R.q⟩ e w':=by
 have dw:=za (F1.start hS);have ad:=za HR;have H0:Hid ((f=0->∃z:Nat,m=M-z/\R=(rest 0 z (s.data.toList.drop k)).pre []/\E=R.e)/\(f≠0->E=f)):=za ⟨fun h=>by obtain⟨n,p,C⟩:=ai h;exact⟨n0,n,by rw[p];rfl,C⟩,af⟩;clear hS ai af HR;unfold jW at dw;unfold jk;unfold jk at HV;have HC:=HC.out;rcases hF with⟨rfl,O,rfl,rfl⟩|⟨rfl,O,br,rfl,rfl⟩;all_goals
  dsimp only at HC;have HC:=za HC;go_enter func205,ntmps205
  go_wp2_with fail
  go_loopw [13] (fun i wr=>∃(j r:Nat) (F H:Int) (acc:List It) (v:Value),j<=c/\i= .int .i64 j/\Hid (F1 w g gl B s r F H acc v wr)/\r<=s.size/\acc.length<=j/\Hid ((F=0->∃z:Nat,H=M-z/\R=(rest j z (s.data.toList.drop r)).pre acc/\E=R.e)/\(F≠0->E=F))) (fun i _=>c-(intOf i).toNat)
  case atStart=>exact⟨0,k,f,m,[],_,by omega,rfl,dw,hk,by simp,H0⟩
  case round=>
   obtain⟨j,r,F,H,acc,v,hj,rfl,d,Z,ll,S⟩:=hrel;obtain⟨U,Y,W,rfl,aw,au,av⟩:=d.out.its.cy;by_cases aD:j<c
   ·have SM:=za (HC.out j aD wr r F H d.out.only d.out.st Z);have ao:=za (HV.out j aD);obtain⟨b,y⟩:∃b,th j r=b:=⟨_,rfl⟩
    have HB:=za y;rw[y]at SM;obtain⟨N,aj⟩:∃u,dn j=u:=⟨_,rfl⟩
    rw[aj]at SM ao;clear y HC HV aj;by_cases GZ:b=true/\F=0
    ·obtain⟨rfl,rfl⟩:=GZ;go_wp2_with fail
     refine SM.out.mono ?_;rintro e l ⟨rfl,y⟩;have x:=za (d.out.below y);obtain⟨r0,r1,r2,r3,r4,r5⟩:=ga (show ag l w.heap.size 223 #[_,_,_,_,_,_]from x.out.rdg);have cw:=x.out.siz;have ak:w.heap.size<l.heap.size:=by omega
     have d:=za (x.out.below ((zm _ l).alloc (zd _) (.cells #[.int .i64 (T j).kind,.int .i64 (T j).size,.slice (D j) N (G j),.int .i64 (T j).tail] 70)));clear y;go_wp2_with fail
     refine(bs g s r 0 _ (x.out.st.rdr.alloc _)).mono ?_;rintro e w' ⟨rfl,rfl⟩;have HT:=za (ag.new l 70 #[.int .i64 (T j).kind,.int .i64 (T j).size,.slice (D j) N (G j),.int .i64 (T j).tail]);generalize mF:l.alloc (.cells #[.int .i64 (T j).kind,.int .i64 (T j).size,.slice (D j) N (G j),.int .i64 (T j).tail] 70)=W2 at*;obtain⟨z,rfl,hR,hE⟩:=S.out.1 (by simp);have Lw:=za (And.intro hR hE);have ks:=d.out.glt;have HG:Hid (l.heap.size∉ [g,gl]):=za (by simp;omega);have RH:Hid (∀V,ag V w.heap.size 223 (jW g gl B)/\ag V (w.heap.size+1+1) 28 #[eS,true,.slice U Y W]->ag V l.heap.size 70 #[.int .i64 (T j).kind,.int .i64 (T j).size,.slice (D j) N (G j),.int .i64 (T j).tail]->(V,w.heap.size,0,Value.func (.func 142) #[(g,0)] #[])/\(V,w.heap.size,1,Value.func (.func 160) #[(g,0)] #[])/\(V,w.heap.size,2,Value.func (.func 143) #[(g,0)] #[])/\(V,w.heap.size,3,Value.func (.func 161) #[(g,0)] #[])/\(V,w.heap.size,4,Value.func (.func 162) #[] #[(B,0)])/\(V,w.heap.size,5,gl,0)/\(V,l.heap.size,0,Value.int .i64 (T j).kind)/\(V,l.heap.size,1,Value.int .i64 (T j).size)/\(V,l.heap.size,2,Value.slice (D j) N (G j))/\(V,l.heap.size,3,Value.int .i64 (T j).tail)/\(V,w.heap.size+1+1,2,Value.slice U Y W)/\V.frozen? (w.heap.size+1+1,2)=false):=za (fun V n p=>⟨n.1.cell 0,n.1.cell 1,n.1.cell 2,n.1.cell 3,n.1.cell 4,n.1.cell 5,p.cell 0,p.cell 1,p.cell 2,p.cell 3,n.2.cell 2,n.2.frozen 2⟩);have ah:=za (ao.out W2.drew r z d.out.only.drew (show ju W2.drew g gl B s r 0 (M-z)from d.out.st.drew) Z)
     have uG:=za (ad.out.next j z r aD Z HB.out);obtain⟨Rj,al⟩:∃Rj,(T j).rd M z (s.data.toList.drop r)=Rj:=⟨_,rfl⟩
     rw[al]at ah uG;clear hR hE ks al cw r0 r1 r2 r3 r4 r5;go_wp2_with fail
     refine aK 8 (fun V=>(V,w.heap.size,0,Value.func (.func 142) #[(g,0)] #[])/\(V,w.heap.size,1,Value.func (.func 160) #[(g,0)] #[])/\(V,w.heap.size,2,Value.func (.func 143) #[(g,0)] #[])/\(V,w.heap.size,3,Value.func (.func 161) #[(g,0)] #[])/\(V,w.heap.size,4,Value.func (.func 162) #[] #[(B,0)])/\(V,w.heap.size,5,gl,0)/\(V,l.heap.size,0,Value.int .i64 (T j).kind)/\(V,l.heap.size,1,Value.int .i64 (T j).size)/\(V,l.heap.size,2,Value.slice (D j) N (G j))/\(V,l.heap.size,3,Value.int .i64 (T j).tail)/\(V,w.heap.size+1+1,2,Value.slice U Y W)/\V.frozen? (w.heap.size+1+1,2)=false) (by kernel_rfl) (by kernel_rfl) ?_;have hHeld:=RH.out W2.drew ⟨d.out.rdg.drew,d.out.xb.drew⟩ HT.out.drew;refine GT.jM [0,1,2,3] hHeld (fun _ _ _ _ _ h=>h) (by kernel_rfl) ?_;repeat(refine .c rfl rfl (fun V hV=>by go_simp<;>with_reducible rfl) ?_;simp only[Act.put,zb,ze,zg])
     refine .nil ?_;refine GT.gw 4 (fun ab K=> ?_) rfl (by kernel_rfl);go_simp;refine ah.out.mono ?_;rintro e w3 ⟨X,c0,c1,c2,I,m',rfl,hX,tA,ho,wS,iP⟩;have rm:=za ((d.out.below (zm _ W2).drew).eL ho tA);have Ox:=za (HT.out.drew.only ho HG.out);have UJ:=za iP;have HX:=za hX;obtain⟨ax,bx,rfl,rfl,rfl,_⟩:=hX.open_;clear hX tA ho iP;go_wp2_with fail
     refine K.out _ _ (RH.out w3 ⟨rm.out.rdg,rm.out.xb⟩ Ox.out) (fun hHeld=> ?_);clear K ab;try simp only[Act.put,zb,ze,zg]
     refine GT.gw 5 (fun ab K=> ?_) rfl (by kernel_rfl);go_simp;refine K.out _ _ (RH.out _ ⟨rm.out.rdg.alloc _,rm.out.xb.alloc _⟩ (Ox.out.alloc _)) (fun hHeld=> ?_);clear K ab;try simp only[Act.put,zb,ze,zg]
     refine GT.gw 6 (fun ab K=> ?_) rfl (by kernel_rfl);have ar:Hid (fR (w3.alloc (.cells #[X.text,X.list,.slice ax X.sub.length bx] 28)) (fun q=>w.heap.size+3<=q/\(Value.slice U Y W).ownBlock≠some q) X X.text X.list (.slice ax X.sub.length bx)):=za ((HX.out.below ((zm _ w3).alloc (zd _) _)).ef (fun q _ hq=>⟨by have:=d.out.siz;simp at hq;omega,fun e=>by have:=(d.out.its.ge _ e).2;simp at hq;omega⟩));have JS:acc.length<=1000000:=by omega
     have aq:w.heap.size+3<=(w3.alloc (.cells #[X.text,X.list,.slice ax X.sub.length bx] 28)).heap.size:=by have:=rm.out.siz;simp;omega
     refine qp (by rfl) (.tmp 31) (.tmp 35) (by rfl) (w.heap.size+3) acc (by rfl) (rm.out.its.below ((zm _ w3).alloc (zd _) _)) X ar.out _ (by rfl) (by simp) (by simp) (by simp) JS aq ?_;intro g' n' an w5 Uz GF gB aA;have wW:=za (rm.out.below ((zm _ w3).alloc (zd _) (.cells #[X.text,X.list,.slice ax X.sub.length bx] 28)));have Rv:=za ((Ox.out.alloc _).grown gB (fun e=>by have:=(x.out.its.ge _ e).2;omega));have oS:=za (wW.out.more gB GF);refine K.out _ _ (RH.out w5 (wW.out.cells gB) Rv.out) (fun hHeld=> ?_);clear K ab;try simp only[Act.put,zb,ze,zg]
     refine GT.jM [7] hHeld (fun _ _ _ _ _ h=>h) (by kernel_rfl) ?_;refine .c rfl rfl (fun V hV=>by go_simp<;>with_reducible rfl) ?_;simp only[Act.put,zb,ze,zg];refine .nil ?_;refine GT.pF 8 ?_ rfl (by kernel_rfl);obtain⟨z0,z1,z2,z3,z4,z5,z6,z7,z8,z9,az,ay⟩:=hHeld;clear GF gB;go_simp;all_goals
      go_wp2;go_roundw
      case rel=>
       refine⟨j+1,I,Rj.e,m',acc++ [X],_,by omega,by go_num,oS,wS,by simp;omega,za ⟨fun h0=> ?_,fun h0=> ?_⟩⟩
       ·obtain⟨g1,g2,g3⟩:=UJ.out h0;have o:=uG.out;rw[zi (by simp[h0])]at o;refine⟨Rj.n,g3, ?_,Lw.out.2⟩;rw[Lw.out.1,o,kQ.Qo,g1,g2]
       have o:=uG.out;rw[zj h0]at o;rw[Lw.out.2,Lw.out.1,o];rfl
      case measure=>simp[intOf];omega
    have aa:Hid (E=F/\(E=0->R.xs=acc/\R.q=s.data.toList.drop r/\H=M-R.n)):=za (by
     by_cases hF:F=0
     ·obtain⟨z,n,p,C⟩:=S.out.1 hF;rw[ad.out.lack _ _ _ aD Z (by cases b<;>simp_all[HB.out])]at p;subst p;exact⟨by rw[C,hF];rfl,fun _=>⟨by simp[kQ.pre],rfl,n⟩⟩
     exact⟨S.out.2 hF,fun h=>absurd ((S.out.2 hF).symm.trans h) hF⟩)
    obtain rfl:F=E:=aa.out.1.symm;cases b with
    |false=>
     go_wp2_with fail
     refine SM.out.mono ?_;rintro e l ⟨rfl,y⟩;have x:=za (d.out.below y);obtain⟨r0,r1,r2,r3,r4,r5⟩:=ga (show ag l w.heap.size 223 #[_,_,_,_,_,_]from x.out.rdg);have cw:=x.out.siz;have ak:w.heap.size<l.heap.size:=by omega
     have d:=za (x.out.below ((zm _ l).alloc (zd _) (.cells #[.int .i64 (T j).kind,.int .i64 (T j).size,.slice (D j) N (G j),.int .i64 (T j).tail] 70)));clear y;obtain⟨n0,n1,n2,m0,m1,m2⟩:=jb d.out.res;obtain⟨x0,x1,x2,_,_,_⟩:=jb d.out.xb;obtain⟨o,J,y0,y1,y2,L⟩:=d.out.ends eS true;have E1:=za o;have E2:=za J;have HA:=za (L.list (by omega));clear o J L;go_wp2;have o:=E1.out;refine zl (v:= .agg #[eS,true,.slice U Y W]) (by simp[results,results205,go_sem,y0,y1,y2]) rfl ?_;refine⟨_,_,_,_,r,H,rfl,HA.out.ef (fun _ _ h=>by omega),o,E2.out,Z,fun h=> ?_⟩;obtain⟨n,p,C⟩:=aa.out.2 h;exact⟨by rw[n],p,C⟩
    |true=>
     have hF:(F !=0)=true:=yN.2 (fun h=>GZ ⟨rfl,h⟩);go_wp2_with fail
     refine SM.out.mono ?_;rintro e l ⟨rfl,y⟩;have x:=za (d.out.below y);obtain⟨r0,r1,r2,r3,r4,r5⟩:=ga (show ag l w.heap.size 223 #[_,_,_,_,_,_]from x.out.rdg);have cw:=x.out.siz;have ak:w.heap.size<l.heap.size:=by omega
     have d:=za (x.out.below ((zm _ l).alloc (zd _) (.cells #[.int .i64 (T j).kind,.int .i64 (T j).size,.slice (D j) N (G j),.int .i64 (T j).tail] 70)));clear y;go_wp2_with fail
     refine(bs g s r F _ (x.out.st.rdr.alloc _)).mono ?_;rintro e w' ⟨rfl,rfl⟩;obtain⟨n0,n1,n2,m0,m1,m2⟩:=jb d.out.res;obtain⟨x0,x1,x2,_,_,_⟩:=jb d.out.xb;obtain⟨o,J,y0,y1,y2,L⟩:=d.out.ends eS true;have E1:=za o;have E2:=za J;have HA:=za (L.list (by omega));clear o J L;go_wp2;have o:=E1.out;refine zl (v:= .agg #[eS,true,.slice U Y W]) (by simp[results,results205,go_sem,y0,y1,y2]) rfl ?_;refine⟨_,_,_,_,r,H,rfl,HA.out.ef (fun _ _ h=>by omega),o,E2.out,Z,fun h=> ?_⟩;obtain⟨n,p,C⟩:=aa.out.2 h;exact⟨by rw[n],p,C⟩
   have aa:Hid (E=F/\(E=0->R.xs=acc/\R.q=s.data.toList.drop r/\H=M-R.n)):=za (by
    by_cases hF:F=0
    ·obtain⟨z,n,p,C⟩:=S.out.1 hF;rw[ad.out.done _ _ _ (by omega)]at p;subst p;exact⟨by rw[C,hF];rfl,fun _=>⟨by simp[kQ.pre],rfl,n⟩⟩
    exact⟨S.out.2 hF,fun h=>absurd ((S.out.2 hF).symm.trans h) hF⟩)
   obtain rfl:F=E:=aa.out.1.symm;obtain⟨n0,n1,n2,m0,m1,m2⟩:=jb d.out.res;obtain⟨x0,x1,x2,_,_,_⟩:=jb d.out.xb;obtain⟨o,J,y0,y1,y2,L⟩:=d.out.ends eS true;have E1:=za o;have E2:=za J;have HA:=za (L.list (by omega));clear o J L;go_wp2;have o:=E1.out;refine zl (v:= .agg #[eS,true,.slice U Y W]) (by simp[results,results205,go_sem,y0,y1,y2]) rfl ?_;refine⟨_,_,_,_,r,H,rfl,HA.out.ef (fun _ _ h=>by omega),o,E2.out,Z,fun h=> ?_⟩;obtain⟨n,p,C⟩:=aa.out.2 h;exact⟨by rw[n],p,C⟩
theorem tN.KT {gl c:Nat}{d:Int}(h:tN w g gl c s k f m tc V)(b:ae [g,gl] V V')(j:ju V' g gl c s e i d):tN w g gl c s e i d tc V' where
 rdg:=h.rdg.only b (by simp[h.rdg.DW h.st.rdr (by decide),h.rdg.DW h.st.left (by decide)])
 ty:=h.ty.only b (by simp[h.ty.DW h.st.rdr (by decide),h.ty.DW h.st.left (by decide)])
 res:=h.res.only b (by simp[h.res.DW h.st.rdr (by decide),h.res.DW h.st.left (by decide)])
 st:=j
 only:=h.only.trans b
 siz:=zG h.siz b.size
theorem fR.oq {b:Nat}{X:It}{c e d:Value}(h:fR w (B<= ·) X c e d)(l:b<B)(j i k:Value):fR (((w.setCell (b,0) j).setCell (b,1) i).setCell (b,2) k) (B<= ·) X c e d:=
 h.only (L:= [b]) ((((ae.refl _ w).setCell (by simp) _).setCell (by simp) _).setCell (by simp) _) (by simp;omega) (fun _ _ h=>h)
theorem Ja (a:Ty)(D:Nat)(B:Nat)(A:Option Addr)(cap:Nat)(w:World)(g gl q:Nat)(s:ByteArray)(c n:Nat)(M:Int)(hS:ju w g gl q s c 0 (M-n))(hk:c<=s.size)(hs:s.size<=1099511627776)(hM:¬M<=n)(Cx:M<=1024)(SL:D<=1024)(hL:ba w)(hg:0<g)(ks:0<gl)
 (hT:eW w B [a] A 0) (hB:B<=w.heap.size) (al:B<=g) (Cg:B<=gl)
 (IH:Hid (∀V c0 c1 c2 c3 c (n:Nat),cq V B a c0 c1 c2 c3->B<=V.heap.size->ju V g gl q s c 0 (M-n)->c<=s.size->ba V->Calls prog 164 #[jk g gl q,.agg #[c0,c1,c2,c3]] V fun e w'=>gM V g gl q s M (a.rd M n (s.data.toList.drop c)) e w')):
 Calls prog 164 #[jk g gl q,.agg #[(4:Int),D,.slice A [a].length cap,(0:Int)]] w fun e w'=>gM w g gl q s M ((Ty.mk 4 D [a] 0).rd M n (s.data.toList.drop c)) e w':=by
 have aD:=hS.rdr.lt;have pA:=hS.left.lt;have d0:decide (M-(n:Int)<=0)=false:=zv (by omega);rw[CT hM];have RG:=za (fun V (hV:ju V g gl q s c 0 (M-n-1)) (hl:ba V)=>B5 g gl q s c D _ V hV hk (by omega) (by omega) hl (by omega));have wV:=fun(h0:(au (s.data.toList.drop c)).2.2=0)=>(iK (s.data.toList.drop c) (au (s.data.toList.drop c)).1 (au (s.data.toList.drop c)).2.1 (by rw[<-h0])).2.1
 rw[zP,aa]at wV;have af:=kX (au (s.data.toList.drop c)) D c;obtain⟨b,o,t0,t1,t2,t3,rfl,gb,e0,k,d,e3,oc⟩:=hT.at_ 0 (by simp);simp only[zJ,Nat.zero_mul,xe,yS]at e0 k d e3 oc;obtain⟨dA,dc,rfl,rfl,rfl,rfl,_⟩:=oc.open_;have ak:=za oc;have HE:=za (And.intro e0 (And.intro k (And.intro d e3)));have Bb:=za hL;obtain⟨ab,ta,S,ez,et,el⟩:∃(ab ta:Int) (S:List Ty),ab=D/\ta=0/\S= [a]:=⟨_,_,_,rfl,rfl,rfl⟩
 rw[<-et,<-ez];obtain⟨A,hA⟩:∃A,(some ((b,o):Addr))=A:=⟨_,rfl⟩
 rw[hA];have aj:=za hA;rw[show [a].length=S.length from by rw[el]];clear hA hT oc e0 k d e3;have I:=za (tN.start (tc:= #[.int .i64 (4),ab,.slice A S.length cap,ta]) hS);generalize lq:(((w.alloc (.cells (jW g gl q) 223)).alloc (.cells #[.int .i64 (4),ab,.slice A S.length cap,ta] 70)).alloc (.cells #[eS,false,nS] 28))=W3 at*;unfold jW at lq;obtain⟨p0,Y,N,p3,W,Z⟩:=ga (show ag W3 w.heap.size 223 #[_,_,_,_,_,_]from I.out.rdg);obtain⟨L,q1,O,q3,_⟩:=aU I.out.ty;have l0:W3.cell? (gl,0)=some (.int .i64 (M-n)):=I.out.st.left.cell 0;have l1:=I.out.st.left.frozen 0;subst ez et;have ah:S.length=1:=by rw[el];rfl
 rw[ah]at lq I⊢;clear el ah;have RF:=fun V (h:tN w g gl q s c 0 (M-n-1) #[(4:Int),D,.slice A 1 cap,(0:Int)] V)=>hL.only h.only (by simp;omega)
 have DL:=za RF;clear RF hL;generalize au (s.data.toList.drop c)=ai at*;obtain⟨Nm,U,Ne⟩:=ai;simp only at wV af⊢;rcases af with⟨x,hE,Sx,hK⟩|⟨x,z,hE,Sx,hK⟩|⟨x,z,hE,Sx,hK⟩
 ·rw[zj x];rw[hE,Sx,hK]at RG;have m:=za (I.out.less (M-n-1));generalize uM:W3.setCell (gl,0) (.int .i64 (M-n-1))=p at*;clear L q1 O q3;obtain⟨p0,Y,N,p3,W,Z⟩:=ga (show ag p w.heap.size 223 #[_,_,_,_,_,_]from m.out.rdg);obtain⟨L,q1,O,q3,_⟩:=aU m.out.ty;unfold jk;clear hS;go_enter xF,xr
  go_wp2_with fail
  have uB:ba p:=DL.out p m.out;refine(RG.out p m.out.st uB).mono ?_;rintro e C ⟨rfl,H,l⟩;have j:=za (m.out.eL l H.rdr);obtain⟨p0,Y,N,p3,W,Z⟩:=ga (show ag C w.heap.size 223 #[_,_,_,_,_,_]from j.out.rdg);clear H l;go_wp2_with fail
  refine(qD _ _ _ (.inl ⟨rfl,w.heap.size+1,rfl,rfl⟩) 0 (fun _=>a) (fun _ _=>true) (fun i n r=>tH (fun n r=>a.rd M n r) (0-i) n r) (fun _=>dA) (fun _=>a.sub.length) (fun _=>dc) C g gl q s c Ne _ M (n+1) j.out.st hk hs (by omega) Ne ⟨0,[],0,[]⟩ (TW.Su M 0 s a) (fun h=>absurd h x) (fun _=>rfl) (za fun i hi=>by omega) (za fun i hi=>by omega)).mono ?_;rintro e w2 ⟨X,c0,c1,c2,K,R,rfl,y,F,l,J,G⟩;obtain⟨u,bx,rfl,rfl,rfl,_⟩:=y.open_;have E:=za (j.out.KT l F);have HX:=za (y.oq (b:=w.heap.size+1+1) (by have:=j.out.siz;omega) X.text X.list (.slice u X.sub.length bx));have UJ:=za G;clear y F l G;obtain⟨n0,n1,n2,m0,m1,m2⟩:=jb E.out.res;obtain⟨k,d,y0,y1,y2⟩:=E.out.ends (.string X.text) (.bool X.list) (.slice u X.sub.length bx);have E1:=za k;have E2:=za d;clear k d;go_wp2;have k:=E1.out;have d:=E2.out;refine zl (v:= .agg #[.string X.text,.bool X.list,.slice u X.sub.length bx]) (by simp[results,yZ,go_sem,y0,y1,y2]) rfl ?_;exact⟨X,_,_,_,K,R,rfl,HX.out.ef (fun _ _ h=>by have:=j.out.siz;omega),k,d,J,fun h=>absurd h x⟩
 ·rw[zi (by rw[x];simp),zj (by omega)];rw[hE,Sx,hK]at RG;have m:=za (I.out.less (M-n-1));generalize uM:W3.setCell (gl,0) (.int .i64 (M-n-1))=p at*;clear L q1 O q3;obtain⟨p0,Y,N,p3,W,Z⟩:=ga (show ag p w.heap.size 223 #[_,_,_,_,_,_]from m.out.rdg);obtain⟨L,q1,O,q3,_⟩:=aU m.out.ty;unfold jk;clear hS;go_enter xF,xr
  go_wp2_with fail
  have uB:ba p:=DL.out p m.out;refine(RG.out p m.out.st uB).mono ?_;rintro e C ⟨rfl,H,l⟩;have j:=za (m.out.eL l H.rdr);obtain⟨p0,Y,N,p3,W,Z⟩:=ga (show ag C w.heap.size 223 #[_,_,_,_,_,_]from j.out.rdg);clear H l;go_wp2_with fail
  refine(qD _ _ _ (.inl ⟨rfl,w.heap.size+1,rfl,rfl⟩) 0 (fun _=>a) (fun _ _=>true) (fun i n r=>tH (fun n r=>a.rd M n r) (0-i) n r) (fun _=>dA) (fun _=>a.sub.length) (fun _=>dc) C g gl q s c 5 _ M (n+1) j.out.st hk hs (by omega) 5 ⟨0,[],0,[]⟩ (TW.Su M 0 s a) (fun h=>absurd h (by decide)) (fun _=>rfl) (za fun i hi=>by omega) (za fun i hi=>by omega)).mono ?_;rintro e w2 ⟨X,c0,c1,c2,K,R,rfl,y,F,l,J,G⟩;obtain⟨u,bx,rfl,rfl,rfl,_⟩:=y.open_;have E:=za (j.out.KT l F);have HX:=za (y.oq (b:=w.heap.size+1+1) (by have:=j.out.siz;omega) X.text X.list (.slice u X.sub.length bx));have UJ:=za G;clear y F l G;obtain⟨n0,n1,n2,m0,m1,m2⟩:=jb E.out.res;obtain⟨k,d,y0,y1,y2⟩:=E.out.ends (.string X.text) (.bool X.list) (.slice u X.sub.length bx);have E1:=za k;have E2:=za d;clear k d;go_wp2;have k:=E1.out;have d:=E2.out;refine zl (v:= .agg #[.string X.text,.bool X.list,.slice u X.sub.length bx]) (by simp[results,yZ,go_sem,y0,y1,y2]) rfl ?_;exact⟨X,_,_,_,K,R,rfl,HX.out.ef (fun _ _ h=>by have:=j.out.siz;omega),k,d,J,fun h=>absurd h (show¬(5:Int)=0 by decide)⟩
 rw[zi (by rw[x];simp),zi (by omega)];rw[hE,Sx,hK]at RG;have aI:=wV x;rw[xw];show Calls _ _ _ _ fun e w'=>gM w g gl q s M ⟨(tH (fun n r=>a.rd M n r) Nm (n+1) (s.data.toList.drop (c+U))).e,.mk ⟨#[]⟩ true (tH (fun n r=>a.rd M n r) Nm (n+1) (s.data.toList.drop (c+U))).xs,(tH (fun n r=>a.rd M n r) Nm (n+1) (s.data.toList.drop (c+U))).n,(tH (fun n r=>a.rd M n r) Nm (n+1) (s.data.toList.drop (c+U))).q⟩ e w'
 obtain⟨ad,hR⟩:∃ad,tH (fun n r=>a.rd M n r) Nm (n+1) (s.data.toList.drop (c+U))=ad:=⟨_,rfl⟩
 rw[hR];have Eg:=za hR;clear hR;have m:=za (I.out.less (M-n-1));generalize uM:W3.setCell (gl,0) (.int .i64 (M-n-1))=p at*;clear L q1 O q3;obtain⟨p0,Y,N,p3,W,Z⟩:=ga (show ag p w.heap.size 223 #[_,_,_,_,_,_]from m.out.rdg);obtain⟨L,q1,O,q3,_⟩:=aU m.out.ty;unfold jk;clear hS;go_enter xF,xr
 go_wp2_with fail
 have uB:ba p:=DL.out p m.out;refine(RG.out p m.out.st uB).mono ?_;rintro e C ⟨rfl,H,l⟩;have j:=za (m.out.eL l H.rdr);obtain⟨p0,Y,N,p3,W,Z⟩:=ga (show ag C w.heap.size 223 #[_,_,_,_,_,_]from j.out.rdg);clear H l;go_wp2_with fail
 have oe:ag C (w.heap.size+1) 70 #[(4:Int),D,.slice (some (b,o)) 1 cap,(0:Int)]:=by rw[aj.out];exact j.out.ty
 have jY:∀V,ae [g,gl] C V->ae [g,gl] w V/\Below B w V:=fun V h=>⟨j.out.only.trans h,(j.out.only.trans h).below hB (by simp;omega)⟩
 refine(qD _ _ _ (.inl ⟨rfl,w.heap.size+1,rfl,rfl⟩) Nm (fun _=>a) (fun _ _=>true) (fun i n r=>tH (fun n r=>a.rd M n r) (Nm-i) n r) (fun _=>dA) (fun _=>a.sub.length) (fun _=>dc) C g gl q s (c+U) 0 _ M (n+1) j.out.st (by omega) hs (by omega) ad.e ad (TW.Su M Nm s a) (fun _=>⟨by omega,by rw[<-Eg.out];simp,rfl⟩) (fun h=>absurd rfl h) (za fun i hi V K f' R SN hV J=>by
  obtain⟨x,z⟩:=jY V SN;obtain⟨e0,k,d,e3⟩:=HE.out;exact Xu i (w.heap.size+1) b o 1 cap 4 D 0 _ _ _ _ V (oe.only SN (by simp;omega)) (by omega) (by omega) ((z.cell gb).trans e0) ((z.cell gb).trans k) ((z.cell gb).trans d) ((z.cell gb).trans e3) (by have:=z.size;omega) _ _ _ _ _ _ rfl rfl rfl rfl) (za fun i hi V K n' SN hV J=>by
  obtain⟨x,z⟩:=jY V SN;exact IH.out V _ _ _ _ K n' (ak.out.below z) (by have:=z.size;omega) hV J (Bb.out.only x (by simp;omega)))).mono ?_
 rintro e w2 ⟨X,c0,c1,c2,K,R,rfl,y,F,l,J,G⟩;obtain⟨u,bx,rfl,rfl,rfl,_⟩:=y.open_;have E:=za (j.out.KT l F);have HX:=za (y.oq (b:=w.heap.size+1+1) (by have:=j.out.siz;omega) X.text X.list (.slice u X.sub.length bx));have UJ:=za G;clear y F l G;obtain⟨n0,n1,n2,m0,m1,m2⟩:=jb E.out.res;obtain⟨k,d,y0,y1,y2⟩:=E.out.ends (.string X.text) (.bool X.list) (.slice u X.sub.length bx);have E1:=za k;have E2:=za d;clear k d;go_wp2;have k:=E1.out;have d:=E2.out;refine zl (v:= .agg #[.string X.text,.bool X.list,.slice u X.sub.length bx]) (by simp[results,yZ,go_sem,y0,y1,y2]) rfl ?_;exact⟨X,_,_,_,K,R,rfl,HX.out.ef (fun _ _ h=>by have:=j.out.siz;omega),k,d,J,UJ.out⟩
theorem M8 {A:Option Addr}(h:eW w B l A 0):∃p:Nat->Option Addr×Nat,∀i (hi:i<l.length),∃b o,A=some ⟨b,o,none⟩/\b<B/\(w,b,o+i*4,Value.int .i64 (l[i]).kind)/\(w,b,o+i*4+1,Value.int .i64 (l[i]).size)/\(w,b,o+i*4+2,Value.slice (p i).1 (l[i]).sub.length (p i).2)/\(w,b,o+i*4+3,Value.int .i64 (l[i]).tail)/\cq w B l[i] (.int .i64 (l[i]).kind) (.int .i64 (l[i]).size) (.slice (p i).1 (l[i]).sub.length (p i).2) (.int .i64 (l[i]).tail):=by
 have key:∀i,∃p:Option Addr×Nat,∀(hi:i<l.length),∃b o,A=some ⟨b,o,none⟩/\b<B/\(w,b,o+i*4,Value.int .i64 (l[i]).kind)/\(w,b,o+i*4+1,Value.int .i64 (l[i]).size)/\(w,b,o+i*4+2,Value.slice p.1 (l[i]).sub.length p.2)/\(w,b,o+i*4+3,Value.int .i64 (l[i]).tail)/\cq w B l[i] (.int .i64 (l[i]).kind) (.int .i64 (l[i]).size) (.slice p.1 (l[i]).sub.length p.2) (.int .i64 (l[i]).tail):=fun i=>by
  by_cases hi:i<l.length
  ·obtain⟨b,o,s,u,x,r,q,m,j,k,d,c,e⟩:=h.at_ i hi;obtain⟨n,cap,rfl,rfl,rfl,rfl,_⟩:=e.open_;simp only[zJ]at j k d c;exact⟨(n,cap),fun _=>⟨b,o,q,m,j,k,d,c,e⟩⟩
  exact⟨(none,0),fun h=>absurd h hi⟩
 exact⟨fun i=>Classical.choose (key i),fun i hi=>Classical.choose_spec (key i) hi⟩
theorem Qp {i:Nat}(h:i<l.length):l[i]?.getD (.mk 0 0 [] 0)=l[i]:=by simp[h]
theorem Jb (l:List Ty)(c:Int)(B:Nat)(A:Option Addr)(cap:Nat)(w:World)(g gl j:Nat)(s:ByteArray)(d n:Nat)(M:Int)(hS:ju w g gl j s d 0 (M-n))(hk:d<=s.size)(hs:s.size<=1099511627776)(hM:¬M<=n)(Cx:M<=1024)(hl:l.length<=16)(oc:0<=c)(JM:c<=l.length)(hL:ba w)(hg:0<g)(ks:0<gl)
 (hT:eW w B l A 0) (hB:B<=w.heap.size) (ab:B<=g) (Cg:B<=gl)
 (IH:Hid (∀a∈l,∀V U Z L c3 d (n:Nat),cq V B a U Z L c3->B<=V.heap.size->ju V g gl j s d 0 (M-n)->d<=s.size->ba V->Calls prog 164 #[jk g gl j,.agg #[U,Z,L,c3]] V fun e w'=>gM V g gl j s M (a.rd M n (s.data.toList.drop d)) e w')):
 Calls prog 164 #[jk g gl j,.agg #[(5:Int),(0:Int),.slice A l.length cap,c]] w fun e w'=>gM w g gl j s M ((Ty.mk 5 0 l c).rd M n (s.data.toList.drop d)) e w':=by
 have aD:=hS.rdr.lt;have pA:=hS.left.lt;have d0:decide (M-(n:Int)<=0)=false:=zv (by omega);rw[uv hM];obtain⟨p,hp⟩:=M8 hT;have HP:=za hp;have Bb:=za hL;show Calls _ _ _ _ fun e w'=>gM w g gl j s M ⟨(nQ M l ((l.length:Int)-c).toNat (n+1) (s.data.toList.drop d)).e,.mk ⟨#[]⟩ true (nQ M l ((l.length:Int)-c).toNat (n+1) (s.data.toList.drop d)).xs,(nQ M l ((l.length:Int)-c).toNat (n+1) (s.data.toList.drop d)).n,(nQ M l ((l.length:Int)-c).toNat (n+1) (s.data.toList.drop d)).q⟩ e w'
 obtain⟨R,W⟩:∃R,nQ M l ((l.length:Int)-c).toNat (n+1) (s.data.toList.drop d)=R:=⟨_,rfl⟩
 rw[W];have Eg:=za W;clear W hp hT;obtain⟨z,C,ez,el⟩:∃(z:Int) (C:List Ty),z=0/\C=l:=⟨_,_,rfl,rfl⟩
 rw[<-ez];rw[show l.length=C.length from by rw[el]];have D:=za (tN.start (tc:= #[.int .i64 (5),z,.slice A C.length cap,c]) hS);generalize lq:(((w.alloc (.cells (jW g gl j) 223)).alloc (.cells #[.int .i64 (5),z,.slice A C.length cap,c] 70)).alloc (.cells #[eS,false,nS] 28))=W3 at*;unfold jW at lq;obtain⟨p0,p1,p2,p3,p4,p5⟩:=ga (show ag W3 w.heap.size 223 #[_,_,_,_,_,_]from D.out.rdg);obtain⟨q0,q1,q2,q3,_⟩:=aU D.out.ty;have l0:W3.cell? (gl,0)=some (.int .i64 (M-n)):=D.out.st.left.cell 0;have l1:=D.out.st.left.frozen 0;subst ez;obtain⟨G,N⟩:∃G,C.length=G:=⟨_,rfl⟩
 have u:Hid (l.length=G):=za (by rw[<-N,el]);rw[N]at lq D⊢;clear N el hL;have q:=za (D.out.less (M-n-1));generalize uM:W3.setCell (gl,0) (.int .i64 (M-n-1))=S at*;clear q0 q1 q2 q3;obtain⟨p0,p1,p2,p3,p4,p5⟩:=ga (show ag S w.heap.size 223 #[_,_,_,_,_,_]from q.out.rdg);obtain⟨q0,q1,q2,q3,_⟩:=aU q.out.ty;unfold jk;clear hS;go_enter xF,xr
 go_wp2_with fail
 have oe:=q.out.ty;have jY:∀V,ae [g,gl] S V->ae [g,gl] w V/\Below B w V:=fun V h=>⟨q.out.only.trans h,(q.out.only.trans h).below hB (by simp;omega)⟩
 refine(qD _ _ _ (.inr ⟨rfl,w.heap.size+1,w.heap.size,rfl,rfl⟩) G (fun i=>l[i]?.getD (.mk 0 0 [] 0)) (fun i k=>decide ((i:Int)<(l.length:Int)-c)||decide (k<s.size)) (fun i n aa=>nQ M (l.drop i) (((l.length:Int)-c).toNat-i) n aa) (fun i=>(p i).1) (fun i=>(l[i]?.getD (.mk 0 0 [] 0)).sub.length) (fun i=>(p i).2) S g gl j s d 0 _ M (n+1) q.out.st hk hs (by have:=u.out;omega) R.e R (by rw[<-u.out];exact TW.ofT M s l c oc) (fun _=>⟨by omega,by rw[<-Eg.out];simp,rfl⟩) (fun h=>absurd rfl h) (za fun i hi V I f' O E hV H=>by
  obtain⟨h1,m⟩:=jY V E;have y:i<l.length:=by rw[u.out];exact hi
  rw[Qp y];obtain⟨b,o,hA,F,e0,x,r,e3,_⟩:=HP.out i y;rw[hA]at oe;have:=m.size;rw[u.out];exact Xv i (w.heap.size+1) w.heap.size g gl j b o G cap s I O 5 0 c _ _ _ _ V (oe.only E (by simp;omega)) (q.out.rdg.only E (by simp;omega)) f' hV H (by omega) hi (by have:=u.out;omega) oc (by have:=u.out;omega) ((m.cell F).trans e0) ((m.cell F).trans x) ((m.cell F).trans r) ((m.cell F).trans e3) (by omega) _ _ _ _ _ _ rfl rfl rfl rfl) (za fun i hi V I n' E hV H=>by
  obtain⟨h1,m⟩:=jY V E;have y:i<l.length:=by rw[u.out];exact hi
  rw[Qp y];obtain⟨b,o,hA,F,e0,x,r,e3,Lg⟩:=HP.out i y;exact IH.out _ (zD y) V _ _ _ _ I n' (Lg.below m) (by have:=m.size;omega) hV H (Bb.out.only h1 (by simp;omega)))).mono ?_
 have Y:=q;rintro e w2 ⟨X,U,Z,L,I,O,rfl,K,tA,ho,H,iP⟩;obtain⟨J,bx,rfl,rfl,rfl,_⟩:=K.open_;have tB:=za (Y.out.KT ho tA);have HX:=za (K.oq (b:=w.heap.size+1+1) (by have:=Y.out.siz;omega) X.text X.list (.slice J X.sub.length bx));have UJ:=za iP;clear K tA ho iP;obtain⟨n0,n1,n2,m0,m1,m2⟩:=jb tB.out.res;obtain⟨x,r,y0,y1,y2⟩:=tB.out.ends (.string X.text) (.bool X.list) (.slice J X.sub.length bx);have E1:=za x;have E2:=za r;clear x r;go_wp2;have x:=E1.out;have r:=E2.out;refine zl (v:= .agg #[.string X.text,.bool X.list,.slice J X.sub.length bx]) (by simp[results,yZ,go_sem,y0,y1,y2]) rfl ?_;exact⟨X,_,_,_,I,O,rfl,HX.out.ef (fun _ _ h=>by have:=Y.out.siz;omega),x,r,H,UJ.out⟩
theorem TX :∀(x:Ty) (B:Nat) (w:World) (J I H G:Value) (g gl d:Nat) (s:ByteArray) (c n:Nat) (M:Int),cq w B x J I H G->B<=w.heap.size->B<=g->B<=gl->x.right=true->ju w g gl d s c 0 (M-n)->c<=s.size->s.size<=1099511627776->M<=1024->ba w->0<g->0<gl->
 Calls prog 164 #[jk g gl d,.agg #[J,I,H,G]] w fun e w'=>gM w g gl d s M (x.rd M n (s.data.toList.drop c)) e w':=by
 intro x;induction x using Ty.ind with
 |h ki z l ta ih=>
  intro B w J I H G g gl d s c n M h W y u Y hS p i o C q r;obtain⟨rfl,rfl,rfl,_,_,_,Q6,A,cap,rfl,nH,kr,R⟩:=h;obtain⟨bE,S⟩:=jB Y;by_cases k:M<=n
  ·rw[Kp k];exact I9 ki z ta l A cap w g gl d s c n M hS p k
  rcases ka bE with⟨rfl,O,m,rfl⟩|⟨rfl,O,E,m,rfl⟩|⟨rfl,O,E,m,rfl⟩|⟨rfl,O,E,m,rfl⟩|⟨rfl,rfl,E,h5,h6⟩
  ·obtain rfl:l= []:=zo m;obtain⟨b,rfl⟩:∃b:Nat,z=b:=⟨z.toNat,by omega⟩
   exact M6 b A cap w g gl d s c n M hS p i k o (by omega) (by omega)
  ·obtain rfl:l= []:=zo m;obtain⟨b,rfl⟩:∃b:Nat,z=b:=⟨z.toNat,by omega⟩
   exact M7 b A cap w g gl d s c n M hS p i k o (by omega)
  ·obtain rfl:l= []:=zo m;obtain⟨b,rfl⟩:∃b:Nat,z=b:=⟨z.toNat,by omega⟩
   exact F0 b A cap w g gl d s c n M hS p i k o (by omega) C q r
  ·obtain⟨a,rfl⟩:=Yn.1 m;obtain⟨b,rfl⟩:∃b:Nat,z=b:=⟨z.toNat,by omega⟩
   have Z:a.right=true:=by simpa[bQ]using S
   exact Ja a b B A cap w g gl d s c n M hS p i k o (by omega) C q r R W y u (za fun V d0 d1 d2 d3 c n N D K F L=>ih a (by simp) B V d0 d1 d2 d3 g gl d s c n M N D y u Z K F i o L q r)
  exact Jb l ta B A cap w g gl d s c n M hS p i k o (by omega) (by omega) (by omega) C q r R W y u (za fun a U V d0 d1 d2 d3 c n N D K F L=>by
   obtain⟨j,X,rfl⟩:=yY U;exact ih _ U B V d0 d1 d2 d3 g gl d s c n M N D y u (eF S j X) K F i o L q r)
theorem wj (most b:Int)(d a u t p:Nat)(s:ByteArray)(w:World)(k:s.size<=9223372036854775807)(l: -9223372036854775808<=most)(m:most<=9223372036854775807)(n:tM w d a u t p)(x:a<=9223372036854775807)(hu:u+70000<=a)(y:t+70000<=9223372036854775807)(z:b<=70000):
 Calls prog 101 #[most,b,(d,0),s] w fun e w'=>e=B9 (aT most b s)/\(∃q,tM w' d a (u+(aT most b s).2.2.2.2) (t+(aT most b s).2.2.2.2) q)/\ae [d] w w':=by
 by_cases hx:(aj most s).1≠0\/(aB (aj most s).2.2.1).2.2≠0\/b<(aB (aj most s).2.2.1).1
 ·have hz:(aT most b s).2.2.2.2=0:=by
   rw[bN];by_cases c:(aj most s).1≠0
   ·rw[zj c]
   rw[zi c];by_cases i:(aB (aj most s).2.2.1).2.2≠0
   ·rw[zj i]
   rw[zi i,zj (by rcases hx with h|h|h;exact absurd h c;exact absurd h i;exact h)]
  rw[hz];exact(AK most b d s w k l m hx).mono fun e w' ⟨r,j⟩=>⟨r,⟨p,n.only j (by simp)⟩,j.mono (by simp)⟩
 have c:(aj most s).1=0:=Decidable.byContradiction fun h=>hx (.inl h)
 have i:(aB (aj most s).2.2.1).2.2=0:=Decidable.byContradiction fun h=>hx (.inr (.inl h))
 have o:((aB (aj most s).2.2.1).1:Int)<=b:=by
  have:¬b<(aB (aj most s).2.2.1).1:=fun h=>hx (.inr (.inr h))
  omega
 have hz:(aT most b s).2.2.2.2=(aB (aj most s).2.2.1).1:=by
  rw[bN,zi (by rw[c];simp),zi (by rw[i];simp),zi (by omega)];split<;>rfl
 rw[hz];exact AL most b d a u t p s w k l m n x c i o (by omega) (by omega)
theorem Jc (most b:Int)(s:ByteArray):(aT most b s).2.2.2.2=0\/((aT most b s).2.2.2.2:Int)<=b:=by
 rw[bN];split
 ·exact .inl rfl
 split
 ·exact .inl rfl
 split
 ·exact .inl rfl
 right;split<;>simp only<;>omega
