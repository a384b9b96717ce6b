/- layout: a list of values is read: what it holds. -/
import Derived.Test.YtpjgigllldipiaaGreatDoorKA21
set_option linter.all false
set_option maxRecDepth 100000
set_option maxHeartbeats 4000000
namespace Go.Proofs.YtpjgigllldipiaaGreatDoor
open Tryz
open Go.RowKit
def kL.pre (acc:List It)(R:kL):kL:=⟨R.e,acc++R.xs,R.n,R.q⟩
theorem kL.PF (acc:List It)(x:It)(R:kL):(R.cons x).pre acc=R.pre (acc++ [x]):=by simp[kL.pre,kL.cons]
structure Tg (M:Int)(c:Nat)(s:ByteArray)(T:Nat->Ty)(th:Nat->Nat->Bool)(rest:Nat->Nat->List UInt8->kL):Prop where
 done:∀i n r,c<=i->rest i n r=⟨0,[],n,r⟩
 lack:∀i n k,i<c->k<=s.size->th i k=false->rest i n (s.data.toList.drop k)=⟨0,[],n,s.data.toList.drop k⟩
 next:∀i n k,i<c->k<=s.size->th i k=true->rest i n (s.data.toList.drop k)=if((T i).rd M n (s.data.toList.drop k)).e≠0 then⟨((T i).rd M n (s.data.toList.drop k)).e,[((T i).rd M n (s.data.toList.drop k)).x],((T i).rd M n (s.data.toList.drop k)).n,((T i).rd M n (s.data.toList.drop k)).q⟩else(rest (i+1) ((T i).rd M n (s.data.toList.drop k)).n ((T i).rd M n (s.data.toList.drop k)).q).cons ((T i).rd M n (s.data.toList.drop k)).x
theorem Tg.RO (M:Int)(c:Nat)(s:ByteArray)(a:Ty):Tg M c s (fun _=>a) (fun _ _=>true) (fun i n r=>sY (fun n r=>a.rd M n r) (c-i) n r) where
 done i n r h:=by rw[show c-i=0 from by omega,sY]
 lack i n k _ _ h:=by cases h
 next i n k h _ _:=by rw[show c-i=(c-(i+1))+1 from by omega,sY]
theorem Tg.ofT (M:Int)(s:ByteArray)(l:List Ty)(c:Int)(o:0<=c):Tg M l.length s (fun i=>l[i]?.getD (.mk 0 0 [] 0)) (fun i k=>decide ((i:Int)<(l.length:Int)-c)||decide (k<s.size)) (fun i n r=>nz M (l.drop i) (((l.length:Int)-c).toNat-i) n r) where
 done i n r h:=by rw[zU h,nz]
 lack i n k h d b:=by
  rw[xI h,nz];simp only[Zi,yV]at b;rw[zl ⟨by omega,zU (by rw[aa];omega)⟩]
 next i n k h d b:=by
  rw[xI h,nz];simp only[Yk,yj]at b;have j:k<s.size->s.data.toList.drop k≠ []:=fun q e=>by
   have:=xC List.length e;rw[zZ,aa]at this;simp at this;omega
  rw[zj (by
   rintro⟨p,m⟩;rcases b with b|b
   ·omega
   exact j b m)]
  simp only[zB h,Option.getD_some,Nat.sub_sub]
structure Fv (w:World)(g gl fb:Nat)(s:ByteArray)(k:Nat)(f m:Int)(acc:List It)(v:Value)(V:World):Prop where
 rdg:af V w.heap.size 197 (jN g gl fb)
 res:af V (w.heap.size+1) 28 #[.string ⟨#[]⟩,.bool false,.slice none 0 0]
 xb:af V (w.heap.size+1+1) 28 #[.string ⟨#[]⟩,.bool true,v]
 its:Acc V (w.heap.size+3) acc v
 st:jh V g gl fb s k f m
 only:ae [g,gl] w V
 siz:w.heap.size+3<=V.heap.size
 glt:g<w.heap.size/\gl<w.heap.size
 fbl:fb<w.heap.size
theorem Fv.start {w:World}{g gl b:Nat}{s:ByteArray}{k:Nat}{f m:Int}(h:jh w g gl b s k f m):Fv w g gl b s k f m [] (.slice none 0 0) (((w.alloc (.cells (jN g gl b) 197)).alloc (.cells #[.string ⟨#[]⟩,.bool false,.slice none 0 0] 28)).alloc (.cells #[.string ⟨#[]⟩,.bool true,.slice none 0 0] 28)) where
 rdg:=((af.new w _ _).alloc _).alloc _
 res:=af.alloc (af.at_ (by simp)) _
 xb:=af.at_ (by simp)
 its:=Acc.nil _ _
 st:=h.below ((((zq _ w).alloc (zf _) _).alloc (by simp) _).alloc (by simp;omega) _)
 only:=(((ae.refl _ w).alloc _).alloc _).alloc _
 siz:=by simp
 glt:=⟨h.rdr.lt,h.left.lt⟩
 fbl:=h.box.lt
theorem Fv.below {w V V':World}{g gl c:Nat}{s:ByteArray}{k:Nat}{f m:Int}{acc:List It}{v:Value}(h:Fv w g gl c s k f m acc v V)(b:Below V.heap.size V V'):Fv w g gl c s k f m acc v V' where
 rdg:=(b.block _ h.rdg.lt).trans h.rdg
 res:=(b.block _ h.res.lt).trans h.res
 xb:=(b.block _ h.xb.lt).trans h.xb
 its:=h.its.below b
 st:=h.st.below b
 only:=h.only.trans ((ae.ag b (zf _)).mono (by simp))
 siz:=zK h.siz b.size
 glt:=h.glt
 fbl:=h.fbl
theorem Fv.dw {w V V':World}{g gl c:Nat}{s:ByteArray}{k d:Nat}{f i m e:Int}{acc:List It}{v:Value}(h:Fv w g gl c s k f m acc v V)(b:ae [g,gl] V V')(j:jh V' g gl c s d i e):Fv w g gl c s d i e acc v V' where
 rdg:=h.rdg.only b (by have:=h.glt;simp;omega)
 res:=h.res.only b (by have:=h.glt;simp;omega)
 xb:=h.xb.only b (by have:=h.glt;simp;omega)
 its:=h.its.only b (by have:=h.glt;simp;omega)
 st:=j
 only:=h.only.trans b
 siz:=zK h.siz b.size
 glt:=h.glt
 fbl:=h.fbl
theorem Fv.more {w V V':World}{g gl d:Nat}{s:ByteArray}{k:Nat}{f m:Int}{acc i:List It}{v c:Value}(h:Fv w g gl d s k f m acc v V)(b:V.grownBy V' v.ownBlock)(l:Acc V' (w.heap.size+3) i c):Fv w g gl d s k f m i c (V'.setCell ⟨w.heap.size+1+1,2,none⟩ c) where
 rdg:=(h.rdg.grown b (fun e=>by have:=(h.its.ge _ e).1;omega)).dE (p:=⟨w.heap.size+1+1,2,none⟩) (by simp;omega) _
 res:=(h.res.grown b (fun e=>by have:=(h.its.ge _ e).1;omega)).dE (p:=⟨w.heap.size+1+1,2,none⟩) (by simp) _
 xb:=(h.xb.grown b (fun e=>by have:=(h.its.ge _ e).1;omega)).set 2 c
 its:=l.only (L:= [w.heap.size+1+1]) ((ae.refl _ _).setCell (by simp) _) (by simp)
 st:=⟨af.dE (show af V' g _ _ from af.grown h.st.rdr b (fun e=>by have:=(h.its.ge _ e).1;have:=h.glt;omega)) (p:=⟨w.heap.size+1+1,2,none⟩) (by have:=h.glt;simp;omega) _,
  (h.st.left.grown b (fun e=>by have:=(h.its.ge _ e).1;have:=h.glt;omega)).dE (p:=⟨w.heap.size+1+1,2,none⟩) (by have:=h.glt;simp;omega) _,
  (h.st.box.grown b (fun e=>by have:=(h.its.ge _ e).1;have:=h.fbl;omega)).dE (p:=⟨w.heap.size+1+1,2,none⟩) (by have:=h.fbl;simp;omega) _⟩
 only:=(h.only.grown b (fun j n=> .inr (by have:=(h.its.ge _ n).1;omega))).setCell (by simp;omega) _
 siz:=by have:=h.siz;have:=b.size;simp[World.setCell];omega
 glt:=h.glt
 fbl:=h.fbl
theorem Fv.cells {w V V':World}{g gl c:Nat}{s:ByteArray}{k:Nat}{f m:Int}{acc:List It}{v:Value}(h:Fv w g gl c s k f m acc v V)(b:V.grownBy V' v.ownBlock):af V' w.heap.size 197 (jN g gl c)/\af V' (w.heap.size+1+1) 28 #[.string ⟨#[]⟩,.bool true,v]:=
 ⟨h.rdg.grown b (fun e=>by have:=(h.its.ge _ e).1;omega),h.xb.grown b (fun e=>by have:=(h.its.ge _ e).1;omega)⟩
theorem Fv.ends {w V:World}{g gl d:Nat}{s:ByteArray}{k:Nat}{f m:Int}{acc:List It}{v:Value}(h:Fv w g gl d s k f m acc v V)(b c:Value):
 jh (((V.setCell ⟨w.heap.size+1,0,none⟩ b).setCell ⟨w.heap.size+1,1,none⟩ c).setCell ⟨w.heap.size+1,2,none⟩ v) g gl d s k f m/\ae [g,gl] w (((V.setCell ⟨w.heap.size+1,0,none⟩ b).setCell ⟨w.heap.size+1,1,none⟩ c).setCell ⟨w.heap.size+1,2,none⟩ v)/\
 (V.setCell ⟨w.heap.size+1,0,none⟩ b).cell? ⟨w.heap.size+1,0,none⟩=some b/\((V.setCell ⟨w.heap.size+1,0,none⟩ b).setCell ⟨w.heap.size+1,1,none⟩ c).cell? ⟨w.heap.size+1,1,none⟩=some c/\(((V.setCell ⟨w.heap.size+1,0,none⟩ b).setCell ⟨w.heap.size+1,1,none⟩ c).setCell ⟨w.heap.size+1,2,none⟩ v).cell? ⟨w.heap.size+1,2,none⟩=some v/\
 Acc (((V.setCell ⟨w.heap.size+1,0,none⟩ b).setCell ⟨w.heap.size+1,1,none⟩ c).setCell ⟨w.heap.size+1,2,none⟩ v) (w.heap.size+3) acc v:=
 ⟨h.st.kR h.res b c v,((h.only.setCell (by simp) _).setCell (by simp) _).setCell (by simp) _,by have:=(h.res.set 0 b).cell 0;simpa using this,by have:=((h.res.set 0 b).set 1 c).cell 1;simpa using this,by have:=(((h.res.set 0 b).set 1 c).set 2 v).cell 2;simpa using this,
  h.its.only (L:= [w.heap.size+1]) ((((ae.refl _ V).setCell (by simp) _).setCell (by simp) _).setCell (by simp) _) (by simp)⟩
theorem qa (F:Nat)(cs:Array Value)(A:Value->Array Value)(hF:(F=188/\∃Y:Nat,cs= #[.pointer (some ⟨Y,0,none⟩)]/\A=fun v=> #[v,.pointer (some ⟨Y,0,none⟩)])\/F=189/\∃Y br:Nat,cs= #[.pointer (some ⟨Y,0,none⟩),.pointer (some ⟨br,0,none⟩)]/\A=fun v=> #[v,.pointer (some ⟨Y,0,none⟩),.pointer (some ⟨br,0,none⟩)])(c:Nat)(T:Nat->Ty)(th:Nat->Nat->Bool)(rest:Nat->Nat->List UInt8->kL)(D:Nat->Option Addr)(dn G:Nat->Nat)(w:World)(g gl B:Nat)(s:ByteArray)(k:Nat)(f m M:Int)(n0:Nat)(hS:jh w g gl B s k f m)(hk:k<=s.size)(hs:s.size<=1099511627776)(hc:c<=1024)(E:Int)(R:kL)(HR:Tg M c s T th rest)
 (al:f=0->m=M-n0/\R=rest 0 n0 (s.data.toList.drop k)/\E=R.e) (ai:f≠0->E=f)
 (O:Hid (∀i,i<c->∀V H f' m',ae [g,gl] w V->jh V g gl B s H f' m'->H<=s.size->Calls prog F (A (.int .i64 i)) V fun e w'=>e= .returned (.tuple #[.agg #[.int .i64 (T i).kind,.int .i64 (T i).size,.slice (D i) (dn i) (G i),.int .i64 (T i).tail],.bool (th i H)])/\Below V.heap.size V w'))
 (HV:Hid (∀i,i<c->∀V H (n':Nat),ae [g,gl] w V->jh V g gl B s H 0 (M-n')->H<=s.size->Calls prog 145 #[gX g gl B,.agg #[.int .i64 (T i).kind,.int .i64 (T i).size,.slice (D i) (dn i) (G i),.int .i64 (T i).tail]] V fun e w'=>gG V g gl B s M ((T i).rd M n' (s.data.toList.drop H)) e w')):
 Calls prog 187 #[gX g gl B,.int .i64 c,.func (.func F) #[] cs] w fun e w'=>gG w g gl B s M ⟨E,.mk ⟨#[]⟩ true R.xs,R.n,R.q⟩ e w':=by
 have cJ:=za (Fv.start hS);have ag:=za HR;have H0:Hid ((f=0->∃y:Nat,m=M-y/\R=(rest 0 y (s.data.toList.drop k)).pre []/\E=R.e)/\(f≠0->E=f)):=za ⟨fun h=>by obtain⟨n,p,C⟩:=al h;exact⟨n0,n,by rw[p];rfl,C⟩,ai⟩;clear hS al ai HR;unfold jN at cJ;unfold gX;unfold gX at HV;have O:=O.out;rcases hF with⟨rfl,Y,rfl,rfl⟩|⟨rfl,Y,br,rfl,rfl⟩;all_goals
  dsimp only at O;have O:=za O;go_enter func187,ntmps187
  go_wp2_with fail
  go_loopw [13] (fun i wr=>∃(j r:Nat) (F I:Int) (acc:List It) (v:Value),j<=c/\i= .int .i64 j/\Hid (Fv w g gl B s r F I acc v wr)/\r<=s.size/\acc.length<=j/\Hid ((F=0->∃y:Nat,I=M-y/\R=(rest j y (s.data.toList.drop r)).pre acc/\E=R.e)/\(F≠0->E=F))) (fun i _=>c-(intOf i).toNat)
  case atStart=>exact⟨0,k,f,m,[],_,by omega,rfl,cJ,hk,by simp,H0⟩
  case round=>
   obtain⟨j,r,F,I,acc,v,hj,rfl,d,U,qo,HI⟩:=hrel;obtain⟨A5,Z,W,rfl,az,ay,aB⟩:=d.out.its.dk;by_cases aC:j<c
   ·have R5:=za (O.out j aC wr r F I d.out.only d.out.st U);have aq:=za (HV.out j aC);obtain⟨b,z⟩:∃b,th j r=b:=⟨_,rfl⟩
    have HB:=za z;rw[z]at R5;obtain⟨N,ao⟩:∃u,dn j=u:=⟨_,rfl⟩
    rw[ao]at R5 aq;clear z O HV ao;by_cases Gu:b=true/\F=0
    ·obtain⟨rfl,rfl⟩:=Gu;go_wp2_with fail
     refine R5.out.mono ?_;rintro e l ⟨rfl,z⟩;have x:=za (d.out.below z);obtain⟨r0,r1,r2,r3,r4,r5⟩:=fB (show af l w.heap.size 197 #[_,_,_,_,_,_]from x.out.rdg);have cg:=x.out.siz;have ak:w.heap.size<l.heap.size:=by omega
     have d:=za (x.out.below ((zq _ l).alloc (zf _) (.cells #[.int .i64 (T j).kind,.int .i64 (T j).size,.slice (D j) N (G j),.int .i64 (T j).tail] 64)));clear z;go_wp2_with fail
     refine(bs g s r 0 _ (x.out.st.rdr.alloc _)).mono ?_;rintro e w' ⟨rfl,rfl⟩;have HT:=za (af.new l 64 #[.int .i64 (T j).kind,.int .i64 (T j).size,.slice (D j) N (G j),.int .i64 (T j).tail]);generalize ma:l.alloc (.cells #[.int .i64 (T j).kind,.int .i64 (T j).size,.slice (D j) N (G j),.int .i64 (T j).tail] 64)=W2 at*;obtain⟨y,rfl,hR,hE⟩:=HI.out.1 (by simp);have KS:=za (And.intro hR hE);have lT:=d.out.glt;have HG:Hid (l.heap.size∉ [g,gl]):=za (by simp;omega)
     have QR:Hid (∀V,af V w.heap.size 197 (jN g gl B)/\af V (w.heap.size+1+1) 28 #[.string ⟨#[]⟩,.bool true,.slice A5 Z W]->af V l.heap.size 64 #[.int .i64 (T j).kind,.int .i64 (T j).size,.slice (D j) N (G j),.int .i64 (T j).tail]->V.cell? ⟨w.heap.size,0,none⟩=some (.func (.func 120) #[.pointer (some ⟨g,0,none⟩)] #[])/\V.cell? ⟨w.heap.size,1,none⟩=some (.func (.func 141) #[.pointer (some ⟨g,0,none⟩)] #[])/\V.cell? ⟨w.heap.size,2,none⟩=some (.func (.func 121) #[.pointer (some ⟨g,0,none⟩)] #[])/\V.cell? ⟨w.heap.size,3,none⟩=some (.func (.func 142) #[.pointer (some ⟨g,0,none⟩)] #[])/\V.cell? ⟨w.heap.size,4,none⟩=some (.func (.func 143) #[] #[.pointer (some ⟨B,0,none⟩)])/\V.cell? ⟨w.heap.size,5,none⟩=some (.pointer (some ⟨gl,0,none⟩))/\V.cell? ⟨l.heap.size,0,none⟩=some (.int .i64 (T j).kind)/\V.cell? ⟨l.heap.size,1,none⟩=some (.int .i64 (T j).size)/\V.cell? ⟨l.heap.size,2,none⟩=some (.slice (D j) N (G j))/\V.cell? ⟨l.heap.size,3,none⟩=some (.int .i64 (T j).tail)/\V.cell? ⟨w.heap.size+1+1,2,none⟩=some (.slice A5 Z W)/\V.frozen? ⟨w.heap.size+1+1,2,none⟩=false):=za (fun V n p=>⟨n.1.cell 0,n.1.cell 1,n.1.cell 2,n.1.cell 3,n.1.cell 4,n.1.cell 5,p.cell 0,p.cell 1,p.cell 2,p.cell 3,n.2.cell 2,n.2.frozen 2⟩);have an:=za (aq.out W2.drew r y d.out.only.drew (show jh W2.drew g gl B s r 0 (M-y)from d.out.st.drew) U);have tN:=za (ag.out.next j y r aC U HB.out);obtain⟨Rj,ah⟩:∃Rj,(T j).rd M y (s.data.toList.drop r)=Rj:=⟨_,rfl⟩
     rw[ah]at an tN;clear hR hE lT ah cg r0 r1 r2 r3 r4 r5;go_wp2_with fail
     refine aA 8 (fun V=>V.cell? ⟨w.heap.size,0,none⟩=some (.func (.func 120) #[.pointer (some ⟨g,0,none⟩)] #[])/\V.cell? ⟨w.heap.size,1,none⟩=some (.func (.func 141) #[.pointer (some ⟨g,0,none⟩)] #[])/\V.cell? ⟨w.heap.size,2,none⟩=some (.func (.func 121) #[.pointer (some ⟨g,0,none⟩)] #[])/\V.cell? ⟨w.heap.size,3,none⟩=some (.func (.func 142) #[.pointer (some ⟨g,0,none⟩)] #[])/\V.cell? ⟨w.heap.size,4,none⟩=some (.func (.func 143) #[] #[.pointer (some ⟨B,0,none⟩)])/\V.cell? ⟨w.heap.size,5,none⟩=some (.pointer (some ⟨gl,0,none⟩))/\V.cell? ⟨l.heap.size,0,none⟩=some (.int .i64 (T j).kind)/\V.cell? ⟨l.heap.size,1,none⟩=some (.int .i64 (T j).size)/\V.cell? ⟨l.heap.size,2,none⟩=some (.slice (D j) N (G j))/\V.cell? ⟨l.heap.size,3,none⟩=some (.int .i64 (T j).tail)/\V.cell? ⟨w.heap.size+1+1,2,none⟩=some (.slice A5 Z W)/\V.frozen? ⟨w.heap.size+1+1,2,none⟩=false) (by kernel_rfl) (by kernel_rfl) ?_;have hHeld:=QR.out W2.drew ⟨d.out.rdg.drew,d.out.xb.drew⟩ HT.out.drew;refine GT.jy [0,1,2,3] hHeld (fun _ _ _ _ _ h=>h) (by kernel_rfl) ?_;repeat(refine .c rfl rfl (fun V hV=>by go_simp<;>with_reducible rfl) ?_;simp only[Act.put,zc,ze,zh])
     refine .nil ?_;refine GT.fw 4 (fun ab J=> ?_) rfl (by kernel_rfl);go_simp;refine an.out.mono ?_;rintro e w3 ⟨X,c0,c1,c2,H,m',rfl,hX,sS,ho,vT,iA⟩;have S:=za ((d.out.below (zq _ W2).drew).dw ho sS);have ad:=za (HT.out.drew.only ho HG.out);have TW:=za iA;have HX:=za hX;obtain⟨ax,bx,rfl,rfl,rfl,_⟩:=hX.open_;clear hX sS ho iA;go_wp2_with fail
     refine J.out _ _ (QR.out w3 ⟨S.out.rdg,S.out.xb⟩ ad.out) (fun hHeld=> ?_);clear J ab;try simp only[Act.put,zc,ze,zh]
     refine GT.fw 5 (fun ab J=> ?_) rfl (by kernel_rfl);go_simp;refine J.out _ _ (QR.out _ ⟨S.out.rdg.alloc _,S.out.xb.alloc _⟩ (ad.out.alloc _)) (fun hHeld=> ?_);clear J ab;try simp only[Act.put,zc,ze,zh]
     refine GT.fw 6 (fun ab J=> ?_) rfl (by kernel_rfl);have ar:Hid (fO (w3.alloc (.cells #[.string X.text,.bool X.list,.slice ax X.sub.length bx] 28)) (fun q=>w.heap.size+3<=q/\(Value.slice A5 Z W).ownBlock≠some q) X (.string X.text) (.bool X.list) (.slice ax X.sub.length bx)):=za ((HX.out.below ((zq _ w3).alloc (zf _) _)).gh (fun q _ hq=>⟨by have:=d.out.siz;simp at hq;omega,fun e=>by have:=(d.out.its.ge _ e).2;simp at hq;omega⟩));have XY:acc.length<=1000000:=by omega
     have XZ:w.heap.size+3<=(w3.alloc (.cells #[.string X.text,.bool X.list,.slice ax X.sub.length bx] 28)).heap.size:=by have:=S.out.siz;simp;omega
     refine pR (by rfl) (.tmp 31) (.tmp 35) (by rfl) (w.heap.size+3) acc (by rfl) (S.out.its.below ((zq _ w3).alloc (zf _) _)) X ar.out _ (by rfl) (by simp) (by simp) (by simp) XY XZ ?_;intro g' n' aj w5 RU kd fQ au;have AJ:=za (S.out.below ((zq _ w3).alloc (zf _) (.cells #[.string X.text,.bool X.list,.slice ax X.sub.length bx] 28)));have KP:=za ((ad.out.alloc _).grown fQ (fun e=>by have:=(x.out.its.ge _ e).2;omega));have qI:=za (AJ.out.more fQ kd);refine J.out _ _ (QR.out w5 (AJ.out.cells fQ) KP.out) (fun hHeld=> ?_);clear J ab;try simp only[Act.put,zc,ze,zh]
     refine GT.jy [7] hHeld (fun _ _ _ _ _ h=>h) (by kernel_rfl) ?_;refine .c rfl rfl (fun V hV=>by go_simp<;>with_reducible rfl) ?_;simp only[Act.put,zc,ze,zh];refine .nil ?_;refine GT.oL 8 ?_ rfl (by kernel_rfl);obtain⟨z0,z1,z2,z3,z4,z5,z6,z7,z8,z9,aw,av⟩:=hHeld;clear kd fQ;go_simp;all_goals
      go_wp2;go_roundw
      case rel=>
       refine⟨j+1,H,Rj.e,m',acc++ [X],_,by omega,by go_num,qI,vT,by simp;omega,za ⟨fun h0=> ?_,fun h0=> ?_⟩⟩
       ·obtain⟨g1,g2,g3⟩:=TW.out h0;have o:=tN.out;rw[zj (by simp[h0])]at o;refine⟨Rj.n,g3, ?_,KS.out.2⟩;rw[KS.out.1,o,kL.PF,g1,g2]
       have o:=tN.out;rw[zl h0]at o;rw[KS.out.2,KS.out.1,o];rfl
      case measure=>simp[intOf];omega
    have aa:Hid (E=F/\(E=0->R.xs=acc/\R.q=s.data.toList.drop r/\I=M-R.n)):=za (by
     by_cases hF:F=0
     ·obtain⟨y,n,p,C⟩:=HI.out.1 hF;rw[ag.out.lack _ _ _ aC U (by cases b<;>simp_all[HB.out])]at p;subst p;exact⟨by rw[C,hF];rfl,fun _=>⟨by simp[kL.pre],rfl,n⟩⟩
     exact⟨HI.out.2 hF,fun h=>absurd ((HI.out.2 hF).symm.trans h) hF⟩)
    obtain rfl:F=E:=aa.out.1.symm;cases b with
    |false=>
     go_wp2_with fail
     refine R5.out.mono ?_;rintro e l ⟨rfl,z⟩;have x:=za (d.out.below z);obtain⟨r0,r1,r2,r3,r4,r5⟩:=fB (show af l w.heap.size 197 #[_,_,_,_,_,_]from x.out.rdg);have cg:=x.out.siz;have ak:w.heap.size<l.heap.size:=by omega
     have d:=za (x.out.below ((zq _ l).alloc (zf _) (.cells #[.int .i64 (T j).kind,.int .i64 (T j).size,.slice (D j) N (G j),.int .i64 (T j).tail] 64)));clear z;obtain⟨n0,n1,n2,m0,m1,m2⟩:=gH d.out.res;obtain⟨x0,x1,x2,_,_,_⟩:=gH d.out.xb;obtain⟨o,K,y0,y1,y2,L⟩:=d.out.ends (.string ⟨#[]⟩) (.bool true);have E1:=za o;have E2:=za K;have HA:=za (L.list (by omega));clear o K L;go_wp2;have o:=E1.out;refine zo (v:= .agg #[.string ⟨#[]⟩,.bool true,.slice A5 Z W]) (by simp[results,results187,go_sem,y0,y1,y2]) rfl ?_;refine⟨_,_,_,_,r,I,rfl,HA.out.gh (fun _ _ h=>by omega),o,E2.out,U,fun h=> ?_⟩;obtain⟨n,p,C⟩:=aa.out.2 h;exact⟨by rw[n],p,C⟩
    |true=>
     have hF:(F !=0)=true:=yQ.2 (fun h=>Gu ⟨rfl,h⟩);go_wp2_with fail
     refine R5.out.mono ?_;rintro e l ⟨rfl,z⟩;have x:=za (d.out.below z);obtain⟨r0,r1,r2,r3,r4,r5⟩:=fB (show af l w.heap.size 197 #[_,_,_,_,_,_]from x.out.rdg);have cg:=x.out.siz;have ak:w.heap.size<l.heap.size:=by omega
     have d:=za (x.out.below ((zq _ l).alloc (zf _) (.cells #[.int .i64 (T j).kind,.int .i64 (T j).size,.slice (D j) N (G j),.int .i64 (T j).tail] 64)));clear z;go_wp2_with fail
     refine(bs g s r F _ (x.out.st.rdr.alloc _)).mono ?_;rintro e w' ⟨rfl,rfl⟩;obtain⟨n0,n1,n2,m0,m1,m2⟩:=gH d.out.res;obtain⟨x0,x1,x2,_,_,_⟩:=gH d.out.xb;obtain⟨o,K,y0,y1,y2,L⟩:=d.out.ends (.string ⟨#[]⟩) (.bool true);have E1:=za o;have E2:=za K;have HA:=za (L.list (by omega));clear o K L;go_wp2;have o:=E1.out;refine zo (v:= .agg #[.string ⟨#[]⟩,.bool true,.slice A5 Z W]) (by simp[results,results187,go_sem,y0,y1,y2]) rfl ?_;refine⟨_,_,_,_,r,I,rfl,HA.out.gh (fun _ _ h=>by omega),o,E2.out,U,fun h=> ?_⟩;obtain⟨n,p,C⟩:=aa.out.2 h;exact⟨by rw[n],p,C⟩
   have aa:Hid (E=F/\(E=0->R.xs=acc/\R.q=s.data.toList.drop r/\I=M-R.n)):=za (by
    by_cases hF:F=0
    ·obtain⟨y,n,p,C⟩:=HI.out.1 hF;rw[ag.out.done _ _ _ (by omega)]at p;subst p;exact⟨by rw[C,hF];rfl,fun _=>⟨by simp[kL.pre],rfl,n⟩⟩
    exact⟨HI.out.2 hF,fun h=>absurd ((HI.out.2 hF).symm.trans h) hF⟩)
   obtain rfl:F=E:=aa.out.1.symm;obtain⟨n0,n1,n2,m0,m1,m2⟩:=gH d.out.res;obtain⟨x0,x1,x2,_,_,_⟩:=gH d.out.xb;obtain⟨o,K,y0,y1,y2,L⟩:=d.out.ends (.string ⟨#[]⟩) (.bool true);have E1:=za o;have E2:=za K;have HA:=za (L.list (by omega));clear o K L;go_wp2;have o:=E1.out;refine zo (v:= .agg #[.string ⟨#[]⟩,.bool true,.slice A5 Z W]) (by simp[results,results187,go_sem,y0,y1,y2]) rfl ?_;refine⟨_,_,_,_,r,I,rfl,HA.out.gh (fun _ _ h=>by omega),o,E2.out,U,fun h=> ?_⟩;obtain⟨n,p,C⟩:=aa.out.2 h;exact⟨by rw[n],p,C⟩
theorem tI.Ki {w V V':World}{g gl c:Nat}{s:ByteArray}{k d:Nat}{f i m e:Int}{tc:Array Value}(h:tI w g gl c s k f m tc V)(b:ae [g,gl] V V')(j:jh V' g gl c s d i e):tI w g gl c s d i e tc V' where
 rdg:=h.rdg.only b (by simp[h.rdg.DC h.st.rdr (by decide),h.rdg.DC h.st.left (by decide)])
 ty:=h.ty.only b (by simp[h.ty.DC h.st.rdr (by decide),h.ty.DC h.st.left (by decide)])
 res:=h.res.only b (by simp[h.res.DC h.st.rdr (by decide),h.res.DC h.st.left (by decide)])
 st:=j
 only:=h.only.trans b
 siz:=zK h.siz b.size
theorem fO.kR {w:World}{B b:Nat}{X:It}{c d e:Value}(h:fO w (B<= ·) X c d e)(l:b<B)(i j k:Value):fO (((w.setCell ⟨b,0,none⟩ i).setCell ⟨b,1,none⟩ j).setCell ⟨b,2,none⟩ k) (B<= ·) X c d e:=
 h.only (L:= [b]) ((((ae.refl _ w).setCell (by simp) _).setCell (by simp) _).setCell (by simp) _) (by simp;omega) (fun _ _ h=>h)
theorem Iw (a:Ty)(D:Nat)(B:Nat)(A:Option Addr)(cap:Nat)(w:World)(g gl p:Nat)(s:ByteArray)(c n:Nat)(M:Int)(hS:jh w g gl p s c 0 (M-n))(hk:c<=s.size)(hs:s.size<=1099511627776)(hM:¬M<=n)(B7:M<=1024)(R4:D<=1024)(hL:bj w)(hg:0<g)(lT:0<gl)
 (hT:eN w B [a] A 0) (hB:B<=w.heap.size) (al:B<=g) (BU:B<=gl)
 (IH:Hid (∀V c0 c1 c2 c3 c (n:Nat),cx V B a c0 c1 c2 c3->B<=V.heap.size->jh V g gl p s c 0 (M-n)->c<=s.size->bj V->Calls prog 145 #[gX g gl p,.agg #[c0,c1,c2,c3]] V fun e w'=>gG V g gl p s M (a.rd M n (s.data.toList.drop c)) e w')):
 Calls prog 145 #[gX g gl p,.agg #[.int .i64 4,.int .i64 D,.slice A [a].length cap,.int .i64 0]] w fun e w'=>gG w g gl p s M ((Ty.mk 4 D [a] 0).rd M n (s.data.toList.drop c)) e w':=by
 have aC:=hS.rdr.lt;have kC:=hS.left.lt;have d0:decide (M-(n:Int)<=0)=false:=zz (by omega);rw[Cx hM];have Z:=za (fun V (hV:jh V g gl p s c 0 (M-n-1)) (hl:bj V)=>BP g gl p s c D _ V hV hk (by omega) (by omega) hl (by omega));have ni:=fun(h0:(au (s.data.toList.drop c)).2.2=0)=>(ir (s.data.toList.drop c) (au (s.data.toList.drop c)).1 (au (s.data.toList.drop c)).2.1 (by rw[<-h0])).2.1
 rw[zZ,aa]at ni;have ag:=nF (au (s.data.toList.drop c)) D c;obtain⟨b,o,t0,t1,t2,t3,rfl,eU,e0,k,d,e3,nJ⟩:=hT.at_ 0 (by simp);simp only[zT,Nat.zero_mul,xj,yY]at e0 k d e3 nJ;obtain⟨dA,dc,rfl,rfl,rfl,rfl,_⟩:=nJ.open_;have ai:=za nJ;have HE:=za (And.intro e0 (And.intro k (And.intro d e3)));have Nn:=za hL;obtain⟨ad,ta,tl,ez,et,el⟩:∃(ad ta:Int) (tl:List Ty),ad=D/\ta=0/\tl= [a]:=⟨_,_,_,rfl,rfl,rfl⟩
 rw[<-et,<-ez];obtain⟨A,hA⟩:∃A,(some (⟨b,o,none⟩:Addr))=A:=⟨_,rfl⟩
 rw[hA];have aj:=za hA;rw[show [a].length=tl.length from by rw[el]];clear hA hT nJ e0 k d e3;have J:=za (tI.start (tc:= #[.int .i64 (4),.int .i64 ad,.slice A tl.length cap,.int .i64 ta]) hS);generalize oq:(((w.alloc (.cells (jN g gl p) 197)).alloc (.cells #[.int .i64 (4),.int .i64 ad,.slice A tl.length cap,.int .i64 ta] 64)).alloc (.cells #[.string ⟨#[]⟩,.bool false,.slice none 0 0] 28))=W3 at*;unfold jN at oq;obtain⟨S,U,L,O,p4,p5⟩:=fB (show af W3 w.heap.size 197 #[_,_,_,_,_,_]from J.out.rdg);obtain⟨W,Y,q2,q3,_⟩:=aO J.out.ty;have l0:W3.cell? ⟨gl,0,none⟩=some (.int .i64 (M-n)):=J.out.st.left.cell 0;have l1:=J.out.st.left.frozen 0;subst ez et;have ah:tl.length=1:=by rw[el];rfl
 rw[ah]at oq J⊢;clear el ah;have QQ:=fun V (h:tI w g gl p s c 0 (M-n-1) #[.int .i64 4,.int .i64 D,.slice A 1 cap,.int .i64 0] V)=>hL.only h.only (by simp;omega)
 have wL:=za QQ;clear QQ hL;generalize au (s.data.toList.drop c)=ak at*;obtain⟨Nm,N,Ne⟩:=ak;simp only at ni ag⊢;rcases ag with⟨x,hE,Gs,hK⟩|⟨x,C,hE,Gs,hK⟩|⟨x,C,hE,Gs,hK⟩
 ·rw[zl x];rw[hE,Gs,hK]at Z;have l:=za (J.out.less (M-n-1));generalize rJ:W3.setCell ⟨gl,0,none⟩ (.int .i64 (M-n-1))=q at*;clear W Y q2 q3;obtain⟨S,U,L,O,p4,p5⟩:=fB (show af q w.heap.size 197 #[_,_,_,_,_,_]from l.out.rdg);obtain⟨W,Y,q2,q3,_⟩:=aO l.out.ty;unfold gX;clear hS;go_enter xg,y7
  go_wp2_with fail
  have oU:bj q:=wL.out q l.out;refine(Z.out q l.out.st oU).mono ?_;rintro e z ⟨rfl,I,m⟩;have j:=za (l.out.dw m I.rdr);obtain⟨S,U,L,O,p4,p5⟩:=fB (show af z w.heap.size 197 #[_,_,_,_,_,_]from j.out.rdg);clear I m;go_wp2_with fail
  refine(qa _ _ _ (.inl ⟨rfl,w.heap.size+1,rfl,rfl⟩) 0 (fun _=>a) (fun _ _=>true) (fun i n r=>sY (fun n r=>a.rd M n r) (0-i) n r) (fun _=>dA) (fun _=>a.sub.length) (fun _=>dc) z g gl p s c Ne _ M (n+1) j.out.st hk hs (by omega) Ne ⟨0,[],0,[]⟩ (Tg.RO M 0 s a) (fun h=>absurd h x) (fun _=>rfl) (za fun i hi=>by omega) (za fun i hi=>by omega)).mono ?_;rintro e w2 ⟨X,c0,c1,c2,E,R,rfl,y,K,m,G,F⟩;obtain⟨u,bx,rfl,rfl,rfl,_⟩:=y.open_;have H:=za (j.out.Ki m K);have HX:=za (y.kR (b:=w.heap.size+1+1) (by have:=j.out.siz;omega) (.string X.text) (.bool X.list) (.slice u X.sub.length bx));have TW:=za F;clear y K m F;obtain⟨n0,n1,n2,m0,m1,m2⟩:=gH H.out.res;obtain⟨k,d,y0,y1,y2⟩:=H.out.ends (.string X.text) (.bool X.list) (.slice u X.sub.length bx);have E1:=za k;have E2:=za d;clear k d;go_wp2;have k:=E1.out;have d:=E2.out;refine zo (v:= .agg #[.string X.text,.bool X.list,.slice u X.sub.length bx]) (by simp[results,yO,go_sem,y0,y1,y2]) rfl ?_;exact⟨X,_,_,_,E,R,rfl,HX.out.gh (fun _ _ h=>by have:=j.out.siz;omega),k,d,G,fun h=>absurd h x⟩
 ·rw[zj (by rw[x];simp),zl (by omega)];rw[hE,Gs,hK]at Z;have l:=za (J.out.less (M-n-1));generalize rJ:W3.setCell ⟨gl,0,none⟩ (.int .i64 (M-n-1))=q at*;clear W Y q2 q3;obtain⟨S,U,L,O,p4,p5⟩:=fB (show af q w.heap.size 197 #[_,_,_,_,_,_]from l.out.rdg);obtain⟨W,Y,q2,q3,_⟩:=aO l.out.ty;unfold gX;clear hS;go_enter xg,y7
  go_wp2_with fail
  have oU:bj q:=wL.out q l.out;refine(Z.out q l.out.st oU).mono ?_;rintro e z ⟨rfl,I,m⟩;have j:=za (l.out.dw m I.rdr);obtain⟨S,U,L,O,p4,p5⟩:=fB (show af z w.heap.size 197 #[_,_,_,_,_,_]from j.out.rdg);clear I m;go_wp2_with fail
  refine(qa _ _ _ (.inl ⟨rfl,w.heap.size+1,rfl,rfl⟩) 0 (fun _=>a) (fun _ _=>true) (fun i n r=>sY (fun n r=>a.rd M n r) (0-i) n r) (fun _=>dA) (fun _=>a.sub.length) (fun _=>dc) z g gl p s c 5 _ M (n+1) j.out.st hk hs (by omega) 5 ⟨0,[],0,[]⟩ (Tg.RO M 0 s a) (fun h=>absurd h (by decide)) (fun _=>rfl) (za fun i hi=>by omega) (za fun i hi=>by omega)).mono ?_;rintro e w2 ⟨X,c0,c1,c2,E,R,rfl,y,K,m,G,F⟩;obtain⟨u,bx,rfl,rfl,rfl,_⟩:=y.open_;have H:=za (j.out.Ki m K);have HX:=za (y.kR (b:=w.heap.size+1+1) (by have:=j.out.siz;omega) (.string X.text) (.bool X.list) (.slice u X.sub.length bx));have TW:=za F;clear y K m F;obtain⟨n0,n1,n2,m0,m1,m2⟩:=gH H.out.res;obtain⟨k,d,y0,y1,y2⟩:=H.out.ends (.string X.text) (.bool X.list) (.slice u X.sub.length bx);have E1:=za k;have E2:=za d;clear k d;go_wp2;have k:=E1.out;have d:=E2.out;refine zo (v:= .agg #[.string X.text,.bool X.list,.slice u X.sub.length bx]) (by simp[results,yO,go_sem,y0,y1,y2]) rfl ?_;exact⟨X,_,_,_,E,R,rfl,HX.out.gh (fun _ _ h=>by have:=j.out.siz;omega),k,d,G,fun h=>absurd h (show¬(5:Int)=0 by decide)⟩
 rw[zj (by rw[x];simp),zj (by omega)];rw[hE,Gs,hK]at Z;have aM:=ni x;rw[xR];show Calls _ _ _ _ fun e w'=>gG w g gl p s M ⟨(sY (fun n r=>a.rd M n r) Nm (n+1) (s.data.toList.drop (c+N))).e,.mk ⟨#[]⟩ true (sY (fun n r=>a.rd M n r) Nm (n+1) (s.data.toList.drop (c+N))).xs,(sY (fun n r=>a.rd M n r) Nm (n+1) (s.data.toList.drop (c+N))).n,(sY (fun n r=>a.rd M n r) Nm (n+1) (s.data.toList.drop (c+N))).q⟩ e w'
 obtain⟨ab,hR⟩:∃ab,sY (fun n r=>a.rd M n r) Nm (n+1) (s.data.toList.drop (c+N))=ab:=⟨_,rfl⟩
 rw[hR];have AE:=za hR;clear hR;have l:=za (J.out.less (M-n-1));generalize rJ:W3.setCell ⟨gl,0,none⟩ (.int .i64 (M-n-1))=q at*;clear W Y q2 q3;obtain⟨S,U,L,O,p4,p5⟩:=fB (show af q w.heap.size 197 #[_,_,_,_,_,_]from l.out.rdg);obtain⟨W,Y,q2,q3,_⟩:=aO l.out.ty;unfold gX;clear hS;go_enter xg,y7
 go_wp2_with fail
 have oU:bj q:=wL.out q l.out;refine(Z.out q l.out.st oU).mono ?_;rintro e z ⟨rfl,I,m⟩;have j:=za (l.out.dw m I.rdr);obtain⟨S,U,L,O,p4,p5⟩:=fB (show af z w.heap.size 197 #[_,_,_,_,_,_]from j.out.rdg);clear I m;go_wp2_with fail
 have nK:af z (w.heap.size+1) 64 #[.int .i64 4,.int .i64 D,.slice (some ⟨b,o,none⟩) 1 cap,.int .i64 0]:=by rw[aj.out];exact j.out.ty
 have j9:∀V,ae [g,gl] z V->ae [g,gl] w V/\Below B w V:=fun V h=>⟨j.out.only.trans h,(j.out.only.trans h).below hB (by simp;omega)⟩
 refine(qa _ _ _ (.inl ⟨rfl,w.heap.size+1,rfl,rfl⟩) Nm (fun _=>a) (fun _ _=>true) (fun i n r=>sY (fun n r=>a.rd M n r) (Nm-i) n r) (fun _=>dA) (fun _=>a.sub.length) (fun _=>dc) z g gl p s (c+N) 0 _ M (n+1) j.out.st (by omega) hs (by omega) ab.e ab (Tg.RO M Nm s a) (fun _=>⟨by omega,by rw[<-AE.out];simp,rfl⟩) (fun h=>absurd rfl h) (za fun i hi V E f' R R6 hV G=>by
  obtain⟨x,C⟩:=j9 V R6;obtain⟨e0,k,d,e3⟩:=HE.out;exact Wr i (w.heap.size+1) b o 1 cap 4 D 0 _ _ _ _ V (nK.only R6 (by simp;omega)) (by omega) (by omega) ((C.cell eU).trans e0) ((C.cell eU).trans k) ((C.cell eU).trans d) ((C.cell eU).trans e3) (by have:=C.size;omega) _ _ _ _ _ _ rfl rfl rfl rfl) (za fun i hi V E n' R6 hV G=>by
  obtain⟨x,C⟩:=j9 V R6;exact IH.out V _ _ _ _ E n' (ai.out.below C) (by have:=C.size;omega) hV G (Nn.out.only x (by simp;omega)))).mono ?_
 rintro e w2 ⟨X,c0,c1,c2,E,R,rfl,y,K,m,G,F⟩;obtain⟨u,bx,rfl,rfl,rfl,_⟩:=y.open_;have H:=za (j.out.Ki m K);have HX:=za (y.kR (b:=w.heap.size+1+1) (by have:=j.out.siz;omega) (.string X.text) (.bool X.list) (.slice u X.sub.length bx));have TW:=za F;clear y K m F;obtain⟨n0,n1,n2,m0,m1,m2⟩:=gH H.out.res;obtain⟨k,d,y0,y1,y2⟩:=H.out.ends (.string X.text) (.bool X.list) (.slice u X.sub.length bx);have E1:=za k;have E2:=za d;clear k d;go_wp2;have k:=E1.out;have d:=E2.out;refine zo (v:= .agg #[.string X.text,.bool X.list,.slice u X.sub.length bx]) (by simp[results,yO,go_sem,y0,y1,y2]) rfl ?_;exact⟨X,_,_,_,E,R,rfl,HX.out.gh (fun _ _ h=>by have:=j.out.siz;omega),k,d,G,TW.out⟩
theorem Mo {w:World}{B:Nat}{l:List Ty}{A:Option Addr}(h:eN w B l A 0):∃p:Nat->Option Addr×Nat,∀i (hi:i<l.length),∃b o,A=some ⟨b,o,none⟩/\b<B/\w.cell? ⟨b,o+i*4,none⟩=some (.int .i64 (l[i]).kind)/\w.cell? ⟨b,o+i*4+1,none⟩=some (.int .i64 (l[i]).size)/\w.cell? ⟨b,o+i*4+2,none⟩=some (.slice (p i).1 (l[i]).sub.length (p i).2)/\w.cell? ⟨b,o+i*4+3,none⟩=some (.int .i64 (l[i]).tail)/\cx w B l[i] (.int .i64 (l[i]).kind) (.int .i64 (l[i]).size) (.slice (p i).1 (l[i]).sub.length (p i).2) (.int .i64 (l[i]).tail):=by
 have key:∀i,∃p:Option Addr×Nat,∀(hi:i<l.length),∃b o,A=some ⟨b,o,none⟩/\b<B/\w.cell? ⟨b,o+i*4,none⟩=some (.int .i64 (l[i]).kind)/\w.cell? ⟨b,o+i*4+1,none⟩=some (.int .i64 (l[i]).size)/\w.cell? ⟨b,o+i*4+2,none⟩=some (.slice p.1 (l[i]).sub.length p.2)/\w.cell? ⟨b,o+i*4+3,none⟩=some (.int .i64 (l[i]).tail)/\cx w B l[i] (.int .i64 (l[i]).kind) (.int .i64 (l[i]).size) (.slice p.1 (l[i]).sub.length p.2) (.int .i64 (l[i]).tail):=fun i=>by
  by_cases hi:i<l.length
  ·obtain⟨b,o,s,r,u,x,m,q,k,j,c,d,e⟩:=h.at_ i hi;obtain⟨n,cap,rfl,rfl,rfl,rfl,_⟩:=e.open_;simp only[zT]at k j c d;exact⟨(n,cap),fun _=>⟨b,o,m,q,k,j,c,d,e⟩⟩
  exact⟨(none,0),fun h=>absurd h hi⟩
 exact⟨fun i=>Classical.choose (key i),fun i hi=>Classical.choose_spec (key i) hi⟩
theorem PG {l:List Ty}{i:Nat}(h:i<l.length):l[i]?.getD (.mk 0 0 [] 0)=l[i]:=by simp[h]
theorem Ix (l:List Ty)(c:Int)(B:Nat)(A:Option Addr)(cap:Nat)(w:World)(g gl j:Nat)(s:ByteArray)(d n:Nat)(M:Int)(hS:jh w g gl j s d 0 (M-n))(hk:d<=s.size)(hs:s.size<=1099511627776)(hM:¬M<=n)(B7:M<=1024)(hl:l.length<=16)(nJ:0<=c)(I8:c<=l.length)(hL:bj w)(hg:0<g)(lT:0<gl)
 (hT:eN w B l A 0) (hB:B<=w.heap.size) (ab:B<=g) (BU:B<=gl)
 (IH:Hid (∀a∈l,∀V c0 Y J c3 d (n:Nat),cx V B a c0 Y J c3->B<=V.heap.size->jh V g gl j s d 0 (M-n)->d<=s.size->bj V->Calls prog 145 #[gX g gl j,.agg #[c0,Y,J,c3]] V fun e w'=>gG V g gl j s M (a.rd M n (s.data.toList.drop d)) e w')):
 Calls prog 145 #[gX g gl j,.agg #[.int .i64 5,.int .i64 0,.slice A l.length cap,.int .i64 c]] w fun e w'=>gG w g gl j s M ((Ty.mk 5 0 l c).rd M n (s.data.toList.drop d)) e w':=by
 have aC:=hS.rdr.lt;have kC:=hS.left.lt;have d0:decide (M-(n:Int)<=0)=false:=zz (by omega);rw[tD hM];obtain⟨p,hp⟩:=Mo hT;have HP:=za hp;have Nn:=za hL;show Calls _ _ _ _ fun e w'=>gG w g gl j s M ⟨(nz M l ((l.length:Int)-c).toNat (n+1) (s.data.toList.drop d)).e,.mk ⟨#[]⟩ true (nz M l ((l.length:Int)-c).toNat (n+1) (s.data.toList.drop d)).xs,(nz M l ((l.length:Int)-c).toNat (n+1) (s.data.toList.drop d)).n,(nz M l ((l.length:Int)-c).toNat (n+1) (s.data.toList.drop d)).q⟩ e w'
 obtain⟨R,L⟩:∃R,nz M l ((l.length:Int)-c).toNat (n+1) (s.data.toList.drop d)=R:=⟨_,rfl⟩
 rw[L];have AE:=za L;clear L hp hT;obtain⟨z,D,ez,el⟩:∃(z:Int) (D:List Ty),z=0/\D=l:=⟨_,_,rfl,rfl⟩
 rw[<-ez];rw[show l.length=D.length from by rw[el]];have C:=za (tI.start (tc:= #[.int .i64 (5),.int .i64 z,.slice A D.length cap,.int .i64 c]) hS);generalize oq:(((w.alloc (.cells (jN g gl j) 197)).alloc (.cells #[.int .i64 (5),.int .i64 z,.slice A D.length cap,.int .i64 c] 64)).alloc (.cells #[.string ⟨#[]⟩,.bool false,.slice none 0 0] 28))=O at*;unfold jN at oq;obtain⟨p0,p1,p2,p3,p4,p5⟩:=fB (show af O w.heap.size 197 #[_,_,_,_,_,_]from C.out.rdg);obtain⟨q0,q1,q2,q3,_⟩:=aO C.out.ty;have l0:O.cell? ⟨gl,0,none⟩=some (.int .i64 (M-n)):=C.out.st.left.cell 0;have l1:=C.out.st.left.frozen 0;subst ez;obtain⟨F,Z⟩:∃F,D.length=F:=⟨_,rfl⟩
 have u:Hid (l.length=F):=za (by rw[<-Z,el]);rw[Z]at oq C⊢;clear Z el hL;have m:=za (C.out.less (M-n-1));generalize rJ:O.setCell ⟨gl,0,none⟩ (.int .i64 (M-n-1))=W4 at*;clear q0 q1 q2 q3;obtain⟨p0,p1,p2,p3,p4,p5⟩:=fB (show af W4 w.heap.size 197 #[_,_,_,_,_,_]from m.out.rdg);obtain⟨q0,q1,q2,q3,_⟩:=aO m.out.ty;unfold gX;clear hS;go_enter xg,y7
 go_wp2_with fail
 have nK:=m.out.ty;have j9:∀V,ae [g,gl] W4 V->ae [g,gl] w V/\Below B w V:=fun V h=>⟨m.out.only.trans h,(m.out.only.trans h).below hB (by simp;omega)⟩
 refine(qa _ _ _ (.inr ⟨rfl,w.heap.size+1,w.heap.size,rfl,rfl⟩) F (fun i=>l[i]?.getD (.mk 0 0 [] 0)) (fun i k=>decide ((i:Int)<(l.length:Int)-c)||decide (k<s.size)) (fun i n aa=>nz M (l.drop i) (((l.length:Int)-c).toNat-i) n aa) (fun i=>(p i).1) (fun i=>(l[i]?.getD (.mk 0 0 [] 0)).sub.length) (fun i=>(p i).2) W4 g gl j s d 0 _ M (n+1) m.out.st hk hs (by have:=u.out;omega) R.e R (by rw[<-u.out];exact Tg.ofT M s l c nJ) (fun _=>⟨by omega,by rw[<-AE.out];simp,rfl⟩) (fun h=>absurd rfl h) (za fun i hi V E f' K I W H=>by
  obtain⟨h1,q⟩:=j9 V I;have y:i<l.length:=by rw[u.out];exact hi
  rw[PG y];obtain⟨b,o,hA,G,e0,x,r,e3,_⟩:=HP.out i y;rw[hA]at nK;have:=q.size;rw[u.out];exact Ws i (w.heap.size+1) w.heap.size g gl j b o F cap s E K 5 0 c _ _ _ _ V (nK.only I (by simp;omega)) (m.out.rdg.only I (by simp;omega)) f' W H (by omega) hi (by have:=u.out;omega) nJ (by have:=u.out;omega) ((q.cell G).trans e0) ((q.cell G).trans x) ((q.cell G).trans r) ((q.cell G).trans e3) (by omega) _ _ _ _ _ _ rfl rfl rfl rfl) (za fun i hi V E n' I W H=>by
  obtain⟨h1,q⟩:=j9 V I;have y:i<l.length:=by rw[u.out];exact hi
  rw[PG y];obtain⟨b,o,hA,G,e0,x,r,e3,Db⟩:=HP.out i y;exact IH.out _ (zM y) V _ _ _ _ E n' (Db.below q) (by have:=q.size;omega) W H (Nn.out.only h1 (by simp;omega)))).mono ?_
 have U:=m;rintro e w2 ⟨X,c0,Y,J,E,K,rfl,S,sS,ho,H,iA⟩;obtain⟨N,bx,rfl,rfl,rfl,_⟩:=S.open_;have kv:=za (U.out.Ki ho sS);have HX:=za (S.kR (b:=w.heap.size+1+1) (by have:=U.out.siz;omega) (.string X.text) (.bool X.list) (.slice N X.sub.length bx));have TW:=za iA;clear S sS ho iA;obtain⟨n0,n1,n2,m0,m1,m2⟩:=gH kv.out.res;obtain⟨x,r,y0,y1,y2⟩:=kv.out.ends (.string X.text) (.bool X.list) (.slice N X.sub.length bx);have E1:=za x;have E2:=za r;clear x r;go_wp2;have x:=E1.out;have r:=E2.out;refine zo (v:= .agg #[.string X.text,.bool X.list,.slice N X.sub.length bx]) (by simp[results,yO,go_sem,y0,y1,y2]) rfl ?_;exact⟨X,_,_,_,E,K,rfl,HX.out.gh (fun _ _ h=>by have:=U.out.siz;omega),x,r,H,TW.out⟩
theorem Th :∀(x:Ty) (B:Nat) (w:World) (G F J O:Value) (g gl d:Nat) (s:ByteArray) (c n:Nat) (M:Int),cx w B x G F J O->B<=w.heap.size->B<=g->B<=gl->x.right=true->jh w g gl d s c 0 (M-n)->c<=s.size->s.size<=1099511627776->M<=1024->bj w->0<g->0<gl->
 Calls prog 145 #[gX g gl d,.agg #[G,F,J,O]] w fun e w'=>gG w g gl d s M (x.rd M n (s.data.toList.drop c)) e w':=by
 intro x;induction x using Ty.ind with
 |h ki z l ta ih=>
  intro B w G F J O g gl d s c n M h W u y Z hS p k i K q r;obtain⟨rfl,rfl,rfl,_,_,_,Qj,A,cap,rfl,nR,lI,S⟩:=h;obtain⟨Y,U⟩:=jr Z;by_cases m:M<=n
  ·rw[JN m];exact Iv ki z ta l A cap w g gl d s c n M hS p m
  rcases lk Y with⟨rfl,I,o,rfl⟩|⟨rfl,I,E,o,rfl⟩|⟨rfl,I,E,o,rfl⟩|⟨rfl,I,E,o,rfl⟩|⟨rfl,rfl,E,h5,h6⟩
  ·obtain rfl:l= []:=zw o;obtain⟨b,rfl⟩:∃b:Nat,z=b:=⟨z.toNat,by omega⟩
   exact Mm b A cap w g gl d s c n M hS p k m i (by omega) (by omega)
  ·obtain rfl:l= []:=zw o;obtain⟨b,rfl⟩:∃b:Nat,z=b:=⟨z.toNat,by omega⟩
   exact Mn b A cap w g gl d s c n M hS p k m i (by omega)
  ·obtain rfl:l= []:=zw o;obtain⟨b,rfl⟩:∃b:Nat,z=b:=⟨z.toNat,by omega⟩
   exact Fu b A cap w g gl d s c n M hS p k m i (by omega) K q r
  ·obtain⟨a,rfl⟩:=Yt.1 o;obtain⟨b,rfl⟩:∃b:Nat,z=b:=⟨z.toNat,by omega⟩
   have X:a.right=true:=by simpa[bL]using U
   exact Iw a b B A cap w g gl d s c n M hS p k m i (by omega) K q r S W u y (za fun V d0 d1 d2 d3 c n C H L D N=>ih a (by simp) B V d0 d1 d2 d3 g gl d s c n M C H u y X L D k i N q r)
  exact Ix l ta B A cap w g gl d s c n M hS p k m i (by omega) (by omega) (by omega) K q r S W u y (za fun a R V d0 d1 d2 d3 c n C H L D N=>by
   obtain⟨j,hj,rfl⟩:=yZ R;exact ih _ R B V d0 d1 d2 d3 g gl d s c n M C H u y (dI U j hj) L D k i N q r)
