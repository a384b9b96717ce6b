/- layout: a list of values is read: what it holds. -/
import Derived.Test.YtpjgigllldipiaaGreatDoorKA21
set_option linter.all false
set_option maxRecDepth 100000
set_option maxHeartbeats 4000000
namespace Go.Proofs.YtpjgigllldipiaaGreatDoor
open Go.RowKit
def kR.pre (acc:List It)(R:kR):kR:=⟨R.e,acc++R.xs,R.n,R.q⟩
theorem kR.PY (acc:List It)(x:It)(R:kR):(R.cons x).pre acc=R.pre (acc++ [x]):=by simp[kR.pre,kR.cons]
structure Tu (M:Int)(c:Nat)(s:ByteArray)(T:Nat->Ty)(th:Nat->Nat->Bool)(rest:Nat->Nat->List UInt8->kR):Prop where
 done:∀i n r,c<=i->rest i n r=⟨0,[],n,r⟩
 lack:∀i n k,i<c->k<=s.size->th i k=false->rest i n (s.data.toList.drop k)=⟨0,[],n,s.data.toList.drop k⟩
 next:∀i n k,i<c->k<=s.size->th i k=true->rest i n (s.data.toList.drop k)=if((T i).rd M n (s.data.toList.drop k)).e≠0 then⟨((T i).rd M n (s.data.toList.drop k)).e,[((T i).rd M n (s.data.toList.drop k)).x],((T i).rd M n (s.data.toList.drop k)).n,((T i).rd M n (s.data.toList.drop k)).q⟩else(rest (i+1) ((T i).rd M n (s.data.toList.drop k)).n ((T i).rd M n (s.data.toList.drop k)).q).cons ((T i).rd M n (s.data.toList.drop k)).x
theorem Tu.Sb (M:Int)(c:Nat)(s:ByteArray)(a:Ty):Tu M c s (fun _=>a) (fun _ _=>true) (fun i n r=>s9 (fun n r=>a.rd M n r) (c-i) n r) where
 done i n r h:=by rw[show c-i=0 from by omega,s9]
 lack i n k _ _ h:=by cases h
 next i n k h _ _:=by rw[show c-i=(c-(i+1))+1 from by omega,s9]
theorem Tu.ofT (M:Int)(s:ByteArray)(l:List Ty)(c:Int)(o:0<=c):Tu M l.length s (fun i=>l[i]?.getD (.mk 0 0 [] 0)) (fun i k=>decide ((i:Int)<(l.length:Int)-c)||decide (k<s.size)) (fun i n r=>nF M (l.drop i) (((l.length:Int)-c).toNat-i) n r) where
 done i n r h:=by rw[zR h,nF]
 lack i n k h m b:=by
  rw[xL h,nF];simp only[ZO,xa]at b;rw[zl ⟨by omega,zR (by rw[aa];omega)⟩]
 next i n k h m b:=by
  rw[xL h,nF];simp only[Bool.or_eq_true,yk]at b;have j:k<s.size->s.data.toList.drop k≠ []:=fun q e=>by
   have:=xj List.length e;rw[zZ,aa]at this;simp at this;omega
  rw[zj (by
   rintro⟨p,d⟩;rcases b with b|b
   ·omega
   exact j b d)]
  simp only[zD h,Option.getD_some,Nat.sub_sub]
structure FC (w:World)(g gl fb:Nat)(s:ByteArray)(k:Nat)(f m:Int)(acc:List It)(v:Value)(V:World):Prop where
 rdg:af V w.heap.size 197 (jS g gl fb)
 res:af V (w.heap.size+1) 28 #[.string ⟨#[]⟩,.bool false,.slice none 0 0]
 xb:af V (w.heap.size+1+1) 28 #[.string ⟨#[]⟩,.bool true,v]
 its:Acc V (w.heap.size+3) acc v
 st:jn V g gl fb s k f m
 only:ae [g,gl] w V
 siz:w.heap.size+3<=V.heap.size
 glt:g<w.heap.size/\gl<w.heap.size
 fbl:fb<w.heap.size
theorem FC.start {w:World}{g gl b:Nat}{s:ByteArray}{k:Nat}{f m:Int}(h:jn w g gl b s k f m):FC w g gl b s k f m [] (.slice none 0 0) (((w.alloc (.cells (jS g gl b) 197)).alloc (.cells #[.string ⟨#[]⟩,.bool false,.slice none 0 0] 28)).alloc (.cells #[.string ⟨#[]⟩,.bool true,.slice none 0 0] 28)) where
 rdg:=((af.new w _ _).alloc _).alloc _
 res:=af.alloc (af.at_ (by simp)) _
 xb:=af.at_ (by simp)
 its:=Acc.nil _ _
 st:=h.below ((((zq _ w).alloc (zi _) _).alloc (by simp) _).alloc (by simp;omega) _)
 only:=(((ae.refl _ w).alloc _).alloc _).alloc _
 siz:=by simp
 glt:=⟨h.rdr.lt,h.left.lt⟩
 fbl:=h.box.lt
theorem FC.below {w V V':World}{g gl c:Nat}{s:ByteArray}{k:Nat}{f m:Int}{acc:List It}{v:Value}(h:FC w g gl c s k f m acc v V)(b:Below V.heap.size V V'):FC w g gl c s k f m acc v V' where
 rdg:=(b.block _ h.rdg.lt).trans h.rdg
 res:=(b.block _ h.res.lt).trans h.res
 xb:=(b.block _ h.xb.lt).trans h.xb
 its:=h.its.below b
 st:=h.st.below b
 only:=h.only.trans ((ae.ah b (zi _)).mono (by simp))
 siz:=zP h.siz b.size
 glt:=h.glt
 fbl:=h.fbl
theorem FC.dC {w V V':World}{g gl c:Nat}{s:ByteArray}{k e:Nat}{f d m i:Int}{acc:List It}{v:Value}(h:FC w g gl c s k f m acc v V)(b:ae [g,gl] V V')(j:jn V' g gl c s e d i):FC w g gl c s e d i acc v V' where
 rdg:=h.rdg.only b (by have:=h.glt;simp;omega)
 res:=h.res.only b (by have:=h.glt;simp;omega)
 xb:=h.xb.only b (by have:=h.glt;simp;omega)
 its:=h.its.only b (by have:=h.glt;simp;omega)
 st:=j
 only:=h.only.trans b
 siz:=zP h.siz b.size
 glt:=h.glt
 fbl:=h.fbl
theorem FC.more {w V V':World}{g gl d:Nat}{s:ByteArray}{k:Nat}{f m:Int}{acc i:List It}{v c:Value}(h:FC w g gl d s k f m acc v V)(b:V.grownBy V' v.ownBlock)(l:Acc V' (w.heap.size+3) i c):FC w g gl d s k f m i c (V'.setCell ⟨w.heap.size+1+1,2,none⟩ c) where
 rdg:=(h.rdg.grown b (fun e=>by have:=(h.its.ge _ e).1;omega)).dz (p:=⟨w.heap.size+1+1,2,none⟩) (by simp;omega) _
 res:=(h.res.grown b (fun e=>by have:=(h.its.ge _ e).1;omega)).dz (p:=⟨w.heap.size+1+1,2,none⟩) (by simp) _
 xb:=(h.xb.grown b (fun e=>by have:=(h.its.ge _ e).1;omega)).set 2 c
 its:=l.only (L:= [w.heap.size+1+1]) ((ae.refl _ _).setCell (by simp) _) (by simp)
 st:=⟨af.dz (show af V' g _ _ from af.grown h.st.rdr b (fun e=>by have:=(h.its.ge _ e).1;have:=h.glt;omega)) (p:=⟨w.heap.size+1+1,2,none⟩) (by have:=h.glt;simp;omega) _,
  (h.st.left.grown b (fun e=>by have:=(h.its.ge _ e).1;have:=h.glt;omega)).dz (p:=⟨w.heap.size+1+1,2,none⟩) (by have:=h.glt;simp;omega) _,
  (h.st.box.grown b (fun e=>by have:=(h.its.ge _ e).1;have:=h.fbl;omega)).dz (p:=⟨w.heap.size+1+1,2,none⟩) (by have:=h.fbl;simp;omega) _⟩
 only:=(h.only.grown b (fun j n=> .inr (by have:=(h.its.ge _ n).1;omega))).setCell (by simp;omega) _
 siz:=by have:=h.siz;have:=b.size;simp[World.setCell];omega
 glt:=h.glt
 fbl:=h.fbl
theorem FC.cells {w V V':World}{g gl c:Nat}{s:ByteArray}{k:Nat}{f m:Int}{acc:List It}{v:Value}(h:FC w g gl c s k f m acc v V)(b:V.grownBy V' v.ownBlock):af V' w.heap.size 197 (jS g gl c)/\af V' (w.heap.size+1+1) 28 #[.string ⟨#[]⟩,.bool true,v]:=
 ⟨h.rdg.grown b (fun e=>by have:=(h.its.ge _ e).1;omega),h.xb.grown b (fun e=>by have:=(h.its.ge _ e).1;omega)⟩
theorem FC.ends {w V:World}{g gl d:Nat}{s:ByteArray}{k:Nat}{f m:Int}{acc:List It}{v:Value}(h:FC w g gl d s k f m acc v V)(b c:Value):
 jn (((V.setCell ⟨w.heap.size+1,0,none⟩ b).setCell ⟨w.heap.size+1,1,none⟩ c).setCell ⟨w.heap.size+1,2,none⟩ v) g gl d s k f m/\ae [g,gl] w (((V.setCell ⟨w.heap.size+1,0,none⟩ b).setCell ⟨w.heap.size+1,1,none⟩ c).setCell ⟨w.heap.size+1,2,none⟩ v)/\
 (V.setCell ⟨w.heap.size+1,0,none⟩ b).cell? ⟨w.heap.size+1,0,none⟩=some b/\((V.setCell ⟨w.heap.size+1,0,none⟩ b).setCell ⟨w.heap.size+1,1,none⟩ c).cell? ⟨w.heap.size+1,1,none⟩=some c/\(((V.setCell ⟨w.heap.size+1,0,none⟩ b).setCell ⟨w.heap.size+1,1,none⟩ c).setCell ⟨w.heap.size+1,2,none⟩ v).cell? ⟨w.heap.size+1,2,none⟩=some v/\
 Acc (((V.setCell ⟨w.heap.size+1,0,none⟩ b).setCell ⟨w.heap.size+1,1,none⟩ c).setCell ⟨w.heap.size+1,2,none⟩ v) (w.heap.size+3) acc v:=
 ⟨h.st.kX h.res b c v,((h.only.setCell (by simp) _).setCell (by simp) _).setCell (by simp) _,by have:=(h.res.set 0 b).cell 0;simpa using this,by have:=((h.res.set 0 b).set 1 c).cell 1;simpa using this,by have:=(((h.res.set 0 b).set 1 c).set 2 v).cell 2;simpa using this,
  h.its.only (L:= [w.heap.size+1]) ((((ae.refl _ V).setCell (by simp) _).setCell (by simp) _).setCell (by simp) _) (by simp)⟩
theorem qi (F:Nat)(cs:Array Value)(A:Value->Array Value)(hF:(F=188/\∃bt:Nat,cs= #[.pointer (some ⟨bt,0,none⟩)]/\A=fun v=> #[v,.pointer (some ⟨bt,0,none⟩)])\/F=189/\∃bt br:Nat,cs= #[.pointer (some ⟨bt,0,none⟩),.pointer (some ⟨br,0,none⟩)]/\A=fun v=> #[v,.pointer (some ⟨bt,0,none⟩),.pointer (some ⟨br,0,none⟩)])(c:Nat)(T:Nat->Ty)(th:Nat->Nat->Bool)(rest:Nat->Nat->List UInt8->kR)(G:Nat->Option Addr)(dn D:Nat->Nat)(w:World)(g gl B:Nat)(s:ByteArray)(k:Nat)(f m M:Int)(n0:Nat)(hS:jn w g gl B s k f m)(hk:k<=s.size)(hs:s.size<=1099511627776)(hc:c<=1024)(E:Int)(R:kR)(HR:Tu M c s T th rest)
 (ah:f=0->m=M-n0/\R=rest 0 n0 (s.data.toList.drop k)/\E=R.e) (ak:f≠0->E=f)
 (S:Hid (∀i,i<c->∀V H f' m',ae [g,gl] w V->jn V g gl B s H f' m'->H<=s.size->Calls Tryz.prog F (A (.int .i64 i)) V fun e w'=>e= .returned (.tuple #[.agg #[.int .i64 (T i).kind,.int .i64 (T i).size,.slice (G i) (dn i) (D i),.int .i64 (T i).tail],.bool (th i H)])/\Below V.heap.size V w'))
 (HV:Hid (∀i,i<c->∀V H (n':Nat),ae [g,gl] w V->jn V g gl B s H 0 (M-n')->H<=s.size->Calls Tryz.prog 145 #[hC g gl B,.agg #[.int .i64 (T i).kind,.int .i64 (T i).size,.slice (G i) (dn i) (D i),.int .i64 (T i).tail]] V fun e w'=>gJ V g gl B s M ((T i).rd M n' (s.data.toList.drop H)) e w')):
 Calls Tryz.prog 187 #[hC g gl B,.int .i64 c,.func (.func F) #[] cs] w fun e w'=>gJ w g gl B s M ⟨E,.mk ⟨#[]⟩ true R.xs,R.n,R.q⟩ e w':=by
 have cL:=za (FC.start hS);have ad:=za HR;have H0:Hid ((f=0->∃z:Nat,m=M-z/\R=(rest 0 z (s.data.toList.drop k)).pre []/\E=R.e)/\(f≠0->E=f)):=za ⟨fun h=>by obtain⟨o,p,C⟩:=ah h;exact⟨n0,o,by rw[p];rfl,C⟩,ak⟩;clear hS ah ak HR;unfold jS at cL;unfold hC;unfold hC at HV;have S:=S.out;rcases hF with⟨rfl,bt,rfl,rfl⟩|⟨rfl,bt,br,rfl,rfl⟩;all_goals
  dsimp only at S;have S:=za S;go_enter Tryz.func187,Tryz.ntmps187
  go_wp2_with fail
  go_loopw [13] (fun i wr=>∃(j r:Nat) (F I:Int) (acc:List It) (v:Value),j<=c/\i= .int .i64 j/\Hid (FC w g gl B s r F I acc v wr)/\r<=s.size/\acc.length<=j/\Hid ((F=0->∃z:Nat,I=M-z/\R=(rest j z (s.data.toList.drop r)).pre acc/\E=R.e)/\(F≠0->E=F))) (fun i _=>c-(intOf i).toNat)
  case atStart=>exact⟨0,k,f,m,[],_,by omega,rfl,cL,hk,by simp,H0⟩
  case round=>
   obtain⟨j,r,F,I,acc,v,hj,rfl,d,O,jI,U⟩:=hrel;obtain⟨Y,n5,Z,rfl,av,aA,aw⟩:=d.out.its.df;by_cases aD:j<c
   ·have Sn:=za (S.out j aD wr r F I d.out.only d.out.st O);have ai:=za (HV.out j aD);obtain⟨b,y⟩:∃b,th j r=b:=⟨_,rfl⟩
    have HB:=za y;rw[y]at Sn;obtain⟨J,aj⟩:∃u,dn j=u:=⟨_,rfl⟩
    rw[aj]at Sn ai;clear y S HV aj;by_cases GI:b=true/\F=0
    ·obtain⟨rfl,rfl⟩:=GI;go_wp2_with fail
     refine Sn.out.mono ?_;rintro e l ⟨rfl,y⟩;have x:=za (d.out.below y);obtain⟨r0,r1,r2,r3,r4,r5⟩:=fu (show af l w.heap.size 197 #[_,_,_,_,_,_]from x.out.rdg);have cc:=x.out.siz;have al:w.heap.size<l.heap.size:=by omega
     have d:=za (x.out.below ((zq _ l).alloc (zi _) (.cells #[.int .i64 (T j).kind,.int .i64 (T j).size,.slice (G j) J (D j),.int .i64 (T j).tail] 64)));clear y;go_wp2_with fail
     refine(bs g s r 0 _ (x.out.st.rdr.alloc _)).mono ?_;rintro e w' ⟨rfl,rfl⟩;have HT:=za (af.new l 64 #[.int .i64 (T j).kind,.int .i64 (T j).size,.slice (G j) J (D j),.int .i64 (T j).tail]);generalize mf:l.alloc (.cells #[.int .i64 (T j).kind,.int .i64 (T j).size,.slice (G j) J (D j),.int .i64 (T j).tail] 64)=W2 at*;obtain⟨z,rfl,hR,hE⟩:=U.out.1 (by simp);have Li:=za (And.intro hR hE);have o7:=d.out.glt;have HG:Hid (l.heap.size∉ [g,gl]):=za (by simp;omega)
     have Rc:Hid (∀V,af V w.heap.size 197 (jS g gl B)/\af V (w.heap.size+1+1) 28 #[.string ⟨#[]⟩,.bool true,.slice Y n5 Z]->af V l.heap.size 64 #[.int .i64 (T j).kind,.int .i64 (T j).size,.slice (G j) J (D j),.int .i64 (T j).tail]->V.cell? ⟨w.heap.size,0,none⟩=some (.func (.func 120) #[.pointer (some ⟨g,0,none⟩)] #[])/\V.cell? ⟨w.heap.size,1,none⟩=some (.func (.func 141) #[.pointer (some ⟨g,0,none⟩)] #[])/\V.cell? ⟨w.heap.size,2,none⟩=some (.func (.func 121) #[.pointer (some ⟨g,0,none⟩)] #[])/\V.cell? ⟨w.heap.size,3,none⟩=some (.func (.func 142) #[.pointer (some ⟨g,0,none⟩)] #[])/\V.cell? ⟨w.heap.size,4,none⟩=some (.func (.func 143) #[] #[.pointer (some ⟨B,0,none⟩)])/\V.cell? ⟨w.heap.size,5,none⟩=some (.pointer (some ⟨gl,0,none⟩))/\V.cell? ⟨l.heap.size,0,none⟩=some (.int .i64 (T j).kind)/\V.cell? ⟨l.heap.size,1,none⟩=some (.int .i64 (T j).size)/\V.cell? ⟨l.heap.size,2,none⟩=some (.slice (G j) J (D j))/\V.cell? ⟨l.heap.size,3,none⟩=some (.int .i64 (T j).tail)/\V.cell? ⟨w.heap.size+1+1,2,none⟩=some (.slice Y n5 Z)/\V.frozen? ⟨w.heap.size+1+1,2,none⟩=false):=za (fun V o p=>⟨o.1.cell 0,o.1.cell 1,o.1.cell 2,o.1.cell 3,o.1.cell 4,o.1.cell 5,p.cell 0,p.cell 1,p.cell 2,p.cell 3,o.2.cell 2,o.2.frozen 2⟩);have an:=za (ai.out W2.drew r z d.out.only.drew (show jn W2.drew g gl B s r 0 (M-z)from d.out.st.drew) O);have rM:=za (ad.out.next j z r aD O HB.out);obtain⟨Rj,ao⟩:∃Rj,(T j).rd M z (s.data.toList.drop r)=Rj:=⟨_,rfl⟩
     rw[ao]at an rM;clear hR hE o7 ao cc r0 r1 r2 r3 r4 r5;go_wp2_with fail
     refine aB 8 (fun V=>V.cell? ⟨w.heap.size,0,none⟩=some (.func (.func 120) #[.pointer (some ⟨g,0,none⟩)] #[])/\V.cell? ⟨w.heap.size,1,none⟩=some (.func (.func 141) #[.pointer (some ⟨g,0,none⟩)] #[])/\V.cell? ⟨w.heap.size,2,none⟩=some (.func (.func 121) #[.pointer (some ⟨g,0,none⟩)] #[])/\V.cell? ⟨w.heap.size,3,none⟩=some (.func (.func 142) #[.pointer (some ⟨g,0,none⟩)] #[])/\V.cell? ⟨w.heap.size,4,none⟩=some (.func (.func 143) #[] #[.pointer (some ⟨B,0,none⟩)])/\V.cell? ⟨w.heap.size,5,none⟩=some (.pointer (some ⟨gl,0,none⟩))/\V.cell? ⟨l.heap.size,0,none⟩=some (.int .i64 (T j).kind)/\V.cell? ⟨l.heap.size,1,none⟩=some (.int .i64 (T j).size)/\V.cell? ⟨l.heap.size,2,none⟩=some (.slice (G j) J (D j))/\V.cell? ⟨l.heap.size,3,none⟩=some (.int .i64 (T j).tail)/\V.cell? ⟨w.heap.size+1+1,2,none⟩=some (.slice Y n5 Z)/\V.frozen? ⟨w.heap.size+1+1,2,none⟩=false) (by kernel_rfl) (by kernel_rfl) ?_;have hHeld:=Rc.out W2.drew ⟨d.out.rdg.drew,d.out.xb.drew⟩ HT.out.drew;refine GT.jD [0,1,2,3] hHeld (fun _ _ _ _ _ h=>h) (by kernel_rfl) ?_;repeat(refine .c rfl rfl (fun V hV=>by go_simp<;>with_reducible rfl) ?_;simp only[Act.put,zc,ze,zg])
     refine .nil ?_;refine GT.fF 4 (fun ab N=> ?_) rfl (by kernel_rfl);go_simp;refine an.out.mono ?_;rintro e w3 ⟨X,c0,c1,c2,H,m',rfl,hX,sZ,ho,wu,iF⟩;have W:=za ((d.out.below (zq _ W2).drew).dC ho sZ);have ag:=za (HT.out.drew.only ho HG.out);have Ub:=za iF;have HX:=za hX;obtain⟨ax,bx,rfl,rfl,rfl,_⟩:=hX.open_;clear hX sZ ho iF;go_wp2_with fail
     refine N.out _ _ (Rc.out w3 ⟨W.out.rdg,W.out.xb⟩ ag.out) (fun hHeld=> ?_);clear N ab;try simp only[Act.put,zc,ze,zg]
     refine GT.fF 5 (fun ab N=> ?_) rfl (by kernel_rfl);go_simp;refine N.out _ _ (Rc.out _ ⟨W.out.rdg.alloc _,W.out.xb.alloc _⟩ (ag.out.alloc _)) (fun hHeld=> ?_);clear N ab;try simp only[Act.put,zc,ze,zg]
     refine GT.fF 6 (fun ab N=> ?_) rfl (by kernel_rfl);have ar:Hid (fV (w3.alloc (.cells #[.string X.text,.bool X.list,.slice ax X.sub.length bx] 28)) (fun q=>w.heap.size+3<=q/\(Value.slice Y n5 Z).ownBlock≠some q) X (.string X.text) (.bool X.list) (.slice ax X.sub.length bx)):=za ((HX.out.below ((zq _ w3).alloc (zi _) _)).fW (fun q _ hq=>⟨by have:=d.out.siz;simp at hq;omega,fun e=>by have:=(d.out.its.ge _ e).2;simp at hq;omega⟩));have YO:acc.length<=1000000:=by omega
     have Uc:w.heap.size+3<=(w3.alloc (.cells #[.string X.text,.bool X.list,.slice ax X.sub.length bx] 28)).heap.size:=by have:=W.out.siz;simp;omega
     refine pZ (by rfl) (.tmp 31) (.tmp 35) (by rfl) (w.heap.size+3) acc (by rfl) (W.out.its.below ((zq _ w3).alloc (zi _) _)) X ar.out _ (by rfl) (by simp) (by simp) (by simp) YO Uc ?_;intro g' n' aq w5 Sg km fE az;have AQ:=za (W.out.below ((zq _ w3).alloc (zi _) (.cells #[.string X.text,.bool X.list,.slice ax X.sub.length bx] 28)));have Q6:=za ((ag.out.alloc _).grown fE (fun e=>by have:=(x.out.its.ge _ e).2;omega));have qP:=za (AQ.out.more fE km);refine N.out _ _ (Rc.out w5 (AQ.out.cells fE) Q6.out) (fun hHeld=> ?_);clear N ab;try simp only[Act.put,zc,ze,zg]
     refine GT.jD [7] hHeld (fun _ _ _ _ _ h=>h) (by kernel_rfl) ?_;refine .c rfl rfl (fun V hV=>by go_simp<;>with_reducible rfl) ?_;simp only[Act.put,zc,ze,zg];refine .nil ?_;refine GT.oP 8 ?_ rfl (by kernel_rfl);obtain⟨z0,z1,z2,z3,z4,z5,z6,z7,z8,z9,ay,au⟩:=hHeld;clear km fE;go_simp;all_goals
      go_wp2;go_roundw
      case rel=>
       refine⟨j+1,H,Rj.e,m',acc++ [X],_,by omega,by go_num,qP,wu,by simp;omega,za ⟨fun h0=> ?_,fun h0=> ?_⟩⟩
       ·obtain⟨g1,g2,g3⟩:=Ub.out h0;have n:=rM.out;rw[zj (by simp[h0])]at n;refine⟨Rj.n,g3, ?_,Li.out.2⟩;rw[Li.out.1,n,kR.PY,g1,g2]
       have n:=rM.out;rw[zl h0]at n;rw[Li.out.2,Li.out.1,n];rfl
      case measure=>simp[intOf];omega
    have aa:Hid (E=F/\(E=0->R.xs=acc/\R.q=s.data.toList.drop r/\I=M-R.n)):=za (by
     by_cases hF:F=0
     ·obtain⟨z,o,p,C⟩:=U.out.1 hF;rw[ad.out.lack _ _ _ aD O (by cases b<;>simp_all[HB.out])]at p;subst p;exact⟨by rw[C,hF];rfl,fun _=>⟨by simp[kR.pre],rfl,o⟩⟩
     exact⟨U.out.2 hF,fun h=>absurd ((U.out.2 hF).symm.trans h) hF⟩)
    obtain rfl:F=E:=aa.out.1.symm;cases b with
    |false=>
     go_wp2_with fail
     refine Sn.out.mono ?_;rintro e l ⟨rfl,y⟩;have x:=za (d.out.below y);obtain⟨r0,r1,r2,r3,r4,r5⟩:=fu (show af l w.heap.size 197 #[_,_,_,_,_,_]from x.out.rdg);have cc:=x.out.siz;have al:w.heap.size<l.heap.size:=by omega
     have d:=za (x.out.below ((zq _ l).alloc (zi _) (.cells #[.int .i64 (T j).kind,.int .i64 (T j).size,.slice (G j) J (D j),.int .i64 (T j).tail] 64)));clear y;obtain⟨n0,n1,n2,m0,m1,m2⟩:=gK d.out.res;obtain⟨x0,x1,x2,_,_,_⟩:=gK d.out.xb;obtain⟨n,L,y0,y1,y2,K⟩:=d.out.ends (.string ⟨#[]⟩) (.bool true);have E1:=za n;have E2:=za L;have HA:=za (K.list (by omega));clear n L K;go_wp2;have n:=E1.out;refine zp (v:= .agg #[.string ⟨#[]⟩,.bool true,.slice Y n5 Z]) (by simp[results,Tryz.results187,go_sem,y0,y1,y2]) rfl ?_;refine⟨_,_,_,_,r,I,rfl,HA.out.fW (fun _ _ h=>by omega),n,E2.out,O,fun h=> ?_⟩;obtain⟨o,p,C⟩:=aa.out.2 h;exact⟨by rw[o],p,C⟩
    |true=>
     have hF:(F !=0)=true:=yP.2 (fun h=>GI ⟨rfl,h⟩);go_wp2_with fail
     refine Sn.out.mono ?_;rintro e l ⟨rfl,y⟩;have x:=za (d.out.below y);obtain⟨r0,r1,r2,r3,r4,r5⟩:=fu (show af l w.heap.size 197 #[_,_,_,_,_,_]from x.out.rdg);have cc:=x.out.siz;have al:w.heap.size<l.heap.size:=by omega
     have d:=za (x.out.below ((zq _ l).alloc (zi _) (.cells #[.int .i64 (T j).kind,.int .i64 (T j).size,.slice (G j) J (D j),.int .i64 (T j).tail] 64)));clear y;go_wp2_with fail
     refine(bs g s r F _ (x.out.st.rdr.alloc _)).mono ?_;rintro e w' ⟨rfl,rfl⟩;obtain⟨n0,n1,n2,m0,m1,m2⟩:=gK d.out.res;obtain⟨x0,x1,x2,_,_,_⟩:=gK d.out.xb;obtain⟨n,L,y0,y1,y2,K⟩:=d.out.ends (.string ⟨#[]⟩) (.bool true);have E1:=za n;have E2:=za L;have HA:=za (K.list (by omega));clear n L K;go_wp2;have n:=E1.out;refine zp (v:= .agg #[.string ⟨#[]⟩,.bool true,.slice Y n5 Z]) (by simp[results,Tryz.results187,go_sem,y0,y1,y2]) rfl ?_;refine⟨_,_,_,_,r,I,rfl,HA.out.fW (fun _ _ h=>by omega),n,E2.out,O,fun h=> ?_⟩;obtain⟨o,p,C⟩:=aa.out.2 h;exact⟨by rw[o],p,C⟩
   have aa:Hid (E=F/\(E=0->R.xs=acc/\R.q=s.data.toList.drop r/\I=M-R.n)):=za (by
    by_cases hF:F=0
    ·obtain⟨z,o,p,C⟩:=U.out.1 hF;rw[ad.out.done _ _ _ (by omega)]at p;subst p;exact⟨by rw[C,hF];rfl,fun _=>⟨by simp[kR.pre],rfl,o⟩⟩
    exact⟨U.out.2 hF,fun h=>absurd ((U.out.2 hF).symm.trans h) hF⟩)
   obtain rfl:F=E:=aa.out.1.symm;obtain⟨n0,n1,n2,m0,m1,m2⟩:=gK d.out.res;obtain⟨x0,x1,x2,_,_,_⟩:=gK d.out.xb;obtain⟨n,L,y0,y1,y2,K⟩:=d.out.ends (.string ⟨#[]⟩) (.bool true);have E1:=za n;have E2:=za L;have HA:=za (K.list (by omega));clear n L K;go_wp2;have n:=E1.out;refine zp (v:= .agg #[.string ⟨#[]⟩,.bool true,.slice Y n5 Z]) (by simp[results,Tryz.results187,go_sem,y0,y1,y2]) rfl ?_;refine⟨_,_,_,_,r,I,rfl,HA.out.fW (fun _ _ h=>by omega),n,E2.out,O,fun h=> ?_⟩;obtain⟨o,p,C⟩:=aa.out.2 h;exact⟨by rw[o],p,C⟩
theorem tP.KD {w V V':World}{g gl c:Nat}{s:ByteArray}{k e:Nat}{f d m i:Int}{tc:Array Value}(h:tP w g gl c s k f m tc V)(b:ae [g,gl] V V')(j:jn V' g gl c s e d i):tP w g gl c s e d i tc V' where
 rdg:=h.rdg.only b (by simp[h.rdg.DL h.st.rdr (by decide),h.rdg.DL h.st.left (by decide)])
 ty:=h.ty.only b (by simp[h.ty.DL h.st.rdr (by decide),h.ty.DL h.st.left (by decide)])
 res:=h.res.only b (by simp[h.res.DL h.st.rdr (by decide),h.res.DL h.st.left (by decide)])
 st:=j
 only:=h.only.trans b
 siz:=zP h.siz b.size
theorem fV.kX {w:World}{B b:Nat}{X:It}{d c e:Value}(h:fV w (B<= ·) X d c e)(l:b<B)(j i k:Value):fV (((w.setCell ⟨b,0,none⟩ j).setCell ⟨b,1,none⟩ i).setCell ⟨b,2,none⟩ k) (B<= ·) X d c e:=
 h.only (L:= [b]) ((((ae.refl _ w).setCell (by simp) _).setCell (by simp) _).setCell (by simp) _) (by simp;omega) (fun _ _ h=>h)
theorem IL (a:Ty)(D:Nat)(B:Nat)(A:Option Addr)(cap:Nat)(w:World)(g gl q:Nat)(s:ByteArray)(c n:Nat)(M:Int)(hS:jn w g gl q s c 0 (M-n))(hk:c<=s.size)(hs:s.size<=1099511627776)(hM:¬M<=n)(Cj:M<=1024)(Sm:D<=1024)(hL:bn w)(hg:0<g)(o7:0<gl)
 (hT:eU w B [a] A 0) (hB:B<=w.heap.size) (al:B<=g) (B6:B<=gl)
 (IH:Hid (∀V c0 c1 c2 c3 c (n:Nat),cw V B a c0 c1 c2 c3->B<=V.heap.size->jn V g gl q s c 0 (M-n)->c<=s.size->bn V->Calls Tryz.prog 145 #[hC g gl q,.agg #[c0,c1,c2,c3]] V fun e w'=>gJ V g gl q s M (a.rd M n (s.data.toList.drop c)) e w')):
 Calls Tryz.prog 145 #[hC g gl q,.agg #[.int .i64 4,.int .i64 D,.slice A [a].length cap,.int .i64 0]] w fun e w'=>gJ w g gl q s M ((Ty.mk 4 D [a] 0).rd M n (s.data.toList.drop c)) e w':=by
 have aD:=hS.rdr.lt;have kJ:=hS.left.lt;have d0:decide (M-(n:Int)<=0)=false:=zz (by omega);rw[CD hM];have Gq:=za (fun V (hV:jn V g gl q s c 0 (M-n-1)) (hl:bn V)=>BZ g gl q s c D _ V hV hk (by omega) (by omega) hl (by omega));have nt:=fun(h0:(aw (s.data.toList.drop c)).2.2=0)=>(iz (s.data.toList.drop c) (aw (s.data.toList.drop c)).1 (aw (s.data.toList.drop c)).2.1 (by rw[<-h0])).2.1
 rw[zZ,aa]at nt;have ah:=nJ (aw (s.data.toList.drop c)) D c;obtain⟨b,o,t0,t1,t2,t3,rfl,fa,e0,d,k,e3,nN⟩:=hT.at_ 0 (by simp);simp only[zQ,Nat.zero_mul,xp,yZ]at e0 d k e3 nN;obtain⟨dA,dc,rfl,rfl,rfl,rfl,_⟩:=nN.open_;have ai:=za nN;have HE:=za (And.intro e0 (And.intro d (And.intro k e3)));have NJ:=za hL;obtain⟨ad,ta,S,ez,et,el⟩:∃(ad ta:Int) (S:List Ty),ad=D/\ta=0/\S= [a]:=⟨_,_,_,rfl,rfl,rfl⟩
 rw[<-et,<-ez];obtain⟨A,hA⟩:∃A,(some (⟨b,o,none⟩:Addr))=A:=⟨_,rfl⟩
 rw[hA];have ak:=za hA;rw[show [a].length=S.length from by rw[el]];clear hA hT nN e0 d k e3;have J:=za (tP.start (tc:= #[.int .i64 (4),.int .i64 ad,.slice A S.length cap,.int .i64 ta]) hS);generalize ox:(((w.alloc (.cells (jS g gl q) 197)).alloc (.cells #[.int .i64 (4),.int .i64 ad,.slice A S.length cap,.int .i64 ta] 64)).alloc (.cells #[.string ⟨#[]⟩,.bool false,.slice none 0 0] 28))=W3 at*;unfold jS at ox;obtain⟨p0,L,W,N,Z,O⟩:=fu (show af W3 w.heap.size 197 #[_,_,_,_,_,_]from J.out.rdg);obtain⟨q0,q1,q2,U,_⟩:=aL J.out.ty;have l0:W3.cell? ⟨gl,0,none⟩=some (.int .i64 (M-n)):=J.out.st.left.cell 0;have l1:=J.out.st.left.frozen 0;subst ez et;have ag:S.length=1:=by rw[el];rfl
 rw[ag]at ox J⊢;clear el ag;have Rb:=fun V (h:tP w g gl q s c 0 (M-n-1) #[.int .i64 4,.int .i64 D,.slice A 1 cap,.int .i64 0] V)=>hL.only h.only (by simp;omega)
 have wX:=za Rb;clear Rb hL;generalize aw (s.data.toList.drop c)=aj at*;obtain⟨Nm,Y,Ne⟩:=aj;simp only at nt ah⊢;rcases ah with⟨x,hE,GF,hK⟩|⟨x,z,hE,GF,hK⟩|⟨x,z,hE,GF,hK⟩
 ·rw[zl x];rw[hE,GF,hK]at Gq;have m:=za (J.out.less (M-n-1));generalize rQ:W3.setCell ⟨gl,0,none⟩ (.int .i64 (M-n-1))=p at*;clear q0 q1 q2 U;obtain⟨p0,L,W,N,Z,O⟩:=fu (show af p w.heap.size 197 #[_,_,_,_,_,_]from m.out.rdg);obtain⟨q0,q1,q2,U,_⟩:=aL m.out.ty;unfold hC;clear hS;go_enter xf,y9
  go_wp2_with fail
  have oZ:bn p:=wX.out p m.out;refine(Gq.out p m.out.st oZ).mono ?_;rintro e C ⟨rfl,H,l⟩;have j:=za (m.out.dC l H.rdr);obtain⟨p0,L,W,N,Z,O⟩:=fu (show af C w.heap.size 197 #[_,_,_,_,_,_]from j.out.rdg);clear H l;go_wp2_with fail
  refine(qi _ _ _ (.inl ⟨rfl,w.heap.size+1,rfl,rfl⟩) 0 (fun _=>a) (fun _ _=>true) (fun i n r=>s9 (fun n r=>a.rd M n r) (0-i) n r) (fun _=>dA) (fun _=>a.sub.length) (fun _=>dc) C g gl q s c Ne _ M (n+1) j.out.st hk hs (by omega) Ne ⟨0,[],0,[]⟩ (Tu.Sb M 0 s a) (fun h=>absurd h x) (fun _=>rfl) (za fun i hi=>by omega) (za fun i hi=>by omega)).mono ?_;rintro e w2 ⟨X,c0,c1,c2,E,R,rfl,u,I,l,K,F⟩;obtain⟨y,bx,rfl,rfl,rfl,_⟩:=u.open_;have G:=za (j.out.KD l I);have HX:=za (u.kX (b:=w.heap.size+1+1) (by have:=j.out.siz;omega) (.string X.text) (.bool X.list) (.slice y X.sub.length bx));have Ub:=za F;clear u I l F;obtain⟨n0,n1,n2,m0,m1,m2⟩:=gK G.out.res;obtain⟨d,k,y0,y1,y2⟩:=G.out.ends (.string X.text) (.bool X.list) (.slice y X.sub.length bx);have E1:=za d;have E2:=za k;clear d k;go_wp2;have d:=E1.out;have k:=E2.out;refine zp (v:= .agg #[.string X.text,.bool X.list,.slice y X.sub.length bx]) (by simp[results,yS,go_sem,y0,y1,y2]) rfl ?_;exact⟨X,_,_,_,E,R,rfl,HX.out.fW (fun _ _ h=>by have:=j.out.siz;omega),d,k,K,fun h=>absurd h x⟩
 ·rw[zj (by rw[x];simp),zl (by omega)];rw[hE,GF,hK]at Gq;have m:=za (J.out.less (M-n-1));generalize rQ:W3.setCell ⟨gl,0,none⟩ (.int .i64 (M-n-1))=p at*;clear q0 q1 q2 U;obtain⟨p0,L,W,N,Z,O⟩:=fu (show af p w.heap.size 197 #[_,_,_,_,_,_]from m.out.rdg);obtain⟨q0,q1,q2,U,_⟩:=aL m.out.ty;unfold hC;clear hS;go_enter xf,y9
  go_wp2_with fail
  have oZ:bn p:=wX.out p m.out;refine(Gq.out p m.out.st oZ).mono ?_;rintro e C ⟨rfl,H,l⟩;have j:=za (m.out.dC l H.rdr);obtain⟨p0,L,W,N,Z,O⟩:=fu (show af C w.heap.size 197 #[_,_,_,_,_,_]from j.out.rdg);clear H l;go_wp2_with fail
  refine(qi _ _ _ (.inl ⟨rfl,w.heap.size+1,rfl,rfl⟩) 0 (fun _=>a) (fun _ _=>true) (fun i n r=>s9 (fun n r=>a.rd M n r) (0-i) n r) (fun _=>dA) (fun _=>a.sub.length) (fun _=>dc) C g gl q s c 5 _ M (n+1) j.out.st hk hs (by omega) 5 ⟨0,[],0,[]⟩ (Tu.Sb M 0 s a) (fun h=>absurd h (by decide)) (fun _=>rfl) (za fun i hi=>by omega) (za fun i hi=>by omega)).mono ?_;rintro e w2 ⟨X,c0,c1,c2,E,R,rfl,u,I,l,K,F⟩;obtain⟨y,bx,rfl,rfl,rfl,_⟩:=u.open_;have G:=za (j.out.KD l I);have HX:=za (u.kX (b:=w.heap.size+1+1) (by have:=j.out.siz;omega) (.string X.text) (.bool X.list) (.slice y X.sub.length bx));have Ub:=za F;clear u I l F;obtain⟨n0,n1,n2,m0,m1,m2⟩:=gK G.out.res;obtain⟨d,k,y0,y1,y2⟩:=G.out.ends (.string X.text) (.bool X.list) (.slice y X.sub.length bx);have E1:=za d;have E2:=za k;clear d k;go_wp2;have d:=E1.out;have k:=E2.out;refine zp (v:= .agg #[.string X.text,.bool X.list,.slice y X.sub.length bx]) (by simp[results,yS,go_sem,y0,y1,y2]) rfl ?_;exact⟨X,_,_,_,E,R,rfl,HX.out.fW (fun _ _ h=>by have:=j.out.siz;omega),d,k,K,fun h=>absurd h (show¬(5:Int)=0 by decide)⟩
 rw[zj (by rw[x];simp),zj (by omega)];rw[hE,GF,hK]at Gq;have aM:=nt x;rw[xV];show Calls _ _ _ _ fun e w'=>gJ w g gl q s M ⟨(s9 (fun n r=>a.rd M n r) Nm (n+1) (s.data.toList.drop (c+Y))).e,.mk ⟨#[]⟩ true (s9 (fun n r=>a.rd M n r) Nm (n+1) (s.data.toList.drop (c+Y))).xs,(s9 (fun n r=>a.rd M n r) Nm (n+1) (s.data.toList.drop (c+Y))).n,(s9 (fun n r=>a.rd M n r) Nm (n+1) (s.data.toList.drop (c+Y))).q⟩ e w'
 obtain⟨ab,hR⟩:∃ab,s9 (fun n r=>a.rd M n r) Nm (n+1) (s.data.toList.drop (c+Y))=ab:=⟨_,rfl⟩
 rw[hR];have DW:=za hR;clear hR;have m:=za (J.out.less (M-n-1));generalize rQ:W3.setCell ⟨gl,0,none⟩ (.int .i64 (M-n-1))=p at*;clear q0 q1 q2 U;obtain⟨p0,L,W,N,Z,O⟩:=fu (show af p w.heap.size 197 #[_,_,_,_,_,_]from m.out.rdg);obtain⟨q0,q1,q2,U,_⟩:=aL m.out.ty;unfold hC;clear hS;go_enter xf,y9
 go_wp2_with fail
 have oZ:bn p:=wX.out p m.out;refine(Gq.out p m.out.st oZ).mono ?_;rintro e C ⟨rfl,H,l⟩;have j:=za (m.out.dC l H.rdr);obtain⟨p0,L,W,N,Z,O⟩:=fu (show af C w.heap.size 197 #[_,_,_,_,_,_]from j.out.rdg);clear H l;go_wp2_with fail
 have nO:af C (w.heap.size+1) 64 #[.int .i64 4,.int .i64 D,.slice (some ⟨b,o,none⟩) 1 cap,.int .i64 0]:=by rw[ak.out];exact j.out.ty
 have kf:∀V,ae [g,gl] C V->ae [g,gl] w V/\Below B w V:=fun V h=>⟨j.out.only.trans h,(j.out.only.trans h).below hB (by simp;omega)⟩
 refine(qi _ _ _ (.inl ⟨rfl,w.heap.size+1,rfl,rfl⟩) Nm (fun _=>a) (fun _ _=>true) (fun i n r=>s9 (fun n r=>a.rd M n r) (Nm-i) n r) (fun _=>dA) (fun _=>a.sub.length) (fun _=>dc) C g gl q s (c+Y) 0 _ M (n+1) j.out.st (by omega) hs (by omega) ab.e ab (Tu.Sb M Nm s a) (fun _=>⟨by omega,by rw[<-DW.out];simp,rfl⟩) (fun h=>absurd rfl h) (za fun i hi V E f' R Sp hV K=>by
  obtain⟨x,z⟩:=kf V Sp;obtain⟨e0,d,k,e3⟩:=HE.out;exact WR i (w.heap.size+1) b o 1 cap 4 D 0 _ _ _ _ V (nO.only Sp (by simp;omega)) (by omega) (by omega) ((z.cell fa).trans e0) ((z.cell fa).trans d) ((z.cell fa).trans k) ((z.cell fa).trans e3) (by have:=z.size;omega) _ _ _ _ _ _ rfl rfl rfl rfl) (za fun i hi V E n' Sp hV K=>by
  obtain⟨x,z⟩:=kf V Sp;exact IH.out V _ _ _ _ E n' (ai.out.below z) (by have:=z.size;omega) hV K (NJ.out.only x (by simp;omega)))).mono ?_
 rintro e w2 ⟨X,c0,c1,c2,E,R,rfl,u,I,l,K,F⟩;obtain⟨y,bx,rfl,rfl,rfl,_⟩:=u.open_;have G:=za (j.out.KD l I);have HX:=za (u.kX (b:=w.heap.size+1+1) (by have:=j.out.siz;omega) (.string X.text) (.bool X.list) (.slice y X.sub.length bx));have Ub:=za F;clear u I l F;obtain⟨n0,n1,n2,m0,m1,m2⟩:=gK G.out.res;obtain⟨d,k,y0,y1,y2⟩:=G.out.ends (.string X.text) (.bool X.list) (.slice y X.sub.length bx);have E1:=za d;have E2:=za k;clear d k;go_wp2;have d:=E1.out;have k:=E2.out;refine zp (v:= .agg #[.string X.text,.bool X.list,.slice y X.sub.length bx]) (by simp[results,yS,go_sem,y0,y1,y2]) rfl ?_;exact⟨X,_,_,_,E,R,rfl,HX.out.fW (fun _ _ h=>by have:=j.out.siz;omega),d,k,K,Ub.out⟩
theorem MK {w:World}{B:Nat}{l:List Ty}{A:Option Addr}(h:eU w B l A 0):∃p:Nat->Option Addr×Nat,∀i (hi:i<l.length),∃b o,A=some ⟨b,o,none⟩/\b<B/\w.cell? ⟨b,o+i*4,none⟩=some (.int .i64 (l[i]).kind)/\w.cell? ⟨b,o+i*4+1,none⟩=some (.int .i64 (l[i]).size)/\w.cell? ⟨b,o+i*4+2,none⟩=some (.slice (p i).1 (l[i]).sub.length (p i).2)/\w.cell? ⟨b,o+i*4+3,none⟩=some (.int .i64 (l[i]).tail)/\cw w B l[i] (.int .i64 (l[i]).kind) (.int .i64 (l[i]).size) (.slice (p i).1 (l[i]).sub.length (p i).2) (.int .i64 (l[i]).tail):=by
 have key:∀i,∃p:Option Addr×Nat,∀(hi:i<l.length),∃b o,A=some ⟨b,o,none⟩/\b<B/\w.cell? ⟨b,o+i*4,none⟩=some (.int .i64 (l[i]).kind)/\w.cell? ⟨b,o+i*4+1,none⟩=some (.int .i64 (l[i]).size)/\w.cell? ⟨b,o+i*4+2,none⟩=some (.slice p.1 (l[i]).sub.length p.2)/\w.cell? ⟨b,o+i*4+3,none⟩=some (.int .i64 (l[i]).tail)/\cw w B l[i] (.int .i64 (l[i]).kind) (.int .i64 (l[i]).size) (.slice p.1 (l[i]).sub.length p.2) (.int .i64 (l[i]).tail):=fun i=>by
  by_cases hi:i<l.length
  ·obtain⟨b,o,s,r,u,x,q,m,k,c,e,d,j⟩:=h.at_ i hi;obtain⟨n,cap,rfl,rfl,rfl,rfl,_⟩:=j.open_;simp only[zQ]at k c e d;exact⟨(n,cap),fun _=>⟨b,o,q,m,k,c,e,d,j⟩⟩
  exact⟨(none,0),fun h=>absurd h hi⟩
 exact⟨fun i=>Classical.choose (key i),fun i hi=>Classical.choose_spec (key i) hi⟩
theorem PZ {l:List Ty}{i:Nat}(h:i<l.length):l[i]?.getD (.mk 0 0 [] 0)=l[i]:=by simp[h]
theorem IM (l:List Ty)(c:Int)(B:Nat)(A:Option Addr)(cap:Nat)(w:World)(g gl j:Nat)(s:ByteArray)(d n:Nat)(M:Int)(hS:jn w g gl j s d 0 (M-n))(hk:d<=s.size)(hs:s.size<=1099511627776)(hM:¬M<=n)(Cj:M<=1024)(hl:l.length<=16)(nN:0<=c)(Jp:c<=l.length)(hL:bn w)(hg:0<g)(o7:0<gl)
 (hT:eU w B l A 0) (hB:B<=w.heap.size) (aa:B<=g) (B6:B<=gl)
 (IH:Hid (∀a∈l,∀V Y c1 S c3 d (n:Nat),cw V B a Y c1 S c3->B<=V.heap.size->jn V g gl j s d 0 (M-n)->d<=s.size->bn V->Calls Tryz.prog 145 #[hC g gl j,.agg #[Y,c1,S,c3]] V fun e w'=>gJ V g gl j s M (a.rd M n (s.data.toList.drop d)) e w')):
 Calls Tryz.prog 145 #[hC g gl j,.agg #[.int .i64 5,.int .i64 0,.slice A l.length cap,.int .i64 c]] w fun e w'=>gJ w g gl j s M ((Ty.mk 5 0 l c).rd M n (s.data.toList.drop d)) e w':=by
 have aD:=hS.rdr.lt;have kJ:=hS.left.lt;have d0:decide (M-(n:Int)<=0)=false:=zz (by omega);rw[tK hM];obtain⟨p,hp⟩:=MK hT;have HP:=za hp;have NJ:=za hL;show Calls _ _ _ _ fun e w'=>gJ w g gl j s M ⟨(nF M l ((l.length:Int)-c).toNat (n+1) (s.data.toList.drop d)).e,.mk ⟨#[]⟩ true (nF M l ((l.length:Int)-c).toNat (n+1) (s.data.toList.drop d)).xs,(nF M l ((l.length:Int)-c).toNat (n+1) (s.data.toList.drop d)).n,(nF M l ((l.length:Int)-c).toNat (n+1) (s.data.toList.drop d)).q⟩ e w'
 obtain⟨R,Z⟩:∃R,nF M l ((l.length:Int)-c).toNat (n+1) (s.data.toList.drop d)=R:=⟨_,rfl⟩
 rw[Z];have DW:=za Z;clear Z hp hT;obtain⟨z,C,ez,el⟩:∃(z:Int) (C:List Ty),z=0/\C=l:=⟨_,_,rfl,rfl⟩
 rw[<-ez];rw[show l.length=C.length from by rw[el]];have E:=za (tP.start (tc:= #[.int .i64 (5),.int .i64 z,.slice A C.length cap,.int .i64 c]) hS);generalize ox:(((w.alloc (.cells (jS g gl j) 197)).alloc (.cells #[.int .i64 (5),.int .i64 z,.slice A C.length cap,.int .i64 c] 64)).alloc (.cells #[.string ⟨#[]⟩,.bool false,.slice none 0 0] 28))=W3 at*;unfold jS at ox;obtain⟨p0,p1,p2,p3,p4,p5⟩:=fu (show af W3 w.heap.size 197 #[_,_,_,_,_,_]from E.out.rdg);obtain⟨q0,q1,q2,q3,_⟩:=aL E.out.ty;have l0:W3.cell? ⟨gl,0,none⟩=some (.int .i64 (M-n)):=E.out.st.left.cell 0;have l1:=E.out.st.left.frozen 0;subst ez;obtain⟨H,L⟩:∃H,C.length=H:=⟨_,rfl⟩
 have y:Hid (l.length=H):=za (by rw[<-L,el]);rw[L]at ox E⊢;clear L el hL;have m:=za (E.out.less (M-n-1));generalize rQ:W3.setCell ⟨gl,0,none⟩ (.int .i64 (M-n-1))=U at*;clear q0 q1 q2 q3;obtain⟨p0,p1,p2,p3,p4,p5⟩:=fu (show af U w.heap.size 197 #[_,_,_,_,_,_]from m.out.rdg);obtain⟨q0,q1,q2,q3,_⟩:=aL m.out.ty;unfold hC;clear hS;go_enter xf,y9
 go_wp2_with fail
 have nO:=m.out.ty;have kf:∀V,ae [g,gl] U V->ae [g,gl] w V/\Below B w V:=fun V h=>⟨m.out.only.trans h,(m.out.only.trans h).below hB (by simp;omega)⟩
 refine(qi _ _ _ (.inr ⟨rfl,w.heap.size+1,w.heap.size,rfl,rfl⟩) H (fun i=>l[i]?.getD (.mk 0 0 [] 0)) (fun i k=>decide ((i:Int)<(l.length:Int)-c)||decide (k<s.size)) (fun i n r=>nF M (l.drop i) (((l.length:Int)-c).toNat-i) n r) (fun i=>(p i).1) (fun i=>(l[i]?.getD (.mk 0 0 [] 0)).sub.length) (fun i=>(p i).2) U g gl j s d 0 _ M (n+1) m.out.st hk hs (by have:=y.out;omega) R.e R (by rw[<-y.out];exact Tu.ofT M s l c nN) (fun _=>⟨by omega,by rw[<-DW.out];simp,rfl⟩) (fun h=>absurd rfl h) (za fun i hi V F f' W I N J=>by
  obtain⟨h1,q⟩:=kf V I;have D:i<l.length:=by rw[y.out];exact hi
  rw[PZ D];obtain⟨b,o,hA,G,e0,u,x,e3,_⟩:=HP.out i D;rw[hA]at nO;have:=q.size;rw[y.out];exact WS i (w.heap.size+1) w.heap.size g gl j b o H cap s F W 5 0 c _ _ _ _ V (nO.only I (by simp;omega)) (m.out.rdg.only I (by simp;omega)) f' N J (by omega) hi (by have:=y.out;omega) nN (by have:=y.out;omega) ((q.cell G).trans e0) ((q.cell G).trans u) ((q.cell G).trans x) ((q.cell G).trans e3) (by omega) _ _ _ _ _ _ rfl rfl rfl rfl) (za fun i hi V F n' I N J=>by
  obtain⟨h1,q⟩:=kf V I;have D:i<l.length:=by rw[y.out];exact hi
  rw[PZ D];obtain⟨b,o,hA,G,e0,u,x,e3,Dj⟩:=HP.out i D;exact IH.out _ (zM D) V _ _ _ _ F n' (Dj.below q) (by have:=q.size;omega) N J (NJ.out.only h1 (by simp;omega)))).mono ?_
 have O:=m;rintro e w2 ⟨X,Y,c1,S,F,W,rfl,K,sZ,ho,J,iF⟩;obtain⟨ax,bx,rfl,rfl,rfl,_⟩:=K.open_;have kE:=za (O.out.KD ho sZ);have HX:=za (K.kX (b:=w.heap.size+1+1) (by have:=O.out.siz;omega) (.string X.text) (.bool X.list) (.slice ax X.sub.length bx));have Ub:=za iF;clear K sZ ho iF;obtain⟨n0,n1,n2,m0,m1,m2⟩:=gK kE.out.res;obtain⟨u,x,y0,y1,y2⟩:=kE.out.ends (.string X.text) (.bool X.list) (.slice ax X.sub.length bx);have E1:=za u;have E2:=za x;clear u x;go_wp2;have u:=E1.out;have x:=E2.out;refine zp (v:= .agg #[.string X.text,.bool X.list,.slice ax X.sub.length bx]) (by simp[results,yS,go_sem,y0,y1,y2]) rfl ?_;exact⟨X,_,_,_,F,W,rfl,HX.out.fW (fun _ _ h=>by have:=O.out.siz;omega),u,x,J,Ub.out⟩
theorem Tv :∀(x:Ty) (B:Nat) (w:World) (O N K H:Value) (g gl d:Nat) (s:ByteArray) (c n:Nat) (M:Int),cw w B x O N K H->B<=w.heap.size->B<=g->B<=gl->x.right=true->jn w g gl d s c 0 (M-n)->c<=s.size->s.size<=1099511627776->M<=1024->bn w->0<g->0<gl->
 Calls Tryz.prog 145 #[hC g gl d,.agg #[O,N,K,H]] w fun e w'=>gJ w g gl d s M (x.rd M n (s.data.toList.drop c)) e w':=by
 intro x;induction x using Ty.ind with
 |h ki z l ta ih=>
  intro B w O N K H g gl d s c n M h U u y hr hS p i o G q r;obtain⟨rfl,rfl,rfl,_,_,_,QB,A,cap,rfl,nW,lM,W⟩:=h;obtain⟨X,R⟩:=ju hr;by_cases k:M<=n
  ·rw[J' k];exact IK ki z ta l A cap w g gl d s c n M hS p k
  rcases lu X with⟨rfl,J,m,rfl⟩|⟨rfl,J,E,m,rfl⟩|⟨rfl,J,E,m,rfl⟩|⟨rfl,J,E,m,rfl⟩|⟨rfl,rfl,E,h5,h6⟩
  ·obtain rfl:l= []:=zt m;obtain⟨b,rfl⟩:∃b:Nat,z=b:=⟨z.toNat,by omega⟩
   exact MG b A cap w g gl d s c n M hS p i k o (by omega) (by omega)
  ·obtain rfl:l= []:=zt m;obtain⟨b,rfl⟩:∃b:Nat,z=b:=⟨z.toNat,by omega⟩
   exact MH b A cap w g gl d s c n M hS p i k o (by omega)
  ·obtain rfl:l= []:=zt m;obtain⟨b,rfl⟩:∃b:Nat,z=b:=⟨z.toNat,by omega⟩
   exact FB b A cap w g gl d s c n M hS p i k o (by omega) G q r
  ·obtain⟨a,rfl⟩:=Yu.1 m;obtain⟨b,rfl⟩:∃b:Nat,z=b:=⟨z.toNat,by omega⟩
   have Z:a.right=true:=by simpa[bK]using R
   exact IL a b B A cap w g gl d s c n M hS p i k o (by omega) G q r W U u y (za fun V d0 d1 d2 d3 c n C D I F L=>ih a (by simp) B V d0 d1 d2 d3 g gl d s c n M C D u y Z I F i o L q r)
  exact IM l ta B A cap w g gl d s c n M hS p i k o (by omega) (by omega) (by omega) G q r W U u y (za fun a S V d0 d1 d2 d3 c n C D I F L=>by
   obtain⟨j,Y,rfl⟩:=xg S;exact ih _ S B V d0 d1 d2 d3 g gl d s c n M C D u y (dP R j Y) I F i o L q r)
