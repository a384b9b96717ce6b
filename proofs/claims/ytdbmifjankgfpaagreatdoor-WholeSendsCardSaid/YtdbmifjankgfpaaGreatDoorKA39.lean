/- session.cut's closure: the next message of the buffer. -/
import Derived.Test.YtdbmifjankgfpaaGreatDoorKA21
import Derived.Test.YtdbmifjankgfpaaGreatDoorKA37
import Derived.Test.YtdbmifjankgfpaaGreatDoorKA38
set_option linter.all false
set_option maxRecDepth 100000
set_option maxHeartbeats 8000000
open Go.Proofs.Tryz
namespace Go.Proofs.YtdbmifjankgfpaaGreatDoor
open Go.RowKit
structure UB (w:World)(cb mb tb ab sb g gm:Nat)(c:aP)(b:ByteArray)(k:Nat):Prop where
 cf:af w cb 24 #[.int .i64 c.fm,.int .u32 c.mg,.int .i64 c.fr,.int .i64 c.un,.int .i64 c.de,.int .i64 c.it]
 me:af w mb 96 #[.pointer (some ⟨gm,0,none⟩)]
 tx:af w tb 9 #[.string b]
 at_:af w ab 3 #[.int .i64 k]
 se:af w sb 35 #[.pointer (some ⟨g,0,none⟩)]
structure NxN (lo hi cb mb tb ab sb g gm:Nat):Prop where
 m1:gm≠cb/\gm≠mb/\gm≠tb/\gm≠ab/\gm≠sb/\gm≠g
 a1:ab≠cb/\ab≠mb/\ab≠tb/\ab≠sb/\ab≠g
 r1:(gm<lo\/hi<=gm)/\(ab<lo\/hi<=ab)
theorem UB.only {w w':World}{cb l i m j g n:Nat}{c:aP}{b:ByteArray}{k:Nat}{L:List Nat}(h:UB w cb l i m j g n c b k)(d:ae L w w')(e:cb∉L/\l∉L/\i∉L/\m∉L/\j∉L):UB w' cb l i m j g n c b k:=
 ⟨h.cf.only d e.1,h.me.only d e.2.1,h.tx.only d e.2.2.1,h.at_.only d e.2.2.2.1,h.se.only d e.2.2.2.2⟩
def Dw (cb mb tb ab sb:Nat):Array Value:= #[.pointer (some ⟨cb,0,none⟩),.pointer (some ⟨mb,0,none⟩),.pointer (some ⟨tb,0,none⟩),.pointer (some ⟨ab,0,none⟩),.pointer (some ⟨sb,0,none⟩)]
theorem Gs {w:World}{g:Nat}{t:TypeId}{l j e z3:Value}(h:af w g t #[l,j,e,z3])(b c d v3:Value):af ((((w.setCell ⟨g,0,none⟩ b).setCell ⟨g,1,none⟩ c).setCell ⟨g,2,none⟩ d).setCell ⟨g,3,none⟩ v3) g t #[b,c,d,v3]:=by
 have m:af _ g t #[b,j,e,z3]:=h.store (i:=0) (u:=b) rfl;have k:af _ g t #[b,c,e,z3]:=m.store (i:=1) (u:=c) rfl;have n:af _ g t #[b,c,d,z3]:=k.store (i:=2) (u:=d) rfl;exact n.store (i:=3) (u:=v3) rfl
def Ri (w:World)(ab gm t R k:Nat)(X:Int×Ms×Nat×Nat)(e:Ending)(w':World):Prop:=
 ∃d0 d1 d2 d3,e= .returned (.tuple #[.agg #[d0,d1,d2,d3],.int .i64 X.1])/\pg w' (w.heap.size<= ·) X.2.1 d0 d1 d2 d3/\Met w' (some gm) (t+X.2.2.2) (R-X.2.2.2)/\ae [gm,ab] w w'/\af w' ab 3 #[.int .i64 (if X.1=0 then k+X.2.2.1 else k:Nat)]
theorem Rk (c:aP)(l:List bz)(lo hi N gn gi:Nat)(rows:List cg)(g q cb mb tb x sb:Nat)(b:ByteArray)(k:Nat)(bv:Value)(nd:Nat)(fault:Int)(laid an aO t R:Nat)(w:World)
 (hr:c.right=true) (hc:c.ok) (hb:b.size<=100000) (H:k<=b.size) (hM:mi w lo hi N gn gi c rows) (rh:aK rows=l) (hS:fq w g N bv nd fault laid an aO) (hm:Met w (some q) t R) (hR:70000<=R)
 (hB:UB w cb mb tb x sb g q c b k) (hN:NxN lo hi cb mb tb x sb g q) (aF:∀V,ae [q,x] w V->Laid V/\bj V):
 Calls prog 62 (Dw cb mb tb x sb) w (Ri w x q t R k (aX c l (b.extract k b.size))):=by
 obtain⟨r,R4⟩:∃r,b.extract k b.size=r:=⟨_,rfl⟩
 have UH:r.size=b.size-k:=by rw[<-R4,aq _ _ _ (zg _)]
 rw[R4];have sm:(k:Int)<=b.size:=by omega
 obtain⟨W,hW⟩:∃W,w.alloc (.cells #[.string ⟨#[]⟩,.string ⟨#[]⟩,.bool false,.slice none 0 0] 30)=W:=⟨_,rfl⟩
 have oB:Below w.heap.size w W:=by rw[<-hW];exact(zl _ w).alloc (zg _) _
 have Wt:w.heap.size<W.heap.size:=by rw[<-hW];simp
 have Sa:q<w.heap.size:=hm.lt q rfl;have JT:x<w.heap.size:=hB.at_.lt;have aC:af W w.heap.size 30 #[.string ⟨#[]⟩,.string ⟨#[]⟩,.bool false,.slice none 0 0]:=by rw[<-hW];exact af.new _ _ _
 have aH:Met W (some q) t R:=(MS.refl hm|>.below oB).met;obtain⟨n1,n2,n3,n4,n5,n6⟩:=hN.m1;have fp:Hid (∀V,ae [q] w V->UB V cb mb tb x sb g q c b k/\mi V lo hi N gn gi c rows/\fq V g N bv nd fault laid an aO/\Laid V/\bj V):=za (fun V o=>⟨hB.only o (by simp;omega),hM.only o (by have:=hN.r1;simp;omega),hS.only o (by simp;omega),aF V (o.mono (by simp))⟩);have Kc:Hid (∀V,ae [q] W V->ae [q] w V):=za (fun V o=>((ae.ah oB (zg _)).mono (by simp)).trans o);have HS:Hid (∀V,ae [q] W V->V.cell? ⟨cb,0,none⟩=some (.int .i64 c.fm)/\V.cell? ⟨cb,1,none⟩=some (.int .u32 c.mg)/\V.cell? ⟨cb,2,none⟩=some (.int .i64 c.fr)/\V.cell? ⟨cb,3,none⟩=some (.int .i64 c.un)/\V.cell? ⟨cb,4,none⟩=some (.int .i64 c.de)/\V.cell? ⟨cb,5,none⟩=some (.int .i64 c.it)/\V.cell? ⟨mb,0,none⟩=some (.pointer (some ⟨q,0,none⟩))/\V.cell? ⟨tb,0,none⟩=some (.string b)/\V.cell? ⟨x,0,none⟩=some (.int .i64 k)):=za (fun V o=>by
  obtain⟨hx,_⟩:=fp V (Kc V o);exact⟨hx.cf.cell 0,hx.cf.cell 1,hx.cf.cell 2,hx.cf.cell 3,hx.cf.cell 4,hx.cf.cell 5,hx.me.cell 0,hx.tx.cell 0,hx.at_.cell 0⟩)
 have HN:=za (fun W0 V o=>Rc c (some q) t R r hc hR (by omega) W0 V o);have S:Hid (aX c l r=if(a8 c r).1≠0 then((a8 c r).1,rI,(a8 c r).2.2.1,(a8 c r).2.2.2)else((fc c l (a8 c r).2.1).1,(fc c l (a8 c r).2.1).2,(a8 c r).2.2.1,(a8 c r).2.2.2)):=za rfl;have fk:=(vo c).pos r;have LM:(a8 c r).2.1.body.size<=1099511627776:=IG c r (by omega);generalize aX c l r=X at*;obtain⟨au,hY⟩:∃au,a8 c r=au:=⟨_,rfl⟩
 rw[hY]at HN S fk LM;clear hY;obtain⟨y5,⟨B,D,C⟩,y4,m⟩:=au;simp only at fk LM S;unfold pz Fr.val nM aP.val at HN;simp only at HN;have HW:=za hW;have UQ:=za (MS.refl aH);have a1:=za aC;have We:=za hN;have Cu:=za rh;have DW:=za fk;have aU:=za LM;unfold Dw;clear hm hR hB hN aF hM rh hS oB aC aH hW fk LM n1 n2 n3 n4 n5 n6;go_enter func62,ntmps62
 go_upto_region 1 with fail
 rw[HW.out];go_cut [7,8,9] (fun v1 v2 v3 d=>∃F:Nat,v1= .pointer (some ⟨F,0,none⟩)/\v2= .int .i64 y4/\v3= .int .i64 y5/\Hid (MS (some q) (t+m) (R-m) W d)/\Hid (af d F 84 #[.int .u64 B,.string D,.string C])/\W.heap.size<=F)
 case rest=>
  obtain⟨F,rfl,rfl,rfl,Y,Mk,aj⟩:=hcut;obtain⟨d,aV⟩:∃d,d=wc:=⟨_,rfl⟩
  subst aV;have Mf:=Y.only;have z:=za (fp d (Kc d Mf));have RR:Hid (af d w.heap.size 30 #[.string ⟨#[]⟩,.string ⟨#[]⟩,.bool false,.slice none 0 0]):=za (a1.only Mf (by simp;omega));have a7:F<d.heap.size:=Mk.lt;have Aq:g<d.heap.size:=z.2.2.1.lt;have ay:=za (Kc d Mf);clear Mf;rcases eP y5 with⟨h0,z1,z2⟩|⟨h0,z1,z2⟩
  ·subst h0;obtain⟨gB,ir⟩:=DW rfl;rw[zh (by simp)]at S;have HD:Hid (∀V,Below d.heap.size d V->Calls prog 64 #[.pointer (some ⟨N,0,none⟩),.agg #[.int .u64 B,.string D,.string C]] V (VH V (fc c l ⟨B,D,C⟩))):=za (fun V o=>by
    have:=Um lo hi N gn gi c rows ⟨B,D,C⟩ V (z.2.1.below (o.mono z.2.1.his)) (z.2.2.2.1.below o z.2.2.2.1.pos) (z.2.2.2.2.below o z.2.2.2.2.pos) aU;rwa [Cu.out]at this)
   have U:Hid (∀V,Below d.heap.size d V->V.cell? ⟨sb,0,none⟩=some (.pointer (some ⟨g,0,none⟩))/\V.cell? ⟨g,0,none⟩=some (.pointer (some ⟨N,0,none⟩))/\V.cell? ⟨F,0,none⟩=some (.int .u64 B)/\V.cell? ⟨F,1,none⟩=some (.string D)/\V.cell? ⟨F,2,none⟩=some (.string C)):=za (fun V o=>by
    have M:=z.1.se.ag o z.1.se.lt;have h2:fq V g N bv nd fault laid an aO:=z.2.2.1.ag o Aq;have h3:=Mk.ag o Mk.lt;exact⟨M.cell 0,h2.parts.1,h3.cell 0,h3.cell 1,h3.cell 2⟩)
   generalize fc c l ⟨B,D,C⟩=aW at*;obtain⟨D1,i⟩:=aW;simp only at S;go_upto_region 4 with fail
   go_cut [9,10] (fun v1 v2 p=>∃(bm:Nat) (u:Option Addr) (s:Nat),v1= .int .i64 D1/\v2= .pointer (some ⟨bm,0,none⟩)/\Hid (Below d.heap.size d p)/\Hid (af p bm 30 #[.string i.name,.string i.x.text,.bool i.x.list,.slice u i.x.sub.length s])/\Hid (pg p (d.heap.size<= ·) i (.string i.name) (.string i.x.text) (.bool i.x.list) (.slice u i.x.sub.length s))/\d.heap.size<=bm)
   case rest=>
    obtain⟨bm,u,s,rfl,rfl,J,O4,OG,az⟩:=hcut;obtain⟨p,aT⟩:∃p,p=wc:=⟨_,rfl⟩
    subst aT;have ai:=za (z.1.at_.ag J z.1.at_.lt);have ao:=za (RR.ag J RR.lt);have aM:Hid (Met p (some q) (t+m) (R-m)):=za (Y.below J).met;have aL:Hid (ae [q] w p):=za ((ay.trans' (ae.ah J (zg _)) (by simp)));have S7:=J.size;rcases eP D1 with⟨M,u1,u2⟩|⟨M,u1,u2⟩
    ·subst M;have q0:p.cell? ⟨x,0,none⟩=some (.int .i64 k):=ai.cell 0;have Wm:p.frozen? ⟨x,0,none⟩=false:=ai.frozen 0;go_upto_region 7 with fail
     obtain⟨W9,Td⟩:∃W9,p.setCell ⟨x,0,none⟩ (.int .i64 ((k:Int)+y4))=W9:=⟨_,rfl⟩
     have rr:ae [x] p W9:=by rw[<-Td];exact(ae.refl _ _).setCell (by simp) _
     have DZ:Hid (af W9 x 3 #[.int .i64 (k+y4:Nat)]):=za (by rw[<-Td];exact ai.store rfl);have ax:=za (ao.only rr (by simp;omega));have aE:=O4.only rr (by simp;omega);have aY:=za (OG.only rr (by simp;omega) (fun _ _ h=>h));have aR:=za (aM.only rr (by intro j e;injection e with e;have:=We.m1;simp;omega));have aS:Hid (ae [q,x] w W9):=za ((aL.mono (by simp)).trans (rr.mono (by simp)));obtain⟨v0,v1,v2,v3,_⟩:=aN aE;obtain⟨m0,m1,m2,m3,aD,aG,aJ,aA⟩:=aN ax;rw[Td];clear Td rr aE q0 Wm;go_wp2;obtain⟨ad,ag,aa,ah⟩:=iq ax (.string i.name) (.string i.x.text) (.bool i.x.list) (.slice u i.x.sub.length s);refine zk (v:= .tuple #[.agg #[.string i.name,.string i.x.text,.bool i.x.list,.slice u i.x.sub.length s],.int .i64 0]) (by simp[results,results62,go_sem,ad,ag,aa,ah]) rfl ?_;have y:=eN W9 w.heap.size (.string i.name) (.string i.x.text) (.bool i.x.list) (.slice u i.x.sub.length s);rw[S.out];refine⟨_,_,_,_,rfl,aY.only y (by simp;omega) (fun k _ H=>by have H:d.heap.size<=k:=H;show w.heap.size<=k;omega),aR.only y (by intro j e;injection e with e;simp;omega),aS.trans' y (by simp), ?_⟩;have M:=DZ.only y (by simp;omega);rw[zi rfl];exact M
    obtain⟨v0,v1,v2,v3,_⟩:=aN O4;obtain⟨m0,m1,m2,m3,aD,aG,aJ,aA⟩:=aN ao;go_wp2;obtain⟨ad,ag,aa,ah⟩:=iq ao (.string i.name) (.string i.x.text) (.bool i.x.list) (.slice u i.x.sub.length s);refine zk (v:= .tuple #[.agg #[.string i.name,.string i.x.text,.bool i.x.list,.slice u i.x.sub.length s],.int .i64 D1]) (by simp[results,results62,go_sem,ad,ag,aa,ah]) rfl ?_;have y:=eN p w.heap.size (.string i.name) (.string i.x.text) (.bool i.x.list) (.slice u i.x.sub.length s);rw[S.out];refine⟨_,_,_,_,rfl,OG.only y (by simp;omega) (fun k _ H=>by have H:d.heap.size<=k:=H;show w.heap.size<=k;omega),aM.only y (by intro j e;injection e with e;simp;omega),(aL.mono (by simp)).trans' y (by simp), ?_⟩;have h2:=ai.only y (by simp;omega);rw[zh M];exact h2
   go_wp2_with fail
   have hHeld:=U d.drew (zl _ _).drew;refine aB 11 (fun V=>V.cell? ⟨sb,0,none⟩=some (.pointer (some ⟨g,0,none⟩))/\V.cell? ⟨g,0,none⟩=some (.pointer (some ⟨N,0,none⟩))/\V.cell? ⟨F,0,none⟩=some (.int .u64 B)/\V.cell? ⟨F,1,none⟩=some (.string D)/\V.cell? ⟨F,2,none⟩=some (.string C)) (by kernel_rfl) (by kernel_rfl) ?_;refine GT.jr [0,1,2,3,4] hHeld (fun _ _ _ _ _ h=>h) (by kernel_rfl) ?_;repeat(refine .c rfl rfl (fun V o=>by go_simp<;>with_reducible rfl) ?_;simp only[Act.put,zb,zd,ze])
   refine .nil ?_;refine GT.Ua 5 9 rfl rfl (by kernel_rfl) (fun K n=> ?_) (fun K n=> ?_)
   ·go_simp;refine(HD d.drew (zl _ _).drew).mono ?_;rintro en G ⟨mz,d0,d1,d2,d3,rfl,Z⟩;obtain⟨u,s,rfl,rfl,rfl,rfl,_⟩:=Z.open_;have A:Below d.heap.size d G:=(show Below d.heap.size d d.drew from(zl _ _).drew).trans mz;go_wp2_with fail
    refine n _ _ (U G A) (fun hHeld=> ?_);clear n K;try simp only[Act.put,zb,zd,ze]
    refine GT.jr [6,7,8] hHeld (fun _ _ _ _ _ h=>h) (by kernel_rfl) ?_;repeat(refine .c rfl rfl (fun V o=>by go_simp<;>with_reducible rfl) ?_;simp only[Act.put,zb,zd,ze])
    refine .nil ?_;refine GT.fF 9 (fun K n=> ?_) rfl (by kernel_rfl);go_simp;refine n _ _ (U _ (A.alloc A.size _)) (fun hHeld=> ?_);clear n K;try simp only[Act.put,zb,zd,ze]
    refine GT.fF 10 (fun K n=> ?_) rfl (by kernel_rfl);go_simp;refine n _ _ (U _ (A.alloc A.size _)) (fun hHeld=> ?_);clear n K;try simp only[Act.put,zb,zd,ze]
    refine GT.oL 11 ?_ rfl (by kernel_rfl);go_simp;obtain⟨p,E⟩:∃p,G.alloc (.cells #[.string i.name,.string i.x.text,.bool i.x.list,.slice u i.x.sub.length s] 30)=p:=⟨_,rfl⟩
    have J:Hid (Below d.heap.size d p):=za (by rw[<-E];exact A.alloc A.size _);have O4:Hid (af p G.heap.size 30 #[.string i.name,.string i.x.text,.bool i.x.list,.slice u i.x.sub.length s]):=za (by rw[<-E];exact af.new _ _ _);have OG:Hid (pg p (d.heap.size<= ·) i (.string i.name) (.string i.x.text) (.bool i.x.list) (.slice u i.x.sub.length s)):=za (by rw[<-E];exact Z.below ((zl _ _).alloc (zg _) _));have az:d.heap.size<=G.heap.size:=A.size;rw[E];clear E mz A Z hHeld;go_wp2_with fail
    go_meet;case rel=>exact⟨_,_,_,rfl,rfl,J,O4,OG,az⟩
   go_simp;have uF:Below d.heap.size d (d.alloc (.cells #[.string ⟨#[]⟩,.string ⟨#[]⟩,.bool false,.slice none 0 0] 30)).drew:=((zl d.heap.size d).alloc (zg _) _).drew;have al:af (d.alloc (.cells #[.string ⟨#[]⟩,.string ⟨#[]⟩,.bool false,.slice none 0 0] 30)).drew d.heap.size 30 #[.string ⟨#[]⟩,.string ⟨#[]⟩,.bool false,.slice none 0 0]:=(af.new d _ _).drew;refine n _ _ (U _ uF) (fun hHeld=> ?_);clear n K;try simp only[Act.put,zb,zd,ze]
   refine GT.fF 5 (fun K n=> ?_) rfl (by kernel_rfl);go_simp;refine(HD _ uF).mono ?_;rintro en G ⟨mz,d0,d1,d2,d3,rfl,Z⟩;obtain⟨u,s,rfl,rfl,rfl,rfl,_⟩:=Z.open_;have A:Below d.heap.size d G:=uF.trans (mz.mono uF.size);have aw:=al.ag mz al.lt;go_wp2_with fail
   refine n _ _ (U G A) (fun hHeld=> ?_);clear n K;try simp only[Act.put,zb,zd,ze]
   refine GT.jr [6,7,8] hHeld (fun _ _ _ _ _ h=>h) (by kernel_rfl) ?_;repeat(refine .c rfl rfl (fun V o=>by go_simp<;>with_reducible rfl) ?_;simp only[Act.put,zb,zd,ze])
   refine .nil ?_;obtain⟨t0,t1,t2,t3,L9,Ov,Ta,aQ⟩:=aN aw;refine GT.fF 10 (fun K n=> ?_) rfl (by kernel_rfl);go_simp;have Em:Below d.heap.size d ((((G.setCell ⟨d.heap.size,0,none⟩ (.string i.name)).setCell ⟨d.heap.size,1,none⟩ (.string i.x.text)).setCell ⟨d.heap.size,2,none⟩ (.bool i.x.list)).setCell ⟨d.heap.size,3,none⟩ (.slice u i.x.sub.length s)):=(((A.setCell (by simp) _).setCell (by simp) _).setCell (by simp) _).setCell (by simp) _;refine n _ _ (U _ Em) (fun hHeld=> ?_);clear n K;try simp only[Act.put,zb,zd,ze]
   refine GT.oL 11 ?_ rfl (by kernel_rfl);go_simp;obtain⟨p,E⟩:∃p,(((G.setCell ⟨d.heap.size,0,none⟩ (.string i.name)).setCell ⟨d.heap.size,1,none⟩ (.string i.x.text)).setCell ⟨d.heap.size,2,none⟩ (.bool i.x.list)).setCell ⟨d.heap.size,3,none⟩ (.slice u i.x.sub.length s)=p:=⟨_,rfl⟩
   have J:Hid (Below d.heap.size d p):=za (by rw[<-E];exact Em);have O4:Hid (af p d.heap.size 30 #[.string i.name,.string i.x.text,.bool i.x.list,.slice u i.x.sub.length s]):=za (by rw[<-E];exact Gs aw _ _ _ _);have OG:Hid (pg p (d.heap.size<= ·) i (.string i.name) (.string i.x.text) (.bool i.x.list) (.slice u i.x.sub.length s)):=za (by rw[<-E];exact Z.only (L:= [d.heap.size]) (eN G d.heap.size _ _ _ _) (by simp[World.drew]) (fun k _ H=>by have H:(d.alloc (.cells #[.string ⟨#[]⟩,.string ⟨#[]⟩,.bool false,.slice none 0 0] 30)).heap.size<=k:=H;simp at H;show d.heap.size<=k;omega));rw[E];clear E mz A Z hHeld uF al aw Em t0 t1 t2 t3 L9 Ov Ta aQ;go_wp2_with fail
   go_meet;case rel=>exact⟨_,_,_,rfl,rfl,J,O4,OG,zg _⟩
  rw[zi h0]at S;obtain⟨m0,m1,m2,m3,aD,aG,aJ,aA⟩:=aN RR;have a6:=za Y.met;go_wp2;obtain⟨ad,ag,aa,ah⟩:=iq RR (.string ⟨#[]⟩) (.string ⟨#[]⟩) (.bool false) (.slice none 0 0);refine zk (v:= .tuple #[.agg #[.string ⟨#[]⟩,.string ⟨#[]⟩,.bool false,.slice none 0 0],.int .i64 y5]) (by simp[results,results62,go_sem,ad,ag,aa,ah]) rfl ?_;have y:=eN d w.heap.size (.string ⟨#[]⟩) (.string ⟨#[]⟩) (.bool false) (.slice none 0 0);rw[S.out];refine⟨_,_,_,_,rfl,Ds _ _,a6.only y (by intro j e;injection e with e;simp;omega),(ay.mono (by simp)).trans' y (by simp), ?_⟩;have M:=z.1.at_.only y (by simp;omega);rw[zh h0];exact M
 go_wp2_with fail
 have hHeld:=HS W.drew UQ.drew.only;refine aB 13 (fun V=>V.cell? ⟨cb,0,none⟩=some (.int .i64 c.fm)/\V.cell? ⟨cb,1,none⟩=some (.int .u32 c.mg)/\V.cell? ⟨cb,2,none⟩=some (.int .i64 c.fr)/\V.cell? ⟨cb,3,none⟩=some (.int .i64 c.un)/\V.cell? ⟨cb,4,none⟩=some (.int .i64 c.de)/\V.cell? ⟨cb,5,none⟩=some (.int .i64 c.it)/\V.cell? ⟨mb,0,none⟩=some (.pointer (some ⟨q,0,none⟩))/\V.cell? ⟨tb,0,none⟩=some (.string b)/\V.cell? ⟨x,0,none⟩=some (.int .i64 k)) (by kernel_rfl) (by kernel_rfl) ?_;refine GT.jr [0,1,2,3,4] hHeld (fun _ _ _ _ _ h=>h) (by kernel_rfl) ?_;iterate 4 (refine .c rfl rfl (fun V o=>by go_simp<;>with_reducible rfl) ?_;simp only[Act.put,zb,zd,ze])
 refine .c (v:= .string r) rfl rfl (fun V o=>by go_simp<;>with_reducible rfl) ?_;try simp only[Act.put,zb,zd,ze];refine .nil ?_;refine GT.Ua 5 10 rfl rfl (by kernel_rfl) (fun K n=> ?_) (fun K n=> ?_)
 ·go_simp;refine(HN W W.drew UQ.drew).mono ?_;rintro en w3 ⟨rfl,I⟩;go_wp2_with fail
  refine n _ _ (HS w3 I.only) (fun hHeld=> ?_);clear n K;try simp only[Act.put,zb,zd,ze]
  refine GT.jr [6,7,8,9] hHeld (fun _ _ _ _ _ h=>h) (by kernel_rfl) ?_;repeat(refine .c rfl rfl (fun V o=>by go_simp<;>with_reducible rfl) ?_;simp only[Act.put,zb,zd,ze])
  refine .nil ?_;refine GT.fF 10 (fun K n=> ?_) rfl (by kernel_rfl);go_simp;refine n _ _ (HS _ (I.alloc _).only) (fun hHeld=> ?_);clear n K;try simp only[Act.put,zb,zd,ze]
  refine GT.fF 11 (fun K n=> ?_) rfl (by kernel_rfl);go_simp;refine n _ _ (HS _ (I.alloc _).only) (fun hHeld=> ?_);clear n K;try simp only[Act.put,zb,zd,ze]
  refine GT.jr [12] hHeld (fun _ _ _ _ _ h=>h) (by kernel_rfl) ?_;refine .c rfl rfl (fun V o=>by go_simp<;>with_reducible rfl) ?_;simp only[Act.put,zb,zd,ze];refine .nil ?_;refine GT.oL 13 ?_ rfl (by kernel_rfl);go_simp;obtain⟨d,O⟩:∃d,w3.alloc (.cells #[.int .u64 B,.string D,.string C] 84)=d:=⟨_,rfl⟩
  have Y:Hid (MS (some q) (t+m) (R-m) W d):=za (by rw[<-O];exact I.alloc _);have Mk:Hid (af d w3.heap.size 84 #[.int .u64 B,.string D,.string C]):=za (by rw[<-O];exact af.new _ _ _);have aj:W.heap.size<=w3.heap.size:=I.size;rw[O];clear O I hHeld;go_wp2_with fail
  go_meet;case rel=>exact⟨_,rfl,rfl,rfl,Y,Mk,aj⟩
 go_simp;have ak:MS (some q) t R W (W.alloc (.cells #[.int .u64 0,.string ⟨#[]⟩,.string ⟨#[]⟩] 84)).drew:=(UQ.alloc _).drew;have aI:af (W.alloc (.cells #[.int .u64 0,.string ⟨#[]⟩,.string ⟨#[]⟩] 84)).drew W.heap.size 84 #[.int .u64 0,.string ⟨#[]⟩,.string ⟨#[]⟩]:=(af.new W _ _).drew;refine n _ _ (HS _ ak.only) (fun hHeld=> ?_);clear n K;try simp only[Act.put,zb,zd,ze]
 refine GT.fF 5 (fun K n=> ?_) rfl (by kernel_rfl);go_simp;refine(HN _ _ (MS.refl ak.met)).mono ?_;rintro en w3 ⟨rfl,ar⟩;have I:=ar.from ak.only;have St:=aI.only ar.only (by simp;omega);go_wp2_with fail
 refine n _ _ (HS w3 I.only) (fun hHeld=> ?_);clear n K;try simp only[Act.put,zb,zd,ze]
 refine GT.jr [6,7,8,9] hHeld (fun _ _ _ _ _ h=>h) (by kernel_rfl) ?_;repeat(refine .c rfl rfl (fun V o=>by go_simp<;>with_reducible rfl) ?_;simp only[Act.put,zb,zd,ze])
 refine .nil ?_;obtain⟨t0,t1,t2,L9,Ov,Ta⟩:=aZ St;refine GT.fF 11 (fun K n=> ?_) rfl (by kernel_rfl);go_simp;have av:=I.ef (zg _) (by intro j e;injection e with e;omega) (.int .u64 B) (.string D) (.string C);refine n _ _ (HS _ av.only) (fun hHeld=> ?_);clear n K;try simp only[Act.put,zb,zd,ze]
 refine GT.jr [12] hHeld (fun _ _ _ _ _ h=>h) (by kernel_rfl) ?_;refine .c rfl rfl (fun V o=>by go_simp<;>with_reducible rfl) ?_;simp only[Act.put,zb,zd,ze];refine .nil ?_;refine GT.oL 13 ?_ rfl (by kernel_rfl);go_simp;obtain⟨d,O⟩:∃d,((w3.setCell ⟨W.heap.size,0,none⟩ (.int .u64 B)).setCell ⟨W.heap.size,1,none⟩ (.string D)).setCell ⟨W.heap.size,2,none⟩ (.string C)=d:=⟨_,rfl⟩
 have Y:Hid (MS (some q) (t+m) (R-m) W d):=za (by rw[<-O];exact av);have Mk:Hid (af d W.heap.size 84 #[.int .u64 B,.string D,.string C]):=za (by rw[<-O];exact ef St _ _ _);have aj:W.heap.size<=W.heap.size:=zg _;rw[O];clear O I hHeld ar ak aI St av t0 t1 t2 L9 Ov Ta;go_wp2_with fail
 go_meet;case rel=>exact⟨_,rfl,rfl,rfl,Y,Mk,aj⟩
def lenOf :Value->Nat
 | .slice _ n _=>n
 |_=>0
theorem Rl (c:aP)(l:List bz)(s:ByteArray):(aX c l s).2.2.2<=65536:=by rw[lT];exact B4 c s
structure CuW (w V:World)(cb mb tb ab sb tm z g gm:Nat)(c:aP)(l:List bz)(b:ByteArray)(k t R:Nat)(lv:Value):Prop where
 only:ae [gm] w V
 met:Met V (some gm) (t+(aX c l (b.extract k b.size)).2.2.2) (R-(aX c l (b.extract k b.size)).2.2.2)
 nx:UB V cb mb tb ab sb g gm c b (if(aX c l (b.extract k b.size)).1=0 then k+(aX c l (b.extract k b.size)).2.2.1 else k)
 msg:∃d0 d1 d2 d3,af V tm 30 #[d0,d1,d2,d3]/\pg V (fun j=>z<=j/\j≠tm/\lv.ownBlock≠some j) (aX c l (b.extract k b.size)).2.1 d0 d1 d2 d3
theorem UC (c:aP)(l:List bz)(lo hi D gn gi:Nat)(rows:List cg)(g p:Nat)(bv:Value)(b:ByteArray)(E laid I J t R:Nat)(w:World)(hr:c.right=true)(hc:c.ok)(hb:b.size<=100000)(hM:mi w lo hi D gn gi c rows)(rh:aK rows=l)(hS:fq w g D bv E 0 laid I J)(bK:bP w hi 5 bv b.data.toList)
 (GK:hi<=g) (Aj:Met w (some p) t R) (Sa:p≠g) (a6:hi<=p) (aZ:bv.ownBlock≠some p) (hR:1099511627776<=R) (uB:iJ c b E) (bg:∀V,ae (p::g::bv.ownBlock.toList) w V->Laid V/\bj V):
 Calls prog 42 #[.pointer (some ⟨g,0,none⟩),.pointer (some ⟨p,0,none⟩)] w fun e w'=>∃rv An bo,e= .returned rv/\cW w' (fun j=>w.heap.size<=j/\An.ownBlock≠some j) w.heap.size (split (aX c l) b).1 rv/\fq w' g D An bo (split (aX c l) b).2.2.2 laid I J/\bP w' hi 5 An (split (aX c l) b).2.1.data.toList/\
  Met w' (some p) (t+(split (aX c l) b).2.2.1) (R-(split (aX c l) b).2.2.1)/\ae (p::g::bv.ownBlock.toList) w w'/\(∀k,An.ownBlock=some k->bv.ownBlock=some k\/w.heap.size<=k)/\((split (aX c l) b).2.2.2=0->iJ c (split (aX c l) b).2.1 bo):=by
 have cF:bv.ownBlock≠some g:=bK.dI hS (by decide);have bp:=bK.form;rw[aa]at bp;obtain⟨A,cap,rfl,pB,jR⟩:=bp;have Rx:∀V,Below w.heap.size w V->(convert 31 9 (.slice A b.size cap)).run prog V= .ok (.string b) V:=fun V o=>by
  have:=bP.EJ (P:=prog) (src:=31) (dst:=9) zr yq zM (bK.below o);rwa [iC]at this
 have a8:=za Rx;have Aq:g<w.heap.size:=hS.lt;have b0:p<w.heap.size:=Aj.lt p rfl;have HS:=za hS;have oA:=za bK;have HM:=za Aj;have Hg:=za hM;have VX:=za uB;have OZ:=za (And.intro cF aZ);have Ou:=za bg;have Cu:=za rh;have OC:=za (fT c l);obtain⟨F,ca⟩:∃F,(w.alloc (.cells #[.pointer (some ⟨g,0,none⟩)] 35)).alloc (.cells #[.pointer (some ⟨p,0,none⟩)] 96)=F:=⟨_,rfl⟩
 have gA:Below w.heap.size w F:=by rw[<-ca];exact((zl _ w).alloc (zg _) _).alloc (by simp) _
 have dO:F.heap.size=w.heap.size+2:=by rw[<-ca];simp
 have ab:Hid (af F w.heap.size 35 #[.pointer (some ⟨g,0,none⟩)]):=za (by rw[<-ca];exact(af.new w _ _).alloc _);have O4:Hid (af F (w.heap.size+1) 96 #[.pointer (some ⟨p,0,none⟩)]):=za (by rw[<-ca];exact af.at_ (by simp));have jU:=za gA;have Bk:=za dO;have cG:=za ca;have b2:F.cell? ⟨w.heap.size,0,none⟩=some (.pointer (some ⟨g,0,none⟩)):=ab.cell 0;obtain⟨p0,p1,K,p3,p4,p5,p6⟩:=fq.parts (hS.ag gA Aq);clear hS bK Aj hM uB cF aZ bg rh Rx gA dO ca;by_cases aC:b.size<E
 ·have Vd:Hid (split (aX c l) b=([],b,0,0)):=za (gh OC (ni.2 (VX.here aC)));rw[Vd.out];go_enter func42,ntmps42
  go_wp2_with fail
  rw[cG.out];go_quiet (fail)
  go_wp2;go_ret;have fu:Below w.heap.size w (F.drewN nq):=Below.bJ jU nq;exact⟨_,_,E,rfl,cW.nil _ _ _,HS.ag fu Aq,oA.below fu,(MS.refl HM|>.below fu).met,(ae.ah fu (zg _)).mono (by simp),fun k hk=> .inl hk,fun _=>VX⟩
 skip
 go_enter func42,ntmps42
 go_wp2_with fail
 rw[cG.out];go_quiet (fail)
 obtain⟨w1,pF⟩:∃w1,F.drewN nq=w1:=⟨_,rfl⟩
 have cr:Hid (Below F.heap.size F w1):=za (by rw[<-pF];exact Below.bJ (zl _ _) nq);rw[pF];clear pF b2 p0 p1 K p3 p4 p5 p6;have Ve:=jU.trans (cr.mono (by have:=Bk.out;omega));have bO:=za Ve;have b2:w1.cell? ⟨w.heap.size,0,none⟩=some (.pointer (some ⟨g,0,none⟩)):=(ab.ag cr ab.lt).cell 0;obtain⟨p0,p1,K,p3,p4,p5,p6⟩:=fq.parts (HS.ag Ve Aq);have UX:=za (Ly lo hi D gn gi c rows w1 (Hg.below (Ve.mono Hg.his)));unfold aP.val at UX;clear Ve;go_wp2_with fail
 refine UX.mono ?_;rintro e q ⟨rfl,aJ⟩;obtain⟨y,fV⟩:∃y,((q.alloc (.cells #[.int .i64 c.fm,.int .u32 c.mg,.int .i64 c.fr,.int .i64 c.un,.int .i64 c.de,.int .i64 c.it] 24)).alloc (.cells #[.string b] 9)).alloc (.cells #[.int .i64 0] 3)=y:=⟨_,rfl⟩
 have cc:=cr.size;have cE:=aJ.size;have aT:Below q.heap.size q y:=by rw[<-fV];exact(((zl _ q).alloc (zg _) _).alloc (by simp) _).alloc (by simp;omega) _
 have a7:Below w1.heap.size w1 y:=aJ.trans (aT.mono cE);have aR:Below F.heap.size F y:=cr.trans (a7.mono cc);have Vf:Below w.heap.size w q:=bO.trans (aJ.mono (by have:=Bk.out;omega));have ba:Below w.heap.size w y:=Vf.trans (aT.mono (by have:=Bk.out;omega));have El:y.heap.size=q.heap.size+3:=by rw[<-fV];simp
 have bI:=a8 (q.alloc (.cells #[.int .i64 c.fm,.int .u32 c.mg,.int .i64 c.fr,.int .i64 c.un,.int .i64 c.de,.int .i64 c.it] 24)) (Vf.alloc (by have:=Bk.out;omega) _);have bb:Hid (af y q.heap.size 24 #[.int .i64 c.fm,.int .u32 c.mg,.int .i64 c.fr,.int .i64 c.un,.int .i64 c.de,.int .i64 c.it]):=za (by rw[<-fV];exact((af.new _ _ _).alloc _).alloc _);have a1:Hid (af y (q.heap.size+1) 9 #[.string b]):=za (by rw[<-fV];exact af.alloc (af.at_ (by simp)) _);have aW:Hid (af y (q.heap.size+1+1) 3 #[.int .i64 0]):=za (by rw[<-fV];exact af.at_ (by simp));have bm:=za (ab.ag aR ab.lt);have bn:=za (O4.ag aR O4.lt);have D3:=za ba;have au:Hid (w.heap.size+2<=q.heap.size/\y.heap.size=q.heap.size+3):=za ⟨by have:=Bk.out;omega,El⟩;clear b2 p0 p1 K p3 p4 p5 p6;have b2:q.cell? ⟨w.heap.size,0,none⟩=some (.pointer (some ⟨g,0,none⟩)):=((ab.ag cr ab.lt).ag aJ (by have:=Bk.out;omega)).cell 0;obtain⟨p0,p1,K,p3,p4,p5,p6⟩:=fq.parts (HS.ag Vf Aq);have D7:w.heap.size<q.heap.size:=by have:=Bk.out;omega
 have DN:g<q.heap.size:=by omega
 have rq:=za fV;have We:Hid (NxN lo hi q.heap.size (w.heap.size+1) (q.heap.size+1) (q.heap.size+1+1) w.heap.size g p):=za ⟨⟨by omega,by omega,by omega,by omega,by omega,Sa⟩,⟨by omega,by omega,by omega,by omega,by omega⟩,⟨.inr a6,.inr (by have:=Hg.his;omega)⟩⟩;have uA:Hid (∀V k t' R',ae [p] w V->UB V q.heap.size (w.heap.size+1) (q.heap.size+1) (q.heap.size+1+1) w.heap.size g p c b k->Met V (some p) t' R'->70000<=R'->k<=b.size->Calls prog 62 (Dw q.heap.size (w.heap.size+1) (q.heap.size+1) (q.heap.size+1+1) w.heap.size) V (Ri V (q.heap.size+1+1) p t' R' k (aX c l (b.extract k b.size)))):=za (fun V k t' R' o hB hm bM hk=>
  Rk c l lo hi D gn gi rows g p _ _ _ _ _ b k (.slice A b.size cap) E 0 laid I J t' R' V hr hc hb hk (Hg.only o (by simp;exact .inr a6)) Cu (HS.only o (by simp;omega)) hm bM hB We (fun V' bH=>Ou V' (((o.mono (by simp)).trans' bH (by have:=au.out;simp;omega)))))
 clear aJ aT a7 aR Vf ba fV El UX;go_wp2_with fail
 rw[rq.out];have J4:Hid (UB y q.heap.size (w.heap.size+1) (q.heap.size+1) (q.heap.size+1+1) w.heap.size g p c b 0):=za ⟨bb,bn,a1,aW,bm⟩;have al:=za (uA y 0 t R ((ae.ah D3 (zg _)).mono (by simp)) J4 (MS.refl HM|>.below D3).met (by omega) (yh _));unfold Dw at al uA;have LJ:w.heap.size+2<=q.heap.size:=au.1;have Oi:y.heap.size=q.heap.size+3:=au.2;obtain⟨cb,bh⟩:∃cb,q.heap.size=cb:=⟨_,rfl⟩
 have a':Hid (ae [p] w y):=za ((ae.ah D3 (zg _)).mono (by simp));rw[bh]at J4 al uA We LJ Oi⊢;clear bh b2 p0 p1 K p3 p4 p5 p6 D7 DN bI bb a1 aW bm bn au rq cc cE;obtain⟨X0,aw⟩:∃X0,aX c l (b.extract 0 b.size)=X0:=⟨_,rfl⟩
 rw[aw]at al;refine al.mono ?_;rintro e w6 ⟨d0,d1,d2,d3,rfl,uE,OQ,Ec,JT⟩;obtain⟨S,N,rfl,rfl,rfl,rfl,_⟩:=uE.open_;have WG:Hid (CuW w (w6.alloc (.cells #[.string X0.2.1.name,.string X0.2.1.x.text,.bool X0.2.1.x.list,.slice S X0.2.1.x.sub.length N] 30)) cb (w.heap.size+1) (cb+1) (cb+1+1) w.heap.size w6.heap.size y.heap.size g p c l b 0 (t+0) (R-0) (.slice none 0 0)):=za (by
  subst aw;have ha:=We.a1;have ax:=Ec.size;have bC:UB w6 cb (w.heap.size+1) (cb+1) (cb+1+1) w.heap.size g p c b (if(aX c l (b.extract 0 b.size)).1=0 then 0+(aX c l (b.extract 0 b.size)).2.2.1 else 0):=⟨J4.cf.only Ec (by simp;omega),J4.me.only Ec (by simp;omega),J4.tx.only Ec (by simp;omega),JT,J4.se.only Ec (by simp;omega)⟩
  have As:=(zl w6.heap.size w6).alloc (zg _) (.cells #[.string (aX c l (b.extract 0 b.size)).2.1.name,.string (aX c l (b.extract 0 b.size)).2.1.x.text,.bool (aX c l (b.extract 0 b.size)).2.1.x.list,.slice S (aX c l (b.extract 0 b.size)).2.1.x.sub.length N] 30);have aL:=ae.ah As (zg _);exact⟨(a'.trans' Ec (by simp;omega)).trans' aL (by simp),OQ.only aL (by simp),bC.only aL (by simp),_,_,_,_,af.new _ _ _,(uE.gQ (S':=fun j=>y.heap.size<=j/\j≠w6.heap.size/\(Value.slice none 0 0).ownBlock≠some j) (fun j d h=>⟨h,by omega,by intro e;cases e⟩)).below As⟩)
 obtain⟨W7,oz⟩:∃W7,w6.alloc (.cells #[.string X0.2.1.name,.string X0.2.1.x.text,.bool X0.2.1.x.list,.slice S X0.2.1.x.sub.length N] 30)=W7:=⟨_,rfl⟩
 have ax:=Ec.size;have bk:W7.heap.size=w6.heap.size+1:=by rw[<-oz];simp
 rw[oz]at WG;have DS:=za oz;obtain⟨z,hz⟩:∃z,y.heap.size=z:=⟨_,rfl⟩
 rw[hz]at WG Oi ax;have bw:=za aw;have gC:Hid (w.heap.size+2<=cb/\z=cb+3):=za ⟨LJ,Oi⟩;have aA:=za ax;have aS:=za bk;clear aw uE OQ Ec JT oz bk hz J4 al LJ Oi ax D3 a' a8;go_wp2_with fail
 rw[DS.out];obtain⟨u,bc⟩:∃u,w6.heap.size=u:=⟨_,rfl⟩
 rw[bc]at WG aA aS⊢;have HZ:Hid (w.heap.size+2<=cb/\z=cb+3/\z<=u):=za ⟨gC.1,gC.2,aA⟩;clear bc gC aA;go_loopw [9,11] (fun lv ev wr=>∃(acc:List Ms) (k a:Nat),cW wr (fun j=>z<=j/\j≠u) (u+1) acc lv/\ev= .int .i64 (aX c l (b.extract k b.size)).1/\k<=b.size/\acc.length<=k/\a<=65536*acc.length/\Hid (split (aX c l) b=(acc++(split (aX c l) (b.extract k b.size)).1,(split (aX c l) (b.extract k b.size)).2.1,a+(split (aX c l) (b.extract k b.size)).2.2.1,(split (aX c l) (b.extract k b.size)).2.2.2))/\Hid (CuW w wr cb (w.heap.size+1) (cb+1) (cb+1+1) w.heap.size u z g p c l b k (t+a) (R-a) lv)/\u+1<=wr.heap.size) (fun lv _ _=>b.size-lenOf lv)
 case atStart=>exact⟨[],0,0,cW.nil _ _ _,by rw[bw.out],by omega,by simp,by simp,za (by rw[Kn];simp),WG,by have:=aS.out;omega⟩
 case round=>
  clear WG DS aS;obtain⟨acc,k,a,lG,rfl,hk,As,ha,Vd,bd,bY⟩:=hrel;obtain⟨A5,n5,eF,rfl,bE,b4,bZ⟩:=lG.cH;have kU:=za lG;have Aj:=Rl c l (b.extract k b.size);have fk:=OC.pos (b.extract k b.size);have pJ:Hid ((aX c l (b.extract k b.size)).1≠0->split (aX c l) b=(acc,b.extract k b.size,a+(aX c l (b.extract k b.size)).2.2.2,if(aX c l (b.extract k b.size)).1=2 then 0 else(aX c l (b.extract k b.size)).1)):=za (fun h=>by
   rw[Vd.out,jB OC.out (b.extract k b.size),zh h];simp)
  have Ki:Hid ((aX c l (b.extract k b.size)).1=0->split (aX c l) b=((acc++ [(aX c l (b.extract k b.size)).2.1])++(split (aX c l) (b.extract (k+(aX c l (b.extract k b.size)).2.2.1) b.size)).1,(split (aX c l) (b.extract (k+(aX c l (b.extract k b.size)).2.2.1) b.size)).2.1,(a+(aX c l (b.extract k b.size)).2.2.2)+(split (aX c l) (b.extract (k+(aX c l (b.extract k b.size)).2.2.1) b.size)).2.2.1,(split (aX c l) (b.extract (k+(aX c l (b.extract k b.size)).2.2.1) b.size)).2.2.2)):=za (fun h=>by
   obtain⟨p1,K⟩:=OC.pos _ h;rw[aq _ _ _ (zg _)]at K;have e:(b.extract k b.size).extract (aX c l (b.extract k b.size)).2.2.1 (b.extract k b.size).size=b.extract (k+(aX c l (b.extract k b.size)).2.2.1) b.size:=by
    rw[CA _ _ _ _ (by rw[aq _ _ _ (zg _)];omega),aq _ _ _ (zg _)];congr 1;omega
   rw[Vd.out,iD OC.out h,e];simp[WK.cons,yi])
  have ag:Hid ((aX c l (b.extract k b.size)).1=2->iJ c (b.extract k b.size) (gN c (b.extract k b.size))):=za (fun h=>iJ.of hr (ni.1 h));rw[aq _ _ _ (zg _)]at fk;obtain⟨uo,um,ux,d0,d1,d2,d3,ut,us⟩:=bd.out;clear Vd bd lG;obtain⟨r,R4⟩:∃r,b.extract k b.size=r:=⟨_,rfl⟩
  rw[R4]at Aj fk pJ Ki ag um ux us⊢;have av:=za R4;clear R4;obtain⟨X,hX⟩:∃X,aX c l r=X:=⟨_,rfl⟩
  rw[hX]at Aj fk pJ Ki ag um ux us⊢;clear hX;obtain⟨y5,X2,y4,m⟩:=X;simp only at Aj fk pJ Ki ag um ux us⊢;obtain⟨Ay,OJ,rfl,rfl,rfl,rfl,_⟩:=us.open_;have b6:lenOf (.slice A5 n5 eF)=n5:=rfl;by_cases Z:y5=0
  ·subst Z;obtain⟨p1,K⟩:=fk rfl;have J9:=za (Ki rfl);rw[zi rfl]at ux;obtain⟨v0,v1,v2,v3,_⟩:=aN ut;have Vb:=(zl wr.heap.size wr).alloc (zg _) (.cells #[.string X2.name,.string X2.x.text,.bool X2.x.list,.slice Ay X2.x.sub.length OJ] 30);have SG:=za (kU.below Vb);have aY:=za ((us.below Vb).gQ (S':=fun j=>(z<=j/\j≠u)/\(Value.slice A5 n5 eF).ownBlock≠some j) (fun j _ h=>⟨⟨h.1,h.2.1⟩,h.2.2⟩));have SR:=ae.ah Vb (zg _);have ah:=za (uo.trans' SR (by simp));have ad:=za (um.only SR (by simp));have s:=za (ux.only SR (by simp));have bl:=za (ut.only SR (by simp));have SF:=za (SG.ge);clear uo um ux ut us Vb SR Ki pJ ag kU;go_wp2_with (
    refine qx (by rfl) (.tmp 40) (.tmp 42) (by rfl) (fun j=>z<=j/\j≠u) (u+1) acc (by rfl) SG X2 aY wr.heap.size (by rfl) (by simp) (by simp) (by simp) (by simp) (by omega) (by simp;omega) ?_;intro g' n' aj w8 OR aV eW b1)
   have G:=ae.dW eW;have C:∀j,j∈(Value.slice A5 n5 eF).ownBlock.toList->u+1<=j:=fun j d=>(SF j (cA.1 d)).1
   obtain⟨z1,z2,z3⟩:=HZ;have br:Hid (ae [p] w w8):=za (ah.trans' G (fun j d=> .inr (by have:=C j d;omega)));have bu:=za (ad.only G (by intro j e d;injection e with e;have:=C j d;omega));have SI:=za (s.only G ⟨fun d=>by have:=C _ d;omega,fun d=>by have:=C _ d;omega,fun d=>by have:=C _ d;omega,fun d=>by have:=C _ d;omega,fun d=>by have:=C _ d;omega⟩);have bD:=za (bl.only G (fun d=>by have:=C _ d;omega));have S7:wr.heap.size+1<=w8.heap.size:=by have:=eW.size;simpa using this
   have bQ:=za aV;have Cx:=za aV.ge;have eD:k+y4<=b.size:=by omega
   have aG:=za (uA w8 (k+y4) (t+a+m) (R-a-m) br SI bu (by omega) eD);obtain⟨ak,hY⟩:∃ak,aX c l (b.extract (k+y4) b.size)=ak:=⟨_,rfl⟩
   rw[hY]at aG;have bf:=za hY;have bq:=za (And.intro z1 (And.intro z2 z3));clear G C eW aV hY ah ad s bl SG aY SF z1 z2 z3;refine aG.mono ?_;rintro e w9 ⟨d0,d1,d2,d3,rfl,uE,OQ,L,JT⟩;obtain⟨Az,bS,rfl,rfl,rfl,rfl,_⟩:=uE.open_;have b5:=L.size;have aQ:=bD.only L (by have:=bq.out;simp;omega);obtain⟨t0,t1,t2,t3,L9,Ov,Ta,bV⟩:=aN aQ;have bs:=za aQ;have bN:=za uE;have bJ:=za OQ;have bt:=za L;have bR:=za JT;clear uE OQ L JT aQ aG;go_wp2;go_roundw
   case rel=>
    have L:=bt.out;have sA:=eN w9 u (.string ak.2.1.name) (.string ak.2.1.x.text) (.bool ak.2.1.x.list) (.slice Az ak.2.1.x.sub.length bS);have jS:∀j,(Value.slice (some ⟨g',0,none⟩) n' aj).ownBlock=some j->u+1<=j/\j<w8.heap.size:=fun j e=>Cx j e
    obtain⟨z1,z2,z3⟩:=bq;have ha:=We.a1;refine⟨acc++ [X2],k+y4,a+m,(bQ.only L (by simp;omega) (fun j d e=>by have:=jS j e;simp at d;omega)).only sA (by simp) (fun j d e=>by have:=jS j e;simp at d;omega),by rw[bf.out],eD,by rw[zj];simp;omega,by rw[zj];simp;omega,by rw[show k+y4=k+y4 from rfl];exact J9,za ?_,by have:=sA.size;omega⟩;have e1:t+(a+m)=t+a+m:=by omega
    have e2:R-(a+m)=R-a-m:=by omega
    rw[e1,e2];have hY:=bf.out;subst hY;exact⟨(br.trans' L (by simp;omega)).trans' sA (by simp;omega),bJ.only sA (by intro j e;injection e with e;simp;omega),
     ⟨(SI.cf.only L (by simp;omega)).only sA (by simp;omega),(SI.me.only L (by simp;omega)).only sA (by simp;omega),(SI.tx.only L (by simp;omega)).only sA (by simp;omega),bR.only sA (by simp;omega),(SI.se.only L (by simp;omega)).only sA (by simp;omega)⟩,
     _,_,_,_,Gs bs _ _ _ _,bN.only sA (by simp;omega) (fun j _ d=>by have d:w8.heap.size<=j:=d;exact⟨by omega,by omega,fun e=>by have:=jS j e;omega⟩)⟩
   case measure=>
    have q1:=OR.out;have q2:=bE.out;simp[lenOf];omega
  have B:=pJ Z;rw[zh Z]at ux;have Cz:Hid (fq wr g D (.slice A b.size cap) E 0 laid I J):=za (HS.only uo (by simp;omega));have Vc:Hid (bP wr hi 5 (.slice A b.size cap) b.data.toList):=za (oA.qq uo (fun j e=>by have:=OZ.2;rw[e]at this;simpa using xR (fun h=>this (by rw[h]))));have ah:=za uo;have ad:=za um;have s:=za ux;have sm:(k:Int)<=b.size:=by omega
  have UH:r.size<=100000:=by rw[<-av.out,aq _ _ _ (zg _)];omega
  have bW:=av.out;have b3:w.heap.size<cb+1+1:=by have:=HZ.1;omega
  clear uo um ux ut us pJ Ki fk;by_cases M:y5=2
  ·subst M;rw[zi rfl]at B;have B:=za B;have bB:=za (ag rfl);have GV:=za (fun V=>Jx c r V hr (by omega));unfold aP.val at GV;clear ag;go_wp2_with fail
   refine nK 8 (by kernel_rfl) (by kernel_rfl) ?_;simp only[zO,yu,zX,zJ];refine ai (.pointer (some ⟨g,0,none⟩)) (by rfl) (fun V o=>by have b2:=(s.se.ag o s.se.lt).cell 0;go_simp) ?_;simp only[Act.put,zb,zd,ze];refine ai (.agg #[.int .i64 c.fm,.int .u32 c.mg,.int .i64 c.fr,.int .i64 c.un,.int .i64 c.de,.int .i64 c.it]) (by rfl) (fun V o=>by obtain⟨q0,q1,q2,q3,q4,q5⟩:=eV (s.cf.ag o s.cf.lt);go_simp) ?_;simp only[Act.put,zb,zd,ze];refine ai (.string b) (by rfl) (fun V o=>by have b2:=(s.tx.ag o s.tx.lt).cell 0;go_simp) ?_;simp only[Act.put,zb,zd,ze];refine ai (.int .i64 k) (by rfl) (fun V o=>by have b2:=(s.at_.ag o s.at_.lt).cell 0;go_simp) ?_;simp only[Act.put,zb,zd,ze];refine ai (.string r) (by rfl) (fun _ _=>by first|rfl|go_simp) ?_;simp only[Act.put,zb,zd,ze];refine dN 65 _ _ (by rfl) (fun _=>by first|rfl|go_simp) (fun V _=>GV V) ?_;simp only[Act.put,zb,zd,ze];refine ai (.pointer (some ⟨g,0,none⟩)) (by rfl) (fun _ _=>by first|rfl|go_simp) ?_;simp only[Act.put,zb,zd,ze];refine ai (.pointer (some ⟨g,2,none⟩)) (by rfl) (fun _ _=>by first|rfl|go_simp) ?_;simp only[Act.put,zb,zd,ze];refine xE ?_;intro V o;have Vg:fq V g D (.slice A b.size cap) E 0 laid I J:=Cz.ag o Cz.lt;obtain⟨_,_,K,p3,_,_,_⟩:=fq.parts Vg;obtain⟨_,f2,f3,_,_,_⟩:=fq.C6 Vg;have aH:g<V.heap.size:=zU Cz.lt o.size;go_upto_region 15 with fail
   obtain⟨n,O⟩:∃n,V.setCell ⟨g,2,none⟩ (.int .i64 (gN c r:Nat))=n:=⟨_,rfl⟩
   rw[O];have ao:ae [p,g] w V:=(ah.mono (by simp)).trans' (ae.ah o (zg _)) (by simp);have Mc:Hid (ae (p::g::(Value.slice A b.size cap).ownBlock.toList) w n):=za (by rw[<-O];exact(ao.setCell (.inl (by simp)) _).mono (by intro i hi;simp at hi⊢;rcases hi with h|h<;>simp[h]));have H:ae [g] V n:=by rw[<-O];exact(ae.refl _ _).setCell (.inl (by simp)) _
   have OI:Hid (bP n hi 5 (.slice A b.size cap) b.data.toList):=za ((Vc.below o).qq H (by intro j e h;simp at h;subst h;exact OZ.1 e));have aE:Hid (Met n (some p) (t+a+m) (R-a-m)):=za ((ad.only (ae.ah o (zg _)) (by simp)).only H (by intro j e;injection e with e;subst e;simpa using Sa));have bx:g<w.heap.size:=Aq;have an:Hid (cW n (fun j=>z<=j/\j≠u) (u+1) acc (.slice A5 n5 eF)):=za ((kU.below o).only H (by have:=HZ.out;simp;omega) (fun j d e=>by have:=(kU.ge j e).1;have:=HZ.out;simp at d;omega));have SM:Hid (af n w.heap.size 35 #[.pointer (some ⟨g,0,none⟩)]):=za ((s.se.ag o s.se.lt).only H (by simp;omega));have SL:Hid (af n (cb+1+1) 3 #[.int .i64 k]):=za ((s.at_.ag o s.at_.lt).only H (by have:=HZ.out;simp;omega));have Kd:Hid (w.heap.size<=n.heap.size):=za Mc.size;clear ao H K p3 f2 f3 aH;have j6:Hid (fq n g D (.slice A b.size cap) (gN c r) 0 laid I J):=za (by rw[<-O];exact fq.TT Vg _);clear O o Vg Cz Vc ah ad s kU;have az:Hid ((split (aX c l) b).2.2.2=0->iJ c (split (aX c l) b).2.1 (gN c r)):=za (fun _=>by rw[B.out];exact bB);have Rv:g<n.heap.size:=j6.lt;have RU:=za (Gf hi (.slice A b.size cap) b.data.toList k n.drew (OI.below (zl _ _).drew) (by have:=Kd.out;show hi<=n.heap.size;omega) (by rw[aa];omega) (by rw[aa];omega));have Wc:Hid (b.data.toList.drop k=r.data.toList):=za (by rw[<-av.out,ar,dq]);have Kc:Hid (∀j,(Value.slice A b.size cap).ownBlock=some j->j<w.heap.size):=za (fun j e=>(oA.ge j e).2.1)
   have hHeld:(fun V:World=>V.cell? ⟨w.heap.size,0,none⟩=some (.pointer (some ⟨g,0,none⟩))/\V.cell? ⟨g,1,none⟩=some (.slice A b.size cap)/\V.cell? ⟨cb+1+1,0,none⟩=some (.int .i64 k)) n.drew:=⟨SM.cell 0,(fq.parts j6).2.1,SL.cell 0⟩
   refine aB 9 (fun V=>V.cell? ⟨w.heap.size,0,none⟩=some (.pointer (some ⟨g,0,none⟩))/\V.cell? ⟨g,1,none⟩=some (.slice A b.size cap)/\V.cell? ⟨cb+1+1,0,none⟩=some (.int .i64 k)) (by kernel_rfl) (by kernel_rfl) ?_;refine GT.jr [0,1,2,3,4,5] hHeld (fun _ _ _ _ _ h=>h) (by kernel_rfl) ?_;repeat(refine .c rfl rfl (fun V o=>by go_simp<;>with_reducible rfl) ?_;simp only[Act.put,zb,zd,ze])
   refine .nil ?_;refine GT.fF 6 (fun aU hK=> ?_) rfl (by kernel_rfl);go_simp;refine RU.mono ?_;rintro e x ⟨v',rfl,bX,Y⟩;rw[Wc.out]at bX;have SH:fq n.drew g D (.slice A b.size cap) (gN c r) 0 laid I J:=af.drew j6;have W:fq x g D (.slice A b.size cap) (gN c r) 0 laid I J:=af.Tq SH Y (OZ.1);have SO:af x w.heap.size 35 #[.pointer (some ⟨g,0,none⟩)]:=af.Tq SM.drew Y (fun e=>by have:=Kc _ e;omega);have SQ:af x (cb+1+1) 3 #[.int .i64 k]:=af.Tq SL.drew Y (fun e=>by have:=Kc _ e;omega);obtain⟨_,aI,_,_,_,_,_⟩:=fq.parts W;obtain⟨bA,_,_,_,_,_⟩:=fq.C6 W;have bT:g<x.heap.size:=W.lt;obtain⟨S,n6,N,rfl,bL,bG,bF⟩:=bX.cH;have dB:=za W;have SK:=za Y;have Bq:=za bX;clear W SH Y bX RU;go_wp2_with fail
   refine hK _ _ ⟨SO.cell 0,aI,SQ.cell 0⟩ (fun hHeld=> ?_);clear hK aU;try simp only[Act.put,zb,zd,ze]
   refine GT.jr [7,8] hHeld (fun _ _ _ _ _ h=>h) (by kernel_rfl) ?_;repeat(refine .c rfl rfl (fun V o=>by go_simp<;>with_reducible rfl) ?_;simp only[Act.put,zb,zd,ze])
   refine .nil ?_;refine GT.oL 9 ?_ rfl (by kernel_rfl);go_simp;clear hHeld SO SQ;go_wp2;go_ret;have ay:ae [] n n.drew:=ae.ah (zl _ _).drew (zg _);have G:ae (Value.slice A b.size cap).ownBlock.toList n x:=(ay.mono (by simp)).trans SK.only;have aM:ae (p::g::(Value.slice A b.size cap).ownBlock.toList) w x:=Mc.trans' G (fun i hi=> .inl (by simp at hi⊢;exact .inr (.inr hi)));have SJ:ae [g] x (x.setCell ⟨g,1,none⟩ (.slice S n6 N)):=(ae.refl [g] x).setCell (.inl (by simp)) _;have Oi:=HZ.out;refine⟨.slice A5 n5 eF,.slice S n6 N,(gN c r),rfl, ?_, ?_, ?_, ?_, ?_, ?_,az⟩
   ·rw[B.out];have C:∀j,j∈(Value.slice A b.size cap).ownBlock.toList->j<w.heap.size:=fun j d=>Kc j (cA.1 d)
    have jS:=an.ge;have aF:∀j,j<n.heap.size->(z<=j/\j≠u)->w.heap.size<=j/\(Value.slice S n6 N).ownBlock≠some j:=fun j d hz=>⟨by omega,fun e=>by
     rcases SK.own with e2|⟨j',e2,U⟩
     ·have:=Kc j (by rw[<-e2];exact e);omega
     rw[e2]at e;injection e with e;have U:n.heap.size<=j':=U;omega⟩
    exact((an.gQ aF (show w.heap.size<=u+1 by omega)).only G (fun j d hS=>by have:=C j d;have:=hS.1;omega) (fun j d e=>by have:=C j d;have:=jS j e;omega)).only SJ (fun j d hS=>by simp at d;have:=hS.1;omega) (fun j d e=>by have:=jS j e;simp at d;omega)
   ·rw[B.out];exact fq.IX dB _
   ·rw[B.out];refine Bq.ag (fun j Z M=>zR _ _ _ _ ?_);rintro rfl;exact(Bq.dI dB (by decide)) M
   ·rw[B.out];have Z:=aE.only G (by intro j e;injection e with e;subst e;exact fun h=>OZ.2 (cA.1 h));have M:=Z.only SJ (by intro j e;injection e with e;subst e;simpa using Sa);simpa only[yi,Nat.sub_sub]using M
   ·exact aM.setCell (.inl (by simp)) _
   intro j d;rcases SK.own with e|⟨j',e,U⟩
   ·exact .inl (by rw[<-e];exact d)
   rw[e]at d;injection d with d;exact .inr (by have:=Kd.out;have U:n.heap.size<=j':=U;omega)
  rw[zh M]at B;have B:=za B;have Oy:(y5==2)=false:=zm.2 M;obtain⟨V,aD⟩:∃V,wr=V:=⟨_,rfl⟩
  have o:Below wr.heap.size wr V:=by rw[<-aD];exact zl _ _
  have b2:V.cell? ⟨w.heap.size,0,none⟩=some (.pointer (some ⟨g,0,none⟩)):=(s.se.ag o s.se.lt).cell 0;rw[aD];clear aD ag;have Vg:fq V g D (.slice A b.size cap) E 0 laid I J:=Cz.ag o Cz.lt;obtain⟨_,_,K,p3,_,_,_⟩:=fq.parts Vg;obtain⟨_,f2,f3,_,_,_⟩:=fq.C6 Vg;have aH:g<V.heap.size:=zU Cz.lt o.size;go_upto_region 15 with fail
  obtain⟨n,O⟩:∃n,V.setCell ⟨g,3,none⟩ (.int .i64 y5)=n:=⟨_,rfl⟩
  rw[O];have ao:ae [p,g] w V:=(ah.mono (by simp)).trans' (ae.ah o (zg _)) (by simp);have Mc:Hid (ae (p::g::(Value.slice A b.size cap).ownBlock.toList) w n):=za (by rw[<-O];exact(ao.setCell (.inl (by simp)) _).mono (by intro i hi;simp at hi⊢;rcases hi with h|h<;>simp[h]));have H:ae [g] V n:=by rw[<-O];exact(ae.refl _ _).setCell (.inl (by simp)) _
  have OI:Hid (bP n hi 5 (.slice A b.size cap) b.data.toList):=za ((Vc.below o).qq H (by intro j e h;simp at h;subst h;exact OZ.1 e));have aE:Hid (Met n (some p) (t+a+m) (R-a-m)):=za ((ad.only (ae.ah o (zg _)) (by simp)).only H (by intro j e;injection e with e;subst e;simpa using Sa));have bx:g<w.heap.size:=Aq;have an:Hid (cW n (fun j=>z<=j/\j≠u) (u+1) acc (.slice A5 n5 eF)):=za ((kU.below o).only H (by have:=HZ.out;simp;omega) (fun j d e=>by have:=(kU.ge j e).1;have:=HZ.out;simp at d;omega));have SM:Hid (af n w.heap.size 35 #[.pointer (some ⟨g,0,none⟩)]):=za ((s.se.ag o s.se.lt).only H (by simp;omega));have SL:Hid (af n (cb+1+1) 3 #[.int .i64 k]):=za ((s.at_.ag o s.at_.lt).only H (by have:=HZ.out;simp;omega));have Kd:Hid (w.heap.size<=n.heap.size):=za Mc.size;clear ao H K p3 f2 f3 aH;have j6:Hid (fq n g D (.slice A b.size cap) E y5 laid I J):=za (by rw[<-O];exact fq.Qf Vg _);clear O o Vg Cz Vc ah ad s kU b2;have az:Hid ((split (aX c l) b).2.2.2=0->iJ c (split (aX c l) b).2.1 E):=za (fun h=>by rw[B.out]at h;exact absurd h Z);have Rv:g<n.heap.size:=j6.lt;have RU:=za (Gf hi (.slice A b.size cap) b.data.toList k n.drew (OI.below (zl _ _).drew) (by have:=Kd.out;show hi<=n.heap.size;omega) (by rw[aa];omega) (by rw[aa];omega));have Wc:Hid (b.data.toList.drop k=r.data.toList):=za (by rw[<-av.out,ar,dq]);have Kc:Hid (∀j,(Value.slice A b.size cap).ownBlock=some j->j<w.heap.size):=za (fun j e=>(oA.ge j e).2.1)
  have hHeld:(fun V:World=>V.cell? ⟨w.heap.size,0,none⟩=some (.pointer (some ⟨g,0,none⟩))/\V.cell? ⟨g,1,none⟩=some (.slice A b.size cap)/\V.cell? ⟨cb+1+1,0,none⟩=some (.int .i64 k)) n.drew:=⟨SM.cell 0,(fq.parts j6).2.1,SL.cell 0⟩
  refine aB 9 (fun V=>V.cell? ⟨w.heap.size,0,none⟩=some (.pointer (some ⟨g,0,none⟩))/\V.cell? ⟨g,1,none⟩=some (.slice A b.size cap)/\V.cell? ⟨cb+1+1,0,none⟩=some (.int .i64 k)) (by kernel_rfl) (by kernel_rfl) ?_;refine GT.jr [0,1,2,3,4,5] hHeld (fun _ _ _ _ _ h=>h) (by kernel_rfl) ?_;repeat(refine .c rfl rfl (fun V o=>by go_simp<;>with_reducible rfl) ?_;simp only[Act.put,zb,zd,ze])
  refine .nil ?_;refine GT.fF 6 (fun aU hK=> ?_) rfl (by kernel_rfl);go_simp;refine RU.mono ?_;rintro e x ⟨v',rfl,bX,Y⟩;rw[Wc.out]at bX;have SH:fq n.drew g D (.slice A b.size cap) E y5 laid I J:=af.drew j6;have W:fq x g D (.slice A b.size cap) E y5 laid I J:=af.Tq SH Y (OZ.1);have SO:af x w.heap.size 35 #[.pointer (some ⟨g,0,none⟩)]:=af.Tq SM.drew Y (fun e=>by have:=Kc _ e;omega);have SQ:af x (cb+1+1) 3 #[.int .i64 k]:=af.Tq SL.drew Y (fun e=>by have:=Kc _ e;omega);obtain⟨_,aI,_,_,_,_,_⟩:=fq.parts W;obtain⟨bA,_,_,_,_,_⟩:=fq.C6 W;have bT:g<x.heap.size:=W.lt;obtain⟨S,n6,N,rfl,bL,bG,bF⟩:=bX.cH;have dB:=za W;have SK:=za Y;have Bq:=za bX;clear W SH Y bX RU;go_wp2_with fail
  refine hK _ _ ⟨SO.cell 0,aI,SQ.cell 0⟩ (fun hHeld=> ?_);clear hK aU;try simp only[Act.put,zb,zd,ze]
  refine GT.jr [7,8] hHeld (fun _ _ _ _ _ h=>h) (by kernel_rfl) ?_;repeat(refine .c rfl rfl (fun V o=>by go_simp<;>with_reducible rfl) ?_;simp only[Act.put,zb,zd,ze])
  refine .nil ?_;refine GT.oL 9 ?_ rfl (by kernel_rfl);go_simp;clear hHeld SO SQ;go_wp2;go_ret;have ay:ae [] n n.drew:=ae.ah (zl _ _).drew (zg _);have G:ae (Value.slice A b.size cap).ownBlock.toList n x:=(ay.mono (by simp)).trans SK.only;have aM:ae (p::g::(Value.slice A b.size cap).ownBlock.toList) w x:=Mc.trans' G (fun i hi=> .inl (by simp at hi⊢;exact .inr (.inr hi)));have SJ:ae [g] x (x.setCell ⟨g,1,none⟩ (.slice S n6 N)):=(ae.refl [g] x).setCell (.inl (by simp)) _;have Oi:=HZ.out;refine⟨.slice A5 n5 eF,.slice S n6 N,E,rfl, ?_, ?_, ?_, ?_, ?_, ?_,az⟩
  ·rw[B.out];have C:∀j,j∈(Value.slice A b.size cap).ownBlock.toList->j<w.heap.size:=fun j d=>Kc j (cA.1 d)
   have jS:=an.ge;have aF:∀j,j<n.heap.size->(z<=j/\j≠u)->w.heap.size<=j/\(Value.slice S n6 N).ownBlock≠some j:=fun j d hz=>⟨by omega,fun e=>by
    rcases SK.own with e2|⟨j',e2,U⟩
    ·have:=Kc j (by rw[<-e2];exact e);omega
    rw[e2]at e;injection e with e;have U:n.heap.size<=j':=U;omega⟩
   exact((an.gQ aF (show w.heap.size<=u+1 by omega)).only G (fun j d hS=>by have:=C j d;have:=hS.1;omega) (fun j d e=>by have:=C j d;have:=jS j e;omega)).only SJ (fun j d hS=>by simp at d;have:=hS.1;omega) (fun j d e=>by have:=jS j e;simp at d;omega)
  ·rw[B.out];exact fq.IX dB _
  ·rw[B.out];refine Bq.ag (fun j Z M=>zR _ _ _ _ ?_);rintro rfl;exact(Bq.dI dB (by decide)) M
  ·rw[B.out];have Z:=aE.only G (by intro j e;injection e with e;subst e;exact fun h=>OZ.2 (cA.1 h));have M:=Z.only SJ (by intro j e;injection e with e;subst e;simpa using Sa);simpa only[yi,Nat.sub_sub]using M
  ·exact aM.setCell (.inl (by simp)) _
  intro j d;rcases SK.own with e|⟨j',e,U⟩
  ·exact .inl (by rw[<-e];exact d)
  rw[e]at d;injection d with d;exact .inr (by have:=Kd.out;have U:n.heap.size<=j':=U;omega)
theorem A7 (o hi g:Nat)(i:Value)(c:aP)(l:List bz)(x:gE)(m:Nat)(s:ByteArray)(w:World)(h:dZ w o hi g i c l x m)(u:x.fault≠0):
 Calls prog 16 #[.pointer (some ⟨g,0,none⟩),.string s] w fun e w'=>e= .returned (.tuple #[.slice none 0 0,.int .i64 x.fault])/\dZ w' o hi g i c l {x with laid:=0} m/\ae [g] w w':=by
 obtain⟨D,G,E,rows,B,y,q,b,A⟩:=h.reg;have d:=h.buf;have O:=b.lt;have R:(x.fault !=0)=true:=yO.2 u;have N:=za b;have z:=d.dI b (by decide);have n:ae [g] w (w.setCell ⟨g,4,none⟩ (.int .i64 0)):=(ae.refl [g] w).setCell (p:=⟨g,4,none⟩) (.inl (by simp)) _;have F:=h.GK;have C:Hid (∀k,dZ ((w.setCell ⟨g,4,none⟩ (.int .i64 0)).drewN k) o hi g i c l {x with laid:=0} m):=za (fun k=>⟨h.lohi,h.GK,⟨D,G,E,rows,B,(y.only n (by simp;omega)).below (Below.bJ (zl _ _) k),q,(fq.C7 b 0).drewN k,A⟩,(d.qq n (by intro j e r;simp at r;subst r;exact z e)).below (Below.bJ (zl _ _) k)⟩);obtain⟨J,L,K,I,S,M,H⟩:=b.parts;obtain⟨_,_,_,f9,_,_⟩:=b.C6;clear b d A z u y q n F h;go_enter func16,ntmps16
 go_wp2_with fail
 go_quiet (fail)
 go_wp2;refine zk (v:= .tuple #[.slice none 0 0,.int .i64 x.fault]) (by simp[results,results16,go_sem]) rfl ?_;exact⟨rfl,C _,ae.drewN ((ae.refl _ _).setCell (.inl (by simp)) _) _⟩
theorem Dx (C hi g:Nat)(bv:Value)(c:aP)(l:List bz)(x:gE)(z:Nat)(s:ByteArray)(w:World)(hr:c.right=true)(hc:c.ok)(h:dZ w C hi g bv c l x z)(hL:Laid w)(iR:bj w)(DN:1<C)(JS:0<C)(h0:x.fault=0)(hs:x.buf.size+s.size<=100000)(ht:x.told<=1000000000):
 Calls prog 16 #[.pointer (some ⟨g,0,none⟩),.string s] w fun e w'=>∃rv F,e= .returned (.tuple #[rv,.int .i64 (mN (aX c l) x s).2.2])/\cW w' (fun j=>w.heap.size<=j/\F.ownBlock≠some j) w.heap.size (mN (aX c l) x s).2.1 rv/\dZ w' C hi g F c l (mN (aX c l) x s).1 z/\ae (qs g bv) w w'/\(∀k,F.ownBlock=some k->bv.ownBlock=some k\/w.heap.size<=k):=by
 obtain⟨u,gn,gi,rows,H,hM,rh,D,uB⟩:=h.reg;have E:=h.buf;have jS:=h.GK;have aK:=h.lohi;clear h;have Sm:hi<=w.heap.size:=by have:=D.lt;omega
 obtain⟨b,fl,ld,q⟩:=x;simp only at h0 D E uB hs ht;subst h0;rw[gj rfl];simp only;have ab:=II c l (b++s);rw[bW]at ab;have Aj:=Xa c l (b++s);rw[bW]at Aj;obtain⟨X,hX⟩:∃X,split (aX c l) (b++s)=X:=⟨_,rfl⟩
 rw[hX]at ab Aj⊢;obtain⟨ml,tl,m,er⟩:=X;simp only at ab Aj⊢;have HX:=za hX;clear hX;have Aq:=D.lt;have cF:=E.dI D (by decide);have hf:=E.form;rw[aa]at hf;obtain⟨A,cap,rfl,pB,jR⟩:=hf;obtain⟨p,M⟩:∃p,w.setCell ⟨g,4,none⟩ (.int .i64 0)=p:=⟨_,rfl⟩
 have uD:ae [g] w p:=by rw[<-M];exact(ae.refl _ _).setCell (.inl (by simp)) _
 have cc:p.heap.size=w.heap.size:=by rw[<-M];simp[World.setCell]
 have cr:Hid (fq p g u (.slice A b.size cap) H 0 0 q z):=za (by rw[<-M];exact fq.C7 D 0);have au:Hid (bP p hi 5 (.slice A b.size cap) b.data.toList):=za (E.qq uD (by intro j e d;simp at d;subst d;exact cF e));have az:=za uD;have VX:=za (uB rfl);have oA:=za E;have SF:Hid (∀k,(Value.slice A b.size cap).ownBlock=some k->k<w.heap.size):=za (fun k e=>(E.ge k e).2.1);have OZ:=za cF;obtain⟨p0,p6,p7,p8,p9,aD,aH⟩:=D.parts;obtain⟨_,_,_,f9,_,_⟩:=D.C6;obtain⟨i0,aI,dO,aT,cE⟩:=yG uW;have aF:=za (IZ 9223372036854775807 p);have iV:=za M;have Hg:=za hM;have Cu:=za rh;have an:=za (And.intro hL iR);have SS:C<=g:=by omega
 clear D E uB cF uD M hM rh hL iR;go_enter func16,ntmps16
 go_wp2_with fail
 rw[iV.out];clear p0 p6 p7 p8 p9 aD aH f9;refine aF.mono ?_;rintro e I ⟨rfl,uz⟩;have kC:Below p.heap.size p I:=by rw[uz];exact(zl _ _).alloc (zg _) _
 have Cw:tH I p.heap.size 9223372036854775807 0 0 0:=by rw[uz];exact af.new _ _ _
 obtain⟨n,Sa⟩:∃n,p.heap.size=n:=⟨_,rfl⟩
 have HT:=za (qD n 9223372036854775807 0 0 0 s.size I (by rw[<-Sa];exact Cw) (by omega) (by omega) (by omega));have dm:Hid (fq I g u (.slice A b.size cap) H 0 0 q z):=za (cr.ag kC cr.lt);have aG:=za (au.below kC);have VZ:Hid (ae [g] w I):=za (az.trans' (ae.ah kC (zg _)) (by simp));have ah:n≠g:=by omega
 have aS:w.heap.size<=n:=by omega
 have tN:n<I.heap.size:=by have:=Cw.lt;omega
 rw[Sa];clear uz Cw kC cr au az aF Sa cc iV;go_wp2_with fail
 refine HT.mono ?_;rintro e w3 ⟨rfl,ag,Z⟩;simp only[zG]at ag;have j6:Hid (fq w3 g u (.slice A b.size cap) H 0 0 q z):=za (dm.only Z (by simpa using xR ah));have OI:=za (aG.qq Z (by intro j e d;simp at d;subst d;have:=SF j e;omega));have Mc:Hid (ae [g] w w3):=za (VZ.trans' Z (by simp;omega));have aq:=za ag;obtain⟨_,p6,_,_,_,_,_⟩:=j6.parts;have bQ:hi<=w3.heap.size:=by have:=Mc.size;omega
 have LO:w.heap.size<=w3.heap.size:=Mc.size;have Rv:g<w3.heap.size:=j6.lt;clear Z ag dm aG VZ HT;go_wp2_with (
  at_builtin
  refine cz (by rfl) (.tmp 31) (.tmp 32) 31 9 (by rfl) hi 5 i0 zr aI dO aT cE (by rfl) OI _ s.data.toList (by rfl) (ji zM w3 s) bQ (by rw[aa,aa];omega) ?_;intro y r B G bX DV;have J:Hid (fq G g u (.slice A b.size cap) H 0 0 q z):=za (af.Tq j6 DV OZ);have al:tH G n 9223372036854775807 s.size s.size (max 0 s.size):=af.Tq aq DV (fun e=>by have:=SF _ e;omega);have Te:=za al;have SK:=za DV;have Bq:Hid (bP G hi 5 (.slice y r B) (b++s).data.toList):=za (by rw[aU];exact bX);obtain⟨_,aQ,_,_,_,_,_⟩:=J.parts;obtain⟨aR,_,_,_,_,_⟩:=J.C6;have a8:g<G.heap.size:=J.lt;clear bX DV al)
 obtain⟨o,O⟩:∃o,G.setCell ⟨g,1,none⟩ (.slice y r B)=o:=⟨_,rfl⟩
 rw[O];have Ep:ae [g] G o:=by rw[<-O];exact(ae.refl _ _).setCell (.inl (by simp)) _
 have fL:Hid (fq o g u (.slice y r B) H 0 0 q z):=za (by rw[<-O];exact fq.IX J _);have K:Hid ((Value.slice y r B).ownBlock≠some g/\(Value.slice y r B).ownBlock≠some n/\∀k,(Value.slice y r B).ownBlock=some k->(Value.slice A b.size cap).ownBlock=some k\/w.heap.size<=k):=za ⟨Bq.dI J (by decide),Bq.dI Te (by decide),fun k e=>by
  rcases SK.own with h|⟨j,h,d⟩
  ·exact .inl (by rw[<-h];exact e)
  rw[h]at e;injection e with e;exact .inr (by omega)⟩
 have ao:Hid (bP o hi 5 (.slice y r B) (b++s).data.toList):=za (Bq.qq Ep (by intro j e d;simp at d;subst d;exact K.1 e));have Mf:tH o n 9223372036854775807 s.size s.size (max 0 s.size):=af.only Te Ep (by simpa using ah);have U:Hid (ae (qs g (.slice A b.size cap)) w o):=za (((Mc.mono (by simp[qs])).trans' SK.only (fun i hi=> .inl (iK.2 (.inr (cA.1 hi))))).trans' Ep (by simp[qs]));have El:G.heap.size=o.heap.size:=by rw[<-O];simp[World.setCell]
 have aY:w.heap.size<=o.heap.size:=U.size;have ak:hi<=n:=by omega
 have Vh:Hid (∀k,(Value.slice A b.size cap).ownBlock=some k->hi<=k):=za (fun k e=>by have:=oA.ge k e;omega);have ai:Hid (mi o C hi u gn gi c rows):=za (Hg.only U (fun k L=> .inr ((iK.1 L).elim (fun h=>by omega) (fun h=>Vh k h))));have Ou:Hid (∀V,ae (n::g::(Value.slice y r B).ownBlock.toList) o V->Laid V/\bj V):=za (fun V hV=>by
  have mK:ae (n::g::(Value.slice A b.size cap).ownBlock.toList) w V:=(U.mono (by intro i hi;rcases iK.1 hi with h|h<;>simp[h])).trans' hV (by
   intro i hi;simp only[xf,cA]at hi⊢;rcases hi with rfl|rfl|e
   ·exact .inl (.inl rfl)
   ·exact .inl (.inr (.inl rfl))
   rcases K.2.2 i e with h|h
   ·exact .inl (.inr (.inr h))
   exact .inr h)
  have hn:∀k,k<C->k∉(n::g::(Value.slice A b.size cap).ownBlock.toList):=fun k L hm=>by
   simp only[xf,cA]at hm;rcases hm with rfl|rfl|e
   ·omega
   ·omega
   have:=Vh k e;omega
  exact⟨an.1.only mK (hn _ DN),an.2.only mK (hn _ JS)⟩)
 have Y:=za (UC c l C hi u gn gi rows g n (.slice y r B) (b++s) H 0 q z s.size (9223372036854775807-s.size) o hr hc (by rw[bW];omega) ai Cu fL ao jS ⟨_,_,_,Mf,by omega,by omega,by omega⟩ ah ak K.2.1 (by omega) (VX.more s) Ou);rw[HX.out]at Y;simp only at Y;clear O Ep J Bq fL ao Mf Te Mc p6 aQ aR aq j6 OI SK;refine Y.mono ?_;rintro e w6 ⟨rv,F,aC,rfl,ad,R,aE,aL,aw,WH,ar⟩;obtain⟨A6,N,eS,rfl,aB,aZ,a6⟩:=cW.cH ad;obtain⟨a7,u7,q7,aA,_⟩:=aL;have UK:=za (T0 n a7 u7 (s.size+m) q7 w6 aA);obtain⟨_,_,_,_,p9,aD,_⟩:=fq.parts R;obtain⟨_,_,_,f9,f10,_⟩:=fq.C6 R;have aW:=R.lt;have a1:N<=200000:=by rw[aB.out];omega
 have ax:=za ad;have rk:=za R;have ay:=za aE;have av:=za aw;have aM:=za WH;have aJ:=za ar;clear ad R aE aw WH ar aA Y;go_wp2_with fail
 refine UK.mono ?_;rintro e w7 ⟨rfl,rfl⟩;go_wp2_with fail
 go_quiet (fail)
 go_wp2;obtain⟨W,Aw⟩:∃W,(w6.setCell ⟨g,4,none⟩ (.int .i64 ((s.size:Int)+m))).setCell ⟨g,5,none⟩ (.int .i64 ((q:Int)+N))=W:=⟨_,rfl⟩
 have S:ae [g] w6 W:=by rw[<-Aw];exact((ae.refl [g] w6).setCell (.inl (by simp)) _).setCell (.inl (by simp)) _
 have aN:fq W g u F aC er (s.size+m) (q+ml.length) z:=by
  have e1:((s.size:Int)+m)=((s.size+m:Nat):Int):=by omega
  have e2:((q:Int)+N)=((q+ml.length:Nat):Int):=by rw[aB.out];omega
  rw[<-Aw,e1,e2];exact fq.TU (fq.C7 rk _) _
 have aV:=ay.dI rk (by decide);rw[Aw];clear Aw;refine zk (v:= .tuple #[.slice A6 N eS,.int .i64 er]) (by simp[results,results16,go_sem]) rfl ?_;refine⟨.slice A6 N eS,F,rfl, ?_,⟨aK,jS,⟨u,gn,gi,rows,aC, ?_,Cu,aN.drewN nq,aJ⟩, ?_⟩, ?_, ?_⟩
 ·have h1:=(ax.only S (fun j d hS=>by simp at d;have:=hS.1;omega) (fun j d e=>by have:=ax.ge j e;simp at d;omega)).gQ (S1:=fun j=>w.heap.size<=j/\F.ownBlock≠some j) (lo':=w.heap.size) (fun j _ hS=>⟨by have:=hS.1;omega,hS.2⟩) (by omega);exact h1.below (Below.bJ (zl _ _) nq)
 ·refine((ai.only av ?_).only S (by simp;omega)).below (Below.bJ (zl _ _) nq);intro k L;simp only[xf,cA]at L;rcases L with rfl|rfl|e
  ·exact .inr ak
  ·exact .inr jS
  rcases K.2.2 k e with h|h
  ·exact .inr (Vh k h)
  exact .inr (by omega)
 ·exact(ay.qq S (by intro j e d;simp at d;subst d;exact aV e)).below (Below.bJ (zl _ _) nq)
 ·refine ae.drewN ((U.trans' av ?_).trans' S (by simp[qs])) nq;intro i hi;simp only[xf,cA]at hi;rcases hi with rfl|rfl|e
  ·exact .inr aS
  ·exact .inl (by simp[qs])
  rcases K.2.2 i e with h|h
  ·exact .inl (iK.2 (.inr h))
  exact .inr h
 intro k e;rcases aM k e with h|h
 ·exact K.2.2 k h
 exact .inr (by omega)
theorem Gt (b hi g:Nat)(d:Value)(c:aP)(l:List bz)(x:gE)(m:Nat)(s:ByteArray)(w:World)(q:c.right=true)(B:c.ok)(h:dZ w b hi g d c l x m)(y:Laid w)(r:bj w)(z:1<b)(p:0<b)(D:x.buf.size+s.size<=100000)(A:x.told<=1000000000):
 Calls prog 16 #[.pointer (some ⟨g,0,none⟩),.string s] w fun e w'=>∃rv n,e= .returned (.tuple #[rv,.int .i64 (mN (aX c l) x s).2.2])/\cW w' (fun j=>w.heap.size<=j/\n.ownBlock≠some j) w.heap.size (mN (aX c l) x s).2.1 rv/\dZ w' b hi g n c l (mN (aX c l) x s).1 m/\ae (qs g d) w w'/\(∀k,n.ownBlock=some k->d.ownBlock=some k\/w.heap.size<=k):=by
 by_cases i:x.fault=0
 ·exact Dx b hi g d c l x m s w q B h y r z p i D A
 refine(A7 b hi g d c l x m s w h i).mono fun e w' ⟨o,u,E⟩=>⟨.slice none 0 0,d, ?_, ?_, ?_,E.mono (by simp[qs]),fun k C=> .inl C⟩
 ·rw[eX i];exact o
 ·rw[eX i];exact cW.nil _ _ _
 rw[eX i];exact u
theorem Dy (i hi g:Nat)(j:Value)(c:aP)(l:List bz)(x:gE)(k:Nat)(w:World)(h:dZ w i hi g j c l x k):
 Calls prog 24 #[.pointer (some ⟨g,0,none⟩)] w fun e w'=>e= .returned (.int .i64 (x.buf.size:Nat))/\w=w':=by
 obtain⟨_,_,_,_,_,_,_,b,_⟩:=h.reg;have d:=h.buf.form;rw[aa]at d;obtain⟨A,cap,rfl,_,_⟩:=d;obtain⟨_,m,r,p,o,q,n⟩:=b.parts;clear b h;go_enter func24,ntmps24
 go_wp2;go_ret;exact⟨rfl,rfl⟩
def acG (w:World)(c:aP)(l:List bz)(e:Ending)(w':World):Prop:=
 Below w.heap.size w w'/\((nh c l=0/\∃lo hi g,w.heap.size<=lo/\e= .returned (.tuple #[.pointer (some ⟨g,0,none⟩),.int .i64 0])/\dZ w' lo hi g (.slice none 0 0) c l gE.new 0)\/(nh c l≠0/\e= .returned (.tuple #[.pointer none,.int .i64 (nh c l)])))
theorem Lz (c:aP)(l:List bz)(v:Value)(B:Nat)(w:World)(p:pe w B v l)(O:B<=w.heap.size)(k:Laid w)(A:∀e∈l,nz e):
 Calls prog 28 #[c.val,v] w (acG w c l):=by
 obtain⟨Av,n,cap,rfl,W,X,Z⟩:=p.cH;obtain⟨b,h⟩:∃b,w.alloc (.cells #[.int .i64 c.fm,.int .u32 c.mg,.int .i64 c.fr,.int .i64 c.un,.int .i64 c.de,.int .i64 c.it] 24)=b:=⟨_,rfl⟩
 have i:Below w.heap.size w b:=by rw[<-h];exact(zl _ w).alloc (zg _) _
 have z:b.heap.size=w.heap.size+1:=by rw[<-h];simp
 have u:af b w.heap.size 24 #[.int .i64 c.fm,.int .u32 c.mg,.int .i64 c.fr,.int .i64 c.un,.int .i64 c.de,.int .i64 c.it]:=by rw[<-h];exact af.new w _ _
 have y:=za (Uo c l _ B b (p.below (i.mono O)) (by omega) (k.below i k.pos) A);obtain⟨U,R,I,K,E,G⟩:=eV u;have r:=za i;have D:=za z;have H:=za h;unfold aP.val at*;clear p k A i z u h;go_enter func28,ntmps28
 go_wp2_with fail
 rw[H.out];refine y.mono ?_;rintro e j ⟨m,N⟩;have o:=za (r.trans (m.mono (by have:=D.out;omega)));have L:=m.size;clear m y U R I K E G;rcases N with⟨d,F,S,J,rows,rfl,s,x⟩|⟨d,rfl⟩
 ·have C:=za s;have M:=za x;have q:=za d;clear s x d;go_wp2;refine zk (v:= .tuple #[.pointer (some ⟨j.heap.size,0,none⟩),.int .i64 0]) (by simp[results,results28,go_sem]) rfl ?_;refine⟨o.alloc o.size _,.inl ⟨q,b.heap.size,j.heap.size,j.heap.size,r.size,rfl,L,zg _,⟨F,S,J,rows,0,C.below ((zl _ j).alloc (zg _) _),M,af.new _ _ _,fun _=>iJ.zero _ _⟩,bP.nil _ _ _⟩⟩
 have Y:(nh c l !=0)=true:=yO.2 d;have q:=za d;clear d;go_wp2;refine zk (v:= .tuple #[.pointer none,.int .i64 (nh c l)]) (by simp[results,results28,go_sem]) rfl ?_;exact⟨o,.inr ⟨q,rfl⟩⟩
theorem Gu (W hi g:Nat)(M:Value)(c:aP)(l:List bz)(x:gE)(m:Nat)(nm:ByteArray)(it:It)(B:Nat)(w:World)(c0 c1 c2:Value)(hc:c.ok)(h:dZ w W hi g M c l x m)(hI:bT w B it c0 c1 c2)(hB:B<=w.heap.size)(hL:Laid w)(iR:bj w)
 (hl:c.fm≠1->it.fO.length<=1000000) (ak:(bc c l nm it).1.ok) (V6:m<=1000000000):
 Calls prog 11 #[.pointer (some ⟨g,0,none⟩),.agg #[.string nm,c0,c1,c2]] w fun e w'=>e= .returned (.tuple #[.string (bF c l nm it).1,.int .i64 (bF c l nm it).2])/\dZ w' W hi g M c l x (if(bF c l nm it).2=0 then m+1 else m)/\ae [g] w w':=by
 obtain⟨r,gn,gi,rows,nd,Y,hr,hS,uB⟩:=h.reg;have Aq:=hS.lt;obtain⟨X,U,rfl,rfl,rfl,_⟩:=hI.open_;obtain⟨b,Z⟩:∃b,w.alloc (.cells #[.string nm,.string it.text,.bool it.list,.slice X it.sub.length U] 30)=b:=⟨_,rfl⟩
 have O:Below w.heap.size w b:=by rw[<-Z];exact(zl _ w).alloc (zg _) _
 have dO:b.heap.size=w.heap.size+1:=by rw[<-Z];simp
 have Ct:af b w.heap.size 30 #[.string nm,.string it.text,.bool it.list,.slice X it.sub.length U]:=by rw[<-Z];exact af.new w _ _
 have ag:=Y.below (O.mono Y.his);have ah:c.fm=1\/(bc c l nm it).1.body.size<=1000000:=by
  by_cases R:c.fm=1
  ·exact .inl R
  by_cases A:(bc c l nm it).2=0
  ·obtain⟨e,y,I,h3⟩:=lj A;have h4:=(rJ R I (by have:=hl R;omega)).2;rw[h3,zh R];show _\/(bE c e.shape it).1.size<=_
   rw[h4,<-aa];have:=hl R;simp;exact .inr (by omega)
  rw[B0 A];exact .inr (by simp[mQ,ByteArray.size])
 have HE:Hid (∀V,Below b.heap.size b V->Calls prog 33 #[.pointer (some ⟨r,0,none⟩),.agg #[.string nm,.string it.text,.bool it.list,.slice X it.sub.length U]] V fun e w'=>e= .returned (.tuple #[(bc c l nm it).1.val,.int .i64 (bc c l nm it).2])/\Below V.heap.size V w'):=za (fun V d=>by
  have aG:=O.trans (d.mono (by omega));have:=Ul W hi r gn gi c rows nm it B V _ _ _ (Y.below (aG.mono Y.his)) (hI.below (aG.mono hB)) (by have:=d.size;omega) (hL.below aG hL.pos) (iR.below aG iR.pos) (fun h=>by have:=hl h;omega);rwa [hr]at this)
 have UX:=za (fun V (d:Below b.heap.size b V)=>Ly W hi r gn gi c rows V (ag.below (d.mono ag.his)));have HP:=za (fun V=>UA c (bc c l nm it).1 hc ak ah V);have G:Hid (bF c l nm it=if(bc c l nm it).2≠0 then(ByteArray.empty,(bc c l nm it).2)else eU c (bc c l nm it).1):=za rfl;have aj:Hid ((eU c (bc c l nm it).1).2≠0->(eU c (bc c l nm it).1).1=ByteArray.empty):=za Fs;generalize bF c l nm it=SP at*;obtain⟨N,Eg⟩:∃N,(if SP.2=0 then m+1 else m)=N:=⟨_,rfl⟩
 rw[Eg];have H:=za Eg;clear Eg;generalize eU c (bc c l nm it).1=PP at*;generalize bc c l nm it=av at*;obtain⟨F,E⟩:=av;obtain⟨L,C⟩:=PP;obtain⟨s,fn,z⟩:=F;simp only at HE HP G aj;have O0:=za (hS.ag O Aq);have RW:=za h;have jU:=za O;have Bk:=za dO;have cG:=za Z;have O4:=za Ct;have p:Hid (∀V,Below b.heap.size b V->V.cell? ⟨g,0,none⟩=some (.pointer (some ⟨r,0,none⟩))/\V.cell? ⟨w.heap.size,0,none⟩=some (.string nm)/\V.cell? ⟨w.heap.size,1,none⟩=some (.string it.text)/\V.cell? ⟨w.heap.size,2,none⟩=some (.bool it.list)/\V.cell? ⟨w.heap.size,3,none⟩=some (.slice X it.sub.length U)):=za (fun V d=>by
  have y:fq V g r M nd x.fault x.laid x.told m:=O0.ag d O0.lt;have I:=O4.ag d O4.lt;exact⟨y.parts.1,I.cell 0,I.cell 1,I.cell 2,I.cell 3⟩)
 unfold aP.val Fr.val at*;clear h Y hr uB hI hL iR hl ak O dO Ct ag ah Z hS;go_enter func11,ntmps11
 go_upto_region 3 with fail
 rw[cG.out];go_cut [6,7] (fun v1 v2 k=>∃bf:Nat,v1= .pointer (some ⟨bf,0,none⟩)/\v2= .int .i64 E/\Hid (Below b.heap.size b k)/\Hid (af k bf 84 #[.int .u64 s,.string fn,.string z]))
 case rest=>
  obtain⟨bf,rfl,rfl,o,J⟩:=hcut;obtain⟨k,ar⟩:∃k,k=wc:=⟨_,rfl⟩
  subst ar;have El:=o.size;have D3:=za (jU.trans (o.mono (by have:=Bk.out;omega)));have ao:w.heap.size<=k.heap.size:=D3.size;rcases eP E with⟨A,z1,z2⟩|⟨A,z1,z2⟩
  ·subst A;rw[zh (by simp)]at G;have p0:=(p k o).1;go_wp2_with fail
   refine ja (by kernel_rfl) (by kernel_rfl) ?_;refine ai (.pointer (some ⟨g,0,none⟩)) (by rfl) (fun _ _=>by first|rfl|go_simp) ?_;simp only[Act.put,zb,zd,ze];refine ai (.pointer (some ⟨g,0,none⟩)) (by rfl) (fun _ _=>by first|rfl|go_simp) ?_;simp only[Act.put,zb,zd,ze];refine ai (.pointer (some ⟨g,0,none⟩)) (by rfl) (fun _ _=>by first|rfl|go_simp) ?_;simp only[Act.put,zb,zd,ze];refine ai (.pointer (some ⟨r,0,none⟩)) (by rfl) (fun V d=>by have p0:=(p V (o.trans (d.mono El))).1;go_simp) ?_;simp only[Act.put,zb,zd,ze];refine dN 35 _ (.agg #[.int .i64 c.fm,.int .u32 c.mg,.int .i64 c.fr,.int .i64 c.un,.int .i64 c.de,.int .i64 c.it]) (by rfl) (fun _=>by first|rfl|go_simp) (fun V d=>UX V (o.trans (d.mono El))) ?_;simp only[Act.put,zb,zd,ze];refine ai (.agg #[.int .u64 s,.string fn,.string z]) (by rfl) (fun V d=>by obtain⟨f0,f1,f2⟩:=kr (J.ag d J.lt);go_simp) ?_;simp only[Act.put,zb,zd,ze];refine dN 34 _ (.tuple #[.string L,.int .i64 C]) (by rfl) (fun _=>by first|rfl|go_simp) (fun V d=>HP V) ?_;simp only[Act.put,zb,zd,ze];refine ai (.tuple #[.string L,.int .i64 C]) (by rfl) (fun _ _=>by first|rfl|go_simp) ?_;simp only[Act.put,zb,zd,ze];refine ai (.string L) (by rfl) (fun _ _=>by first|rfl|go_simp) ?_;simp only[Act.put,zb,zd,ze];refine ai (.int .i64 C) (by rfl) (fun _ _=>by first|rfl|go_simp) ?_;simp only[Act.put,zb,zd,ze];refine ai (.string L) (by rfl) (fun _ _=>by first|rfl|go_simp) ?_;simp only[Act.put,zb,zd,ze]
   refine ai (.int .i64 C) (by rfl) (fun _ _=>by first|rfl|go_simp) ?_;simp only[Act.put,zb,zd,ze];refine xE ?_;intro V d;have gG:Hid (Below w.heap.size w V):=za (D3.trans (d.mono ao));have u:Hid (dZ V W hi g M c l x m):=za (RW.below gG);have ab:fq V g r M nd x.fault x.laid x.told m:=O0.ag (o.trans (d.mono El)) O0.lt;have ax:g<V.heap.size:=ab.lt;obtain⟨_,_,_,_,_,_,p6⟩:=ab.parts;obtain⟨_,_,_,_,_,f6⟩:=ab.C6;clear d ab p0;rcases eP C with⟨y,u1,u2⟩|⟨y,u1,u2⟩
   ·subst y;go_wp2;refine zk (v:= .tuple #[.string L,.int .i64 0]) (by simp[results,results11,go_sem]) rfl ?_;rw[G.out]at H⊢;obtain rfl:m+1=N:=by rw[<-H.out,zi rfl]
    have ho:ae [g] V (V.setCell ⟨g,6,none⟩ (.int .i64 ((m:Int)+1))):=(ae.refl _ _).setCell (by simp) _;refine⟨rfl, ?_,((ae.ah gG (zg _)).mono (by simp)).trans ho⟩;obtain⟨al,aw,aq,an,au,k1,k2,k3,k4⟩:=u.reg;have e1:((m:Int)+1)=((m+1:Nat):Int):=by omega
    have GK:=u.GK;have cF:=u.buf.dI k3 (by decide);exact⟨u.lohi,u.GK,⟨al,aw,aq,an,au,k1.only ho (by simp;omega),k2,by rw[e1];exact fq.TV k3 _,k4⟩,u.buf.qq ho (by intro j e hj;simp at hj;subst hj;exact cF e)⟩
   have hp:=aj y;subst hp;go_wp2;refine zk (v:= .tuple #[.string ⟨#[]⟩,.int .i64 C]) (by simp[results,results11,go_sem]) rfl ?_;rw[G.out]at H⊢;obtain rfl:m=N:=by rw[<-H.out,zh y]
   exact⟨rfl,u,(ae.ah gG (zg _)).mono (by simp)⟩
  rw[zi A]at G;go_wp2;refine zk (v:= .tuple #[.string ⟨#[]⟩,.int .i64 E]) (by simp[results,results11,go_sem]) rfl ?_;rw[G.out]at H⊢;obtain rfl:m=N:=by rw[<-H.out,zh A]
  exact⟨rfl,RW.below D3,(ae.ah D3 (zg _)).mono (by simp)⟩
 go_wp2_with fail
 have hHeld:=p b.drew (zl _ _).drew;refine aB 11 (fun V=>V.cell? ⟨g,0,none⟩=some (.pointer (some ⟨r,0,none⟩))/\V.cell? ⟨w.heap.size,0,none⟩=some (.string nm)/\V.cell? ⟨w.heap.size,1,none⟩=some (.string it.text)/\V.cell? ⟨w.heap.size,2,none⟩=some (.bool it.list)/\V.cell? ⟨w.heap.size,3,none⟩=some (.slice X it.sub.length U)) (by kernel_rfl) (by kernel_rfl) ?_;refine GT.jr [0,1,2,3,4] hHeld (fun _ _ _ _ _ h=>h) (by kernel_rfl) ?_;repeat(refine .c rfl rfl (fun V d=>by go_simp<;>with_reducible rfl) ?_;simp only[Act.put,zb,zd,ze])
 refine .nil ?_;refine GT.Ua 5 9 rfl rfl (by kernel_rfl) (fun K i=> ?_) (fun K i=> ?_)
 ·go_simp;refine(HE b.drew (zl _ _).drew).mono ?_;rintro en w3 ⟨rfl,D⟩;have n:Below b.heap.size b w3:=(show Below b.heap.size b b.drew from(zl _ _).drew).trans D;go_wp2_with fail
  refine i _ _ (p w3 n) (fun hHeld=> ?_);clear i K;try simp only[Act.put,zb,zd,ze]
  refine GT.jr [6,7,8] hHeld (fun _ _ _ _ _ h=>h) (by kernel_rfl) ?_;repeat(refine .c rfl rfl (fun V d=>by go_simp<;>with_reducible rfl) ?_;simp only[Act.put,zb,zd,ze])
  refine .nil ?_;refine GT.fF 9 (fun K i=> ?_) rfl (by kernel_rfl);go_simp;refine i _ _ (p _ (n.alloc n.size _)) (fun hHeld=> ?_);clear i K;try simp only[Act.put,zb,zd,ze]
  refine GT.fF 10 (fun K i=> ?_) rfl (by kernel_rfl);go_simp;refine i _ _ (p _ (n.alloc n.size _)) (fun hHeld=> ?_);clear i K;try simp only[Act.put,zb,zd,ze]
  refine GT.oL 11 ?_ rfl (by kernel_rfl);go_simp;obtain⟨k,q⟩:∃k,w3.alloc (.cells #[.int .u64 s,.string fn,.string z] 84)=k:=⟨_,rfl⟩
  have o:Hid (Below b.heap.size b k):=za (by rw[<-q];exact n.alloc n.size _);have J:Hid (af k w3.heap.size 84 #[.int .u64 s,.string fn,.string z]):=za (by rw[<-q];exact af.new _ _ _);rw[q];clear q D n hHeld;go_wp2_with fail
  go_meet;case rel=>exact⟨_,rfl,rfl,o,J⟩
 go_simp;have S:Below b.heap.size b (b.alloc (.cells #[.int .u64 0,.string ⟨#[]⟩,.string ⟨#[]⟩] 84)).drew:=((zl b.heap.size b).alloc (zg _) _).drew;have ad:af (b.alloc (.cells #[.int .u64 0,.string ⟨#[]⟩,.string ⟨#[]⟩] 84)).drew b.heap.size 84 #[.int .u64 0,.string ⟨#[]⟩,.string ⟨#[]⟩]:=(af.new b _ _).drew;refine i _ _ (p _ S) (fun hHeld=> ?_);clear i K;try simp only[Act.put,zb,zd,ze]
 refine GT.fF 5 (fun K i=> ?_) rfl (by kernel_rfl);go_simp;refine(HE _ S).mono ?_;rintro en w3 ⟨rfl,D⟩;have n:Below b.heap.size b w3:=S.trans (D.mono S.size);have St:=ad.ag D ad.lt;go_wp2_with fail
 refine i _ _ (p w3 n) (fun hHeld=> ?_);clear i K;try simp only[Act.put,zb,zd,ze]
 refine GT.jr [6,7,8] hHeld (fun _ _ _ _ _ h=>h) (by kernel_rfl) ?_;repeat(refine .c rfl rfl (fun V d=>by go_simp<;>with_reducible rfl) ?_;simp only[Act.put,zb,zd,ze])
 refine .nil ?_;obtain⟨t0,t1,t2,L9,Ov,Ta⟩:=aZ St;refine GT.fF 10 (fun K i=> ?_) rfl (by kernel_rfl);go_simp;have Em:Below b.heap.size b (((w3.setCell ⟨b.heap.size,0,none⟩ (.int .u64 s)).setCell ⟨b.heap.size,1,none⟩ (.string fn)).setCell ⟨b.heap.size,2,none⟩ (.string z)):=((n.setCell (by simp) _).setCell (by simp) _).setCell (by simp) _;refine i _ _ (p _ Em) (fun hHeld=> ?_);clear i K;try simp only[Act.put,zb,zd,ze]
 refine GT.oL 11 ?_ rfl (by kernel_rfl);go_simp;obtain⟨k,q⟩:∃k,((w3.setCell ⟨b.heap.size,0,none⟩ (.int .u64 s)).setCell ⟨b.heap.size,1,none⟩ (.string fn)).setCell ⟨b.heap.size,2,none⟩ (.string z)=k:=⟨_,rfl⟩
 have o:Hid (Below b.heap.size b k):=za (by rw[<-q];exact Em);have J:Hid (af k b.heap.size 84 #[.int .u64 s,.string fn,.string z]):=za (by rw[<-q];exact ef St _ _ _);rw[q];clear q D n hHeld S ad St Em t0 t1 t2 L9 Ov Ta;go_wp2_with fail
 go_meet;case rel=>exact⟨_,rfl,rfl,o,J⟩
