/- session.cut's closure: the next message of the buffer. -/
import Derived.Test.YtdbmifjankgfpaaGreatDoorKA19
import Derived.Test.YtdbmifjankgfpaaGreatDoorKA34
import Derived.Test.YtdbmifjankgfpaaGreatDoorKA35
set_option linter.all false
set_option maxRecDepth 100000
set_option maxHeartbeats 8000000
open Go.Proofs.Tryz
namespace Go.Proofs.YtdbmifjankgfpaaGreatDoor
open Go.RowKit
structure UB (w:World)(cb mb tb ab sb g gm:Nat)(c:aN)(b:ByteArray)(k:Nat):Prop where
 cf:af w cb 24 #[.int .i64 c.fm,.int .u32 c.mg,.int .i64 c.fr,.int .i64 c.un,.int .i64 c.de,.int .i64 c.it]
 me:af w mb 96 #[.pointer (some ⟨gm,0,none⟩)]
 tx:af w tb 9 #[.string b]
 at_:af w ab 3 #[.int .i64 k]
 se:af w sb 35 #[.pointer (some ⟨g,0,none⟩)]
structure NxN (lo hi cb mb tb ab sb g gm:Nat):Prop where
 m1:gm≠cb/\gm≠mb/\gm≠tb/\gm≠ab/\gm≠sb/\gm≠g
 a1:ab≠cb/\ab≠mb/\ab≠tb/\ab≠sb/\ab≠g
 r1:(gm<lo\/hi<=gm)/\(ab<lo\/hi<=ab)
theorem UB.only {w w':World}{cb j l m i g n:Nat}{c:aN}{b:ByteArray}{k:Nat}{L:List Nat}(h:UB w cb j l m i g n c b k)(e:ae L w w')(d:cb∉L/\j∉L/\l∉L/\m∉L/\i∉L):UB w' cb j l m i g n c b k:=
 ⟨h.cf.only e d.1,h.me.only e d.2.1,h.tx.only e d.2.2.1,h.at_.only e d.2.2.2.1,h.se.only e d.2.2.2.2⟩
def DI (cb mb tb ab sb:Nat):Array Value:= #[.pointer (some ⟨cb,0,none⟩),.pointer (some ⟨mb,0,none⟩),.pointer (some ⟨tb,0,none⟩),.pointer (some ⟨ab,0,none⟩),.pointer (some ⟨sb,0,none⟩)]
theorem Gr {w:World}{g:Nat}{t:TypeId}{k j e z3:Value}(h:af w g t #[k,j,e,z3])(b c d v3:Value):af ((((w.setCell ⟨g,0,none⟩ b).setCell ⟨g,1,none⟩ c).setCell ⟨g,2,none⟩ d).setCell ⟨g,3,none⟩ v3) g t #[b,c,d,v3]:=by
 have l:af _ g t #[b,j,e,z3]:=h.store (i:=0) (u:=b) rfl;have n:af _ g t #[b,c,e,z3]:=l.store (i:=1) (u:=c) rfl;have m:af _ g t #[b,c,d,z3]:=n.store (i:=2) (u:=d) rfl;exact m.store (i:=3) (u:=v3) rfl
def QT (w:World)(ab gm t R k:Nat)(X:Int×Ms×Nat×Nat)(e:Ending)(w':World):Prop:=
 ∃d0 d1 d2 d3,e= .returned (.tuple #[.agg #[d0,d1,d2,d3],.int .i64 X.1])/\pt w' (w.heap.size<= ·) X.2.1 d0 d1 d2 d3/\Met w' (some gm) (t+X.2.2.2) (R-X.2.2.2)/\ae [gm,ab] w w'/\af w' ab 3 #[.int .i64 (if X.1=0 then k+X.2.2.1 else k:Nat)]
theorem QU (c:aN)(l:List bC)(lo hi M gn gi:Nat)(rows:List bZ)(g q cb mb tb x sb:Nat)(b:ByteArray)(k:Nat)(bv:Value)(nd:Nat)(fault:Int)(laid aw aO t R:Nat)(w:World)
 (hr:c.right=true) (hc:c.ok) (hb:b.size<=100000) (I:k<=b.size) (hM:mw w lo hi M gn gi c rows) (rp:aI rows=l) (hS:fp w g M bv nd fault laid aw aO) (hm:Met w (some q) t R) (hR:70000<=R)
 (hB:UB w cb mb tb x sb g q c b k) (hN:NxN lo hi cb mb tb x sb g q) (aF:∀V,ae [q,x] w V->Laid V/\ba V):
 Calls prog 62 (DI cb mb tb x sb) w (QT w x q t R k (aL c l (b.extract k b.size))):=by
 obtain⟨r,RQ⟩:∃r,b.extract k b.size=r:=⟨_,rfl⟩
 have UF:r.size=b.size-k:=by rw[<-RQ,aj _ _ _ (zd _)]
 rw[RQ];have nZ:(k:Int)<=b.size:=by omega
 obtain⟨W,hW⟩:∃W,w.alloc (.cells #[.string ⟨#[]⟩,.string ⟨#[]⟩,.bool false,.slice none 0 0] 30)=W:=⟨_,rfl⟩
 have k7:Below w.heap.size w W:=by rw[<-hW];exact(zl _ w).alloc (zd _) _
 have U1:w.heap.size<W.heap.size:=by rw[<-hW];simp
 have RV:q<w.heap.size:=hm.lt q rfl;have JN:x<w.heap.size:=hB.at_.lt;have aM:af W w.heap.size 30 #[.string ⟨#[]⟩,.string ⟨#[]⟩,.bool false,.slice none 0 0]:=by rw[<-hW];exact af.new _ _ _
 have ax:Met W (some q) t R:=(MS.refl hm|>.below k7).met;obtain⟨n1,n2,n3,n4,n5,n6⟩:=hN.m1;have fo:Hid (∀V,ae [q] w V->UB V cb mb tb x sb g q c b k/\mw V lo hi M gn gi c rows/\fp V g M bv nd fault laid aw aO/\Laid V/\ba V):=za (fun V o=>⟨hB.only o (by simp;omega),hM.only o (by have:=hN.r1;simp;omega),hS.only o (by simp;omega),aF V (o.mono (by simp))⟩);have J8:Hid (∀V,ae [q] W V->ae [q] w V):=za (fun V o=>((ae.ah k7 (zd _)).mono (by simp)).trans o);have HS:Hid (∀V,ae [q] W V->V.cell? ⟨cb,0,none⟩=some (.int .i64 c.fm)/\V.cell? ⟨cb,1,none⟩=some (.int .u32 c.mg)/\V.cell? ⟨cb,2,none⟩=some (.int .i64 c.fr)/\V.cell? ⟨cb,3,none⟩=some (.int .i64 c.un)/\V.cell? ⟨cb,4,none⟩=some (.int .i64 c.de)/\V.cell? ⟨cb,5,none⟩=some (.int .i64 c.it)/\V.cell? ⟨mb,0,none⟩=some (.pointer (some ⟨q,0,none⟩))/\V.cell? ⟨tb,0,none⟩=some (.string b)/\V.cell? ⟨x,0,none⟩=some (.int .i64 k)):=za (fun V o=>by
  obtain⟨hx,_⟩:=fo.out V (J8.out V o);exact⟨hx.cf.cell 0,hx.cf.cell 1,hx.cf.cell 2,hx.cf.cell 3,hx.cf.cell 4,hx.cf.cell 5,hx.me.cell 0,hx.tx.cell 0,hx.at_.cell 0⟩)
 have HN:=za (fun W0 V o=>QS c (some q) t R r hc hR (by omega) W0 V o);have S:Hid (aL c l r=if(aK c r).1≠0 then((aK c r).1,qv,(aK c r).2.2.1,(aK c r).2.2.2)else((eZ c l (aK c r).2.1).1,(eZ c l (aK c r).2.1).2,(aK c r).2.2.1,(aK c r).2.2.2)):=za rfl;have gw:=(gR c).pos r;have LD:(aK c r).2.1.body.size<=1099511627776:=IE c r (by omega);generalize aL c l r=X at*;obtain⟨au,hY⟩:∃au,aK c r=au:=⟨_,rfl⟩
 rw[hY]at HN S gw LD;clear hY;obtain⟨y5,⟨B,C,D⟩,y4,m⟩:=au;simp only at gw LD S;unfold pG Fr.val nV aN.val at HN;simp only at HN;have HW:=za hW;have UN:=za (MS.refl ax);have aW:=za aM;have We:=za hN;have CK:=za rp;have Ea:=za gw;have aY:=za LD;unfold DI;clear hm hR hB hN aF hM rp hS k7 aM ax hW gw LD n1 n2 n3 n4 n5 n6;go_enter func62,ntmps62
 go_upto_region 1 with fail
 rw[HW.out];go_cut [7,8,9] (fun v1 v2 v3 d=>∃G:Nat,v1= .pointer (some ⟨G,0,none⟩)/\v2= .int .i64 y4/\v3= .int .i64 y5/\Hid (MS (some q) (t+m) (R-m) W d)/\Hid (af d G 84 #[.int .u64 B,.string C,.string D])/\W.heap.size<=G)
 case rest=>
  obtain⟨G,rfl,rfl,rfl,U,Z,al⟩:=hcut;obtain⟨d,aT⟩:∃d,d=wc:=⟨_,rfl⟩
  subst aT;have L6:=U.out.only;have y:=za (fo.out d (J8.out d L6));have RE:Hid (af d w.heap.size 30 #[.string ⟨#[]⟩,.string ⟨#[]⟩,.bool false,.slice none 0 0]):=za (aW.out.only L6 (by simp;omega));have a7:G<d.heap.size:=Z.out.lt;have AK:g<d.heap.size:=y.out.2.2.1.lt;have aB:=za (J8.out d L6);clear L6;rcases eT y5 with⟨h0,z1,z2⟩|⟨h0,z1,z2⟩
  ·subst h0;obtain⟨gG,iB⟩:=Ea.out rfl;rw[zh (by simp)]at S;have HD:Hid (∀V,Below d.heap.size d V->Calls prog 64 #[.pointer (some ⟨M,0,none⟩),.agg #[.int .u64 B,.string C,.string D]] V (VF V (eZ c l ⟨B,C,D⟩))):=za (fun V o=>by
    have:=Um lo hi M gn gi c rows ⟨B,C,D⟩ V (y.out.2.1.below (o.mono y.out.2.1.his)) (y.out.2.2.2.1.below o y.out.2.2.2.1.pos) (y.out.2.2.2.2.below o y.out.2.2.2.2.pos) aY.out;rwa [CK.out]at this)
   have N':Hid (∀V,Below d.heap.size d V->V.cell? ⟨sb,0,none⟩=some (.pointer (some ⟨g,0,none⟩))/\V.cell? ⟨g,0,none⟩=some (.pointer (some ⟨M,0,none⟩))/\V.cell? ⟨G,0,none⟩=some (.int .u64 B)/\V.cell? ⟨G,1,none⟩=some (.string C)/\V.cell? ⟨G,2,none⟩=some (.string D)):=za (fun V o=>by
    have O:=y.out.1.se.ag o y.out.1.se.lt;have h2:fp V g M bv nd fault laid aw aO:=y.out.2.2.1.ag o AK;have h3:=Z.out.ag o Z.out.lt;exact⟨O.cell 0,h2.parts.1,h3.cell 0,h3.cell 1,h3.cell 2⟩)
   generalize eZ c l ⟨B,C,D⟩=aZ at*;obtain⟨D1,i⟩:=aZ;simp only at S;go_upto_region 4 with fail
   go_cut [9,10] (fun v1 v2 p=>∃(bm:Nat) (s:Option Addr) (u:Nat),v1= .int .i64 D1/\v2= .pointer (some ⟨bm,0,none⟩)/\Hid (Below d.heap.size d p)/\Hid (af p bm 30 #[.string i.name,.string i.x.text,.bool i.x.list,.slice s i.x.sub.length u])/\Hid (pt p (d.heap.size<= ·) i (.string i.name) (.string i.x.text) (.bool i.x.list) (.slice s i.x.sub.length u))/\d.heap.size<=bm)
   case rest=>
    obtain⟨bm,s,u,rfl,rfl,J,OM,Oi,aQ⟩:=hcut;obtain⟨p,aS⟩:∃p,p=wc:=⟨_,rfl⟩
    subst aS;have ai:=za (y.out.1.at_.ag J.out y.out.1.at_.lt);have ao:=za (RE.out.ag J.out RE.out.lt);have aH:Hid (Met p (some q) (t+m) (R-m)):=za (U.out.below J.out).met;have aA:Hid (ae [q] w p):=za ((aB.out.trans' (ae.ah J.out (zd _)) (by simp)));have S5:=J.out.size;rcases eT D1 with⟨O,u1,u2⟩|⟨O,u1,u2⟩
    ·subst O;have q0:p.cell? ⟨x,0,none⟩=some (.int .i64 k):=ai.out.cell 0;have Wk:p.frozen? ⟨x,0,none⟩=false:=ai.out.frozen 0;go_upto_region 7 with fail
     obtain⟨W9,Tf⟩:∃W9,p.setCell ⟨x,0,none⟩ (.int .i64 ((k:Int)+y4))=W9:=⟨_,rfl⟩
     have rC:ae [x] p W9:=by rw[<-Tf];exact(ae.refl _ _).setCell (by simp) _
     have Ee:Hid (af W9 x 3 #[.int .i64 (k+y4:Nat)]):=za (by rw[<-Tf];exact ai.out.store rfl);have ay:=za (ao.out.only rC (by simp;omega));have az:=OM.out.only rC (by simp;omega);have a1:=za (Oi.out.only rC (by simp;omega) (fun _ _ h=>h));have a6:=za (aH.out.only rC (by intro j e;injection e with e;have:=We.out.m1;simp;omega));have aX:Hid (ae [q,x] w W9):=za ((aA.out.mono (by simp)).trans (rC.mono (by simp)));obtain⟨v0,v1,v2,v3,_⟩:=aU az;obtain⟨m0,m1,m2,m3,aJ,aG,aE,aD⟩:=aU ay.out;rw[Tf];clear Tf rC az q0 Wk;go_wp2;obtain⟨ag,ad,ah,aa⟩:=iz ay.out (.string i.name) (.string i.x.text) (.bool i.x.list) (.slice s i.x.sub.length u);refine zk (v:= .tuple #[.agg #[.string i.name,.string i.x.text,.bool i.x.list,.slice s i.x.sub.length u],.int .i64 0]) (by simp[results,results62,go_sem,ag,ad,ah,aa]) rfl ?_;have A:=eL W9 w.heap.size (.string i.name) (.string i.x.text) (.bool i.x.list) (.slice s i.x.sub.length u);rw[S.out];refine⟨_,_,_,_,rfl,a1.out.only A (by simp;omega) (fun k _ I=>by have I:d.heap.size<=k:=I;show w.heap.size<=k;omega),a6.out.only A (by intro j e;injection e with e;simp;omega),aX.out.trans' A (by simp), ?_⟩;have O:=Ee.out.only A (by simp;omega);rw[zi rfl];exact O
    obtain⟨v0,v1,v2,v3,_⟩:=aU OM.out;obtain⟨m0,m1,m2,m3,aJ,aG,aE,aD⟩:=aU ao.out;go_wp2;obtain⟨ag,ad,ah,aa⟩:=iz ao.out (.string i.name) (.string i.x.text) (.bool i.x.list) (.slice s i.x.sub.length u);refine zk (v:= .tuple #[.agg #[.string i.name,.string i.x.text,.bool i.x.list,.slice s i.x.sub.length u],.int .i64 D1]) (by simp[results,results62,go_sem,ag,ad,ah,aa]) rfl ?_;have A:=eL p w.heap.size (.string i.name) (.string i.x.text) (.bool i.x.list) (.slice s i.x.sub.length u);rw[S.out];refine⟨_,_,_,_,rfl,Oi.out.only A (by simp;omega) (fun k _ I=>by have I:d.heap.size<=k:=I;show w.heap.size<=k;omega),aH.out.only A (by intro j e;injection e with e;simp;omega),(aA.out.mono (by simp)).trans' A (by simp), ?_⟩;have h2:=ai.out.only A (by simp;omega);rw[zh O];exact h2
   go_wp2_with fail
   have hHeld:=N'.out d.drew (zl _ _).drew;refine aC 11 (fun V=>V.cell? ⟨sb,0,none⟩=some (.pointer (some ⟨g,0,none⟩))/\V.cell? ⟨g,0,none⟩=some (.pointer (some ⟨M,0,none⟩))/\V.cell? ⟨G,0,none⟩=some (.int .u64 B)/\V.cell? ⟨G,1,none⟩=some (.string C)/\V.cell? ⟨G,2,none⟩=some (.string D)) (by kernel_rfl) (by kernel_rfl) ?_;refine GT.jV [0,1,2,3,4] hHeld (fun _ _ _ _ _ h=>h) (by kernel_rfl) ?_;repeat(refine .c rfl rfl (fun V o=>by go_simp<;>with_reducible rfl) ?_;simp only[Act.put,zb,ze,zf])
   refine .nil ?_;refine GT.T' 5 9 rfl rfl (by kernel_rfl) (fun K n=> ?_) (fun K n=> ?_)
   ·go_simp;refine(HD.out d.drew (zl _ _).drew).mono ?_;rintro en E ⟨oH,d0,d1,d2,d3,rfl,Y⟩;obtain⟨s,u,rfl,rfl,rfl,rfl,_⟩:=Y.open_;have z:Below d.heap.size d E:=(show Below d.heap.size d d.drew from(zl _ _).drew).trans oH;go_wp2_with fail
    refine n.out _ _ (N'.out E z) (fun hHeld=> ?_);clear n K;try simp only[Act.put,zb,ze,zf]
    refine GT.jV [6,7,8] hHeld (fun _ _ _ _ _ h=>h) (by kernel_rfl) ?_;repeat(refine .c rfl rfl (fun V o=>by go_simp<;>with_reducible rfl) ?_;simp only[Act.put,zb,ze,zf])
    refine .nil ?_;refine GT.fJ 9 (fun K n=> ?_) rfl (by kernel_rfl);go_simp;refine n.out _ _ (N'.out _ (z.alloc z.size _)) (fun hHeld=> ?_);clear n K;try simp only[Act.put,zb,ze,zf]
    refine GT.fJ 10 (fun K n=> ?_) rfl (by kernel_rfl);go_simp;refine n.out _ _ (N'.out _ (z.alloc z.size _)) (fun hHeld=> ?_);clear n K;try simp only[Act.put,zb,ze,zf]
    refine GT.pA 11 ?_ rfl (by kernel_rfl);go_simp;obtain⟨p,F⟩:∃p,E.alloc (.cells #[.string i.name,.string i.x.text,.bool i.x.list,.slice s i.x.sub.length u] 30)=p:=⟨_,rfl⟩
    have J:Hid (Below d.heap.size d p):=za (by rw[<-F];exact z.alloc z.size _);have OM:Hid (af p E.heap.size 30 #[.string i.name,.string i.x.text,.bool i.x.list,.slice s i.x.sub.length u]):=za (by rw[<-F];exact af.new _ _ _);have Oi:Hid (pt p (d.heap.size<= ·) i (.string i.name) (.string i.x.text) (.bool i.x.list) (.slice s i.x.sub.length u)):=za (by rw[<-F];exact Y.below ((zl _ _).alloc (zd _) _));have aQ:d.heap.size<=E.heap.size:=z.size;rw[F];clear F oH z Y hHeld;go_wp2_with fail
    go_meet;case rel=>exact⟨_,_,_,rfl,rfl,J,OM,Oi,aQ⟩
   go_simp;have Eb:Below d.heap.size d (d.alloc (.cells #[.string ⟨#[]⟩,.string ⟨#[]⟩,.bool false,.slice none 0 0] 30)).drew:=((zl d.heap.size d).alloc (zd _) _).drew;have av:af (d.alloc (.cells #[.string ⟨#[]⟩,.string ⟨#[]⟩,.bool false,.slice none 0 0] 30)).drew d.heap.size 30 #[.string ⟨#[]⟩,.string ⟨#[]⟩,.bool false,.slice none 0 0]:=(af.new d _ _).drew;refine n.out _ _ (N'.out _ Eb) (fun hHeld=> ?_);clear n K;try simp only[Act.put,zb,ze,zf]
   refine GT.fJ 5 (fun K n=> ?_) rfl (by kernel_rfl);go_simp;refine(HD.out _ Eb).mono ?_;rintro en E ⟨oH,d0,d1,d2,d3,rfl,Y⟩;obtain⟨s,u,rfl,rfl,rfl,rfl,_⟩:=Y.open_;have z:Below d.heap.size d E:=Eb.trans (oH.mono Eb.size);have ar:=av.ag oH av.lt;go_wp2_with fail
   refine n.out _ _ (N'.out E z) (fun hHeld=> ?_);clear n K;try simp only[Act.put,zb,ze,zf]
   refine GT.jV [6,7,8] hHeld (fun _ _ _ _ _ h=>h) (by kernel_rfl) ?_;repeat(refine .c rfl rfl (fun V o=>by go_simp<;>with_reducible rfl) ?_;simp only[Act.put,zb,ze,zf])
   refine .nil ?_;obtain⟨t0,t1,t2,t3,LV,Oa,Tb,aV⟩:=aU ar;refine GT.fJ 10 (fun K n=> ?_) rfl (by kernel_rfl);go_simp;have Ta:Below d.heap.size d ((((E.setCell ⟨d.heap.size,0,none⟩ (.string i.name)).setCell ⟨d.heap.size,1,none⟩ (.string i.x.text)).setCell ⟨d.heap.size,2,none⟩ (.bool i.x.list)).setCell ⟨d.heap.size,3,none⟩ (.slice s i.x.sub.length u)):=(((z.setCell (by simp) _).setCell (by simp) _).setCell (by simp) _).setCell (by simp) _;refine n.out _ _ (N'.out _ Ta) (fun hHeld=> ?_);clear n K;try simp only[Act.put,zb,ze,zf]
   refine GT.pA 11 ?_ rfl (by kernel_rfl);go_simp;obtain⟨p,F⟩:∃p,(((E.setCell ⟨d.heap.size,0,none⟩ (.string i.name)).setCell ⟨d.heap.size,1,none⟩ (.string i.x.text)).setCell ⟨d.heap.size,2,none⟩ (.bool i.x.list)).setCell ⟨d.heap.size,3,none⟩ (.slice s i.x.sub.length u)=p:=⟨_,rfl⟩
   have J:Hid (Below d.heap.size d p):=za (by rw[<-F];exact Ta);have OM:Hid (af p d.heap.size 30 #[.string i.name,.string i.x.text,.bool i.x.list,.slice s i.x.sub.length u]):=za (by rw[<-F];exact Gr ar _ _ _ _);have Oi:Hid (pt p (d.heap.size<= ·) i (.string i.name) (.string i.x.text) (.bool i.x.list) (.slice s i.x.sub.length u)):=za (by rw[<-F];exact Y.only (L:= [d.heap.size]) (eL E d.heap.size _ _ _ _) (by simp[World.drew]) (fun k _ I=>by have I:(d.alloc (.cells #[.string ⟨#[]⟩,.string ⟨#[]⟩,.bool false,.slice none 0 0] 30)).heap.size<=k:=I;simp at I;show d.heap.size<=k;omega));rw[F];clear F oH z Y hHeld Eb av ar Ta t0 t1 t2 t3 LV Oa Tb aV;go_wp2_with fail
   go_meet;case rel=>exact⟨_,_,_,rfl,rfl,J,OM,Oi,zd _⟩
  rw[zi h0]at S;obtain⟨m0,m1,m2,m3,aJ,aG,aE,aD⟩:=aU RE.out;have aR:=za U.out.met;go_wp2;obtain⟨ag,ad,ah,aa⟩:=iz RE.out (.string ⟨#[]⟩) (.string ⟨#[]⟩) (.bool false) (.slice none 0 0);refine zk (v:= .tuple #[.agg #[.string ⟨#[]⟩,.string ⟨#[]⟩,.bool false,.slice none 0 0],.int .i64 y5]) (by simp[results,results62,go_sem,ag,ad,ah,aa]) rfl ?_;have A:=eL d w.heap.size (.string ⟨#[]⟩) (.string ⟨#[]⟩) (.bool false) (.slice none 0 0);rw[S.out];refine⟨_,_,_,_,rfl,DF _ _,aR.out.only A (by intro j e;injection e with e;simp;omega),(aB.out.mono (by simp)).trans' A (by simp), ?_⟩;have O:=y.out.1.at_.only A (by simp;omega);rw[zh h0];exact O
 go_wp2_with fail
 have hHeld:=HS.out W.drew UN.out.drew.only;refine aC 13 (fun V=>V.cell? ⟨cb,0,none⟩=some (.int .i64 c.fm)/\V.cell? ⟨cb,1,none⟩=some (.int .u32 c.mg)/\V.cell? ⟨cb,2,none⟩=some (.int .i64 c.fr)/\V.cell? ⟨cb,3,none⟩=some (.int .i64 c.un)/\V.cell? ⟨cb,4,none⟩=some (.int .i64 c.de)/\V.cell? ⟨cb,5,none⟩=some (.int .i64 c.it)/\V.cell? ⟨mb,0,none⟩=some (.pointer (some ⟨q,0,none⟩))/\V.cell? ⟨tb,0,none⟩=some (.string b)/\V.cell? ⟨x,0,none⟩=some (.int .i64 k)) (by kernel_rfl) (by kernel_rfl) ?_;refine GT.jV [0,1,2,3,4] hHeld (fun _ _ _ _ _ h=>h) (by kernel_rfl) ?_;iterate 4 (refine .c rfl rfl (fun V o=>by go_simp<;>with_reducible rfl) ?_;simp only[Act.put,zb,ze,zf])
 refine .c (v:= .string r) rfl rfl (fun V o=>by go_simp<;>with_reducible rfl) ?_;try simp only[Act.put,zb,ze,zf];refine .nil ?_;refine GT.T' 5 10 rfl rfl (by kernel_rfl) (fun K n=> ?_) (fun K n=> ?_)
 ·go_simp;refine(HN.out W W.drew UN.out.drew).mono ?_;rintro en w3 ⟨rfl,H⟩;go_wp2_with fail
  refine n.out _ _ (HS.out w3 H.only) (fun hHeld=> ?_);clear n K;try simp only[Act.put,zb,ze,zf]
  refine GT.jV [6,7,8,9] hHeld (fun _ _ _ _ _ h=>h) (by kernel_rfl) ?_;repeat(refine .c rfl rfl (fun V o=>by go_simp<;>with_reducible rfl) ?_;simp only[Act.put,zb,ze,zf])
  refine .nil ?_;refine GT.fJ 10 (fun K n=> ?_) rfl (by kernel_rfl);go_simp;refine n.out _ _ (HS.out _ (H.alloc _).only) (fun hHeld=> ?_);clear n K;try simp only[Act.put,zb,ze,zf]
  refine GT.fJ 11 (fun K n=> ?_) rfl (by kernel_rfl);go_simp;refine n.out _ _ (HS.out _ (H.alloc _).only) (fun hHeld=> ?_);clear n K;try simp only[Act.put,zb,ze,zf]
  refine GT.jV [12] hHeld (fun _ _ _ _ _ h=>h) (by kernel_rfl) ?_;refine .c rfl rfl (fun V o=>by go_simp<;>with_reducible rfl) ?_;simp only[Act.put,zb,ze,zf];refine .nil ?_;refine GT.pA 13 ?_ rfl (by kernel_rfl);go_simp;obtain⟨d,N⟩:∃d,w3.alloc (.cells #[.int .u64 B,.string C,.string D] 84)=d:=⟨_,rfl⟩
  have U:Hid (MS (some q) (t+m) (R-m) W d):=za (by rw[<-N];exact H.alloc _);have Z:Hid (af d w3.heap.size 84 #[.int .u64 B,.string C,.string D]):=za (by rw[<-N];exact af.new _ _ _);have al:W.heap.size<=w3.heap.size:=H.size;rw[N];clear N H hHeld;go_wp2_with fail
  go_meet;case rel=>exact⟨_,rfl,rfl,rfl,U,Z,al⟩
 go_simp;have ak:MS (some q) t R W (W.alloc (.cells #[.int .u64 0,.string ⟨#[]⟩,.string ⟨#[]⟩] 84)).drew:=(UN.out.alloc _).drew;have aP:af (W.alloc (.cells #[.int .u64 0,.string ⟨#[]⟩,.string ⟨#[]⟩] 84)).drew W.heap.size 84 #[.int .u64 0,.string ⟨#[]⟩,.string ⟨#[]⟩]:=(af.new W _ _).drew;refine n.out _ _ (HS.out _ ak.only) (fun hHeld=> ?_);clear n K;try simp only[Act.put,zb,ze,zf]
 refine GT.fJ 5 (fun K n=> ?_) rfl (by kernel_rfl);go_simp;refine(HN.out _ _ (MS.refl ak.met)).mono ?_;rintro en w3 ⟨rfl,aq⟩;have H:=aq.from ak.only;have Sk:=aP.only aq.only (by simp;omega);go_wp2_with fail
 refine n.out _ _ (HS.out w3 H.only) (fun hHeld=> ?_);clear n K;try simp only[Act.put,zb,ze,zf]
 refine GT.jV [6,7,8,9] hHeld (fun _ _ _ _ _ h=>h) (by kernel_rfl) ?_;repeat(refine .c rfl rfl (fun V o=>by go_simp<;>with_reducible rfl) ?_;simp only[Act.put,zb,ze,zf])
 refine .nil ?_;obtain⟨t0,t1,t2,LV,Oa,Tb⟩:=bg Sk;refine GT.fJ 11 (fun K n=> ?_) rfl (by kernel_rfl);go_simp;have an:=H.ec (zd _) (by intro j e;injection e with e;omega) (.int .u64 B) (.string C) (.string D);refine n.out _ _ (HS.out _ an.only) (fun hHeld=> ?_);clear n K;try simp only[Act.put,zb,ze,zf]
 refine GT.jV [12] hHeld (fun _ _ _ _ _ h=>h) (by kernel_rfl) ?_;refine .c rfl rfl (fun V o=>by go_simp<;>with_reducible rfl) ?_;simp only[Act.put,zb,ze,zf];refine .nil ?_;refine GT.pA 13 ?_ rfl (by kernel_rfl);go_simp;obtain⟨d,N⟩:∃d,((w3.setCell ⟨W.heap.size,0,none⟩ (.int .u64 B)).setCell ⟨W.heap.size,1,none⟩ (.string C)).setCell ⟨W.heap.size,2,none⟩ (.string D)=d:=⟨_,rfl⟩
 have U:Hid (MS (some q) (t+m) (R-m) W d):=za (by rw[<-N];exact an);have Z:Hid (af d W.heap.size 84 #[.int .u64 B,.string C,.string D]):=za (by rw[<-N];exact ec Sk _ _ _);have al:W.heap.size<=W.heap.size:=zd _;rw[N];clear N H hHeld aq ak aP Sk an t0 t1 t2 LV Oa Tb;go_wp2_with fail
 go_meet;case rel=>exact⟨_,rfl,rfl,rfl,U,Z,al⟩
def lenOf :Value->Nat
 | .slice _ n _=>n
 |_=>0
theorem QV (c:aN)(l:List bC)(s:ByteArray):(aL c l s).2.2.2<=65536:=by rw[gj];exact oq c s
structure CuW (w V:World)(cb mb tb ab sb tm z g gm:Nat)(c:aN)(l:List bC)(b:ByteArray)(k t R:Nat)(lv:Value):Prop where
 only:ae [gm] w V
 met:Met V (some gm) (t+(aL c l (b.extract k b.size)).2.2.2) (R-(aL c l (b.extract k b.size)).2.2.2)
 nx:UB V cb mb tb ab sb g gm c b (if(aL c l (b.extract k b.size)).1=0 then k+(aL c l (b.extract k b.size)).2.2.1 else k)
 msg:∃d0 d1 d2 d3,af V tm 30 #[d0,d1,d2,d3]/\pt V (fun j=>z<=j/\j≠tm/\lv.ownBlock≠some j) (aL c l (b.extract k b.size)).2.1 d0 d1 d2 d3
theorem UC (c:aN)(l:List bC)(lo hi D gn gi:Nat)(rows:List bZ)(g p:Nat)(bv:Value)(b:ByteArray)(F laid K I t R:Nat)(w:World)(hr:c.right=true)(hc:c.ok)(hb:b.size<=100000)(hM:mw w lo hi D gn gi c rows)(rp:aI rows=l)(hS:fp w g D bv F 0 laid K I)(bH:bL w hi 5 bv b.data.toList)
 (Ho:hi<=g) (AD:Met w (some p) t R) (RV:p≠g) (a6:hi<=p) (bm:bv.ownBlock≠some p) (hR:1099511627776<=R) (tT:iQ c b F) (bk:∀V,ae (p::g::bv.ownBlock.toList) w V->Laid V/\ba V):
 Calls prog 42 #[.pointer (some ⟨g,0,none⟩),.pointer (some ⟨p,0,none⟩)] w fun e w'=>∃rv AO bd,e= .returned rv/\cd w' (fun j=>w.heap.size<=j/\AO.ownBlock≠some j) w.heap.size (split (aL c l) b).1 rv/\fp w' g D AO bd (split (aL c l) b).2.2.2 laid K I/\bL w' hi 5 AO (split (aL c l) b).2.1.data.toList/\
  Met w' (some p) (t+(split (aL c l) b).2.2.1) (R-(split (aL c l) b).2.2.1)/\ae (p::g::bv.ownBlock.toList) w w'/\(∀k,AO.ownBlock=some k->bv.ownBlock=some k\/w.heap.size<=k)/\((split (aL c l) b).2.2.2=0->iQ c (split (aL c l) b).2.1 bd):=by
 have cB:bv.ownBlock≠some g:=bH.dD hS (by decide);have br:=bH.form;rw[aa]at br;obtain⟨A,cap,rfl,qX,mR⟩:=br;have Ri:∀V,Below w.heap.size w V->(convert 31 9 (.slice A b.size cap)).run prog V= .ok (.string b) V:=fun V o=>by
  have:=bL.EV (P:=prog) (src:=31) (dst:=9) zr yb zG (bH.below o);rwa [iJ]at this
 have bg:=za Ri;have AK:g<w.heap.size:=hS.lt;have bY:p<w.heap.size:=AD.lt p rfl;have HS:=za hS;have oO:=za bH;have HM:=za AD;have Hj:=za hM;have VW:=za tT;have OH:=za (And.intro cB bm);have N9:=za bk;have CK:=za rp;have al:=za (bX c l);obtain⟨E,cm⟩:∃E,(w.alloc (.cells #[.pointer (some ⟨g,0,none⟩)] 35)).alloc (.cells #[.pointer (some ⟨p,0,none⟩)] 96)=E:=⟨_,rfl⟩
 have jb:Below w.heap.size w E:=by rw[<-cm];exact((zl _ w).alloc (zd _) _).alloc (by simp) _
 have ea:E.heap.size=w.heap.size+2:=by rw[<-cm];simp
 have ad:Hid (af E w.heap.size 35 #[.pointer (some ⟨g,0,none⟩)]):=za (by rw[<-cm];exact(af.new w _ _).alloc _);have OM:Hid (af E (w.heap.size+1) 96 #[.pointer (some ⟨p,0,none⟩)]):=za (by rw[<-cm];exact af.at_ (by simp));have kZ:=za jb;have By:=za ea;have cG:=za cm;have Z:E.cell? ⟨w.heap.size,0,none⟩=some (.pointer (some ⟨g,0,none⟩)):=ad.out.cell 0;obtain⟨p0,p1,J,p3,p4,p5,p6⟩:=fp.parts (hS.ag jb AK);clear hS bH AD hM tT cB bm bk rp Ri jb ea cm;by_cases aD:b.size<F
 ·have au:Hid (split (aL c l) b=([],b,0,0)):=za (dv al.out (iU.2 (VW.out.here aD)));rw[au.out];go_enter func42,ntmps42
  go_wp2_with fail
  rw[cG.out];go_quiet (fail)
  go_wp2;go_ret;have eW:Below w.heap.size w (E.drewN nq):=Below.bG kZ.out nq;exact⟨_,_,F,rfl,cd.nil _ _ _,HS.out.ag eW AK,oO.out.below eW,(MS.refl HM.out|>.below eW).met,(ae.ah eW (zd _)).mono (by simp),fun k hk=> .inl hk,fun _=>VW.out⟩
 skip
 go_enter func42,ntmps42
 go_wp2_with fail
 rw[cG.out];go_quiet (fail)
 obtain⟨w1,pM⟩:∃w1,E.drewN nq=w1:=⟨_,rfl⟩
 have ch:Hid (Below E.heap.size E w1):=za (by rw[<-pM];exact Below.bG (zl _ _) nq);rw[pM];clear pM Z p0 p1 J p3 p4 p5 p6;have Ol:=kZ.out.trans (ch.out.mono (by have:=By.out;omega));have bG:=za Ol;have Z:w1.cell? ⟨w.heap.size,0,none⟩=some (.pointer (some ⟨g,0,none⟩)):=(ad.out.ag ch.out ad.out.lt).cell 0;obtain⟨p0,p1,J,p3,p4,p5,p6⟩:=fp.parts (HS.out.ag Ol AK);have US:=za (Ll lo hi D gn gi c rows w1 (Hj.out.below (Ol.mono Hj.out.his)));unfold aN.val at US;clear Ol;go_wp2_with fail
 refine US.out.mono ?_;rintro e q ⟨rfl,aS⟩;obtain⟨y,fW⟩:∃y,((q.alloc (.cells #[.int .i64 c.fm,.int .u32 c.mg,.int .i64 c.fr,.int .i64 c.un,.int .i64 c.de,.int .i64 c.it] 24)).alloc (.cells #[.string b] 9)).alloc (.cells #[.int .i64 0] 3)=y:=⟨_,rfl⟩
 have cl:=ch.out.size;have cC:=aS.size;have aX:Below q.heap.size q y:=by rw[<-fW];exact(((zl _ q).alloc (zd _) _).alloc (by simp) _).alloc (by simp;omega) _
 have bp:Below w1.heap.size w1 y:=aS.trans (aX.mono cC);have aA:Below E.heap.size E y:=ch.out.trans (bp.mono cl);have Vc:Below w.heap.size w q:=bG.out.trans (aS.mono (by have:=By.out;omega));have bh:Below w.heap.size w y:=Vc.trans (aX.mono (by have:=By.out;omega));have CO:y.heap.size=q.heap.size+3:=by rw[<-fW];simp
 have bJ:=bg.out (q.alloc (.cells #[.int .i64 c.fm,.int .u32 c.mg,.int .i64 c.fr,.int .i64 c.un,.int .i64 c.de,.int .i64 c.it] 24)) (Vc.alloc (by have:=By.out;omega) _);have a8:Hid (af y q.heap.size 24 #[.int .i64 c.fm,.int .u32 c.mg,.int .i64 c.fr,.int .i64 c.un,.int .i64 c.de,.int .i64 c.it]):=za (by rw[<-fW];exact((af.new _ _ _).alloc _).alloc _);have a':Hid (af y (q.heap.size+1) 9 #[.string b]):=za (by rw[<-fW];exact af.alloc (af.at_ (by simp)) _);have aZ:Hid (af y (q.heap.size+1+1) 3 #[.int .i64 0]):=za (by rw[<-fW];exact af.at_ (by simp));have a7:=za (ad.out.ag aA ad.out.lt);have bn:=za (OM.out.ag aA OM.out.lt);have Ef:=za bh;have ON:Hid (w.heap.size+2<=q.heap.size/\y.heap.size=q.heap.size+3):=za ⟨by have:=By.out;omega,CO⟩;clear Z p0 p1 J p3 p4 p5 p6;have Z:q.cell? ⟨w.heap.size,0,none⟩=some (.pointer (some ⟨g,0,none⟩)):=((ad.out.ag ch.out ad.out.lt).ag aS (by have:=By.out;omega)).cell 0;obtain⟨p0,p1,J,p3,p4,p5,p6⟩:=fp.parts (HS.out.ag Vc AK);have GL:w.heap.size<q.heap.size:=by have:=By.out;omega
 have LP:g<q.heap.size:=by omega
 have rB:=za fW;have We:Hid (NxN lo hi q.heap.size (w.heap.size+1) (q.heap.size+1) (q.heap.size+1+1) w.heap.size g p):=za ⟨⟨by omega,by omega,by omega,by omega,by omega,RV⟩,⟨by omega,by omega,by omega,by omega,by omega⟩,⟨.inr a6,.inr (by have:=Hj.out.his;omega)⟩⟩;have uF:Hid (∀V k t' R',ae [p] w V->UB V q.heap.size (w.heap.size+1) (q.heap.size+1) (q.heap.size+1+1) w.heap.size g p c b k->Met V (some p) t' R'->70000<=R'->k<=b.size->Calls prog 62 (DI q.heap.size (w.heap.size+1) (q.heap.size+1) (q.heap.size+1+1) w.heap.size) V (QT V (q.heap.size+1+1) p t' R' k (aL c l (b.extract k b.size)))):=za (fun V k t' R' o hB hm bx hk=>
  QU c l lo hi D gn gi rows g p _ _ _ _ _ b k (.slice A b.size cap) F 0 laid K I t' R' V hr hc hb hk (Hj.out.only o (by simp;exact .inr a6)) CK.out (HS.out.only o (by simp;omega)) hm bx hB We.out (fun V' bB=>N9.out V' (((o.mono (by simp)).trans' bB (by have:=ON.out;simp;omega)))))
 clear aS aX bp aA Vc bh fW CO US;go_wp2_with fail
 rw[rB.out];have J0:Hid (UB y q.heap.size (w.heap.size+1) (q.heap.size+1) (q.heap.size+1+1) w.heap.size g p c b 0):=za ⟨a8.out,bn.out,a'.out,aZ.out,a7.out⟩;have ao:=za (uF.out y 0 t R ((ae.ah Ef.out (zd _)).mono (by simp)) J0.out (MS.refl HM.out|>.below Ef.out).met (by omega) (yc _));unfold DI at ao uF;have LA:w.heap.size+2<=q.heap.size:=ON.out.1;have N1:y.heap.size=q.heap.size+3:=ON.out.2;obtain⟨cb,bt⟩:∃cb,q.heap.size=cb:=⟨_,rfl⟩
 have bc:Hid (ae [p] w y):=za ((ae.ah Ef.out (zd _)).mono (by simp));rw[bt]at J0 ao uF We LA N1⊢;clear bt Z p0 p1 J p3 p4 p5 p6 GL LP bJ a8 a' aZ a7 bn ON rB cl cC;obtain⟨X0,ax⟩:∃X0,aL c l (b.extract 0 b.size)=X0:=⟨_,rfl⟩
 rw[ax]at ao;refine ao.out.mono ?_;rintro e w6 ⟨d0,d1,d2,d3,rfl,CN,OA,uI,JN⟩;obtain⟨O,W,rfl,rfl,rfl,rfl,_⟩:=CN.open_;have Va:Hid (CuW w (w6.alloc (.cells #[.string X0.2.1.name,.string X0.2.1.x.text,.bool X0.2.1.x.list,.slice O X0.2.1.x.sub.length W] 30)) cb (w.heap.size+1) (cb+1) (cb+1+1) w.heap.size w6.heap.size y.heap.size g p c l b 0 (t+0) (R-0) (.slice none 0 0)):=za (by
  subst ax;have ha:=We.out.a1;have aw:=uI.size;have bS:UB w6 cb (w.heap.size+1) (cb+1) (cb+1+1) w.heap.size g p c b (if(aL c l (b.extract 0 b.size)).1=0 then 0+(aL c l (b.extract 0 b.size)).2.2.1 else 0):=⟨J0.out.cf.only uI (by simp;omega),J0.out.me.only uI (by simp;omega),J0.out.tx.only uI (by simp;omega),JN,J0.out.se.only uI (by simp;omega)⟩
  have AL:=(zl w6.heap.size w6).alloc (zd _) (.cells #[.string (aL c l (b.extract 0 b.size)).2.1.name,.string (aL c l (b.extract 0 b.size)).2.1.x.text,.bool (aL c l (b.extract 0 b.size)).2.1.x.list,.slice O (aL c l (b.extract 0 b.size)).2.1.x.sub.length W] 30);have aP:=ae.ah AL (zd _);exact⟨(bc.out.trans' uI (by simp;omega)).trans' aP (by simp),OA.only aP (by simp),bS.only aP (by simp),_,_,_,_,af.new _ _ _,(CN.fe (S':=fun j=>y.heap.size<=j/\j≠w6.heap.size/\(Value.slice none 0 0).ownBlock≠some j) (fun j d h=>⟨h,by omega,by intro e;cases e⟩)).below AL⟩)
 obtain⟨W7,rD⟩:∃W7,w6.alloc (.cells #[.string X0.2.1.name,.string X0.2.1.x.text,.bool X0.2.1.x.list,.slice O X0.2.1.x.sub.length W] 30)=W7:=⟨_,rfl⟩
 have aw:=uI.size;have bo:W7.heap.size=w6.heap.size+1:=by rw[<-rD];simp
 rw[rD]at Va;have GW:=za rD;obtain⟨z,hz⟩:∃z,y.heap.size=z:=⟨_,rfl⟩
 rw[hz]at Va N1 aw;have bF:=za ax;have hU:Hid (w.heap.size+2<=cb/\z=cb+3):=za ⟨LA,N1⟩;have aF:=za aw;have aJ:=za bo;clear ax CN OA uI JN rD bo hz J0 ao LA N1 aw Ef bc bg;go_wp2_with fail
 rw[GW.out];obtain⟨u,bq⟩:∃u,w6.heap.size=u:=⟨_,rfl⟩
 rw[bq]at Va aF aJ⊢;have HZ:Hid (w.heap.size+2<=cb/\z=cb+3/\z<=u):=za ⟨hU.out.1,hU.out.2,aF.out⟩;clear bq hU aF;go_loopw [9,11] (fun lv ev wr=>∃(acc:List Ms) (k a:Nat),cd wr (fun j=>z<=j/\j≠u) (u+1) acc lv/\ev= .int .i64 (aL c l (b.extract k b.size)).1/\k<=b.size/\acc.length<=k/\a<=65536*acc.length/\Hid (split (aL c l) b=(acc++(split (aL c l) (b.extract k b.size)).1,(split (aL c l) (b.extract k b.size)).2.1,a+(split (aL c l) (b.extract k b.size)).2.2.1,(split (aL c l) (b.extract k b.size)).2.2.2))/\Hid (CuW w wr cb (w.heap.size+1) (cb+1) (cb+1+1) w.heap.size u z g p c l b k (t+a) (R-a) lv)/\u+1<=wr.heap.size) (fun lv _ _=>b.size-lenOf lv)
 case atStart=>exact⟨[],0,0,cd.nil _ _ _,by rw[bF.out],by omega,by simp,by simp,za (by rw[CS];simp),Va,by have:=aJ.out;omega⟩
 case round=>
  clear Va GW aJ;obtain⟨acc,k,a,lJ,rfl,hk,AL,ha,au,bb,b4⟩:=hrel;obtain⟨A5,n5,ef,rfl,S6,U',Vb⟩:=lJ.bT;have kW:=za lJ;have AD:=QV c l (b.extract k b.size);have gw:=al.out.pos (b.extract k b.size);have pO:Hid ((aL c l (b.extract k b.size)).1≠0->split (aL c l) b=(acc,b.extract k b.size,a+(aL c l (b.extract k b.size)).2.2.2,if(aL c l (b.extract k b.size)).1=2 then 0 else(aL c l (b.extract k b.size)).1)):=za (fun h=>by
   rw[au.out,eB al.out (b.extract k b.size),zh h];simp)
  have Oc:Hid ((aL c l (b.extract k b.size)).1=0->split (aL c l) b=((acc++ [(aL c l (b.extract k b.size)).2.1])++(split (aL c l) (b.extract (k+(aL c l (b.extract k b.size)).2.2.1) b.size)).1,(split (aL c l) (b.extract (k+(aL c l (b.extract k b.size)).2.2.1) b.size)).2.1,(a+(aL c l (b.extract k b.size)).2.2.2)+(split (aL c l) (b.extract (k+(aL c l (b.extract k b.size)).2.2.1) b.size)).2.2.1,(split (aL c l) (b.extract (k+(aL c l (b.extract k b.size)).2.2.1) b.size)).2.2.2)):=za (fun h=>by
   obtain⟨p1,J⟩:=al.out.pos _ h;rw[aj _ _ _ (zd _)]at J;have e:(b.extract k b.size).extract (aL c l (b.extract k b.size)).2.2.1 (b.extract k b.size).size=b.extract (k+(aL c l (b.extract k b.size)).2.2.1) b.size:=by
    rw[ua _ _ _ _ (by rw[aj _ _ _ (zd _)];omega),aj _ _ _ (zd _)];congr 1;omega
   rw[au.out,cY al.out h,e];simp[WK.cons,ym])
  have ab:Hid ((aL c l (b.extract k b.size)).1=2->iQ c (b.extract k b.size) (gS c (b.extract k b.size))):=za (fun h=>iQ.of hr (iU.1 h));rw[aj _ _ _ (zd _)]at gw;obtain⟨uo,um,ux,d0,d1,d2,d3,ut,us⟩:=bb.out;clear au bb lJ;obtain⟨r,RQ⟩:∃r,b.extract k b.size=r:=⟨_,rfl⟩
  rw[RQ]at AD gw pO Oc ab um ux us⊢;have av:=za RQ;clear RQ;obtain⟨X,hX⟩:∃X,aL c l r=X:=⟨_,rfl⟩
  rw[hX]at AD gw pO Oc ab um ux us⊢;clear hX;obtain⟨y5,X2,y4,m⟩:=X;simp only at AD gw pO Oc ab um ux us⊢;obtain⟨Ay,Kg,rfl,rfl,rfl,rfl,_⟩:=us.open_;have b3:lenOf (.slice A5 n5 ef)=n5:=rfl;by_cases h1:y5=0
  ·subst h1;obtain⟨p1,J⟩:=gw rfl;have J6:=za (Oc.out rfl);rw[zi rfl]at ux;obtain⟨v0,v1,v2,v3,_⟩:=aU ut;have Vd:=(zl wr.heap.size wr).alloc (zd _) (.cells #[.string X2.name,.string X2.x.text,.bool X2.x.list,.slice Ay X2.x.sub.length Kg] 30);have Sx:=za (kW.out.below Vd);have bf:=za ((us.below Vd).fe (S':=fun j=>(z<=j/\j≠u)/\(Value.slice A5 n5 ef).ownBlock≠some j) (fun j _ h=>⟨⟨h.1,h.2.1⟩,h.2.2⟩));have SC:=ae.ah Vd (zd _);have ah:=za (uo.trans' SC (by simp));have ag:=za (um.only SC (by simp));have s:=za (ux.only SC (by simp));have a1:=za (ut.only SC (by simp));have SB:=za (Sx.out.ge);clear uo um ux ut us Vd SC Oc pO ab kW;go_wp2_with (
    refine qx (by rfl) (.tmp 40) (.tmp 42) (by rfl) (fun j=>z<=j/\j≠u) (u+1) acc (by rfl) Sx.out X2 bf.out wr.heap.size (by rfl) (by simp) (by simp) (by simp) (by simp) (by omega) (by simp;omega) ?_;intro g' n' aq w8 Oy aB eV b5)
   have H:=ae.dR eV;have C:∀j,j∈(Value.slice A5 n5 ef).ownBlock.toList->u+1<=j:=fun j d=>(SB.out j (cy.1 d)).1
   obtain⟨z1,z2,z3⟩:=HZ.out;have bj:Hid (ae [p] w w8):=za (ah.out.trans' H (fun j d=> .inr (by have:=C j d;omega)));have bz:=za (ag.out.only H (by intro j e d;injection e with e;have:=C j d;omega));have Sw:=za (s.out.only H ⟨fun d=>by have:=C _ d;omega,fun d=>by have:=C _ d;omega,fun d=>by have:=C _ d;omega,fun d=>by have:=C _ d;omega,fun d=>by have:=C _ d;omega⟩);have bQ:=za (a1.out.only H (fun d=>by have:=C _ d;omega));have S5:wr.heap.size+1<=w8.heap.size:=by have:=eV.size;simpa using this
   have bu:=za aB;have CP:=za aB.ge;have eN:k+y4<=b.size:=by omega
   have aK:=za (uF.out w8 (k+y4) (t+a+m) (R-a-m) bj.out Sw.out bz.out (by omega) eN);obtain⟨ai,hY⟩:∃ai,aL c l (b.extract (k+y4) b.size)=ai:=⟨_,rfl⟩
   rw[hY]at aK;have bs:=za hY;have bl:=za (And.intro z1 (And.intro z2 z3));clear H C eV aB hY ah ag s a1 Sx bf SB z1 z2 z3;refine aK.out.mono ?_;rintro e w9 ⟨d0,d1,d2,d3,rfl,CN,OA,Y,JN⟩;obtain⟨Az,bN,rfl,rfl,rfl,rfl,_⟩:=CN.open_;have bW:=Y.size;have aV:=bQ.out.only Y (by have:=bl.out;simp;omega);obtain⟨t0,t1,t2,t3,LV,Oa,Tb,b0⟩:=aU aV;have bw:=za aV;have bU:=za CN;have bT:=za OA;have bP:=za Y;have bK:=za JN;clear CN OA Y JN aV aK;go_wp2;go_roundw
   case rel=>
    have Y:=bP.out;have BF:=eL w9 u (.string ai.2.1.name) (.string ai.2.1.x.text) (.bool ai.2.1.x.list) (.slice Az ai.2.1.x.sub.length bN);have ke:∀j,(Value.slice (some ⟨g',0,none⟩) n' aq).ownBlock=some j->u+1<=j/\j<w8.heap.size:=fun j e=>CP.out j e
    obtain⟨z1,z2,z3⟩:=bl.out;have ha:=We.out.a1;refine⟨acc++ [X2],k+y4,a+m,(bu.out.only Y (by simp;omega) (fun j d e=>by have:=ke j e;simp at d;omega)).only BF (by simp) (fun j d e=>by have:=ke j e;simp at d;omega),by rw[bs.out],eN,by rw[zj];simp;omega,by rw[zj];simp;omega,by rw[show k+y4=k+y4 from rfl];exact J6,za ?_,by have:=BF.size;omega⟩;have e1:t+(a+m)=t+a+m:=by omega
    have e2:R-(a+m)=R-a-m:=by omega
    rw[e1,e2];have hY:=bs.out;subst hY;exact⟨(bj.out.trans' Y (by simp;omega)).trans' BF (by simp;omega),bT.out.only BF (by intro j e;injection e with e;simp;omega),
     ⟨(Sw.out.cf.only Y (by simp;omega)).only BF (by simp;omega),(Sw.out.me.only Y (by simp;omega)).only BF (by simp;omega),(Sw.out.tx.only Y (by simp;omega)).only BF (by simp;omega),bK.out.only BF (by simp;omega),(Sw.out.se.only Y (by simp;omega)).only BF (by simp;omega)⟩,
     _,_,_,_,Gr bw.out _ _ _ _,bU.out.only BF (by simp;omega) (fun j _ d=>by have d:w8.heap.size<=j:=d;exact⟨by omega,by omega,fun e=>by have:=ke j e;omega⟩)⟩
   case measure=>
    have q1:=Oy.out;have q2:=S6.out;simp[lenOf];omega
  have B:=pO.out h1;rw[zh h1]at ux;have CQ:Hid (fp wr g D (.slice A b.size cap) F 0 laid K I):=za (HS.out.only uo (by simp;omega));have U9:Hid (bL wr hi 5 (.slice A b.size cap) b.data.toList):=za (oO.out.qp uo (fun j e=>by have:=OH.out.2;rw[e]at this;simpa using Zh (fun h=>this (by rw[h]))));have ah:=za uo;have ag:=za um;have s:=za ux;have nZ:(k:Int)<=b.size:=by omega
  have UF:r.size<=100000:=by rw[<-av.out,aj _ _ _ (zd _)];omega
  have bV:=av.out;have b1:w.heap.size<cb+1+1:=by have:=HZ.out.1;omega
  clear uo um ux ut us pO Oc gw;by_cases S:y5=2
  ·subst S;rw[zi rfl]at B;have B:=za B;have bA:=za (ab.out rfl);have GY:=za (fun V=>Jn c r V hr (by omega));unfold aN.val at GY;clear ab;go_wp2_with fail
   refine nM 8 (by kernel_rfl) (by kernel_rfl) ?_;simp only[zP,yz,yg,zK];refine aE (.pointer (some ⟨g,0,none⟩)) (by rfl) (fun V o=>by have Z:=(s.out.se.ag o s.out.se.lt).cell 0;go_simp) ?_;simp only[Act.put,zb,ze,zf];refine aE (.agg #[.int .i64 c.fm,.int .u32 c.mg,.int .i64 c.fr,.int .i64 c.un,.int .i64 c.de,.int .i64 c.it]) (by rfl) (fun V o=>by obtain⟨q0,q1,q2,q3,q4,q5⟩:=fh (s.out.cf.ag o s.out.cf.lt);go_simp) ?_;simp only[Act.put,zb,ze,zf];refine aE (.string b) (by rfl) (fun V o=>by have Z:=(s.out.tx.ag o s.out.tx.lt).cell 0;go_simp) ?_;simp only[Act.put,zb,ze,zf];refine aE (.int .i64 k) (by rfl) (fun V o=>by have Z:=(s.out.at_.ag o s.out.at_.lt).cell 0;go_simp) ?_;simp only[Act.put,zb,ze,zf];refine aE (.string r) (by rfl) (fun _ _=>by first|rfl|go_simp) ?_;simp only[Act.put,zb,ze,zf];refine eK 65 _ _ (by rfl) (fun _=>by first|rfl|go_simp) (fun V _=>GY.out V) ?_;simp only[Act.put,zb,ze,zf];refine aE (.pointer (some ⟨g,0,none⟩)) (by rfl) (fun _ _=>by first|rfl|go_simp) ?_;simp only[Act.put,zb,ze,zf];refine aE (.pointer (some ⟨g,2,none⟩)) (by rfl) (fun _ _=>by first|rfl|go_simp) ?_;simp only[Act.put,zb,ze,zf];refine xL ?_;intro V o;have U7:fp V g D (.slice A b.size cap) F 0 laid K I:=CQ.out.ag o CQ.out.lt;obtain⟨_,_,J,p3,_,_,_⟩:=fp.parts U7;obtain⟨_,f2,f3,_,_,_⟩:=fp.Dk U7;have aQ:g<V.heap.size:=zT CQ.out.lt o.size;go_upto_region 15 with fail
   obtain⟨n,N⟩:∃n,V.setCell ⟨g,2,none⟩ (.int .i64 (gS c r:Nat))=n:=⟨_,rfl⟩
   rw[N];have ar:ae [p,g] w V:=(ah.out.mono (by simp)).trans' (ae.ah o (zd _)) (by simp);have LZ:Hid (ae (p::g::(Value.slice A b.size cap).ownBlock.toList) w n):=za (by rw[<-N];exact(ar.setCell (.inl (by simp)) _).mono (by intro i hi;simp at hi⊢;rcases hi with h|h<;>simp[h]));have G:ae [g] V n:=by rw[<-N];exact(ae.refl _ _).setCell (.inl (by simp)) _
   have Ok:Hid (bL n hi 5 (.slice A b.size cap) b.data.toList):=za ((U9.out.below o).qp G (by intro j e h;simp at h;subst h;exact OH.out.1 e));have aW:Hid (Met n (some p) (t+a+m) (R-a-m)):=za ((ag.out.only (ae.ah o (zd _)) (by simp)).only G (by intro j e;injection e with e;subst e;simpa using RV));have bE:g<w.heap.size:=AK;have ak:Hid (cd n (fun j=>z<=j/\j≠u) (u+1) acc (.slice A5 n5 ef)):=za ((kW.out.below o).only G (by have:=HZ.out;simp;omega) (fun j d e=>by have:=(kW.out.ge j e).1;have:=HZ.out;simp at d;omega));have SD:Hid (af n w.heap.size 35 #[.pointer (some ⟨g,0,none⟩)]):=za ((s.out.se.ag o s.out.se.lt).only G (by simp;omega));have SF:Hid (af n (cb+1+1) 3 #[.int .i64 k]):=za ((s.out.at_.ag o s.out.at_.lt).only G (by have:=HZ.out;simp;omega));have Kd:Hid (w.heap.size<=n.heap.size):=za LZ.out.size;clear ar G J p3 f2 f3 aQ;have jJ:Hid (fp n g D (.slice A b.size cap) (gS c r) 0 laid K I):=za (by rw[<-N];exact fp.TT U7 _);clear N o U7 CQ U9 ah ag s kW;have az:Hid ((split (aL c l) b).2.2.2=0->iQ c (split (aL c l) b).2.1 (gS c r)):=za (fun _=>by rw[B.out];exact bA.out);have Ow:g<n.heap.size:=jJ.out.lt;have RI:=za (Gi hi (.slice A b.size cap) b.data.toList k n.drew (Ok.out.below (zl _ _).drew) (by have:=Kd.out;show hi<=n.heap.size;omega) (by rw[aa];omega) (by rw[aa];omega));have aR:Hid (b.data.toList.drop k=r.data.toList):=za (by rw[<-av.out,an,cQ]);have J8:Hid (∀j,(Value.slice A b.size cap).ownBlock=some j->j<w.heap.size):=za (fun j e=>(oO.out.ge j e).2.1)
   have hHeld:(fun V:World=>V.cell? ⟨w.heap.size,0,none⟩=some (.pointer (some ⟨g,0,none⟩))/\V.cell? ⟨g,1,none⟩=some (.slice A b.size cap)/\V.cell? ⟨cb+1+1,0,none⟩=some (.int .i64 k)) n.drew:=⟨SD.out.cell 0,(fp.parts jJ.out).2.1,SF.out.cell 0⟩
   refine aC 9 (fun V=>V.cell? ⟨w.heap.size,0,none⟩=some (.pointer (some ⟨g,0,none⟩))/\V.cell? ⟨g,1,none⟩=some (.slice A b.size cap)/\V.cell? ⟨cb+1+1,0,none⟩=some (.int .i64 k)) (by kernel_rfl) (by kernel_rfl) ?_;refine GT.jV [0,1,2,3,4,5] hHeld (fun _ _ _ _ _ h=>h) (by kernel_rfl) ?_;repeat(refine .c rfl rfl (fun V o=>by go_simp<;>with_reducible rfl) ?_;simp only[Act.put,zb,ze,zf])
   refine .nil ?_;refine GT.fJ 6 (fun aY hK=> ?_) rfl (by kernel_rfl);go_simp;refine RI.out.mono ?_;rintro e x ⟨v',rfl,bR,M⟩;rw[aR.out]at bR;have Sy:fp n.drew g D (.slice A b.size cap) (gS c r) 0 laid K I:=af.drew jJ.out;have L:fp x g D (.slice A b.size cap) (gS c r) 0 laid K I:=af.Ts Sy M (OH.out.1);have SG:af x w.heap.size 35 #[.pointer (some ⟨g,0,none⟩)]:=af.Ts SD.out.drew M (fun e=>by have:=J8.out _ e;omega);have SI:af x (cb+1+1) 3 #[.int .i64 k]:=af.Ts SF.out.drew M (fun e=>by have:=J8.out _ e;omega);obtain⟨_,aH,_,_,_,_,_⟩:=fp.parts L;obtain⟨bM,_,_,_,_,_⟩:=fp.Dk L;have bD:g<x.heap.size:=L.lt;obtain⟨O,n6,W,rfl,Sz,bI,U8⟩:=bR.bT;have ei:=za L;have SH:=za M;have BE:=za bR;clear L Sy M bR RI;go_wp2_with fail
   refine hK.out _ _ ⟨SG.cell 0,aH,SI.cell 0⟩ (fun hHeld=> ?_);clear hK aY;try simp only[Act.put,zb,ze,zf]
   refine GT.jV [7,8] hHeld (fun _ _ _ _ _ h=>h) (by kernel_rfl) ?_;repeat(refine .c rfl rfl (fun V o=>by go_simp<;>with_reducible rfl) ?_;simp only[Act.put,zb,ze,zf])
   refine .nil ?_;refine GT.pA 9 ?_ rfl (by kernel_rfl);go_simp;clear hHeld SG SI;go_wp2;go_ret;have aT:ae [] n n.drew:=ae.ah (zl _ _).drew (zd _);have H:ae (Value.slice A b.size cap).ownBlock.toList n x:=(aT.mono (by simp)).trans SH.out.only;have ay:ae (p::g::(Value.slice A b.size cap).ownBlock.toList) w x:=LZ.out.trans' H (fun i hi=> .inl (by simp at hi⊢;exact .inr (.inr hi)));have SA:ae [g] x (x.setCell ⟨g,1,none⟩ (.slice O n6 W)):=(ae.refl [g] x).setCell (.inl (by simp)) _;have N1:=HZ.out;refine⟨.slice A5 n5 ef,.slice O n6 W,(gS c r),rfl, ?_, ?_, ?_, ?_, ?_, ?_,az.out⟩
   ·rw[B.out];have C:∀j,j∈(Value.slice A b.size cap).ownBlock.toList->j<w.heap.size:=fun j d=>J8.out j (cy.1 d)
    have ke:=ak.out.ge;have aM:∀j,j<n.heap.size->(z<=j/\j≠u)->w.heap.size<=j/\(Value.slice O n6 W).ownBlock≠some j:=fun j d hz=>⟨by omega,fun e=>by
     rcases SH.out.own with e2|⟨j',e2,U⟩
     ·have:=J8.out j (by rw[<-e2];exact e);omega
     rw[e2]at e;injection e with e;have U:n.heap.size<=j':=U;omega⟩
    exact((ak.out.fe aM (show w.heap.size<=u+1 by omega)).only H (fun j d hS=>by have:=C j d;have:=hS.1;omega) (fun j d e=>by have:=C j d;have:=ke j e;omega)).only SA (fun j d hS=>by simp at d;have:=hS.1;omega) (fun j d e=>by have:=ke j e;simp at d;omega)
   ·rw[B.out];exact fp.IM ei.out _
   ·rw[B.out];refine BE.out.ag (fun j h1 S=>zQ _ _ _ _ ?_);rintro rfl;exact(BE.out.dD ei.out (by decide)) S
   ·rw[B.out];have h1:=aW.out.only H (by intro j e;injection e with e;subst e;exact fun h=>OH.out.2 (cy.1 h));have S:=h1.only SA (by intro j e;injection e with e;subst e;simpa using RV);simpa only[ym,Nat.sub_sub]using S
   ·exact ay.setCell (.inl (by simp)) _
   intro j d;rcases SH.out.own with e|⟨j',e,U⟩
   ·exact .inl (by rw[<-e];exact d)
   rw[e]at d;injection d with d;exact .inr (by have:=Kd.out;have U:n.heap.size<=j':=U;omega)
  rw[zh S]at B;have B:=za B;have Wq:(y5==2)=false:=zm.2 S;obtain⟨V,aG⟩:∃V,wr=V:=⟨_,rfl⟩
  have o:Below wr.heap.size wr V:=by rw[<-aG];exact zl _ _
  have Z:V.cell? ⟨w.heap.size,0,none⟩=some (.pointer (some ⟨g,0,none⟩)):=(s.out.se.ag o s.out.se.lt).cell 0;rw[aG];clear aG ab;have U7:fp V g D (.slice A b.size cap) F 0 laid K I:=CQ.out.ag o CQ.out.lt;obtain⟨_,_,J,p3,_,_,_⟩:=fp.parts U7;obtain⟨_,f2,f3,_,_,_⟩:=fp.Dk U7;have aQ:g<V.heap.size:=zT CQ.out.lt o.size;go_upto_region 15 with fail
  obtain⟨n,N⟩:∃n,V.setCell ⟨g,3,none⟩ (.int .i64 y5)=n:=⟨_,rfl⟩
  rw[N];have ar:ae [p,g] w V:=(ah.out.mono (by simp)).trans' (ae.ah o (zd _)) (by simp);have LZ:Hid (ae (p::g::(Value.slice A b.size cap).ownBlock.toList) w n):=za (by rw[<-N];exact(ar.setCell (.inl (by simp)) _).mono (by intro i hi;simp at hi⊢;rcases hi with h|h<;>simp[h]));have G:ae [g] V n:=by rw[<-N];exact(ae.refl _ _).setCell (.inl (by simp)) _
  have Ok:Hid (bL n hi 5 (.slice A b.size cap) b.data.toList):=za ((U9.out.below o).qp G (by intro j e h;simp at h;subst h;exact OH.out.1 e));have aW:Hid (Met n (some p) (t+a+m) (R-a-m)):=za ((ag.out.only (ae.ah o (zd _)) (by simp)).only G (by intro j e;injection e with e;subst e;simpa using RV));have bE:g<w.heap.size:=AK;have ak:Hid (cd n (fun j=>z<=j/\j≠u) (u+1) acc (.slice A5 n5 ef)):=za ((kW.out.below o).only G (by have:=HZ.out;simp;omega) (fun j d e=>by have:=(kW.out.ge j e).1;have:=HZ.out;simp at d;omega));have SD:Hid (af n w.heap.size 35 #[.pointer (some ⟨g,0,none⟩)]):=za ((s.out.se.ag o s.out.se.lt).only G (by simp;omega));have SF:Hid (af n (cb+1+1) 3 #[.int .i64 k]):=za ((s.out.at_.ag o s.out.at_.lt).only G (by have:=HZ.out;simp;omega));have Kd:Hid (w.heap.size<=n.heap.size):=za LZ.out.size;clear ar G J p3 f2 f3 aQ;have jJ:Hid (fp n g D (.slice A b.size cap) F y5 laid K I):=za (by rw[<-N];exact fp.PU U7 _);clear N o U7 CQ U9 ah ag s kW Z;have az:Hid ((split (aL c l) b).2.2.2=0->iQ c (split (aL c l) b).2.1 F):=za (fun h=>by rw[B.out]at h;exact absurd h h1);have Ow:g<n.heap.size:=jJ.out.lt;have RI:=za (Gi hi (.slice A b.size cap) b.data.toList k n.drew (Ok.out.below (zl _ _).drew) (by have:=Kd.out;show hi<=n.heap.size;omega) (by rw[aa];omega) (by rw[aa];omega));have aR:Hid (b.data.toList.drop k=r.data.toList):=za (by rw[<-av.out,an,cQ]);have J8:Hid (∀j,(Value.slice A b.size cap).ownBlock=some j->j<w.heap.size):=za (fun j e=>(oO.out.ge j e).2.1)
  have hHeld:(fun V:World=>V.cell? ⟨w.heap.size,0,none⟩=some (.pointer (some ⟨g,0,none⟩))/\V.cell? ⟨g,1,none⟩=some (.slice A b.size cap)/\V.cell? ⟨cb+1+1,0,none⟩=some (.int .i64 k)) n.drew:=⟨SD.out.cell 0,(fp.parts jJ.out).2.1,SF.out.cell 0⟩
  refine aC 9 (fun V=>V.cell? ⟨w.heap.size,0,none⟩=some (.pointer (some ⟨g,0,none⟩))/\V.cell? ⟨g,1,none⟩=some (.slice A b.size cap)/\V.cell? ⟨cb+1+1,0,none⟩=some (.int .i64 k)) (by kernel_rfl) (by kernel_rfl) ?_;refine GT.jV [0,1,2,3,4,5] hHeld (fun _ _ _ _ _ h=>h) (by kernel_rfl) ?_;repeat(refine .c rfl rfl (fun V o=>by go_simp<;>with_reducible rfl) ?_;simp only[Act.put,zb,ze,zf])
  refine .nil ?_;refine GT.fJ 6 (fun aY hK=> ?_) rfl (by kernel_rfl);go_simp;refine RI.out.mono ?_;rintro e x ⟨v',rfl,bR,M⟩;rw[aR.out]at bR;have Sy:fp n.drew g D (.slice A b.size cap) F y5 laid K I:=af.drew jJ.out;have L:fp x g D (.slice A b.size cap) F y5 laid K I:=af.Ts Sy M (OH.out.1);have SG:af x w.heap.size 35 #[.pointer (some ⟨g,0,none⟩)]:=af.Ts SD.out.drew M (fun e=>by have:=J8.out _ e;omega);have SI:af x (cb+1+1) 3 #[.int .i64 k]:=af.Ts SF.out.drew M (fun e=>by have:=J8.out _ e;omega);obtain⟨_,aH,_,_,_,_,_⟩:=fp.parts L;obtain⟨bM,_,_,_,_,_⟩:=fp.Dk L;have bD:g<x.heap.size:=L.lt;obtain⟨O,n6,W,rfl,Sz,bI,U8⟩:=bR.bT;have ei:=za L;have SH:=za M;have BE:=za bR;clear L Sy M bR RI;go_wp2_with fail
  refine hK.out _ _ ⟨SG.cell 0,aH,SI.cell 0⟩ (fun hHeld=> ?_);clear hK aY;try simp only[Act.put,zb,ze,zf]
  refine GT.jV [7,8] hHeld (fun _ _ _ _ _ h=>h) (by kernel_rfl) ?_;repeat(refine .c rfl rfl (fun V o=>by go_simp<;>with_reducible rfl) ?_;simp only[Act.put,zb,ze,zf])
  refine .nil ?_;refine GT.pA 9 ?_ rfl (by kernel_rfl);go_simp;clear hHeld SG SI;go_wp2;go_ret;have aT:ae [] n n.drew:=ae.ah (zl _ _).drew (zd _);have H:ae (Value.slice A b.size cap).ownBlock.toList n x:=(aT.mono (by simp)).trans SH.out.only;have ay:ae (p::g::(Value.slice A b.size cap).ownBlock.toList) w x:=LZ.out.trans' H (fun i hi=> .inl (by simp at hi⊢;exact .inr (.inr hi)));have SA:ae [g] x (x.setCell ⟨g,1,none⟩ (.slice O n6 W)):=(ae.refl [g] x).setCell (.inl (by simp)) _;have N1:=HZ.out;refine⟨.slice A5 n5 ef,.slice O n6 W,F,rfl, ?_, ?_, ?_, ?_, ?_, ?_,az.out⟩
  ·rw[B.out];have C:∀j,j∈(Value.slice A b.size cap).ownBlock.toList->j<w.heap.size:=fun j d=>J8.out j (cy.1 d)
   have ke:=ak.out.ge;have aM:∀j,j<n.heap.size->(z<=j/\j≠u)->w.heap.size<=j/\(Value.slice O n6 W).ownBlock≠some j:=fun j d hz=>⟨by omega,fun e=>by
    rcases SH.out.own with e2|⟨j',e2,U⟩
    ·have:=J8.out j (by rw[<-e2];exact e);omega
    rw[e2]at e;injection e with e;have U:n.heap.size<=j':=U;omega⟩
   exact((ak.out.fe aM (show w.heap.size<=u+1 by omega)).only H (fun j d hS=>by have:=C j d;have:=hS.1;omega) (fun j d e=>by have:=C j d;have:=ke j e;omega)).only SA (fun j d hS=>by simp at d;have:=hS.1;omega) (fun j d e=>by have:=ke j e;simp at d;omega)
  ·rw[B.out];exact fp.IM ei.out _
  ·rw[B.out];refine BE.out.ag (fun j h1 S=>zQ _ _ _ _ ?_);rintro rfl;exact(BE.out.dD ei.out (by decide)) S
  ·rw[B.out];have h1:=aW.out.only H (by intro j e;injection e with e;subst e;exact fun h=>OH.out.2 (cy.1 h));have S:=h1.only SA (by intro j e;injection e with e;subst e;simpa using RV);simpa only[ym,Nat.sub_sub]using S
  ·exact ay.setCell (.inl (by simp)) _
  intro j d;rcases SH.out.own with e|⟨j',e,U⟩
  ·exact .inl (by rw[<-e];exact d)
  rw[e]at d;injection d with d;exact .inr (by have:=Kd.out;have U:n.heap.size<=j':=U;omega)
theorem Bk (lo hi g:Nat)(n:Value)(c:aN)(l:List bC)(x:eU)(d:Nat)(s:ByteArray)(w:World)(h:dJ w lo hi g n c l x d)(r:x.fault≠0):
 Calls prog 16 #[.pointer (some ⟨g,0,none⟩),.string s] w fun e w'=>e= .returned (.tuple #[.slice none 0 0,.int .i64 x.fault])/\dJ w' lo hi g n c l {x with laid:=0} d/\ae [g] w w':=by
 obtain⟨A,C,F,rows,D,o,q,b,u⟩:=h.reg;have m:=h.buf;have H:=b.lt;have K:(x.fault !=0)=true:=yL.2 r;have M:=za b;have z:=m.dD b (by decide);have i:ae [g] w (w.setCell ⟨g,4,none⟩ (.int .i64 0)):=(ae.refl [g] w).setCell (p:=⟨g,4,none⟩) (.inl (by simp)) _;have E:=h.Ho;have B:Hid (∀k,dJ ((w.setCell ⟨g,4,none⟩ (.int .i64 0)).drewN k) lo hi g n c l {x with laid:=0} d):=za (fun k=>⟨h.lohi,h.Ho,⟨A,C,F,rows,D,(o.only i (by simp;omega)).below (Below.bG (zl _ _) k),q,(fp.Dl b 0).drewN k,u⟩,(m.qp i (by intro j e y;simp at y;subst y;exact z e)).below (Below.bG (zl _ _) k)⟩);obtain⟨R,O,G,I,J,N,L⟩:=b.parts;obtain⟨_,_,_,f9,_,_⟩:=b.Dk;clear b m u z r o q i E h;go_enter func16,ntmps16
 go_wp2_with fail
 go_quiet (fail)
 go_wp2;refine zk (v:= .tuple #[.slice none 0 0,.int .i64 x.fault]) (by simp[results,results16,go_sem]) rfl ?_;exact⟨rfl,B.out _,ae.drewN ((ae.refl _ _).setCell (.inl (by simp)) _) _⟩
theorem DJ (lo hi g:Nat)(bv:Value)(c:aN)(l:List bC)(x:eU)(r:Nat)(s:ByteArray)(w:World)(hr:c.right=true)(hc:c.ok)(h:dJ w lo hi g bv c l x r)(hL:Laid w)(ic:ba w)(LP:1<lo)(JM:0<lo)(h0:x.fault=0)(hs:x.buf.size+s.size<=100000)(ht:x.told<=1000000000):
 Calls prog 16 #[.pointer (some ⟨g,0,none⟩),.string s] w fun e w'=>∃rv D,e= .returned (.tuple #[rv,.int .i64 (mX (aL c l) x s).2.2])/\cd w' (fun j=>w.heap.size<=j/\D.ownBlock≠some j) w.heap.size (mX (aL c l) x s).2.1 rv/\dJ w' lo hi g D c l (mX (aL c l) x s).1 r/\ae (mH g bv) w w'/\(∀k,D.ownBlock=some k->bv.ownBlock=some k\/w.heap.size<=k):=by
 obtain⟨B,gn,gi,rows,I,hM,rp,C,tT⟩:=h.reg;have F:=h.buf;have ke:=h.Ho;have aT:=h.lohi;clear h;have Sc:hi<=w.heap.size:=by have:=C.lt;omega
 obtain⟨b,fl,ld,q⟩:=x;simp only at h0 C F tT hs ht;subst h0;rw[fq rfl];simp only;have ag:=IF c l (b++s);rw[bD]at ag;have AD:=Xb c l (b++s);rw[bD]at AD;obtain⟨X,hX⟩:∃X,split (aL c l) (b++s)=X:=⟨_,rfl⟩
 rw[hX]at ag AD⊢;obtain⟨ml,tl,m,er⟩:=X;simp only at ag AD⊢;have HX:=za hX;clear hX;have AK:=C.lt;have cB:=F.dD C (by decide);have hf:=F.form;rw[aa]at hf;obtain⟨A,cap,rfl,qX,mR⟩:=hf;obtain⟨p,L⟩:∃p,w.setCell ⟨g,4,none⟩ (.int .i64 0)=p:=⟨_,rfl⟩
 have sA:ae [g] w p:=by rw[<-L];exact(ae.refl _ _).setCell (.inl (by simp)) _
 have cl:p.heap.size=w.heap.size:=by rw[<-L];simp[World.setCell]
 have ch:Hid (fp p g B (.slice A b.size cap) I 0 0 q r):=za (by rw[<-L];exact fp.Dl C 0);have an:Hid (bL p hi 5 (.slice A b.size cap) b.data.toList):=za (F.qp sA (by intro j e d;simp at d;subst d;exact cB e));have aC:=za sA;have VW:=za (tT rfl);have oO:=za F;have SB:Hid (∀k,(Value.slice A b.size cap).ownBlock=some k->k<w.heap.size):=za (fun k e=>(F.ge k e).2.1);have OH:=za cB;obtain⟨p0,p6,p7,p8,p9,aE,aM⟩:=C.parts;obtain⟨_,_,_,f9,_,_⟩:=C.Dk;obtain⟨i0,aG,ea,aQ,cC⟩:=yE vo;have ak:=za (IS 9223372036854775807 p);have jc:=za L;have Hj:=za hM;have CK:=za rp;have SJ:=za (And.intro hL ic);have aX:lo<=g:=by omega
 clear C F tT cB sA L hM rp hL ic;go_enter func16,ntmps16
 go_wp2_with fail
 rw[jc.out];clear p0 p6 p7 p8 p9 aE aM f9;refine ak.out.mono ?_;rintro e J ⟨rfl,ry⟩;have kX:Below p.heap.size p J:=by rw[ry];exact(zl _ _).alloc (zd _) _
 have CM:tI J p.heap.size 9223372036854775807 0 0 0:=by rw[ry];exact af.new _ _ _
 obtain⟨n,RV⟩:∃n,p.heap.size=n:=⟨_,rfl⟩
 have HT:=za (qE n 9223372036854775807 0 0 0 s.size J (by rw[<-RV];exact CM) (by omega) (by omega) (by omega));have du:Hid (fp J g B (.slice A b.size cap) I 0 0 q r):=za (ch.out.ag kX ch.out.lt);have ar:=za (an.out.below kX);have V0:Hid (ae [g] w J):=za (aC.out.trans' (ae.ah kX (zd _)) (by simp));have ab:n≠g:=by omega
 have aH:w.heap.size<=n:=by omega
 have tM:n<J.heap.size:=by have:=CM.lt;omega
 rw[RV];clear ry CM kX ch an aC ak RV cl jc;go_wp2_with fail
 refine HT.out.mono ?_;rintro e w3 ⟨rfl,ad,Er⟩;simp only[zM]at ad;have S:Hid (fp w3 g B (.slice A b.size cap) I 0 0 q r):=za (du.out.only Er (by simpa using Zh ab));have Ok:=za (ar.out.qp Er (by intro j e d;simp at d;subst d;have:=SB.out j e;omega));have U:Hid (ae [g] w w3):=za (V0.out.trans' Er (by simp;omega));have aA:=za ad;obtain⟨_,p6,_,_,_,_,_⟩:=S.out.parts;have bU:hi<=w3.heap.size:=by have:=U.out.size;omega
 have LF:w.heap.size<=w3.heap.size:=U.out.size;have Ow:g<w3.heap.size:=S.out.lt;clear Er ad du ar V0 HT;go_wp2_with (
  at_builtin
  refine cx (by rfl) (.tmp 31) (.tmp 32) 31 9 (by rfl) hi 5 i0 zr aG ea aQ cC (by rfl) Ok.out _ s.data.toList (by rfl) (jt zG w3 s) bU (by rw[aa,aa];omega) ?_;intro y u z E bR D9;have H:Hid (fp E g B (.slice A b.size cap) I 0 0 q r):=za (af.Ts S.out D9 OH.out);have aB:tI E n 9223372036854775807 s.size s.size (max 0 s.size):=af.Ts aA.out D9 (fun e=>by have:=SB.out _ e;omega);have Tg:=za aB;have SH:=za D9;have Z:Hid (bL E hi 5 (.slice y u z) (b++s).data.toList):=za (by rw[aP];exact bR);obtain⟨_,aS,_,_,_,_,_⟩:=H.out.parts;obtain⟨aR,_,_,_,_,_⟩:=H.out.Dk;have aV:g<E.heap.size:=H.out.lt;clear bR D9 aB)
 obtain⟨o,O⟩:∃o,E.setCell ⟨g,1,none⟩ (.slice y u z)=o:=⟨_,rfl⟩
 rw[O];have EA:ae [g] E o:=by rw[<-O];exact(ae.refl _ _).setCell (.inl (by simp)) _
 have fT:Hid (fp o g B (.slice y u z) I 0 0 q r):=za (by rw[<-O];exact fp.IM H.out _);have G:Hid ((Value.slice y u z).ownBlock≠some g/\(Value.slice y u z).ownBlock≠some n/\∀k,(Value.slice y u z).ownBlock=some k->(Value.slice A b.size cap).ownBlock=some k\/w.heap.size<=k):=za ⟨Z.out.dD H.out (by decide),Z.out.dD Tg.out (by decide),fun k e=>by
  rcases SH.out.own with h|⟨j,h,d⟩
  ·exact .inl (by rw[<-h];exact e)
  rw[h]at e;injection e with e;exact .inr (by omega)⟩
 have ai:Hid (bL o hi 5 (.slice y u z) (b++s).data.toList):=za (Z.out.qp EA (by intro j e d;simp at d;subst d;exact G.out.1 e));have L6:tI o n 9223372036854775807 s.size s.size (max 0 s.size):=af.only Tg.out EA (by simpa using ab);have Y:Hid (ae (mH g (.slice A b.size cap)) w o):=za (((U.out.mono (by simp[mH])).trans' SH.out.only (fun i hi=> .inl (iR.2 (.inr (cy.1 hi))))).trans' EA (by simp[mH]));have CO:E.heap.size=o.heap.size:=by rw[<-O];simp[World.setCell]
 have aY:w.heap.size<=o.heap.size:=Y.out.size;have au:hi<=n:=by omega
 have Ve:Hid (∀k,(Value.slice A b.size cap).ownBlock=some k->hi<=k):=za (fun k e=>by have:=oO.out.ge k e;omega);have al:Hid (mw o lo hi B gn gi c rows):=za (Hj.out.only Y.out (fun k M=> .inr ((iR.1 M).elim (fun h=>by omega) (fun h=>Ve.out k h))));have N9:Hid (∀V,ae (n::g::(Value.slice y u z).ownBlock.toList) o V->Laid V/\ba V):=za (fun V hV=>by
  have mU:ae (n::g::(Value.slice A b.size cap).ownBlock.toList) w V:=(Y.out.mono (by intro i hi;rcases iR.1 hi with h|h<;>simp[h])).trans' hV (by
   intro i hi;simp only[y9,cy]at hi⊢;rcases hi with rfl|rfl|e
   ·exact .inl (.inl rfl)
   ·exact .inl (.inr (.inl rfl))
   rcases G.out.2.2 i e with h|h
   ·exact .inl (.inr (.inr h))
   exact .inr h)
  have hn:∀k,k<lo->k∉(n::g::(Value.slice A b.size cap).ownBlock.toList):=fun k M hm=>by
   simp only[y9,cy]at hm;rcases hm with rfl|rfl|e
   ·omega
   ·omega
   have:=Ve.out k e;omega
  exact⟨SJ.out.1.only mU (hn _ LP),SJ.out.2.only mU (hn _ JM)⟩)
 have W:=za (UC c l lo hi B gn gi rows g n (.slice y u z) (b++s) I 0 q r s.size (9223372036854775807-s.size) o hr hc (by rw[bD];omega) al.out CK.out fT.out ai.out ke ⟨_,_,_,L6,by omega,by omega,by omega⟩ ab au G.out.2.1 (by omega) (VW.out.more s) N9.out);rw[HX.out]at W;simp only at W;clear O EA H Z fT ai L6 Tg U p6 aS aR aA S Ok SH;refine W.out.mono ?_;rintro e R ⟨rv,D,av,rfl,ah,K,aj,aI,aw,WE,ao⟩;obtain⟨A6,N,dZ,rfl,Sz,a1,U8⟩:=cd.bT ah;obtain⟨a7,u7,q7,ax,_⟩:=aI;have UH:=za (T1 n a7 u7 (s.size+m) q7 R ax);obtain⟨_,_,_,_,p9,aE,_⟩:=fp.parts K;obtain⟨_,_,_,f9,f10,_⟩:=fp.Dk K;have aW:=K.lt;have aZ:N<=200000:=by rw[Sz.out];omega
 have az:=za ah;have sD:=za K;have ay:=za aj;have aD:=za aw;have aU:=za WE;have aK:=za ao;clear ah K aj aw WE ao ax W;go_wp2_with fail
 refine UH.out.mono ?_;rintro e w7 ⟨rfl,rfl⟩;go_wp2_with fail
 go_quiet (fail)
 go_wp2;obtain⟨W8,AN⟩:∃W8,(R.setCell ⟨g,4,none⟩ (.int .i64 ((s.size:Int)+m))).setCell ⟨g,5,none⟩ (.int .i64 ((q:Int)+N))=W8:=⟨_,rfl⟩
 have Vf:ae [g] R W8:=by rw[<-AN];exact((ae.refl [g] R).setCell (.inl (by simp)) _).setCell (.inl (by simp)) _
 have aJ:fp W8 g B D av er (s.size+m) (q+ml.length) r:=by
  have e1:((s.size:Int)+m)=((s.size+m:Nat):Int):=by omega
  have e2:((q:Int)+N)=((q+ml.length:Nat):Int):=by rw[Sz.out];omega
  rw[<-AN,e1,e2];exact fp.TU (fp.Dl sD.out _) _
 have aF:=ay.out.dD sD.out (by decide);rw[AN];clear AN;refine zk (v:= .tuple #[.slice A6 N dZ,.int .i64 er]) (by simp[results,results16,go_sem]) rfl ?_;refine⟨.slice A6 N dZ,D,rfl, ?_,⟨aT,ke,⟨B,gn,gi,rows,av, ?_,CK.out,aJ.drewN nq,aK.out⟩, ?_⟩, ?_, ?_⟩
 ·have h1:=(az.out.only Vf (fun j d hS=>by simp at d;have:=hS.1;omega) (fun j d e=>by have:=az.out.ge j e;simp at d;omega)).fe (S1:=fun j=>w.heap.size<=j/\D.ownBlock≠some j) (lo':=w.heap.size) (fun j _ hS=>⟨by have:=hS.1;omega,hS.2⟩) (by omega);exact h1.below (Below.bG (zl _ _) nq)
 ·refine((al.out.only aD.out ?_).only Vf (by simp;omega)).below (Below.bG (zl _ _) nq);intro k M;simp only[y9,cy]at M;rcases M with rfl|rfl|e
  ·exact .inr au
  ·exact .inr ke
  rcases G.out.2.2 k e with h|h
  ·exact .inr (Ve.out k h)
  exact .inr (by omega)
 ·exact(ay.out.qp Vf (by intro j e d;simp at d;subst d;exact aF e)).below (Below.bG (zl _ _) nq)
 ·refine ae.drewN ((Y.out.trans' aD.out ?_).trans' Vf (by simp[mH])) nq;intro i hi;simp only[y9,cy]at hi;rcases hi with rfl|rfl|e
  ·exact .inr aH
  ·exact .inl (by simp[mH])
  rcases G.out.2.2 i e with h|h
  ·exact .inl (iR.2 (.inr h))
  exact .inr h
 intro k e;rcases aU.out k e with h|h
 ·exact G.out.2.2 k h
 exact .inr (by omega)
theorem lH (lo hi g:Nat)(b:Value)(c:aN)(l:List bC)(x:eU)(i:Nat)(s:ByteArray)(w:World)(y:c.right=true)(n:c.ok)(h:dJ w lo hi g b c l x i)(A:Laid w)(r:ba w)(B:1<lo)(q:0<lo)(p:x.buf.size+s.size<=100000)(o:x.told<=1000000000):
 Calls prog 16 #[.pointer (some ⟨g,0,none⟩),.string s] w fun e w'=>∃rv m,e= .returned (.tuple #[rv,.int .i64 (mX (aL c l) x s).2.2])/\cd w' (fun j=>w.heap.size<=j/\m.ownBlock≠some j) w.heap.size (mX (aL c l) x s).2.1 rv/\dJ w' lo hi g m c l (mX (aL c l) x s).1 i/\ae (mH g b) w w'/\(∀k,m.ownBlock=some k->b.ownBlock=some k\/w.heap.size<=k):=by
 by_cases d:x.fault=0
 ·exact DJ lo hi g b c l x i s w y n h A r B q d p o
 refine(Bk lo hi g b c l x i s w h d).mono fun e w' ⟨C,z,D⟩=>⟨.slice none 0 0,b, ?_, ?_, ?_,D.mono (by simp[mH]),fun k u=> .inl u⟩
 ·rw[fY d];exact C
 ·rw[fY d];exact cd.nil _ _ _
 rw[fY d];exact z
theorem DK (lo hi g:Nat)(i:Value)(c:aN)(l:List bC)(x:eU)(j:Nat)(w:World)(h:dJ w lo hi g i c l x j):
 Calls prog 24 #[.pointer (some ⟨g,0,none⟩)] w fun e w'=>e= .returned (.int .i64 (x.buf.size:Nat))/\w=w':=by
 obtain⟨_,_,_,_,_,_,_,d,_⟩:=h.reg;have b:=h.buf.form;rw[aa]at b;obtain⟨A,cap,rfl,_,_⟩:=b;obtain⟨_,q,p,m,o,k,n⟩:=d.parts;clear d h;go_enter func24,ntmps24
 go_wp2;go_ret;exact⟨rfl,rfl⟩
def acK (w:World)(c:aN)(l:List bC)(e:Ending)(w':World):Prop:=
 Below w.heap.size w w'/\((mQ c l=0/\∃lo hi g,w.heap.size<=lo/\e= .returned (.tuple #[.pointer (some ⟨g,0,none⟩),.int .i64 0])/\dJ w' lo hi g (.slice none 0 0) c l eU.new 0)\/(mQ c l≠0/\e= .returned (.tuple #[.pointer none,.int .i64 (mQ c l)])))
theorem Lm (c:aN)(l:List bC)(v:Value)(B:Nat)(w:World)(k:po w B v l)(N:B<=w.heap.size)(q:Laid w)(u:∀e∈l,oV e):
 Calls prog 28 #[c.val,v] w (acK w c l):=by
 obtain⟨Y,n,cap,rfl,Z,W,X⟩:=k.bT;obtain⟨b,h⟩:∃b,w.alloc (.cells #[.int .i64 c.fm,.int .u32 c.mg,.int .i64 c.fr,.int .i64 c.un,.int .i64 c.de,.int .i64 c.it] 24)=b:=⟨_,rfl⟩
 have i:Below w.heap.size w b:=by rw[<-h];exact(zl _ w).alloc (zd _) _
 have y:b.heap.size=w.heap.size+1:=by rw[<-h];simp
 have s:af b w.heap.size 24 #[.int .i64 c.fm,.int .u32 c.mg,.int .i64 c.fr,.int .i64 c.un,.int .i64 c.de,.int .i64 c.it]:=by rw[<-h];exact af.new w _ _
 have A:=za (Uo c l _ B b (k.below (i.mono N)) (by omega) (q.below i q.pos) u);obtain⟨J,O,R,L,H,G⟩:=fh s;have x:=za i;have D:=za y;have M:=za h;unfold aN.val at*;clear k q u i y s h;go_enter func28,ntmps28
 go_wp2_with fail
 rw[M.out];refine A.out.mono ?_;rintro e j ⟨o,F⟩;have p:=za (x.out.trans (o.mono (by have:=D.out;omega)));have S:=o.size;clear o A J O R L H G;rcases F with⟨d,E,K,U,rows,rfl,z,r⟩|⟨d,rfl⟩
 ·have I:=za z;have C:=za r;have m:=za d;clear z r d;go_wp2;refine zk (v:= .tuple #[.pointer (some ⟨j.heap.size,0,none⟩),.int .i64 0]) (by simp[results,results28,go_sem]) rfl ?_;refine⟨p.out.alloc p.out.size _,.inl ⟨m.out,b.heap.size,j.heap.size,j.heap.size,x.out.size,rfl,S,zd _,⟨E,K,U,rows,0,I.out.below ((zl _ j).alloc (zd _) _),C.out,af.new _ _ _,fun _=>iQ.zero _ _⟩,bL.nil _ _ _⟩⟩
 have z2:(mQ c l !=0)=true:=yL.2 d;have m:=za d;clear d;go_wp2;refine zk (v:= .tuple #[.pointer none,.int .i64 (mQ c l)]) (by simp[results,results28,go_sem]) rfl ?_;exact⟨p.out,.inr ⟨m.out,rfl⟩⟩
theorem QW (lo hi g:Nat)(O:Value)(c:aN)(l:List bC)(x:eU)(m:Nat)(nm:ByteArray)(it:It)(B:Nat)(w:World)(c0 c1 c2:Value)(hc:c.ok)(h:dJ w lo hi g O c l x m)(hI:dg w B it c0 c1 c2)(hB:B<=w.heap.size)(hL:Laid w)(ic:ba w)
 (Z:c.fm≠1->it.gI.length<=1000000) (ah:(bI c l nm it).1.ok) (V6:m<=1000000000):
 Calls prog 11 #[.pointer (some ⟨g,0,none⟩),.agg #[.string nm,c0,c1,c2]] w fun e w'=>e= .returned (.tuple #[.string (cL c l nm it).1,.int .i64 (cL c l nm it).2])/\dJ w' lo hi g O c l x (if(cL c l nm it).2=0 then m+1 else m)/\ae [g] w w':=by
 obtain⟨r,gn,gi,rows,nd,L,hr,hS,tT⟩:=h.reg;have AK:=hS.lt;obtain⟨N,Y,rfl,rfl,rfl,_⟩:=hI.open_;obtain⟨b,S⟩:∃b,w.alloc (.cells #[.string nm,.string it.text,.bool it.list,.slice N it.sub.length Y] 30)=b:=⟨_,rfl⟩
 have R:Below w.heap.size w b:=by rw[<-S];exact(zl _ w).alloc (zd _) _
 have ea:b.heap.size=w.heap.size+1:=by rw[<-S];simp
 have Am:af b w.heap.size 30 #[.string nm,.string it.text,.bool it.list,.slice N it.sub.length Y]:=by rw[<-S];exact af.new w _ _
 have ad:=L.below (R.mono L.his);have aj:c.fm=1\/(bI c l nm it).1.body.size<=1000000:=by
  by_cases X:c.fm=1
  ·exact .inl X
  by_cases y:(bI c l nm it).2=0
  ·obtain⟨e,A,J,h3⟩:=qw y;have h4:=(Ch X J (by have:=Z X;omega)).2;rw[h3,zh X];show _\/(bY c e.shape it).1.size<=_
   rw[h4,<-aa];have:=Z X;simp;exact .inr (by omega)
  rw[ML y];exact .inr (by simp[rG,ByteArray.size])
 have HE:Hid (∀V,Below b.heap.size b V->Calls prog 33 #[.pointer (some ⟨r,0,none⟩),.agg #[.string nm,.string it.text,.bool it.list,.slice N it.sub.length Y]] V fun e w'=>e= .returned (.tuple #[(bI c l nm it).1.val,.int .i64 (bI c l nm it).2])/\Below V.heap.size V w'):=za (fun V d=>by
  have aH:=R.trans (d.mono (by omega));have:=Ul lo hi r gn gi c rows nm it B V _ _ _ (L.below (aH.mono L.his)) (hI.below (aH.mono hB)) (by have:=d.size;omega) (hL.below aH hL.pos) (ic.below aH ic.pos) (fun h=>by have:=Z h;omega);rwa [hr]at this)
 have US:=za (fun V (d:Below b.heap.size b V)=>Ll lo hi r gn gi c rows V (ad.below (d.mono ad.his)));have HP:=za (fun V=>UA c (bI c l nm it).1 hc ah aj V);have I:Hid (cL c l nm it=if(bI c l nm it).2≠0 then(ByteArray.empty,(bI c l nm it).2)else fx c (bI c l nm it).1):=za rfl;have ai:Hid ((fx c (bI c l nm it).1).2≠0->(fx c (bI c l nm it).1).1=ByteArray.empty):=za Px;generalize cL c l nm it=SP at*;obtain⟨W,Et⟩:∃W,(if SP.2=0 then m+1 else m)=W:=⟨_,rfl⟩
 rw[Et];have H:=za Et;clear Et;generalize fx c (bI c l nm it).1=PP at*;generalize bI c l nm it=av at*;obtain⟨F,E⟩:=av;obtain⟨M,D⟩:=PP;obtain⟨u,fn,s⟩:=F;simp only at HE HP I ai;have OI:=za (hS.ag R AK);have RK:=za h;have kZ:=za R;have By:=za ea;have cG:=za S;have OM:=za Am;have p:Hid (∀V,Below b.heap.size b V->V.cell? ⟨g,0,none⟩=some (.pointer (some ⟨r,0,none⟩))/\V.cell? ⟨w.heap.size,0,none⟩=some (.string nm)/\V.cell? ⟨w.heap.size,1,none⟩=some (.string it.text)/\V.cell? ⟨w.heap.size,2,none⟩=some (.bool it.list)/\V.cell? ⟨w.heap.size,3,none⟩=some (.slice N it.sub.length Y)):=za (fun V d=>by
  have A:fp V g r O nd x.fault x.laid x.told m:=OI.out.ag d OI.out.lt;have J:=OM.out.ag d OM.out.lt;exact⟨A.parts.1,J.cell 0,J.cell 1,J.cell 2,J.cell 3⟩)
 unfold aN.val Fr.val at*;clear h L hr tT hI hL ic Z ah R ea Am ad aj S hS;go_enter func11,ntmps11
 go_upto_region 3 with fail
 rw[cG.out];go_cut [6,7] (fun v1 v2 i=>∃bf:Nat,v1= .pointer (some ⟨bf,0,none⟩)/\v2= .int .i64 E/\Hid (Below b.heap.size b i)/\Hid (af i bf 84 #[.int .u64 u,.string fn,.string s]))
 case rest=>
  obtain⟨bf,rfl,rfl,o,C⟩:=hcut;obtain⟨i,ak⟩:∃i,i=wc:=⟨_,rfl⟩
  subst ak;have CO:=o.out.size;have Ef:=za (kZ.out.trans (o.out.mono (by have:=By.out;omega)));have ao:w.heap.size<=i.heap.size:=Ef.out.size;rcases eT E with⟨y,z1,z2⟩|⟨y,z1,z2⟩
  ·subst y;rw[zh (by simp)]at I;have p0:=(p.out i o.out).1;go_wp2_with fail
   refine jh (by kernel_rfl) (by kernel_rfl) ?_;refine aE (.pointer (some ⟨g,0,none⟩)) (by rfl) (fun _ _=>by first|rfl|go_simp) ?_;simp only[Act.put,zb,ze,zf];refine aE (.pointer (some ⟨g,0,none⟩)) (by rfl) (fun _ _=>by first|rfl|go_simp) ?_;simp only[Act.put,zb,ze,zf];refine aE (.pointer (some ⟨g,0,none⟩)) (by rfl) (fun _ _=>by first|rfl|go_simp) ?_;simp only[Act.put,zb,ze,zf];refine aE (.pointer (some ⟨r,0,none⟩)) (by rfl) (fun V d=>by have p0:=(p.out V (o.out.trans (d.mono CO))).1;go_simp) ?_;simp only[Act.put,zb,ze,zf];refine eK 35 _ (.agg #[.int .i64 c.fm,.int .u32 c.mg,.int .i64 c.fr,.int .i64 c.un,.int .i64 c.de,.int .i64 c.it]) (by rfl) (fun _=>by first|rfl|go_simp) (fun V d=>US.out V (o.out.trans (d.mono CO))) ?_;simp only[Act.put,zb,ze,zf];refine aE (.agg #[.int .u64 u,.string fn,.string s]) (by rfl) (fun V d=>by obtain⟨f0,f1,f2⟩:=kz (C.out.ag d C.out.lt);go_simp) ?_;simp only[Act.put,zb,ze,zf];refine eK 34 _ (.tuple #[.string M,.int .i64 D]) (by rfl) (fun _=>by first|rfl|go_simp) (fun V d=>HP.out V) ?_;simp only[Act.put,zb,ze,zf];refine aE (.tuple #[.string M,.int .i64 D]) (by rfl) (fun _ _=>by first|rfl|go_simp) ?_;simp only[Act.put,zb,ze,zf];refine aE (.string M) (by rfl) (fun _ _=>by first|rfl|go_simp) ?_;simp only[Act.put,zb,ze,zf];refine aE (.int .i64 D) (by rfl) (fun _ _=>by first|rfl|go_simp) ?_;simp only[Act.put,zb,ze,zf];refine aE (.string M) (by rfl) (fun _ _=>by first|rfl|go_simp) ?_;simp only[Act.put,zb,ze,zf]
   refine aE (.int .i64 D) (by rfl) (fun _ _=>by first|rfl|go_simp) ?_;simp only[Act.put,zb,ze,zf];refine xL ?_;intro V d;have gK:Hid (Below w.heap.size w V):=za (Ef.out.trans (d.mono ao));have z:Hid (dJ V lo hi g O c l x m):=za (RK.out.below gK.out);have ab:fp V g r O nd x.fault x.laid x.told m:=OI.out.ag (o.out.trans (d.mono CO)) OI.out.lt;have aw:g<V.heap.size:=ab.lt;obtain⟨_,_,_,_,_,_,p6⟩:=ab.parts;obtain⟨_,_,_,_,_,f6⟩:=ab.Dk;clear d ab p0;rcases eT D with⟨A,u1,u2⟩|⟨A,u1,u2⟩
   ·subst A;go_wp2;refine zk (v:= .tuple #[.string M,.int .i64 0]) (by simp[results,results11,go_sem]) rfl ?_;rw[I.out]at H⊢;obtain rfl:m+1=W:=by rw[<-H.out,zi rfl]
    have ho:ae [g] V (V.setCell ⟨g,6,none⟩ (.int .i64 ((m:Int)+1))):=(ae.refl _ _).setCell (by simp) _;refine⟨rfl, ?_,((ae.ah gK.out (zd _)).mono (by simp)).trans ho⟩;obtain⟨aq,ar,au,an,al,k1,k2,k3,k4⟩:=z.out.reg;have e1:((m:Int)+1)=((m+1:Nat):Int):=by omega
    have Ho:=z.out.Ho;have cB:=z.out.buf.dD k3 (by decide);exact⟨z.out.lohi,z.out.Ho,⟨aq,ar,au,an,al,k1.only ho (by simp;omega),k2,by rw[e1];exact fp.TV k3 _,k4⟩,z.out.buf.qp ho (by intro j e hj;simp at hj;subst hj;exact cB e)⟩
   have hp:=ai.out A;subst hp;go_wp2;refine zk (v:= .tuple #[.string ⟨#[]⟩,.int .i64 D]) (by simp[results,results11,go_sem]) rfl ?_;rw[I.out]at H⊢;obtain rfl:m=W:=by rw[<-H.out,zh A]
   exact⟨rfl,z.out,(ae.ah gK.out (zd _)).mono (by simp)⟩
  rw[zi y]at I;go_wp2;refine zk (v:= .tuple #[.string ⟨#[]⟩,.int .i64 E]) (by simp[results,results11,go_sem]) rfl ?_;rw[I.out]at H⊢;obtain rfl:m=W:=by rw[<-H.out,zh y]
  exact⟨rfl,RK.out.below Ef.out,(ae.ah Ef.out (zd _)).mono (by simp)⟩
 go_wp2_with fail
 have hHeld:=p.out b.drew (zl _ _).drew;refine aC 11 (fun V=>V.cell? ⟨g,0,none⟩=some (.pointer (some ⟨r,0,none⟩))/\V.cell? ⟨w.heap.size,0,none⟩=some (.string nm)/\V.cell? ⟨w.heap.size,1,none⟩=some (.string it.text)/\V.cell? ⟨w.heap.size,2,none⟩=some (.bool it.list)/\V.cell? ⟨w.heap.size,3,none⟩=some (.slice N it.sub.length Y)) (by kernel_rfl) (by kernel_rfl) ?_;refine GT.jV [0,1,2,3,4] hHeld (fun _ _ _ _ _ h=>h) (by kernel_rfl) ?_;repeat(refine .c rfl rfl (fun V d=>by go_simp<;>with_reducible rfl) ?_;simp only[Act.put,zb,ze,zf])
 refine .nil ?_;refine GT.T' 5 9 rfl rfl (by kernel_rfl) (fun K k=> ?_) (fun K k=> ?_)
 ·go_simp;refine(HE.out b.drew (zl _ _).drew).mono ?_;rintro en w3 ⟨rfl,G⟩;have n:Below b.heap.size b w3:=(show Below b.heap.size b b.drew from(zl _ _).drew).trans G;go_wp2_with fail
  refine k.out _ _ (p.out w3 n) (fun hHeld=> ?_);clear k K;try simp only[Act.put,zb,ze,zf]
  refine GT.jV [6,7,8] hHeld (fun _ _ _ _ _ h=>h) (by kernel_rfl) ?_;repeat(refine .c rfl rfl (fun V d=>by go_simp<;>with_reducible rfl) ?_;simp only[Act.put,zb,ze,zf])
  refine .nil ?_;refine GT.fJ 9 (fun K k=> ?_) rfl (by kernel_rfl);go_simp;refine k.out _ _ (p.out _ (n.alloc n.size _)) (fun hHeld=> ?_);clear k K;try simp only[Act.put,zb,ze,zf]
  refine GT.fJ 10 (fun K k=> ?_) rfl (by kernel_rfl);go_simp;refine k.out _ _ (p.out _ (n.alloc n.size _)) (fun hHeld=> ?_);clear k K;try simp only[Act.put,zb,ze,zf]
  refine GT.pA 11 ?_ rfl (by kernel_rfl);go_simp;obtain⟨i,q⟩:∃i,w3.alloc (.cells #[.int .u64 u,.string fn,.string s] 84)=i:=⟨_,rfl⟩
  have o:Hid (Below b.heap.size b i):=za (by rw[<-q];exact n.alloc n.size _);have C:Hid (af i w3.heap.size 84 #[.int .u64 u,.string fn,.string s]):=za (by rw[<-q];exact af.new _ _ _);rw[q];clear q G n hHeld;go_wp2_with fail
  go_meet;case rel=>exact⟨_,rfl,rfl,o,C⟩
 go_simp;have U:Below b.heap.size b (b.alloc (.cells #[.int .u64 0,.string ⟨#[]⟩,.string ⟨#[]⟩] 84)).drew:=((zl b.heap.size b).alloc (zd _) _).drew;have ag:af (b.alloc (.cells #[.int .u64 0,.string ⟨#[]⟩,.string ⟨#[]⟩] 84)).drew b.heap.size 84 #[.int .u64 0,.string ⟨#[]⟩,.string ⟨#[]⟩]:=(af.new b _ _).drew;refine k.out _ _ (p.out _ U) (fun hHeld=> ?_);clear k K;try simp only[Act.put,zb,ze,zf]
 refine GT.fJ 5 (fun K k=> ?_) rfl (by kernel_rfl);go_simp;refine(HE.out _ U).mono ?_;rintro en w3 ⟨rfl,G⟩;have n:Below b.heap.size b w3:=U.trans (G.mono U.size);have Sk:=ag.ag G ag.lt;go_wp2_with fail
 refine k.out _ _ (p.out w3 n) (fun hHeld=> ?_);clear k K;try simp only[Act.put,zb,ze,zf]
 refine GT.jV [6,7,8] hHeld (fun _ _ _ _ _ h=>h) (by kernel_rfl) ?_;repeat(refine .c rfl rfl (fun V d=>by go_simp<;>with_reducible rfl) ?_;simp only[Act.put,zb,ze,zf])
 refine .nil ?_;obtain⟨t0,t1,t2,LV,Oa,Tb⟩:=bg Sk;refine GT.fJ 10 (fun K k=> ?_) rfl (by kernel_rfl);go_simp;have Ta:Below b.heap.size b (((w3.setCell ⟨b.heap.size,0,none⟩ (.int .u64 u)).setCell ⟨b.heap.size,1,none⟩ (.string fn)).setCell ⟨b.heap.size,2,none⟩ (.string s)):=((n.setCell (by simp) _).setCell (by simp) _).setCell (by simp) _;refine k.out _ _ (p.out _ Ta) (fun hHeld=> ?_);clear k K;try simp only[Act.put,zb,ze,zf]
 refine GT.pA 11 ?_ rfl (by kernel_rfl);go_simp;obtain⟨i,q⟩:∃i,((w3.setCell ⟨b.heap.size,0,none⟩ (.int .u64 u)).setCell ⟨b.heap.size,1,none⟩ (.string fn)).setCell ⟨b.heap.size,2,none⟩ (.string s)=i:=⟨_,rfl⟩
 have o:Hid (Below b.heap.size b i):=za (by rw[<-q];exact Ta);have C:Hid (af i b.heap.size 84 #[.int .u64 u,.string fn,.string s]):=za (by rw[<-q];exact ec Sk _ _ _);rw[q];clear q G n hHeld U ag Sk Ta t0 t1 t2 LV Oa Tb;go_wp2_with fail
 go_meet;case rel=>exact⟨_,rfl,rfl,o,C⟩
