/- session.cut's closure: the next message of the buffer. -/
import Derived.Test.YtdbmifjankgfpaaGreatDoorKA23
import Derived.Test.YtdbmifjankgfpaaGreatDoorKA39
import Derived.Test.YtdbmifjankgfpaaGreatDoorKA40
set_option linter.all false
set_option maxRecDepth 100000
set_option maxHeartbeats 8000000
open Go.Proofs.Tryz
namespace Go.Proofs.YtdbmifjankgfpaaGreatDoor
open Go.RowKit
structure Uw (w:World)(cb mb tb ab sb g gm:Nat)(c:aI)(b:ByteArray)(k:Nat):Prop where
 cf:af w cb 24 #[.int .i64 c.fm,.int .u32 c.mg,.int .i64 c.fr,.int .i64 c.un,.int .i64 c.de,.int .i64 c.it]
 me:af w mb 96 #[.pointer (some ⟨gm,0,none⟩)]
 tx:af w tb 9 #[.string b]
 at_:af w ab 3 #[.int .i64 k]
 se:af w sb 35 #[.pointer (some ⟨g,0,none⟩)]
structure NxN (lo hi cb mb tb ab sb g gm:Nat):Prop where
 m1:gm≠cb/\gm≠mb/\gm≠tb/\gm≠ab/\gm≠sb/\gm≠g
 a1:ab≠cb/\ab≠mb/\ab≠tb/\ab≠sb/\ab≠g
 r1:(gm<lo\/hi<=gm)/\(ab<lo\/hi<=ab)
theorem Uw.only {w w':World}{cb j i m l g n:Nat}{c:aI}{b:ByteArray}{k:Nat}{L:List Nat}(h:Uw w cb j i m l g n c b k)(e:ae L w w')(d:cb∉L/\j∉L/\i∉L/\m∉L/\l∉L):Uw w' cb j i m l g n c b k:=
 ⟨h.cf.only e d.1,h.me.only e d.2.1,h.tx.only e d.2.2.1,h.at_.only e d.2.2.2.1,h.se.only e d.2.2.2.2⟩
def Dr (cb mb tb ab sb:Nat):Array Value:= #[.pointer (some ⟨cb,0,none⟩),.pointer (some ⟨mb,0,none⟩),.pointer (some ⟨tb,0,none⟩),.pointer (some ⟨ab,0,none⟩),.pointer (some ⟨sb,0,none⟩)]
theorem F7 {w:World}{g:Nat}{t:TypeId}{m j e z3:Value}(h:af w g t #[m,j,e,z3])(b c d v3:Value):af ((((w.setCell ⟨g,0,none⟩ b).setCell ⟨g,1,none⟩ c).setCell ⟨g,2,none⟩ d).setCell ⟨g,3,none⟩ v3) g t #[b,c,d,v3]:=by
 have n:af _ g t #[b,j,e,z3]:=h.store (i:=0) (u:=b) rfl;have k:af _ g t #[b,c,e,z3]:=n.store (i:=1) (u:=c) rfl;have l:af _ g t #[b,c,d,z3]:=k.store (i:=2) (u:=d) rfl;exact l.store (i:=3) (u:=v3) rfl
def QW (w:World)(ab gm t R k:Nat)(X:Int×Ms×Nat×Nat)(e:Ending)(w':World):Prop:=
 ∃d0 d1 d2 d3,e= .returned (.tuple #[.agg #[d0,d1,d2,d3],.int .i64 X.1])/\pg w' (w.heap.size<= ·) X.2.1 d0 d1 d2 d3/\Met w' (some gm) (t+X.2.2.2) (R-X.2.2.2)/\ae [gm,ab] w w'/\af w' ab 3 #[.int .i64 (if X.1=0 then k+X.2.2.1 else k:Nat)]
theorem QX (c:aI)(l:List bD)(lo hi M gn gi:Nat)(rows:List bZ)(g q cb mb tb x sb:Nat)(b:ByteArray)(k:Nat)(bv:Value)(nd:Nat)(fault:Int)(laid al aX t R:Nat)(w:World)
 (hr:c.right=true) (hc:c.ok) (hb:b.size<=100000) (H:k<=b.size) (hM:mr w lo hi M gn gi c rows) (qW:aK rows=l) (hS:fy w g M bv nd fault laid al aX) (hm:Met w (some q) t R) (hR:70000<=R)
 (hB:Uw w cb mb tb x sb g q c b k) (hN:NxN lo hi cb mb tb x sb g q) (aA:∀V,ae [q,x] w V->Laid V/\bq V):
 Calls prog 62 (Dr cb mb tb x sb) w (QW w x q t R k (aJ c l (b.extract k b.size))):=by
 obtain⟨r,JS⟩:∃r,b.extract k b.size=r:=⟨_,rfl⟩
 have UB:r.size=b.size-k:=by rw[<-JS,an _ _ _ (zg _)]
 rw[JS];have sq:(k:Int)<=b.size:=by omega
 obtain⟨W,hW⟩:∃W,w.alloc (.cells #[.string ⟨#[]⟩,.string ⟨#[]⟩,.bool false,.slice none 0 0] 30)=W:=⟨_,rfl⟩
 have oE:Below w.heap.size w W:=by rw[<-hW];exact(zm _ w).alloc (zg _) _
 have Wg:w.heap.size<W.heap.size:=by rw[<-hW];simp
 have Cy:q<w.heap.size:=hm.lt q rfl;have JA:x<w.heap.size:=hB.at_.lt;have ax:af W w.heap.size 30 #[.string ⟨#[]⟩,.string ⟨#[]⟩,.bool false,.slice none 0 0]:=by rw[<-hW];exact af.new _ _ _
 have az:Met W (some q) t R:=(MS.refl hm|>.below oE).met;obtain⟨n1,n2,n3,n4,n5,n6⟩:=hN.m1;have dm:Hid (∀V,ae [q] w V->Uw V cb mb tb x sb g q c b k/\mr V lo hi M gn gi c rows/\fy V g M bv nd fault laid al aX/\Laid V/\bq V):=za (fun V o=>⟨hB.only o (by simp;omega),hM.only o (by have:=hN.r1;simp;omega),hS.only o (by simp;omega),aA V (o.mono (by simp))⟩);have DN:Hid (∀V,ae [q] W V->ae [q] w V):=za (fun V o=>((ae.ah oE (zg _)).mono (by simp)).trans o);have U:Hid (∀V,ae [q] W V->V.cell? ⟨cb,0,none⟩=some (.int .i64 c.fm)/\V.cell? ⟨cb,1,none⟩=some (.int .u32 c.mg)/\V.cell? ⟨cb,2,none⟩=some (.int .i64 c.fr)/\V.cell? ⟨cb,3,none⟩=some (.int .i64 c.un)/\V.cell? ⟨cb,4,none⟩=some (.int .i64 c.de)/\V.cell? ⟨cb,5,none⟩=some (.int .i64 c.it)/\V.cell? ⟨mb,0,none⟩=some (.pointer (some ⟨q,0,none⟩))/\V.cell? ⟨tb,0,none⟩=some (.string b)/\V.cell? ⟨x,0,none⟩=some (.int .i64 k)):=za (fun V o=>by
  obtain⟨hx,_⟩:=dm.out V (DN.out V o);exact⟨hx.cf.cell 0,hx.cf.cell 1,hx.cf.cell 2,hx.cf.cell 3,hx.cf.cell 4,hx.cf.cell 5,hx.me.cell 0,hx.tx.cell 0,hx.at_.cell 0⟩)
 have HN:=za (fun W0 V o=>F6 c (some q) t R r hc hR (by omega) W0 V o);have S:Hid (aJ c l r=if(aw c r).1≠0 then((aw c r).1,rM,(aw c r).2.2.1,(aw c r).2.2.2)else((fh c l (aw c r).2.1).1,(fh c l (aw c r).2.1).2,(aw c r).2.2.1,(aw c r).2.2.2)):=za rfl;have gB:=(fe c).pos r;have JP:(aw c r).2.1.body.size<=1099511627776:=Iu c r (by omega);generalize aJ c l r=X at*;obtain⟨au,hY⟩:∃au,aw c r=au:=⟨_,rfl⟩
 rw[hY]at HN S gB JP;clear hY;obtain⟨y5,⟨D,B,C⟩,y4,m⟩:=au;simp only at gB JP S;unfold oB Fr.val mJ aI.val at HN;simp only at HN;have HW:=za hW;have UK:=za (MS.refl az);have aZ:=za ax;have V3:=za hN;have Cv:=za qW;have DO:=za gB;have aP:=za JP;unfold Dr;clear hm hR hB hN aA hM qW hS oE ax az hW gB JP n1 n2 n3 n4 n5 n6;go_enter func62,ntmps62
 go_upto_region 1 with fail
 rw[HW.out];go_cut [7,8,9] (fun v1 v2 v3 d=>∃G:Nat,v1= .pointer (some ⟨G,0,none⟩)/\v2= .int .i64 y4/\v3= .int .i64 y5/\Hid (MS (some q) (t+m) (R-m) W d)/\Hid (af d G 84 #[.int .u64 D,.string B,.string C])/\W.heap.size<=G)
 case rest=>
  obtain⟨G,rfl,rfl,rfl,aa,LN,Tb⟩:=hcut;obtain⟨d,aQ⟩:∃d,d=wc:=⟨_,rfl⟩
  subst aQ;have GD:=aa.out.only;have A:=za (dm.out d (DN.out d GD));have RG:Hid (af d w.heap.size 30 #[.string ⟨#[]⟩,.string ⟨#[]⟩,.bool false,.slice none 0 0]):=za (aZ.out.only GD (by simp;omega));have a6:G<d.heap.size:=LN.out.lt;have tR:g<d.heap.size:=A.out.2.2.1.lt;have aM:=za (DN.out d GD);clear GD;rcases eY y5 with⟨h0,z1,z2⟩|⟨h0,z1,z2⟩
  ·subst h0;obtain⟨gJ,iH⟩:=DO.out rfl;rw[zh (by simp)]at S;have HD:Hid (∀V,Below d.heap.size d V->Calls prog 64 #[.pointer (some ⟨M,0,none⟩),.agg #[.int .u64 D,.string B,.string C]] V (Vx V (fh c l ⟨D,B,C⟩))):=za (fun V o=>by
    have:=Uh lo hi M gn gi c rows ⟨D,B,C⟩ V (A.out.2.1.below (o.mono A.out.2.1.his)) (A.out.2.2.2.1.below o A.out.2.2.2.1.pos) (A.out.2.2.2.2.below o A.out.2.2.2.2.pos) aP.out;rwa [Cv.out]at this)
   have Z:Hid (∀V,Below d.heap.size d V->V.cell? ⟨sb,0,none⟩=some (.pointer (some ⟨g,0,none⟩))/\V.cell? ⟨g,0,none⟩=some (.pointer (some ⟨M,0,none⟩))/\V.cell? ⟨G,0,none⟩=some (.int .u64 D)/\V.cell? ⟨G,1,none⟩=some (.string B)/\V.cell? ⟨G,2,none⟩=some (.string C)):=za (fun V o=>by
    have O:=A.out.1.se.ag o A.out.1.se.lt;have h2:fy V g M bv nd fault laid al aX:=A.out.2.2.1.ag o tR;have h3:=LN.out.ag o LN.out.lt;exact⟨O.cell 0,h2.parts.1,h3.cell 0,h3.cell 1,h3.cell 2⟩)
   generalize fh c l ⟨D,B,C⟩=aW at*;obtain⟨D1,i⟩:=aW;simp only at S;go_upto_region 4 with fail
   go_cut [9,10] (fun v1 v2 p=>∃(bm:Nat) (u:Option Addr) (s:Nat),v1= .int .i64 D1/\v2= .pointer (some ⟨bm,0,none⟩)/\Hid (Below d.heap.size d p)/\Hid (af p bm 30 #[.string i.name,.string i.x.text,.bool i.x.list,.slice u i.x.sub.length s])/\Hid (pg p (d.heap.size<= ·) i (.string i.name) (.string i.x.text) (.bool i.x.list) (.slice u i.x.sub.length s))/\d.heap.size<=bm)
   case rest=>
    obtain⟨bm,u,s,rfl,rfl,N,OK,Og,aG⟩:=hcut;obtain⟨p,aU⟩:∃p,p=wc:=⟨_,rfl⟩
    subst aU;have Wp:=za (A.out.1.at_.ag N.out A.out.1.at_.lt);have ar:=za (RG.out.ag N.out RG.out.lt);have aB:Hid (Met p (some q) (t+m) (R-m)):=za (aa.out.below N.out).met;have aL:Hid (ae [q] w p):=za ((aM.out.trans' (ae.ah N.out (zg _)) (by simp)));have SY:=N.out.size;rcases eY D1 with⟨O,u1,u2⟩|⟨O,u1,u2⟩
    ·subst O;have q0:p.cell? ⟨x,0,none⟩=some (.int .i64 k):=Wp.out.cell 0;have V9:p.frozen? ⟨x,0,none⟩=false:=Wp.out.frozen 0;go_upto_region 7 with fail
     obtain⟨W9,S8⟩:∃W9,p.setCell ⟨x,0,none⟩ (.int .i64 ((k:Int)+y4))=W9:=⟨_,rfl⟩
     have ry:ae [x] p W9:=by rw[<-S8];exact(ae.refl _ _).setCell (by simp) _
     have DT:Hid (af W9 x 3 #[.int .i64 (k+y4:Nat)]):=za (by rw[<-S8];exact Wp.out.store rfl);have aE:=za (ar.out.only ry (by simp;omega));have aF:=OK.out.only ry (by simp;omega);have a1:=za (Og.out.only ry (by simp;omega) (fun _ _ h=>h));have aT:=za (aB.out.only ry (by intro j e;injection e with e;have:=V3.out.m1;simp;omega));have aR:Hid (ae [q,x] w W9):=za ((aL.out.mono (by simp)).trans (ry.mono (by simp)));obtain⟨v0,v1,v2,v3,_⟩:=aS aF;obtain⟨m0,m1,m2,m3,aO,aN,aH,ay⟩:=aS aE.out;rw[S8];clear S8 ry aF q0 V9;go_wp2;obtain⟨ai,ag,ad,ah⟩:=iE aE.out (.string i.name) (.string i.x.text) (.bool i.x.list) (.slice u i.x.sub.length s);refine zj (v:= .tuple #[.agg #[.string i.name,.string i.x.text,.bool i.x.list,.slice u i.x.sub.length s],.int .i64 0]) (by simp[results,results62,go_sem,ai,ag,ad,ah]) rfl ?_;have z:=eM W9 w.heap.size (.string i.name) (.string i.x.text) (.bool i.x.list) (.slice u i.x.sub.length s);rw[S.out];refine⟨_,_,_,_,rfl,a1.out.only z (by simp;omega) (fun k _ H=>by have H:d.heap.size<=k:=H;show w.heap.size<=k;omega),aT.out.only z (by intro j e;injection e with e;simp;omega),aR.out.trans' z (by simp), ?_⟩;have O:=DT.out.only z (by simp;omega);rw[zi rfl];exact O
    obtain⟨v0,v1,v2,v3,_⟩:=aS OK.out;obtain⟨m0,m1,m2,m3,aO,aN,aH,ay⟩:=aS ar.out;go_wp2;obtain⟨ai,ag,ad,ah⟩:=iE ar.out (.string i.name) (.string i.x.text) (.bool i.x.list) (.slice u i.x.sub.length s);refine zj (v:= .tuple #[.agg #[.string i.name,.string i.x.text,.bool i.x.list,.slice u i.x.sub.length s],.int .i64 D1]) (by simp[results,results62,go_sem,ai,ag,ad,ah]) rfl ?_;have z:=eM p w.heap.size (.string i.name) (.string i.x.text) (.bool i.x.list) (.slice u i.x.sub.length s);rw[S.out];refine⟨_,_,_,_,rfl,Og.out.only z (by simp;omega) (fun k _ H=>by have H:d.heap.size<=k:=H;show w.heap.size<=k;omega),aB.out.only z (by intro j e;injection e with e;simp;omega),(aL.out.mono (by simp)).trans' z (by simp), ?_⟩;have h2:=Wp.out.only z (by simp;omega);rw[zh O];exact h2
   go_wp2_with fail
   have hHeld:=Z.out d.drew (zm _ _).drew;refine aD 11 (fun V=>V.cell? ⟨sb,0,none⟩=some (.pointer (some ⟨g,0,none⟩))/\V.cell? ⟨g,0,none⟩=some (.pointer (some ⟨M,0,none⟩))/\V.cell? ⟨G,0,none⟩=some (.int .u64 D)/\V.cell? ⟨G,1,none⟩=some (.string B)/\V.cell? ⟨G,2,none⟩=some (.string C)) (by kernel_rfl) (by kernel_rfl) ?_;refine GT.jV [0,1,2,3,4] hHeld (fun _ _ _ _ _ h=>h) (by kernel_rfl) ?_;repeat(refine .c rfl rfl (fun V o=>by go_simp<;>with_reducible rfl) ?_;simp only[Act.put,zb,zd,ze])
   refine .nil ?_;refine GT.T4 5 9 rfl rfl (by kernel_rfl) (fun K n=> ?_) (fun K n=> ?_)
   ·go_simp;refine(HD.out d.drew (zm _ _).drew).mono ?_;rintro en F ⟨pK,d0,d1,d2,d3,rfl,Y⟩;obtain⟨u,s,rfl,rfl,rfl,rfl,_⟩:=Y.open_;have y:Below d.heap.size d F:=(show Below d.heap.size d d.drew from(zm _ _).drew).trans pK;go_wp2_with fail
    refine n.out _ _ (Z.out F y) (fun hHeld=> ?_);clear n K;try simp only[Act.put,zb,zd,ze]
    refine GT.jV [6,7,8] hHeld (fun _ _ _ _ _ h=>h) (by kernel_rfl) ?_;repeat(refine .c rfl rfl (fun V o=>by go_simp<;>with_reducible rfl) ?_;simp only[Act.put,zb,zd,ze])
    refine .nil ?_;refine GT.fP 9 (fun K n=> ?_) rfl (by kernel_rfl);go_simp;refine n.out _ _ (Z.out _ (y.alloc y.size _)) (fun hHeld=> ?_);clear n K;try simp only[Act.put,zb,zd,ze]
    refine GT.fP 10 (fun K n=> ?_) rfl (by kernel_rfl);go_simp;refine n.out _ _ (Z.out _ (y.alloc y.size _)) (fun hHeld=> ?_);clear n K;try simp only[Act.put,zb,zd,ze]
    refine GT.pt 11 ?_ rfl (by kernel_rfl);go_simp;obtain⟨p,E⟩:∃p,F.alloc (.cells #[.string i.name,.string i.x.text,.bool i.x.list,.slice u i.x.sub.length s] 30)=p:=⟨_,rfl⟩
    have N:Hid (Below d.heap.size d p):=za (by rw[<-E];exact y.alloc y.size _);have OK:Hid (af p F.heap.size 30 #[.string i.name,.string i.x.text,.bool i.x.list,.slice u i.x.sub.length s]):=za (by rw[<-E];exact af.new _ _ _);have Og:Hid (pg p (d.heap.size<= ·) i (.string i.name) (.string i.x.text) (.bool i.x.list) (.slice u i.x.sub.length s)):=za (by rw[<-E];exact Y.below ((zm _ _).alloc (zg _) _));have aG:d.heap.size<=F.heap.size:=y.size;rw[E];clear E pK y Y hHeld;go_wp2_with fail
    go_meet;case rel=>exact⟨_,_,_,rfl,rfl,N,OK,Og,aG⟩
   go_simp;have DQ:Below d.heap.size d (d.alloc (.cells #[.string ⟨#[]⟩,.string ⟨#[]⟩,.bool false,.slice none 0 0] 30)).drew:=((zm d.heap.size d).alloc (zg _) _).drew;have aq:af (d.alloc (.cells #[.string ⟨#[]⟩,.string ⟨#[]⟩,.bool false,.slice none 0 0] 30)).drew d.heap.size 30 #[.string ⟨#[]⟩,.string ⟨#[]⟩,.bool false,.slice none 0 0]:=(af.new d _ _).drew;refine n.out _ _ (Z.out _ DQ) (fun hHeld=> ?_);clear n K;try simp only[Act.put,zb,zd,ze]
   refine GT.fP 5 (fun K n=> ?_) rfl (by kernel_rfl);go_simp;refine(HD.out _ DQ).mono ?_;rintro en F ⟨pK,d0,d1,d2,d3,rfl,Y⟩;obtain⟨u,s,rfl,rfl,rfl,rfl,_⟩:=Y.open_;have y:Below d.heap.size d F:=DQ.trans (pK.mono DQ.size);have ak:=aq.ag pK aq.lt;go_wp2_with fail
   refine n.out _ _ (Z.out F y) (fun hHeld=> ?_);clear n K;try simp only[Act.put,zb,zd,ze]
   refine GT.jV [6,7,8] hHeld (fun _ _ _ _ _ h=>h) (by kernel_rfl) ?_;repeat(refine .c rfl rfl (fun V o=>by go_simp<;>with_reducible rfl) ?_;simp only[Act.put,zb,zd,ze])
   refine .nil ?_;obtain⟨t0,t1,t2,t3,LA,N',S5,aY⟩:=aS ak;refine GT.fP 10 (fun K n=> ?_) rfl (by kernel_rfl);go_simp;have S4:Below d.heap.size d ((((F.setCell ⟨d.heap.size,0,none⟩ (.string i.name)).setCell ⟨d.heap.size,1,none⟩ (.string i.x.text)).setCell ⟨d.heap.size,2,none⟩ (.bool i.x.list)).setCell ⟨d.heap.size,3,none⟩ (.slice u i.x.sub.length s)):=(((y.setCell (by simp) _).setCell (by simp) _).setCell (by simp) _).setCell (by simp) _;refine n.out _ _ (Z.out _ S4) (fun hHeld=> ?_);clear n K;try simp only[Act.put,zb,zd,ze]
   refine GT.pt 11 ?_ rfl (by kernel_rfl);go_simp;obtain⟨p,E⟩:∃p,(((F.setCell ⟨d.heap.size,0,none⟩ (.string i.name)).setCell ⟨d.heap.size,1,none⟩ (.string i.x.text)).setCell ⟨d.heap.size,2,none⟩ (.bool i.x.list)).setCell ⟨d.heap.size,3,none⟩ (.slice u i.x.sub.length s)=p:=⟨_,rfl⟩
   have N:Hid (Below d.heap.size d p):=za (by rw[<-E];exact S4);have OK:Hid (af p d.heap.size 30 #[.string i.name,.string i.x.text,.bool i.x.list,.slice u i.x.sub.length s]):=za (by rw[<-E];exact F7 ak _ _ _ _);have Og:Hid (pg p (d.heap.size<= ·) i (.string i.name) (.string i.x.text) (.bool i.x.list) (.slice u i.x.sub.length s)):=za (by rw[<-E];exact Y.only (L:= [d.heap.size]) (eM F d.heap.size _ _ _ _) (by simp[World.drew]) (fun k _ H=>by have H:(d.alloc (.cells #[.string ⟨#[]⟩,.string ⟨#[]⟩,.bool false,.slice none 0 0] 30)).heap.size<=k:=H;simp at H;show d.heap.size<=k;omega));rw[E];clear E pK y Y hHeld DQ aq ak S4 t0 t1 t2 t3 LA N' S5 aY;go_wp2_with fail
   go_meet;case rel=>exact⟨_,_,_,rfl,rfl,N,OK,Og,zg _⟩
  rw[zi h0]at S;obtain⟨m0,m1,m2,m3,aO,aN,aH,ay⟩:=aS RG.out;have aV:=za aa.out.met;go_wp2;obtain⟨ai,ag,ad,ah⟩:=iE RG.out (.string ⟨#[]⟩) (.string ⟨#[]⟩) (.bool false) (.slice none 0 0);refine zj (v:= .tuple #[.agg #[.string ⟨#[]⟩,.string ⟨#[]⟩,.bool false,.slice none 0 0],.int .i64 y5]) (by simp[results,results62,go_sem,ai,ag,ad,ah]) rfl ?_;have z:=eM d w.heap.size (.string ⟨#[]⟩) (.string ⟨#[]⟩) (.bool false) (.slice none 0 0);rw[S.out];refine⟨_,_,_,_,rfl,Dm _ _,aV.out.only z (by intro j e;injection e with e;simp;omega),(aM.out.mono (by simp)).trans' z (by simp), ?_⟩;have O:=A.out.1.at_.only z (by simp;omega);rw[zh h0];exact O
 go_wp2_with fail
 have hHeld:=U.out W.drew UK.out.drew.only;refine aD 13 (fun V=>V.cell? ⟨cb,0,none⟩=some (.int .i64 c.fm)/\V.cell? ⟨cb,1,none⟩=some (.int .u32 c.mg)/\V.cell? ⟨cb,2,none⟩=some (.int .i64 c.fr)/\V.cell? ⟨cb,3,none⟩=some (.int .i64 c.un)/\V.cell? ⟨cb,4,none⟩=some (.int .i64 c.de)/\V.cell? ⟨cb,5,none⟩=some (.int .i64 c.it)/\V.cell? ⟨mb,0,none⟩=some (.pointer (some ⟨q,0,none⟩))/\V.cell? ⟨tb,0,none⟩=some (.string b)/\V.cell? ⟨x,0,none⟩=some (.int .i64 k)) (by kernel_rfl) (by kernel_rfl) ?_;refine GT.jV [0,1,2,3,4] hHeld (fun _ _ _ _ _ h=>h) (by kernel_rfl) ?_;iterate 4 (refine .c rfl rfl (fun V o=>by go_simp<;>with_reducible rfl) ?_;simp only[Act.put,zb,zd,ze])
 refine .c (v:= .string r) rfl rfl (fun V o=>by go_simp<;>with_reducible rfl) ?_;try simp only[Act.put,zb,zd,ze];refine .nil ?_;refine GT.T4 5 10 rfl rfl (by kernel_rfl) (fun K n=> ?_) (fun K n=> ?_)
 ·go_simp;refine(HN.out W W.drew UK.out.drew).mono ?_;rintro en w3 ⟨rfl,I⟩;go_wp2_with fail
  refine n.out _ _ (U.out w3 I.only) (fun hHeld=> ?_);clear n K;try simp only[Act.put,zb,zd,ze]
  refine GT.jV [6,7,8,9] hHeld (fun _ _ _ _ _ h=>h) (by kernel_rfl) ?_;repeat(refine .c rfl rfl (fun V o=>by go_simp<;>with_reducible rfl) ?_;simp only[Act.put,zb,zd,ze])
  refine .nil ?_;refine GT.fP 10 (fun K n=> ?_) rfl (by kernel_rfl);go_simp;refine n.out _ _ (U.out _ (I.alloc _).only) (fun hHeld=> ?_);clear n K;try simp only[Act.put,zb,zd,ze]
  refine GT.fP 11 (fun K n=> ?_) rfl (by kernel_rfl);go_simp;refine n.out _ _ (U.out _ (I.alloc _).only) (fun hHeld=> ?_);clear n K;try simp only[Act.put,zb,zd,ze]
  refine GT.jV [12] hHeld (fun _ _ _ _ _ h=>h) (by kernel_rfl) ?_;refine .c rfl rfl (fun V o=>by go_simp<;>with_reducible rfl) ?_;simp only[Act.put,zb,zd,ze];refine .nil ?_;refine GT.pt 13 ?_ rfl (by kernel_rfl);go_simp;obtain⟨d,J⟩:∃d,w3.alloc (.cells #[.int .u64 D,.string B,.string C] 84)=d:=⟨_,rfl⟩
  have aa:Hid (MS (some q) (t+m) (R-m) W d):=za (by rw[<-J];exact I.alloc _);have LN:Hid (af d w3.heap.size 84 #[.int .u64 D,.string B,.string C]):=za (by rw[<-J];exact af.new _ _ _);have Tb:W.heap.size<=w3.heap.size:=I.size;rw[J];clear J I hHeld;go_wp2_with fail
  go_meet;case rel=>exact⟨_,rfl,rfl,rfl,aa,LN,Tb⟩
 go_simp;have aj:MS (some q) t R W (W.alloc (.cells #[.int .u64 0,.string ⟨#[]⟩,.string ⟨#[]⟩] 84)).drew:=(UK.out.alloc _).drew;have aC:af (W.alloc (.cells #[.int .u64 0,.string ⟨#[]⟩,.string ⟨#[]⟩] 84)).drew W.heap.size 84 #[.int .u64 0,.string ⟨#[]⟩,.string ⟨#[]⟩]:=(af.new W _ _).drew;refine n.out _ _ (U.out _ aj.only) (fun hHeld=> ?_);clear n K;try simp only[Act.put,zb,zd,ze]
 refine GT.fP 5 (fun K n=> ?_) rfl (by kernel_rfl);go_simp;refine(HN.out _ _ (MS.refl aj.met)).mono ?_;rintro en w3 ⟨rfl,av⟩;have I:=av.from aj.only;have Sc:=aC.only av.only (by simp;omega);go_wp2_with fail
 refine n.out _ _ (U.out w3 I.only) (fun hHeld=> ?_);clear n K;try simp only[Act.put,zb,zd,ze]
 refine GT.jV [6,7,8,9] hHeld (fun _ _ _ _ _ h=>h) (by kernel_rfl) ?_;repeat(refine .c rfl rfl (fun V o=>by go_simp<;>with_reducible rfl) ?_;simp only[Act.put,zb,zd,ze])
 refine .nil ?_;obtain⟨t0,t1,t2,LA,N',S5⟩:=a8 Sc;refine GT.fP 11 (fun K n=> ?_) rfl (by kernel_rfl);go_simp;have ao:=I.dK (zg _) (by intro j e;injection e with e;omega) (.int .u64 D) (.string B) (.string C);refine n.out _ _ (U.out _ ao.only) (fun hHeld=> ?_);clear n K;try simp only[Act.put,zb,zd,ze]
 refine GT.jV [12] hHeld (fun _ _ _ _ _ h=>h) (by kernel_rfl) ?_;refine .c rfl rfl (fun V o=>by go_simp<;>with_reducible rfl) ?_;simp only[Act.put,zb,zd,ze];refine .nil ?_;refine GT.pt 13 ?_ rfl (by kernel_rfl);go_simp;obtain⟨d,J⟩:∃d,((w3.setCell ⟨W.heap.size,0,none⟩ (.int .u64 D)).setCell ⟨W.heap.size,1,none⟩ (.string B)).setCell ⟨W.heap.size,2,none⟩ (.string C)=d:=⟨_,rfl⟩
 have aa:Hid (MS (some q) (t+m) (R-m) W d):=za (by rw[<-J];exact ao);have LN:Hid (af d W.heap.size 84 #[.int .u64 D,.string B,.string C]):=za (by rw[<-J];exact dK Sc _ _ _);have Tb:W.heap.size<=W.heap.size:=zg _;rw[J];clear J I hHeld av aj aC Sc ao t0 t1 t2 LA N' S5;go_wp2_with fail
 go_meet;case rel=>exact⟨_,rfl,rfl,rfl,aa,LN,Tb⟩
def lenOf :Value->Nat
 | .slice _ n _=>n
 |_=>0
theorem QY (c:aI)(l:List bD)(s:ByteArray):(aJ c l s).2.2.2<=65536:=by rw[gy];exact lg c s
structure CuW (w V:World)(cb mb tb ab sb tm z g gm:Nat)(c:aI)(l:List bD)(b:ByteArray)(k t R:Nat)(lv:Value):Prop where
 only:ae [gm] w V
 met:Met V (some gm) (t+(aJ c l (b.extract k b.size)).2.2.2) (R-(aJ c l (b.extract k b.size)).2.2.2)
 nx:Uw V cb mb tb ab sb g gm c b (if(aJ c l (b.extract k b.size)).1=0 then k+(aJ c l (b.extract k b.size)).2.2.1 else k)
 msg:∃d0 d1 d2 d3,af V tm 30 #[d0,d1,d2,d3]/\pg V (fun j=>z<=j/\j≠tm/\lv.ownBlock≠some j) (aJ c l (b.extract k b.size)).2.1 d0 d1 d2 d3
theorem Ux (c:aI)(l:List bD)(lo hi D gn gi:Nat)(rows:List bZ)(g p:Nat)(bv:Value)(b:ByteArray)(E laid J K t R:Nat)(w:World)(hr:c.right=true)(hc:c.ok)(hb:b.size<=100000)(hM:mr w lo hi D gn gi c rows)(qW:aK rows=l)(hS:fy w g D bv E 0 laid J K)(bn:bF w hi 5 bv b.data.toList)
 (LP:hi<=g) (pG:Met w (some p) t R) (Cy:p≠g) (a6:hi<=p) (Yo:bv.ownBlock≠some p) (hR:1099511627776<=R) (oo:eG c b E) (aR:∀V,ae (p::g::bv.ownBlock.toList) w V->Laid V/\bq V):
 Calls prog 42 #[.pointer (some ⟨g,0,none⟩),.pointer (some ⟨p,0,none⟩)] w fun e w'=>∃rv mS Oi,e= .returned rv/\eB w' (fun j=>w.heap.size<=j/\mS.ownBlock≠some j) w.heap.size (split (aJ c l) b).1 rv/\fy w' g D mS Oi (split (aJ c l) b).2.2.2 laid J K/\bF w' hi 5 mS (split (aJ c l) b).2.1.data.toList/\
  Met w' (some p) (t+(split (aJ c l) b).2.2.1) (R-(split (aJ c l) b).2.2.1)/\ae (p::g::bv.ownBlock.toList) w w'/\(∀k,mS.ownBlock=some k->bv.ownBlock=some k\/w.heap.size<=k)/\((split (aJ c l) b).2.2.2=0->eG c (split (aJ c l) b).2.1 Oi):=by
 have cn:bv.ownBlock≠some g:=bn.cy hS (by decide);have Tb:=bn.form;rw[aa]at Tb;obtain⟨A,cap,rfl,oC,mA⟩:=Tb;have N2:∀V,Below w.heap.size w V->(convert 31 9 (.slice A b.size cap)).run prog V= .ok (.string b) V:=fun V o=>by
  have:=bF.Ex (P:=prog) (src:=31) (dst:=9) zt yw zN (bn.below o);rwa [iP]at this
 have a7:=za N2;have tR:g<w.heap.size:=hS.lt;have So:p<w.heap.size:=pG.lt p rfl;have HS:=za hS;have j4:=za bn;have HM:=za pG;have G6:=za hM;have NZ:=za oo;have Ap:=za (And.intro cn Yo);have N8:=za aR;have Cv:=za qW;have Sg:=za (cN c l);obtain⟨G,bO⟩:∃G,(w.alloc (.cells #[.pointer (some ⟨g,0,none⟩)] 35)).alloc (.cells #[.pointer (some ⟨p,0,none⟩)] 96)=G:=⟨_,rfl⟩
 have je:Below w.heap.size w G:=by rw[<-bO];exact((zm _ w).alloc (zg _) _).alloc (by simp) _
 have eh:G.heap.size=w.heap.size+2:=by rw[<-bO];simp
 have ag:Hid (af G w.heap.size 35 #[.pointer (some ⟨g,0,none⟩)]):=za (by rw[<-bO];exact(af.new w _ _).alloc _);have OK:Hid (af G (w.heap.size+1) 96 #[.pointer (some ⟨p,0,none⟩)]):=za (by rw[<-bO];exact af.at_ (by simp));have kg:=za je;have Bo:=za eh;have cw:=za bO;have b2:G.cell? ⟨w.heap.size,0,none⟩=some (.pointer (some ⟨g,0,none⟩)):=ag.out.cell 0;obtain⟨p0,p1,I,p3,p4,p5,p6⟩:=fy.parts (hS.ag je tR);clear hS bn pG hM oo cn Yo aR qW N2 je eh bO;by_cases aE:b.size<E
 ·have LO:Hid (split (aJ c l) b=([],b,0,0)):=za (dz Sg.out (jQ.2 (NZ.out.here aE)));rw[LO.out];go_enter func42,ntmps42
  go_wp2_with fail
  rw[cw.out];go_quiet (fail)
  go_wp2;go_ret;have fA:Below w.heap.size w (G.drewN nq):=Below.bs kg.out nq;exact⟨_,_,E,rfl,eB.nil _ _ _,HS.out.ag fA tR,j4.out.below fA,(MS.refl HM.out|>.below fA).met,(ae.ah fA (zg _)).mono (by simp),fun k hk=> .inl hk,fun _=>NZ.out⟩
 skip
 go_enter func42,ntmps42
 go_wp2_with fail
 rw[cw.out];go_quiet (fail)
 obtain⟨w1,mO⟩:∃w1,G.drewN nq=w1:=⟨_,rfl⟩
 have bQ:Hid (Below G.heap.size G w1):=za (by rw[<-mO];exact Below.bs (zm _ _) nq);rw[mO];clear mO b2 p0 p1 I p3 p4 p5 p6;have U7:=kg.out.trans (bQ.out.mono (by have:=Bo.out;omega));have bh:=za U7;have b2:w1.cell? ⟨w.heap.size,0,none⟩=some (.pointer (some ⟨g,0,none⟩)):=(ag.out.ag bQ.out ag.out.lt).cell 0;obtain⟨p0,p1,I,p3,p4,p5,p6⟩:=fy.parts (HS.out.ag U7 tR);have US:=za (Lb lo hi D gn gi c rows w1 (G6.out.below (U7.mono G6.out.his)));unfold aI.val at US;clear U7;go_wp2_with fail
 refine US.out.mono ?_;rintro e q ⟨rfl,aO⟩;obtain⟨y,fB⟩:∃y,((q.alloc (.cells #[.int .i64 c.fm,.int .u32 c.mg,.int .i64 c.fr,.int .i64 c.un,.int .i64 c.de,.int .i64 c.it] 24)).alloc (.cells #[.string b] 9)).alloc (.cells #[.int .i64 0] 3)=y:=⟨_,rfl⟩
 have cr:=bQ.out.size;have cE:=aO.size;have ax:Below q.heap.size q y:=by rw[<-fB];exact(((zm _ q).alloc (zg _) _).alloc (by simp) _).alloc (by simp;omega) _
 have aV:Below w1.heap.size w1 y:=aO.trans (ax.mono cE);have au:Below G.heap.size G y:=bQ.out.trans (aV.mono cr);have U5:Below w.heap.size w q:=bh.out.trans (aO.mono (by have:=Bo.out;omega));have bc:Below w.heap.size w y:=U5.trans (ax.mono (by have:=Bo.out;omega));have DL:y.heap.size=q.heap.size+3:=by rw[<-fB];simp
 have bs:=a7.out (q.alloc (.cells #[.int .i64 c.fm,.int .u32 c.mg,.int .i64 c.fr,.int .i64 c.un,.int .i64 c.de,.int .i64 c.it] 24)) (U5.alloc (by have:=Bo.out;omega) _);have a8:Hid (af y q.heap.size 24 #[.int .i64 c.fm,.int .u32 c.mg,.int .i64 c.fr,.int .i64 c.un,.int .i64 c.de,.int .i64 c.it]):=za (by rw[<-fB];exact((af.new _ _ _).alloc _).alloc _);have aT:Hid (af y (q.heap.size+1) 9 #[.string b]):=za (by rw[<-fB];exact af.alloc (af.at_ (by simp)) _);have aQ:Hid (af y (q.heap.size+1+1) 3 #[.int .i64 0]):=za (by rw[<-fB];exact af.at_ (by simp));have aZ:=za (ag.out.ag au ag.out.lt);have aM:=za (OK.out.ag au OK.out.lt);have DV:=za bc;have SA:Hid (w.heap.size+2<=q.heap.size/\y.heap.size=q.heap.size+3):=za ⟨by have:=Bo.out;omega,DL⟩;clear b2 p0 p1 I p3 p4 p5 p6;have b2:q.cell? ⟨w.heap.size,0,none⟩=some (.pointer (some ⟨g,0,none⟩)):=((ag.out.ag bQ.out ag.out.lt).ag aO (by have:=Bo.out;omega)).cell 0;obtain⟨p0,p1,I,p3,p4,p5,p6⟩:=fy.parts (HS.out.ag U5 tR);have Gh:w.heap.size<q.heap.size:=by have:=Bo.out;omega
 have Ly:g<q.heap.size:=by omega
 have rr:=za fB;have V3:Hid (NxN lo hi q.heap.size (w.heap.size+1) (q.heap.size+1) (q.heap.size+1+1) w.heap.size g p):=za ⟨⟨by omega,by omega,by omega,by omega,by omega,Cy⟩,⟨by omega,by omega,by omega,by omega,by omega⟩,⟨.inr a6,.inr (by have:=G6.out.his;omega)⟩⟩;have uv:Hid (∀V k t' R',ae [p] w V->Uw V q.heap.size (w.heap.size+1) (q.heap.size+1) (q.heap.size+1+1) w.heap.size g p c b k->Met V (some p) t' R'->70000<=R'->k<=b.size->Calls prog 62 (Dr q.heap.size (w.heap.size+1) (q.heap.size+1) (q.heap.size+1+1) w.heap.size) V (QW V (q.heap.size+1+1) p t' R' k (aJ c l (b.extract k b.size)))):=za (fun V k t' R' o hB hm bz hk=>
  QX c l lo hi D gn gi rows g p _ _ _ _ _ b k (.slice A b.size cap) E 0 laid J K t' R' V hr hc hb hk (G6.out.only o (by simp;exact .inr a6)) Cv.out (HS.out.only o (by simp;omega)) hm bz hB V3.out (fun V' bw=>N8.out V' (((o.mono (by simp)).trans' bw (by have:=SA.out;simp;omega)))))
 clear aO ax aV au U5 bc fB DL US;go_wp2_with fail
 rw[rr.out];have JM:Hid (Uw y q.heap.size (w.heap.size+1) (q.heap.size+1) (q.heap.size+1+1) w.heap.size g p c b 0):=za ⟨a8.out,aM.out,aT.out,aQ.out,aZ.out⟩;have ak:=za (uv.out y 0 t R ((ae.ah DV.out (zg _)).mono (by simp)) JM.out (MS.refl HM.out|>.below DV.out).met (by omega) (yk _));unfold Dr at ak uv;have GO:w.heap.size+2<=q.heap.size:=SA.out.1;have NW:y.heap.size=q.heap.size+3:=SA.out.2;obtain⟨cb,bb⟩:∃cb,q.heap.size=cb:=⟨_,rfl⟩
 have Tc:Hid (ae [p] w y):=za ((ae.ah DV.out (zg _)).mono (by simp));rw[bb]at JM ak uv V3 GO NW⊢;clear bb b2 p0 p1 I p3 p4 p5 p6 Gh Ly bs a8 aT aQ aZ aM SA rr cr cE;obtain⟨Z,al⟩:∃Z,aJ c l (b.extract 0 b.size)=Z:=⟨_,rfl⟩
 rw[al]at ak;refine ak.out.mono ?_;rintro e w6 ⟨d0,d1,d2,d3,rfl,Cx,VU,D7,JA⟩;obtain⟨W,M,rfl,rfl,rfl,rfl,_⟩:=Cx.open_;have aj:Hid (CuW w (w6.alloc (.cells #[.string Z.2.1.name,.string Z.2.1.x.text,.bool Z.2.1.x.list,.slice W Z.2.1.x.sub.length M] 30)) cb (w.heap.size+1) (cb+1) (cb+1+1) w.heap.size w6.heap.size y.heap.size g p c l b 0 (t+0) (R-0) (.slice none 0 0)):=za (by
  subst al;have ha:=V3.out.a1;have ao:=D7.size;have bf:Uw w6 cb (w.heap.size+1) (cb+1) (cb+1+1) w.heap.size g p c b (if(aJ c l (b.extract 0 b.size)).1=0 then 0+(aJ c l (b.extract 0 b.size)).2.2.1 else 0):=⟨JM.out.cf.only D7 (by simp;omega),JM.out.me.only D7 (by simp;omega),JM.out.tx.only D7 (by simp;omega),JA,JM.out.se.only D7 (by simp;omega)⟩
  have Bm:=(zm w6.heap.size w6).alloc (zg _) (.cells #[.string (aJ c l (b.extract 0 b.size)).2.1.name,.string (aJ c l (b.extract 0 b.size)).2.1.x.text,.bool (aJ c l (b.extract 0 b.size)).2.1.x.list,.slice W (aJ c l (b.extract 0 b.size)).2.1.x.sub.length M] 30);have aC:=ae.ah Bm (zg _);exact⟨(Tc.out.trans' D7 (by simp;omega)).trans' aC (by simp),VU.only aC (by simp),bf.only aC (by simp),_,_,_,_,af.new _ _ _,(Cx.iz (S':=fun j=>y.heap.size<=j/\j≠w6.heap.size/\(Value.slice none 0 0).ownBlock≠some j) (fun j d h=>⟨h,by omega,by intro e;cases e⟩)).below Bm⟩)
 obtain⟨W7,ru⟩:∃W7,w6.alloc (.cells #[.string Z.2.1.name,.string Z.2.1.x.text,.bool Z.2.1.x.list,.slice W Z.2.1.x.sub.length M] 30)=W7:=⟨_,rfl⟩
 have ao:=D7.size;have aY:W7.heap.size=w6.heap.size+1:=by rw[<-ru];simp
 rw[ru]at aj;have Gu:=za ru;obtain⟨z,hz⟩:∃z,y.heap.size=z:=⟨_,rfl⟩
 rw[hz]at aj NW ao;have bm:=za al;have hZ:Hid (w.heap.size+2<=cb/\z=cb+3):=za ⟨GO,NW⟩;have aA:=za ao;have ay:=za aY;clear al Cx VU D7 JA ru aY hz JM ak GO NW ao DV Tc a7;go_wp2_with fail
 rw[Gu.out];obtain⟨u,aP⟩:∃u,w6.heap.size=u:=⟨_,rfl⟩
 rw[aP]at aj aA ay⊢;have HZ:Hid (w.heap.size+2<=cb/\z=cb+3/\z<=u):=za ⟨hZ.out.1,hZ.out.2,aA.out⟩;clear aP hZ aA;go_loopw [9,11] (fun lv ev wr=>∃(acc:List Ms) (k a:Nat),eB wr (fun j=>z<=j/\j≠u) (u+1) acc lv/\ev= .int .i64 (aJ c l (b.extract k b.size)).1/\k<=b.size/\acc.length<=k/\a<=65536*acc.length/\Hid (split (aJ c l) b=(acc++(split (aJ c l) (b.extract k b.size)).1,(split (aJ c l) (b.extract k b.size)).2.1,a+(split (aJ c l) (b.extract k b.size)).2.2.1,(split (aJ c l) (b.extract k b.size)).2.2.2))/\Hid (CuW w wr cb (w.heap.size+1) (cb+1) (cb+1+1) w.heap.size u z g p c l b k (t+a) (R-a) lv)/\u+1<=wr.heap.size) (fun lv _ _=>b.size-lenOf lv)
 case atStart=>exact⟨[],0,0,eB.nil _ _ _,by rw[bm.out],by omega,by simp,by simp,za (by rw[tX];simp),aj,by have:=ay.out;omega⟩
 case round=>
  clear aj Gu ay;obtain⟨acc,k,a,lD,rfl,hk,Bm,ha,LO,ba,bK⟩:=hrel;obtain⟨A5,n5,eS,rfl,bg,bL,bR⟩:=lD.cF;have mK:=za lD;have pG:=QY c l (b.extract k b.size);have gB:=Sg.out.pos (b.extract k b.size);have mD:Hid ((aJ c l (b.extract k b.size)).1≠0->split (aJ c l) b=(acc,b.extract k b.size,a+(aJ c l (b.extract k b.size)).2.2.2,if(aJ c l (b.extract k b.size)).1=2 then 0 else(aJ c l (b.extract k b.size)).1)):=za (fun h=>by
   rw[LO.out,dP Sg.out (b.extract k b.size),zh h];simp)
  have CA:Hid ((aJ c l (b.extract k b.size)).1=0->split (aJ c l) b=((acc++ [(aJ c l (b.extract k b.size)).2.1])++(split (aJ c l) (b.extract (k+(aJ c l (b.extract k b.size)).2.2.1) b.size)).1,(split (aJ c l) (b.extract (k+(aJ c l (b.extract k b.size)).2.2.1) b.size)).2.1,(a+(aJ c l (b.extract k b.size)).2.2.2)+(split (aJ c l) (b.extract (k+(aJ c l (b.extract k b.size)).2.2.1) b.size)).2.2.1,(split (aJ c l) (b.extract (k+(aJ c l (b.extract k b.size)).2.2.1) b.size)).2.2.2)):=za (fun h=>by
   obtain⟨p1,I⟩:=Sg.out.pos _ h;rw[an _ _ _ (zg _)]at I;have e:(b.extract k b.size).extract (aJ c l (b.extract k b.size)).2.2.1 (b.extract k b.size).size=b.extract (k+(aJ c l (b.extract k b.size)).2.2.1) b.size:=by
    rw[pL _ _ _ _ (by rw[an _ _ _ (zg _)];omega),an _ _ _ (zg _)];congr 1;omega
   rw[LO.out,cU Sg.out h,e];simp[Va.cons,yh])
  have Oh:Hid ((aJ c l (b.extract k b.size)).1=2->eG c (b.extract k b.size) (cL c (b.extract k b.size))):=za (fun h=>eG.of hr (jQ.1 h));rw[an _ _ _ (zg _)]at gB;obtain⟨uo,um,ux,d0,d1,d2,d3,ut,us⟩:=ba.out;clear LO ba lD;obtain⟨r,JS⟩:∃r,b.extract k b.size=r:=⟨_,rfl⟩
  rw[JS]at pG gB mD CA Oh um ux us⊢;have Wq:=za JS;clear JS;obtain⟨X,hX⟩:∃X,aJ c l r=X:=⟨_,rfl⟩
  rw[hX]at pG gB mD CA Oh um ux us⊢;clear hX;obtain⟨y5,X2,y4,m⟩:=X;simp only at pG gB mD CA Oh um ux us⊢;obtain⟨Ay,bd,rfl,rfl,rfl,rfl,_⟩:=us.open_;have bM:lenOf (.slice A5 n5 eS)=n5:=rfl;by_cases h1:y5=0
  ·subst h1;obtain⟨p1,I⟩:=gB rfl;have Gz:=za (CA.out rfl);rw[zi rfl]at ux;obtain⟨v0,v1,v2,v3,_⟩:=aS ut;have U9:=(zm wr.heap.size wr).alloc (zg _) (.cells #[.string X2.name,.string X2.x.text,.bool X2.x.list,.slice Ay X2.x.sub.length bd] 30);have Ag:=za (mK.out.below U9);have aU:=za ((us.below U9).iz (S':=fun j=>(z<=j/\j≠u)/\(Value.slice A5 n5 eS).ownBlock≠some j) (fun j _ h=>⟨⟨h.1,h.2.1⟩,h.2.2⟩));have Sp:=ae.ah U9 (zg _);have ad:=za (uo.trans' Sp (by simp));have ab:=za (um.only Sp (by simp));have s:=za (ux.only Sp (by simp));have aW:=za (ut.only Sp (by simp));have GG:=za (Ag.out.ge);clear uo um ux ut us U9 Sp CA mD Oh mK;go_wp2_with (
    refine qk (by rfl) (.tmp 40) (.tmp 42) (by rfl) (fun j=>z<=j/\j≠u) (u+1) acc (by rfl) Ag.out X2 aU.out wr.heap.size (by rfl) (by simp) (by simp) (by simp) (by simp) (by omega) (by simp;omega) ?_;intro g' n' aq w8 Rq aL fu bP)
   have H:=ae.fU fu;have C:∀j,j∈(Value.slice A5 n5 eS).ownBlock.toList->u+1<=j:=fun j d=>(GG.out j (cg.1 d)).1
   obtain⟨z1,z2,z3⟩:=HZ.out;have aN:Hid (ae [p] w w8):=za (ad.out.trans' H (fun j d=> .inr (by have:=C j d;omega)));have br:=za (ab.out.only H (by intro j e d;injection e with e;have:=C j d;omega));have Sq:=za (s.out.only H ⟨fun d=>by have:=C _ d;omega,fun d=>by have:=C _ d;omega,fun d=>by have:=C _ d;omega,fun d=>by have:=C _ d;omega,fun d=>by have:=C _ d;omega⟩);have bB:=za (aW.out.only H (fun d=>by have:=C _ d;omega));have SY:wr.heap.size+1<=w8.heap.size:=by have:=fu.size;simpa using this
   have bl:=za aL;have Cz:=za aL.ge;have fz:k+y4<=b.size:=by omega
   have aG:=za (uv.out w8 (k+y4) (t+a+m) (R-a-m) aN.out Sq.out br.out (by omega) fz);obtain⟨ah,hY⟩:∃ah,aJ c l (b.extract (k+y4) b.size)=ah:=⟨_,rfl⟩
   rw[hY]at aG;have a1:=za hY;have a':=za (And.intro z1 (And.intro z2 z3));clear H C fu aL hY ad ab s aW Ag aU GG z1 z2 z3;refine aG.out.mono ?_;rintro e w9 ⟨d0,d1,d2,d3,rfl,Cx,VU,L,JA⟩;obtain⟨Az,bx,rfl,rfl,rfl,rfl,_⟩:=Cx.open_;have bG:=L.size;have aF:=bB.out.only L (by have:=a'.out;simp;omega);obtain⟨t0,t1,t2,t3,LA,N',S5,bS⟩:=aS aF;have bt:=za aF;have bE:=za Cx;have bA:=za VU;have bj:=za L;have bo:=za JA;clear Cx VU L JA aF aG;go_wp2;go_roundw
   case rel=>
    have L:=bj.out;have Bv:=eM w9 u (.string ah.2.1.name) (.string ah.2.1.x.text) (.bool ah.2.1.x.list) (.slice Az ah.2.1.x.sub.length bx);have jA:∀j,(Value.slice (some ⟨g',0,none⟩) n' aq).ownBlock=some j->u+1<=j/\j<w8.heap.size:=fun j e=>Cz.out j e
    obtain⟨z1,z2,z3⟩:=a'.out;have ha:=V3.out.a1;refine⟨acc++ [X2],k+y4,a+m,(bl.out.only L (by simp;omega) (fun j d e=>by have:=jA j e;simp at d;omega)).only Bv (by simp) (fun j d e=>by have:=jA j e;simp at d;omega),by rw[a1.out],fz,by rw[zl];simp;omega,by rw[zl];simp;omega,by rw[show k+y4=k+y4 from rfl];exact Gz,za ?_,by have:=Bv.size;omega⟩;have e1:t+(a+m)=t+a+m:=by omega
    have e2:R-(a+m)=R-a-m:=by omega
    rw[e1,e2];have hY:=a1.out;subst hY;exact⟨(aN.out.trans' L (by simp;omega)).trans' Bv (by simp;omega),bA.out.only Bv (by intro j e;injection e with e;simp;omega),
     ⟨(Sq.out.cf.only L (by simp;omega)).only Bv (by simp;omega),(Sq.out.me.only L (by simp;omega)).only Bv (by simp;omega),(Sq.out.tx.only L (by simp;omega)).only Bv (by simp;omega),bo.out.only Bv (by simp;omega),(Sq.out.se.only L (by simp;omega)).only Bv (by simp;omega)⟩,
     _,_,_,_,F7 bt.out _ _ _ _,bE.out.only Bv (by simp;omega) (fun j _ d=>by have d:w8.heap.size<=j:=d;exact⟨by omega,by omega,fun e=>by have:=jA j e;omega⟩)⟩
   case measure=>
    have q1:=Rq.out;have q2:=bg.out;simp[lenOf];omega
  have B:=mD.out h1;rw[zh h1]at ux;have nS:Hid (fy wr g D (.slice A b.size cap) E 0 laid J K):=za (HS.out.only uo (by simp;omega));have DU:Hid (bF wr hi 5 (.slice A b.size cap) b.data.toList):=za (j4.out.iV uo (fun j e=>by have:=Ap.out.2;rw[e]at this;simpa using xF (fun h=>this (by rw[h]))));have ad:=za uo;have ab:=za um;have s:=za ux;have sq:(k:Int)<=b.size:=by omega
  have UB:r.size<=100000:=by rw[<-Wq.out,an _ _ _ (zg _)];omega
  have bI:=Wq.out;have bJ:w.heap.size<cb+1+1:=by have:=HZ.out.1;omega
  clear uo um ux ut us mD CA gB;by_cases O:y5=2
  ·subst O;rw[zi rfl]at B;have B:=za B;have bC:=za (Oh.out rfl);have Bn:=za (fun V=>Jf c r V hr (by omega));unfold aI.val at Bn;clear Oh;go_wp2_with fail
   refine iZ 8 (by kernel_rfl) (by kernel_rfl) ?_;simp only[zT,yC,yf,zL];refine ai (.pointer (some ⟨g,0,none⟩)) (by rfl) (fun V o=>by have b2:=(s.out.se.ag o s.out.se.lt).cell 0;go_simp) ?_;simp only[Act.put,zb,zd,ze];refine ai (.agg #[.int .i64 c.fm,.int .u32 c.mg,.int .i64 c.fr,.int .i64 c.un,.int .i64 c.de,.int .i64 c.it]) (by rfl) (fun V o=>by obtain⟨q0,q1,q2,q3,q4,q5⟩:=eR (s.out.cf.ag o s.out.cf.lt);go_simp) ?_;simp only[Act.put,zb,zd,ze];refine ai (.string b) (by rfl) (fun V o=>by have b2:=(s.out.tx.ag o s.out.tx.lt).cell 0;go_simp) ?_;simp only[Act.put,zb,zd,ze];refine ai (.int .i64 k) (by rfl) (fun V o=>by have b2:=(s.out.at_.ag o s.out.at_.lt).cell 0;go_simp) ?_;simp only[Act.put,zb,zd,ze];refine ai (.string r) (by rfl) (fun _ _=>by first|rfl|go_simp) ?_;simp only[Act.put,zb,zd,ze];refine bU 65 _ _ (by rfl) (fun _=>by first|rfl|go_simp) (fun V _=>Bn.out V) ?_;simp only[Act.put,zb,zd,ze];refine ai (.pointer (some ⟨g,0,none⟩)) (by rfl) (fun _ _=>by first|rfl|go_simp) ?_;simp only[Act.put,zb,zd,ze];refine ai (.pointer (some ⟨g,2,none⟩)) (by rfl) (fun _ _=>by first|rfl|go_simp) ?_;simp only[Act.put,zb,zd,ze];refine xg ?_;intro V o;have GH:fy V g D (.slice A b.size cap) E 0 laid J K:=nS.out.ag o nS.out.lt;obtain⟨_,_,I,p3,_,_,_⟩:=fy.parts GH;obtain⟨_,f2,f3,_,_,_⟩:=fy.mH GH;have Wr:g<V.heap.size:=zU nS.out.lt o.size;go_upto_region 15 with fail
   obtain⟨n,N⟩:∃n,V.setCell ⟨g,2,none⟩ (.int .i64 (cL c r:Nat))=n:=⟨_,rfl⟩
   rw[N];have Sw:ae [p,g] w V:=(ad.out.mono (by simp)).trans' (ae.ah o (zg _)) (by simp);have tU:Hid (ae (p::g::(Value.slice A b.size cap).ownBlock.toList) w n):=za (by rw[<-N];exact(Sw.setCell (.inl (by simp)) _).mono (by intro i hi;simp at hi⊢;rcases hi with h|h<;>simp[h]));have F:ae [g] V n:=by rw[<-N];exact(ae.refl _ _).setCell (.inl (by simp)) _
   have sG:Hid (bF n hi 5 (.slice A b.size cap) b.data.toList):=za ((DU.out.below o).iV F (by intro j e h;simp at h;subst h;exact Ap.out.1 e));have Ok:Hid (Met n (some p) (t+a+m) (R-a-m)):=za ((ab.out.only (ae.ah o (zg _)) (by simp)).only F (by intro j e;injection e with e;subst e;simpa using Cy));have bu:g<w.heap.size:=tR;have U6:Hid (eB n (fun j=>z<=j/\j≠u) (u+1) acc (.slice A5 n5 eS)):=za ((mK.out.below o).only F (by have:=HZ.out;simp;omega) (fun j d e=>by have:=(mK.out.ge j e).1;have:=HZ.out;simp at d;omega));have Sr:Hid (af n w.heap.size 35 #[.pointer (some ⟨g,0,none⟩)]):=za ((s.out.se.ag o s.out.se.lt).only F (by simp;omega));have Sy:Hid (af n (cb+1+1) 3 #[.int .i64 k]):=za ((s.out.at_.ag o s.out.at_.lt).only F (by have:=HZ.out;simp;omega));have Br:Hid (w.heap.size<=n.heap.size):=za tU.out.size;clear Sw F I p3 f2 f3 Wr;have hG:Hid (fy n g D (.slice A b.size cap) (cL c r) 0 laid J K):=za (by rw[<-N];exact fy.C2 GH _);clear N o GH nS DU ad ab s mK;have J2:Hid ((split (aJ c l) b).2.2.2=0->eG c (split (aJ c l) b).2.1 (cL c r)):=za (fun _=>by rw[B.out];exact bC.out);have Ov:g<n.heap.size:=hG.out.lt;have Gx:=za (FX hi (.slice A b.size cap) b.data.toList k n.drew (sG.out.below (zm _ _).drew) (by have:=Br.out;show hi<=n.heap.size;omega) (by rw[aa];omega) (by rw[aa];omega));have SW:Hid (b.data.toList.drop k=r.data.toList):=za (by rw[<-Wq.out,ar,cT]);have DN:Hid (∀j,(Value.slice A b.size cap).ownBlock=some j->j<w.heap.size):=za (fun j e=>(j4.out.ge j e).2.1)
   have hHeld:(fun V:World=>V.cell? ⟨w.heap.size,0,none⟩=some (.pointer (some ⟨g,0,none⟩))/\V.cell? ⟨g,1,none⟩=some (.slice A b.size cap)/\V.cell? ⟨cb+1+1,0,none⟩=some (.int .i64 k)) n.drew:=⟨Sr.out.cell 0,(fy.parts hG.out).2.1,Sy.out.cell 0⟩
   refine aD 9 (fun V=>V.cell? ⟨w.heap.size,0,none⟩=some (.pointer (some ⟨g,0,none⟩))/\V.cell? ⟨g,1,none⟩=some (.slice A b.size cap)/\V.cell? ⟨cb+1+1,0,none⟩=some (.int .i64 k)) (by kernel_rfl) (by kernel_rfl) ?_;refine GT.jV [0,1,2,3,4,5] hHeld (fun _ _ _ _ _ h=>h) (by kernel_rfl) ?_;repeat(refine .c rfl rfl (fun V o=>by go_simp<;>with_reducible rfl) ?_;simp only[Act.put,zb,zd,ze])
   refine .nil ?_;refine GT.fP 6 (fun az hK=> ?_) rfl (by kernel_rfl);go_simp;refine Gx.out.mono ?_;rintro e x ⟨v',rfl,bN,S⟩;rw[SW.out]at bN;have Sv:fy n.drew g D (.slice A b.size cap) (cL c r) 0 laid J K:=af.drew hG.out;have Y:fy x g D (.slice A b.size cap) (cL c r) 0 laid J K:=af.Ma Sv S (Ap.out.1);have St:af x w.heap.size 35 #[.pointer (some ⟨g,0,none⟩)]:=af.Ma Sr.out.drew S (fun e=>by have:=DN.out _ e;omega);have SB:af x (cb+1+1) 3 #[.int .i64 k]:=af.Ma Sy.out.drew S (fun e=>by have:=DN.out _ e;omega);obtain⟨_,av,_,_,_,_,_⟩:=fy.parts Y;obtain⟨bk,_,_,_,_,_⟩:=fy.mH Y;have Sz:g<x.heap.size:=Y.lt;obtain⟨W,n6,M,rfl,U8,bp,Su⟩:=bN.cF;have cZ:=za Y;have tW:=za S;have kT:=za bN;clear Y Sv S bN Gx;go_wp2_with fail
   refine hK.out _ _ ⟨St.cell 0,av,SB.cell 0⟩ (fun hHeld=> ?_);clear hK az;try simp only[Act.put,zb,zd,ze]
   refine GT.jV [7,8] hHeld (fun _ _ _ _ _ h=>h) (by kernel_rfl) ?_;repeat(refine .c rfl rfl (fun V o=>by go_simp<;>with_reducible rfl) ?_;simp only[Act.put,zb,zd,ze])
   refine .nil ?_;refine GT.pt 9 ?_ rfl (by kernel_rfl);go_simp;clear hHeld St SB;go_wp2;go_ret;have J3:ae [] n n.drew:=ae.ah (zm _ _).drew (zg _);have H:ae (Value.slice A b.size cap).ownBlock.toList n x:=(J3.mono (by simp)).trans tW.out.only;have aB:ae (p::g::(Value.slice A b.size cap).ownBlock.toList) w x:=tU.out.trans' H (fun i hi=> .inl (by simp at hi⊢;exact .inr (.inr hi)));have Sx:ae [g] x (x.setCell ⟨g,1,none⟩ (.slice W n6 M)):=(ae.refl [g] x).setCell (.inl (by simp)) _;have NW:=HZ.out;refine⟨.slice A5 n5 eS,.slice W n6 M,(cL c r),rfl, ?_, ?_, ?_, ?_, ?_, ?_,J2.out⟩
   ·rw[B.out];have C:∀j,j∈(Value.slice A b.size cap).ownBlock.toList->j<w.heap.size:=fun j d=>DN.out j (cg.1 d)
    have jA:=U6.out.ge;have aw:∀j,j<n.heap.size->(z<=j/\j≠u)->w.heap.size<=j/\(Value.slice W n6 M).ownBlock≠some j:=fun j d hz=>⟨by omega,fun e=>by
     rcases tW.out.own with e2|⟨j',e2,U⟩
     ·have:=DN.out j (by rw[<-e2];exact e);omega
     rw[e2]at e;injection e with e;have U:n.heap.size<=j':=U;omega⟩
    exact((U6.out.iz aw (show w.heap.size<=u+1 by omega)).only H (fun j d hS=>by have:=C j d;have:=hS.1;omega) (fun j d e=>by have:=C j d;have:=jA j e;omega)).only Sx (fun j d hS=>by simp at d;have:=hS.1;omega) (fun j d e=>by have:=jA j e;simp at d;omega)
   ·rw[B.out];exact fy.pj cZ.out _
   ·rw[B.out];refine kT.out.ag (fun j h1 O=>zM _ _ _ _ ?_);rintro rfl;exact(kT.out.cy cZ.out (by decide)) O
   ·rw[B.out];have h1:=Ok.out.only H (by intro j e;injection e with e;subst e;exact fun h=>Ap.out.2 (cg.1 h));have O:=h1.only Sx (by intro j e;injection e with e;subst e;simpa using Cy);simpa only[yh,ZW]using O
   ·exact aB.setCell (.inl (by simp)) _
   intro j d;rcases tW.out.own with e|⟨j',e,U⟩
   ·exact .inl (by rw[<-e];exact d)
   rw[e]at d;injection d with d;exact .inr (by have:=Br.out;have U:n.heap.size<=j':=U;omega)
  rw[zh O]at B;have B:=za B;have S7:(y5==2)=false:=zo.2 O;obtain⟨V,aH⟩:∃V,wr=V:=⟨_,rfl⟩
  have o:Below wr.heap.size wr V:=by rw[<-aH];exact zm _ _
  have b2:V.cell? ⟨w.heap.size,0,none⟩=some (.pointer (some ⟨g,0,none⟩)):=(s.out.se.ag o s.out.se.lt).cell 0;rw[aH];clear aH Oh;have GH:fy V g D (.slice A b.size cap) E 0 laid J K:=nS.out.ag o nS.out.lt;obtain⟨_,_,I,p3,_,_,_⟩:=fy.parts GH;obtain⟨_,f2,f3,_,_,_⟩:=fy.mH GH;have Wr:g<V.heap.size:=zU nS.out.lt o.size;go_upto_region 15 with fail
  obtain⟨n,N⟩:∃n,V.setCell ⟨g,3,none⟩ (.int .i64 y5)=n:=⟨_,rfl⟩
  rw[N];have Sw:ae [p,g] w V:=(ad.out.mono (by simp)).trans' (ae.ah o (zg _)) (by simp);have tU:Hid (ae (p::g::(Value.slice A b.size cap).ownBlock.toList) w n):=za (by rw[<-N];exact(Sw.setCell (.inl (by simp)) _).mono (by intro i hi;simp at hi⊢;rcases hi with h|h<;>simp[h]));have F:ae [g] V n:=by rw[<-N];exact(ae.refl _ _).setCell (.inl (by simp)) _
  have sG:Hid (bF n hi 5 (.slice A b.size cap) b.data.toList):=za ((DU.out.below o).iV F (by intro j e h;simp at h;subst h;exact Ap.out.1 e));have Ok:Hid (Met n (some p) (t+a+m) (R-a-m)):=za ((ab.out.only (ae.ah o (zg _)) (by simp)).only F (by intro j e;injection e with e;subst e;simpa using Cy));have bu:g<w.heap.size:=tR;have U6:Hid (eB n (fun j=>z<=j/\j≠u) (u+1) acc (.slice A5 n5 eS)):=za ((mK.out.below o).only F (by have:=HZ.out;simp;omega) (fun j d e=>by have:=(mK.out.ge j e).1;have:=HZ.out;simp at d;omega));have Sr:Hid (af n w.heap.size 35 #[.pointer (some ⟨g,0,none⟩)]):=za ((s.out.se.ag o s.out.se.lt).only F (by simp;omega));have Sy:Hid (af n (cb+1+1) 3 #[.int .i64 k]):=za ((s.out.at_.ag o s.out.at_.lt).only F (by have:=HZ.out;simp;omega));have Br:Hid (w.heap.size<=n.heap.size):=za tU.out.size;clear Sw F I p3 f2 f3 Wr;have hG:Hid (fy n g D (.slice A b.size cap) E y5 laid J K):=za (by rw[<-N];exact fy.vA GH _);clear N o GH nS DU ad ab s mK b2;have J2:Hid ((split (aJ c l) b).2.2.2=0->eG c (split (aJ c l) b).2.1 E):=za (fun h=>by rw[B.out]at h;exact absurd h h1);have Ov:g<n.heap.size:=hG.out.lt;have Gx:=za (FX hi (.slice A b.size cap) b.data.toList k n.drew (sG.out.below (zm _ _).drew) (by have:=Br.out;show hi<=n.heap.size;omega) (by rw[aa];omega) (by rw[aa];omega));have SW:Hid (b.data.toList.drop k=r.data.toList):=za (by rw[<-Wq.out,ar,cT]);have DN:Hid (∀j,(Value.slice A b.size cap).ownBlock=some j->j<w.heap.size):=za (fun j e=>(j4.out.ge j e).2.1)
  have hHeld:(fun V:World=>V.cell? ⟨w.heap.size,0,none⟩=some (.pointer (some ⟨g,0,none⟩))/\V.cell? ⟨g,1,none⟩=some (.slice A b.size cap)/\V.cell? ⟨cb+1+1,0,none⟩=some (.int .i64 k)) n.drew:=⟨Sr.out.cell 0,(fy.parts hG.out).2.1,Sy.out.cell 0⟩
  refine aD 9 (fun V=>V.cell? ⟨w.heap.size,0,none⟩=some (.pointer (some ⟨g,0,none⟩))/\V.cell? ⟨g,1,none⟩=some (.slice A b.size cap)/\V.cell? ⟨cb+1+1,0,none⟩=some (.int .i64 k)) (by kernel_rfl) (by kernel_rfl) ?_;refine GT.jV [0,1,2,3,4,5] hHeld (fun _ _ _ _ _ h=>h) (by kernel_rfl) ?_;repeat(refine .c rfl rfl (fun V o=>by go_simp<;>with_reducible rfl) ?_;simp only[Act.put,zb,zd,ze])
  refine .nil ?_;refine GT.fP 6 (fun az hK=> ?_) rfl (by kernel_rfl);go_simp;refine Gx.out.mono ?_;rintro e x ⟨v',rfl,bN,S⟩;rw[SW.out]at bN;have Sv:fy n.drew g D (.slice A b.size cap) E y5 laid J K:=af.drew hG.out;have Y:fy x g D (.slice A b.size cap) E y5 laid J K:=af.Ma Sv S (Ap.out.1);have St:af x w.heap.size 35 #[.pointer (some ⟨g,0,none⟩)]:=af.Ma Sr.out.drew S (fun e=>by have:=DN.out _ e;omega);have SB:af x (cb+1+1) 3 #[.int .i64 k]:=af.Ma Sy.out.drew S (fun e=>by have:=DN.out _ e;omega);obtain⟨_,av,_,_,_,_,_⟩:=fy.parts Y;obtain⟨bk,_,_,_,_,_⟩:=fy.mH Y;have Sz:g<x.heap.size:=Y.lt;obtain⟨W,n6,M,rfl,U8,bp,Su⟩:=bN.cF;have cZ:=za Y;have tW:=za S;have kT:=za bN;clear Y Sv S bN Gx;go_wp2_with fail
  refine hK.out _ _ ⟨St.cell 0,av,SB.cell 0⟩ (fun hHeld=> ?_);clear hK az;try simp only[Act.put,zb,zd,ze]
  refine GT.jV [7,8] hHeld (fun _ _ _ _ _ h=>h) (by kernel_rfl) ?_;repeat(refine .c rfl rfl (fun V o=>by go_simp<;>with_reducible rfl) ?_;simp only[Act.put,zb,zd,ze])
  refine .nil ?_;refine GT.pt 9 ?_ rfl (by kernel_rfl);go_simp;clear hHeld St SB;go_wp2;go_ret;have J3:ae [] n n.drew:=ae.ah (zm _ _).drew (zg _);have H:ae (Value.slice A b.size cap).ownBlock.toList n x:=(J3.mono (by simp)).trans tW.out.only;have aB:ae (p::g::(Value.slice A b.size cap).ownBlock.toList) w x:=tU.out.trans' H (fun i hi=> .inl (by simp at hi⊢;exact .inr (.inr hi)));have Sx:ae [g] x (x.setCell ⟨g,1,none⟩ (.slice W n6 M)):=(ae.refl [g] x).setCell (.inl (by simp)) _;have NW:=HZ.out;refine⟨.slice A5 n5 eS,.slice W n6 M,E,rfl, ?_, ?_, ?_, ?_, ?_, ?_,J2.out⟩
  ·rw[B.out];have C:∀j,j∈(Value.slice A b.size cap).ownBlock.toList->j<w.heap.size:=fun j d=>DN.out j (cg.1 d)
   have jA:=U6.out.ge;have aw:∀j,j<n.heap.size->(z<=j/\j≠u)->w.heap.size<=j/\(Value.slice W n6 M).ownBlock≠some j:=fun j d hz=>⟨by omega,fun e=>by
    rcases tW.out.own with e2|⟨j',e2,U⟩
    ·have:=DN.out j (by rw[<-e2];exact e);omega
    rw[e2]at e;injection e with e;have U:n.heap.size<=j':=U;omega⟩
   exact((U6.out.iz aw (show w.heap.size<=u+1 by omega)).only H (fun j d hS=>by have:=C j d;have:=hS.1;omega) (fun j d e=>by have:=C j d;have:=jA j e;omega)).only Sx (fun j d hS=>by simp at d;have:=hS.1;omega) (fun j d e=>by have:=jA j e;simp at d;omega)
  ·rw[B.out];exact fy.pj cZ.out _
  ·rw[B.out];refine kT.out.ag (fun j h1 O=>zM _ _ _ _ ?_);rintro rfl;exact(kT.out.cy cZ.out (by decide)) O
  ·rw[B.out];have h1:=Ok.out.only H (by intro j e;injection e with e;subst e;exact fun h=>Ap.out.2 (cg.1 h));have O:=h1.only Sx (by intro j e;injection e with e;subst e;simpa using Cy);simpa only[yh,ZW]using O
  ·exact aB.setCell (.inl (by simp)) _
  intro j d;rcases tW.out.own with e|⟨j',e,U⟩
  ·exact .inl (by rw[<-e];exact d)
  rw[e]at d;injection d with d;exact .inr (by have:=Br.out;have U:n.heap.size<=j':=U;omega)
theorem AV (m hi g:Nat)(i:Value)(c:aI)(l:List bD)(x:eZ)(n:Nat)(s:ByteArray)(w:World)(h:eQ w m hi g i c l x n)(y:x.fault≠0):
 Calls prog 16 #[.pointer (some ⟨g,0,none⟩),.string s] w fun e w'=>e= .returned (.tuple #[.slice none 0 0,.int .i64 x.fault])/\eQ w' m hi g i c l {x with laid:=0} n/\ae [g] w w':=by
 obtain⟨B,C,F,rows,D,q,A,b,z⟩:=h.reg;have o:=h.buf;have S:=b.lt;have N:(x.fault !=0)=true:=yz.2 y;have O:=za b;have u:=o.cy b (by decide);have d:ae [g] w (w.setCell ⟨g,4,none⟩ (.int .i64 0)):=(ae.refl [g] w).setCell (p:=⟨g,4,none⟩) (.inl (by simp)) _;have G:=h.LP;have E:Hid (∀k,eQ ((w.setCell ⟨g,4,none⟩ (.int .i64 0)).drewN k) m hi g i c l {x with laid:=0} n):=za (fun k=>⟨h.lohi,h.LP,⟨B,C,F,rows,D,(q.only d (by simp;omega)).below (Below.bs (zm _ _) k),A,(fy.lU b 0).drewN k,z⟩,(o.iV d (by intro j e r;simp at r;subst r;exact u e)).below (Below.bs (zm _ _) k)⟩);obtain⟨I,J,K,H,M,L,R⟩:=b.parts;obtain⟨_,_,_,f9,_,_⟩:=b.mH;clear b o z u y q A d G h;go_enter func16,ntmps16
 go_wp2_with fail
 go_quiet (fail)
 go_wp2;refine zj (v:= .tuple #[.slice none 0 0,.int .i64 x.fault]) (by simp[results,results16,go_sem]) rfl ?_;exact⟨rfl,E.out _,ae.drewN ((ae.refl _ _).setCell (.inl (by simp)) _) _⟩
theorem Ds (D hi g:Nat)(bv:Value)(c:aI)(l:List bD)(x:eZ)(y:Nat)(s:ByteArray)(w:World)(hr:c.right=true)(hc:c.ok)(h:eQ w D hi g bv c l x y)(hL:Laid w)(jl:bq w)(Ly:1<D)(Jz:0<D)(h0:x.fault=0)(hs:x.buf.size+s.size<=100000)(ht:x.told<=1000000000):
 Calls prog 16 #[.pointer (some ⟨g,0,none⟩),.string s] w fun e w'=>∃rv G,e= .returned (.tuple #[rv,.int .i64 (iI (aJ c l) x s).2.2])/\eB w' (fun j=>w.heap.size<=j/\G.ownBlock≠some j) w.heap.size (iI (aJ c l) x s).2.1 rv/\eQ w' D hi g G c l (iI (aJ c l) x s).1 y/\ae (js g bv) w w'/\(∀k,G.ownBlock=some k->bv.ownBlock=some k\/w.heap.size<=k):=by
 obtain⟨r,gn,gi,rows,H,hM,qW,C,oo⟩:=h.reg;have E:=h.buf;have jA:=h.LP;have av:=h.lohi;clear h;have lB:hi<=w.heap.size:=by have:=C.lt;omega
 obtain⟨b,fl,ld,q⟩:=x;simp only at h0 C E oo hs ht;subst h0;rw[dw rfl];simp only;have ab:=PF c l (b++s);rw[bK]at ab;have pG:=WM c l (b++s);rw[bK]at pG;obtain⟨X,hX⟩:∃X,split (aJ c l) (b++s)=X:=⟨_,rfl⟩
 rw[hX]at ab pG⊢;obtain⟨ml,tl,m,er⟩:=X;simp only at ab pG⊢;have HX:=za hX;clear hX;have tR:=C.lt;have cn:=E.cy C (by decide);have hf:=E.form;rw[aa]at hf;obtain⟨A,cap,rfl,oC,mA⟩:=hf;obtain⟨p,M⟩:∃p,w.setCell ⟨g,4,none⟩ (.int .i64 0)=p:=⟨_,rfl⟩
 have rA:ae [g] w p:=by rw[<-M];exact(ae.refl _ _).setCell (.inl (by simp)) _
 have cr:p.heap.size=w.heap.size:=by rw[<-M];simp[World.setCell]
 have bQ:Hid (fy p g r (.slice A b.size cap) H 0 0 q y):=za (by rw[<-M];exact fy.lU C 0);have SE:Hid (bF p hi 5 (.slice A b.size cap) b.data.toList):=za (E.iV rA (by intro j e d;simp at d;subst d;exact cn e));have Ws:=za rA;have NZ:=za (oo rfl);have j4:=za E;have GG:Hid (∀k,(Value.slice A b.size cap).ownBlock=some k->k<w.heap.size):=za (fun k e=>(E.ge k e).2.1);have Ap:=za cn;obtain⟨p0,p6,p7,p8,p9,Td,ay⟩:=C.parts;obtain⟨_,_,_,f9,_,_⟩:=C.mH;obtain⟨i0,aE,eh,aC,cE⟩:=yH o7;have ao:=za (vK 9223372036854775807 p);have iG:=za M;have G6:=za hM;have Cv:=za qW;have aj:=za (And.intro hL jl);have aF:D<=g:=by omega
 clear C E oo cn rA M hM qW hL jl;go_enter func16,ntmps16
 go_wp2_with fail
 rw[iG.out];clear p0 p6 p7 p8 p9 Td ay f9;refine ao.out.mono ?_;rintro e J ⟨rfl,rl⟩;have jY:Below p.heap.size p J:=by rw[rl];exact(zm _ _).alloc (zg _) _
 have uA:ra J p.heap.size 9223372036854775807 0 0 0:=by rw[rl];exact af.new _ _ _
 obtain⟨n,Cy⟩:∃n,p.heap.size=n:=⟨_,rfl⟩
 have HT:=za (lV n 9223372036854775807 0 0 0 s.size J (by rw[<-Cy];exact uA) (by omega) (by omega) (by omega));have ee:Hid (fy J g r (.slice A b.size cap) H 0 0 q y):=za (bQ.out.ag jY bQ.out.lt);have SF:=za (SE.out.below jY);have Rs:Hid (ae [g] w J):=za (Ws.out.trans' (ae.ah jY (zg _)) (by simp));have UU:n≠g:=by omega
 have So:w.heap.size<=n:=by omega
 have ri:n<J.heap.size:=by have:=uA.lt;omega
 rw[Cy];clear rl uA jY bQ SE Ws ao Cy cr iG;go_wp2_with fail
 refine HT.out.mono ?_;rintro e w3 ⟨rfl,UJ,wW⟩;simp only[zQ]at UJ;have Z:Hid (fy w3 g r (.slice A b.size cap) H 0 0 q y):=za (ee.out.only wW (by simpa using xF UU));have sG:=za (SF.out.iV wW (by intro j e d;simp at d;subst d;have:=GG.out j e;omega));have W:Hid (ae [g] w w3):=za (Rs.out.trans' wW (by simp;omega));have Ok:=za UJ;obtain⟨_,p6,_,_,_,_,_⟩:=Z.out.parts;have ca:hi<=w3.heap.size:=by have:=W.out.size;omega
 have JC:w.heap.size<=w3.heap.size:=W.out.size;have Ov:g<w3.heap.size:=Z.out.lt;clear wW UJ ee SF Rs HT;go_wp2_with (
  at_builtin
  refine bW (by rfl) (.tmp 31) (.tmp 32) 31 9 (by rfl) hi 5 i0 zt aE eh aC cE (by rfl) sG.out _ s.data.toList (by rfl) (iN zN w3 s) ca (by rw[aa,aa];omega) ?_;intro z u B F bN oZ;have K:Hid (fy F g r (.slice A b.size cap) H 0 0 q y):=za (af.Ma Z.out oZ Ap.out);have ah:ra F n 9223372036854775807 s.size s.size (max 0 s.size):=af.Ma Ok.out oZ (fun e=>by have:=GG.out _ e;omega);have LI:=za ah;have tW:=za oZ;have U:Hid (bF F hi 5 (.slice z u B) (b++s).data.toList):=za (by rw[bc];exact bN);obtain⟨_,aw,_,_,_,_,_⟩:=K.out.parts;obtain⟨ax,_,_,_,_,_⟩:=K.out.mH;have Sz:g<F.heap.size:=K.out.lt;clear bN oZ ah)
 obtain⟨o,L⟩:∃o,F.setCell ⟨g,1,none⟩ (.slice z u B)=o:=⟨_,rfl⟩
 rw[L];have oF:ae [g] F o:=by rw[<-L];exact(ae.refl _ _).setCell (.inl (by simp)) _
 have gK:Hid (fy o g r (.slice z u B) H 0 0 q y):=za (by rw[<-L];exact fy.pj K.out _);have I:Hid ((Value.slice z u B).ownBlock≠some g/\(Value.slice z u B).ownBlock≠some n/\∀k,(Value.slice z u B).ownBlock=some k->(Value.slice A b.size cap).ownBlock=some k\/w.heap.size<=k):=za ⟨U.out.cy K.out (by decide),U.out.cy LI.out (by decide),fun k e=>by
  rcases tW.out.own with h|⟨j,h,d⟩
  ·exact .inl (by rw[<-h];exact e)
  rw[h]at e;injection e with e;exact .inr (by omega)⟩
 have SG:Hid (bF o hi 5 (.slice z u B) (b++s).data.toList):=za (U.out.iV oF (by intro j e d;simp at d;subst d;exact I.out.1 e));have GD:ra o n 9223372036854775807 s.size s.size (max 0 s.size):=af.only LI.out oF (by simpa using UU);have Tc:Hid (ae (js g (.slice A b.size cap)) w o):=za (((W.out.mono (by simp[js])).trans' tW.out.only (fun i hi=> .inl (fW.2 (.inr (cg.1 hi))))).trans' oF (by simp[js]));have DL:F.heap.size=o.heap.size:=by rw[<-L];simp[World.setCell]
 have aH:w.heap.size<=o.heap.size:=Tc.out.size;have an:hi<=n:=by omega
 have ad:Hid (∀k,(Value.slice A b.size cap).ownBlock=some k->hi<=k):=za (fun k e=>by have:=j4.out.ge k e;omega);have ar:Hid (mr o D hi r gn gi c rows):=za (G6.out.only Tc.out (fun k N=> .inr ((fW.1 N).elim (fun h=>by omega) (fun h=>ad.out k h))));have N8:Hid (∀V,ae (n::g::(Value.slice z u B).ownBlock.toList) o V->Laid V/\bq V):=za (fun V hV=>by
  have mP:ae (n::g::(Value.slice A b.size cap).ownBlock.toList) w V:=(Tc.out.mono (by intro i hi;rcases fW.1 hi with h|h<;>simp[h])).trans' hV (by
   intro i hi;simp only[xe,cg]at hi⊢;rcases hi with rfl|rfl|e
   ·exact .inl (.inl rfl)
   ·exact .inl (.inr (.inl rfl))
   rcases I.out.2.2 i e with h|h
   ·exact .inl (.inr (.inr h))
   exact .inr h)
  have hn:∀k,k<D->k∉(n::g::(Value.slice A b.size cap).ownBlock.toList):=fun k N hm=>by
   simp only[xe,cg]at hm;rcases hm with rfl|rfl|e
   ·omega
   ·omega
   have:=ad.out k e;omega
  exact⟨aj.out.1.only mP (hn _ Ly),aj.out.2.only mP (hn _ Jz)⟩)
 have Y:=za (Ux c l D hi r gn gi rows g n (.slice z u B) (b++s) H 0 q y s.size (9223372036854775807-s.size) o hr hc (by rw[bK];omega) ar.out Cv.out gK.out SG.out jA ⟨_,_,_,GD,by omega,by omega,by omega⟩ UU an I.out.2.1 (by omega) (NZ.out.more s) N8.out);rw[HX.out]at Y;simp only at Y;clear L oF K U gK SG GD LI W p6 aw ax Ok Z sG tW;refine Y.out.mono ?_;rintro e w6 ⟨rv,G,Oi,rfl,ag,R,SH,az,al,GI,SC⟩;obtain⟨A6,O,dM,rfl,U8,aG,Su⟩:=eB.cF ag;obtain⟨a7,u7,q7,ak,_⟩:=az;have Rm:=za (KF n a7 u7 (s.size+m) q7 w6 ak);obtain⟨_,_,_,_,p9,Td,_⟩:=fy.parts R;obtain⟨_,_,_,f9,f10,_⟩:=fy.mH R;have Y9:=R.lt;have aK:O<=200000:=by rw[U8.out];omega
 have ai:=za ag;have Ac:=za R;have SD:=za SH;have Yu:=za al;have aB:=za GI;have aD:=za SC;clear ag R SH al GI SC ak Y;go_wp2_with fail
 refine Rm.out.mono ?_;rintro e w7 ⟨rfl,rfl⟩;go_wp2_with fail
 go_quiet (fail)
 go_wp2;obtain⟨W8,S⟩:∃W8,(w6.setCell ⟨g,4,none⟩ (.int .i64 ((s.size:Int)+m))).setCell ⟨g,5,none⟩ (.int .i64 ((q:Int)+O))=W8:=⟨_,rfl⟩
 have GJ:ae [g] w6 W8:=by rw[<-S];exact((ae.refl [g] w6).setCell (.inl (by simp)) _).setCell (.inl (by simp)) _
 have aA:fy W8 g r G Oi er (s.size+m) (q+ml.length) y:=by
  have e1:((s.size:Int)+m)=((s.size+m:Nat):Int):=by omega
  have e2:((q:Int)+O)=((q+ml.length:Nat):Int):=by rw[U8.out];omega
  rw[<-S,e1,e2];exact fy.C3 (fy.lU Ac.out _) _
 have au:=SD.out.cy Ac.out (by decide);rw[S];clear S;refine zj (v:= .tuple #[.slice A6 O dM,.int .i64 er]) (by simp[results,results16,go_sem]) rfl ?_;refine⟨.slice A6 O dM,G,rfl, ?_,⟨av,jA,⟨r,gn,gi,rows,Oi, ?_,Cv.out,aA.drewN nq,aD.out⟩, ?_⟩, ?_, ?_⟩
 ·have h1:=(ai.out.only GJ (fun j d hS=>by simp at d;have:=hS.1;omega) (fun j d e=>by have:=ai.out.ge j e;simp at d;omega)).iz (S1:=fun j=>w.heap.size<=j/\G.ownBlock≠some j) (lo':=w.heap.size) (fun j _ hS=>⟨by have:=hS.1;omega,hS.2⟩) (by omega);exact h1.below (Below.bs (zm _ _) nq)
 ·refine((ar.out.only Yu.out ?_).only GJ (by simp;omega)).below (Below.bs (zm _ _) nq);intro k N;simp only[xe,cg]at N;rcases N with rfl|rfl|e
  ·exact .inr an
  ·exact .inr jA
  rcases I.out.2.2 k e with h|h
  ·exact .inr (ad.out k h)
  exact .inr (by omega)
 ·exact(SD.out.iV GJ (by intro j e d;simp at d;subst d;exact au e)).below (Below.bs (zm _ _) nq)
 ·refine ae.drewN ((Tc.out.trans' Yu.out ?_).trans' GJ (by simp[js])) nq;intro i hi;simp only[xe,cg]at hi;rcases hi with rfl|rfl|e
  ·exact .inr So
  ·exact .inl (by simp[js])
  rcases I.out.2.2 i e with h|h
  ·exact .inl (fW.2 (.inr h))
  exact .inr h
 intro k e;rcases aB.out k e with h|h
 ·exact I.out.2.2 k h
 exact .inr (by omega)
theorem F8 (d hi g:Nat)(b:Value)(c:aI)(l:List bD)(x:eZ)(m:Nat)(s:ByteArray)(w:World)(o:c.right=true)(B:c.ok)(h:eQ w d hi g b c l x m)(p:Laid w)(r:bq w)(A:1<d)(q:0<d)(u:x.buf.size+s.size<=100000)(E:x.told<=1000000000):
 Calls prog 16 #[.pointer (some ⟨g,0,none⟩),.string s] w fun e w'=>∃rv n,e= .returned (.tuple #[rv,.int .i64 (iI (aJ c l) x s).2.2])/\eB w' (fun j=>w.heap.size<=j/\n.ownBlock≠some j) w.heap.size (iI (aJ c l) x s).2.1 rv/\eQ w' d hi g n c l (iI (aJ c l) x s).1 m/\ae (js g b) w w'/\(∀k,n.ownBlock=some k->b.ownBlock=some k\/w.heap.size<=k):=by
 by_cases i:x.fault=0
 ·exact Ds d hi g b c l x m s w o B h p r A q i u E
 refine(AV d hi g b c l x m s w h i).mono fun e w' ⟨y,z,C⟩=>⟨.slice none 0 0,b, ?_, ?_, ?_,C.mono (by simp[js]),fun k D=> .inl D⟩
 ·rw[cc i];exact y
 ·rw[cc i];exact eB.nil _ _ _
 rw[cc i];exact z
theorem qL (k hi g:Nat)(i:Value)(c:aI)(l:List bD)(x:eZ)(j:Nat)(w:World)(h:eQ w k hi g i c l x j):
 Calls prog 24 #[.pointer (some ⟨g,0,none⟩)] w fun e w'=>e= .returned (.int .i64 (x.buf.size:Nat))/\w=w':=by
 obtain⟨_,_,_,_,_,_,_,d,_⟩:=h.reg;have b:=h.buf.form;rw[aa]at b;obtain⟨A,cap,rfl,_,_⟩:=b;obtain⟨_,o,r,p,q,n,m⟩:=d.parts;clear d h;go_enter func24,ntmps24
 go_wp2;go_ret;exact⟨rfl,rfl⟩
def acb (w:World)(c:aI)(l:List bD)(e:Ending)(w':World):Prop:=
 Below w.heap.size w w'/\((np c l=0/\∃lo hi g,w.heap.size<=lo/\e= .returned (.tuple #[.pointer (some ⟨g,0,none⟩),.int .i64 0])/\eQ w' lo hi g (.slice none 0 0) c l eZ.new 0)\/(np c l≠0/\e= .returned (.tuple #[.pointer none,.int .i64 (np c l)])))
theorem Ld (c:aI)(l:List bD)(v:Value)(B:Nat)(w:World)(q:qj w B v l)(G:B<=w.heap.size)(p:Laid w)(z:∀e∈l,oN e):
 Calls prog 28 #[c.val,v] w (acb w c l):=by
 obtain⟨Av,n,cap,rfl,Z,X,Y⟩:=q.cF;obtain⟨b,h⟩:∃b,w.alloc (.cells #[.int .i64 c.fm,.int .u32 c.mg,.int .i64 c.fr,.int .i64 c.un,.int .i64 c.de,.int .i64 c.it] 24)=b:=⟨_,rfl⟩
 have i:Below w.heap.size w b:=by rw[<-h];exact(zm _ w).alloc (zg _) _
 have r:b.heap.size=w.heap.size+1:=by rw[<-h];simp
 have y:af b w.heap.size 24 #[.int .i64 c.fm,.int .u32 c.mg,.int .i64 c.fr,.int .i64 c.un,.int .i64 c.de,.int .i64 c.it]:=by rw[<-h];exact af.new w _ _
 have A:=za (Uj c l _ B b (q.below (i.mono G)) (by omega) (p.below i p.pos) z);obtain⟨D,C,F,N,J,M⟩:=eR y;have u:=za i;have U:=za r;have S:=za h;unfold aI.val at*;clear q p z i r y h;go_enter func28,ntmps28
 go_wp2_with fail
 rw[S.out];refine A.out.mono ?_;rintro e j ⟨o,I⟩;have m:=za (u.out.trans (o.mono (by have:=U.out;omega)));have L:=o.size;clear o A D C F N J M;rcases I with⟨d,H,K,O,rows,rfl,s,x⟩|⟨d,rfl⟩
 ·have E:=za s;have R:=za x;have k:=za d;clear s x d;go_wp2;refine zj (v:= .tuple #[.pointer (some ⟨j.heap.size,0,none⟩),.int .i64 0]) (by simp[results,results28,go_sem]) rfl ?_;refine⟨m.out.alloc m.out.size _,.inl ⟨k.out,b.heap.size,j.heap.size,j.heap.size,u.out.size,rfl,L,zg _,⟨H,K,O,rows,0,E.out.below ((zm _ j).alloc (zg _) _),R.out,af.new _ _ _,fun _=>eG.zero _ _⟩,bF.nil _ _ _⟩⟩
 have W:(np c l !=0)=true:=yz.2 d;have k:=za d;clear d;go_wp2;refine zj (v:= .tuple #[.pointer none,.int .i64 (np c l)]) (by simp[results,results28,go_sem]) rfl ?_;exact⟨m.out,.inr ⟨k.out,rfl⟩⟩
theorem QZ (Z hi g:Nat)(S:Value)(c:aI)(l:List bD)(x:eZ)(m:Nat)(nm:ByteArray)(it:It)(B:Nat)(w:World)(c0 c1 c2:Value)(hc:c.ok)(h:eQ w Z hi g S c l x m)(hI:dX w B it c0 c1 c2)(hB:B<=w.heap.size)(hL:Laid w)(jl:bq w)
 (hl:c.fm≠1->it.gN.length<=1000000) (ak:(bI c l nm it).1.ok) (VX:m<=1000000000):
 Calls prog 11 #[.pointer (some ⟨g,0,none⟩),.agg #[.string nm,c0,c1,c2]] w fun e w'=>e= .returned (.tuple #[.string (cO c l nm it).1,.int .i64 (cO c l nm it).2])/\eQ w' Z hi g S c l x (if(cO c l nm it).2=0 then m+1 else m)/\ae [g] w w':=by
 obtain⟨r,gn,gi,rows,nd,R,hr,hS,oo⟩:=h.reg;have tR:=hS.lt;obtain⟨M,U,rfl,rfl,rfl,_⟩:=hI.open_;obtain⟨b,N⟩:∃b,w.alloc (.cells #[.string nm,.string it.text,.bool it.list,.slice M it.sub.length U] 30)=b:=⟨_,rfl⟩
 have W:Below w.heap.size w b:=by rw[<-N];exact(zm _ w).alloc (zg _) _
 have eh:b.heap.size=w.heap.size+1:=by rw[<-N];simp
 have Cw:af b w.heap.size 30 #[.string nm,.string it.text,.bool it.list,.slice M it.sub.length U]:=by rw[<-N];exact af.new w _ _
 have ad:=R.below (W.mono R.his);have aj:c.fm=1\/(bI c l nm it).1.body.size<=1000000:=by
  by_cases L:c.fm=1
  ·exact .inl L
  by_cases s:(bI c l nm it).2=0
  ·obtain⟨e,z,H,h3⟩:=qi s;have h4:=(B7 L H (by have:=hl L;omega)).2;rw[h3,zh L];show _\/(bY c e.shape it).1.size<=_
   rw[h4,<-aa];have:=hl L;simp;exact .inr (by omega)
  rw[Mx s];exact .inr (by simp[rD,ByteArray.size])
 have HE:Hid (∀V,Below b.heap.size b V->Calls prog 33 #[.pointer (some ⟨r,0,none⟩),.agg #[.string nm,.string it.text,.bool it.list,.slice M it.sub.length U]] V fun e w'=>e= .returned (.tuple #[(bI c l nm it).1.val,.int .i64 (bI c l nm it).2])/\Below V.heap.size V w'):=za (fun V d=>by
  have aF:=W.trans (d.mono (by omega));have:=Ug Z hi r gn gi c rows nm it B V _ _ _ (R.below (aF.mono R.his)) (hI.below (aF.mono hB)) (by have:=d.size;omega) (hL.below aF hL.pos) (jl.below aF jl.pos) (fun h=>by have:=hl h;omega);rwa [hr]at this)
 have US:=za (fun V (d:Below b.heap.size b V)=>Lb Z hi r gn gi c rows V (ad.below (d.mono ad.his)));have HP:=za (fun V=>Uv c (bI c l nm it).1 hc ak aj V);have G:Hid (cO c l nm it=if(bI c l nm it).2≠0 then(ByteArray.empty,(bI c l nm it).2)else fE c (bI c l nm it).1):=za rfl;have ah:Hid ((fE c (bI c l nm it).1).2≠0->(fE c (bI c l nm it).1).1=ByteArray.empty):=za Py;generalize cO c l nm it=SP at*;obtain⟨Y,NV⟩:∃Y,(if SP.2=0 then m+1 else m)=Y:=⟨_,rfl⟩
 rw[NV];have I:=za NV;clear NV;generalize fE c (bI c l nm it).1=PP at*;generalize bI c l nm it=au at*;obtain⟨F,E⟩:=au;obtain⟨X,D⟩:=PP;obtain⟨A,fn,u⟩:=F;simp only at HE HP G ah;have OD:=za (hS.ag W tR);have N7:=za h;have kg:=za W;have Bo:=za eh;have cw:=za N;have OK:=za Cw;have q:Hid (∀V,Below b.heap.size b V->V.cell? ⟨g,0,none⟩=some (.pointer (some ⟨r,0,none⟩))/\V.cell? ⟨w.heap.size,0,none⟩=some (.string nm)/\V.cell? ⟨w.heap.size,1,none⟩=some (.string it.text)/\V.cell? ⟨w.heap.size,2,none⟩=some (.bool it.list)/\V.cell? ⟨w.heap.size,3,none⟩=some (.slice M it.sub.length U)):=za (fun V d=>by
  have z:fy V g r S nd x.fault x.laid x.told m:=OD.out.ag d OD.out.lt;have H:=OK.out.ag d OK.out.lt;exact⟨z.parts.1,H.cell 0,H.cell 1,H.cell 2,H.cell 3⟩)
 unfold aI.val Fr.val at*;clear h R hr oo hI hL jl hl ak W eh Cw ad aj N hS;go_enter func11,ntmps11
 go_upto_region 3 with fail
 rw[cw.out];go_cut [6,7] (fun v1 v2 k=>∃bf:Nat,v1= .pointer (some ⟨bf,0,none⟩)/\v2= .int .i64 E/\Hid (Below b.heap.size b k)/\Hid (af k bf 84 #[.int .u64 A,.string fn,.string u]))
 case rest=>
  obtain⟨bf,rfl,rfl,o,J⟩:=hcut;obtain⟨k,an⟩:∃k,k=wc:=⟨_,rfl⟩
  subst an;have DL:=o.out.size;have DV:=za (kg.out.trans (o.out.mono (by have:=Bo.out;omega)));have av:w.heap.size<=k.heap.size:=DV.out.size;rcases eY E with⟨s,z1,z2⟩|⟨s,z1,z2⟩
  ·subst s;rw[zh (by simp)]at G;have p0:=(q.out k o.out).1;go_wp2_with fail
   refine eI (by kernel_rfl) (by kernel_rfl) ?_;refine ai (.pointer (some ⟨g,0,none⟩)) (by rfl) (fun _ _=>by first|rfl|go_simp) ?_;simp only[Act.put,zb,zd,ze];refine ai (.pointer (some ⟨g,0,none⟩)) (by rfl) (fun _ _=>by first|rfl|go_simp) ?_;simp only[Act.put,zb,zd,ze];refine ai (.pointer (some ⟨g,0,none⟩)) (by rfl) (fun _ _=>by first|rfl|go_simp) ?_;simp only[Act.put,zb,zd,ze];refine ai (.pointer (some ⟨r,0,none⟩)) (by rfl) (fun V d=>by have p0:=(q.out V (o.out.trans (d.mono DL))).1;go_simp) ?_;simp only[Act.put,zb,zd,ze];refine bU 35 _ (.agg #[.int .i64 c.fm,.int .u32 c.mg,.int .i64 c.fr,.int .i64 c.un,.int .i64 c.de,.int .i64 c.it]) (by rfl) (fun _=>by first|rfl|go_simp) (fun V d=>US.out V (o.out.trans (d.mono DL))) ?_;simp only[Act.put,zb,zd,ze];refine ai (.agg #[.int .u64 A,.string fn,.string u]) (by rfl) (fun V d=>by obtain⟨f0,f1,f2⟩:=ku (J.out.ag d J.out.lt);go_simp) ?_;simp only[Act.put,zb,zd,ze];refine bU 34 _ (.tuple #[.string X,.int .i64 D]) (by rfl) (fun _=>by first|rfl|go_simp) (fun V d=>HP.out V) ?_;simp only[Act.put,zb,zd,ze];refine ai (.tuple #[.string X,.int .i64 D]) (by rfl) (fun _ _=>by first|rfl|go_simp) ?_;simp only[Act.put,zb,zd,ze];refine ai (.string X) (by rfl) (fun _ _=>by first|rfl|go_simp) ?_;simp only[Act.put,zb,zd,ze];refine ai (.int .i64 D) (by rfl) (fun _ _=>by first|rfl|go_simp) ?_;simp only[Act.put,zb,zd,ze];refine ai (.string X) (by rfl) (fun _ _=>by first|rfl|go_simp) ?_;simp only[Act.put,zb,zd,ze]
   refine ai (.int .i64 D) (by rfl) (fun _ _=>by first|rfl|go_simp) ?_;simp only[Act.put,zb,zd,ze];refine xg ?_;intro V d;have gQ:Hid (Below w.heap.size w V):=za (DV.out.trans (d.mono av));have y:Hid (eQ V Z hi g S c l x m):=za (N7.out.below gQ.out);have ab:fy V g r S nd x.fault x.laid x.told m:=OD.out.ag (o.out.trans (d.mono DL)) OD.out.lt;have Wr:g<V.heap.size:=ab.lt;obtain⟨_,_,_,_,_,_,p6⟩:=ab.parts;obtain⟨_,_,_,_,_,f6⟩:=ab.mH;clear d ab p0;rcases eY D with⟨z,u1,u2⟩|⟨z,u1,u2⟩
   ·subst z;go_wp2;refine zj (v:= .tuple #[.string X,.int .i64 0]) (by simp[results,results11,go_sem]) rfl ?_;rw[G.out]at I⊢;obtain rfl:m+1=Y:=by rw[<-I.out,zi rfl]
    have ho:ae [g] V (V.setCell ⟨g,6,none⟩ (.int .i64 ((m:Int)+1))):=(ae.refl _ _).setCell (by simp) _;refine⟨rfl, ?_,((ae.ah gQ.out (zg _)).mono (by simp)).trans ho⟩;obtain⟨al,aq,ao,ar,Oi,k1,k2,k3,k4⟩:=y.out.reg;have e1:((m:Int)+1)=((m+1:Nat):Int):=by omega
    have LP:=y.out.LP;have cn:=y.out.buf.cy k3 (by decide);exact⟨y.out.lohi,y.out.LP,⟨al,aq,ao,ar,Oi,k1.only ho (by simp;omega),k2,by rw[e1];exact fy.TQ k3 _,k4⟩,y.out.buf.iV ho (by intro j e hj;simp at hj;subst hj;exact cn e)⟩
   have hp:=ah.out z;subst hp;go_wp2;refine zj (v:= .tuple #[.string ⟨#[]⟩,.int .i64 D]) (by simp[results,results11,go_sem]) rfl ?_;rw[G.out]at I⊢;obtain rfl:m=Y:=by rw[<-I.out,zh z]
   exact⟨rfl,y.out,(ae.ah gQ.out (zg _)).mono (by simp)⟩
  rw[zi s]at G;go_wp2;refine zj (v:= .tuple #[.string ⟨#[]⟩,.int .i64 E]) (by simp[results,results11,go_sem]) rfl ?_;rw[G.out]at I⊢;obtain rfl:m=Y:=by rw[<-I.out,zh s]
  exact⟨rfl,N7.out.below DV.out,(ae.ah DV.out (zg _)).mono (by simp)⟩
 go_wp2_with fail
 have hHeld:=q.out b.drew (zm _ _).drew;refine aD 11 (fun V=>V.cell? ⟨g,0,none⟩=some (.pointer (some ⟨r,0,none⟩))/\V.cell? ⟨w.heap.size,0,none⟩=some (.string nm)/\V.cell? ⟨w.heap.size,1,none⟩=some (.string it.text)/\V.cell? ⟨w.heap.size,2,none⟩=some (.bool it.list)/\V.cell? ⟨w.heap.size,3,none⟩=some (.slice M it.sub.length U)) (by kernel_rfl) (by kernel_rfl) ?_;refine GT.jV [0,1,2,3,4] hHeld (fun _ _ _ _ _ h=>h) (by kernel_rfl) ?_;repeat(refine .c rfl rfl (fun V d=>by go_simp<;>with_reducible rfl) ?_;simp only[Act.put,zb,zd,ze])
 refine .nil ?_;refine GT.T4 5 9 rfl rfl (by kernel_rfl) (fun K i=> ?_) (fun K i=> ?_)
 ·go_simp;refine(HE.out b.drew (zm _ _).drew).mono ?_;rintro en w3 ⟨rfl,C⟩;have n:Below b.heap.size b w3:=(show Below b.heap.size b b.drew from(zm _ _).drew).trans C;go_wp2_with fail
  refine i.out _ _ (q.out w3 n) (fun hHeld=> ?_);clear i K;try simp only[Act.put,zb,zd,ze]
  refine GT.jV [6,7,8] hHeld (fun _ _ _ _ _ h=>h) (by kernel_rfl) ?_;repeat(refine .c rfl rfl (fun V d=>by go_simp<;>with_reducible rfl) ?_;simp only[Act.put,zb,zd,ze])
  refine .nil ?_;refine GT.fP 9 (fun K i=> ?_) rfl (by kernel_rfl);go_simp;refine i.out _ _ (q.out _ (n.alloc n.size _)) (fun hHeld=> ?_);clear i K;try simp only[Act.put,zb,zd,ze]
  refine GT.fP 10 (fun K i=> ?_) rfl (by kernel_rfl);go_simp;refine i.out _ _ (q.out _ (n.alloc n.size _)) (fun hHeld=> ?_);clear i K;try simp only[Act.put,zb,zd,ze]
  refine GT.pt 11 ?_ rfl (by kernel_rfl);go_simp;obtain⟨k,p⟩:∃k,w3.alloc (.cells #[.int .u64 A,.string fn,.string u] 84)=k:=⟨_,rfl⟩
  have o:Hid (Below b.heap.size b k):=za (by rw[<-p];exact n.alloc n.size _);have J:Hid (af k w3.heap.size 84 #[.int .u64 A,.string fn,.string u]):=za (by rw[<-p];exact af.new _ _ _);rw[p];clear p C n hHeld;go_wp2_with fail
  go_meet;case rel=>exact⟨_,rfl,rfl,o,J⟩
 go_simp;have O:Below b.heap.size b (b.alloc (.cells #[.int .u64 0,.string ⟨#[]⟩,.string ⟨#[]⟩] 84)).drew:=((zm b.heap.size b).alloc (zg _) _).drew;have ag:af (b.alloc (.cells #[.int .u64 0,.string ⟨#[]⟩,.string ⟨#[]⟩] 84)).drew b.heap.size 84 #[.int .u64 0,.string ⟨#[]⟩,.string ⟨#[]⟩]:=(af.new b _ _).drew;refine i.out _ _ (q.out _ O) (fun hHeld=> ?_);clear i K;try simp only[Act.put,zb,zd,ze]
 refine GT.fP 5 (fun K i=> ?_) rfl (by kernel_rfl);go_simp;refine(HE.out _ O).mono ?_;rintro en w3 ⟨rfl,C⟩;have n:Below b.heap.size b w3:=O.trans (C.mono O.size);have Sc:=ag.ag C ag.lt;go_wp2_with fail
 refine i.out _ _ (q.out w3 n) (fun hHeld=> ?_);clear i K;try simp only[Act.put,zb,zd,ze]
 refine GT.jV [6,7,8] hHeld (fun _ _ _ _ _ h=>h) (by kernel_rfl) ?_;repeat(refine .c rfl rfl (fun V d=>by go_simp<;>with_reducible rfl) ?_;simp only[Act.put,zb,zd,ze])
 refine .nil ?_;obtain⟨t0,t1,t2,LA,N',S5⟩:=a8 Sc;refine GT.fP 10 (fun K i=> ?_) rfl (by kernel_rfl);go_simp;have S4:Below b.heap.size b (((w3.setCell ⟨b.heap.size,0,none⟩ (.int .u64 A)).setCell ⟨b.heap.size,1,none⟩ (.string fn)).setCell ⟨b.heap.size,2,none⟩ (.string u)):=((n.setCell (by simp) _).setCell (by simp) _).setCell (by simp) _;refine i.out _ _ (q.out _ S4) (fun hHeld=> ?_);clear i K;try simp only[Act.put,zb,zd,ze]
 refine GT.pt 11 ?_ rfl (by kernel_rfl);go_simp;obtain⟨k,p⟩:∃k,((w3.setCell ⟨b.heap.size,0,none⟩ (.int .u64 A)).setCell ⟨b.heap.size,1,none⟩ (.string fn)).setCell ⟨b.heap.size,2,none⟩ (.string u)=k:=⟨_,rfl⟩
 have o:Hid (Below b.heap.size b k):=za (by rw[<-p];exact S4);have J:Hid (af k b.heap.size 84 #[.int .u64 A,.string fn,.string u]):=za (by rw[<-p];exact dK Sc _ _ _);rw[p];clear p C n hHeld O ag Sc S4 t0 t1 t2 LA N' S5;go_wp2_with fail
 go_meet;case rel=>exact⟨_,rfl,rfl,o,J⟩
