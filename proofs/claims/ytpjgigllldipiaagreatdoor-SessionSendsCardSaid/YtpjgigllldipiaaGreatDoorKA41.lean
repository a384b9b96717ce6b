/- session.cut's closure: the next message of the buffer. -/
import Derived.Test.YtpjgigllldipiaaGreatDoorKA22
import Derived.Test.YtpjgigllldipiaaGreatDoorKA39
import Derived.Test.YtpjgigllldipiaaGreatDoorKA40
set_option linter.all false
set_option maxRecDepth 100000
set_option maxHeartbeats 8000000
namespace Go.Proofs.YtpjgigllldipiaaGreatDoor
open Go.RowKit
structure TX (w:World)(cb mb tb ab sb g gm:Nat)(c:aS)(b:ByteArray)(k:Nat):Prop where
 cf:af w cb 24 #[.int .i64 c.fm,.int .u32 c.mg,.int .i64 c.fr,.int .i64 c.un,.int .i64 c.de,.int .i64 c.it]
 me:af w mb 79 #[.pointer (some ⟨gm,0,none⟩)]
 tx:af w tb 9 #[.string b]
 at_:af w ab 3 #[.int .i64 k]
 se:af w sb 37 #[.pointer (some ⟨g,0,none⟩)]
structure NxN (lo hi cb mb tb ab sb g gm:Nat):Prop where
 m1:gm≠cb/\gm≠mb/\gm≠tb/\gm≠ab/\gm≠sb/\gm≠g
 a1:ab≠cb/\ab≠mb/\ab≠tb/\ab≠sb/\ab≠g
 r1:(gm<lo\/hi<=gm)/\(ab<lo\/hi<=ab)
theorem TX.only {w w':World}{cb l i j m g n:Nat}{c:aS}{b:ByteArray}{k:Nat}{L:List Nat}(h:TX w cb l i j m g n c b k)(e:ae L w w')(d:cb∉L/\l∉L/\i∉L/\j∉L/\m∉L):TX w' cb l i j m g n c b k:=
 ⟨h.cf.only e d.1,h.me.only e d.2.1,h.tx.only e d.2.2.1,h.at_.only e d.2.2.2.1,h.se.only e d.2.2.2.2⟩
def De (cb mb tb ab sb:Nat):Array Value:= #[.pointer (some ⟨cb,0,none⟩),.pointer (some ⟨mb,0,none⟩),.pointer (some ⟨tb,0,none⟩),.pointer (some ⟨ab,0,none⟩),.pointer (some ⟨sb,0,none⟩)]
theorem F0 {w:World}{g:Nat}{t:TypeId}{n j e z3:Value}(h:af w g t #[n,j,e,z3])(b c d v3:Value):af ((((w.setCell ⟨g,0,none⟩ b).setCell ⟨g,1,none⟩ c).setCell ⟨g,2,none⟩ d).setCell ⟨g,3,none⟩ v3) g t #[b,c,d,v3]:=by
 have l:af _ g t #[b,j,e,z3]:=h.store (i:=0) (u:=b) rfl;have m:af _ g t #[b,c,e,z3]:=l.store (i:=1) (u:=c) rfl;have k:af _ g t #[b,c,d,z3]:=m.store (i:=2) (u:=d) rfl;exact k.store (i:=3) (u:=v3) rfl
def Ql (w:World)(ab gm t R k:Nat)(X:Int×Ms×Nat×Nat)(e:Ending)(w':World):Prop:=
 ∃d0 d1 d2 d3,e= .returned (.tuple #[.agg #[d0,d1,d2,d3],.int .i64 X.1])/\oN w' (w.heap.size<= ·) X.2.1 d0 d1 d2 d3/\Met w' (some gm) (t+X.2.2.2) (R-X.2.2.2)/\ae [gm,ab] w w'/\af w' ab 3 #[.int .i64 (if X.1=0 then k+X.2.2.1 else k:Nat)]
theorem Qm (c:aS)(l:List bF)(lo hi O gn gi:Nat)(rows:List bV)(g s cb mb tb y sb:Nat)(b:ByteArray)(k:Nat)(bv:Value)(nd:Nat)(fault:Int)(laid av aU t R:Nat)(w:World)
 (hr:c.right=true) (hc:c.ok) (hb:b.size<=100000) (J:k<=b.size) (hM:lS w lo hi O gn gi c rows) (qx:aJ rows=l) (hS:ff w g O bv nd fault laid av aU) (hm:Met w (some s) t R) (hR:70000<=R)
 (hB:TX w cb mb tb y sb g s c b k) (hN:NxN lo hi cb mb tb y sb g s) (aO:∀V,ae [s,y] w V->Laid V/\bn V):
 Calls Tryz.prog 48 (De cb mb tb y sb) w (Ql w y s t R k (aR c l (b.extract k b.size))):=by
 obtain⟨r,NK⟩:∃r,b.extract k b.size=r:=⟨_,rfl⟩
 have U8:r.size=b.size-k:=by rw[<-NK,an _ _ _ (zi _)]
 rw[NK];have sW:(k:Int)<=b.size:=by omega
 obtain⟨W,hW⟩:∃W,w.alloc (.cells #[.string ⟨#[]⟩,.string ⟨#[]⟩,.bool false,.slice none 0 0] 30)=W:=⟨_,rfl⟩
 have lN:Below w.heap.size w W:=by rw[<-hW];exact(zq _ w).alloc (zi _) _
 have VP:w.heap.size<W.heap.size:=by rw[<-hW];simp
 have Rm:s<w.heap.size:=hm.lt s rfl;have Jk:y<w.heap.size:=hB.at_.lt;have ay:af W w.heap.size 30 #[.string ⟨#[]⟩,.string ⟨#[]⟩,.bool false,.slice none 0 0]:=by rw[<-hW];exact af.new _ _ _
 have aF:Met W (some s) t R:=(MS.refl hm|>.below lN).met;obtain⟨n1,n2,n3,n4,n5,n6⟩:=hN.m1;have fe:Hid (∀V,ae [s] w V->TX V cb mb tb y sb g s c b k/\lS V lo hi O gn gi c rows/\ff V g O bv nd fault laid av aU/\Laid V/\bn V):=za (fun V p=>⟨hB.only p (by simp;omega),hM.only p (by have:=hN.r1;simp;omega),hS.only p (by simp;omega),aO V (p.mono (by simp))⟩);have JC:Hid (∀V,ae [s] W V->ae [s] w V):=za (fun V p=>((ae.ah lN (zi _)).mono (by simp)).trans p);have HS:Hid (∀V,ae [s] W V->V.cell? ⟨cb,0,none⟩=some (.int .i64 c.fm)/\V.cell? ⟨cb,1,none⟩=some (.int .u32 c.mg)/\V.cell? ⟨cb,2,none⟩=some (.int .i64 c.fr)/\V.cell? ⟨cb,3,none⟩=some (.int .i64 c.un)/\V.cell? ⟨cb,4,none⟩=some (.int .i64 c.de)/\V.cell? ⟨cb,5,none⟩=some (.int .i64 c.it)/\V.cell? ⟨mb,0,none⟩=some (.pointer (some ⟨s,0,none⟩))/\V.cell? ⟨tb,0,none⟩=some (.string b)/\V.cell? ⟨y,0,none⟩=some (.int .i64 k)):=za (fun V p=>by
  obtain⟨hx,_⟩:=fe.out V (JC.out V p);exact⟨hx.cf.cell 0,hx.cf.cell 1,hx.cf.cell 2,hx.cf.cell 3,hx.cf.cell 4,hx.cf.cell 5,hx.me.cell 0,hx.tx.cell 0,hx.at_.cell 0⟩)
 have HN:=za (fun W0 V p=>Qk c (some s) t R r hc hR (by omega) W0 V p);have U:Hid (aR c l r=if(aW c r).1≠0 then((aW c r).1,ri,(aW c r).2.2.1,(aW c r).2.2.2)else((eM c l (aW c r).2.1).1,(eM c l (aW c r).2.1).2,(aW c r).2.2.1,(aW c r).2.2.2)):=za rfl;have eZ:=(uI c).pos r;have K7:(aW c r).2.1.body.size<=1099511627776:=u' c r (by omega);generalize aR c l r=X at*;obtain⟨ao,hY⟩:∃ao,aW c r=ao:=⟨_,rfl⟩
 rw[hY]at HN U eZ K7;clear hY;obtain⟨y5,⟨E,D,C⟩,y4,m⟩:=ao;simp only at eZ K7 U;unfold oX Fr.val np aS.val at HN;simp only at HN;have HW:=za hW;have Ua:=za (MS.refl aF);have aQ:=za ay;have Vy:=za hN;have Cd:=za qx;have DD:=za eZ;have aP:=za K7;unfold De;clear hm hR hB hN aO hM qx hS lN ay aF hW eZ K7 n1 n2 n3 n4 n5 n6;go_enter Tryz.func48,Tryz.ntmps48
 go_upto_region 1 with fail
 rw[HW.out];go_cut [7,8,9] (fun v1 v2 v3 d=>∃H:Nat,v1= .pointer (some ⟨H,0,none⟩)/\v2= .int .i64 y4/\v3= .int .i64 y5/\Hid (MS (some s) (t+m) (R-m) W d)/\Hid (af d H 74 #[.int .u64 E,.string D,.string C])/\W.heap.size<=H)
 case rest=>
  obtain⟨H,rfl,rfl,rfl,aa,Z,al⟩:=hcut;obtain⟨d,aY⟩:∃d,d=wc:=⟨_,rfl⟩
  subst aY;have Lt:=aa.out.only;have B:=za (fe.out d (JC.out d Lt));have Q6:Hid (af d w.heap.size 30 #[.string ⟨#[]⟩,.string ⟨#[]⟩,.bool false,.slice none 0 0]):=za (aQ.out.only Lt (by simp;omega));have a':H<d.heap.size:=Z.out.lt;have wV:g<d.heap.size:=B.out.2.2.1.lt;have aM:=za (JC.out d Lt);clear Lt;rcases eH y5 with⟨h0,z1,z2⟩|⟨h0,z1,z2⟩
  ·subst h0;obtain⟨gu,ia⟩:=DD.out rfl;rw[zj (by simp)]at U;have HD:Hid (∀V,Below d.heap.size d V->Calls Tryz.prog 50 #[.pointer (some ⟨O,0,none⟩),.agg #[.int .u64 E,.string D,.string C]] V (U1 V (eM c l ⟨E,D,C⟩))):=za (fun V p=>by
    have:=TG lo hi O gn gi c rows ⟨E,D,C⟩ V (B.out.2.1.below (p.mono B.out.2.1.his)) (B.out.2.2.2.1.below p B.out.2.2.2.1.pos) (B.out.2.2.2.2.below p B.out.2.2.2.2.pos) aP.out;rwa [Cd.out]at this)
   have Dz:Hid (∀V,Below d.heap.size d V->V.cell? ⟨sb,0,none⟩=some (.pointer (some ⟨g,0,none⟩))/\V.cell? ⟨g,0,none⟩=some (.pointer (some ⟨O,0,none⟩))/\V.cell? ⟨H,0,none⟩=some (.int .u64 E)/\V.cell? ⟨H,1,none⟩=some (.string D)/\V.cell? ⟨H,2,none⟩=some (.string C)):=za (fun V p=>by
    have M:=B.out.1.se.ag p B.out.1.se.lt;have h2:ff V g O bv nd fault laid av aU:=B.out.2.2.1.ag p wV;have h3:=Z.out.ag p Z.out.lt;exact⟨M.cell 0,h2.parts.1,h3.cell 0,h3.cell 1,h3.cell 2⟩)
   generalize eM c l ⟨E,D,C⟩=aZ at*;obtain⟨D1,n⟩:=aZ;simp only at U;go_upto_region 4 with fail
   go_cut [9,10] (fun v1 v2 q=>∃(bm:Nat) (u:Option Addr) (x:Nat),v1= .int .i64 D1/\v2= .pointer (some ⟨bm,0,none⟩)/\Hid (Below d.heap.size d q)/\Hid (af q bm 30 #[.string n.name,.string n.x.text,.bool n.x.list,.slice u n.x.sub.length x])/\Hid (oN q (d.heap.size<= ·) n (.string n.name) (.string n.x.text) (.bool n.x.list) (.slice u n.x.sub.length x))/\d.heap.size<=bm)
   case rest=>
    obtain⟨bm,u,x,rfl,rfl,S,Oi,NV,aD⟩:=hcut;obtain⟨q,aV⟩:∃q,q=wc:=⟨_,rfl⟩
    subst aV;have ak:=za (B.out.1.at_.ag S.out B.out.1.at_.lt);have ax:=za (Q6.out.ag S.out Q6.out.lt);have aE:Hid (Met q (some s) (t+m) (R-m)):=za (aa.out.below S.out).met;have az:Hid (ae [s] w q):=za ((aM.out.trans' (ae.ah S.out (zi _)) (by simp)));have Sm:=S.out.size;rcases eH D1 with⟨M,u1,u2⟩|⟨M,u1,u2⟩
    ·subst M;have q0:q.cell? ⟨y,0,none⟩=some (.int .i64 k):=ak.out.cell 0;have VH:q.frozen? ⟨y,0,none⟩=false:=ak.out.frozen 0;go_upto_region 7 with fail
     obtain⟨W9,Sv⟩:∃W9,q.setCell ⟨y,0,none⟩ (.int .i64 ((k:Int)+y4))=W9:=⟨_,rfl⟩
     have mi:ae [y] q W9:=by rw[<-Sv];exact(ae.refl _ _).setCell (by simp) _
     have DH:Hid (af W9 y 3 #[.int .i64 (k+y4:Nat)]):=za (by rw[<-Sv];exact ak.out.store rfl);have aA:=za (ax.out.only mi (by simp;omega));have aH:=Oi.out.only mi (by simp;omega);have a6:=za (NV.out.only mi (by simp;omega) (fun _ _ h=>h));have a7:=za (aE.out.only mi (by intro j e;injection e with e;have:=Vy.out.m1;simp;omega));have aX:Hid (ae [s,y] w W9):=za ((az.out.mono (by simp)).trans (mi.mono (by simp)));obtain⟨v0,v1,v2,v3,_⟩:=aL aH;obtain⟨m0,m1,m2,m3,aI,aK,aG,aN⟩:=aL aA.out;rw[Sv];clear Sv mi aH q0 VH;go_wp2;obtain⟨ag,ai,ah,ad⟩:=hU aA.out (.string n.name) (.string n.x.text) (.bool n.x.list) (.slice u n.x.sub.length x);refine zp (v:= .tuple #[.agg #[.string n.name,.string n.x.text,.bool n.x.list,.slice u n.x.sub.length x],.int .i64 0]) (by simp[results,Tryz.results48,go_sem,ag,ai,ah,ad]) rfl ?_;have z:=eF W9 w.heap.size (.string n.name) (.string n.x.text) (.bool n.x.list) (.slice u n.x.sub.length x);rw[U.out];refine⟨_,_,_,_,rfl,a6.out.only z (by simp;omega) (fun k _ J=>by have J:d.heap.size<=k:=J;show w.heap.size<=k;omega),a7.out.only z (by intro j e;injection e with e;simp;omega),aX.out.trans' z (by simp), ?_⟩;have M:=DH.out.only z (by simp;omega);rw[zl rfl];exact M
    obtain⟨v0,v1,v2,v3,_⟩:=aL Oi.out;obtain⟨m0,m1,m2,m3,aI,aK,aG,aN⟩:=aL ax.out;go_wp2;obtain⟨ag,ai,ah,ad⟩:=hU ax.out (.string n.name) (.string n.x.text) (.bool n.x.list) (.slice u n.x.sub.length x);refine zp (v:= .tuple #[.agg #[.string n.name,.string n.x.text,.bool n.x.list,.slice u n.x.sub.length x],.int .i64 D1]) (by simp[results,Tryz.results48,go_sem,ag,ai,ah,ad]) rfl ?_;have z:=eF q w.heap.size (.string n.name) (.string n.x.text) (.bool n.x.list) (.slice u n.x.sub.length x);rw[U.out];refine⟨_,_,_,_,rfl,NV.out.only z (by simp;omega) (fun k _ J=>by have J:d.heap.size<=k:=J;show w.heap.size<=k;omega),aE.out.only z (by intro j e;injection e with e;simp;omega),(az.out.mono (by simp)).trans' z (by simp), ?_⟩;have h2:=ak.out.only z (by simp;omega);rw[zj M];exact h2
   go_wp2_with fail
   have hHeld:=Dz.out d.drew (zq _ _).drew;refine aB 11 (fun V=>V.cell? ⟨sb,0,none⟩=some (.pointer (some ⟨g,0,none⟩))/\V.cell? ⟨g,0,none⟩=some (.pointer (some ⟨O,0,none⟩))/\V.cell? ⟨H,0,none⟩=some (.int .u64 E)/\V.cell? ⟨H,1,none⟩=some (.string D)/\V.cell? ⟨H,2,none⟩=some (.string C)) (by kernel_rfl) (by kernel_rfl) ?_;refine GT.jD [0,1,2,3,4] hHeld (fun _ _ _ _ _ h=>h) (by kernel_rfl) ?_;repeat(refine .c rfl rfl (fun V p=>by go_simp<;>with_reducible rfl) ?_;simp only[Act.put,zb,ze,zf])
   refine .nil ?_;refine GT.two (i:=5) (j:=9) (by simp only[y8,yW,yM];rfl) (by simp only[y8,yW,yM];rfl) (by kernel_rfl) (by kernel_rfl) (by kernel_rfl) (fun K o=> ?_) (fun K o=> ?_)
   ·go_simp;refine(HD.out d.drew (zq _ _).drew).mono ?_;rintro en G ⟨nP,d0,d1,d2,d3,rfl,Y⟩;obtain⟨u,x,rfl,rfl,rfl,rfl,_⟩:=Y.open_;have A:Below d.heap.size d G:=(show Below d.heap.size d d.drew from(zq _ _).drew).trans nP;go_wp2_with fail
    refine o.out _ _ (Dz.out G A) (fun hHeld=> ?_);clear o K;try simp only[Act.put,zb,ze,zf]
    refine GT.jD [6,7,8] hHeld (fun _ _ _ _ _ h=>h) (by kernel_rfl) ?_;repeat(refine .c rfl rfl (fun V p=>by go_simp<;>with_reducible rfl) ?_;simp only[Act.put,zb,ze,zf])
    refine .nil ?_;refine GT.fF 9 (fun K o=> ?_) rfl (by kernel_rfl);go_simp;refine o.out _ _ (Dz.out _ (A.alloc A.size _)) (fun hHeld=> ?_);clear o K;try simp only[Act.put,zb,ze,zf]
    refine GT.fF 10 (fun K o=> ?_) rfl (by kernel_rfl);go_simp;refine o.out _ _ (Dz.out _ (A.alloc A.size _)) (fun hHeld=> ?_);clear o K;try simp only[Act.put,zb,ze,zf]
    refine GT.oP 11 ?_ rfl (by kernel_rfl);go_simp;obtain⟨q,F⟩:∃q,G.alloc (.cells #[.string n.name,.string n.x.text,.bool n.x.list,.slice u n.x.sub.length x] 30)=q:=⟨_,rfl⟩
    have S:Hid (Below d.heap.size d q):=za (by rw[<-F];exact A.alloc A.size _);have Oi:Hid (af q G.heap.size 30 #[.string n.name,.string n.x.text,.bool n.x.list,.slice u n.x.sub.length x]):=za (by rw[<-F];exact af.new _ _ _);have NV:Hid (oN q (d.heap.size<= ·) n (.string n.name) (.string n.x.text) (.bool n.x.list) (.slice u n.x.sub.length x)):=za (by rw[<-F];exact Y.below ((zq _ _).alloc (zi _) _));have aD:d.heap.size<=G.heap.size:=A.size;rw[F];clear F nP A Y hHeld;go_wp2_with fail
    go_meet;case rel=>exact⟨_,_,_,rfl,rfl,S,Oi,NV,aD⟩
   go_simp;have DE:Below d.heap.size d (d.alloc (.cells #[.string ⟨#[]⟩,.string ⟨#[]⟩,.bool false,.slice none 0 0] 30)).drew:=((zq d.heap.size d).alloc (zi _) _).drew;have au:af (d.alloc (.cells #[.string ⟨#[]⟩,.string ⟨#[]⟩,.bool false,.slice none 0 0] 30)).drew d.heap.size 30 #[.string ⟨#[]⟩,.string ⟨#[]⟩,.bool false,.slice none 0 0]:=(af.new d _ _).drew;refine o.out _ _ (Dz.out _ DE) (fun hHeld=> ?_);clear o K;try simp only[Act.put,zb,ze,zf]
   refine GT.fF 5 (fun K o=> ?_) rfl (by kernel_rfl);go_simp;refine(HD.out _ DE).mono ?_;rintro en G ⟨nP,d0,d1,d2,d3,rfl,Y⟩;obtain⟨u,x,rfl,rfl,rfl,rfl,_⟩:=Y.open_;have A:Below d.heap.size d G:=DE.trans (nP.mono DE.size);have aw:=au.ag nP au.lt;go_wp2_with fail
   refine o.out _ _ (Dz.out G A) (fun hHeld=> ?_);clear o K;try simp only[Act.put,zb,ze,zf]
   refine GT.jD [6,7,8] hHeld (fun _ _ _ _ _ h=>h) (by kernel_rfl) ?_;repeat(refine .c rfl rfl (fun V p=>by go_simp<;>with_reducible rfl) ?_;simp only[Act.put,zb,ze,zf])
   refine .nil ?_;obtain⟨t0,t1,t2,t3,Ll,NL,Ss,aT⟩:=aL aw;refine GT.fF 10 (fun K o=> ?_) rfl (by kernel_rfl);go_simp;have Sr:Below d.heap.size d ((((G.setCell ⟨d.heap.size,0,none⟩ (.string n.name)).setCell ⟨d.heap.size,1,none⟩ (.string n.x.text)).setCell ⟨d.heap.size,2,none⟩ (.bool n.x.list)).setCell ⟨d.heap.size,3,none⟩ (.slice u n.x.sub.length x)):=(((A.setCell (by simp) _).setCell (by simp) _).setCell (by simp) _).setCell (by simp) _;refine o.out _ _ (Dz.out _ Sr) (fun hHeld=> ?_);clear o K;try simp only[Act.put,zb,ze,zf]
   refine GT.oP 11 ?_ rfl (by kernel_rfl);go_simp;obtain⟨q,F⟩:∃q,(((G.setCell ⟨d.heap.size,0,none⟩ (.string n.name)).setCell ⟨d.heap.size,1,none⟩ (.string n.x.text)).setCell ⟨d.heap.size,2,none⟩ (.bool n.x.list)).setCell ⟨d.heap.size,3,none⟩ (.slice u n.x.sub.length x)=q:=⟨_,rfl⟩
   have S:Hid (Below d.heap.size d q):=za (by rw[<-F];exact Sr);have Oi:Hid (af q d.heap.size 30 #[.string n.name,.string n.x.text,.bool n.x.list,.slice u n.x.sub.length x]):=za (by rw[<-F];exact F0 aw _ _ _ _);have NV:Hid (oN q (d.heap.size<= ·) n (.string n.name) (.string n.x.text) (.bool n.x.list) (.slice u n.x.sub.length x)):=za (by rw[<-F];exact Y.only (L:= [d.heap.size]) (eF G d.heap.size _ _ _ _) (by simp[World.drew]) (fun k _ J=>by have J:(d.alloc (.cells #[.string ⟨#[]⟩,.string ⟨#[]⟩,.bool false,.slice none 0 0] 30)).heap.size<=k:=J;simp at J;show d.heap.size<=k;omega));rw[F];clear F nP A Y hHeld DE au aw Sr t0 t1 t2 t3 Ll NL Ss aT;go_wp2_with fail
   go_meet;case rel=>exact⟨_,_,_,rfl,rfl,S,Oi,NV,zi _⟩
  rw[zl h0]at U;obtain⟨m0,m1,m2,m3,aI,aK,aG,aN⟩:=aL Q6.out;have a1:=za aa.out.met;go_wp2;obtain⟨ag,ai,ah,ad⟩:=hU Q6.out (.string ⟨#[]⟩) (.string ⟨#[]⟩) (.bool false) (.slice none 0 0);refine zp (v:= .tuple #[.agg #[.string ⟨#[]⟩,.string ⟨#[]⟩,.bool false,.slice none 0 0],.int .i64 y5]) (by simp[results,Tryz.results48,go_sem,ag,ai,ah,ad]) rfl ?_;have z:=eF d w.heap.size (.string ⟨#[]⟩) (.string ⟨#[]⟩) (.bool false) (.slice none 0 0);rw[U.out];refine⟨_,_,_,_,rfl,Db _ _,a1.out.only z (by intro j e;injection e with e;simp;omega),(aM.out.mono (by simp)).trans' z (by simp), ?_⟩;have M:=B.out.1.at_.only z (by simp;omega);rw[zj h0];exact M
 go_wp2_with fail
 have hHeld:=HS.out W.drew Ua.out.drew.only;refine aB 13 (fun V=>V.cell? ⟨cb,0,none⟩=some (.int .i64 c.fm)/\V.cell? ⟨cb,1,none⟩=some (.int .u32 c.mg)/\V.cell? ⟨cb,2,none⟩=some (.int .i64 c.fr)/\V.cell? ⟨cb,3,none⟩=some (.int .i64 c.un)/\V.cell? ⟨cb,4,none⟩=some (.int .i64 c.de)/\V.cell? ⟨cb,5,none⟩=some (.int .i64 c.it)/\V.cell? ⟨mb,0,none⟩=some (.pointer (some ⟨s,0,none⟩))/\V.cell? ⟨tb,0,none⟩=some (.string b)/\V.cell? ⟨y,0,none⟩=some (.int .i64 k)) (by kernel_rfl) (by kernel_rfl) ?_;refine GT.jD [0,1,2,3,4] hHeld (fun _ _ _ _ _ h=>h) (by kernel_rfl) ?_;iterate 4 (refine .c rfl rfl (fun V p=>by go_simp<;>with_reducible rfl) ?_;simp only[Act.put,zb,ze,zf])
 refine .c (v:= .string r) rfl rfl (fun V p=>by go_simp<;>with_reducible rfl) ?_;try simp only[Act.put,zb,ze,zf];refine .nil ?_;refine GT.two (i:=5) (j:=10) (by simp only[y8,yW,yM];rfl) (by simp only[y8,yW,yM];rfl) (by kernel_rfl) (by kernel_rfl) (by kernel_rfl) (fun K o=> ?_) (fun K o=> ?_)
 ·go_simp;refine(HN.out W W.drew Ua.out.drew).mono ?_;rintro en w3 ⟨rfl,I⟩;go_wp2_with fail
  refine o.out _ _ (HS.out w3 I.only) (fun hHeld=> ?_);clear o K;try simp only[Act.put,zb,ze,zf]
  refine GT.jD [6,7,8,9] hHeld (fun _ _ _ _ _ h=>h) (by kernel_rfl) ?_;repeat(refine .c rfl rfl (fun V p=>by go_simp<;>with_reducible rfl) ?_;simp only[Act.put,zb,ze,zf])
  refine .nil ?_;refine GT.fF 10 (fun K o=> ?_) rfl (by kernel_rfl);go_simp;refine o.out _ _ (HS.out _ (I.alloc _).only) (fun hHeld=> ?_);clear o K;try simp only[Act.put,zb,ze,zf]
  refine GT.fF 11 (fun K o=> ?_) rfl (by kernel_rfl);go_simp;refine o.out _ _ (HS.out _ (I.alloc _).only) (fun hHeld=> ?_);clear o K;try simp only[Act.put,zb,ze,zf]
  refine GT.jD [12] hHeld (fun _ _ _ _ _ h=>h) (by kernel_rfl) ?_;refine .c rfl rfl (fun V p=>by go_simp<;>with_reducible rfl) ?_;simp only[Act.put,zb,ze,zf];refine .nil ?_;refine GT.oP 13 ?_ rfl (by kernel_rfl);go_simp;obtain⟨d,N⟩:∃d,w3.alloc (.cells #[.int .u64 E,.string D,.string C] 74)=d:=⟨_,rfl⟩
  have aa:Hid (MS (some s) (t+m) (R-m) W d):=za (by rw[<-N];exact I.alloc _);have Z:Hid (af d w3.heap.size 74 #[.int .u64 E,.string D,.string C]):=za (by rw[<-N];exact af.new _ _ _);have al:W.heap.size<=w3.heap.size:=I.size;rw[N];clear N I hHeld;go_wp2_with fail
  go_meet;case rel=>exact⟨_,rfl,rfl,rfl,aa,Z,al⟩
 go_simp;have aj:MS (some s) t R W (W.alloc (.cells #[.int .u64 0,.string ⟨#[]⟩,.string ⟨#[]⟩] 74)).drew:=(Ua.out.alloc _).drew;have aC:af (W.alloc (.cells #[.int .u64 0,.string ⟨#[]⟩,.string ⟨#[]⟩] 74)).drew W.heap.size 74 #[.int .u64 0,.string ⟨#[]⟩,.string ⟨#[]⟩]:=(af.new W _ _).drew;refine o.out _ _ (HS.out _ aj.only) (fun hHeld=> ?_);clear o K;try simp only[Act.put,zb,ze,zf]
 refine GT.fF 5 (fun K o=> ?_) rfl (by kernel_rfl);go_simp;refine(HN.out _ _ (MS.refl aj.met)).mono ?_;rintro en w3 ⟨rfl,aq⟩;have I:=aq.from aj.only;have RE:=aC.only aq.only (by simp;omega);go_wp2_with fail
 refine o.out _ _ (HS.out w3 I.only) (fun hHeld=> ?_);clear o K;try simp only[Act.put,zb,ze,zf]
 refine GT.jD [6,7,8,9] hHeld (fun _ _ _ _ _ h=>h) (by kernel_rfl) ?_;repeat(refine .c rfl rfl (fun V p=>by go_simp<;>with_reducible rfl) ?_;simp only[Act.put,zb,ze,zf])
 refine .nil ?_;obtain⟨t0,t1,t2,Ll,NL,Ss⟩:=a8 RE;refine GT.fF 11 (fun K o=> ?_) rfl (by kernel_rfl);go_simp;have ar:=I.dV (zi _) (by intro j e;injection e with e;omega) (.int .u64 E) (.string D) (.string C);refine o.out _ _ (HS.out _ ar.only) (fun hHeld=> ?_);clear o K;try simp only[Act.put,zb,ze,zf]
 refine GT.jD [12] hHeld (fun _ _ _ _ _ h=>h) (by kernel_rfl) ?_;refine .c rfl rfl (fun V p=>by go_simp<;>with_reducible rfl) ?_;simp only[Act.put,zb,ze,zf];refine .nil ?_;refine GT.oP 13 ?_ rfl (by kernel_rfl);go_simp;obtain⟨d,N⟩:∃d,((w3.setCell ⟨W.heap.size,0,none⟩ (.int .u64 E)).setCell ⟨W.heap.size,1,none⟩ (.string D)).setCell ⟨W.heap.size,2,none⟩ (.string C)=d:=⟨_,rfl⟩
 have aa:Hid (MS (some s) (t+m) (R-m) W d):=za (by rw[<-N];exact ar);have Z:Hid (af d W.heap.size 74 #[.int .u64 E,.string D,.string C]):=za (by rw[<-N];exact dV RE _ _ _);have al:W.heap.size<=W.heap.size:=zi _;rw[N];clear N I hHeld aq aj aC RE ar t0 t1 t2 Ll NL Ss;go_wp2_with fail
 go_meet;case rel=>exact⟨_,rfl,rfl,rfl,aa,Z,al⟩
def lenOf :Value->Nat
 | .slice _ n _=>n
 |_=>0
theorem Qn (c:aS)(l:List bF)(s:ByteArray):(aR c l s).2.2.2<=65536:=by rw[lC];exact BN c s
structure CuW (w V:World)(cb mb tb ab sb tm z g gm:Nat)(c:aS)(l:List bF)(b:ByteArray)(k t R:Nat)(lv:Value):Prop where
 only:ae [gm] w V
 met:Met V (some gm) (t+(aR c l (b.extract k b.size)).2.2.2) (R-(aR c l (b.extract k b.size)).2.2.2)
 nx:TX V cb mb tb ab sb g gm c b (if(aR c l (b.extract k b.size)).1=0 then k+(aR c l (b.extract k b.size)).2.2.1 else k)
 msg:∃d0 d1 d2 d3,af V tm 30 #[d0,d1,d2,d3]/\oN V (fun j=>z<=j/\j≠tm/\lv.ownBlock≠some j) (aR c l (b.extract k b.size)).2.1 d0 d1 d2 d3
theorem TY (c:aS)(l:List bF)(lo hi D gn gi:Nat)(rows:List bV)(g p:Nat)(bv:Value)(b:ByteArray)(H laid K I t R:Nat)(w:World)(hr:c.right=true)(hc:c.ok)(hb:b.size<=100000)(hM:lS w lo hi D gn gi c rows)(qx:aJ rows=l)(hS:ff w g D bv H 0 laid K I)(bB:bJ w hi 5 bv b.data.toList)
 (Lx:hi<=g) (wR:Met w (some p) t R) (Rm:p≠g) (aY:hi<=p) (a':bv.ownBlock≠some p) (hR:1099511627776<=R) (tU:iw c b H) (bq:∀V,ae (p::g::bv.ownBlock.toList) w V->Laid V/\bn V):
 Calls Tryz.prog 32 #[.pointer (some ⟨g,0,none⟩),.pointer (some ⟨p,0,none⟩)] w fun e w'=>∃rv GU a6,e= .returned rv/\cP w' (fun j=>w.heap.size<=j/\GU.ownBlock≠some j) w.heap.size (split (aR c l) b).1 rv/\ff w' g D GU a6 (split (aR c l) b).2.2.2 laid K I/\bJ w' hi 5 GU (split (aR c l) b).2.1.data.toList/\
  Met w' (some p) (t+(split (aR c l) b).2.2.1) (R-(split (aR c l) b).2.2.1)/\ae (p::g::bv.ownBlock.toList) w w'/\(∀k,GU.ownBlock=some k->bv.ownBlock=some k\/w.heap.size<=k)/\((split (aR c l) b).2.2.2=0->iw c (split (aR c l) b).2.1 a6):=by
 have ch:bv.ownBlock≠some g:=bB.dh hS (by decide);have bc:=bB.form;rw[aa]at bc;obtain⟨A,cap,rfl,oZ,lM⟩:=bc;have YD:∀V,Below w.heap.size w V->(convert 31 9 (.slice A b.size cap)).run Tryz.prog V= .ok (.string b) V:=fun V o=>by
  have:=bJ.Ha (P:=Tryz.prog) (src:=31) (dst:=9) zx yB zT (bB.below o);rwa [jo]at this
 have a1:=za YD;have wV:g<w.heap.size:=hS.lt;have b5:p<w.heap.size:=wR.lt p rfl;have HS:=za hS;have nX:=za bB;have HM:=za wR;have GS:=za hM;have Vi:=za tU;have Od:=za (And.intro ch a');have NJ:=za bq;have Cd:=za qx;have Sw:=za (dJ c l);obtain⟨F,cC⟩:∃F,(w.alloc (.cells #[.pointer (some ⟨g,0,none⟩)] 37)).alloc (.cells #[.pointer (some ⟨p,0,none⟩)] 79)=F:=⟨_,rfl⟩
 have kH:Below w.heap.size w F:=by rw[<-cC];exact((zq _ w).alloc (zi _) _).alloc (by simp) _
 have eo:F.heap.size=w.heap.size+2:=by rw[<-cC];simp
 have ah:Hid (af F w.heap.size 37 #[.pointer (some ⟨g,0,none⟩)]):=za (by rw[<-cC];exact(af.new w _ _).alloc _);have Oi:Hid (af F (w.heap.size+1) 79 #[.pointer (some ⟨p,0,none⟩)]):=za (by rw[<-cC];exact af.at_ (by simp));have l6:=za kH;have AS:=za eo;have cL:=za cC;have b2:F.cell? ⟨w.heap.size,0,none⟩=some (.pointer (some ⟨g,0,none⟩)):=ah.out.cell 0;obtain⟨p0,p1,J,p3,p4,p5,p6⟩:=ff.parts (hS.ag kH wV);clear hS bB wR hM tU ch a' bq qx YD kH eo cC;by_cases aD:b.size<H
 ·have Sy:Hid (split (aR c l) b=([],b,0,0)):=za (dX Sw.out (jy.2 (Vi.out.here aD)));rw[Sy.out];go_enter Tryz.func32,Tryz.ntmps32
  go_wp2_with fail
  rw[cL.out];go_quiet (fail)
  go_wp2;go_ret;have fg:Below w.heap.size w (F.drewN nq):=Below.bE l6.out nq;exact⟨_,_,H,rfl,cP.nil _ _ _,HS.out.ag fg wV,nX.out.below fg,(MS.refl HM.out|>.below fg).met,(ae.ah fg (zi _)).mono (by simp),fun k hk=> .inl hk,fun _=>Vi.out⟩
 skip
 go_enter Tryz.func32,Tryz.ntmps32
 go_wp2_with fail
 rw[cL.out];go_quiet (fail)
 obtain⟨w1,o6⟩:∃w1,F.drewN nq=w1:=⟨_,rfl⟩
 have cl:Hid (Below F.heap.size F w1):=za (by rw[<-o6];exact Below.bE (zq _ _) nq);rw[o6];clear o6 b2 p0 p1 J p3 p4 p5 p6;have Uv:=l6.out.trans (cl.out.mono (by have:=AS.out;omega));have br:=za Uv;have b2:w1.cell? ⟨w.heap.size,0,none⟩=some (.pointer (some ⟨g,0,none⟩)):=(ah.out.ag cl.out ah.out.lt).cell 0;obtain⟨p0,p1,J,p3,p4,p5,p6⟩:=ff.parts (HS.out.ag Uv wV);have Ug:=za (KM lo hi D gn gi c rows w1 (GS.out.below (Uv.mono GS.out.his)));unfold aS.val at Ug;clear Uv;go_wp2_with fail
 refine Ug.out.mono ?_;rintro e q ⟨rfl,aM⟩;obtain⟨y,fQ⟩:∃y,((q.alloc (.cells #[.int .i64 c.fm,.int .u32 c.mg,.int .i64 c.fr,.int .i64 c.un,.int .i64 c.de,.int .i64 c.it] 24)).alloc (.cells #[.string b] 9)).alloc (.cells #[.int .i64 0] 3)=y:=⟨_,rfl⟩
 have cc:=cl.out.size;have cA:=aM.size;have ay:Below q.heap.size q y:=by rw[<-fQ];exact(((zq _ q).alloc (zi _) _).alloc (by simp) _).alloc (by simp;omega) _
 have bk:Below w1.heap.size w1 y:=aM.trans (ay.mono cA);have aV:Below F.heap.size F y:=cl.out.trans (bk.mono cc);have Uw:Below w.heap.size w q:=br.out.trans (aM.mono (by have:=AS.out;omega));have bj:Below w.heap.size w y:=Uw.trans (ay.mono (by have:=AS.out;omega));have D3:y.heap.size=q.heap.size+3:=by rw[<-fQ];simp
 have bG:=a1.out (q.alloc (.cells #[.int .i64 c.fm,.int .u32 c.mg,.int .i64 c.fr,.int .i64 c.un,.int .i64 c.de,.int .i64 c.it] 24)) (Uw.alloc (by have:=AS.out;omega) _);have bd:Hid (af y q.heap.size 24 #[.int .i64 c.fm,.int .u32 c.mg,.int .i64 c.fr,.int .i64 c.un,.int .i64 c.de,.int .i64 c.it]):=za (by rw[<-fQ];exact((af.new _ _ _).alloc _).alloc _);have bg:Hid (af y (q.heap.size+1) 9 #[.string b]):=za (by rw[<-fQ];exact af.alloc (af.at_ (by simp)) _);have a7:Hid (af y (q.heap.size+1+1) 3 #[.int .i64 0]):=za (by rw[<-fQ];exact af.at_ (by simp));have ba:=za (ah.out.ag aV ah.out.lt);have aX:=za (Oi.out.ag aV Oi.out.lt);have DI:=za bj;have av:Hid (w.heap.size+2<=q.heap.size/\y.heap.size=q.heap.size+3):=za ⟨by have:=AS.out;omega,D3⟩;clear b2 p0 p1 J p3 p4 p5 p6;have b2:q.cell? ⟨w.heap.size,0,none⟩=some (.pointer (some ⟨g,0,none⟩)):=((ah.out.ag cl.out ah.out.lt).ag aM (by have:=AS.out;omega)).cell 0;obtain⟨p0,p1,J,p3,p4,p5,p6⟩:=ff.parts (HS.out.ag Uw wV);have DO:w.heap.size<q.heap.size:=by have:=AS.out;omega
 have Cg:g<q.heap.size:=by omega
 have qP:=za fQ;have Vy:Hid (NxN lo hi q.heap.size (w.heap.size+1) (q.heap.size+1) (q.heap.size+1+1) w.heap.size g p):=za ⟨⟨by omega,by omega,by omega,by omega,by omega,Rm⟩,⟨by omega,by omega,by omega,by omega,by omega⟩,⟨.inr aY,.inr (by have:=GS.out.his;omega)⟩⟩;have rM:Hid (∀V k t' R',ae [p] w V->TX V q.heap.size (w.heap.size+1) (q.heap.size+1) (q.heap.size+1+1) w.heap.size g p c b k->Met V (some p) t' R'->70000<=R'->k<=b.size->Calls Tryz.prog 48 (De q.heap.size (w.heap.size+1) (q.heap.size+1) (q.heap.size+1+1) w.heap.size) V (Ql V (q.heap.size+1+1) p t' R' k (aR c l (b.extract k b.size)))):=za (fun V k t' R' o hB hm bz hk=>
  Qm c l lo hi D gn gi rows g p _ _ _ _ _ b k (.slice A b.size cap) H 0 laid K I t' R' V hr hc hb hk (GS.out.only o (by simp;exact .inr aY)) Cd.out (HS.out.only o (by simp;omega)) hm bz hB Vy.out (fun V' bx=>NJ.out V' (((o.mono (by simp)).trans' bx (by have:=av.out;simp;omega)))))
 clear aM ay bk aV Uw bj fQ D3 Ug;go_wp2_with fail
 rw[qP.out];have Jx:Hid (TX y q.heap.size (w.heap.size+1) (q.heap.size+1) (q.heap.size+1+1) w.heap.size g p c b 0):=za ⟨bd.out,aX.out,bg.out,a7.out,ba.out⟩;have al:=za (rM.out y 0 t R ((ae.ah DI.out (zi _)).mono (by simp)) Jx.out (MS.refl HM.out|>.below DI.out).met (by omega) (yo _));unfold De at al rM;have KV:w.heap.size+2<=q.heap.size:=av.out.1;have Nv:y.heap.size=q.heap.size+3:=av.out.2;obtain⟨cb,bb⟩:∃cb,q.heap.size=cb:=⟨_,rfl⟩
 have bm:Hid (ae [p] w y):=za ((ae.ah DI.out (zi _)).mono (by simp));rw[bb]at Jx al rM Vy KV Nv⊢;clear bb b2 p0 p1 J p3 p4 p5 p6 DO Cg bG bd bg a7 ba aX av qP cc cA;obtain⟨X0,ax⟩:∃X0,aR c l (b.extract 0 b.size)=X0:=⟨_,rfl⟩
 rw[ax]at al;refine al.out.mono ?_;rintro e w6 ⟨d0,d1,d2,d3,rfl,tY,Ci,DV,Jk⟩;obtain⟨L,O,rfl,rfl,rfl,rfl,_⟩:=tY.open_;have ak:Hid (CuW w (w6.alloc (.cells #[.string X0.2.1.name,.string X0.2.1.x.text,.bool X0.2.1.x.list,.slice L X0.2.1.x.sub.length O] 30)) cb (w.heap.size+1) (cb+1) (cb+1+1) w.heap.size w6.heap.size y.heap.size g p c l b 0 (t+0) (R-0) (.slice none 0 0)):=za (by
  subst ax;have ha:=Vy.out.a1;have aw:=DV.size;have bN:TX w6 cb (w.heap.size+1) (cb+1) (cb+1+1) w.heap.size g p c b (if(aR c l (b.extract 0 b.size)).1=0 then 0+(aR c l (b.extract 0 b.size)).2.2.1 else 0):=⟨Jx.out.cf.only DV (by simp;omega),Jx.out.me.only DV (by simp;omega),Jx.out.tx.only DV (by simp;omega),Jk,Jx.out.se.only DV (by simp;omega)⟩
  have wY:=(zq w6.heap.size w6).alloc (zi _) (.cells #[.string (aR c l (b.extract 0 b.size)).2.1.name,.string (aR c l (b.extract 0 b.size)).2.1.x.text,.bool (aR c l (b.extract 0 b.size)).2.1.x.list,.slice L (aR c l (b.extract 0 b.size)).2.1.x.sub.length O] 30);have JN:=ae.ah wY (zi _);exact⟨(bm.out.trans' DV (by simp;omega)).trans' JN (by simp),Ci.only JN (by simp),bN.only JN (by simp),_,_,_,_,af.new _ _ _,(tY.fW (S':=fun j=>y.heap.size<=j/\j≠w6.heap.size/\(Value.slice none 0 0).ownBlock≠some j) (fun j d h=>⟨h,by omega,by intro e;cases e⟩)).below wY⟩)
 obtain⟨W7,qQ⟩:∃W7,w6.alloc (.cells #[.string X0.2.1.name,.string X0.2.1.x.text,.bool X0.2.1.x.list,.slice L X0.2.1.x.sub.length O] 30)=W7:=⟨_,rfl⟩
 have aw:=DV.size;have bo:W7.heap.size=w6.heap.size+1:=by rw[<-qQ];simp
 rw[qQ]at ak;have Gp:=za qQ;obtain⟨z,hz⟩:∃z,y.heap.size=z:=⟨_,rfl⟩
 rw[hz]at ak Nv aw;have bs:=za ax;have gy:Hid (w.heap.size+2<=cb/\z=cb+3):=za ⟨KV,Nv⟩;have aN:=za aw;have aE:=za bo;clear ax tY Ci DV Jk qQ bo hz Jx al KV Nv aw DI bm a1;go_wp2_with fail
 rw[Gp.out];obtain⟨u,aW⟩:∃u,w6.heap.size=u:=⟨_,rfl⟩
 rw[aW]at ak aN aE⊢;have HZ:Hid (w.heap.size+2<=cb/\z=cb+3/\z<=u):=za ⟨gy.out.1,gy.out.2,aN.out⟩;clear aW gy aN;go_loopw [9,11] (fun lv ev wr=>∃(acc:List Ms) (k a:Nat),cP wr (fun j=>z<=j/\j≠u) (u+1) acc lv/\ev= .int .i64 (aR c l (b.extract k b.size)).1/\k<=b.size/\acc.length<=k/\a<=65536*acc.length/\Hid (split (aR c l) b=(acc++(split (aR c l) (b.extract k b.size)).1,(split (aR c l) (b.extract k b.size)).2.1,a+(split (aR c l) (b.extract k b.size)).2.2.1,(split (aR c l) (b.extract k b.size)).2.2.2))/\Hid (CuW w wr cb (w.heap.size+1) (cb+1) (cb+1+1) w.heap.size u z g p c l b k (t+a) (R-a) lv)/\u+1<=wr.heap.size) (fun lv _ _=>b.size-lenOf lv)
 case atStart=>exact⟨[],0,0,cP.nil _ _ _,by rw[bs.out],by omega,by simp,by simp,za (by rw[pr];simp),ak,by have:=aE.out;omega⟩
 case round=>
  clear ak Gp aE;obtain⟨acc,k,a,jI,rfl,hk,wY,ha,Sy,bp,bW⟩:=hrel;obtain⟨A5,n5,eB,rfl,bu,bU,bX⟩:=jI.df;have jT:=za jI;have wR:=Qn c l (b.extract k b.size);have eZ:=Sw.out.pos (b.extract k b.size);have o8:Hid ((aR c l (b.extract k b.size)).1≠0->split (aR c l) b=(acc,b.extract k b.size,a+(aR c l (b.extract k b.size)).2.2.2,if(aR c l (b.extract k b.size)).1=2 then 0 else(aR c l (b.extract k b.size)).1)):=za (fun h=>by
   rw[Sy.out,ik Sw.out (b.extract k b.size),zj h];simp)
  have NP:Hid ((aR c l (b.extract k b.size)).1=0->split (aR c l) b=((acc++ [(aR c l (b.extract k b.size)).2.1])++(split (aR c l) (b.extract (k+(aR c l (b.extract k b.size)).2.2.1) b.size)).1,(split (aR c l) (b.extract (k+(aR c l (b.extract k b.size)).2.2.1) b.size)).2.1,(a+(aR c l (b.extract k b.size)).2.2.2)+(split (aR c l) (b.extract (k+(aR c l (b.extract k b.size)).2.2.1) b.size)).2.2.1,(split (aR c l) (b.extract (k+(aR c l (b.extract k b.size)).2.2.1) b.size)).2.2.2)):=za (fun h=>by
   obtain⟨p1,J⟩:=Sw.out.pos _ h;rw[an _ _ _ (zi _)]at J;have e:(b.extract k b.size).extract (aR c l (b.extract k b.size)).2.2.1 (b.extract k b.size).size=b.extract (k+(aR c l (b.extract k b.size)).2.2.1) b.size:=by
    rw[tA _ _ _ _ (by rw[an _ _ _ (zi _)];omega),an _ _ _ (zi _)];congr 1;omega
   rw[Sy.out,il Sw.out h,e];simp[Sz.cons,yv])
  have ad:Hid ((aR c l (b.extract k b.size)).1=2->iw c (b.extract k b.size) (gF c (b.extract k b.size))):=za (fun h=>iw.of hr (jy.1 h));rw[an _ _ _ (zi _)]at eZ;obtain⟨uo,um,ux,d0,d1,d2,d3,ut,us⟩:=bp.out;clear Sy bp jI;obtain⟨r,NK⟩:∃r,b.extract k b.size=r:=⟨_,rfl⟩
  rw[NK]at wR eZ o8 NP ad um ux us⊢;have V1:=za NK;clear NK;obtain⟨X,hX⟩:∃X,aR c l r=X:=⟨_,rfl⟩
  rw[hX]at wR eZ o8 NP ad um ux us⊢;clear hX;obtain⟨y5,X2,y4,m⟩:=X;simp only at wR eZ o8 NP ad um ux us⊢;obtain⟨Ay,JL,rfl,rfl,rfl,rfl,_⟩:=us.open_;have b4:lenOf (.slice A5 n5 eB)=n5:=rfl;by_cases h1:y5=0
  ·subst h1;obtain⟨p1,J⟩:=eZ rfl;have JA:=za (NP.out rfl);rw[zl rfl]at ux;obtain⟨v0,v1,v2,v3,_⟩:=aL ut;have Uy:=(zq wr.heap.size wr).alloc (zi _) (.cells #[.string X2.name,.string X2.x.text,.bool X2.x.list,.slice Ay X2.x.sub.length JL] 30);have RX:=za (jT.out.below Uy);have aZ:=za ((us.below Uy).fW (S':=fun j=>(z<=j/\j≠u)/\(Value.slice A5 n5 eB).ownBlock≠some j) (fun j _ h=>⟨⟨h.1,h.2.1⟩,h.2.2⟩));have RY:=ae.ah Uy (zi _);have ab:=za (uo.trans' RY (by simp));have ag:=za (um.only RY (by simp));have s:=za (ux.only RY (by simp));have bh:=za (ut.only RY (by simp));have RQ:=za (RX.out.ge);clear uo um ux ut us Uy RY NP o8 ad jT;go_wp2_with (
    refine pS (by rfl) (.tmp 40) (.tmp 42) (by rfl) (fun j=>z<=j/\j≠u) (u+1) acc (by rfl) RX.out X2 aZ.out wr.heap.size (by rfl) (by simp) (by simp) (by simp) (by simp) (by omega) (by simp;omega) ?_;intro g' n' aq w8 Sg Uu fE b0)
   have E:=ae.cX fE;have C:∀j,j∈(Value.slice A5 n5 eB).ownBlock.toList->u+1<=j:=fun j d=>(RQ.out j (cJ.1 d)).1
   obtain⟨z1,z2,z3⟩:=HZ.out;have a8:Hid (ae [p] w w8):=za (ab.out.trans' E (fun j d=> .inr (by have:=C j d;omega)));have bA:=za (ag.out.only E (by intro j e d;injection e with e;have:=C j d;omega));have RT:=za (s.out.only E ⟨fun d=>by have:=C _ d;omega,fun d=>by have:=C _ d;omega,fun d=>by have:=C _ d;omega,fun d=>by have:=C _ d;omega,fun d=>by have:=C _ d;omega⟩);have bE:=za (bh.out.only E (fun d=>by have:=C _ d;omega));have Sm:wr.heap.size+1<=w8.heap.size:=by have:=fE.size;simpa using this
   have bI:=za Uu;have wN:=za Uu.ge;have ep:k+y4<=b.size:=by omega
   have aF:=za (rM.out w8 (k+y4) (t+a+m) (R-a-m) a8.out RT.out bA.out (by omega) ep);obtain⟨ai,hY⟩:∃ai,aR c l (b.extract (k+y4) b.size)=ai:=⟨_,rfl⟩
   rw[hY]at aF;have bl:=za hY;have bf:=za (And.intro z1 (And.intro z2 z3));clear E C fE Uu hY ab ag s bh RX aZ RQ z1 z2 z3;refine aF.out.mono ?_;rintro e w9 ⟨d0,d1,d2,d3,rfl,tY,Ci,M,Jk⟩;obtain⟨Az,bQ,rfl,rfl,rfl,rfl,_⟩:=tY.open_;have b1:=M.size;have aG:=bE.out.only M (by have:=bf.out;simp;omega);obtain⟨t0,t1,t2,t3,Ll,NL,Ss,bY⟩:=aL aG;have bt:=za aG;have bM:=za tY;have bS:=za Ci;have bw:=za M;have bC:=za Jk;clear tY Ci M Jk aG aF;go_wp2;go_roundw
   case rel=>
    have M:=bw.out;have Z:=eF w9 u (.string ai.2.1.name) (.string ai.2.1.x.text) (.bool ai.2.1.x.list) (.slice Az ai.2.1.x.sub.length bQ);have jP:∀j,(Value.slice (some ⟨g',0,none⟩) n' aq).ownBlock=some j->u+1<=j/\j<w8.heap.size:=fun j e=>wN.out j e
    obtain⟨z1,z2,z3⟩:=bf.out;have ha:=Vy.out.a1;refine⟨acc++ [X2],k+y4,a+m,(bI.out.only M (by simp;omega) (fun j d e=>by have:=jP j e;simp at d;omega)).only Z (by simp) (fun j d e=>by have:=jP j e;simp at d;omega),by rw[bl.out],ep,by rw[zo];simp;omega,by rw[zo];simp;omega,by rw[show k+y4=k+y4 from rfl];exact JA,za ?_,by have:=Z.size;omega⟩;have e1:t+(a+m)=t+a+m:=by omega
    have e2:R-(a+m)=R-a-m:=by omega
    rw[e1,e2];have hY:=bl.out;subst hY;exact⟨(a8.out.trans' M (by simp;omega)).trans' Z (by simp;omega),bS.out.only Z (by intro j e;injection e with e;simp;omega),
     ⟨(RT.out.cf.only M (by simp;omega)).only Z (by simp;omega),(RT.out.me.only M (by simp;omega)).only Z (by simp;omega),(RT.out.tx.only M (by simp;omega)).only Z (by simp;omega),bC.out.only Z (by simp;omega),(RT.out.se.only M (by simp;omega)).only Z (by simp;omega)⟩,
     _,_,_,_,F0 bt.out _ _ _ _,bM.out.only Z (by simp;omega) (fun j _ d=>by have d:w8.heap.size<=j:=d;exact⟨by omega,by omega,fun e=>by have:=jP j e;omega⟩)⟩
   case measure=>
    have q1:=Sg.out;have q2:=bu.out;simp[lenOf];omega
  have B:=o8.out h1;rw[zj h1]at ux;have Cl:Hid (ff wr g D (.slice A b.size cap) H 0 laid K I):=za (HS.out.only uo (by simp;omega));have Ut:Hid (bJ wr hi 5 (.slice A b.size cap) b.data.toList):=za (nX.out.pM uo (fun j e=>by have:=Od.out.2;rw[e]at this;simpa using Z4 (fun h=>this (by rw[h]))));have ab:=za uo;have ag:=za um;have s:=za ux;have sW:(k:Int)<=b.size:=by omega
  have U8:r.size<=100000:=by rw[<-V1.out,an _ _ _ (zi _)];omega
  have bZ:=V1.out;have b3:w.heap.size<cb+1+1:=by have:=HZ.out.1;omega
  clear uo um ux ut us o8 NP eZ;by_cases U:y5=2
  ·subst U;rw[zl rfl]at B;have B:=za B;have bD:=za (ad.out rfl);have Gq:=za (fun V=>I0 c r V hr (by omega));unfold aS.val at Gq;clear ad;go_wp2_with fail
   refine mW 8 (by kernel_rfl) (by kernel_rfl) ?_;simp only[zV,yE,yh,zN];refine ar (.pointer (some ⟨g,0,none⟩)) (by rfl) (fun V o=>by have b2:=(s.out.se.ag o s.out.se.lt).cell 0;go_simp) ?_;simp only[Act.put,zb,ze,zf];refine ar (.agg #[.int .i64 c.fm,.int .u32 c.mg,.int .i64 c.fr,.int .i64 c.un,.int .i64 c.de,.int .i64 c.it]) (by rfl) (fun V o=>by obtain⟨q0,q1,q2,q3,q4,q5⟩:=fu (s.out.cf.ag o s.out.cf.lt);go_simp) ?_;simp only[Act.put,zb,ze,zf];refine ar (.string b) (by rfl) (fun V o=>by have b2:=(s.out.tx.ag o s.out.tx.lt).cell 0;go_simp) ?_;simp only[Act.put,zb,ze,zf];refine ar (.int .i64 k) (by rfl) (fun V o=>by have b2:=(s.out.at_.ag o s.out.at_.lt).cell 0;go_simp) ?_;simp only[Act.put,zb,ze,zf];refine ar (.string r) (by rfl) (fun _ _=>by first|rfl|go_simp) ?_;simp only[Act.put,zb,ze,zf];refine eE 51 _ _ (by rfl) (fun _=>by first|rfl|go_simp) (fun V _=>Gq.out V) ?_;simp only[Act.put,zb,ze,zf];refine ar (.pointer (some ⟨g,0,none⟩)) (by rfl) (fun _ _=>by first|rfl|go_simp) ?_;simp only[Act.put,zb,ze,zf];refine ar (.pointer (some ⟨g,2,none⟩)) (by rfl) (fun _ _=>by first|rfl|go_simp) ?_;simp only[Act.put,zb,ze,zf];refine xN ?_;intro V o;have Ux:ff V g D (.slice A b.size cap) H 0 laid K I:=Cl.out.ag o Cl.out.lt;obtain⟨_,_,J,p3,_,_,_⟩:=ff.parts Ux;obtain⟨_,f2,f3,_,_,_⟩:=ff.CP Ux;have aQ:g<V.heap.size:=yf Cl.out.lt o.size;go_upto_region 15 with fail
   obtain⟨n,Y⟩:∃n,V.setCell ⟨g,2,none⟩ (.int .i64 (gF c r:Nat))=n:=⟨_,rfl⟩
   rw[Y];have au:ae [p,g] w V:=(ab.out.mono (by simp)).trans' (ae.ah o (zi _)) (by simp);have Lo:Hid (ae (p::g::(Value.slice A b.size cap).ownBlock.toList) w n):=za (by rw[<-Y];exact(au.setCell (.inl (by simp)) _).mono (by intro i hi;simp at hi⊢;rcases hi with h|h<;>simp[h]));have G:ae [g] V n:=by rw[<-Y];exact(ae.refl _ _).setCell (.inl (by simp)) _
   have NX:Hid (bJ n hi 5 (.slice A b.size cap) b.data.toList):=za ((Ut.out.below o).pM G (by intro j e h;simp at h;subst h;exact Od.out.1 e));have aH:Hid (Met n (some p) (t+a+m) (R-a-m)):=za ((ag.out.only (ae.ah o (zi _)) (by simp)).only G (by intro j e;injection e with e;subst e;simpa using Rm));have bO:g<w.heap.size:=wV;have ao:Hid (cP n (fun j=>z<=j/\j≠u) (u+1) acc (.slice A5 n5 eB)):=za ((jT.out.below o).only G (by have:=HZ.out;simp;omega) (fun j d e=>by have:=(jT.out.ge j e).1;have:=HZ.out;simp at d;omega));have R5:Hid (af n w.heap.size 37 #[.pointer (some ⟨g,0,none⟩)]):=za ((s.out.se.ag o s.out.se.lt).only G (by simp;omega));have RU:Hid (af n (cb+1+1) 3 #[.int .i64 k]):=za ((s.out.at_.ag o s.out.at_.lt).only G (by have:=HZ.out;simp;omega));have JF:Hid (w.heap.size<=n.heap.size):=za Lo.out.size;clear au G J p3 f2 f3 aQ;have jg:Hid (ff n g D (.slice A b.size cap) (gF c r) 0 laid K I):=za (by rw[<-Y];exact ff.Ta Ux _);clear Y o Ux Cl Ut ab ag s jT;have aP:Hid ((split (aR c l) b).2.2.2=0->iw c (split (aR c l) b).2.1 (gF c r)):=za (fun _=>by rw[B.out];exact bD.out);have T4:g<n.heap.size:=jg.out.lt;have Ra:=za (FO hi (.slice A b.size cap) b.data.toList k n.drew (NX.out.below (zq _ _).drew) (by have:=JF.out;show hi<=n.heap.size;omega) (by rw[aa];omega) (by rw[aa];omega));have aA:Hid (b.data.toList.drop k=r.data.toList):=za (by rw[<-V1.out,aj,cM]);have JC:Hid (∀j,(Value.slice A b.size cap).ownBlock=some j->j<w.heap.size):=za (fun j e=>(nX.out.ge j e).2.1)
   have hHeld:(fun V:World=>V.cell? ⟨w.heap.size,0,none⟩=some (.pointer (some ⟨g,0,none⟩))/\V.cell? ⟨g,1,none⟩=some (.slice A b.size cap)/\V.cell? ⟨cb+1+1,0,none⟩=some (.int .i64 k)) n.drew:=⟨R5.out.cell 0,(ff.parts jg.out).2.1,RU.out.cell 0⟩
   refine aB 9 (fun V=>V.cell? ⟨w.heap.size,0,none⟩=some (.pointer (some ⟨g,0,none⟩))/\V.cell? ⟨g,1,none⟩=some (.slice A b.size cap)/\V.cell? ⟨cb+1+1,0,none⟩=some (.int .i64 k)) (by kernel_rfl) (by kernel_rfl) ?_;refine GT.jD [0,1,2,3,4,5] hHeld (fun _ _ _ _ _ h=>h) (by kernel_rfl) ?_;repeat(refine .c rfl rfl (fun V o=>by go_simp<;>with_reducible rfl) ?_;simp only[Act.put,zb,ze,zf])
   refine .nil ?_;refine GT.fF 6 (fun aK hK=> ?_) rfl (by kernel_rfl);go_simp;refine Ra.out.mono ?_;rintro e x ⟨v',rfl,bP,W⟩;rw[aA.out]at bP;have RR:ff n.drew g D (.slice A b.size cap) (gF c r) 0 laid K I:=af.drew jg.out;have N:ff x g D (.slice A b.size cap) (gF c r) 0 laid K I:=af.SH RR W (Od.out.1);have RW:af x w.heap.size 37 #[.pointer (some ⟨g,0,none⟩)]:=af.SH R5.out.drew W (fun e=>by have:=JC.out _ e;omega);have R4:af x (cb+1+1) 3 #[.int .i64 k]:=af.SH RU.out.drew W (fun e=>by have:=JC.out _ e;omega);obtain⟨_,aT,_,_,_,_,_⟩:=ff.parts N;obtain⟨bK,_,_,_,_,_⟩:=ff.CP N;have bH:g<x.heap.size:=N.lt;obtain⟨L,n6,O,rfl,V0,bT,bL⟩:=bP.df;have dM:=za N;have RS:=za W;have AY:=za bP;clear N RR W bP Ra;go_wp2_with fail
   refine hK.out _ _ ⟨RW.cell 0,aT,R4.cell 0⟩ (fun hHeld=> ?_);clear hK aK;try simp only[Act.put,zb,ze,zf]
   refine GT.jD [7,8] hHeld (fun _ _ _ _ _ h=>h) (by kernel_rfl) ?_;repeat(refine .c rfl rfl (fun V o=>by go_simp<;>with_reducible rfl) ?_;simp only[Act.put,zb,ze,zf])
   refine .nil ?_;refine GT.oP 9 ?_ rfl (by kernel_rfl);go_simp;clear hHeld RW R4;go_wp2;go_ret;have aI:ae [] n n.drew:=ae.ah (zq _ _).drew (zi _);have E:ae (Value.slice A b.size cap).ownBlock.toList n x:=(aI.mono (by simp)).trans RS.out.only;have az:ae (p::g::(Value.slice A b.size cap).ownBlock.toList) w x:=Lo.out.trans' E (fun i hi=> .inl (by simp at hi⊢;exact .inr (.inr hi)));have RV:ae [g] x (x.setCell ⟨g,1,none⟩ (.slice L n6 O)):=(ae.refl [g] x).setCell (.inl (by simp)) _;have Nv:=HZ.out;refine⟨.slice A5 n5 eB,.slice L n6 O,(gF c r),rfl, ?_, ?_, ?_, ?_, ?_, ?_,aP.out⟩
   ·rw[B.out];have C:∀j,j∈(Value.slice A b.size cap).ownBlock.toList->j<w.heap.size:=fun j d=>JC.out j (cJ.1 d)
    have jP:=ao.out.ge;have aO:∀j,j<n.heap.size->(z<=j/\j≠u)->w.heap.size<=j/\(Value.slice L n6 O).ownBlock≠some j:=fun j d hz=>⟨by omega,fun e=>by
     rcases RS.out.own with e2|⟨j',e2,S⟩
     ·have:=JC.out j (by rw[<-e2];exact e);omega
     rw[e2]at e;injection e with e;have S:n.heap.size<=j':=S;omega⟩
    exact((ao.out.fW aO (show w.heap.size<=u+1 by omega)).only E (fun j d hS=>by have:=C j d;have:=hS.1;omega) (fun j d e=>by have:=C j d;have:=jP j e;omega)).only RV (fun j d hS=>by simp at d;have:=hS.1;omega) (fun j d e=>by have:=jP j e;simp at d;omega)
   ·rw[B.out];exact ff.Im dM.out _
   ·rw[B.out];refine AY.out.ag (fun j h1 U=>zY _ _ _ _ ?_);rintro rfl;exact(AY.out.dh dM.out (by decide)) U
   ·rw[B.out];have h1:=aH.out.only E (by intro j e;injection e with e;subst e;exact fun h=>Od.out.2 (cJ.1 h));have U:=h1.only RV (by intro j e;injection e with e;subst e;simpa using Rm);simpa only[yv,Nat.sub_sub]using U
   ·exact az.setCell (.inl (by simp)) _
   intro j d;rcases RS.out.own with e|⟨j',e,S⟩
   ·exact .inl (by rw[<-e];exact d)
   rw[e]at d;injection d with d;exact .inr (by have:=JF.out;have S:n.heap.size<=j':=S;omega)
  rw[zj U]at B;have B:=za B;have NN:(y5==2)=false:=zr.2 U;obtain⟨V,aC⟩:∃V,wr=V:=⟨_,rfl⟩
  have o:Below wr.heap.size wr V:=by rw[<-aC];exact zq _ _
  have b2:V.cell? ⟨w.heap.size,0,none⟩=some (.pointer (some ⟨g,0,none⟩)):=(s.out.se.ag o s.out.se.lt).cell 0;rw[aC];clear aC ad;have Ux:ff V g D (.slice A b.size cap) H 0 laid K I:=Cl.out.ag o Cl.out.lt;obtain⟨_,_,J,p3,_,_,_⟩:=ff.parts Ux;obtain⟨_,f2,f3,_,_,_⟩:=ff.CP Ux;have aQ:g<V.heap.size:=yf Cl.out.lt o.size;go_upto_region 15 with fail
  obtain⟨n,Y⟩:∃n,V.setCell ⟨g,3,none⟩ (.int .i64 y5)=n:=⟨_,rfl⟩
  rw[Y];have au:ae [p,g] w V:=(ab.out.mono (by simp)).trans' (ae.ah o (zi _)) (by simp);have Lo:Hid (ae (p::g::(Value.slice A b.size cap).ownBlock.toList) w n):=za (by rw[<-Y];exact(au.setCell (.inl (by simp)) _).mono (by intro i hi;simp at hi⊢;rcases hi with h|h<;>simp[h]));have G:ae [g] V n:=by rw[<-Y];exact(ae.refl _ _).setCell (.inl (by simp)) _
  have NX:Hid (bJ n hi 5 (.slice A b.size cap) b.data.toList):=za ((Ut.out.below o).pM G (by intro j e h;simp at h;subst h;exact Od.out.1 e));have aH:Hid (Met n (some p) (t+a+m) (R-a-m)):=za ((ag.out.only (ae.ah o (zi _)) (by simp)).only G (by intro j e;injection e with e;subst e;simpa using Rm));have bO:g<w.heap.size:=wV;have ao:Hid (cP n (fun j=>z<=j/\j≠u) (u+1) acc (.slice A5 n5 eB)):=za ((jT.out.below o).only G (by have:=HZ.out;simp;omega) (fun j d e=>by have:=(jT.out.ge j e).1;have:=HZ.out;simp at d;omega));have R5:Hid (af n w.heap.size 37 #[.pointer (some ⟨g,0,none⟩)]):=za ((s.out.se.ag o s.out.se.lt).only G (by simp;omega));have RU:Hid (af n (cb+1+1) 3 #[.int .i64 k]):=za ((s.out.at_.ag o s.out.at_.lt).only G (by have:=HZ.out;simp;omega));have JF:Hid (w.heap.size<=n.heap.size):=za Lo.out.size;clear au G J p3 f2 f3 aQ;have jg:Hid (ff n g D (.slice A b.size cap) H y5 laid K I):=za (by rw[<-Y];exact ff.Pc Ux _);clear Y o Ux Cl Ut ab ag s jT b2;have aP:Hid ((split (aR c l) b).2.2.2=0->iw c (split (aR c l) b).2.1 H):=za (fun h=>by rw[B.out]at h;exact absurd h h1);have T4:g<n.heap.size:=jg.out.lt;have Ra:=za (FO hi (.slice A b.size cap) b.data.toList k n.drew (NX.out.below (zq _ _).drew) (by have:=JF.out;show hi<=n.heap.size;omega) (by rw[aa];omega) (by rw[aa];omega));have aA:Hid (b.data.toList.drop k=r.data.toList):=za (by rw[<-V1.out,aj,cM]);have JC:Hid (∀j,(Value.slice A b.size cap).ownBlock=some j->j<w.heap.size):=za (fun j e=>(nX.out.ge j e).2.1)
  have hHeld:(fun V:World=>V.cell? ⟨w.heap.size,0,none⟩=some (.pointer (some ⟨g,0,none⟩))/\V.cell? ⟨g,1,none⟩=some (.slice A b.size cap)/\V.cell? ⟨cb+1+1,0,none⟩=some (.int .i64 k)) n.drew:=⟨R5.out.cell 0,(ff.parts jg.out).2.1,RU.out.cell 0⟩
  refine aB 9 (fun V=>V.cell? ⟨w.heap.size,0,none⟩=some (.pointer (some ⟨g,0,none⟩))/\V.cell? ⟨g,1,none⟩=some (.slice A b.size cap)/\V.cell? ⟨cb+1+1,0,none⟩=some (.int .i64 k)) (by kernel_rfl) (by kernel_rfl) ?_;refine GT.jD [0,1,2,3,4,5] hHeld (fun _ _ _ _ _ h=>h) (by kernel_rfl) ?_;repeat(refine .c rfl rfl (fun V o=>by go_simp<;>with_reducible rfl) ?_;simp only[Act.put,zb,ze,zf])
  refine .nil ?_;refine GT.fF 6 (fun aK hK=> ?_) rfl (by kernel_rfl);go_simp;refine Ra.out.mono ?_;rintro e x ⟨v',rfl,bP,W⟩;rw[aA.out]at bP;have RR:ff n.drew g D (.slice A b.size cap) H y5 laid K I:=af.drew jg.out;have N:ff x g D (.slice A b.size cap) H y5 laid K I:=af.SH RR W (Od.out.1);have RW:af x w.heap.size 37 #[.pointer (some ⟨g,0,none⟩)]:=af.SH R5.out.drew W (fun e=>by have:=JC.out _ e;omega);have R4:af x (cb+1+1) 3 #[.int .i64 k]:=af.SH RU.out.drew W (fun e=>by have:=JC.out _ e;omega);obtain⟨_,aT,_,_,_,_,_⟩:=ff.parts N;obtain⟨bK,_,_,_,_,_⟩:=ff.CP N;have bH:g<x.heap.size:=N.lt;obtain⟨L,n6,O,rfl,V0,bT,bL⟩:=bP.df;have dM:=za N;have RS:=za W;have AY:=za bP;clear N RR W bP Ra;go_wp2_with fail
  refine hK.out _ _ ⟨RW.cell 0,aT,R4.cell 0⟩ (fun hHeld=> ?_);clear hK aK;try simp only[Act.put,zb,ze,zf]
  refine GT.jD [7,8] hHeld (fun _ _ _ _ _ h=>h) (by kernel_rfl) ?_;repeat(refine .c rfl rfl (fun V o=>by go_simp<;>with_reducible rfl) ?_;simp only[Act.put,zb,ze,zf])
  refine .nil ?_;refine GT.oP 9 ?_ rfl (by kernel_rfl);go_simp;clear hHeld RW R4;go_wp2;go_ret;have aI:ae [] n n.drew:=ae.ah (zq _ _).drew (zi _);have E:ae (Value.slice A b.size cap).ownBlock.toList n x:=(aI.mono (by simp)).trans RS.out.only;have az:ae (p::g::(Value.slice A b.size cap).ownBlock.toList) w x:=Lo.out.trans' E (fun i hi=> .inl (by simp at hi⊢;exact .inr (.inr hi)));have RV:ae [g] x (x.setCell ⟨g,1,none⟩ (.slice L n6 O)):=(ae.refl [g] x).setCell (.inl (by simp)) _;have Nv:=HZ.out;refine⟨.slice A5 n5 eB,.slice L n6 O,H,rfl, ?_, ?_, ?_, ?_, ?_, ?_,aP.out⟩
  ·rw[B.out];have C:∀j,j∈(Value.slice A b.size cap).ownBlock.toList->j<w.heap.size:=fun j d=>JC.out j (cJ.1 d)
   have jP:=ao.out.ge;have aO:∀j,j<n.heap.size->(z<=j/\j≠u)->w.heap.size<=j/\(Value.slice L n6 O).ownBlock≠some j:=fun j d hz=>⟨by omega,fun e=>by
    rcases RS.out.own with e2|⟨j',e2,S⟩
    ·have:=JC.out j (by rw[<-e2];exact e);omega
    rw[e2]at e;injection e with e;have S:n.heap.size<=j':=S;omega⟩
   exact((ao.out.fW aO (show w.heap.size<=u+1 by omega)).only E (fun j d hS=>by have:=C j d;have:=hS.1;omega) (fun j d e=>by have:=C j d;have:=jP j e;omega)).only RV (fun j d hS=>by simp at d;have:=hS.1;omega) (fun j d e=>by have:=jP j e;simp at d;omega)
  ·rw[B.out];exact ff.Im dM.out _
  ·rw[B.out];refine AY.out.ag (fun j h1 U=>zY _ _ _ _ ?_);rintro rfl;exact(AY.out.dh dM.out (by decide)) U
  ·rw[B.out];have h1:=aH.out.only E (by intro j e;injection e with e;subst e;exact fun h=>Od.out.2 (cJ.1 h));have U:=h1.only RV (by intro j e;injection e with e;subst e;simpa using Rm);simpa only[yv,Nat.sub_sub]using U
  ·exact az.setCell (.inl (by simp)) _
  intro j d;rcases RS.out.own with e|⟨j',e,S⟩
  ·exact .inl (by rw[<-e];exact d)
  rw[e]at d;injection d with d;exact .inr (by have:=JF.out;have S:n.heap.size<=j':=S;omega)
theorem AE (n hi g:Nat)(o:Value)(c:aS)(l:List bF)(x:iI)(i:Nat)(s:ByteArray)(w:World)(h:dB w n hi g o c l x i)(z:x.fault≠0):
 Calls Tryz.prog 12 #[.pointer (some ⟨g,0,none⟩),.string s] w fun e w'=>e= .returned (.tuple #[.slice none 0 0,.int .i64 x.fault])/\dB w' n hi g o c l {x with laid:=0} i/\ae [g] w w':=by
 obtain⟨C,B,D,rows,F,q,u,b,r⟩:=h.reg;have m:=h.buf;have L:=b.lt;have K:(x.fault !=0)=true:=yP.2 z;have I:=za b;have A:=m.dh b (by decide);have d:ae [g] w (w.setCell ⟨g,4,none⟩ (.int .i64 0)):=(ae.refl [g] w).setCell (p:=⟨g,4,none⟩) (.inl (by simp)) _;have G:=h.Lx;have E:Hid (∀k,dB ((w.setCell ⟨g,4,none⟩ (.int .i64 0)).drewN k) n hi g o c l {x with laid:=0} i):=za (fun k=>⟨h.lohi,h.Lx,⟨C,B,D,rows,F,(q.only d (by simp;omega)).below (Below.bE (zq _ _) k),u,(ff.CQ b 0).drewN k,r⟩,(m.pM d (by intro j e y;simp at y;subst y;exact A e)).below (Below.bE (zq _ _) k)⟩);obtain⟨J,O,M,R,N,S,H⟩:=b.parts;obtain⟨_,_,_,f9,_,_⟩:=b.CP;clear b m r A z q u d G h;go_enter Tryz.func12,Tryz.ntmps12
 go_wp2_with fail
 go_quiet (fail)
 go_wp2;refine zp (v:= .tuple #[.slice none 0 0,.int .i64 x.fault]) (by simp[results,Tryz.results12,go_sem]) rfl ?_;exact⟨rfl,E.out _,ae.drewN ((ae.refl _ _).setCell (.inl (by simp)) _) _⟩
theorem Df (C hi g:Nat)(bv:Value)(c:aS)(l:List bF)(x:iI)(y:Nat)(s:ByteArray)(w:World)(hr:c.right=true)(hc:c.ok)(h:dB w C hi g bv c l x y)(hL:Laid w)(iS:bn w)(Cg:1<C)(B7:0<C)(h0:x.fault=0)(hs:x.buf.size+s.size<=100000)(ht:x.told<=1000000000):
 Calls Tryz.prog 12 #[.pointer (some ⟨g,0,none⟩),.string s] w fun e w'=>∃rv E,e= .returned (.tuple #[rv,.int .i64 (l7 (aR c l) x s).2.2])/\cP w' (fun j=>w.heap.size<=j/\E.ownBlock≠some j) w.heap.size (l7 (aR c l) x s).2.1 rv/\dB w' C hi g E c l (l7 (aR c l) x s).1 y/\ae (oG g bv) w w'/\(∀k,E.ownBlock=some k->bv.ownBlock=some k\/w.heap.size<=k):=by
 obtain⟨u,gn,gi,rows,J,hM,qx,D,tU⟩:=h.reg;have G:=h.buf;have jP:=h.Lx;have aJ:=h.lohi;clear h;have Rx:hi<=w.heap.size:=by have:=D.lt;omega
 obtain⟨b,fl,ld,q⟩:=x;simp only at h0 D G tU hs ht;subst h0;rw[fh rfl];simp only;have ag:=Ih c l (b++s);rw[bX]at ag;have wR:=Wh c l (b++s);rw[bX]at wR;obtain⟨X,hX⟩:∃X,split (aR c l) (b++s)=X:=⟨_,rfl⟩
 rw[hX]at ag wR⊢;obtain⟨ml,tl,m,er⟩:=X;simp only at ag wR⊢;have HX:=za hX;clear hX;have wV:=D.lt;have ch:=G.dh D (by decide);have hf:=G.form;rw[aa]at hf;obtain⟨A,cap,rfl,oZ,lM⟩:=hf;obtain⟨p,N⟩:∃p,w.setCell ⟨g,4,none⟩ (.int .i64 0)=p:=⟨_,rfl⟩
 have tW:ae [g] w p:=by rw[<-N];exact(ae.refl _ _).setCell (.inl (by simp)) _
 have cc:p.heap.size=w.heap.size:=by rw[<-N];simp[World.setCell]
 have cl:Hid (ff p g u (.slice A b.size cap) J 0 0 q y):=za (by rw[<-N];exact ff.CQ D 0);have aE:Hid (bJ p hi 5 (.slice A b.size cap) b.data.toList):=za (G.pM tW (by intro j e d;simp at d;subst d;exact ch e));have aF:=za tW;have Vi:=za (tU rfl);have nX:=za G;have RQ:Hid (∀k,(Value.slice A b.size cap).ownBlock=some k->k<w.heap.size):=za (fun k e=>(G.ge k e).2.1);have Od:=za ch;obtain⟨p0,p6,p7,p8,p9,ao,aH⟩:=D.parts;obtain⟨_,_,_,f9,_,_⟩:=D.CP;obtain⟨i0,aT,eo,aK,cA⟩:=yQ uJ;have aD:=za (Is 9223372036854775807 p);have iH:=za N;have GS:=za hM;have Cd:=za qx;have ar:=za (And.intro hL iS);have aW:C<=g:=by omega
 clear D G tU ch tW N hM qx hL iS;go_enter Tryz.func12,Tryz.ntmps12
 go_wp2_with fail
 rw[iH.out];clear p0 p6 p7 p8 p9 ao aH f9;refine aD.out.mono ?_;rintro e K ⟨rfl,tT⟩;have Y:Below p.heap.size p K:=by rw[tT];exact(zq _ _).alloc (zi _) _
 have Cj:tj K p.heap.size 9223372036854775807 0 0 0:=by rw[tT];exact af.new _ _ _
 obtain⟨n,Rm⟩:∃n,p.heap.size=n:=⟨_,rfl⟩
 have HT:=za (qa n 9223372036854775807 0 0 0 s.size K (by rw[<-Rm];exact Cj) (by omega) (by omega) (by omega));have dU:Hid (ff K g u (.slice A b.size cap) J 0 0 q y):=za (cl.out.ag Y cl.out.lt);have av:=za (aE.out.below Y);have Vl:Hid (ae [g] w K):=za (aF.out.trans' (ae.ah Y (zi _)) (by simp));have VG:n≠g:=by omega
 have aQ:w.heap.size<=n:=by omega
 have tr:n<K.heap.size:=by have:=Cj.lt;omega
 rw[Rm];clear tT Cj Y cl aE aF aD Rm cc iH;go_wp2_with fail
 refine HT.out.mono ?_;rintro e w3 ⟨rfl,ah,DU⟩;simp only[zQ]at ah;have jg:Hid (ff w3 g u (.slice A b.size cap) J 0 0 q y):=za (dU.out.only DU (by simpa using Z4 VG));have NX:=za (av.out.pM DU (by intro j e d;simp at d;subst d;have:=RQ.out j e;omega));have Z:Hid (ae [g] w w3):=za (Vl.out.trans' DU (by simp;omega));have aw:=za ah;obtain⟨_,p6,_,_,_,_,_⟩:=jg.out.parts;have bS:hi<=w3.heap.size:=by have:=Z.out.size;omega
 have K8:w.heap.size<=w3.heap.size:=Z.out.size;have T4:g<w3.heap.size:=jg.out.lt;clear DU ah dU av Vl HT;go_wp2_with (
  at_builtin
  refine cm (by rfl) (.tmp 31) (.tmp 32) 31 9 (by rfl) hi 5 i0 zx aT eo aK cA (by rfl) NX.out _ s.data.toList (by rfl) (iY zT w3 s) bS (by rw[aa,aa];omega) ?_;intro B r z F bP DC;have H:Hid (ff F g u (.slice A b.size cap) J 0 0 q y):=za (af.SH jg.out DC Od.out);have ax:tj F n 9223372036854775807 s.size s.size (max 0 s.size):=af.SH aw.out DC (fun e=>by have:=RQ.out _ e;omega);have Su:=za ax;have RS:=za DC;have AY:Hid (bJ F hi 5 (.slice B r z) (b++s).data.toList):=za (by rw[ba];exact bP);obtain⟨_,aN,_,_,_,_,_⟩:=H.out.parts;obtain⟨aM,_,_,_,_,_⟩:=H.out.CP;have aZ:g<F.heap.size:=H.out.lt;clear bP DC ax)
 obtain⟨o,M⟩:∃o,F.setCell ⟨g,1,none⟩ (.slice B r z)=o:=⟨_,rfl⟩
 rw[M];have D5:ae [g] F o:=by rw[<-M];exact(ae.refl _ _).setCell (.inl (by simp)) _
 have fZ:Hid (ff o g u (.slice B r z) J 0 0 q y):=za (by rw[<-M];exact ff.Im H.out _);have I:Hid ((Value.slice B r z).ownBlock≠some g/\(Value.slice B r z).ownBlock≠some n/\∀k,(Value.slice B r z).ownBlock=some k->(Value.slice A b.size cap).ownBlock=some k\/w.heap.size<=k):=za ⟨AY.out.dh H.out (by decide),AY.out.dh Su.out (by decide),fun k e=>by
  rcases RS.out.own with h|⟨j,h,d⟩
  ·exact .inl (by rw[<-h];exact e)
  rw[h]at e;injection e with e;exact .inr (by omega)⟩
 have aj:Hid (bJ o hi 5 (.slice B r z) (b++s).data.toList):=za (AY.out.pM D5 (by intro j e d;simp at d;subst d;exact I.out.1 e));have Lt:tj o n 9223372036854775807 s.size s.size (max 0 s.size):=af.only Su.out D5 (by simpa using VG);have ad:Hid (ae (oG g (.slice A b.size cap)) w o):=za (((Z.out.mono (by simp[oG])).trans' RS.out.only (fun i hi=> .inl (iy.2 (.inr (cJ.1 hi))))).trans' D5 (by simp[oG]));have D3:F.heap.size=o.heap.size:=by rw[<-M];simp[World.setCell]
 have a8:w.heap.size<=o.heap.size:=ad.out.size;have aC:hi<=n:=by omega
 have R6:Hid (∀k,(Value.slice A b.size cap).ownBlock=some k->hi<=k):=za (fun k e=>by have:=nX.out.ge k e;omega);have aG:Hid (lS o C hi u gn gi c rows):=za (GS.out.only ad.out (fun k O=> .inr ((iy.1 O).elim (fun h=>by omega) (fun h=>R6.out k h))));have NJ:Hid (∀V,ae (n::g::(Value.slice B r z).ownBlock.toList) o V->Laid V/\bn V):=za (fun V hV=>by
  have mh:ae (n::g::(Value.slice A b.size cap).ownBlock.toList) w V:=(ad.out.mono (by intro i hi;rcases iy.1 hi with h|h<;>simp[h])).trans' hV (by
   intro i hi;simp only[xq,cJ]at hi⊢;rcases hi with rfl|rfl|e
   ·exact .inl (.inl rfl)
   ·exact .inl (.inr (.inl rfl))
   rcases I.out.2.2 i e with h|h
   ·exact .inl (.inr (.inr h))
   exact .inr h)
  have hn:∀k,k<C->k∉(n::g::(Value.slice A b.size cap).ownBlock.toList):=fun k O hm=>by
   simp only[xq,cJ]at hm;rcases hm with rfl|rfl|e
   ·omega
   ·omega
   have:=R6.out k e;omega
  exact⟨ar.out.1.only mh (hn _ Cg),ar.out.2.only mh (hn _ B7)⟩)
 have ab:=za (TY c l C hi u gn gi rows g n (.slice B r z) (b++s) J 0 q y s.size (9223372036854775807-s.size) o hr hc (by rw[bX];omega) aG.out Cd.out fZ.out aj.out jP ⟨_,_,_,Lt,by omega,by omega,by omega⟩ VG aC I.out.2.1 (by omega) (Vi.out.more s) NJ.out);rw[HX.out]at ab;simp only at ab;clear M D5 H AY fZ aj Lt Su Z p6 aN aM aw jg NX RS;refine ab.out.mono ?_;rintro e w6 ⟨rv,E,an,rfl,ai,R,ay,aV,az,V2,aB⟩;obtain⟨A6,L,eK,rfl,V0,a1,a6⟩:=cP.df ai;obtain⟨a7,u7,q7,ak,_⟩:=aV;have T5:=za (Ti n a7 u7 (s.size+m) q7 w6 ak);obtain⟨_,_,_,_,p9,ao,_⟩:=ff.parts R;obtain⟨_,_,_,f9,f10,_⟩:=ff.CP R;have aX:=R.lt;have aY:L<=200000:=by rw[V0.out];omega
 have aA:=za ai;have wL:=za R;have al:=za ay;have au:=za az;have aP:=za V2;have aI:=za aB;clear ai R ay az V2 aB ak ab;go_wp2_with fail
 refine T5.out.mono ?_;rintro e w7 ⟨rfl,rfl⟩;go_wp2_with fail
 go_quiet (fail)
 go_wp2;obtain⟨U,S⟩:∃U,(w6.setCell ⟨g,4,none⟩ (.int .i64 ((s.size:Int)+m))).setCell ⟨g,5,none⟩ (.int .i64 ((q:Int)+L))=U:=⟨_,rfl⟩
 have W:ae [g] w6 U:=by rw[<-S];exact((ae.refl [g] w6).setCell (.inl (by simp)) _).setCell (.inl (by simp)) _
 have aO:ff U g u E an er (s.size+m) (q+ml.length) y:=by
  have e1:((s.size:Int)+m)=((s.size+m:Nat):Int):=by omega
  have e2:((q:Int)+L)=((q+ml.length:Nat):Int):=by rw[V0.out];omega
  rw[<-S,e1,e2];exact ff.Tb (ff.CQ wL.out _) _
 have aL:=al.out.dh wL.out (by decide);rw[S];clear S;refine zp (v:= .tuple #[.slice A6 L eK,.int .i64 er]) (by simp[results,Tryz.results12,go_sem]) rfl ?_;refine⟨.slice A6 L eK,E,rfl, ?_,⟨aJ,jP,⟨u,gn,gi,rows,an, ?_,Cd.out,aO.drewN nq,aI.out⟩, ?_⟩, ?_, ?_⟩
 ·have h1:=(aA.out.only W (fun j d hS=>by simp at d;have:=hS.1;omega) (fun j d e=>by have:=aA.out.ge j e;simp at d;omega)).fW (S1:=fun j=>w.heap.size<=j/\E.ownBlock≠some j) (lo':=w.heap.size) (fun j _ hS=>⟨by have:=hS.1;omega,hS.2⟩) (by omega);exact h1.below (Below.bE (zq _ _) nq)
 ·refine((aG.out.only au.out ?_).only W (by simp;omega)).below (Below.bE (zq _ _) nq);intro k O;simp only[xq,cJ]at O;rcases O with rfl|rfl|e
  ·exact .inr aC
  ·exact .inr jP
  rcases I.out.2.2 k e with h|h
  ·exact .inr (R6.out k h)
  exact .inr (by omega)
 ·exact(al.out.pM W (by intro j e d;simp at d;subst d;exact aL e)).below (Below.bE (zq _ _) nq)
 ·refine ae.drewN ((ad.out.trans' au.out ?_).trans' W (by simp[oG])) nq;intro i hi;simp only[xq,cJ]at hi;rcases hi with rfl|rfl|e
  ·exact .inr aQ
  ·exact .inl (by simp[oG])
  rcases I.out.2.2 i e with h|h
  ·exact .inl (iy.2 (.inr h))
  exact .inr h
 intro k e;rcases aP.out k e with h|h
 ·exact I.out.2.2 k h
 exact .inr (by omega)
theorem vU (b hi g:Nat)(d:Value)(c:aS)(l:List bF)(x:iI)(m:Nat)(s:ByteArray)(w:World)(p:c.right=true)(E:c.ok)(h:dB w b hi g d c l x m)(A:Laid w)(u:bn w)(z:1<b)(B:0<b)(q:x.buf.size+s.size<=100000)(r:x.told<=1000000000):
 Calls Tryz.prog 12 #[.pointer (some ⟨g,0,none⟩),.string s] w fun e w'=>∃rv n,e= .returned (.tuple #[rv,.int .i64 (l7 (aR c l) x s).2.2])/\cP w' (fun j=>w.heap.size<=j/\n.ownBlock≠some j) w.heap.size (l7 (aR c l) x s).2.1 rv/\dB w' b hi g n c l (l7 (aR c l) x s).1 m/\ae (oG g d) w w'/\(∀k,n.ownBlock=some k->d.ownBlock=some k\/w.heap.size<=k):=by
 by_cases i:x.fault=0
 ·exact Df b hi g d c l x m s w p E h A u z B i q r
 refine(AE b hi g d c l x m s w h i).mono fun e w' ⟨y,o,D⟩=>⟨.slice none 0 0,d, ?_, ?_, ?_,D.mono (by simp[oG]),fun k C=> .inl C⟩
 ·rw[eP i];exact y
 ·rw[eP i];exact cP.nil _ _ _
 rw[eP i];exact o
