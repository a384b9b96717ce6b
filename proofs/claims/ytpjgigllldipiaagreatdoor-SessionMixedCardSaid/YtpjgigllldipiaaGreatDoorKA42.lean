/- session.cut's closure: the next message of the buffer. -/
import Derived.Test.YtpjgigllldipiaaGreatDoorKA22
import Derived.Test.YtpjgigllldipiaaGreatDoorKA40
import Derived.Test.YtpjgigllldipiaaGreatDoorKA41
set_option linter.all false
set_option maxRecDepth 100000
set_option maxHeartbeats 8000000
open Go.Proofs.Tryz
namespace Go.Proofs.YtpjgigllldipiaaGreatDoor
open Go.RowKit
structure TH (w:World)(cb mb tb ab sb g gm:Nat)(c:aR)(b:ByteArray)(k:Nat):Prop where
 cf:af w cb 24 #[.int .i64 c.fm,.int .u32 c.mg,.int .i64 c.fr,.int .i64 c.un,.int .i64 c.de,.int .i64 c.it]
 me:af w mb 79 #[.pointer (some ⟨gm,0,none⟩)]
 tx:af w tb 9 #[.string b]
 at_:af w ab 3 #[.int .i64 k]
 se:af w sb 37 #[.pointer (some ⟨g,0,none⟩)]
structure NxN (lo hi cb mb tb ab sb g gm:Nat):Prop where
 m1:gm≠cb/\gm≠mb/\gm≠tb/\gm≠ab/\gm≠sb/\gm≠g
 a1:ab≠cb/\ab≠mb/\ab≠tb/\ab≠sb/\ab≠g
 r1:(gm<lo\/hi<=gm)/\(ab<lo\/hi<=ab)
theorem TH.only {w w':World}{cb m i j l g n:Nat}{c:aR}{b:ByteArray}{k:Nat}{L:List Nat}(h:TH w cb m i j l g n c b k)(e:ae L w w')(d:cb∉L/\m∉L/\i∉L/\j∉L/\l∉L):TH w' cb m i j l g n c b k:=
 ⟨h.cf.only e d.1,h.me.only e d.2.1,h.tx.only e d.2.2.1,h.at_.only e d.2.2.2.1,h.se.only e d.2.2.2.2⟩
def C7 (cb mb tb ab sb:Nat):Array Value:= #[.pointer (some ⟨cb,0,none⟩),.pointer (some ⟨mb,0,none⟩),.pointer (some ⟨tb,0,none⟩),.pointer (some ⟨ab,0,none⟩),.pointer (some ⟨sb,0,none⟩)]
theorem FR {w:World}{g:Nat}{t:TypeId}{l j e z3:Value}(h:af w g t #[l,j,e,z3])(b c d v3:Value):af ((((w.setCell ⟨g,0,none⟩ b).setCell ⟨g,1,none⟩ c).setCell ⟨g,2,none⟩ d).setCell ⟨g,3,none⟩ v3) g t #[b,c,d,v3]:=by
 have k:af _ g t #[b,j,e,z3]:=h.store (i:=0) (u:=b) rfl;have m:af _ g t #[b,c,e,z3]:=k.store (i:=1) (u:=c) rfl;have n:af _ g t #[b,c,d,z3]:=m.store (i:=2) (u:=d) rfl;exact n.store (i:=3) (u:=v3) rfl
def P' (w:World)(ab gm t R k:Nat)(X:Int×Ms×Nat×Nat)(e:Ending)(w':World):Prop:=
 ∃d0 d1 d2 d3,e= .returned (.tuple #[.agg #[d0,d1,d2,d3],.int .i64 X.1])/\oJ w' (w.heap.size<= ·) X.2.1 d0 d1 d2 d3/\Met w' (some gm) (t+X.2.2.2) (R-X.2.2.2)/\ae [gm,ab] w w'/\af w' ab 3 #[.int .i64 (if X.1=0 then k+X.2.2.1 else k:Nat)]
theorem Qa (c:aR)(l:List bA)(lo hi O gn gi:Nat)(rows:List bV)(g q cb mb tb x sb:Nat)(b:ByteArray)(k:Nat)(bv:Value)(nd:Nat)(fault:Int)(laid al aH t R:Nat)(w:World)
 (hr:c.right=true) (hc:c.ok) (hb:b.size<=100000) (H:k<=b.size) (hM:lO w lo hi O gn gi c rows) (qq:aJ rows=l) (hS:eX w g O bv nd fault laid al aH) (hm:Met w (some q) t R) (hR:70000<=R)
 (hB:TH w cb mb tb x sb g q c b k) (hN:NxN lo hi cb mb tb x sb g q) (av:∀V,ae [q,x] w V->Laid V/\bj V):
 Calls prog 48 (C7 cb mb tb x sb) w (P' w x q t R k (aY c l (b.extract k b.size))):=by
 obtain⟨r,Vc⟩:∃r,b.extract k b.size=r:=⟨_,rfl⟩
 have UL:r.size=b.size-k:=by rw[<-Vc,an _ _ _ (zf _)]
 rw[Vc];have pe:(k:Int)<=b.size:=by omega
 obtain⟨W,hW⟩:∃W,w.alloc (.cells #[.string ⟨#[]⟩,.string ⟨#[]⟩,.bool false,.slice none 0 0] 30)=W:=⟨_,rfl⟩
 have lJ:Below w.heap.size w W:=by rw[<-hW];exact(zq _ w).alloc (zf _) _
 have Vr:w.heap.size<W.heap.size:=by rw[<-hW];simp
 have Q4:q<w.heap.size:=hm.lt q rfl;have I5:x<w.heap.size:=hB.at_.lt;have aC:af W w.heap.size 30 #[.string ⟨#[]⟩,.string ⟨#[]⟩,.bool false,.slice none 0 0]:=by rw[<-hW];exact af.new _ _ _
 have aI:Met W (some q) t R:=(MS.refl hm|>.below lJ).met;obtain⟨n1,n2,n3,n4,n5,n6⟩:=hN.m1;have eW:Hid (∀V,ae [q] w V->TH V cb mb tb x sb g q c b k/\lO V lo hi O gn gi c rows/\eX V g O bv nd fault laid al aH/\Laid V/\bj V):=za (fun V o=>⟨hB.only o (by simp;omega),hM.only o (by have:=hN.r1;simp;omega),hS.only o (by simp;omega),av V (o.mono (by simp))⟩);have Du:Hid (∀V,ae [q] W V->ae [q] w V):=za (fun V o=>((ae.ag lJ (zf _)).mono (by simp)).trans o);have HS:Hid (∀V,ae [q] W V->V.cell? ⟨cb,0,none⟩=some (.int .i64 c.fm)/\V.cell? ⟨cb,1,none⟩=some (.int .u32 c.mg)/\V.cell? ⟨cb,2,none⟩=some (.int .i64 c.fr)/\V.cell? ⟨cb,3,none⟩=some (.int .i64 c.un)/\V.cell? ⟨cb,4,none⟩=some (.int .i64 c.de)/\V.cell? ⟨cb,5,none⟩=some (.int .i64 c.it)/\V.cell? ⟨mb,0,none⟩=some (.pointer (some ⟨q,0,none⟩))/\V.cell? ⟨tb,0,none⟩=some (.string b)/\V.cell? ⟨x,0,none⟩=some (.int .i64 k)):=za (fun V o=>by
  obtain⟨hx,_⟩:=eW.out V (Du.out V o);exact⟨hx.cf.cell 0,hx.cf.cell 1,hx.cf.cell 2,hx.cf.cell 3,hx.cf.cell 4,hx.cf.cell 5,hx.me.cell 0,hx.tx.cell 0,hx.at_.cell 0⟩)
 have HN:=za (fun W0 V o=>P9 c (some q) t R r hc hR (by omega) W0 V o);have S:Hid (aY c l r=if(aW c r).1≠0 then((aW c r).1,qX,(aW c r).2.2.1,(aW c r).2.2.2)else((eO c l (aW c r).2.1).1,(eO c l (aW c r).2.1).2,(aW c r).2.2.1,(aW c r).2.2.2)):=za rfl;have eT:=(uy c).pos r;have NQ:(aW c r).2.1.body.size<=1099511627776:=Hr c r (by omega);generalize aY c l r=X at*;obtain⟨ao,hY⟩:∃ao,aW c r=ao:=⟨_,rfl⟩
 rw[hY]at HN S eT NQ;clear hY;obtain⟨y5,⟨B,D,C⟩,y4,m⟩:=ao;simp only at eT NQ S;unfold oT Fr.val ng aR.val at HN;simp only at HN;have HW:=za hW;have TV:=za (MS.refl aI);have aS:=za aC;have Vb:=za hN;have B0:=za qq;have Dv:=za eT;have aN:=za NQ;unfold C7;clear hm hR hB hN av hM qq hS lJ aC aI hW eT NQ n1 n2 n3 n4 n5 n6;go_enter func48,ntmps48
 go_upto_region 1 with fail
 rw[HW.out];go_cut [7,8,9] (fun v1 v2 v3 d=>∃F:Nat,v1= .pointer (some ⟨F,0,none⟩)/\v2= .int .i64 y4/\v3= .int .i64 y5/\Hid (MS (some q) (t+m) (R-m) W d)/\Hid (af d F 74 #[.int .u64 B,.string D,.string C])/\W.heap.size<=F)
 case rest=>
  obtain⟨F,rfl,rfl,rfl,Z,Y,YZ⟩:=hcut;obtain⟨d,Y0⟩:∃d,d=wc:=⟨_,rfl⟩
  subst Y0;have K5:=Z.out.only;have A:=za (eW.out d (Du.out d K5));have KP:Hid (af d w.heap.size 30 #[.string ⟨#[]⟩,.string ⟨#[]⟩,.bool false,.slice none 0 0]):=za (aS.out.only K5 (by simp;omega));have aV:F<d.heap.size:=Y.out.lt;have wJ:g<d.heap.size:=A.out.2.2.1.lt;have aE:=za (Du.out d K5);clear K5;rcases eF y5 with⟨h0,z1,z2⟩|⟨h0,z1,z2⟩
  ·subst h0;obtain⟨gb,hU⟩:=Dv.out rfl;rw[zj (by simp)]at S;have HD:Hid (∀V,Below d.heap.size d V->Calls prog 50 #[.pointer (some ⟨O,0,none⟩),.agg #[.int .u64 B,.string D,.string C]] V (UE V (eO c l ⟨B,D,C⟩))):=za (fun V o=>by
    have:=Tr lo hi O gn gi c rows ⟨B,D,C⟩ V (A.out.2.1.below (o.mono A.out.2.1.his)) (A.out.2.2.2.1.below o A.out.2.2.2.1.pos) (A.out.2.2.2.2.below o A.out.2.2.2.2.pos) aN.out;rwa [B0.out]at this)
   have No:Hid (∀V,Below d.heap.size d V->V.cell? ⟨sb,0,none⟩=some (.pointer (some ⟨g,0,none⟩))/\V.cell? ⟨g,0,none⟩=some (.pointer (some ⟨O,0,none⟩))/\V.cell? ⟨F,0,none⟩=some (.int .u64 B)/\V.cell? ⟨F,1,none⟩=some (.string D)/\V.cell? ⟨F,2,none⟩=some (.string C)):=za (fun V o=>by
    have M:=A.out.1.se.ah o A.out.1.se.lt;have h2:eX V g O bv nd fault laid al aH:=A.out.2.2.1.ah o wJ;have h3:=Y.out.ah o Y.out.lt;exact⟨M.cell 0,h2.parts.1,h3.cell 0,h3.cell 1,h3.cell 2⟩)
   generalize eO c l ⟨B,D,C⟩=aU at*;obtain⟨D1,i⟩:=aU;simp only at S;go_upto_region 4 with fail
   go_cut [9,10] (fun v1 v2 p=>∃(bm:Nat) (u:Option Addr) (s:Nat),v1= .int .i64 D1/\v2= .pointer (some ⟨bm,0,none⟩)/\Hid (Below d.heap.size d p)/\Hid (af p bm 30 #[.string i.name,.string i.x.text,.bool i.x.list,.slice u i.x.sub.length s])/\Hid (oJ p (d.heap.size<= ·) i (.string i.name) (.string i.x.text) (.bool i.x.list) (.slice u i.x.sub.length s))/\d.heap.size<=bm)
   case rest=>
    obtain⟨bm,u,s,rfl,rfl,J,NX,Nw,aG⟩:=hcut;obtain⟨p,aP⟩:∃p,p=wc:=⟨_,rfl⟩
    subst aP;have ai:=za (A.out.1.at_.ah J.out A.out.1.at_.lt);have aq:=za (KP.out.ah J.out KP.out.lt);have aw:Hid (Met p (some q) (t+m) (R-m)):=za (Z.out.below J.out).met;have az:Hid (ae [q] w p):=za ((aE.out.trans' (ae.ag J.out (zf _)) (by simp)));have R4:=J.out.size;rcases eF D1 with⟨M,u1,u2⟩|⟨M,u1,u2⟩
    ·subst M;have q0:p.cell? ⟨x,0,none⟩=some (.int .i64 k):=ai.out.cell 0;have Vi:p.frozen? ⟨x,0,none⟩=false:=ai.out.frozen 0;go_upto_region 7 with fail
     obtain⟨W9,Se⟩:∃W9,p.setCell ⟨x,0,none⟩ (.int .i64 ((k:Int)+y4))=W9:=⟨_,rfl⟩
     have qJ:ae [x] p W9:=by rw[<-Se];exact(ae.refl _ _).setCell (by simp) _
     have Dz:Hid (af W9 x 3 #[.int .i64 (k+y4:Nat)]):=za (by rw[<-Se];exact ai.out.store rfl);have ay:=za (aq.out.only qJ (by simp;omega));have aB:=NX.out.only qJ (by simp;omega);have YW:=za (Nw.out.only qJ (by simp;omega) (fun _ _ h=>h));have aQ:=za (aw.out.only qJ (by intro j e;injection e with e;have:=Vb.out.m1;simp;omega));have aT:Hid (ae [q,x] w W9):=za ((az.out.mono (by simp)).trans (qJ.mono (by simp)));obtain⟨v0,v1,v2,v3,_⟩:=aO aB;obtain⟨m0,m1,m2,m3,aK,aD,aF,au⟩:=aO ay.out;rw[Se];clear Se qJ aB q0 Vi;go_wp2;obtain⟨ah,ag,ad,aa⟩:=gZ ay.out (.string i.name) (.string i.x.text) (.bool i.x.list) (.slice u i.x.sub.length s);refine zo (v:= .tuple #[.agg #[.string i.name,.string i.x.text,.bool i.x.list,.slice u i.x.sub.length s],.int .i64 0]) (by simp[results,results48,go_sem,ah,ag,ad,aa]) rfl ?_;have z:=eu W9 w.heap.size (.string i.name) (.string i.x.text) (.bool i.x.list) (.slice u i.x.sub.length s);rw[S.out];refine⟨_,_,_,_,rfl,YW.out.only z (by simp;omega) (fun k _ H=>by have H:d.heap.size<=k:=H;show w.heap.size<=k;omega),aQ.out.only z (by intro j e;injection e with e;simp;omega),aT.out.trans' z (by simp), ?_⟩;have M:=Dz.out.only z (by simp;omega);rw[zl rfl];exact M
    obtain⟨v0,v1,v2,v3,_⟩:=aO NX.out;obtain⟨m0,m1,m2,m3,aK,aD,aF,au⟩:=aO aq.out;go_wp2;obtain⟨ah,ag,ad,aa⟩:=gZ aq.out (.string i.name) (.string i.x.text) (.bool i.x.list) (.slice u i.x.sub.length s);refine zo (v:= .tuple #[.agg #[.string i.name,.string i.x.text,.bool i.x.list,.slice u i.x.sub.length s],.int .i64 D1]) (by simp[results,results48,go_sem,ah,ag,ad,aa]) rfl ?_;have z:=eu p w.heap.size (.string i.name) (.string i.x.text) (.bool i.x.list) (.slice u i.x.sub.length s);rw[S.out];refine⟨_,_,_,_,rfl,Nw.out.only z (by simp;omega) (fun k _ H=>by have H:d.heap.size<=k:=H;show w.heap.size<=k;omega),aw.out.only z (by intro j e;injection e with e;simp;omega),(az.out.mono (by simp)).trans' z (by simp), ?_⟩;have h2:=ai.out.only z (by simp;omega);rw[zj M];exact h2
   go_wp2_with fail
   have hHeld:=No.out d.drew (zq _ _).drew;refine aA 11 (fun V=>V.cell? ⟨sb,0,none⟩=some (.pointer (some ⟨g,0,none⟩))/\V.cell? ⟨g,0,none⟩=some (.pointer (some ⟨O,0,none⟩))/\V.cell? ⟨F,0,none⟩=some (.int .u64 B)/\V.cell? ⟨F,1,none⟩=some (.string D)/\V.cell? ⟨F,2,none⟩=some (.string C)) (by kernel_rfl) (by kernel_rfl) ?_;refine GT.jy [0,1,2,3,4] hHeld (fun _ _ _ _ _ h=>h) (by kernel_rfl) ?_;repeat(refine .c rfl rfl (fun V o=>by go_simp<;>with_reducible rfl) ?_;simp only[Act.put,zb,ze,zg])
   refine .nil ?_;refine GT.SW 5 9 rfl rfl (by kernel_rfl) (fun K n=> ?_) (fun K n=> ?_)
   ·go_simp;refine(HD.out d.drew (zq _ _).drew).mono ?_;rintro en E ⟨pg,d0,d1,d2,d3,rfl,U⟩;obtain⟨u,s,rfl,rfl,rfl,rfl,_⟩:=U.open_;have y:Below d.heap.size d E:=(show Below d.heap.size d d.drew from(zq _ _).drew).trans pg;go_wp2_with fail
    refine n.out _ _ (No.out E y) (fun hHeld=> ?_);clear n K;try simp only[Act.put,zb,ze,zg]
    refine GT.jy [6,7,8] hHeld (fun _ _ _ _ _ h=>h) (by kernel_rfl) ?_;repeat(refine .c rfl rfl (fun V o=>by go_simp<;>with_reducible rfl) ?_;simp only[Act.put,zb,ze,zg])
    refine .nil ?_;refine GT.fw 9 (fun K n=> ?_) rfl (by kernel_rfl);go_simp;refine n.out _ _ (No.out _ (y.alloc y.size _)) (fun hHeld=> ?_);clear n K;try simp only[Act.put,zb,ze,zg]
    refine GT.fw 10 (fun K n=> ?_) rfl (by kernel_rfl);go_simp;refine n.out _ _ (No.out _ (y.alloc y.size _)) (fun hHeld=> ?_);clear n K;try simp only[Act.put,zb,ze,zg]
    refine GT.oL 11 ?_ rfl (by kernel_rfl);go_simp;obtain⟨p,G⟩:∃p,E.alloc (.cells #[.string i.name,.string i.x.text,.bool i.x.list,.slice u i.x.sub.length s] 30)=p:=⟨_,rfl⟩
    have J:Hid (Below d.heap.size d p):=za (by rw[<-G];exact y.alloc y.size _);have NX:Hid (af p E.heap.size 30 #[.string i.name,.string i.x.text,.bool i.x.list,.slice u i.x.sub.length s]):=za (by rw[<-G];exact af.new _ _ _);have Nw:Hid (oJ p (d.heap.size<= ·) i (.string i.name) (.string i.x.text) (.bool i.x.list) (.slice u i.x.sub.length s)):=za (by rw[<-G];exact U.below ((zq _ _).alloc (zf _) _));have aG:d.heap.size<=E.heap.size:=y.size;rw[G];clear G pg y U hHeld;go_wp2_with fail
    go_meet;case rel=>exact⟨_,_,_,rfl,rfl,J,NX,Nw,aG⟩
   go_simp;have Dw:Below d.heap.size d (d.alloc (.cells #[.string ⟨#[]⟩,.string ⟨#[]⟩,.bool false,.slice none 0 0] 30)).drew:=((zq d.heap.size d).alloc (zf _) _).drew;have YY:af (d.alloc (.cells #[.string ⟨#[]⟩,.string ⟨#[]⟩,.bool false,.slice none 0 0] 30)).drew d.heap.size 30 #[.string ⟨#[]⟩,.string ⟨#[]⟩,.bool false,.slice none 0 0]:=(af.new d _ _).drew;refine n.out _ _ (No.out _ Dw) (fun hHeld=> ?_);clear n K;try simp only[Act.put,zb,ze,zg]
   refine GT.fw 5 (fun K n=> ?_) rfl (by kernel_rfl);go_simp;refine(HD.out _ Dw).mono ?_;rintro en E ⟨pg,d0,d1,d2,d3,rfl,U⟩;obtain⟨u,s,rfl,rfl,rfl,rfl,_⟩:=U.open_;have y:Below d.heap.size d E:=Dw.trans (pg.mono Dw.size);have ak:=YY.ah pg YY.lt;go_wp2_with fail
   refine n.out _ _ (No.out E y) (fun hHeld=> ?_);clear n K;try simp only[Act.put,zb,ze,zg]
   refine GT.jy [6,7,8] hHeld (fun _ _ _ _ _ h=>h) (by kernel_rfl) ?_;repeat(refine .c rfl rfl (fun V o=>by go_simp<;>with_reducible rfl) ?_;simp only[Act.put,zb,ze,zg])
   refine .nil ?_;obtain⟨t0,t1,t2,t3,KV,Np,Sb,aL⟩:=aO ak;refine GT.fw 10 (fun K n=> ?_) rfl (by kernel_rfl);go_simp;have R8:Below d.heap.size d ((((E.setCell ⟨d.heap.size,0,none⟩ (.string i.name)).setCell ⟨d.heap.size,1,none⟩ (.string i.x.text)).setCell ⟨d.heap.size,2,none⟩ (.bool i.x.list)).setCell ⟨d.heap.size,3,none⟩ (.slice u i.x.sub.length s)):=(((y.setCell (by simp) _).setCell (by simp) _).setCell (by simp) _).setCell (by simp) _;refine n.out _ _ (No.out _ R8) (fun hHeld=> ?_);clear n K;try simp only[Act.put,zb,ze,zg]
   refine GT.oL 11 ?_ rfl (by kernel_rfl);go_simp;obtain⟨p,G⟩:∃p,(((E.setCell ⟨d.heap.size,0,none⟩ (.string i.name)).setCell ⟨d.heap.size,1,none⟩ (.string i.x.text)).setCell ⟨d.heap.size,2,none⟩ (.bool i.x.list)).setCell ⟨d.heap.size,3,none⟩ (.slice u i.x.sub.length s)=p:=⟨_,rfl⟩
   have J:Hid (Below d.heap.size d p):=za (by rw[<-G];exact R8);have NX:Hid (af p d.heap.size 30 #[.string i.name,.string i.x.text,.bool i.x.list,.slice u i.x.sub.length s]):=za (by rw[<-G];exact FR ak _ _ _ _);have Nw:Hid (oJ p (d.heap.size<= ·) i (.string i.name) (.string i.x.text) (.bool i.x.list) (.slice u i.x.sub.length s)):=za (by rw[<-G];exact U.only (L:= [d.heap.size]) (eu E d.heap.size _ _ _ _) (by simp[World.drew]) (fun k _ H=>by have H:(d.alloc (.cells #[.string ⟨#[]⟩,.string ⟨#[]⟩,.bool false,.slice none 0 0] 30)).heap.size<=k:=H;simp at H;show d.heap.size<=k;omega));rw[G];clear G pg y U hHeld Dw YY ak R8 t0 t1 t2 t3 KV Np Sb aL;go_wp2_with fail
   go_meet;case rel=>exact⟨_,_,_,rfl,rfl,J,NX,Nw,zf _⟩
  rw[zl h0]at S;obtain⟨m0,m1,m2,m3,aK,aD,aF,au⟩:=aO KP.out;have aM:=za Z.out.met;go_wp2;obtain⟨ah,ag,ad,aa⟩:=gZ KP.out (.string ⟨#[]⟩) (.string ⟨#[]⟩) (.bool false) (.slice none 0 0);refine zo (v:= .tuple #[.agg #[.string ⟨#[]⟩,.string ⟨#[]⟩,.bool false,.slice none 0 0],.int .i64 y5]) (by simp[results,results48,go_sem,ah,ag,ad,aa]) rfl ?_;have z:=eu d w.heap.size (.string ⟨#[]⟩) (.string ⟨#[]⟩) (.bool false) (.slice none 0 0);rw[S.out];refine⟨_,_,_,_,rfl,C3 _ _,aM.out.only z (by intro j e;injection e with e;simp;omega),(aE.out.mono (by simp)).trans' z (by simp), ?_⟩;have M:=A.out.1.at_.only z (by simp;omega);rw[zj h0];exact M
 go_wp2_with fail
 have hHeld:=HS.out W.drew TV.out.drew.only;refine aA 13 (fun V=>V.cell? ⟨cb,0,none⟩=some (.int .i64 c.fm)/\V.cell? ⟨cb,1,none⟩=some (.int .u32 c.mg)/\V.cell? ⟨cb,2,none⟩=some (.int .i64 c.fr)/\V.cell? ⟨cb,3,none⟩=some (.int .i64 c.un)/\V.cell? ⟨cb,4,none⟩=some (.int .i64 c.de)/\V.cell? ⟨cb,5,none⟩=some (.int .i64 c.it)/\V.cell? ⟨mb,0,none⟩=some (.pointer (some ⟨q,0,none⟩))/\V.cell? ⟨tb,0,none⟩=some (.string b)/\V.cell? ⟨x,0,none⟩=some (.int .i64 k)) (by kernel_rfl) (by kernel_rfl) ?_;refine GT.jy [0,1,2,3,4] hHeld (fun _ _ _ _ _ h=>h) (by kernel_rfl) ?_;iterate 4 (refine .c rfl rfl (fun V o=>by go_simp<;>with_reducible rfl) ?_;simp only[Act.put,zb,ze,zg])
 refine .c (v:= .string r) rfl rfl (fun V o=>by go_simp<;>with_reducible rfl) ?_;try simp only[Act.put,zb,ze,zg];refine .nil ?_;refine GT.SW 5 10 rfl rfl (by kernel_rfl) (fun K n=> ?_) (fun K n=> ?_)
 ·go_simp;refine(HN.out W W.drew TV.out.drew).mono ?_;rintro en w3 ⟨rfl,I⟩;go_wp2_with fail
  refine n.out _ _ (HS.out w3 I.only) (fun hHeld=> ?_);clear n K;try simp only[Act.put,zb,ze,zg]
  refine GT.jy [6,7,8,9] hHeld (fun _ _ _ _ _ h=>h) (by kernel_rfl) ?_;repeat(refine .c rfl rfl (fun V o=>by go_simp<;>with_reducible rfl) ?_;simp only[Act.put,zb,ze,zg])
  refine .nil ?_;refine GT.fw 10 (fun K n=> ?_) rfl (by kernel_rfl);go_simp;refine n.out _ _ (HS.out _ (I.alloc _).only) (fun hHeld=> ?_);clear n K;try simp only[Act.put,zb,ze,zg]
  refine GT.fw 11 (fun K n=> ?_) rfl (by kernel_rfl);go_simp;refine n.out _ _ (HS.out _ (I.alloc _).only) (fun hHeld=> ?_);clear n K;try simp only[Act.put,zb,ze,zg]
  refine GT.jy [12] hHeld (fun _ _ _ _ _ h=>h) (by kernel_rfl) ?_;refine .c rfl rfl (fun V o=>by go_simp<;>with_reducible rfl) ?_;simp only[Act.put,zb,ze,zg];refine .nil ?_;refine GT.oL 13 ?_ rfl (by kernel_rfl);go_simp;obtain⟨d,N⟩:∃d,w3.alloc (.cells #[.int .u64 B,.string D,.string C] 74)=d:=⟨_,rfl⟩
  have Z:Hid (MS (some q) (t+m) (R-m) W d):=za (by rw[<-N];exact I.alloc _);have Y:Hid (af d w3.heap.size 74 #[.int .u64 B,.string D,.string C]):=za (by rw[<-N];exact af.new _ _ _);have YZ:W.heap.size<=w3.heap.size:=I.size;rw[N];clear N I hHeld;go_wp2_with fail
  go_meet;case rel=>exact⟨_,rfl,rfl,rfl,Z,Y,YZ⟩
 go_simp;have aj:MS (some q) t R W (W.alloc (.cells #[.int .u64 0,.string ⟨#[]⟩,.string ⟨#[]⟩] 74)).drew:=(TV.out.alloc _).drew;have ax:af (W.alloc (.cells #[.int .u64 0,.string ⟨#[]⟩,.string ⟨#[]⟩] 74)).drew W.heap.size 74 #[.int .u64 0,.string ⟨#[]⟩,.string ⟨#[]⟩]:=(af.new W _ _).drew;refine n.out _ _ (HS.out _ aj.only) (fun hHeld=> ?_);clear n K;try simp only[Act.put,zb,ze,zg]
 refine GT.fw 5 (fun K n=> ?_) rfl (by kernel_rfl);go_simp;refine(HN.out _ _ (MS.refl aj.met)).mono ?_;rintro en w3 ⟨rfl,YX⟩;have I:=YX.from aj.only;have Ro:=ax.only YX.only (by simp;omega);go_wp2_with fail
 refine n.out _ _ (HS.out w3 I.only) (fun hHeld=> ?_);clear n K;try simp only[Act.put,zb,ze,zg]
 refine GT.jy [6,7,8,9] hHeld (fun _ _ _ _ _ h=>h) (by kernel_rfl) ?_;repeat(refine .c rfl rfl (fun V o=>by go_simp<;>with_reducible rfl) ?_;simp only[Act.put,zb,ze,zg])
 refine .nil ?_;obtain⟨t0,t1,t2,KV,Np,Sb⟩:=a8 Ro;refine GT.fw 11 (fun K n=> ?_) rfl (by kernel_rfl);go_simp;have ar:=I.dP (zf _) (by intro j e;injection e with e;omega) (.int .u64 B) (.string D) (.string C);refine n.out _ _ (HS.out _ ar.only) (fun hHeld=> ?_);clear n K;try simp only[Act.put,zb,ze,zg]
 refine GT.jy [12] hHeld (fun _ _ _ _ _ h=>h) (by kernel_rfl) ?_;refine .c rfl rfl (fun V o=>by go_simp<;>with_reducible rfl) ?_;simp only[Act.put,zb,ze,zg];refine .nil ?_;refine GT.oL 13 ?_ rfl (by kernel_rfl);go_simp;obtain⟨d,N⟩:∃d,((w3.setCell ⟨W.heap.size,0,none⟩ (.int .u64 B)).setCell ⟨W.heap.size,1,none⟩ (.string D)).setCell ⟨W.heap.size,2,none⟩ (.string C)=d:=⟨_,rfl⟩
 have Z:Hid (MS (some q) (t+m) (R-m) W d):=za (by rw[<-N];exact ar);have Y:Hid (af d W.heap.size 74 #[.int .u64 B,.string D,.string C]):=za (by rw[<-N];exact dP Ro _ _ _);have YZ:W.heap.size<=W.heap.size:=zf _;rw[N];clear N I hHeld YX aj ax Ro ar t0 t1 t2 KV Np Sb;go_wp2_with fail
 go_meet;case rel=>exact⟨_,rfl,rfl,rfl,Z,Y,YZ⟩
def lenOf :Value->Nat
 | .slice _ n _=>n
 |_=>0
theorem Qb (c:aR)(l:List bA)(s:ByteArray):(aY c l s).2.2.2<=65536:=by rw[lu];exact BD c s
structure CuW (w V:World)(cb mb tb ab sb tm z g gm:Nat)(c:aR)(l:List bA)(b:ByteArray)(k t R:Nat)(lv:Value):Prop where
 only:ae [gm] w V
 met:Met V (some gm) (t+(aY c l (b.extract k b.size)).2.2.2) (R-(aY c l (b.extract k b.size)).2.2.2)
 nx:TH V cb mb tb ab sb g gm c b (if(aY c l (b.extract k b.size)).1=0 then k+(aY c l (b.extract k b.size)).2.2.1 else k)
 msg:∃d0 d1 d2 d3,af V tm 30 #[d0,d1,d2,d3]/\oJ V (fun j=>z<=j/\j≠tm/\lv.ownBlock≠some j) (aY c l (b.extract k b.size)).2.1 d0 d1 d2 d3
theorem TJ (c:aR)(l:List bA)(lo hi D gn gi:Nat)(rows:List bV)(g p:Nat)(bv:Value)(b:ByteArray)(F laid J K t R:Nat)(w:World)(hr:c.right=true)(hc:c.ok)(hb:b.size<=100000)(hM:lO w lo hi D gn gi c rows)(qq:aJ rows=l)(hS:eX w g D bv F 0 laid J K)(bz:bJ w hi 5 bv b.data.toList)
 (DU:hi<=g) (wD:Met w (some p) t R) (Q4:p≠g) (a8:hi<=p) (aQ:bv.ownBlock≠some p) (hR:1099511627776<=R) (tM:iq c b F) (aP:∀V,ae (p::g::bv.ownBlock.toList) w V->Laid V/\bj V):
 Calls prog 32 #[.pointer (some ⟨g,0,none⟩),.pointer (some ⟨p,0,none⟩)] w fun e w'=>∃rv GI Y6,e= .returned rv/\dM w' (fun j=>w.heap.size<=j/\GI.ownBlock≠some j) w.heap.size (split (aY c l) b).1 rv/\eX w' g D GI Y6 (split (aY c l) b).2.2.2 laid J K/\bJ w' hi 5 GI (split (aY c l) b).2.1.data.toList/\
  Met w' (some p) (t+(split (aY c l) b).2.2.1) (R-(split (aY c l) b).2.2.1)/\ae (p::g::bv.ownBlock.toList) w w'/\(∀k,GI.ownBlock=some k->bv.ownBlock=some k\/w.heap.size<=k)/\((split (aY c l) b).2.2.2=0->iq c (split (aY c l) b).2.1 Y6):=by
 have cd:bv.ownBlock≠some g:=bz.dX hS (by decide);have YZ:=bz.form;rw[aa]at YZ;obtain⟨A,cap,rfl,oU,lI⟩:=YZ;have Qs:∀V,Below w.heap.size w V->(convert 31 9 (.slice A b.size cap)).run prog V= .ok (.string b) V:=fun V o=>by
  have:=bJ.Ef (P:=prog) (src:=31) (dst:=9) zx yC zO (bz.below o);rwa [ig]at this
 have bb:=za Qs;have wJ:g<w.heap.size:=hS.lt;have bW:p<w.heap.size:=wD.lt p rfl;have HS:=za hS;have nS:=za bz;have HM:=za wD;have GH:=za hM;have UW:=za tM;have NT:=za (And.intro cd aQ);have Nn:=za aP;have B0:=za qq;have YR:=za (gF c l);obtain⟨E,cB⟩:∃E,(w.alloc (.cells #[.pointer (some ⟨g,0,none⟩)] 37)).alloc (.cells #[.pointer (some ⟨p,0,none⟩)] 79)=E:=⟨_,rfl⟩
 have kz:Below w.heap.size w E:=by rw[<-cB];exact((zq _ w).alloc (zf _) _).alloc (by simp) _
 have eA:E.heap.size=w.heap.size+2:=by rw[<-cB];simp
 have Y4:Hid (af E w.heap.size 37 #[.pointer (some ⟨g,0,none⟩)]):=za (by rw[<-cB];exact(af.new w _ _).alloc _);have NX:Hid (af E (w.heap.size+1) 79 #[.pointer (some ⟨p,0,none⟩)]):=za (by rw[<-cB];exact af.at_ (by simp));have lZ:=za kz;have AL:=za eA;have cJ:=za cB;have Z:E.cell? ⟨w.heap.size,0,none⟩=some (.pointer (some ⟨g,0,none⟩)):=Y4.out.cell 0;obtain⟨p0,p1,I,p3,p4,p5,p6⟩:=eX.parts (hS.ah kz wJ);clear hS bz wD hM tM cd aQ aP qq Qs kz eA cB;by_cases aC:b.size<F
 ·have ad:Hid (split (aY c l) b=([],b,0,0)):=za (fU YR.out (jw.2 (UW.out.here aC)));rw[ad.out];go_enter func32,ntmps32
  go_wp2_with fail
  rw[cJ.out];go_quiet (fail)
  go_wp2;go_ret;have eY:Below w.heap.size w (E.drewN nq):=Below.bB lZ.out nq;exact⟨_,_,F,rfl,dM.nil _ _ _,HS.out.ah eY wJ,nS.out.below eY,(MS.refl HM.out|>.below eY).met,(ae.ag eY (zf _)).mono (by simp),fun k hk=> .inl hk,fun _=>UW.out⟩
 skip
 go_enter func32,ntmps32
 go_wp2_with fail
 rw[cJ.out];go_quiet (fail)
 obtain⟨w1,oY⟩:∃w1,E.drewN nq=w1:=⟨_,rfl⟩
 have cq:Hid (Below E.heap.size E w1):=za (by rw[<-oY];exact Below.bB (zq _ _) nq);rw[oY];clear oY Z p0 p1 I p3 p4 p5 p6;have Uf:=lZ.out.trans (cq.out.mono (by have:=AL.out;omega));have bl:=za Uf;have Z:w1.cell? ⟨w.heap.size,0,none⟩=some (.pointer (some ⟨g,0,none⟩)):=(Y4.out.ah cq.out Y4.out.lt).cell 0;obtain⟨p0,p1,I,p3,p4,p5,p6⟩:=eX.parts (HS.out.ah Uf wJ);have T0:=za (Kq lo hi D gn gi c rows w1 (GH.out.below (Uf.mono GH.out.his)));unfold aR.val at T0;clear Uf;go_wp2_with fail
 refine T0.out.mono ?_;rintro e q ⟨rfl,aM⟩;obtain⟨y,fI⟩:∃y,((q.alloc (.cells #[.int .i64 c.fm,.int .u32 c.mg,.int .i64 c.fr,.int .i64 c.un,.int .i64 c.de,.int .i64 c.it] 24)).alloc (.cells #[.string b] 9)).alloc (.cells #[.int .i64 0] 3)=y:=⟨_,rfl⟩
 have cg:=cq.out.size;have cG:=aM.size;have Y8:Below q.heap.size q y:=by rw[<-fI];exact(((zq _ q).alloc (zf _) _).alloc (by simp) _).alloc (by simp;omega) _
 have aS:Below w1.heap.size w1 y:=aM.trans (Y8.mono cG);have Y5:Below E.heap.size E y:=cq.out.trans (aS.mono cg);have Ug:Below w.heap.size w q:=bl.out.trans (aM.mono (by have:=AL.out;omega));have aU:Below w.heap.size w y:=Ug.trans (Y8.mono (by have:=AL.out;omega));have DR:y.heap.size=q.heap.size+3:=by rw[<-fI];simp
 have bC:=bb.out (q.alloc (.cells #[.int .i64 c.fm,.int .u32 c.mg,.int .i64 c.fr,.int .i64 c.un,.int .i64 c.de,.int .i64 c.it] 24)) (Ug.alloc (by have:=AL.out;omega) _);have a':Hid (af y q.heap.size 24 #[.int .i64 c.fm,.int .u32 c.mg,.int .i64 c.fr,.int .i64 c.un,.int .i64 c.de,.int .i64 c.it]):=za (by rw[<-fI];exact((af.new _ _ _).alloc _).alloc _);have bf:Hid (af y (q.heap.size+1) 9 #[.string b]):=za (by rw[<-fI];exact af.alloc (af.at_ (by simp)) _);have aT:Hid (af y (q.heap.size+1+1) 3 #[.int .i64 0]):=za (by rw[<-fI];exact af.at_ (by simp));have a6:=za (Y4.out.ah Y5 Y4.out.lt);have bd:=za (NX.out.ah Y5 NX.out.lt);have DA:=za aU;have al:Hid (w.heap.size+2<=q.heap.size/\y.heap.size=q.heap.size+3):=za ⟨by have:=AL.out;omega,DR⟩;clear Z p0 p1 I p3 p4 p5 p6;have Z:q.cell? ⟨w.heap.size,0,none⟩=some (.pointer (some ⟨g,0,none⟩)):=((Y4.out.ah cq.out Y4.out.lt).ah aM (by have:=AL.out;omega)).cell 0;obtain⟨p0,p1,I,p3,p4,p5,p6⟩:=eX.parts (HS.out.ah Ug wJ);have DF:w.heap.size<q.heap.size:=by have:=AL.out;omega
 have B5:g<q.heap.size:=by omega
 have qI:=za fI;have Vb:Hid (NxN lo hi q.heap.size (w.heap.size+1) (q.heap.size+1) (q.heap.size+1+1) w.heap.size g p):=za ⟨⟨by omega,by omega,by omega,by omega,by omega,Q4⟩,⟨by omega,by omega,by omega,by omega,by omega⟩,⟨.inr a8,.inr (by have:=GH.out.his;omega)⟩⟩;have tN:Hid (∀V k t' R',ae [p] w V->TH V q.heap.size (w.heap.size+1) (q.heap.size+1) (q.heap.size+1+1) w.heap.size g p c b k->Met V (some p) t' R'->70000<=R'->k<=b.size->Calls prog 48 (C7 q.heap.size (w.heap.size+1) (q.heap.size+1) (q.heap.size+1+1) w.heap.size) V (P' V (q.heap.size+1+1) p t' R' k (aY c l (b.extract k b.size)))):=za (fun V k t' R' o hB hm br hk=>
  Qa c l lo hi D gn gi rows g p _ _ _ _ _ b k (.slice A b.size cap) F 0 laid J K t' R' V hr hc hb hk (GH.out.only o (by simp;exact .inr a8)) B0.out (HS.out.only o (by simp;omega)) hm br hB Vb.out (fun V' bw=>Nn.out V' (((o.mono (by simp)).trans' bw (by have:=al.out;simp;omega)))))
 clear aM Y8 aS Y5 Ug aU fI DR T0;go_wp2_with fail
 rw[qI.out];have Jf:Hid (TH y q.heap.size (w.heap.size+1) (q.heap.size+1) (q.heap.size+1+1) w.heap.size g p c b 0):=za ⟨a'.out,bd.out,bf.out,aT.out,a6.out⟩;have ah:=za (tN.out y 0 t R ((ae.ag DA.out (zf _)).mono (by simp)) Jf.out (MS.refl HM.out|>.below DA.out).met (by omega) (ym _));unfold C7 at ah tN;have Kz:w.heap.size+2<=q.heap.size:=al.out.1;have Nb:y.heap.size=q.heap.size+3:=al.out.2;obtain⟨cb,a7⟩:∃cb,q.heap.size=cb:=⟨_,rfl⟩
 have Y7:Hid (ae [p] w y):=za ((ae.ag DA.out (zf _)).mono (by simp));rw[a7]at Jf ah tN Vb Kz Nb⊢;clear a7 Z p0 p1 I p3 p4 p5 p6 DF B5 bC a' bf aT a6 bd al qI cg cG;obtain⟨X0,au⟩:∃X0,aY c l (b.extract 0 b.size)=X0:=⟨_,rfl⟩
 rw[au]at ah;refine ah.out.mono ?_;rintro e w6 ⟨d0,d1,d2,d3,rfl,B9,U4,wK,I5⟩;obtain⟨U,N,rfl,rfl,rfl,rfl,_⟩:=B9.open_;have ai:Hid (CuW w (w6.alloc (.cells #[.string X0.2.1.name,.string X0.2.1.x.text,.bool X0.2.1.x.list,.slice U X0.2.1.x.sub.length N] 30)) cb (w.heap.size+1) (cb+1) (cb+1+1) w.heap.size w6.heap.size y.heap.size g p c l b 0 (t+0) (R-0) (.slice none 0 0)):=za (by
  subst au;have ha:=Vb.out.a1;have ar:=wK.size;have bp:TH w6 cb (w.heap.size+1) (cb+1) (cb+1+1) w.heap.size g p c b (if(aY c l (b.extract 0 b.size)).1=0 then 0+(aY c l (b.extract 0 b.size)).2.2.1 else 0):=⟨Jf.out.cf.only wK (by simp;omega),Jf.out.me.only wK (by simp;omega),Jf.out.tx.only wK (by simp;omega),I5,Jf.out.se.only wK (by simp;omega)⟩
  have B8:=(zq w6.heap.size w6).alloc (zf _) (.cells #[.string (aY c l (b.extract 0 b.size)).2.1.name,.string (aY c l (b.extract 0 b.size)).2.1.x.text,.bool (aY c l (b.extract 0 b.size)).2.1.x.list,.slice U (aY c l (b.extract 0 b.size)).2.1.x.sub.length N] 30);have Si:=ae.ag B8 (zf _);exact⟨(Y7.out.trans' wK (by simp;omega)).trans' Si (by simp),U4.only Si (by simp),bp.only Si (by simp),_,_,_,_,af.new _ _ _,(B9.gh (S':=fun j=>y.heap.size<=j/\j≠w6.heap.size/\(Value.slice none 0 0).ownBlock≠some j) (fun j d h=>⟨h,by omega,by intro e;cases e⟩)).below B8⟩)
 obtain⟨W7,qK⟩:∃W7,w6.alloc (.cells #[.string X0.2.1.name,.string X0.2.1.x.text,.bool X0.2.1.x.list,.slice U X0.2.1.x.sub.length N] 30)=W7:=⟨_,rfl⟩
 have ar:=wK.size;have bg:W7.heap.size=w6.heap.size+1:=by rw[<-qK];simp
 rw[qK]at ai;have Gc:=za qK;obtain⟨z,hz⟩:∃z,y.heap.size=z:=⟨_,rfl⟩
 rw[hz]at ai Nb ar;have bD:=za au;have gp:Hid (w.heap.size+2<=cb/\z=cb+3):=za ⟨Kz,Nb⟩;have aK:=za ar;have av:=za bg;clear au B9 U4 wK I5 qK bg hz Jf ah Kz Nb ar DA Y7 bb;go_wp2_with fail
 rw[Gc.out];obtain⟨u,aV⟩:∃u,w6.heap.size=u:=⟨_,rfl⟩
 rw[aV]at ai aK av⊢;have HZ:Hid (w.heap.size+2<=cb/\z=cb+3/\z<=u):=za ⟨gp.out.1,gp.out.2,aK.out⟩;clear aV gp aK;go_loopw [9,11] (fun lv ev wr=>∃(acc:List Ms) (k a:Nat),dM wr (fun j=>z<=j/\j≠u) (u+1) acc lv/\ev= .int .i64 (aY c l (b.extract k b.size)).1/\k<=b.size/\acc.length<=k/\a<=65536*acc.length/\Hid (split (aY c l) b=(acc++(split (aY c l) (b.extract k b.size)).1,(split (aY c l) (b.extract k b.size)).2.1,a+(split (aY c l) (b.extract k b.size)).2.2.1,(split (aY c l) (b.extract k b.size)).2.2.2))/\Hid (CuW w wr cb (w.heap.size+1) (cb+1) (cb+1+1) w.heap.size u z g p c l b k (t+a) (R-a) lv)/\u+1<=wr.heap.size) (fun lv _ _=>b.size-lenOf lv)
 case atStart=>exact⟨[],0,0,dM.nil _ _ _,by rw[bD.out],by omega,by simp,by simp,za (by rw[Jt];simp),ai,by have:=av.out;omega⟩
 case round=>
  clear ai Gc av;obtain⟨acc,k,a,qo,rfl,hk,B8,ha,ad,aW,bM⟩:=hrel;obtain⟨A5,n5,fS,rfl,bq,bS,bN⟩:=qo.dk;have o7:=za qo;have wD:=Qb c l (b.extract k b.size);have eT:=YR.out.pos (b.extract k b.size);have oZ:Hid ((aY c l (b.extract k b.size)).1≠0->split (aY c l) b=(acc,b.extract k b.size,a+(aY c l (b.extract k b.size)).2.2.2,if(aY c l (b.extract k b.size)).1=2 then 0 else(aY c l (b.extract k b.size)).1)):=za (fun h=>by
   rw[ad.out,kD YR.out (b.extract k b.size),zj h];simp)
  have Gz:Hid ((aY c l (b.extract k b.size)).1=0->split (aY c l) b=((acc++ [(aY c l (b.extract k b.size)).2.1])++(split (aY c l) (b.extract (k+(aY c l (b.extract k b.size)).2.2.1) b.size)).1,(split (aY c l) (b.extract (k+(aY c l (b.extract k b.size)).2.2.1) b.size)).2.1,(a+(aY c l (b.extract k b.size)).2.2.2)+(split (aY c l) (b.extract (k+(aY c l (b.extract k b.size)).2.2.1) b.size)).2.2.1,(split (aY c l) (b.extract (k+(aY c l (b.extract k b.size)).2.2.1) b.size)).2.2.2)):=za (fun h=>by
   obtain⟨p1,I⟩:=YR.out.pos _ h;rw[an _ _ _ (zf _)]at I;have e:(b.extract k b.size).extract (aY c l (b.extract k b.size)).2.2.1 (b.extract k b.size).size=b.extract (k+(aY c l (b.extract k b.size)).2.2.1) b.size:=by
    rw[Cf _ _ _ _ (by rw[an _ _ _ (zf _)];omega),an _ _ _ (zf _)];congr 1;omega
   rw[ad.out,mh YR.out h,e];simp[VF.cons,yw])
  have Y9:Hid ((aY c l (b.extract k b.size)).1=2->iq c (b.extract k b.size) (gB c (b.extract k b.size))):=za (fun h=>iq.of hr (jw.1 h));rw[an _ _ _ (zf _)]at eT;obtain⟨uo,um,ux,d0,d1,d2,d3,ut,us⟩:=aW.out;clear ad aW qo;obtain⟨r,Vc⟩:∃r,b.extract k b.size=r:=⟨_,rfl⟩
  rw[Vc]at wD eT oZ Gz Y9 um ux us⊢;have ao:=za Vc;clear Vc;obtain⟨X,hX⟩:∃X,aY c l r=X:=⟨_,rfl⟩
  rw[hX]at wD eT oZ Gz Y9 um ux us⊢;clear hX;obtain⟨y5,X2,y4,m⟩:=X;simp only at wD eT oZ Gz Y9 um ux us⊢;obtain⟨Ay,Jr,rfl,rfl,rfl,rfl,_⟩:=us.open_;have bT:lenOf (.slice A5 n5 fS)=n5:=rfl;by_cases h1:y5=0
  ·subst h1;obtain⟨p1,I⟩:=eT rfl;have Jj:=za (Gz.out rfl);rw[zl rfl]at ux;obtain⟨v0,v1,v2,v3,_⟩:=aO ut;have Ue:=(zq wr.heap.size wr).alloc (zf _) (.cells #[.string X2.name,.string X2.x.text,.bool X2.x.list,.slice Ay X2.x.sub.length Jr] 30);have RF:=za (o7.out.below Ue);have bc:=za ((us.below Ue).gh (S':=fun j=>(z<=j/\j≠u)/\(Value.slice A5 n5 fS).ownBlock≠some j) (fun j _ h=>⟨⟨h.1,h.2.1⟩,h.2.2⟩));have RK:=ae.ag Ue (zf _);have Y3:=za (uo.trans' RK (by simp));have Z':=za (um.only RK (by simp));have s:=za (ux.only RK (by simp));have a1:=za (ut.only RK (by simp));have RC:=za (RF.out.ge);clear uo um ux ut us Ue RK Gz oZ Y9 o7;go_wp2_with (
    refine pK (by rfl) (.tmp 40) (.tmp 42) (by rfl) (fun j=>z<=j/\j≠u) (u+1) acc (by rfl) RF.out X2 bc.out wr.heap.size (by rfl) (by simp) (by simp) (by simp) (by simp) (by omega) (by simp;omega) ?_;intro g' n' aj w8 RU aN fQ bU)
   have H:=ae.gz fQ;have C:∀j,j∈(Value.slice A5 n5 fS).ownBlock.toList->u+1<=j:=fun j d=>(RC.out j (dv.1 d)).1
   obtain⟨z1,z2,z3⟩:=HZ.out;have aX:Hid (ae [p] w w8):=za (Y3.out.trans' H (fun j d=> .inr (by have:=C j d;omega)));have bB:=za (Z'.out.only H (by intro j e d;injection e with e;have:=C j d;omega));have RB:=za (s.out.only H ⟨fun d=>by have:=C _ d;omega,fun d=>by have:=C _ d;omega,fun d=>by have:=C _ d;omega,fun d=>by have:=C _ d;omega,fun d=>by have:=C _ d;omega⟩);have bk:=za (a1.out.only H (fun d=>by have:=C _ d;omega));have R4:wr.heap.size+1<=w8.heap.size:=by have:=fQ.size;simpa using this
   have bh:=za aN;have Cc:=za aN.ge;have eG:k+y4<=b.size:=by omega
   have aF:=za (tN.out w8 (k+y4) (t+a+m) (R-a-m) aX.out RB.out bB.out (by omega) eG);obtain⟨ab,hY⟩:∃ab,aY c l (b.extract (k+y4) b.size)=ab:=⟨_,rfl⟩
   rw[hY]at aF;have ba:=za hY;have aZ:=za (And.intro z1 (And.intro z2 z3));clear H C fQ aN hY Y3 Z' s a1 RF bc RC z1 z2 z3;refine aF.out.mono ?_;rintro e w9 ⟨d0,d1,d2,d3,rfl,B9,U4,S,I5⟩;obtain⟨Az,bt,rfl,rfl,rfl,rfl,_⟩:=B9.open_;have bO:=S.size;have az:=bk.out.only S (by have:=aZ.out;simp;omega);obtain⟨t0,t1,t2,t3,KV,Np,Sb,bL⟩:=aO az;have bn:=za az;have YW:=za B9;have bm:=za U4;have bG:=za S;have bu:=za I5;clear B9 U4 S I5 az aF;go_wp2;go_roundw
   case rel=>
    have S:=bG.out;have AT:=eu w9 u (.string ab.2.1.name) (.string ab.2.1.x.text) (.bool ab.2.1.x.list) (.slice Az ab.2.1.x.sub.length bt);have ko:∀j,(Value.slice (some ⟨g',0,none⟩) n' aj).ownBlock=some j->u+1<=j/\j<w8.heap.size:=fun j e=>Cc.out j e
    obtain⟨z1,z2,z3⟩:=aZ.out;have ha:=Vb.out.a1;refine⟨acc++ [X2],k+y4,a+m,(bh.out.only S (by simp;omega) (fun j d e=>by have:=ko j e;simp at d;omega)).only AT (by simp) (fun j d e=>by have:=ko j e;simp at d;omega),by rw[ba.out],eG,by rw[zp];simp;omega,by rw[zp];simp;omega,by rw[show k+y4=k+y4 from rfl];exact Jj,za ?_,by have:=AT.size;omega⟩;have e1:t+(a+m)=t+a+m:=by omega
    have e2:R-(a+m)=R-a-m:=by omega
    rw[e1,e2];have hY:=ba.out;subst hY;exact⟨(aX.out.trans' S (by simp;omega)).trans' AT (by simp;omega),bm.out.only AT (by intro j e;injection e with e;simp;omega),
     ⟨(RB.out.cf.only S (by simp;omega)).only AT (by simp;omega),(RB.out.me.only S (by simp;omega)).only AT (by simp;omega),(RB.out.tx.only S (by simp;omega)).only AT (by simp;omega),bu.out.only AT (by simp;omega),(RB.out.se.only S (by simp;omega)).only AT (by simp;omega)⟩,
     _,_,_,_,FR bn.out _ _ _ _,YW.out.only AT (by simp;omega) (fun j _ d=>by have d:w8.heap.size<=j:=d;exact⟨by omega,by omega,fun e=>by have:=ko j e;omega⟩)⟩
   case measure=>
    have q1:=RU.out;have q2:=bq.out;simp[lenOf];omega
  have B:=oZ.out h1;rw[zj h1]at ux;have Cd:Hid (eX wr g D (.slice A b.size cap) F 0 laid J K):=za (HS.out.only uo (by simp;omega));have Uc:Hid (bJ wr hi 5 (.slice A b.size cap) b.data.toList):=za (nS.out.pF uo (fun j e=>by have:=NT.out.2;rw[e]at this;simpa using Z3 (fun h=>this (by rw[h]))));have Y3:=za uo;have Z':=za um;have s:=za ux;have pe:(k:Int)<=b.size:=by omega
  have UL:r.size<=100000:=by rw[<-ao.out,an _ _ _ (zf _)];omega
  have bQ:=ao.out;have bR:w.heap.size<cb+1+1:=by have:=HZ.out.1;omega
  clear uo um ux ut us oZ Gz eT;by_cases W:y5=2
  ·subst W;rw[zl rfl]at B;have B:=za B;have bF:=za (Y9.out rfl);have Ge:=za (fun V=>IJ c r V hr (by omega));unfold aR.val at Ge;clear Y9;go_wp2_with fail
   refine mR 8 (by kernel_rfl) (by kernel_rfl) ?_;simp only[zR,yB,yf,zQ];refine aD (.pointer (some ⟨g,0,none⟩)) (by rfl) (fun V o=>by have Z:=(s.out.se.ah o s.out.se.lt).cell 0;go_simp) ?_;simp only[Act.put,zb,ze,zg];refine aD (.agg #[.int .i64 c.fm,.int .u32 c.mg,.int .i64 c.fr,.int .i64 c.un,.int .i64 c.de,.int .i64 c.it]) (by rfl) (fun V o=>by obtain⟨q0,q1,q2,q3,q4,q5⟩:=fB (s.out.cf.ah o s.out.cf.lt);go_simp) ?_;simp only[Act.put,zb,ze,zg];refine aD (.string b) (by rfl) (fun V o=>by have Z:=(s.out.tx.ah o s.out.tx.lt).cell 0;go_simp) ?_;simp only[Act.put,zb,ze,zg];refine aD (.int .i64 k) (by rfl) (fun V o=>by have Z:=(s.out.at_.ah o s.out.at_.lt).cell 0;go_simp) ?_;simp only[Act.put,zb,ze,zg];refine aD (.string r) (by rfl) (fun _ _=>by first|rfl|go_simp) ?_;simp only[Act.put,zb,ze,zg];refine ep 51 _ _ (by rfl) (fun _=>by first|rfl|go_simp) (fun V _=>Ge.out V) ?_;simp only[Act.put,zb,ze,zg];refine aD (.pointer (some ⟨g,0,none⟩)) (by rfl) (fun _ _=>by first|rfl|go_simp) ?_;simp only[Act.put,zb,ze,zg];refine aD (.pointer (some ⟨g,2,none⟩)) (by rfl) (fun _ _=>by first|rfl|go_simp) ?_;simp only[Act.put,zb,ze,zg];refine xS ?_;intro V o;have Ud:eX V g D (.slice A b.size cap) F 0 laid J K:=Cd.out.ah o Cd.out.lt;obtain⟨_,_,I,p3,_,_,_⟩:=eX.parts Ud;obtain⟨_,f2,f3,_,_,_⟩:=eX.CI Ud;have aI:g<V.heap.size:=yg Cd.out.lt o.size;go_upto_region 15 with fail
   obtain⟨n,O⟩:∃n,V.setCell ⟨g,2,none⟩ (.int .i64 (gB c r:Nat))=n:=⟨_,rfl⟩
   rw[O];have ak:ae [p,g] w V:=(Y3.out.mono (by simp)).trans' (ae.ag o (zf _)) (by simp);have Gk:Hid (ae (p::g::(Value.slice A b.size cap).ownBlock.toList) w n):=za (by rw[<-O];exact(ak.setCell (.inl (by simp)) _).mono (by intro i hi;simp at hi⊢;rcases hi with h|h<;>simp[h]));have G:ae [g] V n:=by rw[<-O];exact(ae.refl _ _).setCell (.inl (by simp)) _
   have NB:Hid (bJ n hi 5 (.slice A b.size cap) b.data.toList):=za ((Uc.out.below o).pF G (by intro j e h;simp at h;subst h;exact NT.out.1 e));have aB:Hid (Met n (some p) (t+a+m) (R-a-m)):=za ((Z'.out.only (ae.ag o (zf _)) (by simp)).only G (by intro j e;injection e with e;subst e;simpa using Q4));have bo:g<w.heap.size:=wJ;have ag:Hid (dM n (fun j=>z<=j/\j≠u) (u+1) acc (.slice A5 n5 fS)):=za ((o7.out.below o).only G (by have:=HZ.out;simp;omega) (fun j d e=>by have:=(o7.out.ge j e).1;have:=HZ.out;simp at d;omega));have RE:Hid (af n w.heap.size 37 #[.pointer (some ⟨g,0,none⟩)]):=za ((s.out.se.ah o s.out.se.lt).only G (by simp;omega));have RH:Hid (af n (cb+1+1) 3 #[.int .i64 k]):=za ((s.out.at_.ah o s.out.at_.lt).only G (by have:=HZ.out;simp;omega));have Jn:Hid (w.heap.size<=n.heap.size):=za Gk.out.size;clear ak G I p3 f2 f3 aI;have ji:Hid (eX n g D (.slice A b.size cap) (gB c r) 0 laid J K):=za (by rw[<-O];exact eX.SS Ud _);clear O o Ud Cd Uc Y3 Z' s o7;have Y':Hid ((split (aY c l) b).2.2.2=0->iq c (split (aY c l) b).2.1 (gB c r)):=za (fun _=>by rw[B.out];exact bF.out);have Na:g<n.heap.size:=ji.out.lt;have QP:=za (FH hi (.slice A b.size cap) b.data.toList k n.drew (NB.out.below (zq _ _).drew) (by have:=Jn.out;show hi<=n.heap.size;omega) (by rw[aa];omega) (by rw[aa];omega));have ay:Hid (b.data.toList.drop k=r.data.toList):=za (by rw[<-ao.out,aq,dh]);have Du:Hid (∀j,(Value.slice A b.size cap).ownBlock=some j->j<w.heap.size):=za (fun j e=>(nS.out.ge j e).2.1)
   have hHeld:(fun V:World=>V.cell? ⟨w.heap.size,0,none⟩=some (.pointer (some ⟨g,0,none⟩))/\V.cell? ⟨g,1,none⟩=some (.slice A b.size cap)/\V.cell? ⟨cb+1+1,0,none⟩=some (.int .i64 k)) n.drew:=⟨RE.out.cell 0,(eX.parts ji.out).2.1,RH.out.cell 0⟩
   refine aA 9 (fun V=>V.cell? ⟨w.heap.size,0,none⟩=some (.pointer (some ⟨g,0,none⟩))/\V.cell? ⟨g,1,none⟩=some (.slice A b.size cap)/\V.cell? ⟨cb+1+1,0,none⟩=some (.int .i64 k)) (by kernel_rfl) (by kernel_rfl) ?_;refine GT.jy [0,1,2,3,4,5] hHeld (fun _ _ _ _ _ h=>h) (by kernel_rfl) ?_;repeat(refine .c rfl rfl (fun V o=>by go_simp<;>with_reducible rfl) ?_;simp only[Act.put,zb,ze,zg])
   refine .nil ?_;refine GT.fw 6 (fun ax hK=> ?_) rfl (by kernel_rfl);go_simp;refine QP.out.mono ?_;rintro e x ⟨v',rfl,bP,M⟩;rw[ay.out]at bP;have RA:eX n.drew g D (.slice A b.size cap) (gB c r) 0 laid J K:=af.drew ji.out;have L:eX x g D (.slice A b.size cap) (gB c r) 0 laid J K:=af.Sr RA M (NT.out.1);have RD:af x w.heap.size 37 #[.pointer (some ⟨g,0,none⟩)]:=af.Sr RE.out.drew M (fun e=>by have:=Du.out _ e;omega);have RL:af x (cb+1+1) 3 #[.int .i64 k]:=af.Sr RH.out.drew M (fun e=>by have:=Du.out _ e;omega);obtain⟨_,aw,_,_,_,_,_⟩:=eX.parts L;obtain⟨bH,_,_,_,_,_⟩:=eX.CI L;have bx:g<x.heap.size:=L.lt;obtain⟨U,n6,N,rfl,bE,bI,bs⟩:=bP.dk;have dT:=za L;have RI:=za M;have AS:=za bP;clear L RA M bP QP;go_wp2_with fail
   refine hK.out _ _ ⟨RD.cell 0,aw,RL.cell 0⟩ (fun hHeld=> ?_);clear hK ax;try simp only[Act.put,zb,ze,zg]
   refine GT.jy [7,8] hHeld (fun _ _ _ _ _ h=>h) (by kernel_rfl) ?_;repeat(refine .c rfl rfl (fun V o=>by go_simp<;>with_reducible rfl) ?_;simp only[Act.put,zb,ze,zg])
   refine .nil ?_;refine GT.oL 9 ?_ rfl (by kernel_rfl);go_simp;clear hHeld RD RL;go_wp2;go_ret;have aL:ae [] n n.drew:=ae.ag (zq _ _).drew (zf _);have H:ae (Value.slice A b.size cap).ownBlock.toList n x:=(aL.mono (by simp)).trans RI.out.only;have Y2:ae (p::g::(Value.slice A b.size cap).ownBlock.toList) w x:=Gk.out.trans' H (fun i hi=> .inl (by simp at hi⊢;exact .inr (.inr hi)));have RG:ae [g] x (x.setCell ⟨g,1,none⟩ (.slice U n6 N)):=(ae.refl [g] x).setCell (.inl (by simp)) _;have Nb:=HZ.out;refine⟨.slice A5 n5 fS,.slice U n6 N,(gB c r),rfl, ?_, ?_, ?_, ?_, ?_, ?_,Y'.out⟩
   ·rw[B.out];have C:∀j,j∈(Value.slice A b.size cap).ownBlock.toList->j<w.heap.size:=fun j d=>Du.out j (dv.1 d)
    have ko:=ag.out.ge;have aG:∀j,j<n.heap.size->(z<=j/\j≠u)->w.heap.size<=j/\(Value.slice U n6 N).ownBlock≠some j:=fun j d hz=>⟨by omega,fun e=>by
     rcases RI.out.own with e2|⟨j',e2,Y⟩
     ·have:=Du.out j (by rw[<-e2];exact e);omega
     rw[e2]at e;injection e with e;have Y:n.heap.size<=j':=Y;omega⟩
    exact((ag.out.gh aG (show w.heap.size<=u+1 by omega)).only H (fun j d hS=>by have:=C j d;have:=hS.1;omega) (fun j d e=>by have:=C j d;have:=ko j e;omega)).only RG (fun j d hS=>by simp at d;have:=hS.1;omega) (fun j d e=>by have:=ko j e;simp at d;omega)
   ·rw[B.out];exact eX.Hx dT.out _
   ·rw[B.out];refine AS.out.ah (fun j h1 W=>zY _ _ _ _ ?_);rintro rfl;exact(AS.out.dX dT.out (by decide)) W
   ·rw[B.out];have h1:=aB.out.only H (by intro j e;injection e with e;subst e;exact fun h=>NT.out.2 (dv.1 h));have W:=h1.only RG (by intro j e;injection e with e;subst e;simpa using Q4);simpa only[yw,Nat.sub_sub]using W
   ·exact Y2.setCell (.inl (by simp)) _
   intro j d;rcases RI.out.own with e|⟨j',e,Y⟩
   ·exact .inl (by rw[<-e];exact d)
   rw[e]at d;injection d with d;exact .inr (by have:=Jn.out;have Y:n.heap.size<=j':=Y;omega)
  rw[zj W]at B;have B:=za B;have Vo:(y5==2)=false:=zr.2 W;obtain⟨V,aE⟩:∃V,wr=V:=⟨_,rfl⟩
  have o:Below wr.heap.size wr V:=by rw[<-aE];exact zq _ _
  have Z:V.cell? ⟨w.heap.size,0,none⟩=some (.pointer (some ⟨g,0,none⟩)):=(s.out.se.ah o s.out.se.lt).cell 0;rw[aE];clear aE Y9;have Ud:eX V g D (.slice A b.size cap) F 0 laid J K:=Cd.out.ah o Cd.out.lt;obtain⟨_,_,I,p3,_,_,_⟩:=eX.parts Ud;obtain⟨_,f2,f3,_,_,_⟩:=eX.CI Ud;have aI:g<V.heap.size:=yg Cd.out.lt o.size;go_upto_region 15 with fail
  obtain⟨n,O⟩:∃n,V.setCell ⟨g,3,none⟩ (.int .i64 y5)=n:=⟨_,rfl⟩
  rw[O];have ak:ae [p,g] w V:=(Y3.out.mono (by simp)).trans' (ae.ag o (zf _)) (by simp);have Gk:Hid (ae (p::g::(Value.slice A b.size cap).ownBlock.toList) w n):=za (by rw[<-O];exact(ak.setCell (.inl (by simp)) _).mono (by intro i hi;simp at hi⊢;rcases hi with h|h<;>simp[h]));have G:ae [g] V n:=by rw[<-O];exact(ae.refl _ _).setCell (.inl (by simp)) _
  have NB:Hid (bJ n hi 5 (.slice A b.size cap) b.data.toList):=za ((Uc.out.below o).pF G (by intro j e h;simp at h;subst h;exact NT.out.1 e));have aB:Hid (Met n (some p) (t+a+m) (R-a-m)):=za ((Z'.out.only (ae.ag o (zf _)) (by simp)).only G (by intro j e;injection e with e;subst e;simpa using Q4));have bo:g<w.heap.size:=wJ;have ag:Hid (dM n (fun j=>z<=j/\j≠u) (u+1) acc (.slice A5 n5 fS)):=za ((o7.out.below o).only G (by have:=HZ.out;simp;omega) (fun j d e=>by have:=(o7.out.ge j e).1;have:=HZ.out;simp at d;omega));have RE:Hid (af n w.heap.size 37 #[.pointer (some ⟨g,0,none⟩)]):=za ((s.out.se.ah o s.out.se.lt).only G (by simp;omega));have RH:Hid (af n (cb+1+1) 3 #[.int .i64 k]):=za ((s.out.at_.ah o s.out.at_.lt).only G (by have:=HZ.out;simp;omega));have Jn:Hid (w.heap.size<=n.heap.size):=za Gk.out.size;clear ak G I p3 f2 f3 aI;have ji:Hid (eX n g D (.slice A b.size cap) F y5 laid J K):=za (by rw[<-O];exact eX.OX Ud _);clear O o Ud Cd Uc Y3 Z' s o7 Z;have Y':Hid ((split (aY c l) b).2.2.2=0->iq c (split (aY c l) b).2.1 F):=za (fun h=>by rw[B.out]at h;exact absurd h h1);have Na:g<n.heap.size:=ji.out.lt;have QP:=za (FH hi (.slice A b.size cap) b.data.toList k n.drew (NB.out.below (zq _ _).drew) (by have:=Jn.out;show hi<=n.heap.size;omega) (by rw[aa];omega) (by rw[aa];omega));have ay:Hid (b.data.toList.drop k=r.data.toList):=za (by rw[<-ao.out,aq,dh]);have Du:Hid (∀j,(Value.slice A b.size cap).ownBlock=some j->j<w.heap.size):=za (fun j e=>(nS.out.ge j e).2.1)
  have hHeld:(fun V:World=>V.cell? ⟨w.heap.size,0,none⟩=some (.pointer (some ⟨g,0,none⟩))/\V.cell? ⟨g,1,none⟩=some (.slice A b.size cap)/\V.cell? ⟨cb+1+1,0,none⟩=some (.int .i64 k)) n.drew:=⟨RE.out.cell 0,(eX.parts ji.out).2.1,RH.out.cell 0⟩
  refine aA 9 (fun V=>V.cell? ⟨w.heap.size,0,none⟩=some (.pointer (some ⟨g,0,none⟩))/\V.cell? ⟨g,1,none⟩=some (.slice A b.size cap)/\V.cell? ⟨cb+1+1,0,none⟩=some (.int .i64 k)) (by kernel_rfl) (by kernel_rfl) ?_;refine GT.jy [0,1,2,3,4,5] hHeld (fun _ _ _ _ _ h=>h) (by kernel_rfl) ?_;repeat(refine .c rfl rfl (fun V o=>by go_simp<;>with_reducible rfl) ?_;simp only[Act.put,zb,ze,zg])
  refine .nil ?_;refine GT.fw 6 (fun ax hK=> ?_) rfl (by kernel_rfl);go_simp;refine QP.out.mono ?_;rintro e x ⟨v',rfl,bP,M⟩;rw[ay.out]at bP;have RA:eX n.drew g D (.slice A b.size cap) F y5 laid J K:=af.drew ji.out;have L:eX x g D (.slice A b.size cap) F y5 laid J K:=af.Sr RA M (NT.out.1);have RD:af x w.heap.size 37 #[.pointer (some ⟨g,0,none⟩)]:=af.Sr RE.out.drew M (fun e=>by have:=Du.out _ e;omega);have RL:af x (cb+1+1) 3 #[.int .i64 k]:=af.Sr RH.out.drew M (fun e=>by have:=Du.out _ e;omega);obtain⟨_,aw,_,_,_,_,_⟩:=eX.parts L;obtain⟨bH,_,_,_,_,_⟩:=eX.CI L;have bx:g<x.heap.size:=L.lt;obtain⟨U,n6,N,rfl,bE,bI,bs⟩:=bP.dk;have dT:=za L;have RI:=za M;have AS:=za bP;clear L RA M bP QP;go_wp2_with fail
  refine hK.out _ _ ⟨RD.cell 0,aw,RL.cell 0⟩ (fun hHeld=> ?_);clear hK ax;try simp only[Act.put,zb,ze,zg]
  refine GT.jy [7,8] hHeld (fun _ _ _ _ _ h=>h) (by kernel_rfl) ?_;repeat(refine .c rfl rfl (fun V o=>by go_simp<;>with_reducible rfl) ?_;simp only[Act.put,zb,ze,zg])
  refine .nil ?_;refine GT.oL 9 ?_ rfl (by kernel_rfl);go_simp;clear hHeld RD RL;go_wp2;go_ret;have aL:ae [] n n.drew:=ae.ag (zq _ _).drew (zf _);have H:ae (Value.slice A b.size cap).ownBlock.toList n x:=(aL.mono (by simp)).trans RI.out.only;have Y2:ae (p::g::(Value.slice A b.size cap).ownBlock.toList) w x:=Gk.out.trans' H (fun i hi=> .inl (by simp at hi⊢;exact .inr (.inr hi)));have RG:ae [g] x (x.setCell ⟨g,1,none⟩ (.slice U n6 N)):=(ae.refl [g] x).setCell (.inl (by simp)) _;have Nb:=HZ.out;refine⟨.slice A5 n5 fS,.slice U n6 N,F,rfl, ?_, ?_, ?_, ?_, ?_, ?_,Y'.out⟩
  ·rw[B.out];have C:∀j,j∈(Value.slice A b.size cap).ownBlock.toList->j<w.heap.size:=fun j d=>Du.out j (dv.1 d)
   have ko:=ag.out.ge;have aG:∀j,j<n.heap.size->(z<=j/\j≠u)->w.heap.size<=j/\(Value.slice U n6 N).ownBlock≠some j:=fun j d hz=>⟨by omega,fun e=>by
    rcases RI.out.own with e2|⟨j',e2,Y⟩
    ·have:=Du.out j (by rw[<-e2];exact e);omega
    rw[e2]at e;injection e with e;have Y:n.heap.size<=j':=Y;omega⟩
   exact((ag.out.gh aG (show w.heap.size<=u+1 by omega)).only H (fun j d hS=>by have:=C j d;have:=hS.1;omega) (fun j d e=>by have:=C j d;have:=ko j e;omega)).only RG (fun j d hS=>by simp at d;have:=hS.1;omega) (fun j d e=>by have:=ko j e;simp at d;omega)
  ·rw[B.out];exact eX.Hx dT.out _
  ·rw[B.out];refine AS.out.ah (fun j h1 W=>zY _ _ _ _ ?_);rintro rfl;exact(AS.out.dX dT.out (by decide)) W
  ·rw[B.out];have h1:=aB.out.only H (by intro j e;injection e with e;subst e;exact fun h=>NT.out.2 (dv.1 h));have W:=h1.only RG (by intro j e;injection e with e;subst e;simpa using Q4);simpa only[yw,Nat.sub_sub]using W
  ·exact Y2.setCell (.inl (by simp)) _
  intro j d;rcases RI.out.own with e|⟨j',e,Y⟩
  ·exact .inl (by rw[<-e];exact d)
  rw[e]at d;injection d with d;exact .inr (by have:=Jn.out;have Y:n.heap.size<=j':=Y;omega)
theorem Ap (m hi g:Nat)(o:Value)(c:aR)(l:List bA)(x:jb)(i:Nat)(s:ByteArray)(w:World)(h:dt w m hi g o c l x i)(u:x.fault≠0):
 Calls prog 12 #[.pointer (some ⟨g,0,none⟩),.string s] w fun e w'=>e= .returned (.tuple #[.slice none 0 0,.int .i64 x.fault])/\dt w' m hi g o c l {x with laid:=0} i/\ae [g] w w':=by
 obtain⟨E,D,B,rows,G,z,q,b,r⟩:=h.reg;have d:=h.buf;have K:=b.lt;have O:(x.fault !=0)=true:=yQ.2 u;have S:=za b;have A:=d.dX b (by decide);have n:ae [g] w (w.setCell ⟨g,4,none⟩ (.int .i64 0)):=(ae.refl [g] w).setCell (p:=⟨g,4,none⟩) (.inl (by simp)) _;have F:=h.DU;have C:Hid (∀k,dt ((w.setCell ⟨g,4,none⟩ (.int .i64 0)).drewN k) m hi g o c l {x with laid:=0} i):=za (fun k=>⟨h.lohi,h.DU,⟨E,D,B,rows,G,(z.only n (by simp;omega)).below (Below.bB (zq _ _) k),q,(eX.CJ b 0).drewN k,r⟩,(d.pF n (by intro j e y;simp at y;subst y;exact A e)).below (Below.bB (zq _ _) k)⟩);obtain⟨H,J,N,M,R,L,I⟩:=b.parts;obtain⟨_,_,_,f9,_,_⟩:=b.CI;clear b d r A u z q n F h;go_enter func12,ntmps12
 go_wp2_with fail
 go_quiet (fail)
 go_wp2;refine zo (v:= .tuple #[.slice none 0 0,.int .i64 x.fault]) (by simp[results,results12,go_sem]) rfl ?_;exact⟨rfl,C.out _,ae.drewN ((ae.refl _ _).setCell (.inl (by simp)) _) _⟩
theorem C8 (D hi g:Nat)(bv:Value)(c:aR)(l:List bA)(x:jb)(B:Nat)(s:ByteArray)(w:World)(hr:c.right=true)(hc:c.ok)(h:dt w D hi g bv c l x B)(hL:Laid w)(iM:bj w)(B5:1<D)(BV:0<D)(h0:x.fault=0)(hs:x.buf.size+s.size<=100000)(ht:x.told<=1000000000):
 Calls prog 12 #[.pointer (some ⟨g,0,none⟩),.string s] w fun e w'=>∃rv G,e= .returned (.tuple #[rv,.int .i64 (DW (aY c l) x s).2.2])/\dM w' (fun j=>w.heap.size<=j/\G.ownBlock≠some j) w.heap.size (DW (aY c l) x s).2.1 rv/\dt w' D hi g G c l (DW (aY c l) x s).1 B/\ae (oC g bv) w w'/\(∀k,G.ownBlock=some k->bv.ownBlock=some k\/w.heap.size<=k):=by
 obtain⟨y,gn,gi,rows,I,hM,qq,C,tM⟩:=h.reg;have E:=h.buf;have ko:=h.DU;have aI:=h.lohi;clear h;have Rg:hi<=w.heap.size:=by have:=C.lt;omega
 obtain⟨b,fl,ld,q⟩:=x;simp only at h0 C E tM hs ht;subst h0;rw[kE rfl];simp only;have ai:=ON c l (b++s);rw[bW]at ai;have wD:=VT c l (b++s);rw[bW]at wD;obtain⟨X,hX⟩:∃X,split (aY c l) (b++s)=X:=⟨_,rfl⟩
 rw[hX]at ai wD⊢;obtain⟨ml,tl,m,er⟩:=X;simp only at ai wD⊢;have HX:=za hX;clear hX;have wJ:=C.lt;have cd:=E.dX C (by decide);have hf:=E.form;rw[aa]at hf;obtain⟨A,cap,rfl,oU,lI⟩:=hf;obtain⟨p,L⟩:∃p,w.setCell ⟨g,4,none⟩ (.int .i64 0)=p:=⟨_,rfl⟩
 have tP:ae [g] w p:=by rw[<-L];exact(ae.refl _ _).setCell (.inl (by simp)) _
 have cg:p.heap.size=w.heap.size:=by rw[<-L];simp[World.setCell]
 have cq:Hid (eX p g y (.slice A b.size cap) I 0 0 q B):=za (by rw[<-L];exact eX.CJ C 0);have aB:Hid (bJ p hi 5 (.slice A b.size cap) b.data.toList):=za (E.pF tP (by intro j e d;simp at d;subst d;exact cd e));have aq:=za tP;have UW:=za (tM rfl);have nS:=za E;have RC:Hid (∀k,(Value.slice A b.size cap).ownBlock=some k->k<w.heap.size):=za (fun k e=>(E.ge k e).2.1);have NT:=za cd;obtain⟨p0,p6,p7,p8,p9,az,aP⟩:=C.parts;obtain⟨_,_,_,f9,_,_⟩:=C.CI;obtain⟨i0,aM,eA,aU,cG⟩:=yT uz;have av:=za (Ib 9223372036854775807 p);have iC:=za L;have GH:=za hM;have B0:=za qq;have ax:=za (And.intro hL iM);have aW:D<=g:=by omega
 clear C E tM cd tP L hM qq hL iM;go_enter func12,ntmps12
 go_wp2_with fail
 rw[iC.out];clear p0 p6 p7 p8 p9 az aP f9;refine av.out.mono ?_;rintro e K ⟨rfl,tL⟩;have kx:Below p.heap.size p K:=by rw[tL];exact(zq _ _).alloc (zf _) _
 have B7:s0 K p.heap.size 9223372036854775807 0 0 0:=by rw[tL];exact af.new _ _ _
 obtain⟨n,Q4⟩:∃n,p.heap.size=n:=⟨_,rfl⟩
 have HT:=za (pS n 9223372036854775807 0 0 0 s.size K (by rw[<-Q4];exact B7) (by omega) (by omega) (by omega));have dS:Hid (eX K g y (.slice A b.size cap) I 0 0 q B):=za (cq.out.ah kx cq.out.lt);have ao:=za (aB.out.below kx);have Qy:Hid (ae [g] w K):=za (aq.out.trans' (ae.ag kx (zf _)) (by simp));have ag:n≠g:=by omega
 have aS:w.heap.size<=n:=by omega
 have oW:n<K.heap.size:=by have:=B7.lt;omega
 rw[Q4];clear tL B7 kx cq aB aq av Q4 cg iC;go_wp2_with fail
 refine HT.out.mono ?_;rintro e w3 ⟨rfl,ad,DN⟩;simp only[zT]at ad;have U:Hid (eX w3 g y (.slice A b.size cap) I 0 0 q B):=za (dS.out.only DN (by simpa using Z3 ag));have NB:=za (ao.out.pF DN (by intro j e d;simp at d;subst d;have:=RC.out j e;omega));have Gk:Hid (ae [g] w w3):=za (Qy.out.trans' DN (by simp;omega));have aw:=za ad;obtain⟨_,p6,_,_,_,_,_⟩:=U.out.parts;have bS:hi<=w3.heap.size:=by have:=Gk.out.size;omega
 have KG:w.heap.size<=w3.heap.size:=Gk.out.size;have Na:g<w3.heap.size:=U.out.lt;clear DN ad dS ao Qy HT;go_wp2_with (
  at_builtin
  refine cl (by rfl) (.tmp 31) (.tmp 32) 31 9 (by rfl) hi 5 i0 zx aM eA aU cG (by rfl) NB.out _ s.data.toList (by rfl) (iS zO w3 s) bS (by rw[aa,aa];omega) ?_;intro z r u F bP Z;have J:Hid (eX F g y (.slice A b.size cap) I 0 0 q B):=za (af.Sr U.out Z NT.out);have aF:s0 F n 9223372036854775807 s.size s.size (max 0 s.size):=af.Sr aw.out Z (fun e=>by have:=RC.out _ e;omega);have Sd:=za aF;have RI:=za Z;have AS:Hid (bJ F hi 5 (.slice z r u) (b++s).data.toList):=za (by rw[bn];exact bP);obtain⟨_,aT,_,_,_,_,_⟩:=J.out.parts;obtain⟨aO,_,_,_,_,_⟩:=J.out.CI;have a6:g<F.heap.size:=J.out.lt;clear bP Z aF)
 obtain⟨o,N⟩:∃o,F.setCell ⟨g,1,none⟩ (.slice z r u)=o:=⟨_,rfl⟩
 rw[N];have DT:ae [g] F o:=by rw[<-N];exact(ae.refl _ _).setCell (.inl (by simp)) _
 have gJ:Hid (eX o g y (.slice z r u) I 0 0 q B):=za (by rw[<-N];exact eX.Hx J.out _);have H:Hid ((Value.slice z r u).ownBlock≠some g/\(Value.slice z r u).ownBlock≠some n/\∀k,(Value.slice z r u).ownBlock=some k->(Value.slice A b.size cap).ownBlock=some k\/w.heap.size<=k):=za ⟨AS.out.dX J.out (by decide),AS.out.dX Sd.out (by decide),fun k e=>by
  rcases RI.out.own with h|⟨j,h,d⟩
  ·exact .inl (by rw[<-h];exact e)
  rw[h]at e;injection e with e;exact .inr (by omega)⟩
 have al:Hid (bJ o hi 5 (.slice z r u) (b++s).data.toList):=za (AS.out.pF DT (by intro j e d;simp at d;subst d;exact H.out.1 e));have K5:s0 o n 9223372036854775807 s.size s.size (max 0 s.size):=af.only Sd.out DT (by simpa using ag);have Y7:Hid (ae (oC g (.slice A b.size cap)) w o):=za (((Gk.out.mono (by simp[oC])).trans' RI.out.only (fun i hi=> .inl (jt.2 (.inr (dv.1 hi))))).trans' DT (by simp[oC]));have DR:F.heap.size=o.heap.size:=by rw[<-N];simp[World.setCell]
 have aV:w.heap.size<=o.heap.size:=Y7.out.size;have aA:hi<=n:=by omega
 have ab:Hid (∀k,(Value.slice A b.size cap).ownBlock=some k->hi<=k):=za (fun k e=>by have:=nS.out.ge k e;omega);have ak:Hid (lO o D hi y gn gi c rows):=za (GH.out.only Y7.out (fun k M=> .inr ((jt.1 M).elim (fun h=>by omega) (fun h=>ab.out k h))));have Nn:Hid (∀V,ae (n::g::(Value.slice z r u).ownBlock.toList) o V->Laid V/\bj V):=za (fun V hV=>by
  have mc:ae (n::g::(Value.slice A b.size cap).ownBlock.toList) w V:=(Y7.out.mono (by intro i hi;rcases jt.1 hi with h|h<;>simp[h])).trans' hV (by
   intro i hi;simp only[xA,dv]at hi⊢;rcases hi with rfl|rfl|e
   ·exact .inl (.inl rfl)
   ·exact .inl (.inr (.inl rfl))
   rcases H.out.2.2 i e with h|h
   ·exact .inl (.inr (.inr h))
   exact .inr h)
  have hn:∀k,k<D->k∉(n::g::(Value.slice A b.size cap).ownBlock.toList):=fun k M hm=>by
   simp only[xA,dv]at hm;rcases hm with rfl|rfl|e
   ·omega
   ·omega
   have:=ab.out k e;omega
  exact⟨ax.out.1.only mc (hn _ B5),ax.out.2.only mc (hn _ BV)⟩)
 have W:=za (TJ c l D hi y gn gi rows g n (.slice z r u) (b++s) I 0 q B s.size (9223372036854775807-s.size) o hr hc (by rw[bW];omega) ak.out B0.out gJ.out al.out ko ⟨_,_,_,K5,by omega,by omega,by omega⟩ ag aA H.out.2.1 (by omega) (UW.out.more s) Nn.out);rw[HX.out]at W;simp only at W;clear N DT J AS gJ al K5 Sd Gk p6 aT aO aw U NB RI;refine W.out.mono ?_;rintro e S ⟨rv,G,Y6,rfl,ah,R,aG,aJ,aC,VB,au⟩;obtain⟨A6,O,fu,rfl,aE,a8,aX⟩:=dM.dk ah;obtain⟨a7,u7,q7,ar,_⟩:=aJ;have TQ:=za (S4 n a7 u7 (s.size+m) q7 S ar);obtain⟨_,_,_,_,p9,az,_⟩:=eX.parts R;obtain⟨_,_,_,f9,f10,_⟩:=eX.CI R;have aZ:=R.lt;have a1:O<=200000:=by rw[aE.out];omega
 have ay:=za ah;have wM:=za R;have aD:=za aG;have an:=za aC;have aL:=za VB;have aQ:=za au;clear ah R aG aC VB au ar W;go_wp2_with fail
 refine TQ.out.mono ?_;rintro e w7 ⟨rfl,rfl⟩;go_wp2_with fail
 go_quiet (fail)
 go_wp2;obtain⟨W8,wN⟩:∃W8,(S.setCell ⟨g,4,none⟩ (.int .i64 ((s.size:Int)+m))).setCell ⟨g,5,none⟩ (.int .i64 ((q:Int)+O))=W8:=⟨_,rfl⟩
 have Y:ae [g] S W8:=by rw[<-wN];exact((ae.refl [g] S).setCell (.inl (by simp)) _).setCell (.inl (by simp)) _
 have aN:eX W8 g y G Y6 er (s.size+m) (q+ml.length) B:=by
  have e1:((s.size:Int)+m)=((s.size+m:Nat):Int):=by omega
  have e2:((q:Int)+O)=((q+ml.length:Nat):Int):=by rw[aE.out];omega
  rw[<-wN,e1,e2];exact eX.SU (eX.CJ wM.out _) _
 have aK:=aD.out.dX wM.out (by decide);rw[wN];clear wN;refine zo (v:= .tuple #[.slice A6 O fu,.int .i64 er]) (by simp[results,results12,go_sem]) rfl ?_;refine⟨.slice A6 O fu,G,rfl, ?_,⟨aI,ko,⟨y,gn,gi,rows,Y6, ?_,B0.out,aN.drewN nq,aQ.out⟩, ?_⟩, ?_, ?_⟩
 ·have h1:=(ay.out.only Y (fun j d hS=>by simp at d;have:=hS.1;omega) (fun j d e=>by have:=ay.out.ge j e;simp at d;omega)).gh (S1:=fun j=>w.heap.size<=j/\G.ownBlock≠some j) (lo':=w.heap.size) (fun j _ hS=>⟨by have:=hS.1;omega,hS.2⟩) (by omega);exact h1.below (Below.bB (zq _ _) nq)
 ·refine((ak.out.only an.out ?_).only Y (by simp;omega)).below (Below.bB (zq _ _) nq);intro k M;simp only[xA,dv]at M;rcases M with rfl|rfl|e
  ·exact .inr aA
  ·exact .inr ko
  rcases H.out.2.2 k e with h|h
  ·exact .inr (ab.out k h)
  exact .inr (by omega)
 ·exact(aD.out.pF Y (by intro j e d;simp at d;subst d;exact aK e)).below (Below.bB (zq _ _) nq)
 ·refine ae.drewN ((Y7.out.trans' an.out ?_).trans' Y (by simp[oC])) nq;intro i hi;simp only[xA,dv]at hi;rcases hi with rfl|rfl|e
  ·exact .inr aS
  ·exact .inl (by simp[oC])
  rcases H.out.2.2 i e with h|h
  ·exact .inl (jt.2 (.inr h))
  exact .inr h
 intro k e;rcases aL.out k e with h|h
 ·exact H.out.2.2 k h
 exact .inr (by omega)
theorem vK (b hi g:Nat)(d:Value)(c:aR)(l:List bA)(x:jb)(m:Nat)(s:ByteArray)(w:World)(o:c.right=true)(p:c.ok)(h:dt w b hi g d c l x m)(q:Laid w)(z:bj w)(r:1<b)(u:0<b)(y:x.buf.size+s.size<=100000)(D:x.told<=1000000000):
 Calls prog 12 #[.pointer (some ⟨g,0,none⟩),.string s] w fun e w'=>∃rv n,e= .returned (.tuple #[rv,.int .i64 (DW (aY c l) x s).2.2])/\dM w' (fun j=>w.heap.size<=j/\n.ownBlock≠some j) w.heap.size (DW (aY c l) x s).2.1 rv/\dt w' b hi g n c l (DW (aY c l) x s).1 m/\ae (oC g d) w w'/\(∀k,n.ownBlock=some k->d.ownBlock=some k\/w.heap.size<=k):=by
 by_cases i:x.fault=0
 ·exact C8 b hi g d c l x m s w o p h q z r u i y D
 refine(Ap b hi g d c l x m s w h i).mono fun e w' ⟨A,E,C⟩=>⟨.slice none 0 0,d, ?_, ?_, ?_,C.mono (by simp[oC]),fun k B=> .inl B⟩
 ·rw[jl i];exact A
 ·rw[jl i];exact dM.nil _ _ _
 rw[jl i];exact E
