/- A framer in memory. -/
import Derived.Test.YtdbmifjankgfpaaGreatDoorKA23
import Derived.Test.YtdbmifjankgfpaaGreatDoorKA45
import Derived.Test.YtdbmifjankgfpaaGreatDoorKA40
import Derived.Test.YtdbmifjankgfpaaGreatDoorKA42
set_option linter.all false
set_option maxRecDepth 100000
set_option maxHeartbeats 4000000
open Go.Proofs.Tryz
namespace Go.Proofs.YtdbmifjankgfpaaGreatDoor
open Go.RowKit
variable {w w':World}{g e base:Nat}{fault:Int}{d:Value}{x:eZ}
def af1 (c:aI)(bv:Value)(nd:Nat)(fault:Int)(laid told:Nat):Array Value:= #[.int .i64 c.fm,.int .u32 c.mg,.int .i64 c.fr,.int .i64 c.un,.int .i64 c.de,.int .i64 c.it,bv,.int .i64 nd,.int .i64 fault,.int .i64 laid,.int .i64 told]
abbrev jc (w:World)(g:Nat)(c:aI)(bv:Value)(nd:Nat)(fault:Int)(laid told:Nat):Prop:=af w g 103 (af1 c bv nd fault laid told)
theorem jc.cells {c:aI}{b:Nat}{laid:Nat}(h:jc w g c d b fault laid e):
 w.cell? ⟨g,0,none⟩=some (.int .i64 c.fm)/\w.cell? ⟨g,1,none⟩=some (.int .u32 c.mg)/\w.cell? ⟨g,2,none⟩=some (.int .i64 c.fr)/\w.cell? ⟨g,3,none⟩=some (.int .i64 c.un)/\w.cell? ⟨g,4,none⟩=some (.int .i64 c.de)/\w.cell? ⟨g,5,none⟩=some (.int .i64 c.it):=⟨h.cell 0,h.cell 1,h.cell 2,h.cell 3,h.cell 4,h.cell 5⟩
theorem jc.parts {c:aI}{b:Nat}{laid:Nat}(h:jc w g c d b fault laid e):
 w.cell? ⟨g,6,none⟩=some d/\w.cell? ⟨g,7,none⟩=some (.int .i64 b)/\w.cell? ⟨g,8,none⟩=some (.int .i64 fault)/\w.cell? ⟨g,9,none⟩=some (.int .i64 laid)/\w.cell? ⟨g,10,none⟩=some (.int .i64 e):=⟨h.cell 6,h.cell 7,h.cell 8,h.cell 9,h.cell 10⟩
theorem jc.mH {c:aI}{b:Nat}{laid:Nat}(h:jc w g c d b fault laid e):
 w.frozen? ⟨g,6,none⟩=false/\w.frozen? ⟨g,7,none⟩=false/\w.frozen? ⟨g,8,none⟩=false/\w.frozen? ⟨g,9,none⟩=false/\w.frozen? ⟨g,10,none⟩=false:=⟨h.frozen 6,h.frozen 7,h.frozen 8,h.frozen 9,h.frozen 10⟩
theorem jc.pj {c:aI}{e:Value}{b:Nat}{laid d:Nat}(h:jc w g c e b fault laid d)(v:Value):jc (w.setCell ⟨g,6,none⟩ v) g c v b fault laid d:=h.store rfl
theorem jc.C2 {c:aI}{b:Value}{laid d:Nat}(h:jc w g c b e fault laid d)(n:Nat):jc (w.setCell ⟨g,7,none⟩ (.int .i64 n)) g c b n fault laid d:=h.store rfl
theorem jc.vA {c:aI}{b:Nat}{laid i:Nat}(h:jc w g c d b fault laid i)(e:Int):jc (w.setCell ⟨g,8,none⟩ (.int .i64 e)) g c d b e laid i:=h.store rfl
theorem jc.lU {c:aI}{b:Nat}{laid:Nat}(h:jc w g c d b fault laid e)(n:Nat):jc (w.setCell ⟨g,9,none⟩ (.int .i64 n)) g c d b fault n e:=h.store rfl
theorem jc.C3 {c:aI}{b:Nat}{laid:Nat}(h:jc w g c d b fault laid e)(n:Nat):jc (w.setCell ⟨g,10,none⟩ (.int .i64 n)) g c d b fault laid n:=h.store rfl
theorem MS.grown {b:Option Nat}{t R:Nat}{V V':World}{row:Option Nat}(h:MS b t R w V)(d:V.grownBy V' row)(c:∀k,row=some k->w.heap.size<=k)(i:∀k,b=some k->k<w.heap.size):MS b t R w V':=
 ⟨h.only.grown d (fun k e=> .inr (c k e)),h.met.only (ae.fU d) (fun k e=>by
  have l:=i k e;intro j;have:=c k (by simpa using j);omega)⟩
theorem acd (c:aI)(g d base:Nat)(bv:Value)(b:ByteArray)(z laid G t R:Nat)(w:World)(hr:c.right=true)(hc:c.ok)(hb:b.size<=100000)(N:jc w g c bv z 0 laid G)(bn:bF w base 5 bv b.data.toList)(lB:base<=w.heap.size)
 (hM:Met w (some d) t R) (Cy:d≠g) (Yo:bv.ownBlock≠some d) (hR:1099511627776<=R) (oo:eG c b z):
 Calls prog 47 #[.pointer (some ⟨g,0,none⟩),.pointer (some ⟨d,0,none⟩)] w fun e w'=>∃rv mS Oi,e= .returned rv/\nt w' w.heap.size rv (split (aw c) b).1/\jc w' g c mS Oi (split (aw c) b).2.2.2 laid G/\bF w' base 5 mS (split (aw c) b).2.1.data.toList/\
  Met w' (some d) (t+(split (aw c) b).2.2.1) (R-(split (aw c) b).2.2.1)/\ae (d::g::bv.ownBlock.toList) w w'/\(∀k,mS.ownBlock=some k->bv.ownBlock=some k\/w.heap.size<=k)/\((split (aw c) b).2.2.2=0->eG c (split (aw c) b).2.1 Oi):=by
 have cn:bv.ownBlock≠some g:=bn.cy N (by decide);have Tb:=bn.form;rw[aa]at Tb;obtain⟨A,cap,rfl,oC,mA⟩:=Tb;have N2:∀V,Below w.heap.size w V->(convert 31 9 (.slice A b.size cap)).run prog V= .ok (.string b) V:=fun V l=>by
  have:=bF.Ex (P:=prog) (src:=31) (dst:=9) zt yw zN (bn.below l);rwa [iP]at this
 have HB:=za N;have j4:=za bn;have HM:=za hM;have NZ:=za oo;have tR:g<w.heap.size:=N.lt;obtain⟨q0,q1,q2,q3,q4,q5⟩:=N.cells;obtain⟨p6,p7,p8,p9,Td⟩:=N.parts;have U:=za (And.intro cn Yo);clear N bn hM oo cn Yo;by_cases aE:b.size<z
 ·have M:Hid (split (aw c) b=([],b,0,0)):=za (dz (fe c) (NZ.out.here aE));rw[M.out];go_enter func47,ntmps47
  go_wp2_with fail
  go_quiet (fail)
  go_wp2;go_ret;exact⟨_,_,z,rfl,nt.nil _ _,HB.out.drewN nq,j4.out.below (Below.bs (zm _ _) nq),HM.out.below (Below.bs (zm _ _) nq),ae.drewN (ae.refl _ _) nq,fun k hk=> .inl hk,fun _=>NZ.out⟩
 skip
 have Sg:=za (fe c);have ax:=fun a (hR:70000<=R-a) (s:ByteArray) hs W V hM=>F6 c (some d) (t+a) (R-a) s hc hR hs W V hM
 have rB:=za ax;clear ax;unfold mJ aI.val at rB;have So:d<w.heap.size:=HM.out.lt d rfl;have dm:Hid (∀V t R,MS (some d) t R w V->V.cell? ⟨g,0,none⟩=some (.int .i64 c.fm)/\V.cell? ⟨g,1,none⟩=some (.int .u32 c.mg)/\V.cell? ⟨g,2,none⟩=some (.int .i64 c.fr)/\V.cell? ⟨g,3,none⟩=some (.int .i64 c.un)/\V.cell? ⟨g,4,none⟩=some (.int .i64 c.de)/\V.cell? ⟨g,5,none⟩=some (.int .i64 c.it)):=za (fun V t R l=>jc.cells (HB.out.only l.only (by simp;omega)));have ao:=za (MS.refl HM.out);go_enter func47,ntmps47
 go_wp2_with fail
 go_quiet (fail)
 have Wu:=N2 (w.drewN nq) (Below.bs (zm _ _) nq);clear N2;obtain⟨w1,mO⟩:∃w1,w.drewN nq=w1:=⟨_,rfl⟩
 have fQ:Hid (MS (some d) t R w w1):=za (by rw[<-mO];exact ao.out.below (Below.bs (zm _ _) nq));have aj:w1.cell? ⟨g,6,none⟩=some (.slice A b.size cap):=by rw[<-mO];exact p6
 rw[mO]at Wu⊢;clear mO q0 q1 q2 q3 q4 q5 p6 p7 p8 p9 Td ao;go_wp2_with fail
 go_loopw [5,7] (fun lv ah wr=>∃(acc:List Fr) (k a:Nat),nt wr w.heap.size lv acc/\ah= .int .i64 (k:Nat)/\k<=b.size/\acc.length<=k/\a<=65536*acc.length/\Hid (split (aw c) b=(acc++(split (aw c) (b.extract k b.size)).1,(split (aw c) (b.extract k b.size)).2.1,a+(split (aw c) (b.extract k b.size)).2.2.1,(split (aw c) (b.extract k b.size)).2.2.2))/\Hid (MS (some d) (t+a) (R-a) w wr)) (fun _ ah _=>b.size-(intOf ah).toNat)
 case atStart=>exact⟨[],0,0,nt.nil _ _,rfl,by omega,by simp,by simp,za (by rw[tX];simp),fQ⟩
 case round=>
  clear fQ aj Wu;obtain⟨acc,k,a,lD,rfl,hk,Bm,ha,M,ab⟩:=hrel;obtain⟨A5,n5,eS,rfl,aC,aD,aG⟩:=lD.cF;have mK:=za lD;clear lD;obtain⟨r,JS⟩:∃r,b.extract k b.size=r:=⟨_,rfl⟩
  have UB:r.size=b.size-k:=by rw[<-JS,an _ _ _ (zg _)]
  rw[JS]at M;have Wq:=za JS;have sq:(k:Int)<=b.size:=by omega
  have HN:=za (fun W V hM=>rB.out a (by omega) r (by omega) W V hM);have CA:Hid ((aw c r).1=0->0<(aw c r).2.2.1/\(aw c r).2.2.1<=r.size/\split (aw c) b=((acc++ [(aw c r).2.1])++(split (aw c) (b.extract (k+(aw c r).2.2.1) b.size)).1,(split (aw c) (b.extract (k+(aw c r).2.2.1) b.size)).2.1,(a+(aw c r).2.2.2)+(split (aw c) (b.extract (k+(aw c r).2.2.1) b.size)).2.2.1,(split (aw c) (b.extract (k+(aw c r).2.2.1) b.size)).2.2.2)):=za (fun h=>by
   obtain⟨p1,p2⟩:=Sg.out.pos r h;refine⟨p1,p2, ?_⟩;have e:r.extract (aw c r).2.2.1 r.size=b.extract (k+(aw c r).2.2.1) b.size:=by
    rw[<-Wq.out,pL _ _ _ _ (by rw[an _ _ _ (zg _)];omega),an _ _ _ (zg _)];congr 1;omega
   rw[M.out,cU Sg.out h,e];simp[Va.cons,yh])
  have mD:Hid ((aw c r).1≠0->split (aw c) b=(acc,r,a+(aw c r).2.2.2,if(aw c r).1=2 then 0 else(aw c r).1)):=za (fun h=>by
   rw[M.out,dP Sg.out r,zh h];simp)
  have Oh:Hid ((aw c r).1=2->eG c r (cL c r)):=za (fun h=>eG.of hr h);have Bn:=za (fun V=>QM c r V hr (by omega));unfold aI.val at Bn;have hm:=lg c r;obtain⟨X,hX⟩:∃X,aw c r=X:=⟨_,rfl⟩
  rw[hX]at HN CA mD hm Oh;clear hX rB;obtain⟨F,⟨y1,Y,y3⟩,y4,m⟩:=X;simp only at CA mD hm Oh;unfold oB Fr.val at HN;simp only at HN;have rz:=za (MS.refl ab.out.met);have ag:Hid (∀k,some d=some k->k<wr.heap.size):=za ab.out.met.lt;have L:Hid (∀V t R,MS (some d) t R wr V->V.cell? ⟨g,0,none⟩=some (.int .i64 c.fm)/\V.cell? ⟨g,1,none⟩=some (.int .u32 c.mg)/\V.cell? ⟨g,2,none⟩=some (.int .i64 c.fr)/\V.cell? ⟨g,3,none⟩=some (.int .i64 c.un)/\V.cell? ⟨g,4,none⟩=some (.int .i64 c.de)/\V.cell? ⟨g,5,none⟩=some (.int .i64 c.it)):=za (fun V t R l=>dm.out V _ _ (l.from ab.out.only));have Sl:Hid (∀V,MS (some d) (t+a) (R-a) wr V->af V wr.heap.size 84 #[.int .u64 0,.string ⟨#[]⟩,.string ⟨#[]⟩]->Calls prog 63 #[.agg #[.int .i64 c.fm,.int .u32 c.mg,.int .i64 c.fr,.int .i64 c.un,.int .i64 c.de,.int .i64 c.it],.pointer (some ⟨d,0,none⟩),.string r] V fun e w'=>e= .returned (.tuple #[.agg #[.int .u64 y1,.string Y,.string y3],.int .i64 y4,.int .i64 F])/\MS (some d) (t+a+m) (R-a-m) wr w'/\af w' wr.heap.size 84 #[.int .u64 0,.string ⟨#[]⟩,.string ⟨#[]⟩]):=za (fun V l N=>
   (HN.out V V (MS.refl l.met)).mono fun e w' ⟨x,q⟩=>⟨x,q.from l.only,N.ms q ag.out⟩)
  have VP:Hid (∀V,MS (some d) (t+a) (R-a) wr V->Calls prog 63 #[.agg #[.int .i64 c.fm,.int .u32 c.mg,.int .i64 c.fr,.int .i64 c.un,.int .i64 c.de,.int .i64 c.it],.pointer (some ⟨d,0,none⟩),.string r] V fun e w'=>e= .returned (.tuple #[.agg #[.int .u64 y1,.string Y,.string y3],.int .i64 y4,.int .i64 F])/\MS (some d) (t+a+m) (R-a-m) wr w'):=za (fun V l=>
   (HN.out wr V l))
  clear HN;go_upto_region 6 with fail
  go_cut [8,9,10] (fun v n er wx=>∃b8:Nat,v= .pointer (some ⟨b8,0,none⟩)/\n= .int .i64 y4/\er= .int .i64 F/\Hid (wr.heap.size<=b8)/\Hid (af wx b8 84 #[.int .u64 y1,.string Y,.string y3])/\Hid (MS (some d) (t+a+m) (R-a-m) wr wx))
  case first=>
   go_wp2_with fail
   go_region_held3 (fun V=>V.cell? ⟨g,0,none⟩=some (.int .i64 c.fm)/\V.cell? ⟨g,1,none⟩=some (.int .u32 c.mg)/\V.cell? ⟨g,2,none⟩=some (.int .i64 c.fr)/\V.cell? ⟨g,3,none⟩=some (.int .i64 c.un)/\V.cell? ⟨g,4,none⟩=some (.int .i64 c.de)/\V.cell? ⟨g,5,none⟩=some (.int .i64 c.it))
    (first|exact L.out _ _ _ rz.out|exact L.out _ _ _ rz.out.drew|exact L.out _ _ _ ((rz.out.alloc _).drew)|exact L.out _ _ _ (rz.out.drew.alloc _)|exact L.out _ _ _ O|exact L.out _ _ _ (O.alloc _)|exact L.out _ _ _ (O.dK (zg _) ag.out _ _ _))
    (first
     |(go_at_call 63;((with_reducible refine(Sl.out _ ((rz.out.alloc _).drew) (af.new _ _ _).drew).mono ?_);rintro e wv ⟨rfl,O,hz⟩;obtain⟨z0,z1,z2,OI,OJ,OH⟩:=a8 hz))
     |(go_at_call 63;((with_reducible refine(VP.out _ rz.out.drew).mono ?_);rintro e wv ⟨rfl,O⟩)))
   all_goals
    go_wp2_with fail
    go_meet;case rel=>
     first
      |exact⟨_,rfl,rfl,rfl,za O.size,za (af.new _ _ _),za (O.alloc _)⟩
      |exact⟨_,rfl,rfl,rfl,za (zg _),za (kK hz _ _ _),za (O.dK (zg _) ag.out _ _ _)⟩
  case rest=>
   obtain⟨b8,rfl,rfl,rfl,av,Wp,ad⟩:=hcut;have D:Hid (MS (some d) (t+a+m) (R-a-m) w wc):=za (ad.out.from ab.out.only);have GK:Hid (nt wc w.heap.size (.slice A5 n5 eS) acc):=za (mK.out.only ad.out.only (by simp;omega));have Ct:w.heap.size<=wc.heap.size:=D.out.size;clear Sl VP L dm rz ag ab mK;obtain⟨k0,k1,k2,_,_,_⟩:=a8 Wp.out;by_cases x:F=0
   ·subst x;obtain⟨p1,p2,p3⟩:=CA.out rfl;have Gz:=za p3;clear p3 CA mD M Oh Bn;have p4:(k:Int)+y4<=b.size:=by omega
    have Ag:=za (GK.out.below ((zm _ wc).alloc (zg _) (.cells #[.int .u64 y1,.string Y,.string y3] 84)));have au:=za (D.out.alloc (.cells #[.int .u64 y1,.string Y,.string y3] 84));go_wp2_with (
     refine oy (by rfl) (.tmp 41) (.tmp 43) (by rfl) w.heap.size acc (by rfl) Ag.out ⟨y1,Y,y3⟩ wc.heap.size (by rfl) (by simp) (by simp) (by simp) (by omega) (by simp;omega) ?_;intro g' n' aq w2 Rq al fu aF;have aA:=za al;have az:Hid (MS (some d) (t+a+m) (R-a-m) w w2):=za (au.out.grown fu (fun k e=>(Ag.out.ge k e).1) (by intro k e;injection e with e;omega));clear al fu Ag au)
    go_roundw
    case rel=>exact⟨acc++ [⟨y1,Y,y3⟩],k+y4,a+m,aA.out,by go_num,by omega,by rw[zl];simp;omega,by rw[zl];simp;omega,Gz,za (by have:=az.out;rwa [yh,ZW]at this)⟩
    case measure=>simp[intOf];omega
   have u:=mD.out x;have y:Hid (jc wc g c (.slice A b.size cap) z 0 laid G):=za (HB.out.only D.out.only (by simp;omega));have DU:Hid (bF wc base 5 (.slice A b.size cap) b.data.toList):=za (j4.out.iV D.out.only (fun k e=>by have:=U.out.2;rw[e]at this;simpa using xF (fun h=>this (by rw[h]))));by_cases q:F=2
   ·subst q;rw[zi rfl]at u;have u:=za u;clear mD CA M;have aB:=za (Oh.out (by first|rfl|trivial));clear Oh;go_wp2_with fail
    refine iZ 11 (by kernel_rfl) (by kernel_rfl) ?_;simp only[zT,yC,yf,zL];refine ai (.pointer (some ⟨g,0,none⟩)) (by rfl) (fun _ _=>by first|rfl|go_simp) ?_;simp only[Act.put,zb,zd,ze];refine ai (.pointer (some ⟨g,0,none⟩)) (by rfl) (fun _ _=>by first|rfl|go_simp) ?_;simp only[Act.put,zb,zd,ze];refine ai (.pointer (some ⟨g,0,none⟩)) (by rfl) (fun _ _=>by first|rfl|go_simp) ?_;simp only[Act.put,zb,zd,ze];refine ai (.pointer (some ⟨g,0,none⟩)) (by rfl) (fun _ _=>by first|rfl|go_simp) ?_;simp only[Act.put,zb,zd,ze];refine ai (.agg #[.int .i64 c.fm,.int .u32 c.mg,.int .i64 c.fr,.int .i64 c.un,.int .i64 c.de,.int .i64 c.it]) (by rfl) (fun w' Bf=>by obtain⟨q0,q1,q2,q3,q4,q5⟩:=jc.cells (y.out.ag Bf y.out.lt);go_simp) ?_;simp only[Act.put,zb,zd,ze];refine ai (.string b) (by rfl) (fun _ _=>by first|rfl|go_simp) ?_;simp only[Act.put,zb,zd,ze];refine ai (.int .i64 k) (by rfl) (fun _ _=>by first|rfl|go_simp) ?_;simp only[Act.put,zb,zd,ze];refine ai (.string r) (by rfl) (fun _ _=>by first|rfl|go_simp) ?_;simp only[Act.put,zb,zd,ze];refine bU 84 _ _ (by rfl) (fun _=>by first|rfl|go_simp) (fun V _=>Bn.out V) ?_;simp only[Act.put,zb,zd,ze];refine ai (.pointer (some ⟨g,0,none⟩)) (by rfl) (fun _ _=>by first|rfl|go_simp) ?_;simp only[Act.put,zb,zd,ze];refine ai (.pointer (some ⟨g,7,none⟩)) (by rfl) (fun _ _=>by first|rfl|go_simp) ?_;simp only[Act.put,zb,zd,ze];refine xg ?_;intro V l;have S:jc V g c (.slice A b.size cap) z 0 laid G:=y.out.ag l y.out.lt;obtain⟨_,p7,p8,_,_⟩:=jc.parts S
    obtain⟨_,f7,f8,_,_⟩:=jc.mH S;have Wr:g<V.heap.size:=zU y.out.lt l.size;go_upto_region 13 with fail
    obtain⟨o,B⟩:∃o,V.setCell ⟨g,7,none⟩ (.int .i64 (cL c r:Nat))=o:=⟨_,rfl⟩
    rw[B];have Sw:ae [d,g] w V:=(D.out.only.mono (by simp)).trans' (ae.ah l (zg _)) (by simp);have tU:Hid (ae (d::g::(Value.slice A b.size cap).ownBlock.toList) w o):=za (by rw[<-B];exact(Sw.setCell (.inl (by simp)) _).mono (by intro i hi;simp at hi⊢;rcases hi with h|h<;>simp[h]));have J:ae [g] V o:=by rw[<-B];exact(ae.refl _ _).setCell (.inl (by simp)) _
    have sG:Hid (bF o base 5 (.slice A b.size cap) b.data.toList):=za ((DU.out.below l).iV J (by intro j e h;simp at h;subst h;exact U.out.1 e));have Ok:Hid (Met o (some d) (t+a+m) (R-a-m)):=za ((D.out.below l).met.only J (by intro j e;injection e with e;subst e;simpa using Cy));have U6:Hid (nt o w.heap.size (.slice A5 n5 eS) acc):=za ((GK.out.below l).only J (by simp;omega));have Br:Hid (w.heap.size<=o.heap.size):=za tU.out.size;clear Sw J p7 p8 f7 f8 Wr S;have Z:Hid (jc o g c (.slice A b.size cap) (cL c r) 0 laid G):=za (by rw[<-B];exact jc.C2 (y.out.ag l y.out.lt) _);clear B l y DU D GK ad k0 k1 k2 Wp av;have J2:Hid ((split (aw c) b).2.2.2=0->eG c (split (aw c) b).2.1 (cL c r)):=za (fun _=>by rw[u.out];exact aB.out);have Ov:g<o.heap.size:=Z.out.lt;have Gx:=za (O' base (.slice A b.size cap) b.data.toList k o sG.out (by have:=Br.out;omega) (by rw[aa];omega) (by rw[aa];omega));have SW:Hid (b.data.toList.drop k=r.data.toList):=za (by rw[<-Wq.out,ar,cT]);obtain⟨p6,_,_,_,_⟩:=Z.out.parts;go_wp2_with fail
    refine Gx.out.mono ?_;rintro e E ⟨v',rfl,I,oZ⟩;rw[SW.out]at I;have C:Hid (jc E g c (.slice A b.size cap) (cL c r) 0 laid G):=za (af.Ma Z.out oZ (U.out.1));have H:=za oZ;have kT:=za I;obtain⟨A6,n6,dM,rfl,U8,ay,Su⟩:=I.cF;obtain⟨aj,_,_,_,_⟩:=C.out.parts;obtain⟨f6,_,_,_,_⟩:=C.out.mH;have Sz:g<E.heap.size:=C.out.lt;clear I oZ p6 Gx;go_wp2;go_ret;have DN:ae (d::g::(Value.slice A b.size cap).ownBlock.toList) w E:=tU.out.trans' H.out.only (fun i hi=> .inl (by simp at hi⊢;exact .inr (.inr hi)));refine⟨.slice A5 n5 eS,.slice A6 n6 dM,(cL c r),rfl, ?_, ?_, ?_, ?_, ?_, ?_, ?_⟩
    ·rw[u.out];exact(U6.out.ag (fun j x q=>H.out.block q (fun e=>by have:=j4.out.ge j e;omega))).ag (fun j x q=>zM _ _ _ _ (by simp;omega))
    ·rw[u.out];exact C.out.pj _
    ·rw[u.out];refine kT.out.ag (fun j x q=>zM _ _ _ _ ?_);rintro rfl;exact(kT.out.cy C.out (by decide)) q
    ·rw[u.out];have x:=Ok.out.only H.out.only (by intro j e;injection e with e;subst e;exact fun h=>U.out.2 (cg.1 h));have q:=x.only ((ae.refl [g] E).setCell (p:=⟨g,6,none⟩) (.inl (by simp)) (.slice A6 n6 dM)) (by intro j e;injection e with e;subst e;simpa using Cy);simpa only[yh,ZW]using q
    ·exact DN.setCell (.inl (by simp)) _
    ·intro j K;rcases H.out.own with e|⟨j',e,Gm⟩
     ·exact .inl (by rw[<-e];exact K)
     rw[e]at K;injection K with K;exact .inr (by have:=Br.out;omega)
    exact J2.out
   rw[zh q]at u;have u:=za u;clear mD CA M;have S7:(F==2)=false:=zo.2 q;obtain⟨V,ak⟩:∃V,wc=V:=⟨_,rfl⟩
   have l:Below wc.heap.size wc V:=by rw[<-ak];exact zm _ _
   rw[ak]at k0 k1 k2⊢;clear ak;have S:jc V g c (.slice A b.size cap) z 0 laid G:=y.out.ag l y.out.lt;obtain⟨_,p7,p8,_,_⟩:=jc.parts S;obtain⟨_,f7,f8,_,_⟩:=jc.mH S;have Wr:g<V.heap.size:=zU y.out.lt l.size;go_upto_region 13 with fail
   obtain⟨o,B⟩:∃o,V.setCell ⟨g,8,none⟩ (.int .i64 F)=o:=⟨_,rfl⟩
   rw[B];have Sw:ae [d,g] w V:=(D.out.only.mono (by simp)).trans' (ae.ah l (zg _)) (by simp);have tU:Hid (ae (d::g::(Value.slice A b.size cap).ownBlock.toList) w o):=za (by rw[<-B];exact(Sw.setCell (.inl (by simp)) _).mono (by intro i hi;simp at hi⊢;rcases hi with h|h<;>simp[h]));have J:ae [g] V o:=by rw[<-B];exact(ae.refl _ _).setCell (.inl (by simp)) _
   have sG:Hid (bF o base 5 (.slice A b.size cap) b.data.toList):=za ((DU.out.below l).iV J (by intro j e h;simp at h;subst h;exact U.out.1 e));have Ok:Hid (Met o (some d) (t+a+m) (R-a-m)):=za ((D.out.below l).met.only J (by intro j e;injection e with e;subst e;simpa using Cy));have U6:Hid (nt o w.heap.size (.slice A5 n5 eS) acc):=za ((GK.out.below l).only J (by simp;omega));have Br:Hid (w.heap.size<=o.heap.size):=za tU.out.size;clear Sw J p7 p8 f7 f8 Wr S;have Z:Hid (jc o g c (.slice A b.size cap) z F laid G):=za (by rw[<-B];exact jc.vA (y.out.ag l y.out.lt) _);clear B l y DU D GK ad k0 k1 k2 Wp av;have J2:Hid ((split (aw c) b).2.2.2=0->eG c (split (aw c) b).2.1 z):=za (fun h=>by rw[u.out]at h;exact absurd h x);have Ov:g<o.heap.size:=Z.out.lt;have Gx:=za (O' base (.slice A b.size cap) b.data.toList k o sG.out (by have:=Br.out;omega) (by rw[aa];omega) (by rw[aa];omega));have SW:Hid (b.data.toList.drop k=r.data.toList):=za (by rw[<-Wq.out,ar,cT]);obtain⟨p6,_,_,_,_⟩:=Z.out.parts;go_wp2_with fail
   refine Gx.out.mono ?_;rintro e E ⟨v',rfl,I,oZ⟩;rw[SW.out]at I;have C:Hid (jc E g c (.slice A b.size cap) z F laid G):=za (af.Ma Z.out oZ (U.out.1));have H:=za oZ;have kT:=za I;obtain⟨A6,n6,dM,rfl,U8,ay,Su⟩:=I.cF;obtain⟨aj,_,_,_,_⟩:=C.out.parts;obtain⟨f6,_,_,_,_⟩:=C.out.mH;have Sz:g<E.heap.size:=C.out.lt;clear I oZ p6 Gx;go_wp2;go_ret;have DN:ae (d::g::(Value.slice A b.size cap).ownBlock.toList) w E:=tU.out.trans' H.out.only (fun i hi=> .inl (by simp at hi⊢;exact .inr (.inr hi)));refine⟨.slice A5 n5 eS,.slice A6 n6 dM,z,rfl, ?_, ?_, ?_, ?_, ?_, ?_, ?_⟩
   ·rw[u.out];exact(U6.out.ag (fun j x q=>H.out.block q (fun e=>by have:=j4.out.ge j e;omega))).ag (fun j x q=>zM _ _ _ _ (by simp;omega))
   ·rw[u.out];exact C.out.pj _
   ·rw[u.out];refine kT.out.ag (fun j x q=>zM _ _ _ _ ?_);rintro rfl;exact(kT.out.cy C.out (by decide)) q
   ·rw[u.out];have x:=Ok.out.only H.out.only (by intro j e;injection e with e;subst e;exact fun h=>U.out.2 (cg.1 h));have q:=x.only ((ae.refl [g] E).setCell (p:=⟨g,6,none⟩) (.inl (by simp)) (.slice A6 n6 dM)) (by intro j e;injection e with e;subst e;simpa using Cy);simpa only[yh,ZW]using q
   ·exact DN.setCell (.inl (by simp)) _
   ·intro j K;rcases H.out.own with e|⟨j',e,Gm⟩
    ·exact .inl (by rw[<-e];exact K)
    rw[e]at K;injection K with K;exact .inr (by have:=Br.out;omega)
   exact J2.out
def iF (w:World)(base g:Nat)(bv:Value)(c:aI)(x:eZ):Prop:=base<=g/\∃nd,jc w g c bv nd x.fault x.laid x.told/\bF w base 5 bv x.buf.data.toList/\(x.fault=0->eG c x.buf nd)
theorem iF.lt {b:Value}{c:aI}(h:iF w base g b c x):g<w.heap.size:=by obtain⟨_,e,d,_⟩:=h;exact d.lt
theorem iF.own {b:Value}{c:aI}(h:iF w base g b c x):∀k,b.ownBlock=some k->base<=k/\k<w.heap.size:=by
 obtain⟨_,i,_,d,_⟩:=h;exact fun k e=>⟨(d.ge k e).1,(d.ge k e).2.1⟩
theorem iF.ag {b:Value}{c:aI}(h:iF w base g b c x)(i:∀k,k<w.heap.size->k=g\/b.ownBlock=some k->w'.heap[k]?=w.heap[k]?):iF w' base g b c x:=by
 obtain⟨n,j,d,m,o⟩:=h;exact⟨n,j,(i g d.lt (.inl rfl)).trans d,m.ag (fun k l e=>i k l (.inr e)),o⟩
theorem iF.only {b:Value}{c:aI}{L:List Nat}(h:iF w base g b c x)(i:ae L w w')(d:∀k,k=g\/b.ownBlock=some k->k∉L):iF w' base g b c x:=h.ag fun k j e=>i.block k j (d k e)
theorem iF.below {b:Value}{c:aI}(h:iF w base g b c x)(d:Below w.heap.size w w'):iF w' base g b c x:=h.only (ae.ah d (zg _)) (by simp)
theorem iF.qp {b:Value}{c:aI}(h:iF w base g b c x):∀k∈js g b,base<=k/\k<w.heap.size:=by
 intro k d;rcases fW.1 d with rfl|e
 ·exact⟨h.1,h.lt⟩
 exact h.own k e
theorem F9 (base g:Nat)(j:Value)(c:aI)(x:eZ)(w:World)(h:iF w base g j c x):
 Calls prog 27 #[.pointer (some ⟨g,0,none⟩)] w fun e w'=>e= .returned (.int .i64 (x.laid:Nat))/\w=w':=by
 obtain⟨_,l,d,i,_⟩:=h;have b:=i.form;rw[aa]at b;obtain⟨A,cap,rfl,_,_⟩:=b;obtain⟨n,o,m,k,p⟩:=d.parts;clear d i;go_enter func27,ntmps27
 go_wp2;go_ret;exact⟨rfl,rfl⟩
theorem Uy (c:aI)(w:World)(p:c.right=true):Calls prog 23 #[c.val] w fun e w'=>(∃g,e= .returned (.tuple #[.pointer (some ⟨g,0,none⟩),.int .i64 0])/\iF w' w.heap.size g (.slice none 0 0) c eZ.new)/\Below w.heap.size w w':=by
 have o:=za (fun w=>eW c w);unfold aI.val at*;obtain⟨b,i⟩:∃b,w.alloc (.cells #[.int .i64 c.fm,.int .u32 c.mg,.int .i64 c.fr,.int .i64 c.un,.int .i64 c.de,.int .i64 c.it] 24)=b:=⟨_,rfl⟩
 have B:=za i;have n:Hid (af b w.heap.size 24 #[.int .i64 c.fm,.int .u32 c.mg,.int .i64 c.fr,.int .i64 c.un,.int .i64 c.de,.int .i64 c.it]):=za (by rw[<-i];exact af.new w _ _);have m:Hid (Below w.heap.size w b/\b.heap.size=w.heap.size+1):=za (by rw[<-i];exact⟨bT,by simp⟩);clear i;have l:∀V,Below b.heap.size b V->V.cell? ⟨w.heap.size,0,none⟩=some (.int .i64 c.fm)/\V.cell? ⟨w.heap.size,1,none⟩=some (.int .u32 c.mg)/\V.cell? ⟨w.heap.size,2,none⟩=some (.int .i64 c.fr)/\V.cell? ⟨w.heap.size,3,none⟩=some (.int .i64 c.un)/\V.cell? ⟨w.heap.size,4,none⟩=some (.int .i64 c.de)/\V.cell? ⟨w.heap.size,5,none⟩=some (.int .i64 c.it):=fun V s=>by
  have d:=n.out.ag s n.out.lt;exact⟨d.cell 0,d.cell 1,d.cell 2,d.cell 3,d.cell 4,d.cell 5⟩
 have A:=za l;obtain⟨r,q,u,z,x,y⟩:=l b (zm _ _);clear l;rw[p]at o;go_enter func23,ntmps23
 go_wp2_with fail
 rw[B.out];refine(o.out _).mono ?_;rintro e h ⟨rfl,j⟩;obtain⟨r,q,u,z,x,y⟩:=A.out h j;have k:Hid (Below w.heap.size w h/\w.heap.size<=h.heap.size):=za ⟨m.out.1.trans (j.mono (by have:=m.out.2;omega)),by have:=j.size;have:=m.out.2;omega⟩;clear j;go_wp2;refine zj (v:= .tuple #[.pointer (some ⟨h.heap.size,0,none⟩),.int .i64 0]) (by simp[results,results23,go_sem]) rfl ?_;exact⟨⟨_,rfl,k.out.2,0,af.new _ _ _,bF.nil _ _ _,fun _=>eG.zero _ _⟩,k.out.1.alloc k.out.2 _⟩
theorem AW (base g:Nat)(d:Value)(c:aI)(x:eZ)(s:ByteArray)(w:World)(h:iF w base g d c x)(o:x.fault≠0):
 Calls prog 26 #[.pointer (some ⟨g,0,none⟩),.string s] w fun e w'=>e= .returned (.tuple #[.slice none 0 0,.int .i64 x.fault])/\iF w' base g d c {x with laid:=0}/\ae [g] w w':=by
 obtain⟨r,q,b,i,l⟩:=h;have C:=b.lt;have A:(x.fault !=0)=true:=yz.2 o;have E:=za b;have n:=i.cy b (by decide);have u:Hid (∀k,iF ((w.setCell ⟨g,9,none⟩ (.int .i64 0)).drewN k) base g d c {x with laid:=0}):=za (fun k=>⟨r,q,(jc.lU b 0).drewN k,(i.iV ((ae.refl [g] w).setCell (p:=⟨g,9,none⟩) (.inl (by simp)) _) (by intro j e m;simp at m;subst m;exact n e)).below (Below.bs (zm _ _) k),l⟩);obtain⟨B,D,z,y,F⟩:=b.parts;obtain⟨_,_,_,f9,_⟩:=b.mH;clear b i l n o;go_enter func26,ntmps26
 go_wp2_with fail
 go_quiet (fail)
 go_wp2;refine zj (v:= .tuple #[.slice none 0 0,.int .i64 x.fault]) (by simp[results,results26,go_sem]) rfl ?_;exact⟨rfl,u.out _,ae.drewN ((ae.refl _ _).setCell (.inl (by simp)) _) _⟩
theorem Dt (base g:Nat)(bv:Value)(c:aI)(x:eZ)(s:ByteArray)(w:World)(hr:c.right=true)(hc:c.ok)(h:iF w base g bv c x)(lB:base<=w.heap.size)(h0:x.fault=0)(hs:x.buf.size+s.size<=100000)(ht:x.told<=1000000000):
 Calls prog 26 #[.pointer (some ⟨g,0,none⟩),.string s] w fun e w'=>∃rv I,e= .returned (.tuple #[rv,.int .i64 (iI (aw c) x s).2.2])/\nt w' w.heap.size rv (iI (aw c) x s).2.1/\iF w' base g I c (iI (aw c) x s).1/\ae (js g bv) w w'/\(∀k,I.ownBlock=some k->bv.ownBlock=some k\/w.heap.size<=k):=by
 obtain⟨jA,C,z,D,oo⟩:=h;obtain⟨b,fl,ld,p⟩:=x;simp only at h0 z D oo hs ht;subst h0;rw[dw rfl];simp only;have ab:=vi c (b++s);rw[bK]at ab;have pG:=MA c (b++s);rw[bK]at pG;obtain⟨X,hX⟩:∃X,split (aw c) (b++s)=X:=⟨_,rfl⟩
 rw[hX]at ab pG⊢;obtain⟨l,tl,m,er⟩:=X;simp only at ab pG⊢;have HX:=za hX;clear hX;have tR:=z.lt;have cn:=D.cy z (by decide);have hf:=D.form;rw[aa]at hf;obtain⟨A,cap,rfl,oC,mA⟩:=hf;obtain⟨n,H⟩:∃n,w.setCell ⟨g,9,none⟩ (.int .i64 0)=n:=⟨_,rfl⟩
 have rA:ae [g] w n:=by rw[<-H];exact(ae.refl _ _).setCell (.inl (by simp)) _
 have cr:n.heap.size=w.heap.size:=by rw[<-H];simp[World.setCell]
 have bQ:Hid (jc n g c (.slice A b.size cap) C 0 0 p):=za (by rw[<-H];exact jc.lU z 0);have SE:Hid (bF n base 5 (.slice A b.size cap) b.data.toList):=za (D.iV rA (by intro j e d;simp at d;subst d;exact cn e));have Ws:=za rA;have NZ:=za (oo rfl);have GG:Hid (∀k,(Value.slice A b.size cap).ownBlock=some k->k<w.heap.size):=za (fun k e=>(D.ge k e).2.1);have Ap:=za cn;obtain⟨p6,p7,p8,p9,Td⟩:=z.parts;obtain⟨_,_,_,f9,_⟩:=z.mH;obtain⟨i0,hi,eh,ax,cE⟩:=yH o7;have aj:=za (vK 9223372036854775807 n);have iG:=za H;clear z D oo cn rA H;go_enter func26,ntmps26
 go_wp2_with fail
 rw[iG.out];clear p6 p7 p8 p9 Td f9;refine aj.out.mono ?_;rintro e E ⟨rfl,rl⟩;have jY:Below n.heap.size n E:=by rw[rl];exact(zm _ _).alloc (zg _) _
 have uA:ra E n.heap.size 9223372036854775807 0 0 0:=by rw[rl];exact af.new _ _ _
 obtain⟨o,Cy⟩:∃o,n.heap.size=o:=⟨_,rfl⟩
 have HT:=za (lV o 9223372036854775807 0 0 0 s.size E (by rw[<-Cy];exact uA) (by omega) (by omega) (by omega));have ee:Hid (jc E g c (.slice A b.size cap) C 0 0 p):=za (bQ.out.ag jY bQ.out.lt);have SF:=za (SE.out.below jY);have Rs:Hid (ae [g] w E):=za (Ws.out.trans' (ae.ah jY (zg _)) (by simp));have UU:o≠g:=by omega
 have So:w.heap.size<=o:=by omega
 have ri:o<E.heap.size:=by have:=uA.lt;omega
 rw[Cy];clear rl uA jY bQ SE Ws aj Cy cr iG;go_wp2_with fail
 refine HT.out.mono ?_;rintro e w3 ⟨rfl,UJ,Y⟩;simp only[zQ]at UJ;have S:Hid (jc w3 g c (.slice A b.size cap) C 0 0 p):=za (ee.out.only Y (by simpa using xF UU));have sG:=za (SF.out.iV Y (by intro j e d;simp at d;subst d;have:=GG.out j e;omega));have N:Hid (ae [g] w w3):=za (Rs.out.trans' Y (by simp;omega));have Ok:=za UJ;obtain⟨p6,_,_,_,_⟩:=S.out.parts;have ca:base<=w3.heap.size:=by have:=N.out.size;omega
 have JC:w.heap.size<=w3.heap.size:=N.out.size;have Ov:g<w3.heap.size:=S.out.lt;clear Y UJ ee SF Rs HT;go_wp2_with (
  at_builtin
  refine bW (by rfl) (.tmp 31) (.tmp 32) 31 9 (by rfl) base 5 i0 zt hi eh ax cE (by rfl) sG.out _ s.data.toList (by rfl) (iN zN w3 s) ca (by rw[aa,aa];omega) ?_;intro u r y B bN Z;have F:Hid (jc B g c (.slice A b.size cap) C 0 0 p):=za (af.Ma S.out Z Ap.out);have ag:ra B o 9223372036854775807 s.size s.size (max 0 s.size):=af.Ma Ok.out Z (fun e=>by have:=GG.out _ e;omega);have LI:=za ag;have tW:=za Z;have M:Hid (bF B base 5 (.slice u r y) (b++s).data.toList):=za (by rw[bc];exact bN);obtain⟨al,_,_,_,_⟩:=F.out.parts;obtain⟨an,_,_,_,_⟩:=F.out.mH;have Sz:g<B.heap.size:=F.out.lt;clear bN Z ag)
 obtain⟨q,G⟩:∃q,B.setCell ⟨g,6,none⟩ (.slice u r y)=q:=⟨_,rfl⟩
 rw[G];have W:ae [g] B q:=by rw[<-G];exact(ae.refl _ _).setCell (.inl (by simp)) _
 have gK:Hid (jc q g c (.slice u r y) C 0 0 p):=za (by rw[<-G];exact jc.pj F.out _);have R:Hid ((Value.slice u r y).ownBlock≠some g/\(Value.slice u r y).ownBlock≠some o/\∀k,(Value.slice u r y).ownBlock=some k->(Value.slice A b.size cap).ownBlock=some k\/w.heap.size<=k):=za ⟨M.out.cy F.out (by decide),M.out.cy LI.out (by decide),fun k e=>by
  rcases tW.out.own with h|⟨j,h,d⟩
  ·exact .inl (by rw[<-h];exact e)
  rw[h]at e;injection e with e;exact .inr (by omega)⟩
 have SG:Hid (bF q base 5 (.slice u r y) (b++s).data.toList):=za (M.out.iV W (by intro j e d;simp at d;subst d;exact R.out.1 e));have GD:ra q o 9223372036854775807 s.size s.size (max 0 s.size):=af.only LI.out W (by simpa using UU);have Tc:Hid (ae (js g (.slice A b.size cap)) w q):=za (((N.out.mono (by simp[js])).trans' tW.out.only (fun i hi=> .inl (fW.2 (.inr (cg.1 hi))))).trans' W (by simp[js]));have DL:B.heap.size=q.heap.size:=by rw[<-G];simp[World.setCell]
 have aA:w.heap.size<=q.heap.size:=Tc.out.size;have O:=za (acd c g o base (.slice u r y) (b++s) C 0 p s.size (9223372036854775807-s.size) q hr hc (by rw[bK];omega) gK.out SG.out (by omega) ⟨_,_,_,GD,by omega,by omega,by omega⟩ UU R.out.2.1 (by omega) (NZ.out.more s));rw[HX.out]at O;simp only at O;clear G W F M gK SG GD LI N p6 al an Ok S sG tW;refine O.out.mono ?_;rintro e U ⟨rv,I,Oi,rfl,ad,K,SH,ao,ai,GI,SC⟩;obtain⟨A6,J,dM,rfl,U8,az,Su⟩:=ad.cF;obtain⟨a7,u7,q7,ah,_⟩:=ao;have Rm:=za (KF o a7 u7 (s.size+m) q7 U ah);obtain⟨_,_,_,p9,Td⟩:=jc.parts K;obtain⟨_,_,_,f9,f10⟩:=jc.mH K;have Y9:=K.lt;have aB:J<=200000:=by rw[U8.out];omega
 have ar:=za ad;have Ac:=za K;have SD:=za SH;have Yu:=za ai;have av:=za GI;have ay:=za SC;clear ad K SH ai GI SC ah O;go_wp2_with fail
 refine Rm.out.mono ?_;rintro e w7 ⟨rfl,rfl⟩;go_wp2_with fail
 go_quiet (fail)
 go_wp2;obtain⟨W8,L⟩:∃W8,(U.setCell ⟨g,9,none⟩ (.int .i64 ((s.size:Int)+m))).setCell ⟨g,10,none⟩ (.int .i64 ((p:Int)+J))=W8:=⟨_,rfl⟩
 have GJ:ae [g] U W8:=by rw[<-L];exact((ae.refl [g] U).setCell (.inl (by simp)) _).setCell (.inl (by simp)) _
 have au:jc W8 g c I Oi er (s.size+m) (p+l.length):=by
  have e1:((s.size:Int)+m)=((s.size+m:Nat):Int):=by omega
  have e2:((p:Int)+J)=((p+l.length:Nat):Int):=by rw[U8.out];omega
  rw[<-L,e1,e2];exact jc.C3 (jc.lU Ac.out _) _
 have ak:=SD.out.cy Ac.out (by decide);rw[L];clear L;refine zj (v:= .tuple #[.slice A6 J dM,.int .i64 er]) (by simp[results,results26,go_sem]) rfl ?_;refine⟨.slice A6 J dM,I,rfl, ?_,⟨jA,Oi,au.drewN nq, ?_,ay.out⟩, ?_, ?_⟩
 ·have h1:=(ar.out.only GJ (by simp;omega)).lower (lo':=w.heap.size) (by omega);exact h1.below (Below.bs (zm _ _) nq)
 ·exact(SD.out.iV GJ (by intro j e d;simp at d;subst d;exact ak e)).below (Below.bs (zm _ _) nq)
 ·refine ae.drewN ((Tc.out.trans' Yu.out ?_).trans' GJ (by simp[js])) nq;intro i hi;simp only[xe,cg]at hi;rcases hi with rfl|rfl|e
  ·exact .inr So
  ·exact .inl (by simp[js])
  rcases R.out.2.2 i e with h|h
  ·exact .inl (fW.2 (.inr h))
  exact .inr h
 intro k e;rcases av.out k e with h|h
 ·exact R.out.2.2 k h
 exact .inr (by omega)
theorem Q4 (base g:Nat)(b:Value)(c:aI)(x:eZ)(s:ByteArray)(w:World)(j:c.right=true)(r:c.ok)(h:iF w base g b c x)(m:base<=w.heap.size)(l:x.buf.size+s.size<=100000)(u:x.told<=1000000000):
 Calls prog 26 #[.pointer (some ⟨g,0,none⟩),.string s] w fun e w'=>∃rv i,e= .returned (.tuple #[rv,.int .i64 (iI (aw c) x s).2.2])/\nt w' w.heap.size rv (iI (aw c) x s).2.1/\iF w' base g i c (iI (aw c) x s).1/\ae (js g b) w w'/\(∀k,i.ownBlock=some k->b.ownBlock=some k\/w.heap.size<=k):=by
 by_cases d:x.fault=0
 ·exact Dt base g b c x s w j r h m d l u
 refine(AW base g b c x s w h d).mono fun e w' ⟨o,p,q⟩=>⟨.slice none 0 0,b, ?_, ?_, ?_,q.mono (by simp[js]),fun k n=> .inl n⟩
 ·rw[cc d];exact o
 ·rw[cc d];exact nt.nil _ _
 rw[cc d];exact p
