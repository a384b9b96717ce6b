/- rlp.Put. -/
import Derived.Test.YtimoclkoflamkaaGreatDoorKA24
import Derived.Test.YtimoclkoflamkaaGreatDoorKA17
set_option linter.all false
set_option maxRecDepth 100000
set_option maxHeartbeats 4000000
open Go.Proofs.Tryz
namespace Go.Proofs.YtimoclkoflamkaaGreatDoor
open Go.RowKit
def AO :List (List It×List UInt8)->Nat
 | []=>0
 |f::fs=>1+2*aC f.1+AO fs
theorem s7 (xs:List It)(b:List UInt8)(f:List It×List UInt8)(rest:List (List It×List UInt8)):ec xs b (f::rest)=ec f.1 (f.2++kP (b++fo xs)) rest:=by simp[ec]
theorem iq :∀(rest:List (List It×List UInt8)) (xs:List It) (b:List UInt8),b.length+(fo xs).length<=(ec xs b rest).length
 | [],xs,b=>by simp[ec]
 |f::rest,xs,b=>by
  rw[s7];have:=iq rest f.1 (f.2++kP (b++fo xs));simp only[zk,kP]at this⊢;omega
theorem Dp :∀(rest:List (List It×List UInt8)) (xs:List It) (b:List UInt8),rest.length<=(ec xs b rest).length
 | [],_,_=>by simp
 |f::rest,xs,b=>by
  have h:∀(r:List (List It×List UInt8)) (d:List It) (c:List UInt8),c.length+r.length<=(ec d c r).length:=by
   intro r;induction r with
   |nil=>intro d c;have:=iq [] d c;simp at this⊢;omega
   |cons g r ih=>
    intro d c;rw[s7];have i:=ih g.1 (g.2++kP (c++fo d));have e:=ee 192 (c++fo d).length;have j:1<=(cA 192 (c++fo d).length).length:=by rw[e];split<;>omega
    simp only[zk,kP,zz]at i e j⊢;omega
  have:=h (f::rest) xs b;omega
theorem AP (t:ByteArray)(s:List It)(h:t.size=1/\(t.data.toList.getD 0 0).toNat<128):(It.mk t false s).fy=t.data.toList:=by rw[It.fy,zi (by simp),zj h]
theorem AQ (t:ByteArray)(s:List It)(h:¬(t.size=1/\(t.data.toList.getD 0 0).toNat<128)):(It.mk t false s).fy=cA 128 t.size++t.data.toList:=by
 rw[It.fy,zi (by simp),zi h]
theorem Lay.first {w:World}{g:Nat}{b:Value}(h:w.heap[g]?=some (.cells #[b,nS] 208)){S:Nat}(hS:S<=g){xs:List It}{A:Option Addr}{c:Nat}(e:b= .slice A xs.length c)(d:xs.length<=c)(i:c<=9223372036854775807)(j:bK w S xs A 0):
 Lay w S g 1 [(xs,[])] [(b,nS)]:=
 ⟨⟨rfl,.inr ⟨g,1,_,rfl,hS,h,by simp,by simp[maxLen],rfl,rfl⟩⟩,⟨⟨⟨A,c,e,d,i,j⟩,bP.nil _ _ _⟩,(fun u hu=>by cases hu),trivial⟩⟩
theorem QA (x:It)(B:Nat)(w:World)(c0 c1 c2:Value)(h:bI w B x c0 c1 c2)(hB:B<=w.heap.size)(hm:x.may=true)(hl:x.fy.length<=1099511627776):
 Calls prog 113 #[.agg #[c0,c1,c2]] w fun e w'=>e= .returned (.tuple #[.string ⟨x.fy.toArray⟩,(0:Int)])/\(w,w'):=by
 have HC:=za (Qr x B (w.alloc (.cells #[c0,c1,c2] 28)) c0 c1 c2 (h.below (blm hB)) (by simp;omega));rw[hm]at HC;have HI:=za h;obtain⟨A,cap,rfl,rfl,rfl,_⟩:=h.open_;obtain⟨i0,hi,dF,cw,cF⟩:=yz wD;obtain⟨i1,kF,RV,RU,RW⟩:=yz F9;clear h hm;go_enter func113,ntmps113
 go_wp2_with fail
 refine HC.out.mono ?_;rintro e z ⟨rfl,hb⟩;have hz:=hb.size;simp only[zt]at hz;have cO:Hid (w,z):=za (((zm w.heap.size w).alloc (zd _) _).trans (hb.mono (by simp)));obtain⟨g0,g1,g2,_⟩:=bp ((ag.new w 28 #[x.text,x.list,.slice A x.sub.length cap]).ah hb (by simp));clear hb HC;go_wp2_with fail
 obtain⟨E,dS⟩:∃E,(z.alloc (.cells #[x.text,x.list,.slice A x.sub.length cap] 28)).alloc (.cells #[.slice (some (z.heap.size,0)) 1 1,nS] 208)=E:=⟨_,rfl⟩
 have dw:Hid (w,E):=za (by rw[<-dS];exact(cO.out.alloc (by omega) _).alloc (by simp;omega) _);have UO:=ag.new z 28 #[x.text,x.list,.slice A x.sub.length cap];have RX:=UO.alloc (.cells #[.slice (some (z.heap.size,0)) 1 1,nS] 208);rw[dS]at RX;obtain⟨q0,q1,q2,_⟩:=bp RX;have aJ:Hid (Lay E (z.heap.size+1) (z.heap.size+1) 1 [([x],[])] [(.slice (some (z.heap.size,0)) 1 1,nS)]):=za (by
  refine Lay.first (by rw[<-dS];have:=yM (z.alloc (.cells #[x.text,x.list,.slice A x.sub.length cap] 28)) (.cells #[.slice (some (z.heap.size,0)) 1 1,nS] 208);simpa using this) (zd _) (xs:= [x]) rfl (by simp) (by omega) ?_
  exact⟨⟨z.heap.size,0,_,_,_,rfl,by omega,by simpa using q0,by simpa using q1,by simpa using q2,(HI.out.below (dw.out.mono hB)).mono (by omega)⟩,trivial⟩)
 have JZ:Hid (z.heap.size+1<=E.heap.size):=za (by rw[<-dS];simp);rw[dS];have HT:=za hl;clear dS UO RX q0 q1 q2 g0 g1 g2 HI hl;obtain⟨S,hS⟩:∃S,z.heap.size+1=S:=⟨_,rfl⟩
 have a8:Hid (w.heap.size<=S):=za (by omega);rw[hS]at aJ JZ⊢;obtain⟨X,JY⟩:∃X,x.fy=X:=⟨_,rfl⟩
 rw[JY]at HT;have aW:=za JY;clear JY;go_loopg [5] (AO [([x],[])]) (fun k v wr=>∃(g C:Nat) (xs:List It) (b:List UInt8) (d:List (List It×List UInt8)) (v0 v1:Value) (F:List (Value×Value)),v= .slice (some (g,0)) (d.length+1) C/\Hid (Lay wr S g C ((xs,b)::d) ((v0,v1)::F))/\Hid (ec xs b d=X)/\Hid (AO ((xs,b)::d)<=k)/\Hid (Below S E wr))
 case atStart=>exact⟨S,1,[x],[],[],_,_,[],rfl,aJ,za (by rw[<-aW.out];simp[ec,fo]),za (zd _),za (zm _ _)⟩
 case round=>
  obtain⟨g,C,xs,b,d,v0,v1,F,rfl,K,J,HN,iB⟩:=hrel;have G6:=iB.out.size;have ae:S<=wr.heap.size:=zG JZ.out G6;obtain⟨t0,t1,LA,N4,aQ⟩:=K.out.top;have a':=K.out.block;obtain⟨Lz,Ai,pH,bC,_⟩:=a';obtain⟨⟨A1,k1,rfl,iW,bA,aK⟩,bH⟩:=K.out.lays.1;have M:=za bH;have JW:=za aK;obtain⟨H,n2,G,rfl,G1,pJ,bE⟩:=bH.cy;clear bH aK;dsimp only at t0 t1 aQ M G1 JW iW;simp only[zz]at pH;obtain⟨r,hr⟩:∃r,d.length=r:=⟨_,rfl⟩
  rw[hr]at t0 t1 LA N4 pH⊢;have D:=za hr;clear hr;have JH:k1<9223372036854775808:=by omega
  cases xs with
  |nil=>
   simp only[zO]at t0;cases d with
   |nil=>
    obtain rfl:r=0:=D.out.symm;have eu:=M.out.H' (P:=prog) zq yt zM;go_wp2;go_ret2
    refine⟨?_,dw.out.trans (iB.out.mono a8.out)⟩;have:=J.out;rw[aW.out,<-this];simp[ec,fo]
   |cons f rest=>
    obtain⟨r,rfl⟩:∃r',r=r'+1:=⟨r-1,by have:=D.out;simp at this;omega⟩
    have UM:Hid (rest.length=r):=za (by have:=D.out;simp at this;omega);obtain⟨⟨u0,u1⟩,us,rfl⟩:∃u us,F=u::us:=by
     cases F with
     |nil=>exact absurd K.out.lays.length (by simp)
     |cons u us=>exact⟨u,us,rfl⟩
    obtain⟨zs,c⟩:=f;have HP:=za K.out.pop;obtain⟨t2,t3,SR,aP,aV⟩:=HP.out.top;have ak:=za HP.out.lays.1.2;have aH:∀i,Value.ownBlock (.slice H n2 G)=some i->u1.ownBlock≠some i:=K.out.lays.2.1 (u0,u1) (by simp);rw[UM.out]at t2 t3 SR aP;dsimp only at t2 t3 ak;obtain⟨A3,n3,aG,rfl,Uu,bD,bF⟩:=ak.out.cy;have af:=iq rest zs (c++kP b);rw[<-o7,J.out]at af;simp only[zk,kP]at af;have Ee:=HT.out;have aI:b.length=n2:=G1.out.symm;have HH:=za (Qz 192 n2 S _ c wr ak.out ae (by omega) (by omega) (by omega));have aZ:=za aH;have Ox:=za aV;clear aQ aV aH aI af Ee;go_wp2_with fail
    refine HH.out.mono ?_;rintro e w2 ⟨v',rfl,ad,py⟩;obtain⟨N,O,R,rfl,Oo,a1,ba⟩:=ad.cy;have bf:=za ad;have SQ:=za py;have bl:Hid (bP w2 S 5 (.slice H n2 G) b):=za (M.out.ah fun k hk ho=>py.block hk (aZ.out k ho));have uJ:=py.size;have aR:(c++cA 192 n2).length+b.length<=1099511627776:=by
     have af:=iq rest zs (c++kP b);rw[<-o7,J.out]at af;have Ee:=HT.out;simp only[zk,kP]at af⊢;rw[G1.out];omega
    have aX:=za aR;clear ad py aR;go_wp2_with (at_builtin;refine ch (by rfl) (.tmp 57) (.tmp 58) 75 75 (by rfl) S 5 i0 zq hi dF cw cF (by rfl) bf.out _ b (by rfl) (Ka zq bl.out) (by omega) (zG aX.out (by omega)) ?_)
    intro A5 n5 al w3 gZ aA;have RY:=SQ.out.trans aA;have az:Value.ownBlock (.slice A3 n3 aG)≠some g:=by
     rcases Ox.out g with h|h
     ·exact h
     exact absurd rfl h
    have e3:w3.cell? (g,r*2+1)=some (.slice A3 n3 aG):=(RY.grown.cell_far (g,r*2+1) Ai (Zf az)).trans t3;have e4:w3.frozen? (g,r*2+1)=false:=(RY.grown.frozen_far (g,r*2+1) Ai (Zf az)).trans aP;have bn:Hid (Lay (w3.setCell (g,r*2+1) (.slice A5 n5 al)) S g C ((zs,c++(cA 192 n2++b))::rest) ((u0,.slice A5 n5 al)::us)):=za (by have:=HP.out.bytes ae RY gZ;rwa [UM.out]at this);have ax:Hid (Below S E (w3.setCell (g,r*2+1) (.slice A5 n5 al))):=za ((RY.below iB.out ae (fun i hi=>(ak.out.ge i hi).1)).setCell (by simpa using Lz) _);clear gZ aA RY az;go_wp2;go_roundg (gk-1)
    case measure=>have:=HN.out;simp[AO]at this;omega
    case rel=>
     refine⟨g,C,zs,c++(cA 192 n2++b),rest,u0,.slice A5 n5 al,us,by rw[UM.out],bn,za ?_,za ?_,ax⟩
     ·have:=J.out;rw[o7,kP,<-G1.out]at this;exact this
     have:=HN.out;simp[AO,aC]at this⊢;omega
  |cons y ys=>
   obtain⟨q,hq⟩:∃q,ys.length=q:=⟨_,rfl⟩
   obtain⟨⟨n,l,d0,d1,d2,rfl,JG,e0,e1,e2,hy⟩,aS⟩:=JW.out;have aD:=za aS.tail;obtain⟨ty,ly,j⟩:=y;obtain⟨rfl,rfl,oe,bq,I,Z,rfl,bh,bk,cY⟩:=hy;have ay:=za cY;simp only[Nat.zero_mul,xe]at e0 e1 e2;rw[zz,hq]at t0 iW;have HQ:=za hq;have bB:q+1<=9223372036854775807:=by omega
   clear aS cY hq;have mA:d.length<=1099511627776:=by
    have h1:=Dp d (It.mk ty ly j::ys) b;rw[J.out]at h1;have h2:=HT.out;omega
   rw[D.out]at mA;go_upto_region 14 with fail
   go_cut [] (fun m=>∃W,Hid (Lay m S g C ((ys,b)::d) ((W,.slice H n2 G)::F))/\Hid (Below S E m)/\Hid (ag m wr.heap.size 28 #[ty,ly,.slice I j.length Z])/\Hid (bK m S j I 0)/\Hid (m.heap.size=wr.heap.size+1))
   case first=>
    by_cases bd:k1=1
    ·subst bd;obtain rfl:q=0:=by omega
     have L:Hid (Lay (wr.setCell (g,r*2) (.slice (some (n,l)) 0 0)) S g C ((ys,b)::d) ((.slice (some (n,l)) 0 0,.slice H n2 G)::F)):=za (by
      obtain rfl:ys= []:=zo HQ.out;have:=K.out.items ae (xs':= []) (A:=some (n,l)) (c:=0) (by simp) (by simp) trivial;rwa [D.out]at this)
     go_wp2_with fail
     go_meet;case rel=>
      have aw:(wr.setCell (g,r*2) (.slice (some (n,l)) 0 0)).heap.size=wr.heap.size:=by simp[World.setCell]
      refine⟨.slice (some (n,l)) 0 0,za (L.out.below (by omega) ((zm _ _).alloc (zd _) _)),za ((iB.out.setCell (by simpa using Lz) _).alloc (by omega) _),za ?_,za ?_,za (by simp[World.setCell])⟩
      ·have:=ag.new (wr.setCell (g,r*2) (.slice (some (n,l)) 0 0)) 28 #[ty,ly,.slice I j.length Z];rwa [aw]at this
      refine bK.below (w:=wr.setCell (g,r*2) (.slice (some (n,l)) 0 0)) (ay.out.ah fun p hp=>zB (bM (by simp;omega))) (((zm _ _).alloc (zd _) _).mono (by omega))
    have L:Hid (Lay (wr.setCell (g,r*2) (.slice (some (n,l+3)) q (k1-1))) S g C ((ys,b)::d) ((.slice (some (n,l+3)) q (k1-1),.slice H n2 G)::F)):=za (by
     have:=K.out.items ae (xs':=ys) (A:=some (n,l+3)) (c:=k1-1) (by rw[HQ.out];omega) (by omega) aD.out;rwa [D.out,HQ.out]at this)
    go_wp2_with fail
    go_meet;case rel=>
     have aw:(wr.setCell (g,r*2) (.slice (some (n,l+3)) q (k1-1))).heap.size=wr.heap.size:=by simp[World.setCell]
     refine⟨.slice (some (n,l+3)) q (k1-1),za (L.out.below (by omega) ((zm _ _).alloc (zd _) _)),za ((iB.out.setCell (by simpa using Lz) _).alloc (by omega) _),za ?_,za ?_,za (by simp[World.setCell])⟩
     ·have:=ag.new (wr.setCell (g,r*2) (.slice (some (n,l+3)) q (k1-1))) 28 #[ty,ly,.slice I j.length Z];rwa [aw]at this
     refine bK.below (w:=wr.setCell (g,r*2) (.slice (some (n,l+3)) q (k1-1))) (ay.out.ah fun p hp=>zB (bM (by simp;omega))) (((zm _ _).alloc (zd _) _).mono (by omega))
   case rest=>
    obtain⟨W,L,ep,aj,bc,HZ⟩:=hcut;obtain⟨bu,bG,bw,bt,br,bs⟩:=bp aj.out;have bx:=aj.out.lt;have aN:g<wc.heap.size:=by have:=HZ.out;omega
    have au:S<=wc.heap.size:=by omega
    have bz:g≠wr.heap.size:=by omega
    clear ae Ai G6;clear t0 t1 LA N4 e0 e1 e2 JW aD ay K M;cases ly with
    |true=>
     have Bb:Hid (∀o,Lay (wc.alloc o) S g C ((ys,b)::d) ((W,.slice H n2 G)::F)):=za (fun o=>L.out.below (by omega) ((zm _ _).alloc (zd _) _));have JT:Hid (r+1=((ys,b)::d).length):=za (by simp[D.out]);have lu:Hid (∀o,bK (wc.alloc o) S j I 0):=za (fun o=>bc.out.below (((zm wc.heap.size wc).alloc (zd _) o).mono (by omega)));have Wm:Hid (ag (wc.alloc (.cells #[.slice I j.length Z,nS] 208)) wc.heap.size 208 #[.slice I j.length Z,nS]):=za (ag.new wc _ _);have gy:Hid (∀o,Below S E (wc.alloc o)):=za (fun o=>ep.out.alloc (by omega) o);have aL:Hid (∀o,S<=(wc.alloc o).heap.size):=za (fun o=>by simp;omega);go_wp2_with (at_builtin;refine Hid.out ?_)
     refine za ?_;refine qJ (by rfl) (.tmp 78) (.tmp 82) (by rfl) (Bb.out _) (aL.out _) JT.out (by rfl) bh bk (lu.out _) wc.heap.size (by rfl) (Wm.out.cell 0) (Wm.out.cell 1) (by rw[<-JT.out];omega) ?_;intro g' n' an w' a6 aY bg;have ax:Hid (Below S E w'):=za ((gy.out _).grown bg.out (aL.out _) (fun k hk=>by injection hk with hk;omega));go_wp2;go_roundg (gk-1)
     case measure=>have:=HN.out;simp[AO]at this;omega
     case rel=>
      refine⟨g',an,j,[],(ys,b)::d,.slice I j.length Z,nS,(W,.slice H n2 G)::F,by rw[a6.out],aY,za ?_,za ?_,ax⟩
      ·have:=J.out;rw[E3]at this;exact this
      have:=HN.out;simp[AO,aC,It.count]at this⊢;omega
    |false=>
     go_upto_region 17 with fail
     go_cut [93] (fun s m=>∃bb:Bool,s= .bool bb/\Hid (bb=false↔(ty.size=1/\(ty.data.toList.getD 0 0).toNat<128))/\m=wc)
     case first=>
      by_cases G8:ty.size=1
      ·have uN:((ty.size:Int) !=1)=false:=by simp[G8]
       have Ad:((ty.size:Int)==1)=true:=by simp[G8]
       have AT:0<ty.size:=by omega
       have bm:Hid (ty.data.toList.getD 0 0=ty[0]):=za (by rw[zw,iu ty 0 AT];rfl);go_wp2_with fail
       go_meet;case rel=>
        rw[bm.out];refine⟨_,rfl,za ?_,rfl⟩;simp[G8];omega
      have uN:((ty.size:Int) !=1)=true:=by simp;omega
      have Ad:((ty.size:Int)==1)=false:=by simp;omega
      go_wp2_with fail
      go_meet;case rel=>exact⟨_,rfl,za (by simp[G8]),rfl⟩
     case rest=>
      obtain⟨bb,rfl,Bc,rfl⟩:=hcut;go_upto_if 93 with fail
      go_cut [] (fun m=>∃U N O R,Hid (Lay m S g C ((ys,U)::d) ((W,.slice N O R)::F))/\Hid (Below S E m)/\Hid (ag m wr.heap.size 28 #[ty,false,.slice I j.length Z])/\Hid (U++ty.data.toList=b++(It.mk ty false j).fy))
      case first=>
       cases bb with
       |false=>
        have aq:Hid ((It.mk ty false j).fy=ty.data.toList):=za (AP ty j (Bc.out.1 rfl));go_wp2_with fail
        go_meet;case rel=>exact⟨b,H,n2,G,L,ep,aj,za (by rw[aq.out])⟩
       |true=>
        have aq:Hid ((It.mk ty false j).fy=cA 128 ty.size++ty.data.toList):=za (AQ ty j (fun h=>by have:=Bc.out.2 h;cases this));obtain⟨_,s1,_,aO,aU⟩:=L.out.top;rw[D.out]at s1 aO;have Oy:Hid (some g≠Value.ownBlock (.slice H n2 G)):=za (by
         rcases aU g with h|h
         ·exact Zf h
         exact absurd rfl h)
        have M:=za L.out.lays.1.2;have bo:=G1.out;have Y:=iq d ys (b++(It.mk ty false j).fy);rw[<-mT,J.out,aq.out]at Y;simp only[zk,aa]at Y;have YO:=HT.out;have LB:=za (Qz 128 ty.size S (.slice H n2 G) b wc.drew M.out au (by omega) (by omega) (by omega));clear bo Y YO aU;go_wp2_with fail
        go_region_law (first|(go_simp;go_at_call 152;refine LB.out.mono ?_;rintro e m ⟨v',rfl,ad,ah⟩;obtain⟨N,O,R,rfl,Oo,a1,ba⟩:=ad.cy;have e3:m.cell? (g,r*2+1)=some (.slice H n2 G):=(ah.grown.cell_far (g,r*2+1) aN Oy.out).trans s1;have e4:m.frozen? (g,r*2+1)=false:=(ah.grown.frozen_far (g,r*2+1) aN Oy.out).trans aO))
        all_goals
         go_wp2_with fail
         go_meet;case rel=>
          refine⟨b++cA 128 ty.size,N,O,R,za ?_,za ?_,za ?_,za ?_⟩
          ·have:=Lay.bytes (w:=wc.drew) (L.out.below au (zm _ _).drew) au ah ad;rwa [D.out]at this
          ·exact(ah.below ep.out.drew au (fun i hi=>(M.out.ge i hi).1)).setCell (by simpa using Lz) _
          ·exact ag.dE (ag.Sr (w:=wc.drew) aj.out ah (fun e=>by
            obtain⟨_,_,cu,fr,h2⟩:=M.out.ge _ e;have h3:=aj.out;rw[ag,h2]at h3;injection h3 with h3;injection h3 with _ h3;exact absurd h3 (by decide))) (by intro e;dsimp only at e;omega) _
          rw[aq.out,zC]
      case rest=>
       obtain⟨U,N,O,R,Lr,aE,a7,aF⟩:=hcut;have av:S<=wc.heap.size:=zG JZ.out aE.out.size;have An:g<wc.heap.size:=Lr.out.block.2.1;obtain⟨_,s4,_,aM,aT⟩:=Lr.out.top;rw[D.out]at s4 aM;have aB:Hid (some g≠Value.ownBlock (.slice N O R)):=za (by
        rcases aT g with h|h
        ·exact Zf h
        exact absurd rfl h)
       obtain⟨i4,_,_,_,_,_⟩:=bp a7.out;have ey:=za Lr.out.lays.1.2;have Y:=iq d ys (b++(It.mk ty false j).fy);rw[<-mT,J.out,<-aF.out]at Y;simp only[zk]at Y;have YO:=HT.out;have DL:Hid (U.length+ty.data.toList.length<=140737488355328):=za (by omega);clear Y YO aT;go_wp2_with fail
       go_region_law (refine rB (by rfl) (.tmp 110) (.tmp 112) 75 9 (by rfl) S 5 i0 zq hi dF cw cF (by rfl) (show bP wc.drew S 5 (.slice N O R) U from ey.out) _ ty.data.toList (by rfl) (iz zM _ ty) av DL.out ?_;intro A6 n6 ar w6 mh ai;have e5:w6.cell? (g,r*2+1)=some (.slice N O R):=(ai.grown.cell_far (g,r*2+1) An aB.out).trans s4;have e6:w6.frozen? (g,r*2+1)=false:=(ai.grown.frozen_far (g,r*2+1) An aB.out).trans aM)
       all_goals
        have bj:Hid (Lay (w6.setCell (g,r*2+1) (.slice A6 n6 ar)) S g C ((ys,U++ty.data.toList)::d) ((W,.slice A6 n6 ar)::F)):=za (by
         have:=Lay.bytes (w:=wc.drew) (Lr.out.below av (zm _ _).drew) av ai mh;rwa [D.out]at this)
        have ua:Hid (Below S E (w6.setCell (g,r*2+1) (.slice A6 n6 ar))):=za ((ai.below aE.out.drew av (fun i hi=>(ey.out.ge i hi).1)).setCell (by simpa using Lz) _);clear mh ai;go_wp2;go_roundg (gk-1)
        case measure=>have:=HN.out;simp[AO]at this;omega
        case rel=>
         refine⟨g,C,ys,U++ty.data.toList,d,W,.slice A6 n6 ar,F,by rw[D.out],bj,za ?_,za ?_,ua⟩
         ·rw[aF.out,<-mT];exact J.out
         have:=HN.out;have:=rz (It.mk ty false j);simp[AO,aC]at this⊢;have h5:=HN.out;simp[AO,aC]at h5;omega
