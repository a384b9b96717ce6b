/- rlp.Put. -/
import Derived.Test.YtdbmifjankgfpaaGreatDoorKA29
import Derived.Test.YtdbmifjankgfpaaGreatDoorKA22
set_option linter.all false
set_option maxRecDepth 100000
set_option maxHeartbeats 4000000
open Go.Proofs.Tryz
namespace Go.Proofs.YtdbmifjankgfpaaGreatDoor
open Go.RowKit
def Bh :List (List It×List UInt8)->Nat
 | []=>0
 |f::fs=>1+2*aM f.1+Bh fs
theorem tq (xs:List It)(b:List UInt8)(f:List It×List UInt8)(rest:List (List It×List UInt8)):ep xs b (f::rest)=ep f.1 (f.2++lk (b++gH xs)) rest:=by simp[ep]
theorem iy :∀(rest:List (List It×List UInt8)) (xs:List It) (b:List UInt8),b.length+(gH xs).length<=(ep xs b rest).length
 | [],xs,b=>by simp[ep]
 |f::rest,xs,b=>by
  rw[tq];have:=iy rest f.1 (f.2++lk (b++gH xs));simp only[zj,lk]at this⊢;omega
theorem DB :∀(rest:List (List It×List UInt8)) (xs:List It) (b:List UInt8),rest.length<=(ep xs b rest).length
 | [],_,_=>by simp
 |f::rest,xs,b=>by
  have h:∀(r:List (List It×List UInt8)) (d:List It) (c:List UInt8),c.length+r.length<=(ep d c r).length:=by
   intro r;induction r with
   |nil=>intro d c;have:=iy [] d c;simp at this⊢;omega
   |cons g r ih=>
    intro d c;rw[tq];have i:=ih g.1 (g.2++lk (c++gH d));have e:=fy 192 (c++gH d).length;have j:1<=(cK 192 (c++gH d).length).length:=by rw[e];split<;>omega
    simp only[zj,lk,zw]at i e j⊢;omega
  have:=h (f::rest) xs b;omega
theorem Bi (t:ByteArray)(s:List It)(h:t.size=1/\(t.data.toList.getD 0 0).toNat<128):(It.mk t false s).gI=t.data.toList:=by rw[It.gI,zh (by simp),zi h]
theorem Bj (t:ByteArray)(s:List It)(h:¬(t.size=1/\(t.data.toList.getD 0 0).toNat<128)):(It.mk t false s).gI=cK 128 t.size++t.data.toList:=by
 rw[It.gI,zh (by simp),zh h]
theorem Lay.first {w:World}{g:Nat}{b:Value}(h:w.heap[g]?=some (.cells #[b,.slice none 0 0] 226)){S:Nat}(hS:S<=g){xs:List It}{A:Option Addr}{c:Nat}(e:b= .slice A xs.length c)(d:xs.length<=c)(i:c<=9223372036854775807)(j:cc w S xs A 0):
 Lay w S g 1 [(xs,[])] [(b,.slice none 0 0)]:=
 ⟨⟨rfl,.inr ⟨g,1,_,rfl,hS,h,by simp,by simp[maxLen],rfl,rfl⟩⟩,⟨⟨⟨A,c,e,d,i,j⟩,bL.nil _ _ _⟩,(fun u hu=>by cases hu),trivial⟩⟩
theorem QI (x:It)(B:Nat)(w:World)(c0 c1 c2:Value)(h:dg w B x c0 c1 c2)(hB:B<=w.heap.size)(hm:x.may=true)(hl:x.gI.length<=1099511627776):
 Calls prog 147 #[.agg #[c0,c1,c2]] w fun e w'=>e= .returned (.tuple #[.string ⟨x.gI.toArray⟩,.int .i64 0])/\Below w.heap.size w w':=by
 have HC:=za (Vz x B (w.alloc (.cells #[c0,c1,c2] 28)) c0 c1 c2 (h.below (blm hB)) (by simp;omega));rw[hm]at HC;have HI:=za h;obtain⟨A,cap,rfl,rfl,rfl,_⟩:=h.open_;obtain⟨i0,hi,ea,cl,cC⟩:=yE wG;obtain⟨i1,lM,R4,R5,RZ⟩:=yE Gf;clear h hm;go_enter func147,ntmps147
 go_wp2_with fail
 refine HC.out.mono ?_;rintro e z ⟨rfl,hb⟩;have hz:=hb.size;simp only[zp]at hz;have ch:Hid (Below w.heap.size w z):=za (((zl w.heap.size w).alloc (zd _) _).trans (hb.mono (by simp)));obtain⟨g0,g1,g2,_⟩:=bg ((af.new w 28 #[.string x.text,.bool x.list,.slice A x.sub.length cap]).ag hb (by simp));clear hb HC;go_wp2_with fail
 obtain⟨C,cm⟩:∃C,(z.alloc (.cells #[.string x.text,.bool x.list,.slice A x.sub.length cap] 28)).alloc (.cells #[.slice (some ⟨z.heap.size,0,none⟩) 1 1,.slice none 0 0] 226)=C:=⟨_,rfl⟩
 have cG:Hid (Below w.heap.size w C):=za (by rw[<-cm];exact(ch.out.alloc (by omega) _).alloc (by simp;omega) _);have UR:=af.new z 28 #[.string x.text,.bool x.list,.slice A x.sub.length cap];have R6:=UR.alloc (.cells #[.slice (some ⟨z.heap.size,0,none⟩) 1 1,.slice none 0 0] 226);rw[cm]at R6;obtain⟨q0,q1,q2,_⟩:=bg R6;have aJ:Hid (Lay C (z.heap.size+1) (z.heap.size+1) 1 [([x],[])] [(.slice (some ⟨z.heap.size,0,none⟩) 1 1,.slice none 0 0)]):=za (by
  refine Lay.first (by rw[<-cm];have:=yM (z.alloc (.cells #[.string x.text,.bool x.list,.slice A x.sub.length cap] 28)) (.cells #[.slice (some ⟨z.heap.size,0,none⟩) 1 1,.slice none 0 0] 226);simpa using this) (zd _) (xs:= [x]) rfl (by simp) (by omega) ?_
  exact⟨⟨z.heap.size,0,_,_,_,rfl,by omega,by simpa using q0,by simpa using q1,by simpa using q2,(HI.out.below (cG.out.mono hB)).mono (by omega)⟩,trivial⟩)
 have OI:Hid (z.heap.size+1<=C.heap.size):=za (by rw[<-cm];simp);rw[cm];have HT:=za hl;clear cm UR R6 q0 q1 q2 g0 g1 g2 HI hl;obtain⟨S,hS⟩:∃S,z.heap.size+1=S:=⟨_,rfl⟩
 have aX:Hid (w.heap.size<=S):=za (by omega);rw[hS]at aJ OI⊢;obtain⟨X,BA⟩:∃X,x.gI=X:=⟨_,rfl⟩
 rw[BA]at HT;have aN:=za BA;clear BA;go_loopg [5] (Bh [([x],[])]) (fun k v wr=>∃(g D:Nat) (xs:List It) (b:List UInt8) (d:List (List It×List UInt8)) (v0 v1:Value) (F:List (Value×Value)),v= .slice (some ⟨g,0,none⟩) (d.length+1) D/\Hid (Lay wr S g D ((xs,b)::d) ((v0,v1)::F))/\Hid (ep xs b d=X)/\Hid (Bh ((xs,b)::d)<=k)/\Hid (Below S C wr))
 case atStart=>exact⟨S,1,[x],[],[],_,_,[],rfl,aJ,za (by rw[<-aN.out];simp[ep,gH]),za (zd _),za (zl _ _)⟩
 case round=>
  obtain⟨g,D,xs,b,d,v0,v1,F,rfl,I,J,HN,fS⟩:=hrel;have LJ:=fS.out.size;have ad:S<=wr.heap.size:=zF OI.out LJ;obtain⟨t0,t1,LV,Oa,aI⟩:=I.out.top;have bp:=I.out.block;obtain⟨LU,AK,pX,bD,_⟩:=bp;obtain⟨⟨A1,k1,rfl,iA,bF,aG⟩,bH⟩:=I.out.lays.1;have O:=za bH;have J9:=za aG;obtain⟨G,n2,H,rfl,DV,AH,bJ⟩:=bH.bT;clear bH aG;dsimp only at t0 t1 aI O DV J9 iA;simp only[zw]at pX;obtain⟨r,hr⟩:∃r,d.length=r:=⟨_,rfl⟩
  rw[hr]at t0 t1 LV Oa pX⊢;have E:=za hr;clear hr;have Bq:k1<9223372036854775808:=by omega
  cases xs with
  |nil=>
   simp only[zL]at t0;cases d with
   |nil=>
    obtain rfl:r=0:=E.out.symm;have ey:=O.out.EV (P:=prog) zr yb zG;go_wp2;go_ret2
    refine⟨?_,cG.out.trans (fS.out.mono aX.out)⟩;have:=J.out;rw[aN.out,<-this];simp[ep,gH]
   |cons f rest=>
    obtain⟨r,rfl⟩:∃r',r=r'+1:=⟨r-1,by have:=E.out;simp at this;omega⟩
    have OG:Hid (rest.length=r):=za (by have:=E.out;simp at this;omega);obtain⟨⟨u0,u1⟩,us,rfl⟩:∃u us,F=u::us:=by
     cases F with
     |nil=>exact absurd I.out.lays.length (by simp)
     |cons u us=>exact⟨u,us,rfl⟩
    obtain⟨zs,c⟩:=f;have HP:=za I.out.pop;obtain⟨t2,t3,Tb,aK,aV⟩:=HP.out.top;have al:=za HP.out.lays.1.2;have aT:∀i,Value.ownBlock (.slice G n2 H)=some i->u1.ownBlock≠some i:=I.out.lays.2.1 (u0,u1) (by simp);rw[OG.out]at t2 t3 Tb aK;dsimp only at t2 t3 al;obtain⟨A3,n3,aD,rfl,bw,bt,bG⟩:=al.out.bT;have ae:=iy rest zs (c++lk b);rw[<-pg,J.out]at ae;simp only[zj,lk]at ae;have Ep:=HT.out;have aS:b.length=n2:=DV.out.symm;have HH:=za (QH 192 n2 S _ c wr al.out ad (by omega) (by omega) (by omega));have bm:=za aT;have ba:=za aV;clear aI aV aT aS ae Ep;go_wp2_with fail
    refine HH.out.mono ?_;rintro e w2 ⟨v',rfl,ag,tM⟩;obtain⟨M,R,N,rfl,SX,bo,bk⟩:=ag.bT;have bc:=za ag;have bq:=za tM;have bl:Hid (bL w2 S 5 (.slice G n2 H) b):=za (O.out.ag fun k hk ho=>tM.block hk (bm.out k ho));have ry:=tM.size;have aR:(c++cK 192 n2).length+b.length<=1099511627776:=by
     have ae:=iy rest zs (c++lk b);rw[<-pg,J.out]at ae;have Ep:=HT.out;simp only[zj,lk]at ae⊢;rw[DV.out];omega
    have UY:=za aR;clear ag tM aR;go_wp2_with (at_builtin;refine cx (by rfl) (.tmp 57) (.tmp 58) 31 31 (by rfl) S 5 i0 zr hi ea cl cC (by rfl) bc.out _ b (by rfl) (Ks zr bl.out) (by omega) (zF UY.out (by omega)) ?_)
    intro A5 n5 an w3 jl aO;have R7:=bq.out.trans aO;have aw:Value.ownBlock (.slice A3 n3 aD)≠some g:=by
     rcases ba.out g with h|h
     ·exact h
     exact absurd rfl h
    have e3:w3.cell? ⟨g,r*2+1,none⟩=some (.slice A3 n3 aD):=(R7.grown.cell_far ⟨g,r*2+1,none⟩ AK (Zh aw)).trans t3;have e4:w3.frozen? ⟨g,r*2+1,none⟩=false:=(R7.grown.frozen_far ⟨g,r*2+1,none⟩ AK (Zh aw)).trans aK;have bn:Hid (Lay (w3.setCell ⟨g,r*2+1,none⟩ (.slice A5 n5 an)) S g D ((zs,c++(cK 192 n2++b))::rest) ((u0,.slice A5 n5 an)::us)):=za (by have:=HP.out.bytes ad R7 jl;rwa [OG.out]at this);have aA:Hid (Below S C (w3.setCell ⟨g,r*2+1,none⟩ (.slice A5 n5 an))):=za ((R7.below fS.out ad (fun i hi=>(al.out.ge i hi).1)).setCell (by simpa using LU) _);clear jl aO R7 aw;go_wp2;go_roundg (gk-1)
    case measure=>have:=HN.out;simp[Bh]at this;omega
    case rel=>
     refine⟨g,D,zs,c++(cK 192 n2++b),rest,u0,.slice A5 n5 an,us,by rw[OG.out],bn,za ?_,za ?_,aA⟩
     ·have:=J.out;rw[pg,lk,<-DV.out]at this;exact this
     have:=HN.out;simp[Bh,aM]at this⊢;omega
  |cons y ys=>
   obtain⟨q,hq⟩:∃q,ys.length=q:=⟨_,rfl⟩
   obtain⟨⟨m,l,d0,d1,d2,rfl,JN,e0,e1,e2,hy⟩,aP⟩:=J9.out;have aB:=za aP.tail;obtain⟨ty,ly,j⟩:=y;obtain⟨rfl,rfl,oG,bA,K,W,rfl,bf,aZ,eH⟩:=hy;have ay:=za eH;simp only[Nat.zero_mul,y8]at e0 e1 e2;rw[zw,hq]at t0 iA;have HQ:=za hq;have bI:q+1<=9223372036854775807:=by omega
   clear aP eH hq;have mD:d.length<=1099511627776:=by
    have h1:=DB d (It.mk ty ly j::ys) b;rw[J.out]at h1;have h2:=HT.out;omega
   rw[E.out]at mD;go_upto_region 14 with fail
   go_cut [] (fun n=>∃U,Hid (Lay n S g D ((ys,b)::d) ((U,.slice G n2 H)::F))/\Hid (Below S C n)/\Hid (af n wr.heap.size 28 #[.string ty,.bool ly,.slice K j.length W])/\Hid (cc n S j K 0)/\Hid (n.heap.size=wr.heap.size+1))
   case first=>
    by_cases bj:k1=1
    ·subst bj;obtain rfl:q=0:=by omega
     have L:Hid (Lay (wr.setCell ⟨g,r*2,none⟩ (.slice (some ⟨m,l,none⟩) 0 0)) S g D ((ys,b)::d) ((.slice (some ⟨m,l,none⟩) 0 0,.slice G n2 H)::F)):=za (by
      obtain rfl:ys= []:=zo HQ.out;have:=I.out.items ad (xs':= []) (A:=some ⟨m,l,none⟩) (c:=0) (by simp) (by simp) trivial;rwa [E.out]at this)
     go_wp2_with fail
     go_meet;case rel=>
      have az:(wr.setCell ⟨g,r*2,none⟩ (.slice (some ⟨m,l,none⟩) 0 0)).heap.size=wr.heap.size:=by simp[World.setCell]
      refine⟨.slice (some ⟨m,l,none⟩) 0 0,za (L.out.below (by omega) ((zl _ _).alloc (zd _) _)),za ((fS.out.setCell (by simpa using LU) _).alloc (by omega) _),za ?_,za ?_,za (by simp[World.setCell])⟩
      ·have:=af.new (wr.setCell ⟨g,r*2,none⟩ (.slice (some ⟨m,l,none⟩) 0 0)) 28 #[.string ty,.bool ly,.slice K j.length W];rwa [az]at this
      refine cc.below (w:=wr.setCell ⟨g,r*2,none⟩ (.slice (some ⟨m,l,none⟩) 0 0)) (ay.out.ag fun p hp=>zD (bK (by simp;omega))) (((zl _ _).alloc (zd _) _).mono (by omega))
    have L:Hid (Lay (wr.setCell ⟨g,r*2,none⟩ (.slice (some ⟨m,l+3,none⟩) q (k1-1))) S g D ((ys,b)::d) ((.slice (some ⟨m,l+3,none⟩) q (k1-1),.slice G n2 H)::F)):=za (by
     have:=I.out.items ad (xs':=ys) (A:=some ⟨m,l+3,none⟩) (c:=k1-1) (by rw[HQ.out];omega) (by omega) aB.out;rwa [E.out,HQ.out]at this)
    go_wp2_with fail
    go_meet;case rel=>
     have az:(wr.setCell ⟨g,r*2,none⟩ (.slice (some ⟨m,l+3,none⟩) q (k1-1))).heap.size=wr.heap.size:=by simp[World.setCell]
     refine⟨.slice (some ⟨m,l+3,none⟩) q (k1-1),za (L.out.below (by omega) ((zl _ _).alloc (zd _) _)),za ((fS.out.setCell (by simpa using LU) _).alloc (by omega) _),za ?_,za ?_,za (by simp[World.setCell])⟩
     ·have:=af.new (wr.setCell ⟨g,r*2,none⟩ (.slice (some ⟨m,l+3,none⟩) q (k1-1))) 28 #[.string ty,.bool ly,.slice K j.length W];rwa [az]at this
     refine cc.below (w:=wr.setCell ⟨g,r*2,none⟩ (.slice (some ⟨m,l+3,none⟩) q (k1-1))) (ay.out.ag fun p hp=>zD (bK (by simp;omega))) (((zl _ _).alloc (zd _) _).mono (by omega))
   case rest=>
    obtain⟨U,L,du,ah,a8,HZ⟩:=hcut;obtain⟨bz,bE,bu,bx,bC,bB⟩:=bg ah.out;have br:=ah.out.lt;have aW:g<wc.heap.size:=by have:=HZ.out;omega
    have au:S<=wc.heap.size:=by omega
    have bs:g≠wr.heap.size:=by omega
    clear ad AK LJ;clear t0 t1 LV Oa e0 e1 e2 J9 aB ay I O;cases ly with
    |true=>
     have N9:Hid (∀o,Lay (wc.alloc o) S g D ((ys,b)::d) ((U,.slice G n2 H)::F)):=za (fun o=>L.out.below (by omega) ((zl _ _).alloc (zd _) _));have OE:Hid (r+1=((ys,b)::d).length):=za (by simp[E.out]);have J6:Hid (∀o,cc (wc.alloc o) S j K 0):=za (fun o=>a8.out.below (((zl wc.heap.size wc).alloc (zd _) o).mono (by omega)));have aF:Hid (af (wc.alloc (.cells #[.slice K j.length W,.slice none 0 0] 226)) wc.heap.size 226 #[.slice K j.length W,.slice none 0 0]):=za (af.new wc _ _);have jJ:Hid (∀o,Below S C (wc.alloc o)):=za (fun o=>du.out.alloc (by omega) o);have Wm:Hid (∀o,S<=(wc.alloc o).heap.size):=za (fun o=>by simp;omega);go_wp2_with (at_builtin;refine Hid.out ?_)
     refine za ?_;refine qR (by rfl) (.tmp 78) (.tmp 82) (by rfl) (N9.out _) (Wm.out _) OE.out (by rfl) bf aZ (J6.out _) wc.heap.size (by rfl) (aF.out.cell 0) (aF.out.cell 1) (by rw[<-OE.out];omega) ?_;intro g' n' aq w' a6 a1 aY;have aA:Hid (Below S C w'):=za ((jJ.out _).grown aY.out (Wm.out _) (fun k hk=>by injection hk with hk;omega));go_wp2;go_roundg (gk-1)
     case measure=>have:=HN.out;simp[Bh]at this;omega
     case rel=>
      refine⟨g',aq,j,[],(ys,b)::d,.slice K j.length W,.slice none 0 0,(U,.slice G n2 H)::F,by rw[a6.out],a1,za ?_,za ?_,aA⟩
      ·have:=J.out;rw[Fm]at this;exact this
      have:=HN.out;simp[Bh,aM,It.count]at this⊢;omega
    |false=>
     go_upto_region 17 with fail
     go_cut [93] (fun s n=>∃bb:Bool,s= .bool bb/\Hid (bb=false↔(ty.size=1/\(ty.data.toList.getD 0 0).toNat<128))/\n=wc)
     case first=>
      by_cases D6:ty.size=1
      ·have Et:((ty.size:Int) !=1)=false:=by simp[D6]
       have R8:((ty.size:Int)==1)=true:=by simp[D6]
       have Br:0<ty.size:=by omega
       have bd:Hid (ty.data.toList.getD 0 0=ty[0]):=za (by rw[zv,gL ty 0 Br];rfl);go_wp2_with fail
       go_meet;case rel=>
        rw[bd.out];refine⟨_,rfl,za ?_,rfl⟩;simp[D6];omega
      have Et:((ty.size:Int) !=1)=true:=by simp;omega
      have R8:((ty.size:Int)==1)=false:=by simp;omega
      go_wp2_with fail
      go_meet;case rel=>exact⟨_,rfl,za (by simp[D6]),rfl⟩
     case rest=>
      obtain⟨bb,rfl,He,rfl⟩:=hcut;go_upto_if 93 with fail
      go_cut [] (fun n=>∃Z M R N,Hid (Lay n S g D ((ys,Z)::d) ((U,.slice M R N)::F))/\Hid (Below S C n)/\Hid (af n wr.heap.size 28 #[.string ty,.bool false,.slice K j.length W])/\Hid (Z++ty.data.toList=b++(It.mk ty false j).gI))
      case first=>
       cases bb with
       |false=>
        have av:Hid ((It.mk ty false j).gI=ty.data.toList):=za (Bi ty j (He.out.1 rfl));go_wp2_with fail
        go_meet;case rel=>exact⟨b,G,n2,H,L,du,ah,za (by rw[av.out])⟩
       |true=>
        have av:Hid ((It.mk ty false j).gI=cK 128 ty.size++ty.data.toList):=za (Bj ty j (fun h=>by have:=He.out.2 h;cases this));obtain⟨_,s1,_,aH,aQ⟩:=L.out.top;rw[E.out]at s1 aH;have OH:Hid (some g≠Value.ownBlock (.slice G n2 H)):=za (by
         rcases aQ g with h|h
         ·exact Zh h
         exact absurd rfl h)
        have O:=za L.out.lays.1.2;have a':=DV.out;have Y:=iy d ys (b++(It.mk ty false j).gI);rw[<-nz,J.out,av.out]at Y;simp only[zj,aa]at Y;have ax:=HT.out;have LY:=za (QH 128 ty.size S (.slice G n2 H) b wc.drew O.out au (by omega) (by omega) (by omega));clear a' Y ax aQ;go_wp2_with fail
        go_region_law (first|(go_simp;go_at_call 173;refine LY.out.mono ?_;rintro e n ⟨v',rfl,ag,aj⟩;obtain⟨M,R,N,rfl,SX,bo,bk⟩:=ag.bT;have e3:n.cell? ⟨g,r*2+1,none⟩=some (.slice G n2 H):=(aj.grown.cell_far ⟨g,r*2+1,none⟩ aW OH.out).trans s1;have e4:n.frozen? ⟨g,r*2+1,none⟩=false:=(aj.grown.frozen_far ⟨g,r*2+1,none⟩ aW OH.out).trans aH))
        all_goals
         go_wp2_with fail
         go_meet;case rel=>
          refine⟨b++cK 128 ty.size,M,R,N,za ?_,za ?_,za ?_,za ?_⟩
          ·have:=Lay.bytes (w:=wc.drew) (L.out.below au (zl _ _).drew) au aj ag;rwa [E.out]at this
          ·exact(aj.below du.out.drew au (fun i hi=>(O.out.ge i hi).1)).setCell (by simpa using LU) _
          ·exact af.dK (af.Ts (w:=wc.drew) ah.out aj (fun e=>by
            obtain⟨_,_,cu,fr,h2⟩:=O.out.ge _ e;have h3:=ah.out;rw[af,h2]at h3;injection h3 with h3;injection h3 with _ h3;exact absurd h3 (by decide))) (by intro e;dsimp only at e;omega) _
          rw[av.out,zB]
      case rest=>
       obtain⟨Z,M,R,N,LQ,aC,a7,LW⟩:=hcut;have ar:S<=wc.heap.size:=zF OI.out aC.out.size;have D9:g<wc.heap.size:=LQ.out.block.2.1;obtain⟨_,s4,_,aU,aE⟩:=LQ.out.top;rw[E.out]at s4 aU;have aL:Hid (some g≠Value.ownBlock (.slice M R N)):=za (by
        rcases aE g with h|h
        ·exact Zh h
        exact absurd rfl h)
       obtain⟨i4,_,_,_,_,_⟩:=bg a7.out;have ei:=za LQ.out.lays.1.2;have Y:=iy d ys (b++(It.mk ty false j).gI);rw[<-nz,J.out,<-LW.out]at Y;simp only[zj]at Y;have ax:=HT.out;have AM:Hid (Z.length+ty.data.toList.length<=140737488355328):=za (by omega);clear Y ax aE;go_wp2_with fail
       go_region_law (refine rL (by rfl) (.tmp 110) (.tmp 112) 31 9 (by rfl) S 5 i0 zr hi ea cl cC (by rfl) (show bL wc.drew S 5 (.slice M R N) Z from ei.out) _ ty.data.toList (by rfl) (jt zG _ ty) ar AM.out ?_;intro A6 n6 ak w6 oH ai;have e5:w6.cell? ⟨g,r*2+1,none⟩=some (.slice M R N):=(ai.grown.cell_far ⟨g,r*2+1,none⟩ D9 aL.out).trans s4;have e6:w6.frozen? ⟨g,r*2+1,none⟩=false:=(ai.grown.frozen_far ⟨g,r*2+1,none⟩ D9 aL.out).trans aU)
       all_goals
        have bh:Hid (Lay (w6.setCell ⟨g,r*2+1,none⟩ (.slice A6 n6 ak)) S g D ((ys,Z++ty.data.toList)::d) ((U,.slice A6 n6 ak)::F)):=za (by
         have:=Lay.bytes (w:=wc.drew) (LQ.out.below ar (zl _ _).drew) ar ai oH;rwa [E.out]at this)
        have sD:Hid (Below S C (w6.setCell ⟨g,r*2+1,none⟩ (.slice A6 n6 ak))):=za ((ai.below aC.out.drew ar (fun i hi=>(ei.out.ge i hi).1)).setCell (by simpa using LU) _);clear oH ai;go_wp2;go_roundg (gk-1)
        case measure=>have:=HN.out;simp[Bh]at this;omega
        case rel=>
         refine⟨g,D,ys,Z++ty.data.toList,d,U,.slice A6 n6 ak,F,by rw[E.out],bh,za ?_,za ?_,sD⟩
         ·rw[LW.out,<-nz];exact J.out
         have:=HN.out;have:=BR (It.mk ty false j);simp[Bh,aM]at this⊢;have h5:=HN.out;simp[Bh,aM]at h5;omega
