/- rlp.Put. -/
import Derived.Test.YtimoclkoflamkaaGreatDoorKA24
import Derived.Test.YtimoclkoflamkaaGreatDoorKA17
set_option linter.all false
set_option maxRecDepth 100000
set_option maxHeartbeats 4000000
open Go.Proofs.Tryz
namespace Go.Proofs.YtimoclkoflamkaaGreatDoor
open Go.RowKit
def ZG:=@Nat.zero_mul
def BW :List (List It×List UInt8)->Nat
 | []=>0
 |f::fs=>1+2*aC f.1+BW fs
theorem uc (xs:List It)(b:List UInt8)(f:List It×List UInt8)(rest:List (List It×List UInt8)):eu xs b (f::rest)=eu f.1 (f.2++kZ (b++fu xs)) rest:=by simp[eu]
theorem iy :∀(rest:List (List It×List UInt8)) (xs:List It) (b:List UInt8),b.length+(fu xs).length<=(eu xs b rest).length
 | [],xs,b=>by simp[eu]
 |f::rest,xs,b=>by
  rw[uc];have:=iy rest f.1 (f.2++kZ (b++fu xs));simp only[zh,kZ]at this⊢;omega
theorem Ev :∀(rest:List (List It×List UInt8)) (xs:List It) (b:List UInt8),rest.length<=(eu xs b rest).length
 | [],_,_=>by simp
 |f::rest,xs,b=>by
  have h:∀(r:List (List It×List UInt8)) (d:List It) (c:List UInt8),c.length+r.length<=(eu d c r).length:=by
   intro r;induction r with
   |nil=>intro d c;have:=iy [] d c;simp at this⊢;omega
   |cons g r ih=>
    intro d c;rw[uc];have i:=ih g.1 (g.2++kZ (c++fu d));have e:=ey 192 (c++fu d).length;have j:1<=(cF 192 (c++fu d).length).length:=by rw[e];split<;>omega
    simp only[zh,kZ,zx]at i e j⊢;omega
  have:=h (f::rest) xs b;omega
theorem BX (t:ByteArray)(s:List It)(h:t.size=1/\(t.data.toList.getD 0 0).toNat<128):(It.mk t false s).fB=t.data.toList:=by rw[It.fB,zf (by simp),zg h]
theorem BY (t:ByteArray)(s:List It)(h:¬(t.size=1/\(t.data.toList.getD 0 0).toNat<128)):(It.mk t false s).fB=cF 128 t.size++t.data.toList:=by
 rw[It.fB,zf (by simp),zf h]
theorem Lay.first {w:World}{g:Nat}{b:Value}(h:w.heap[g]?=some (.cells #[b,nS] 208)){S:Nat}(hS:S<=g){xs:List It}{A:Option Addr}{c:Nat}(e:b= .slice A xs.length c)(i:xs.length<=c)(j:c<=9223372036854775807)(d:bN w S xs A 0):
 Lay w S g 1 [(xs,[])] [(b,nS)]:=
 ⟨⟨rfl,.inr ⟨g,1,_,rfl,hS,h,by simp,by simp[maxLen],rfl,rfl⟩⟩,⟨⟨⟨A,c,e,i,j,d⟩,bR.nil _ _ _⟩,(fun u hu=>by cases hu),trivial⟩⟩
theorem SG (x:It)(B:Nat)(w:World)(c0 c1 c2:Value)(h:bH w B x c0 c1 c2)(hB:B<=w.heap.size)(hm:x.may=true)(hl:x.fB.length<=1099511627776):
 Calls prog 113 #[.agg #[c0,c1,c2]] w fun e w'=>e= .returned (.tuple #[.string ⟨x.fB.toArray⟩,(0:Int)])/\(w,w'):=by
 have HC:=za (Sx x B (w.alloc (.cells #[c0,c1,c2] 28)) c0 c1 c2 (h.below (blm hB)) (by simp;omega));rw[hm]at HC;have HI:=za h;obtain⟨A,cap,rfl,rfl,rfl,_⟩:=h.open_;obtain⟨i0,hi,dB,cg,cC⟩:=yv AJ;obtain⟨i1,kQ,TZ,TY,T0⟩:=yv Hg;clear h hm;go_enter func113,ntmps113
 go_wp2_with fail
 refine HC.out.mono ?_;rintro e z ⟨rfl,hb⟩;have hz:=hb.size;simp only[zp]at hz;have cr:Hid (w,z):=za (((zi w.heap.size w).alloc (ze _) _).trans (hb.mono (by simp)));obtain⟨g0,g1,g2,_⟩:=bq ((af.new w 28 #[x.text,x.list,.slice A x.sub.length cap]).ah hb (by simp));clear hb HC;go_wp2_with fail
 obtain⟨F,du⟩:∃F,(z.alloc (.cells #[x.text,x.list,.slice A x.sub.length cap] 28)).alloc (.cells #[.slice (some (z.heap.size,0)) 1 1,nS] 208)=F:=⟨_,rfl⟩
 have dm:Hid (w,F):=za (by rw[<-du];exact(cr.out.alloc (by omega) _).alloc (by simp;omega) _);have WU:=af.new z 28 #[x.text,x.list,.slice A x.sub.length cap];have T1:=WU.alloc (.cells #[.slice (some (z.heap.size,0)) 1 1,nS] 208);rw[du]at T1;obtain⟨q0,q1,q2,_⟩:=bq T1;have aQ:Hid (Lay F (z.heap.size+1) (z.heap.size+1) 1 [([x],[])] [(.slice (some (z.heap.size,0)) 1 1,nS)]):=za (by
  refine Lay.first (by rw[<-du];have:=yK (z.alloc (.cells #[x.text,x.list,.slice A x.sub.length cap] 28)) (.cells #[.slice (some (z.heap.size,0)) 1 1,nS] 208);simpa using this) (ze _) (xs:= [x]) rfl (by simp) (by omega) ?_
  exact⟨⟨z.heap.size,0,_,_,_,rfl,by omega,by simpa using q0,by simpa using q1,by simpa using q2,(HI.out.below (dm.out.mono hB)).mono (by omega)⟩,trivial⟩)
 have Ln:Hid (z.heap.size+1<=F.heap.size):=za (by rw[<-du];simp);rw[du];have HT:=za hl;clear du WU T1 q0 q1 q2 g0 g1 g2 HI hl;obtain⟨S,hS⟩:∃S,z.heap.size+1=S:=⟨_,rfl⟩
 have aX:Hid (w.heap.size<=S):=za (by omega);rw[hS]at aQ Ln⊢;obtain⟨X,Lm⟩:∃X,x.fB=X:=⟨_,rfl⟩
 rw[Lm]at HT;have az:=za Lm;clear Lm;go_loopg [5] (BW [([x],[])]) (fun k v wr=>∃(g E:Nat) (xs:List It) (b:List UInt8) (d:List (List It×List UInt8)) (v0 v1:Value) (D:List (Value×Value)),v= .slice (some (g,0)) (d.length+1) E/\Hid (Lay wr S g E ((xs,b)::d) ((v0,v1)::D))/\Hid (eu xs b d=X)/\Hid (BW ((xs,b)::d)<=k)/\Hid (Below S F wr))
 case atStart=>exact⟨S,1,[x],[],[],_,_,[],rfl,aQ,za (by rw[<-az.out];simp[eu,fu]),za (ze _),za (zi _ _)⟩
 case round=>
  obtain⟨g,E,xs,b,d,v0,v1,D,rfl,I,K,Y,ic⟩:=hrel;have I6:=ic.out.size;have ae:S<=wr.heap.size:=zz Ln.out I6;obtain⟨t0,t1,Nt,PO,aG⟩:=I.out.top;have a':=I.out.block;obtain⟨Ns,Bu,qg,bx,_⟩:=a';obtain⟨⟨A1,k1,rfl,iX,bt,aR⟩,bM⟩:=I.out.lays.1;have R:=za bM;have Ll:=za aR;obtain⟨H,n2,G,rfl,IY,oe,bA⟩:=bM.bK;clear bM aR;dsimp only at t0 t1 aG R IY Ll iX;simp only[zx]at qg;obtain⟨r,hr⟩:∃r,d.length=r:=⟨_,rfl⟩
  rw[hr]at t0 t1 Nt PO qg⊢;have C:=za hr;clear hr;have EO:k1<9223372036854775808:=by omega
  cases xs with
  |nil=>
   simp only[zM]at t0;cases d with
   |nil=>
    obtain rfl:r=0:=C.out.symm;have eB:=R.out.Jt (P:=prog) zm ym zH;go_wp2;go_ret2
    refine⟨?_,dm.out.trans (ic.out.mono aX.out)⟩;have:=K.out;rw[az.out,<-this];simp[eu,fu]
   |cons f rest=>
    obtain⟨r,rfl⟩:∃r',r=r'+1:=⟨r-1,by have:=C.out;simp at this;omega⟩
    have WS:Hid (rest.length=r):=za (by have:=C.out;simp at this;omega);obtain⟨⟨u0,u1⟩,us,rfl⟩:∃u us,D=u::us:=by
     cases D with
     |nil=>exact absurd I.out.lays.length (by simp)
     |cons u us=>exact⟨u,us,rfl⟩
    obtain⟨zs,c⟩:=f;have HP:=za I.out.pop;obtain⟨t2,t3,US,aW,aA⟩:=HP.out.top;have ai:=za HP.out.lays.1.2;have aE:∀i,Value.ownBlock (.slice H n2 G)=some i->u1.ownBlock≠some i:=I.out.lays.2.1 (u0,u1) (by simp);rw[WS.out]at t2 t3 US aW;dsimp only at t2 t3 ai;obtain⟨A3,n3,aF,rfl,br,bB,bu⟩:=ai.out.bK;have ad:=iy rest zs (c++kZ b);rw[<-pI,K.out]at ad;simp only[zh,kZ]at ad;have Fv:=HT.out;have aI:b.length=n2:=IY.out.symm;have HH:=za (SF 192 n2 S _ c wr ai.out ae (by omega) (by omega) (by omega));have bf:=za aE;have Qt:=za aA;clear aG aA aE aI ad Fv;go_wp2_with fail
    refine HH.out.mono ?_;rintro e w2 ⟨v',rfl,ag,pZ⟩;obtain⟨M,O,N,rfl,UM,bl,bd⟩:=ag.bK;have bc:=za ag;have UR:=za pZ;have bj:Hid (bR w2 S 5 (.slice H n2 G) b):=za (R.out.ah fun k hk ho=>pZ.block hk (bf.out k ho));have vJ:=pZ.size;have aJ:(c++cF 192 n2).length+b.length<=1099511627776:=by
     have ad:=iy rest zs (c++kZ b);rw[<-pI,K.out]at ad;have Fv:=HT.out;simp only[zh,kZ]at ad⊢;rw[IY.out];omega
    have a1:=za aJ;clear ag pZ aJ;go_wp2_with (at_builtin;refine cx (by rfl) (.tmp 57) (.tmp 58) 75 75 (by rfl) S 5 i0 zm hi dB cg cC (by rfl) bc.out _ b (by rfl) (LD zm bj.out) (by omega) (zz a1.out (by omega)) ?_)
    intro A5 n5 ar w3 fk aK;have T2:=UR.out.trans aK;have au:Value.ownBlock (.slice A3 n3 aF)≠some g:=by
     rcases Qt.out g with h|h
     ·exact h
     exact absurd rfl h
    have e3:w3.cell? (g,r*2+1)=some (.slice A3 n3 aF):=(T2.grown.cell_far (g,r*2+1) Bu (Zj au)).trans t3;have e4:w3.frozen? (g,r*2+1)=false:=(T2.grown.frozen_far (g,r*2+1) Bu (Zj au)).trans aW;have aY:Hid (Lay (w3.setCell (g,r*2+1) (.slice A5 n5 ar)) S g E ((zs,c++(cF 192 n2++b))::rest) ((u0,.slice A5 n5 ar)::us)):=za (by have:=HP.out.bytes ae T2 fk;rwa [WS.out]at this);have av:Hid (Below S F (w3.setCell (g,r*2+1) (.slice A5 n5 ar))):=za ((T2.below ic.out ae (fun i hi=>(ai.out.ge i hi).1)).setCell (by simpa using Ns) _);clear fk aK T2 au;go_wp2;go_roundg (gk-1)
    case measure=>have:=Y.out;simp[BW]at this;omega
    case rel=>
     refine⟨g,E,zs,c++(cF 192 n2++b),rest,u0,.slice A5 n5 ar,us,by rw[WS.out],aY,za ?_,za ?_,av⟩
     ·have:=K.out;rw[pI,kZ,<-IY.out]at this;exact this
     have:=Y.out;simp[BW,aC]at this⊢;omega
  |cons y ys=>
   obtain⟨q,hq⟩:∃q,ys.length=q:=⟨_,rfl⟩
   obtain⟨⟨n,l,d0,d1,d2,rfl,KV,e0,e1,e2,hy⟩,aS⟩:=Ll.out;have aU:=za aS.tail;obtain⟨ty,ly,j⟩:=y;obtain⟨rfl,rfl,mR,bp,L,W,rfl,TU,bg,da⟩:=hy;have ay:=za da;simp only[ZG,xa]at e0 e1 e2;rw[zx,hq]at t0 iX;have HQ:=za hq;have bC:q+1<=9223372036854775807:=by omega
   clear aS da hq;have mP:d.length<=1099511627776:=by
    have h1:=Ev d (It.mk ty ly j::ys) b;rw[K.out]at h1;have h2:=HT.out;omega
   rw[C.out]at mP;go_upto_region 14 with fail
   go_cut [] (fun m=>∃U,Hid (Lay m S g E ((ys,b)::d) ((U,.slice H n2 G)::D))/\Hid (Below S F m)/\Hid (af m wr.heap.size 28 #[ty,ly,.slice L j.length W])/\Hid (bN m S j L 0)/\Hid (m.heap.size=wr.heap.size+1))
   case first=>
    by_cases a7:k1=1
    ·subst a7;obtain rfl:q=0:=by omega
     have J:Hid (Lay (wr.setCell (g,r*2) (.slice (some (n,l)) 0 0)) S g E ((ys,b)::d) ((.slice (some (n,l)) 0 0,.slice H n2 G)::D)):=za (by
      obtain rfl:ys= []:=zk HQ.out;have:=I.out.items ae (xs':= []) (A:=some (n,l)) (c:=0) (by simp) (by simp) trivial;rwa [C.out]at this)
     go_wp2_with fail
     go_meet;case rel=>
      have aw:(wr.setCell (g,r*2) (.slice (some (n,l)) 0 0)).heap.size=wr.heap.size:=by simp[World.setCell]
      refine⟨.slice (some (n,l)) 0 0,za (J.out.below (by omega) ((zi _ _).alloc (ze _) _)),za ((ic.out.setCell (by simpa using Ns) _).alloc (by omega) _),za ?_,za ?_,za (by simp[World.setCell])⟩
      ·have:=af.new (wr.setCell (g,r*2) (.slice (some (n,l)) 0 0)) 28 #[ty,ly,.slice L j.length W];rwa [aw]at this
      refine bN.below (w:=wr.setCell (g,r*2) (.slice (some (n,l)) 0 0)) (ay.out.ah fun p hp=>zy (bO (by simp;omega))) (((zi _ _).alloc (ze _) _).mono (by omega))
    have J:Hid (Lay (wr.setCell (g,r*2) (.slice (some (n,l+3)) q (k1-1))) S g E ((ys,b)::d) ((.slice (some (n,l+3)) q (k1-1),.slice H n2 G)::D)):=za (by
     have:=I.out.items ae (xs':=ys) (A:=some (n,l+3)) (c:=k1-1) (by rw[HQ.out];omega) (by omega) aU.out;rwa [C.out,HQ.out]at this)
    go_wp2_with fail
    go_meet;case rel=>
     have aw:(wr.setCell (g,r*2) (.slice (some (n,l+3)) q (k1-1))).heap.size=wr.heap.size:=by simp[World.setCell]
     refine⟨.slice (some (n,l+3)) q (k1-1),za (J.out.below (by omega) ((zi _ _).alloc (ze _) _)),za ((ic.out.setCell (by simpa using Ns) _).alloc (by omega) _),za ?_,za ?_,za (by simp[World.setCell])⟩
     ·have:=af.new (wr.setCell (g,r*2) (.slice (some (n,l+3)) q (k1-1))) 28 #[ty,ly,.slice L j.length W];rwa [aw]at this
     refine bN.below (w:=wr.setCell (g,r*2) (.slice (some (n,l+3)) q (k1-1))) (ay.out.ah fun p hp=>zy (bO (by simp;omega))) (((zi _ _).alloc (ze _) _).mono (by omega))
   case rest=>
    obtain⟨U,J,dt,ah,bk,HZ⟩:=hcut;obtain⟨bD,bG,bz,bs,bF,bo⟩:=bq ah.out;have bE:=ah.out.lt;have aO:g<wc.heap.size:=by have:=HZ.out;omega
    have an:S<=wc.heap.size:=by omega
    have bw:g≠wr.heap.size:=by omega
    clear ae Bu I6;clear t0 t1 Nt PO e0 e1 e2 Ll aU ay I R;cases ly with
    |true=>
     have I8:Hid (∀o,Lay (wc.alloc o) S g E ((ys,b)::d) ((U,.slice H n2 G)::D)):=za (fun o=>J.out.below (by omega) ((zi _ _).alloc (ze _) _));have Lh:Hid (r+1=((ys,b)::d).length):=za (by simp[C.out]);have lG:Hid (∀o,bN (wc.alloc o) S j L 0):=za (fun o=>bk.out.below (((zi wc.heap.size wc).alloc (ze _) o).mono (by omega)));have aL:Hid (af (wc.alloc (.cells #[.slice L j.length W,nS] 208)) wc.heap.size 208 #[.slice L j.length W,nS]):=za (af.new wc _ _);have fT:Hid (∀o,Below S F (wc.alloc o)):=za (fun o=>dt.out.alloc (by omega) o);have aM:Hid (∀o,S<=(wc.alloc o).heap.size):=za (fun o=>by simp;omega);go_wp2_with (at_builtin;refine Hid.out ?_)
     refine za ?_;refine ry (by rfl) (.tmp 78) (.tmp 82) (by rfl) (I8.out _) (aM.out _) Lh.out (by rfl) TU bg (lG.out _) wc.heap.size (by rfl) (aL.out.cell 0) (aL.out.cell 1) (by rw[<-Lh.out];omega) ?_;intro g' n' aj w' bn ba bh;have av:Hid (Below S F w'):=za ((fT.out _).grown bh.out (aM.out _) (fun k hk=>by injection hk with hk;omega));go_wp2;go_roundg (gk-1)
     case measure=>have:=Y.out;simp[BW]at this;omega
     case rel=>
      refine⟨g',aj,j,[],(ys,b)::d,.slice L j.length W,nS,(U,.slice H n2 G)::D,by rw[bn.out],ba,za ?_,za ?_,av⟩
      ·have:=K.out;rw[Gf]at this;exact this
      have:=Y.out;simp[BW,aC,It.count]at this⊢;omega
    |false=>
     go_upto_region 17 with fail
     go_cut [93] (fun s m=>∃bb:Bool,s= .bool bb/\Hid (bb=false↔(ty.size=1/\(ty.data.toList.getD 0 0).toNat<128))/\m=wc)
     case first=>
      by_cases A8:ty.size=1
      ·have qi:((ty.size:Int) !=1)=false:=by simp[A8]
       have Bn:((ty.size:Int)==1)=true:=by simp[A8]
       have B4:0<ty.size:=by omega
       have a6:Hid (ty.data.toList.getD 0 0=ty[0]):=za (by rw[zu,iA ty 0 B4];rfl);go_wp2_with fail
       go_meet;case rel=>
        rw[a6.out];refine⟨_,rfl,za ?_,rfl⟩;simp[A8];omega
      have qi:((ty.size:Int) !=1)=true:=by simp;omega
      have Bn:((ty.size:Int)==1)=false:=by simp;omega
      go_wp2_with fail
      go_meet;case rel=>exact⟨_,rfl,za (by simp[A8]),rfl⟩
     case rest=>
      obtain⟨bb,rfl,Ce,rfl⟩:=hcut;go_upto_if 93 with fail
      go_cut [] (fun m=>∃Z M O N,Hid (Lay m S g E ((ys,Z)::d) ((U,.slice M O N)::D))/\Hid (Below S F m)/\Hid (af m wr.heap.size 28 #[ty,false,.slice L j.length W])/\Hid (Z++ty.data.toList=b++(It.mk ty false j).fB))
      case first=>
       cases bb with
       |false=>
        have ak:Hid ((It.mk ty false j).fB=ty.data.toList):=za (BX ty j (Ce.out.1 rfl));go_wp2_with fail
        go_meet;case rel=>exact⟨b,H,n2,G,J,dt,ah,za (by rw[ak.out])⟩
       |true=>
        have ak:Hid ((It.mk ty false j).fB=cF 128 ty.size++ty.data.toList):=za (BY ty j (fun h=>by have:=Ce.out.2 h;cases this));obtain⟨_,s1,_,aP,aH⟩:=J.out.top;rw[C.out]at s1 aP;have Qw:Hid (some g≠Value.ownBlock (.slice H n2 G)):=za (by
         rcases aH g with h|h
         ·exact Zj h
         exact absurd rfl h)
        have R:=za J.out.lays.1.2;have a8:=IY.out;have pn:=iy d ys (b++(It.mk ty false j).fB);rw[<-nr,K.out,ak.out]at pn;simp only[zh,aa]at pn;have ax:=HT.out;have Nu:=za (SF 128 ty.size S (.slice H n2 G) b wc.drew R.out an (by omega) (by omega) (by omega));clear a8 pn ax aH;go_wp2_with fail
        go_region_law (first|(go_simp;go_at_call 152;refine Nu.out.mono ?_;rintro e m ⟨v',rfl,ag,Qx⟩;obtain⟨M,O,N,rfl,UM,bl,bd⟩:=ag.bK;have e3:m.cell? (g,r*2+1)=some (.slice H n2 G):=(Qx.grown.cell_far (g,r*2+1) aO Qw.out).trans s1;have e4:m.frozen? (g,r*2+1)=false:=(Qx.grown.frozen_far (g,r*2+1) aO Qw.out).trans aP))
        all_goals
         go_wp2_with fail
         go_meet;case rel=>
          refine⟨b++cF 128 ty.size,M,O,N,za ?_,za ?_,za ?_,za ?_⟩
          ·have:=Lay.bytes (w:=wc.drew) (J.out.below an (zi _ _).drew) an Qx ag;rwa [C.out]at this
          ·exact(Qx.below dt.out.drew an (fun i hi=>(R.out.ge i hi).1)).setCell (by simpa using Ns) _
          ·exact af.dI (af.Ur (w:=wc.drew) ah.out Qx (fun e=>by
            obtain⟨_,_,cu,fr,h2⟩:=R.out.ge _ e;have h3:=ah.out;rw[af,h2]at h3;injection h3 with h3;injection h3 with _ h3;exact absurd h3 (by decide))) (by intro e;dsimp only at e;omega) _
          rw[ak.out,zB]
      case rest=>
       obtain⟨Z,M,O,N,Nh,aV,bm,aD⟩:=hcut;have aq:S<=wc.heap.size:=zz Ln.out aV.out.size;have BA:g<wc.heap.size:=Nh.out.block.2.1;obtain⟨_,s4,_,aN,aB⟩:=Nh.out.top;rw[C.out]at s4 aN;have aT:Hid (some g≠Value.ownBlock (.slice M O N)):=za (by
        rcases aB g with h|h
        ·exact Zj h
        exact absurd rfl h)
       obtain⟨i4,_,_,_,_,_⟩:=bq bm.out;have dK:=za Nh.out.lays.1.2;have pn:=iy d ys (b++(It.mk ty false j).fB);rw[<-nr,K.out,<-aD.out]at pn;simp only[zh]at pn;have ax:=HT.out;have EV:Hid (Z.length+ty.data.toList.length<=140737488355328):=za (by omega);clear pn ax aB;go_wp2_with fail
       go_region_law (refine sx (by rfl) (.tmp 110) (.tmp 112) 75 9 (by rfl) S 5 i0 zm hi dB cg cC (by rfl) (show bR wc.drew S 5 (.slice M O N) Z from dK.out) _ ty.data.toList (by rfl) (iE zH _ ty) aq EV.out ?_;intro A6 n6 al w6 qm YW;have e5:w6.cell? (g,r*2+1)=some (.slice M O N):=(YW.grown.cell_far (g,r*2+1) BA aT.out).trans s4;have e6:w6.frozen? (g,r*2+1)=false:=(YW.grown.frozen_far (g,r*2+1) BA aT.out).trans aN)
       all_goals
        have aZ:Hid (Lay (w6.setCell (g,r*2+1) (.slice A6 n6 al)) S g E ((ys,Z++ty.data.toList)::d) ((U,.slice A6 n6 al)::D)):=za (by
         have:=Lay.bytes (w:=wc.drew) (Nh.out.below aq (zi _ _).drew) aq YW qm;rwa [C.out]at this)
        have kO:Hid (Below S F (w6.setCell (g,r*2+1) (.slice A6 n6 al))):=za ((YW.below aV.out.drew aq (fun i hi=>(dK.out.ge i hi).1)).setCell (by simpa using Ns) _);clear qm YW;go_wp2;go_roundg (gk-1)
        case measure=>have:=Y.out;simp[BW]at this;omega
        case rel=>
         refine⟨g,E,ys,Z++ty.data.toList,d,U,.slice A6 n6 al,D,by rw[C.out],aZ,za ?_,za ?_,kO⟩
         ·rw[aD.out,<-nr];exact K.out
         have:=Y.out;have:=su (It.mk ty false j);simp[BW,aC]at this⊢;have h5:=Y.out;simp[BW,aC]at h5;omega
