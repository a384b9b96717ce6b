/- rlp.Put. -/
import Derived.Test.YtdbmifjankgfpaaGreatDoorKA31
import Derived.Test.YtdbmifjankgfpaaGreatDoorKA25
set_option linter.all false
set_option maxRecDepth 100000
set_option maxHeartbeats 4000000
open Go.Proofs.Tryz
namespace Go.Proofs.YtdbmifjankgfpaaGreatDoor
open Go.RowKit
def AW :List (List It×List UInt8)->Nat
 | []=>0
 |f::fs=>1+2*ay f.1+AW fs
theorem s7 (xs:List It)(b:List UInt8)(f:List It×List UInt8)(rest:List (List It×List UInt8)):eA xs b (f::rest)=eA f.1 (f.2++la (b++fy xs)) rest:=by simp[eA]
theorem im :∀(rest:List (List It×List UInt8)) (xs:List It) (b:List UInt8),b.length+(fy xs).length<=(eA xs b rest).length
 | [],xs,b=>by simp[eA]
 |f::rest,xs,b=>by
  rw[s7];have:=im rest f.1 (f.2++la (b++fy xs));simp only[zj,la]at this⊢;omega
theorem Dn :∀(rest:List (List It×List UInt8)) (xs:List It) (b:List UInt8),rest.length<=(eA xs b rest).length
 | [],_,_=>by simp
 |f::rest,xs,b=>by
  have h:∀(r:List (List It×List UInt8)) (d:List It) (c:List UInt8),c.length+r.length<=(eA d c r).length:=by
   intro r;induction r with
   |nil=>intro d c;have:=im [] d c;simp at this⊢;omega
   |cons g r ih=>
    intro d c;rw[s7];have i:=ih g.1 (g.2++la (c++fy d));have e:=eB 192 (c++fy d).length;have j:1<=(cJ 192 (c++fy d).length).length:=by rw[e];split<;>omega
    simp only[zj,la,zy]at i e j⊢;omega
  have:=h (f::rest) xs b;omega
theorem AX (t:ByteArray)(s:List It)(h:t.size=1/\(t.data.toList.getD 0 0).toNat<128):(It.mk t false s).fO=t.data.toList:=by rw[It.fO,zh (by simp),zi h]
theorem AY (t:ByteArray)(s:List It)(h:¬(t.size=1/\(t.data.toList.getD 0 0).toNat<128)):(It.mk t false s).fO=cJ 128 t.size++t.data.toList:=by
 rw[It.fO,zh (by simp),zh h]
theorem Lay.first {w:World}{g:Nat}{b:Value}(h:w.heap[g]?=some (.cells #[b,.slice none 0 0] 226)){S:Nat}(hS:S<=g){xs:List It}{A:Option Addr}{c:Nat}(e:b= .slice A xs.length c)(i:xs.length<=c)(j:c<=9223372036854775807)(d:ch w S xs A 0):
 Lay w S g 1 [(xs,[])] [(b,.slice none 0 0)]:=
 ⟨⟨rfl,.inr ⟨g,1,_,rfl,hS,h,by simp,by simp[maxLen],rfl,rfl⟩⟩,⟨⟨⟨A,c,e,i,j,d⟩,bP.nil _ _ _⟩,(fun u hu=>by cases hu),trivial⟩⟩
theorem QY (x:It)(B:Nat)(w:World)(c0 c1 c2:Value)(h:bT w B x c0 c1 c2)(hB:B<=w.heap.size)(hm:x.may=true)(hl:x.fO.length<=1099511627776):
 Calls prog 147 #[.agg #[c0,c1,c2]] w fun e w'=>e= .returned (.tuple #[.string ⟨x.fO.toArray⟩,.int .i64 0])/\Below w.heap.size w w':=by
 have HC:=za (VB x B (w.alloc (.cells #[c0,c1,c2] 28)) c0 c1 c2 (h.below (WQ hB)) (by simp;omega));rw[hm]at HC;have HI:=za h;obtain⟨A,cap,rfl,rfl,rfl,_⟩:=h.open_;obtain⟨i0,hi,dO,cc,cE⟩:=yG wz;obtain⟨i1,iS,Sf,Se,Sg⟩:=yG Gc;clear h hm;go_enter func147,ntmps147
 go_wp2_with fail
 refine HC.out.mono ?_;rintro e z ⟨rfl,hb⟩;have hz:=hb.size;simp only[zp]at hz;have cr:Hid (Below w.heap.size w z):=za (((zl w.heap.size w).alloc (zg _) _).trans (hb.mono (by simp)));obtain⟨g0,g1,g2,_⟩:=aZ ((af.new w 28 #[.string x.text,.bool x.list,.slice A x.sub.length cap]).ag hb (by simp));clear hb HC;go_wp2_with fail
 obtain⟨D,ca⟩:∃D,(z.alloc (.cells #[.string x.text,.bool x.list,.slice A x.sub.length cap] 28)).alloc (.cells #[.slice (some ⟨z.heap.size,0,none⟩) 1 1,.slice none 0 0] 226)=D:=⟨_,rfl⟩
 have cG:Hid (Below w.heap.size w D):=za (by rw[<-ca];exact(cr.out.alloc (by omega) _).alloc (by simp;omega) _);have UW:=af.new z 28 #[.string x.text,.bool x.list,.slice A x.sub.length cap];have Si:=UW.alloc (.cells #[.slice (some ⟨z.heap.size,0,none⟩) 1 1,.slice none 0 0] 226);rw[ca]at Si;obtain⟨q0,q1,q2,_⟩:=aZ Si;have aL:Hid (Lay D (z.heap.size+1) (z.heap.size+1) 1 [([x],[])] [(.slice (some ⟨z.heap.size,0,none⟩) 1 1,.slice none 0 0)]):=za (by
  refine Lay.first (by rw[<-ca];have:=yP (z.alloc (.cells #[.string x.text,.bool x.list,.slice A x.sub.length cap] 28)) (.cells #[.slice (some ⟨z.heap.size,0,none⟩) 1 1,.slice none 0 0] 226);simpa using this) (zg _) (xs:= [x]) rfl (by simp) (by omega) ?_
  exact⟨⟨z.heap.size,0,_,_,_,rfl,by omega,by simpa using q0,by simpa using q1,by simpa using q2,(HI.out.below (cG.out.mono hB)).mono (by omega)⟩,trivial⟩)
 have O0:Hid (z.heap.size+1<=D.heap.size):=za (by rw[<-ca];simp);rw[ca];have HT:=za hl;clear ca UW Si q0 q1 q2 g0 g1 g2 HI hl;obtain⟨S,hS⟩:∃S,z.heap.size+1=S:=⟨_,rfl⟩
 have bg:Hid (w.heap.size<=S):=za (by omega);rw[hS]at aL O0⊢;obtain⟨X,Bm⟩:∃X,x.fO=X:=⟨_,rfl⟩
 rw[Bm]at HT;have aT:=za Bm;clear Bm;go_loopg [5] (AW [([x],[])]) (fun k v wr=>∃(g C:Nat) (xs:List It) (b:List UInt8) (d:List (List It×List UInt8)) (v0 v1:Value) (E:List (Value×Value)),v= .slice (some ⟨g,0,none⟩) (d.length+1) C/\Hid (Lay wr S g C ((xs,b)::d) ((v0,v1)::E))/\Hid (eA xs b d=X)/\Hid (AW ((xs,b)::d)<=k)/\Hid (Below S D wr))
 case atStart=>exact⟨S,1,[x],[],[],_,_,[],rfl,aL,za (by rw[<-aT.out];simp[eA,fy]),za (zg _),za (zl _ _)⟩
 case round=>
  obtain⟨g,C,xs,b,d,v0,v1,E,rfl,L,I,W,eE⟩:=hrel;have LS:=eE.out.size;have ae:S<=wr.heap.size:=zK O0.out LS;obtain⟨t0,t1,L9,Ov,aW⟩:=L.out.top;have bn:=L.out.block;obtain⟨L8,Aq,pR,bC,_⟩:=bn;obtain⟨⟨A1,k1,rfl,jb,bw,aS⟩,bK⟩:=L.out.lays.1;have M:=za bK;have Kb:=za aS;obtain⟨H,n2,G,rfl,JW,Bd,bz⟩:=bK.cH;clear bK aS;dsimp only at t0 t1 aW M JW Kb jb;simp only[zy]at pR;obtain⟨r,hr⟩:∃r,d.length=r:=⟨_,rfl⟩
  rw[hr]at t0 t1 L9 Ov pR⊢;have F:=za hr;clear hr;have Ba:k1<9223372036854775808:=by omega
  cases xs with
  |nil=>
   simp only[zL]at t0;cases d with
   |nil=>
    obtain rfl:r=0:=F.out.symm;have eo:=M.out.EJ (P:=prog) zr yq zM;go_wp2;go_ret2
    refine⟨?_,cG.out.trans (eE.out.mono bg.out)⟩;have:=I.out;rw[aT.out,<-this];simp[eA,fy]
   |cons f rest=>
    obtain⟨r,rfl⟩:∃r',r=r'+1:=⟨r-1,by have:=F.out;simp at this;omega⟩
    have sn:Hid (rest.length=r):=za (by have:=F.out;simp at this;omega);obtain⟨⟨u0,u1⟩,us,rfl⟩:∃u us,E=u::us:=by
     cases E with
     |nil=>exact absurd L.out.lays.length (by simp)
     |cons u us=>exact⟨u,us,rfl⟩
    obtain⟨zs,c⟩:=f;have HP:=za L.out.pop;obtain⟨t2,t3,Ta,aE,aN⟩:=HP.out.top;have av:=za HP.out.lays.1.2;have aD:∀i,Value.ownBlock (.slice H n2 G)=some i->u1.ownBlock≠some i:=L.out.lays.2.1 (u0,u1) (by simp);rw[sn.out]at t2 t3 Ta aE;dsimp only at t2 t3 av;obtain⟨A3,n3,aF,rfl,Yv,bu,bD⟩:=av.out.cH;have ad:=im rest zs (c++la b);rw[<-o9,I.out]at ad;simp only[zj,la]at ad;have Ed:=HT.out;have aJ:b.length=n2:=JW.out.symm;have HH:=za (QX 192 n2 S _ c wr av.out ae (by omega) (by omega) (by omega));have bh:=za aD;have a1:=za aN;clear aW aN aD aJ ad Ed;go_wp2_with fail
    refine HH.out.mono ?_;rintro e w2 ⟨v',rfl,ag,tN⟩;obtain⟨O,R,N,rfl,S4,bd,aY⟩:=ag.cH;have bf:=za ag;have bj:=za tN;have bq:Hid (bP w2 S 5 (.slice H n2 G) b):=za (M.out.ag fun k hk ho=>tN.block hk (bh.out k ho));have uz:=tN.size;have aG:(c++cJ 192 n2).length+b.length<=1099511627776:=by
     have ad:=im rest zs (c++la b);rw[<-o9,I.out]at ad;have Ed:=HT.out;simp only[zj,la]at ad⊢;rw[JW.out];omega
    have bs:=za aG;clear ag tN aG;go_wp2_with (at_builtin;refine cz (by rfl) (.tmp 57) (.tmp 58) 31 31 (by rfl) S 5 i0 zr hi dO cc cE (by rfl) bf.out _ b (by rfl) (Kt zr bq.out) (by omega) (zK bs.out (by omega)) ?_)
    intro A5 n5 ar w3 jA aK;have Sj:=bj.out.trans aK;have aA:Value.ownBlock (.slice A3 n3 aF)≠some g:=by
     rcases a1.out g with h|h
     ·exact h
     exact absurd rfl h
    have e3:w3.cell? ⟨g,r*2+1,none⟩=some (.slice A3 n3 aF):=(Sj.grown.cell_far ⟨g,r*2+1,none⟩ Aq (xR aA)).trans t3;have e4:w3.frozen? ⟨g,r*2+1,none⟩=false:=(Sj.grown.frozen_far ⟨g,r*2+1,none⟩ Aq (xR aA)).trans aE;have bc:Hid (Lay (w3.setCell ⟨g,r*2+1,none⟩ (.slice A5 n5 ar)) S g C ((zs,c++(cJ 192 n2++b))::rest) ((u0,.slice A5 n5 ar)::us)):=za (by have:=HP.out.bytes ae Sj jA;rwa [sn.out]at this);have aB:Hid (Below S D (w3.setCell ⟨g,r*2+1,none⟩ (.slice A5 n5 ar))):=za ((Sj.below eE.out ae (fun i hi=>(av.out.ge i hi).1)).setCell (by simpa using L8) _);clear jA aK Sj aA;go_wp2;go_roundg (gk-1)
    case measure=>have:=W.out;simp[AW]at this;omega
    case rel=>
     refine⟨g,C,zs,c++(cJ 192 n2++b),rest,u0,.slice A5 n5 ar,us,by rw[sn.out],bc,za ?_,za ?_,aB⟩
     ·have:=I.out;rw[o9,la,<-JW.out]at this;exact this
     have:=W.out;simp[AW,ay]at this⊢;omega
  |cons y ys=>
   obtain⟨q,hq⟩:∃q,ys.length=q:=⟨_,rfl⟩
   obtain⟨⟨n,m,d0,d1,d2,rfl,JT,e0,e1,e2,hy⟩,aV⟩:=Kb.out;have aO:=za aV.tail;obtain⟨ty,ly,j⟩:=y;obtain⟨rfl,rfl,my,bH,J,Z,rfl,bo,ba,cy⟩:=hy;have aw:=za cy;simp only[Nat.zero_mul,yU]at e0 e1 e2;rw[zy,hq]at t0 jb;have HQ:=za hq;have bF:q+1<=9223372036854775807:=by omega
   clear aV cy hq;have mu:d.length<=1099511627776:=by
    have h1:=Dn d (It.mk ty ly j::ys) b;rw[I.out]at h1;have h2:=HT.out;omega
   rw[F.out]at mu;go_upto_region 14 with fail
   go_cut [] (fun l=>∃Y,Hid (Lay l S g C ((ys,b)::d) ((Y,.slice H n2 G)::E))/\Hid (Below S D l)/\Hid (af l wr.heap.size 28 #[.string ty,.bool ly,.slice J j.length Z])/\Hid (ch l S j J 0)/\Hid (l.heap.size=wr.heap.size+1))
   case first=>
    by_cases a7:k1=1
    ·subst a7;obtain rfl:q=0:=by omega
     have K:Hid (Lay (wr.setCell ⟨g,r*2,none⟩ (.slice (some ⟨n,m,none⟩) 0 0)) S g C ((ys,b)::d) ((.slice (some ⟨n,m,none⟩) 0 0,.slice H n2 G)::E)):=za (by
      obtain rfl:ys= []:=zo HQ.out;have:=L.out.items ae (xs':= []) (A:=some ⟨n,m,none⟩) (c:=0) (by simp) (by simp) trivial;rwa [F.out]at this)
     go_wp2_with fail
     go_meet;case rel=>
      have az:(wr.setCell ⟨g,r*2,none⟩ (.slice (some ⟨n,m,none⟩) 0 0)).heap.size=wr.heap.size:=by simp[World.setCell]
      refine⟨.slice (some ⟨n,m,none⟩) 0 0,za (K.out.below (by omega) ((zl _ _).alloc (zg _) _)),za ((eE.out.setCell (by simpa using L8) _).alloc (by omega) _),za ?_,za ?_,za (by simp[World.setCell])⟩
      ·have:=af.new (wr.setCell ⟨g,r*2,none⟩ (.slice (some ⟨n,m,none⟩) 0 0)) 28 #[.string ty,.bool ly,.slice J j.length Z];rwa [az]at this
      refine ch.below (w:=wr.setCell ⟨g,r*2,none⟩ (.slice (some ⟨n,m,none⟩) 0 0)) (aw.out.ag fun p hp=>zF (bM (by simp;omega))) (((zl _ _).alloc (zg _) _).mono (by omega))
    have K:Hid (Lay (wr.setCell ⟨g,r*2,none⟩ (.slice (some ⟨n,m+3,none⟩) q (k1-1))) S g C ((ys,b)::d) ((.slice (some ⟨n,m+3,none⟩) q (k1-1),.slice H n2 G)::E)):=za (by
     have:=L.out.items ae (xs':=ys) (A:=some ⟨n,m+3,none⟩) (c:=k1-1) (by rw[HQ.out];omega) (by omega) aO.out;rwa [F.out,HQ.out]at this)
    go_wp2_with fail
    go_meet;case rel=>
     have az:(wr.setCell ⟨g,r*2,none⟩ (.slice (some ⟨n,m+3,none⟩) q (k1-1))).heap.size=wr.heap.size:=by simp[World.setCell]
     refine⟨.slice (some ⟨n,m+3,none⟩) q (k1-1),za (K.out.below (by omega) ((zl _ _).alloc (zg _) _)),za ((eE.out.setCell (by simpa using L8) _).alloc (by omega) _),za ?_,za ?_,za (by simp[World.setCell])⟩
     ·have:=af.new (wr.setCell ⟨g,r*2,none⟩ (.slice (some ⟨n,m+3,none⟩) q (k1-1))) 28 #[.string ty,.bool ly,.slice J j.length Z];rwa [az]at this
     refine ch.below (w:=wr.setCell ⟨g,r*2,none⟩ (.slice (some ⟨n,m+3,none⟩) q (k1-1))) (aw.out.ag fun p hp=>zF (bM (by simp;omega))) (((zl _ _).alloc (zg _) _).mono (by omega))
   case rest=>
    obtain⟨Y,K,dm,ak,bp,HZ⟩:=hcut;obtain⟨bJ,bG,bx,bt,bE,bI⟩:=aZ ak.out;have bB:=ak.out.lt;have aM:g<wc.heap.size:=by have:=HZ.out;omega
    have an:S<=wc.heap.size:=by omega
    have bA:g≠wr.heap.size:=by omega
    clear ae Aq LS;clear t0 t1 L9 Ov e0 e1 e2 Kb aO aw L M;cases ly with
    |true=>
     have Ou:Hid (∀o,Lay (wc.alloc o) S g C ((ys,b)::d) ((Y,.slice H n2 G)::E)):=za (fun o=>K.out.below (by omega) ((zl _ _).alloc (zg _) _));have L6:Hid (r+1=((ys,b)::d).length):=za (by simp[F.out]);have J9:Hid (∀o,ch (wc.alloc o) S j J 0):=za (fun o=>bp.out.below (((zl wc.heap.size wc).alloc (zg _) o).mono (by omega)));have U1:Hid (af (wc.alloc (.cells #[.slice J j.length Z,.slice none 0 0] 226)) wc.heap.size 226 #[.slice J j.length Z,.slice none 0 0]):=za (af.new wc _ _);have j6:Hid (∀o,Below S D (wc.alloc o)):=za (fun o=>dm.out.alloc (by omega) o);have aU:Hid (∀o,S<=(wc.alloc o).heap.size):=za (fun o=>by simp;omega);go_wp2_with (at_builtin;refine Hid.out ?_)
     refine za ?_;refine qR (by rfl) (.tmp 78) (.tmp 82) (by rfl) (Ou.out _) (aU.out _) L6.out (by rfl) bo ba (J9.out _) wc.heap.size (by rfl) (U1.out.cell 0) (U1.out.cell 1) (by rw[<-L6.out];omega) ?_;intro g' n' aj w' aX br a8;have aB:Hid (Below S D w'):=za ((j6.out _).grown a8.out (aU.out _) (fun k hk=>by injection hk with hk;omega));go_wp2;go_roundg (gk-1)
     case measure=>have:=W.out;simp[AW]at this;omega
     case rel=>
      refine⟨g',aj,j,[],(ys,b)::d,.slice J j.length Z,.slice none 0 0,(Y,.slice H n2 G)::E,by rw[aX.out],br,za ?_,za ?_,aB⟩
      ·have:=I.out;rw[Fb]at this;exact this
      have:=W.out;simp[AW,ay,It.count]at this⊢;omega
    |false=>
     go_upto_region 17 with fail
     go_cut [93] (fun s l=>∃bb:Bool,s= .bool bb/\Hid (bb=false↔(ty.size=1/\(ty.data.toList.getD 0 0).toNat<128))/\l=wc)
     case first=>
      by_cases GW:ty.size=1
      ·have Eg:((ty.size:Int) !=1)=false:=by simp[GW]
       have bl:((ty.size:Int)==1)=true:=by simp[GW]
       have Bb:0<ty.size:=by omega
       have a':Hid (ty.data.toList.getD 0 0=ty[0]):=za (by rw[zw,gH ty 0 Bb];rfl);go_wp2_with fail
       go_meet;case rel=>
        rw[a'.out];refine⟨_,rfl,za ?_,rfl⟩;simp[GW];omega
      have Eg:((ty.size:Int) !=1)=true:=by simp;omega
      have bl:((ty.size:Int)==1)=false:=by simp;omega
      go_wp2_with fail
      go_meet;case rel=>exact⟨_,rfl,za (by simp[GW]),rfl⟩
     case rest=>
      obtain⟨bb,rfl,Ej,rfl⟩:=hcut;go_upto_if 93 with fail
      go_cut [] (fun l=>∃b4 O R N,Hid (Lay l S g C ((ys,b4)::d) ((Y,.slice O R N)::E))/\Hid (Below S D l)/\Hid (af l wr.heap.size 28 #[.string ty,.bool false,.slice J j.length Z])/\Hid (b4++ty.data.toList=b++(It.mk ty false j).fO))
      case first=>
       cases bb with
       |false=>
        have al:Hid ((It.mk ty false j).fO=ty.data.toList):=za (AX ty j (Ej.out.1 rfl));go_wp2_with fail
        go_meet;case rel=>exact⟨b,H,n2,G,K,dm,ak,za (by rw[al.out])⟩
       |true=>
        have al:Hid ((It.mk ty false j).fO=cJ 128 ty.size++ty.data.toList):=za (AY ty j (fun h=>by have:=Ej.out.2 h;cases this));obtain⟨_,s1,_,aI,aH⟩:=K.out.top;rw[F.out]at s1 aI;have OZ:Hid (some g≠Value.ownBlock (.slice H n2 G)):=za (by
         rcases aH g with h|h
         ·exact xR h
         exact absurd rfl h)
        have M:=za K.out.lays.1.2;have bm:=JW.out;have U:=im d ys (b++(It.mk ty false j).fO);rw[<-mY,I.out,al.out]at U;simp only[zj,aa]at U;have ax:=HT.out;have Ma:=za (QX 128 ty.size S (.slice H n2 G) b wc.drew M.out an (by omega) (by omega) (by omega));clear bm U ax aH;go_wp2_with fail
        go_region_law (first|(go_simp;go_at_call 173;refine Ma.out.mono ?_;rintro e l ⟨v',rfl,ag,ai⟩;obtain⟨O,R,N,rfl,S4,bd,aY⟩:=ag.cH;have e3:l.cell? ⟨g,r*2+1,none⟩=some (.slice H n2 G):=(ai.grown.cell_far ⟨g,r*2+1,none⟩ aM OZ.out).trans s1;have e4:l.frozen? ⟨g,r*2+1,none⟩=false:=(ai.grown.frozen_far ⟨g,r*2+1,none⟩ aM OZ.out).trans aI))
        all_goals
         go_wp2_with fail
         go_meet;case rel=>
          refine⟨b++cJ 128 ty.size,O,R,N,za ?_,za ?_,za ?_,za ?_⟩
          ·have:=Lay.bytes (w:=wc.drew) (K.out.below an (zl _ _).drew) an ai ag;rwa [F.out]at this
          ·exact(ai.below dm.out.drew an (fun i hi=>(M.out.ge i hi).1)).setCell (by simpa using L8) _
          ·exact af.dS (af.Tq (w:=wc.drew) ak.out ai (fun e=>by
            obtain⟨_,_,cu,fr,h2⟩:=M.out.ge _ e;have h3:=ak.out;rw[af,h2]at h3;injection h3 with h3;injection h3 with _ h3;exact absurd h3 (by decide))) (by intro e;dsimp only at e;omega) _
          rw[al.out,zB]
      case rest=>
       obtain⟨b4,O,R,N,LZ,aQ,bk,Mb⟩:=hcut;have au:S<=wc.heap.size:=zK O0.out aQ.out.size;have DV:g<wc.heap.size:=LZ.out.block.2.1;obtain⟨_,s4,_,aR,aC⟩:=LZ.out.top;rw[F.out]at s4 aR;have aP:Hid (some g≠Value.ownBlock (.slice O R N)):=za (by
        rcases aC g with h|h
        ·exact xR h
        exact absurd rfl h)
       obtain⟨i4,_,_,_,_,_⟩:=aZ bk.out;have dB:=za LZ.out.lays.1.2;have U:=im d ys (b++(It.mk ty false j).fO);rw[<-mY,I.out,<-Mb.out]at U;simp only[zj]at U;have ax:=HT.out;have Ar:Hid (b4.length+ty.data.toList.length<=140737488355328):=za (by omega);clear U ax aC;go_wp2_with fail
       go_region_law (refine rA (by rfl) (.tmp 110) (.tmp 112) 31 9 (by rfl) S 5 i0 zr hi dO cc cE (by rfl) (show bP wc.drew S 5 (.slice O R N) b4 from dB.out) _ ty.data.toList (by rfl) (ji zM _ ty) au Ar.out ?_;intro A6 n6 aq w6 mz ah;have e5:w6.cell? ⟨g,r*2+1,none⟩=some (.slice O R N):=(ah.grown.cell_far ⟨g,r*2+1,none⟩ DV aP.out).trans s4;have e6:w6.frozen? ⟨g,r*2+1,none⟩=false:=(ah.grown.frozen_far ⟨g,r*2+1,none⟩ DV aP.out).trans aR)
       all_goals
        have a6:Hid (Lay (w6.setCell ⟨g,r*2+1,none⟩ (.slice A6 n6 aq)) S g C ((ys,b4++ty.data.toList)::d) ((Y,.slice A6 n6 aq)::E)):=za (by
         have:=Lay.bytes (w:=wc.drew) (LZ.out.below au (zl _ _).drew) au ah mz;rwa [F.out]at this)
        have rk:Hid (Below S D (w6.setCell ⟨g,r*2+1,none⟩ (.slice A6 n6 aq))):=za ((ah.below aQ.out.drew au (fun i hi=>(dB.out.ge i hi).1)).setCell (by simpa using L8) _);clear mz ah;go_wp2;go_roundg (gk-1)
        case measure=>have:=W.out;simp[AW]at this;omega
        case rel=>
         refine⟨g,C,ys,b4++ty.data.toList,d,Y,.slice A6 n6 aq,E,by rw[F.out],a6,za ?_,za ?_,rk⟩
         ·rw[Mb.out,<-mY];exact I.out
         have:=W.out;have:=BC (It.mk ty false j);simp[AW,ay]at this⊢;have h5:=W.out;simp[AW,ay]at h5;omega
