/- rlp.Put. -/
import Derived.Test.YtdbmifjankgfpaaGreatDoorKA33
import Derived.Test.YtdbmifjankgfpaaGreatDoorKA27
set_option linter.all false
set_option maxRecDepth 100000
set_option maxHeartbeats 4000000
open Go.Proofs.Tryz
namespace Go.Proofs.YtdbmifjankgfpaaGreatDoor
open Go.RowKit
def AS :List (List It×List UInt8)->Nat
 | []=>0
 |f::fs=>1+2*aN f.1+AS fs
theorem tq (xs:List It)(b:List UInt8)(f:List It×List UInt8)(rest:List (List It×List UInt8)):eA xs b (f::rest)=eA f.1 (f.2++k9 (b++gL xs)) rest:=by simp[eA]
theorem iC :∀(rest:List (List It×List UInt8)) (xs:List It) (b:List UInt8),b.length+(gL xs).length<=(eA xs b rest).length
 | [],xs,b=>by simp[eA]
 |f::rest,xs,b=>by
  rw[tq];have:=iC rest f.1 (f.2++k9 (b++gL xs));simp only[zl,k9]at this⊢;omega
theorem Di :∀(rest:List (List It×List UInt8)) (xs:List It) (b:List UInt8),rest.length<=(eA xs b rest).length
 | [],_,_=>by simp
 |f::rest,xs,b=>by
  have h:∀(r:List (List It×List UInt8)) (d:List It) (c:List UInt8),c.length+r.length<=(eA d c r).length:=by
   intro r;induction r with
   |nil=>intro d c;have:=iC [] d c;simp at this⊢;omega
   |cons g r ih=>
    intro d c;rw[tq];have i:=ih g.1 (g.2++k9 (c++gL d));have e:=fF 192 (c++gL d).length;have j:1<=(cM 192 (c++gL d).length).length:=by rw[e];split<;>omega
    simp only[zl,k9,zx]at i e j⊢;omega
  have:=h (f::rest) xs b;omega
theorem AT (t:ByteArray)(s:List It)(h:t.size=1/\(t.data.toList.getD 0 0).toNat<128):(It.mk t false s).gN=t.data.toList:=by rw[It.gN,zh (by simp),zi h]
theorem AU (t:ByteArray)(s:List It)(h:¬(t.size=1/\(t.data.toList.getD 0 0).toNat<128)):(It.mk t false s).gN=cM 128 t.size++t.data.toList:=by
 rw[It.gN,zh (by simp),zh h]
theorem Lay.first {w:World}{g:Nat}{b:Value}(h:w.heap[g]?=some (.cells #[b,.slice none 0 0] 226)){S:Nat}(hS:S<=g){xs:List It}{A:Option Addr}{c:Nat}(e:b= .slice A xs.length c)(i:xs.length<=c)(j:c<=9223372036854775807)(d:cl w S xs A 0):
 Lay w S g 1 [(xs,[])] [(b,.slice none 0 0)]:=
 ⟨⟨rfl,.inr ⟨g,1,_,rfl,hS,h,by simp,by simp[maxLen],rfl,rfl⟩⟩,⟨⟨⟨A,c,e,i,j,d⟩,bF.nil _ _ _⟩,(fun u hu=>by cases hu),trivial⟩⟩
theorem QK (x:It)(B:Nat)(w:World)(c0 c1 c2:Value)(h:dX w B x c0 c1 c2)(hB:B<=w.heap.size)(hm:x.may=true)(hl:x.gN.length<=1099511627776):
 Calls prog 147 #[.agg #[c0,c1,c2]] w fun e w'=>e= .returned (.tuple #[.string ⟨x.gN.toArray⟩,.int .i64 0])/\Below w.heap.size w w':=by
 have HC:=za (Vo x B (w.alloc (.cells #[c0,c1,c2] 28)) c0 c1 c2 (h.below (blm hB)) (by simp;omega));rw[hm]at HC;have HI:=za h;obtain⟨A,cap,rfl,rfl,rfl,_⟩:=h.open_;obtain⟨i0,hi,eh,cr,cE⟩:=yH wy;obtain⟨i1,lG,RX,RV,RW⟩:=yH FT;clear h hm;go_enter func147,ntmps147
 go_wp2_with fail
 refine HC.out.mono ?_;rintro e z ⟨rfl,hb⟩;have hz:=hb.size;simp only[zq]at hz;have bQ:Hid (Below w.heap.size w z):=za (((zm w.heap.size w).alloc (zg _) _).trans (hb.mono (by simp)));obtain⟨g0,g1,g2,_⟩:=a8 ((af.new w 28 #[.string x.text,.bool x.list,.slice A x.sub.length cap]).ag hb (by simp));clear hb HC;go_wp2_with fail
 obtain⟨F,bO⟩:∃F,(z.alloc (.cells #[.string x.text,.bool x.list,.slice A x.sub.length cap] 28)).alloc (.cells #[.slice (some ⟨z.heap.size,0,none⟩) 1 1,.slice none 0 0] 226)=F:=⟨_,rfl⟩
 have cw:Hid (Below w.heap.size w F):=za (by rw[<-bO];exact(bQ.out.alloc (by omega) _).alloc (by simp;omega) _);have UQ:=af.new z 28 #[.string x.text,.bool x.list,.slice A x.sub.length cap];have RZ:=UQ.alloc (.cells #[.slice (some ⟨z.heap.size,0,none⟩) 1 1,.slice none 0 0] 226);rw[bO]at RZ;obtain⟨q0,q1,q2,_⟩:=a8 RZ;have aH:Hid (Lay F (z.heap.size+1) (z.heap.size+1) 1 [([x],[])] [(.slice (some ⟨z.heap.size,0,none⟩) 1 1,.slice none 0 0)]):=za (by
  refine Lay.first (by rw[<-bO];have:=yR (z.alloc (.cells #[.string x.text,.bool x.list,.slice A x.sub.length cap] 28)) (.cells #[.slice (some ⟨z.heap.size,0,none⟩) 1 1,.slice none 0 0] 226);simpa using this) (zg _) (xs:= [x]) rfl (by simp) (by omega) ?_
  exact⟨⟨z.heap.size,0,_,_,_,rfl,by omega,by simpa using q0,by simpa using q1,by simpa using q2,(HI.out.below (cw.out.mono hB)).mono (by omega)⟩,trivial⟩)
 have OD:Hid (z.heap.size+1<=F.heap.size):=za (by rw[<-bO];simp);rw[bO];have HT:=za hl;clear bO UQ RZ q0 q1 q2 g0 g1 g2 HI hl;obtain⟨S,hS⟩:∃S,z.heap.size+1=S:=⟨_,rfl⟩
 have a7:Hid (w.heap.size<=S):=za (by omega);rw[hS]at aH OD⊢;obtain⟨X,Bq⟩:∃X,x.gN=X:=⟨_,rfl⟩
 rw[Bq]at HT;have aE:=za Bq;clear Bq;go_loopg [5] (AS [([x],[])]) (fun k v wr=>∃(g D:Nat) (xs:List It) (b:List UInt8) (d:List (List It×List UInt8)) (v0 v1:Value) (E:List (Value×Value)),v= .slice (some ⟨g,0,none⟩) (d.length+1) D/\Hid (Lay wr S g D ((xs,b)::d) ((v0,v1)::E))/\Hid (eA xs b d=X)/\Hid (AS ((xs,b)::d)<=k)/\Hid (Below S F wr))
 case atStart=>exact⟨S,1,[x],[],[],_,_,[],rfl,aH,za (by rw[<-aE.out];simp[eA,gL]),za (zg _),za (zm _ _)⟩
 case round=>
  obtain⟨g,D,xs,b,d,v0,v1,E,rfl,J,I,HN,fZ⟩:=hrel;have JG:=fZ.out.size;have ag:S<=wr.heap.size:=zF OD.out JG;obtain⟨t0,t1,LA,N',aM⟩:=J.out.top;have aS:=J.out.block;obtain⟨Lz,tR,oh,bC,_⟩:=aS;obtain⟨⟨A1,k1,rfl,jZ,bt,ay⟩,bn⟩:=J.out.lays.1;have M:=za bn;have JU:=za ay;obtain⟨H,n2,G,rfl,Lm,Bg,bp⟩:=bn.cF;clear bn ay;dsimp only at t0 t1 aM M Lm JU jZ;simp only[zx]at oh;obtain⟨r,hr⟩:∃r,d.length=r:=⟨_,rfl⟩
  rw[hr]at t0 t1 LA N' oh⊢;have C:=za hr;clear hr;have A9:k1<9223372036854775808:=by omega
  cases xs with
  |nil=>
   simp only[zJ]at t0;cases d with
   |nil=>
    obtain rfl:r=0:=C.out.symm;have eJ:=M.out.Ex (P:=prog) zt yw zN;go_wp2;go_ret2
    refine⟨?_,cw.out.trans (fZ.out.mono a7.out)⟩;have:=I.out;rw[aE.out,<-this];simp[eA,gL]
   |cons f rest=>
    obtain⟨r,rfl⟩:∃r',r=r'+1:=⟨r-1,by have:=C.out;simp at this;omega⟩
    have OC:Hid (rest.length=r):=za (by have:=C.out;simp at this;omega);obtain⟨⟨u0,u1⟩,us,rfl⟩:∃u us,E=u::us:=by
     cases E with
     |nil=>exact absurd J.out.lays.length (by simp)
     |cons u us=>exact⟨u,us,rfl⟩
    obtain⟨zs,c⟩:=f;have HP:=za J.out.pop;obtain⟨t2,t3,S5,aP,aC⟩:=HP.out.top;have Ao:=za HP.out.lays.1.2;have aL:∀i,Value.ownBlock (.slice H n2 G)=some i->u1.ownBlock≠some i:=J.out.lays.2.1 (u0,u1) (by simp);rw[OC.out]at t2 t3 S5 aP;dsimp only at t2 t3 Ao;obtain⟨A3,n3,aF,rfl,bz,bG,bo⟩:=Ao.out.cF;have ad:=iC rest zs (c++k9 b);rw[<-o9,I.out]at ad;simp only[zl,k9]at ad;have D8:=HT.out;have aO:b.length=n2:=Lm.out.symm;have HH:=za (QJ 192 n2 S _ c wr Ao.out ag (by omega) (by omega) (by omega));have aW:=za aL;have bc:=za aC;clear aM aC aL aO ad D8;go_wp2_with fail
    refine HH.out.mono ?_;rintro e w2 ⟨v',rfl,ae,ri⟩;obtain⟨O,N,R,rfl,SS,aV,aT⟩:=ae.cF;have a1:=za ae;have Rb:=za ri;have aZ:Hid (bF w2 S 5 (.slice H n2 G) b):=za (M.out.ag fun k hk ho=>ri.block hk (aW.out k ho));have rl:=ri.size;have aD:(c++cM 192 n2).length+b.length<=1099511627776:=by
     have ad:=iC rest zs (c++k9 b);rw[<-o9,I.out]at ad;have D8:=HT.out;simp only[zl,k9]at ad⊢;rw[Lm.out];omega
    have ba:=za aD;clear ae ri aD;go_wp2_with (at_builtin;refine bW (by rfl) (.tmp 57) (.tmp 58) 31 31 (by rfl) S 5 i0 zt hi eh cr cE (by rfl) a1.out _ b (by rfl) (J9 zt aZ.out) (by omega) (zF ba.out (by omega)) ?_)
    intro A5 n5 an w3 jB aI;have RY:=Rb.out.trans aI;have Y8:Value.ownBlock (.slice A3 n3 aF)≠some g:=by
     rcases bc.out g with h|h
     ·exact h
     exact absurd rfl h
    have e3:w3.cell? ⟨g,r*2+1,none⟩=some (.slice A3 n3 aF):=(RY.grown.cell_far ⟨g,r*2+1,none⟩ tR (xF Y8)).trans t3;have e4:w3.frozen? ⟨g,r*2+1,none⟩=false:=(RY.grown.frozen_far ⟨g,r*2+1,none⟩ tR (xF Y8)).trans aP;have bh:Hid (Lay (w3.setCell ⟨g,r*2+1,none⟩ (.slice A5 n5 an)) S g D ((zs,c++(cM 192 n2++b))::rest) ((u0,.slice A5 n5 an)::us)):=za (by have:=HP.out.bytes ag RY jB;rwa [OC.out]at this);have au:Hid (Below S F (w3.setCell ⟨g,r*2+1,none⟩ (.slice A5 n5 an))):=za ((RY.below fZ.out ag (fun i hi=>(Ao.out.ge i hi).1)).setCell (by simpa using Lz) _);clear jB aI RY Y8;go_wp2;go_roundg (gk-1)
    case measure=>have:=HN.out;simp[AS]at this;omega
    case rel=>
     refine⟨g,D,zs,c++(cM 192 n2++b),rest,u0,.slice A5 n5 an,us,by rw[OC.out],bh,za ?_,za ?_,au⟩
     ·have:=I.out;rw[o9,k9,<-Lm.out]at this;exact this
     have:=HN.out;simp[AS,aN]at this⊢;omega
  |cons y ys=>
   obtain⟨q,hq⟩:∃q,ys.length=q:=⟨_,rfl⟩
   obtain⟨⟨n,m,d0,d1,d2,rfl,JA,e0,e1,e2,hy⟩,aK⟩:=JU.out;have aQ:=za aK.tail;obtain⟨ty,ly,j⟩:=y;obtain⟨rfl,rfl,ot,br,L,Z,rfl,a',bg,fx⟩:=hy;have Y6:=za fx;simp only[Nat.zero_mul,xd]at e0 e1 e2;rw[zx,hq]at t0 jZ;have HQ:=za hq;have bE:q+1<=9223372036854775807:=by omega
   clear aK fx hq;have mf:d.length<=1099511627776:=by
    have h1:=Di d (It.mk ty ly j::ys) b;rw[I.out]at h1;have h2:=HT.out;omega
   rw[C.out]at mf;go_upto_region 14 with fail
   go_cut [] (fun l=>∃U,Hid (Lay l S g D ((ys,b)::d) ((U,.slice H n2 G)::E))/\Hid (Below S F l)/\Hid (af l wr.heap.size 28 #[.string ty,.bool ly,.slice L j.length Z])/\Hid (cl l S j L 0)/\Hid (l.heap.size=wr.heap.size+1))
   case first=>
    by_cases bl:k1=1
    ·subst bl;obtain rfl:q=0:=by omega
     have K:Hid (Lay (wr.setCell ⟨g,r*2,none⟩ (.slice (some ⟨n,m,none⟩) 0 0)) S g D ((ys,b)::d) ((.slice (some ⟨n,m,none⟩) 0 0,.slice H n2 G)::E)):=za (by
      obtain rfl:ys= []:=zp HQ.out;have:=J.out.items ag (xs':= []) (A:=some ⟨n,m,none⟩) (c:=0) (by simp) (by simp) trivial;rwa [C.out]at this)
     go_wp2_with fail
     go_meet;case rel=>
      have av:(wr.setCell ⟨g,r*2,none⟩ (.slice (some ⟨n,m,none⟩) 0 0)).heap.size=wr.heap.size:=by simp[World.setCell]
      refine⟨.slice (some ⟨n,m,none⟩) 0 0,za (K.out.below (by omega) ((zm _ _).alloc (zg _) _)),za ((fZ.out.setCell (by simpa using Lz) _).alloc (by omega) _),za ?_,za ?_,za (by simp[World.setCell])⟩
      ·have:=af.new (wr.setCell ⟨g,r*2,none⟩ (.slice (some ⟨n,m,none⟩) 0 0)) 28 #[.string ty,.bool ly,.slice L j.length Z];rwa [av]at this
      refine cl.below (w:=wr.setCell ⟨g,r*2,none⟩ (.slice (some ⟨n,m,none⟩) 0 0)) (Y6.out.ag fun p hp=>zG (bM (by simp;omega))) (((zm _ _).alloc (zg _) _).mono (by omega))
    have K:Hid (Lay (wr.setCell ⟨g,r*2,none⟩ (.slice (some ⟨n,m+3,none⟩) q (k1-1))) S g D ((ys,b)::d) ((.slice (some ⟨n,m+3,none⟩) q (k1-1),.slice H n2 G)::E)):=za (by
     have:=J.out.items ag (xs':=ys) (A:=some ⟨n,m+3,none⟩) (c:=k1-1) (by rw[HQ.out];omega) (by omega) aQ.out;rwa [C.out,HQ.out]at this)
    go_wp2_with fail
    go_meet;case rel=>
     have av:(wr.setCell ⟨g,r*2,none⟩ (.slice (some ⟨n,m+3,none⟩) q (k1-1))).heap.size=wr.heap.size:=by simp[World.setCell]
     refine⟨.slice (some ⟨n,m+3,none⟩) q (k1-1),za (K.out.below (by omega) ((zm _ _).alloc (zg _) _)),za ((fZ.out.setCell (by simpa using Lz) _).alloc (by omega) _),za ?_,za ?_,za (by simp[World.setCell])⟩
     ·have:=af.new (wr.setCell ⟨g,r*2,none⟩ (.slice (some ⟨n,m+3,none⟩) q (k1-1))) 28 #[.string ty,.bool ly,.slice L j.length Z];rwa [av]at this
     refine cl.below (w:=wr.setCell ⟨g,r*2,none⟩ (.slice (some ⟨n,m+3,none⟩) q (k1-1))) (Y6.out.ag fun p hp=>zG (bM (by simp;omega))) (((zm _ _).alloc (zg _) _).mono (by omega))
   case rest=>
    obtain⟨U,K,ee,ai,bk,HZ⟩:=hcut;obtain⟨bs,bx,bA,bq,bD,bw⟩:=a8 ai.out;have bu:=ai.out.lt;have az:g<wc.heap.size:=by have:=HZ.out;omega
    have aj:S<=wc.heap.size:=by omega
    have bB:g≠wr.heap.size:=by omega
    clear ag tR JG;clear t0 t1 LA N' e0 e1 e2 JU aQ Y6 J M;cases ly with
    |true=>
     have N8:Hid (∀o,Lay (wc.alloc o) S g D ((ys,b)::d) ((U,.slice H n2 G)::E)):=za (fun o=>K.out.below (by omega) ((zm _ _).alloc (zg _) _));have OA:Hid (r+1=((ys,b)::d).length):=za (by simp[C.out]);have Gz:Hid (∀o,cl (wc.alloc o) S j L 0):=za (fun o=>bk.out.below (((zm wc.heap.size wc).alloc (zg _) o).mono (by omega)));have aw:Hid (af (wc.alloc (.cells #[.slice L j.length Z,.slice none 0 0] 226)) wc.heap.size 226 #[.slice L j.length Z,.slice none 0 0]):=za (af.new wc _ _);have hG:Hid (∀o,Below S F (wc.alloc o)):=za (fun o=>ee.out.alloc (by omega) o);have UX:Hid (∀o,S<=(wc.alloc o).heap.size):=za (fun o=>by simp;omega);go_wp2_with (at_builtin;refine Hid.out ?_)
     refine za ?_;refine qG (by rfl) (.tmp 78) (.tmp 82) (by rfl) (N8.out _) (UX.out _) OA.out (by rfl) a' bg (Gz.out _) wc.heap.size (by rfl) (aw.out.cell 0) (aw.out.cell 1) (by rw[<-OA.out];omega) ?_;intro g' n' aq w' aU bf aX;have au:Hid (Below S F w'):=za ((hG.out _).grown aX.out (UX.out _) (fun k hk=>by injection hk with hk;omega));go_wp2;go_roundg (gk-1)
     case measure=>have:=HN.out;simp[AS]at this;omega
     case rel=>
      refine⟨g',aq,j,[],(ys,b)::d,.slice L j.length Z,.slice none 0 0,(U,.slice H n2 G)::E,by rw[aU.out],bf,za ?_,za ?_,au⟩
      ·have:=I.out;rw[EU]at this;exact this
      have:=HN.out;simp[AS,aN,It.count]at this⊢;omega
    |false=>
     go_upto_region 17 with fail
     go_cut [93] (fun s l=>∃bb:Bool,s= .bool bb/\Hid (bb=false↔(ty.size=1/\(ty.data.toList.getD 0 0).toNat<128))/\l=wc)
     case first=>
      by_cases NU:ty.size=1
      ·have NV:((ty.size:Int) !=1)=false:=by simp[NU]
       have aY:((ty.size:Int)==1)=true:=by simp[NU]
       have Bb:0<ty.size:=by omega
       have bj:Hid (ty.data.toList.getD 0 0=ty[0]):=za (by rw[zw,gR ty 0 Bb];rfl);go_wp2_with fail
       go_meet;case rel=>
        rw[bj.out];refine⟨_,rfl,za ?_,rfl⟩;simp[NU];omega
      have NV:((ty.size:Int) !=1)=true:=by simp;omega
      have aY:((ty.size:Int)==1)=false:=by simp;omega
      go_wp2_with fail
      go_meet;case rel=>exact⟨_,rfl,za (by simp[NU]),rfl⟩
     case rest=>
      obtain⟨bb,rfl,G0,rfl⟩:=hcut;go_upto_if 93 with fail
      go_cut [] (fun l=>∃Y O N R,Hid (Lay l S g D ((ys,Y)::d) ((U,.slice O N R)::E))/\Hid (Below S F l)/\Hid (af l wr.heap.size 28 #[.string ty,.bool false,.slice L j.length Z])/\Hid (Y++ty.data.toList=b++(It.mk ty false j).gN))
      case first=>
       cases bb with
       |false=>
        have ak:Hid ((It.mk ty false j).gN=ty.data.toList):=za (AT ty j (G0.out.1 rfl));go_wp2_with fail
        go_meet;case rel=>exact⟨b,H,n2,G,K,ee,ai,za (by rw[ak.out])⟩
       |true=>
        have ak:Hid ((It.mk ty false j).gN=cM 128 ty.size++ty.data.toList):=za (AU ty j (fun h=>by have:=G0.out.2 h;cases this));obtain⟨_,s1,_,aB,aG⟩:=K.out.top;rw[C.out]at s1 aB;have Ap:Hid (some g≠Value.ownBlock (.slice H n2 G)):=za (by
         rcases aG g with h|h
         ·exact xF h
         exact absurd rfl h)
        have M:=za K.out.lays.1.2;have bd:=Lm.out;have W:=iC d ys (b++(It.mk ty false j).gN);rw[<-nh,I.out,ak.out]at W;simp only[zl,aa]at W;have Y7:=HT.out;have LC:=za (QJ 128 ty.size S (.slice H n2 G) b wc.drew M.out aj (by omega) (by omega) (by omega));clear bd W Y7 aG;go_wp2_with fail
        go_region_law (first|(go_simp;go_at_call 173;refine LC.out.mono ?_;rintro e l ⟨v',rfl,ae,ah⟩;obtain⟨O,N,R,rfl,SS,aV,aT⟩:=ae.cF;have e3:l.cell? ⟨g,r*2+1,none⟩=some (.slice H n2 G):=(ah.grown.cell_far ⟨g,r*2+1,none⟩ az Ap.out).trans s1;have e4:l.frozen? ⟨g,r*2+1,none⟩=false:=(ah.grown.frozen_far ⟨g,r*2+1,none⟩ az Ap.out).trans aB))
        all_goals
         go_wp2_with fail
         go_meet;case rel=>
          refine⟨b++cM 128 ty.size,O,N,R,za ?_,za ?_,za ?_,za ?_⟩
          ·have:=Lay.bytes (w:=wc.drew) (K.out.below aj (zm _ _).drew) aj ah ae;rwa [C.out]at this
          ·exact(ah.below ee.out.drew aj (fun i hi=>(M.out.ge i hi).1)).setCell (by simpa using Lz) _
          ·exact af.dN (af.Ma (w:=wc.drew) ai.out ah (fun e=>by
            obtain⟨_,_,cu,fr,h2⟩:=M.out.ge _ e;have h3:=ai.out;rw[af,h2]at h3;injection h3 with h3;injection h3 with _ h3;exact absurd h3 (by decide))) (by intro e;dsimp only at e;omega) _
          rw[ak.out,zE]
      case rest=>
       obtain⟨Y,O,N,R,Lv,ax,bm,LB⟩:=hcut;have al:S<=wc.heap.size:=zF OD.out ax.out.size;have oZ:g<wc.heap.size:=Lv.out.block.2.1;obtain⟨_,s4,_,aA,aR⟩:=Lv.out.top;rw[C.out]at s4 aA;have aJ:Hid (some g≠Value.ownBlock (.slice O N R)):=za (by
        rcases aR g with h|h
        ·exact xF h
        exact absurd rfl h)
       obtain⟨i4,_,_,_,_,_⟩:=a8 bm.out;have cZ:=za Lv.out.lays.1.2;have W:=iC d ys (b++(It.mk ty false j).gN);rw[<-nh,I.out,<-LB.out]at W;simp only[zl]at W;have Y7:=HT.out;have Am:Hid (Y.length+ty.data.toList.length<=140737488355328):=za (by omega);clear W Y7 aR;go_wp2_with fail
       go_region_law (refine rG (by rfl) (.tmp 110) (.tmp 112) 31 9 (by rfl) S 5 i0 zt hi eh cr cE (by rfl) (show bF wc.drew S 5 (.slice O N R) Y from cZ.out) _ ty.data.toList (by rfl) (iN zN _ ty) al Am.out ?_;intro A6 n6 ar w6 pK Y9;have e5:w6.cell? ⟨g,r*2+1,none⟩=some (.slice O N R):=(Y9.grown.cell_far ⟨g,r*2+1,none⟩ oZ aJ.out).trans s4;have e6:w6.frozen? ⟨g,r*2+1,none⟩=false:=(Y9.grown.frozen_far ⟨g,r*2+1,none⟩ oZ aJ.out).trans aA)
       all_goals
        have a6:Hid (Lay (w6.setCell ⟨g,r*2+1,none⟩ (.slice A6 n6 ar)) S g D ((ys,Y++ty.data.toList)::d) ((U,.slice A6 n6 ar)::E)):=za (by
         have:=Lay.bytes (w:=wc.drew) (Lv.out.below al (zm _ _).drew) al Y9 pK;rwa [C.out]at this)
        have Ac:Hid (Below S F (w6.setCell ⟨g,r*2+1,none⟩ (.slice A6 n6 ar))):=za ((Y9.below ax.out.drew al (fun i hi=>(cZ.out.ge i hi).1)).setCell (by simpa using Lz) _);clear pK Y9;go_wp2;go_roundg (gk-1)
        case measure=>have:=HN.out;simp[AS]at this;omega
        case rel=>
         refine⟨g,D,ys,Y++ty.data.toList,d,U,.slice A6 n6 ar,E,by rw[C.out],a6,za ?_,za ?_,Ac⟩
         ·rw[LB.out,<-nh];exact I.out
         have:=HN.out;have:=BH (It.mk ty false j);simp[AS,aN]at this⊢;have h5:=HN.out;simp[AS,aN]at h5;omega
