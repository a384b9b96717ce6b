/- rlp.Put. -/
import Derived.Test.YtpjgigllldipiaaGreatDoorKA34
import Derived.Test.YtpjgigllldipiaaGreatDoorKA28
set_option linter.all false
set_option maxRecDepth 100000
set_option maxHeartbeats 4000000
namespace Go.Proofs.YtpjgigllldipiaaGreatDoor
open Tryz
open Go.RowKit
def Ak :List (List It×List UInt8)->Nat
 | []=>0
 |f::fs=>1+2*aG f.1+Ak fs
theorem sG (xs:List It)(b:List UInt8)(f:List It×List UInt8)(rest:List (List It×List UInt8)):dY xs b (f::rest)=dY f.1 (f.2++kK (b++fc xs)) rest:=by simp[dY]
theorem gY :∀(rest:List (List It×List UInt8)) (xs:List It) (b:List UInt8),b.length+(fc xs).length<=(dY xs b rest).length
 | [],xs,b=>by simp[dY]
 |f::rest,xs,b=>by
  rw[sG];have:=gY rest f.1 (f.2++kK (b++fc xs));simp only[zp,kK]at this⊢;omega
theorem CZ :∀(rest:List (List It×List UInt8)) (xs:List It) (b:List UInt8),rest.length<=(dY xs b rest).length
 | [],_,_=>by simp
 |f::rest,xs,b=>by
  have h:∀(r:List (List It×List UInt8)) (d:List It) (c:List UInt8),c.length+r.length<=(dY d c r).length:=by
   intro r;induction r with
   |nil=>intro d c;have:=gY [] d c;simp at this⊢;omega
   |cons g r ih=>
    intro d c;rw[sG];have i:=ih g.1 (g.2++kK (c++fc d));have e:=dZ 192 (c++fc d).length;have j:1<=(cw 192 (c++fc d).length).length:=by rw[e];split<;>omega
    simp only[zp,kK,zD]at i e j⊢;omega
  have:=h (f::rest) xs b;omega
theorem Al (t:ByteArray)(s:List It)(h:t.size=1/\(t.data.toList.getD 0 0).toNat<128):(It.mk t false s).fA=t.data.toList:=by rw[It.fA,zj (by simp),zl h]
theorem Am (t:ByteArray)(s:List It)(h:¬(t.size=1/\(t.data.toList.getD 0 0).toNat<128)):(It.mk t false s).fA=cw 128 t.size++t.data.toList:=by
 rw[It.fA,zj (by simp),zj h]
theorem Lay.first {w:World}{g:Nat}{b:Value}(h:w.heap[g]?=some (.cells #[b,.slice none 0 0] 182)){S:Nat}(hS:S<=g){xs:List It}{A:Option Addr}{c:Nat}(e:b= .slice A xs.length c)(j:xs.length<=c)(d:c<=9223372036854775807)(i:bU w S xs A 0):
 Lay w S g 1 [(xs,[])] [(b,.slice none 0 0)]:=
 ⟨⟨rfl,.inr ⟨g,1,_,rfl,hS,h,by simp,by simp[maxLen],rfl,rfl⟩⟩,⟨⟨⟨A,c,e,j,d,i⟩,bJ.nil _ _ _⟩,(fun u hu=>by cases hu),trivial⟩⟩
theorem PQ (x:It)(B:Nat)(w:World)(c0 c1 c2:Value)(h:bZ w B x c0 c1 c2)(hB:B<=w.heap.size)(hm:x.may=true)(hl:x.fA.length<=1099511627776):
 Calls prog 91 #[.agg #[c0,c1,c2]] w fun e w'=>e= .returned (.tuple #[.string ⟨x.fA.toArray⟩,.int .i64 0])/\Below w.heap.size w w':=by
 have HC:=za (Uy x B (w.alloc (.cells #[c0,c1,c2] 28)) c0 c1 c2 (h.below (blm hB)) (by simp;omega));rw[hm]at HC;have HI:=za h;obtain⟨A,cap,rfl,rfl,rfl,_⟩:=h.open_;obtain⟨i0,hi,eA,cg,cG⟩:=yT vz;obtain⟨i1,fk,Q8,Q9,Ra⟩:=yT FE;clear h hm;go_enter func91,ntmps91
 go_wp2_with fail
 refine HC.out.mono ?_;rintro e z ⟨rfl,hb⟩;have hz:=hb.size;simp only[zt]at hz;have cq:Hid (Below w.heap.size w z):=za (((zq w.heap.size w).alloc (zf _) _).trans (hb.mono (by simp)));obtain⟨g0,g1,g2,_⟩:=a8 ((af.new w 28 #[.string x.text,.bool x.list,.slice A x.sub.length cap]).ah hb (by simp));clear hb HC;go_wp2_with fail
 obtain⟨C,cB⟩:∃C,(z.alloc (.cells #[.string x.text,.bool x.list,.slice A x.sub.length cap] 28)).alloc (.cells #[.slice (some ⟨z.heap.size,0,none⟩) 1 1,.slice none 0 0] 182)=C:=⟨_,rfl⟩
 have cJ:Hid (Below w.heap.size w C):=za (by rw[<-cB];exact(cq.out.alloc (by omega) _).alloc (by simp;omega) _);have T2:=af.new z 28 #[.string x.text,.bool x.list,.slice A x.sub.length cap];have Rb:=T2.alloc (.cells #[.slice (some ⟨z.heap.size,0,none⟩) 1 1,.slice none 0 0] 182);rw[cB]at Rb;obtain⟨q0,q1,q2,_⟩:=a8 Rb;have ay:Hid (Lay C (z.heap.size+1) (z.heap.size+1) 1 [([x],[])] [(.slice (some ⟨z.heap.size,0,none⟩) 1 1,.slice none 0 0)]):=za (by
  refine Lay.first (by rw[<-cB];have:=yW (z.alloc (.cells #[.string x.text,.bool x.list,.slice A x.sub.length cap] 28)) (.cells #[.slice (some ⟨z.heap.size,0,none⟩) 1 1,.slice none 0 0] 182);simpa using this) (zf _) (xs:= [x]) rfl (by simp) (by omega) ?_
  exact⟨⟨z.heap.size,0,_,_,_,rfl,by omega,by simpa using q0,by simpa using q1,by simpa using q2,(HI.out.below (cJ.out.mono hB)).mono (by omega)⟩,trivial⟩)
 have NS:Hid (z.heap.size+1<=C.heap.size):=za (by rw[<-cB];simp);rw[cB];have HT:=za hl;clear cB T2 Rb q0 q1 q2 g0 g1 g2 HI hl;obtain⟨S,hS⟩:∃S,z.heap.size+1=S:=⟨_,rfl⟩
 have aT:Hid (w.heap.size<=S):=za (by omega);rw[hS]at ay NS⊢;obtain⟨X,AO⟩:∃X,x.fA=X:=⟨_,rfl⟩
 rw[AO]at HT;have ax:=za AO;clear AO;go_loopg [5] (Ak [([x],[])]) (fun k v wr=>∃(g E:Nat) (xs:List It) (b:List UInt8) (d:List (List It×List UInt8)) (v0 v1:Value) (F:List (Value×Value)),v= .slice (some ⟨g,0,none⟩) (d.length+1) E/\Hid (Lay wr S g E ((xs,b)::d) ((v0,v1)::F))/\Hid (dY xs b d=X)/\Hid (Ak ((xs,b)::d)<=k)/\Hid (Below S C wr))
 case atStart=>exact⟨S,1,[x],[],[],_,_,[],rfl,ay,za (by rw[<-ax.out];simp[dY,fc]),za (zf _),za (zq _ _)⟩
 case round=>
  obtain⟨g,E,xs,b,d,v0,v1,F,rfl,K,J,U,fE⟩:=hrel;have NL:=fE.out.size;have ag:S<=wr.heap.size:=zK NS.out NL;obtain⟨t0,t1,KV,Np,aE⟩:=K.out.top;have a1:=K.out.block;obtain⟨KU,wJ,pc,bs,_⟩:=a1;obtain⟨⟨A1,k1,rfl,iJ,bC,aJ⟩,bz⟩:=K.out.lays.1;have M:=za bz;have GD:=za aJ;obtain⟨G,n2,H,rfl,Gv,wH,bA⟩:=bz.dk;clear bz aJ;dsimp only at t0 t1 aE M Gv GD iJ;simp only[zD]at pc;obtain⟨r,hr⟩:∃r,d.length=r:=⟨_,rfl⟩
  rw[hr]at t0 t1 KV Np pc⊢;have D:=za hr;clear hr;have KB:k1<9223372036854775808:=by omega
  cases xs with
  |nil=>
   simp only[zS]at t0;cases d with
   |nil=>
    obtain rfl:r=0:=D.out.symm;have eE:=M.out.Ef (P:=prog) zx yC zO;go_wp2;go_ret2
    refine⟨?_,cJ.out.trans (fE.out.mono aT.out)⟩;have:=J.out;rw[ax.out,<-this];simp[dY,fc]
   |cons f rest=>
    obtain⟨r,rfl⟩:∃r',r=r'+1:=⟨r-1,by have:=D.out;simp at this;omega⟩
    have NR:Hid (rest.length=r):=za (by have:=D.out;simp at this;omega);obtain⟨⟨u0,u1⟩,us,rfl⟩:∃u us,F=u::us:=by
     cases F with
     |nil=>exact absurd K.out.lays.length (by simp)
     |cons u us=>exact⟨u,us,rfl⟩
    obtain⟨zs,c⟩:=f;have HP:=za K.out.pop;obtain⟨t2,t3,Sb,az,aQ⟩:=HP.out.top;have an:=za HP.out.lays.1.2;have aR:∀i,Value.ownBlock (.slice G n2 H)=some i->u1.ownBlock≠some i:=K.out.lays.2.1 (u0,u1) (by simp);rw[NR.out]at t2 t3 Sb az;dsimp only at t2 t3 an;obtain⟨A3,n3,aP,rfl,RR,bw,bn⟩:=an.out.dk;have ae:=gY rest zs (c++kK b);rw[<-oD,J.out]at ae;simp only[zp,kK]at ae;have DK:=HT.out;have aM:b.length=n2:=Gv.out.symm;have HH:=za (PO 192 n2 S _ c wr an.out ag (by omega) (by omega) (by omega));have aV:=za aR;have aS:=za aQ;clear aE aQ aR aM ae DK;go_wp2_with fail
    refine HH.out.mono ?_;rintro e w2 ⟨v',rfl,ad,oW⟩;obtain⟨R,N,O,rfl,RW,bk,aY⟩:=ad.dk;have bg:=za ad;have T4:=za oW;have bl:Hid (bJ w2 S 5 (.slice G n2 H) b):=za (M.out.ah fun k hk ho=>oW.block hk (aV.out k ho));have tL:=oW.size;have R9:(c++cw 192 n2).length+b.length<=1099511627776:=by
     have ae:=gY rest zs (c++kK b);rw[<-oD,J.out]at ae;have DK:=HT.out;simp only[zp,kK]at ae⊢;rw[Gv.out];omega
    have aX:=za R9;clear ad oW R9;go_wp2_with (at_builtin;refine cl (by rfl) (.tmp 57) (.tmp 58) 31 31 (by rfl) S 5 i0 zx hi eA cg cG (by rfl) bg.out _ b (by rfl) (Jy zx bl.out) (by omega) (zK aX.out (by omega)) ?_)
    intro A5 n5 ar w3 jj aN;have Rc:=T4.out.trans aN;have YD:Value.ownBlock (.slice A3 n3 aP)≠some g:=by
     rcases aS.out g with h|h
     ·exact h
     exact absurd rfl h
    have e3:w3.cell? ⟨g,r*2+1,none⟩=some (.slice A3 n3 aP):=(Rc.grown.cell_far ⟨g,r*2+1,none⟩ wJ (Z4 YD)).trans t3;have e4:w3.frozen? ⟨g,r*2+1,none⟩=false:=(Rc.grown.frozen_far ⟨g,r*2+1,none⟩ wJ (Z4 YD)).trans az;have bm:Hid (Lay (w3.setCell ⟨g,r*2+1,none⟩ (.slice A5 n5 ar)) S g E ((zs,c++(cw 192 n2++b))::rest) ((u0,.slice A5 n5 ar)::us)):=za (by have:=HP.out.bytes ag Rc jj;rwa [NR.out]at this);have av:Hid (Below S C (w3.setCell ⟨g,r*2+1,none⟩ (.slice A5 n5 ar))):=za ((Rc.below fE.out ag (fun i hi=>(an.out.ge i hi).1)).setCell (by simpa using KU) _);clear jj aN Rc YD;go_wp2;go_roundg (gk-1)
    case measure=>have:=U.out;simp[Ak]at this;omega
    case rel=>
     refine⟨g,E,zs,c++(cw 192 n2++b),rest,u0,.slice A5 n5 ar,us,by rw[NR.out],bm,za ?_,za ?_,av⟩
     ·have:=J.out;rw[oD,kK,<-Gv.out]at this;exact this
     have:=U.out;simp[Ak,aG]at this⊢;omega
  |cons y ys=>
   obtain⟨q,hq⟩:∃q,ys.length=q:=⟨_,rfl⟩
   obtain⟨⟨l,n,d0,d1,d2,rfl,I5,e0,e1,e2,hy⟩,aF⟩:=GD.out;have aO:=za aF.tail;obtain⟨ty,ly,j⟩:=y;obtain⟨rfl,rfl,nK,bo,I,ck,rfl,bh,bd,du⟩:=hy;have YE:=za du;simp only[Nat.zero_mul,xj]at e0 e1 e2;rw[zD,hq]at t0 iJ;have HQ:=za hq;have bt:q+1<=9223372036854775807:=by omega
   clear aF du hq;have lY:d.length<=1099511627776:=by
    have h1:=CZ d (It.mk ty ly j::ys) b;rw[J.out]at h1;have h2:=HT.out;omega
   rw[D.out]at lY;go_upto_region 14 with fail
   go_cut [] (fun m=>∃Z,Hid (Lay m S g E ((ys,b)::d) ((Z,.slice G n2 H)::F))/\Hid (Below S C m)/\Hid (af m wr.heap.size 28 #[.string ty,.bool ly,.slice I j.length ck])/\Hid (bU m S j I 0)/\Hid (m.heap.size=wr.heap.size+1))
   case first=>
    by_cases ba:k1=1
    ·subst ba;obtain rfl:q=0:=by omega
     have L:Hid (Lay (wr.setCell ⟨g,r*2,none⟩ (.slice (some ⟨l,n,none⟩) 0 0)) S g E ((ys,b)::d) ((.slice (some ⟨l,n,none⟩) 0 0,.slice G n2 H)::F)):=za (by
      obtain rfl:ys= []:=zw HQ.out;have:=K.out.items ag (xs':= []) (A:=some ⟨l,n,none⟩) (c:=0) (by simp) (by simp) trivial;rwa [D.out]at this)
     go_wp2_with fail
     go_meet;case rel=>
      have aw:(wr.setCell ⟨g,r*2,none⟩ (.slice (some ⟨l,n,none⟩) 0 0)).heap.size=wr.heap.size:=by simp[World.setCell]
      refine⟨.slice (some ⟨l,n,none⟩) 0 0,za (L.out.below (by omega) ((zq _ _).alloc (zf _) _)),za ((fE.out.setCell (by simpa using KU) _).alloc (by omega) _),za ?_,za ?_,za (by simp[World.setCell])⟩
      ·have:=af.new (wr.setCell ⟨g,r*2,none⟩ (.slice (some ⟨l,n,none⟩) 0 0)) 28 #[.string ty,.bool ly,.slice I j.length ck];rwa [aw]at this
      refine bU.below (w:=wr.setCell ⟨g,r*2,none⟩ (.slice (some ⟨l,n,none⟩) 0 0)) (YE.out.ah fun p hp=>zL (bG (by simp;omega))) (((zq _ _).alloc (zf _) _).mono (by omega))
    have L:Hid (Lay (wr.setCell ⟨g,r*2,none⟩ (.slice (some ⟨l,n+3,none⟩) q (k1-1))) S g E ((ys,b)::d) ((.slice (some ⟨l,n+3,none⟩) q (k1-1),.slice G n2 H)::F)):=za (by
     have:=K.out.items ag (xs':=ys) (A:=some ⟨l,n+3,none⟩) (c:=k1-1) (by rw[HQ.out];omega) (by omega) aO.out;rwa [D.out,HQ.out]at this)
    go_wp2_with fail
    go_meet;case rel=>
     have aw:(wr.setCell ⟨g,r*2,none⟩ (.slice (some ⟨l,n+3,none⟩) q (k1-1))).heap.size=wr.heap.size:=by simp[World.setCell]
     refine⟨.slice (some ⟨l,n+3,none⟩) q (k1-1),za (L.out.below (by omega) ((zq _ _).alloc (zf _) _)),za ((fE.out.setCell (by simpa using KU) _).alloc (by omega) _),za ?_,za ?_,za (by simp[World.setCell])⟩
     ·have:=af.new (wr.setCell ⟨g,r*2,none⟩ (.slice (some ⟨l,n+3,none⟩) q (k1-1))) 28 #[.string ty,.bool ly,.slice I j.length ck];rwa [aw]at this
     refine bU.below (w:=wr.setCell ⟨g,r*2,none⟩ (.slice (some ⟨l,n+3,none⟩) q (k1-1))) (YE.out.ah fun p hp=>zL (bG (by simp;omega))) (((zq _ _).alloc (zf _) _).mono (by omega))
   case rest=>
    obtain⟨Z,L,dS,ai,bc,HZ⟩:=hcut;obtain⟨bq,bB,bE,bp,bu,br⟩:=a8 ai.out;have bD:=ai.out.lt;have aB:g<wc.heap.size:=by have:=HZ.out;omega
    have ak:S<=wc.heap.size:=by omega
    have bx:g≠wr.heap.size:=by omega
    clear ag wJ NL;clear t0 t1 KV Np e0 e1 e2 GD aO YE K M;cases ly with
    |true=>
     have Nn:Hid (∀o,Lay (wc.alloc o) S g E ((ys,b)::d) ((Z,.slice G n2 H)::F)):=za (fun o=>L.out.below (by omega) ((zq _ _).alloc (zf _) _));have NP:Hid (r+1=((ys,b)::d).length):=za (by simp[D.out]);have Jj:Hid (∀o,bU (wc.alloc o) S j I 0):=za (fun o=>bc.out.below (((zq wc.heap.size wc).alloc (zf _) o).mono (by omega)));have aK:Hid (af (wc.alloc (.cells #[.slice I j.length ck,.slice none 0 0] 182)) wc.heap.size 182 #[.slice I j.length ck,.slice none 0 0]):=za (af.new wc _ _);have ji:Hid (∀o,Below S C (wc.alloc o)):=za (fun o=>dS.out.alloc (by omega) o);have YB:Hid (∀o,S<=(wc.alloc o).heap.size):=za (fun o=>by simp;omega);go_wp2_with (at_builtin;refine Hid.out ?_)
     refine za ?_;refine qf (by rfl) (.tmp 78) (.tmp 82) (by rfl) (Nn.out _) (YB.out _) NP.out (by rfl) bh bd (Jj.out _) wc.heap.size (by rfl) (aK.out.cell 0) (aK.out.cell 1) (by rw[<-NP.out];omega) ?_;intro g' n' aj w' a6 aW aU;have av:Hid (Below S C w'):=za ((ji.out _).grown aU.out (YB.out _) (fun k hk=>by injection hk with hk;omega));go_wp2;go_roundg (gk-1)
     case measure=>have:=U.out;simp[Ak]at this;omega
     case rel=>
      refine⟨g',aj,j,[],(ys,b)::d,.slice I j.length ck,.slice none 0 0,(Z,.slice G n2 H)::F,by rw[a6.out],aW,za ?_,za ?_,av⟩
      ·have:=J.out;rw[EB]at this;exact this
      have:=U.out;simp[Ak,aG,It.count]at this⊢;omega
    |false=>
     go_upto_region 17 with fail
     go_cut [93] (fun s m=>∃bb:Bool,s= .bool bb/\Hid (bb=false↔(ty.size=1/\(ty.data.toList.getD 0 0).toNat<128))/\m=wc)
     case first=>
      by_cases AK:ty.size=1
      ·have Gf:((ty.size:Int) !=1)=false:=by simp[AK]
       have aZ:((ty.size:Int)==1)=true:=by simp[AK]
       have At:0<ty.size:=by omega
       have bj:Hid (ty.data.toList.getD 0 0=ty[0]):=za (by rw[zA,gq ty 0 At];rfl);go_wp2_with fail
       go_meet;case rel=>
        rw[bj.out];refine⟨_,rfl,za ?_,rfl⟩;simp[AK];omega
      have Gf:((ty.size:Int) !=1)=true:=by simp;omega
      have aZ:((ty.size:Int)==1)=false:=by simp;omega
      go_wp2_with fail
      go_meet;case rel=>exact⟨_,rfl,za (by simp[AK]),rfl⟩
     case rest=>
      obtain⟨bb,rfl,Ca,rfl⟩:=hcut;go_upto_if 93 with fail
      go_cut [] (fun m=>∃W R N O,Hid (Lay m S g E ((ys,W)::d) ((Z,.slice R N O)::F))/\Hid (Below S C m)/\Hid (af m wr.heap.size 28 #[.string ty,.bool false,.slice I j.length ck])/\Hid (W++ty.data.toList=b++(It.mk ty false j).fA))
      case first=>
       cases bb with
       |false=>
        have al:Hid ((It.mk ty false j).fA=ty.data.toList):=za (Al ty j (Ca.out.1 rfl));go_wp2_with fail
        go_meet;case rel=>exact⟨b,G,n2,H,L,dS,ai,za (by rw[al.out])⟩
       |true=>
        have al:Hid ((It.mk ty false j).fA=cw 128 ty.size++ty.data.toList):=za (Am ty j (fun h=>by have:=Ca.out.2 h;cases this));obtain⟨_,s1,_,aA,aI⟩:=L.out.top;rw[D.out]at s1 aA;have NT:Hid (some g≠Value.ownBlock (.slice G n2 H)):=za (by
         rcases aI g with h|h
         ·exact Z4 h
         exact absurd rfl h)
        have M:=za L.out.lays.1.2;have bf:=Gv.out;have Y:=gY d ys (b++(It.mk ty false j).fA);rw[<-mC,J.out,al.out]at Y;simp only[zp,aa]at Y;have YC:=HT.out;have KX:=za (PO 128 ty.size S (.slice G n2 H) b wc.drew M.out ak (by omega) (by omega) (by omega));clear bf Y YC aI;go_wp2_with fail
        go_region_law (first|(go_simp;go_at_call 133;refine KX.out.mono ?_;rintro e m ⟨v',rfl,ad,Sa⟩;obtain⟨R,N,O,rfl,RW,bk,aY⟩:=ad.dk;have e3:m.cell? ⟨g,r*2+1,none⟩=some (.slice G n2 H):=(Sa.grown.cell_far ⟨g,r*2+1,none⟩ aB NT.out).trans s1;have e4:m.frozen? ⟨g,r*2+1,none⟩=false:=(Sa.grown.frozen_far ⟨g,r*2+1,none⟩ aB NT.out).trans aA))
        all_goals
         go_wp2_with fail
         go_meet;case rel=>
          refine⟨b++cw 128 ty.size,R,N,O,za ?_,za ?_,za ?_,za ?_⟩
          ·have:=Lay.bytes (w:=wc.drew) (L.out.below ak (zq _ _).drew) ak Sa ad;rwa [D.out]at this
          ·exact(Sa.below dS.out.drew ak (fun i hi=>(M.out.ge i hi).1)).setCell (by simpa using KU) _
          ·exact af.dE (af.Sr (w:=wc.drew) ai.out Sa (fun e=>by
            obtain⟨_,_,cu,fr,h2⟩:=M.out.ge _ e;have h3:=ai.out;rw[af,h2]at h3;injection h3 with h3;injection h3 with _ h3;exact absurd h3 (by decide))) (by intro e;dsimp only at e;omega) _
          rw[al.out,zI]
      case rest=>
       obtain⟨W,R,N,O,KR,aC,a7,KW⟩:=hcut;have au:S<=wc.heap.size:=zK NS.out aC.out.size;have Cb:g<wc.heap.size:=KR.out.block.2.1;obtain⟨_,s4,_,aH,aD⟩:=KR.out.top;rw[D.out]at s4 aH;have aL:Hid (some g≠Value.ownBlock (.slice R N O)):=za (by
        rcases aD g with h|h
        ·exact Z4 h
        exact absurd rfl h)
       obtain⟨i4,_,_,_,_,_⟩:=a8 a7.out;have dT:=za KR.out.lays.1.2;have Y:=gY d ys (b++(It.mk ty false j).fA);rw[<-mC,J.out,<-KW.out]at Y;simp only[zp]at Y;have YC:=HT.out;have wL:Hid (W.length+ty.data.toList.length<=140737488355328):=za (by omega);clear Y YC aD;go_wp2_with fail
       go_region_law (refine qP (by rfl) (.tmp 110) (.tmp 112) 31 9 (by rfl) S 5 i0 zx hi eA cg cG (by rfl) (show bJ wc.drew S 5 (.slice R N O) W from dT.out) _ ty.data.toList (by rfl) (iS zO _ ty) au wL.out ?_;intro A6 n6 aq w6 pg ah;have e5:w6.cell? ⟨g,r*2+1,none⟩=some (.slice R N O):=(ah.grown.cell_far ⟨g,r*2+1,none⟩ Cb aL.out).trans s4;have e6:w6.frozen? ⟨g,r*2+1,none⟩=false:=(ah.grown.frozen_far ⟨g,r*2+1,none⟩ Cb aL.out).trans aH)
       all_goals
        have a':Hid (Lay (w6.setCell ⟨g,r*2+1,none⟩ (.slice A6 n6 aq)) S g E ((ys,W++ty.data.toList)::d) ((Z,.slice A6 n6 aq)::F)):=za (by
         have:=Lay.bytes (w:=wc.drew) (KR.out.below au (zq _ _).drew) au ah pg;rwa [D.out]at this)
        have wM:Hid (Below S C (w6.setCell ⟨g,r*2+1,none⟩ (.slice A6 n6 aq))):=za ((ah.below aC.out.drew au (fun i hi=>(dT.out.ge i hi).1)).setCell (by simpa using KU) _);clear pg ah;go_wp2;go_roundg (gk-1)
        case measure=>have:=U.out;simp[Ak]at this;omega
        case rel=>
         refine⟨g,E,ys,W++ty.data.toList,d,Z,.slice A6 n6 aq,F,by rw[D.out],a',za ?_,za ?_,wM⟩
         ·rw[KW.out,<-mC];exact J.out
         have:=U.out;have:=Bc (It.mk ty false j);simp[Ak,aG]at this⊢;have h5:=U.out;simp[Ak,aG]at h5;omega
