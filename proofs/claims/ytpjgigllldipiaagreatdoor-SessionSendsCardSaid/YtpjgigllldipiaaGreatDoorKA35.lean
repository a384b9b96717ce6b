/- rlp.Put. -/
import Derived.Test.YtpjgigllldipiaaGreatDoorKA34
import Derived.Test.YtpjgigllldipiaaGreatDoorKA28
set_option linter.all false
set_option maxRecDepth 100000
set_option maxHeartbeats 4000000
namespace Go.Proofs.YtpjgigllldipiaaGreatDoor
open Go.RowKit
def Aw :List (List It×List UInt8)->Nat
 | []=>0
 |f::fs=>1+2*aH f.1+Aw fs
theorem sM (xs:List It)(b:List UInt8)(f:List It×List UInt8)(rest:List (List It×List UInt8)):ec xs b (f::rest)=ec f.1 (f.2++kQ (b++fp xs)) rest:=by simp[ec]
theorem hG :∀(rest:List (List It×List UInt8)) (xs:List It) (b:List UInt8),b.length+(fp xs).length<=(ec xs b rest).length
 | [],xs,b=>by simp[ec]
 |f::rest,xs,b=>by
  rw[sM];have:=hG rest f.1 (f.2++kQ (b++fp xs));simp only[zo,kQ]at this⊢;omega
theorem C8 :∀(rest:List (List It×List UInt8)) (xs:List It) (b:List UInt8),rest.length<=(ec xs b rest).length
 | [],_,_=>by simp
 |f::rest,xs,b=>by
  have h:∀(r:List (List It×List UInt8)) (d:List It) (c:List UInt8),c.length+r.length<=(ec d c r).length:=by
   intro r;induction r with
   |nil=>intro d c;have:=hG [] d c;simp at this⊢;omega
   |cons g r ih=>
    intro d c;rw[sM];have j:=ih g.1 (g.2++kQ (c++fp d));have e:=ee 192 (c++fp d).length;have i:1<=(cr 192 (c++fp d).length).length:=by rw[e];split<;>omega
    simp only[zo,kQ,zB]at j e i⊢;omega
  have:=h (f::rest) xs b;omega
theorem AB (t:ByteArray)(s:List It)(h:t.size=1/\(t.data.toList.getD 0 0).toNat<128):(It.mk t false s).fJ=t.data.toList:=by rw[It.fJ,zj (by simp),zl h]
theorem AD (t:ByteArray)(s:List It)(h:¬(t.size=1/\(t.data.toList.getD 0 0).toNat<128)):(It.mk t false s).fJ=cr 128 t.size++t.data.toList:=by
 rw[It.fJ,zj (by simp),zj h]
theorem Lay.first {w:World}{g:Nat}{b:Value}(h:w.heap[g]?=some (.cells #[b,.slice none 0 0] 182)){S:Nat}(hS:S<=g){xs:List It}{A:Option Addr}{c:Nat}(e:b= .slice A xs.length c)(j:xs.length<=c)(d:c<=9223372036854775807)(i:bU w S xs A 0):
 Lay w S g 1 [(xs,[])] [(b,.slice none 0 0)]:=
 ⟨⟨rfl,.inr ⟨g,1,_,rfl,hS,h,by simp,by simp[maxLen],rfl,rfl⟩⟩,⟨⟨⟨A,c,e,j,d,i⟩,bJ.nil _ _ _⟩,(fun u hu=>by cases hu),trivial⟩⟩
theorem Qa (x:It)(B:Nat)(w:World)(c0 c1 c2:Value)(h:bW w B x c0 c1 c2)(hB:B<=w.heap.size)(hm:x.may=true)(hl:x.fJ.length<=1099511627776):
 Calls Tryz.prog 91 #[.agg #[c0,c1,c2]] w fun e w'=>e= .returned (.tuple #[.string ⟨x.fJ.toArray⟩,.int .i64 0])/\Below w.heap.size w w':=by
 have HC:=za (UU x B (w.alloc (.cells #[c0,c1,c2] 28)) c0 c1 c2 (h.below (blm hB)) (by simp;omega));rw[hm]at HC;have HI:=za h;obtain⟨A,cap,rfl,rfl,rfl,_⟩:=h.open_;obtain⟨i0,hi,eo,cc,cA⟩:=yQ vK;obtain⟨i1,iD,Rs,Rr,Rq⟩:=yQ FL;clear h hm;go_enter Tryz.func91,Tryz.ntmps91
 go_wp2_with fail
 refine HC.out.mono ?_;rintro e z ⟨rfl,hb⟩;have hz:=hb.size;simp only[zu]at hz;have cl:Hid (Below w.heap.size w z):=za (((zq w.heap.size w).alloc (zi _) _).trans (hb.mono (by simp)));obtain⟨g0,g1,g2,_⟩:=a8 ((af.new w 28 #[.string x.text,.bool x.list,.slice A x.sub.length cap]).ag hb (by simp));clear hb HC;go_wp2_with fail
 obtain⟨C,cC⟩:∃C,(z.alloc (.cells #[.string x.text,.bool x.list,.slice A x.sub.length cap] 28)).alloc (.cells #[.slice (some ⟨z.heap.size,0,none⟩) 1 1,.slice none 0 0] 182)=C:=⟨_,rfl⟩
 have cL:Hid (Below w.heap.size w C):=za (by rw[<-cC];exact(cl.out.alloc (by omega) _).alloc (by simp;omega) _);have Ui:=af.new z 28 #[.string x.text,.bool x.list,.slice A x.sub.length cap];have Rt:=Ui.alloc (.cells #[.slice (some ⟨z.heap.size,0,none⟩) 1 1,.slice none 0 0] 182);rw[cC]at Rt;obtain⟨q0,q1,q2,_⟩:=a8 Rt;have aJ:Hid (Lay C (z.heap.size+1) (z.heap.size+1) 1 [([x],[])] [(.slice (some ⟨z.heap.size,0,none⟩) 1 1,.slice none 0 0)]):=za (by
  refine Lay.first (by rw[<-cC];have:=yX (z.alloc (.cells #[.string x.text,.bool x.list,.slice A x.sub.length cap] 28)) (.cells #[.slice (some ⟨z.heap.size,0,none⟩) 1 1,.slice none 0 0] 182);simpa using this) (zi _) (xs:= [x]) rfl (by simp) (by omega) ?_
  exact⟨⟨z.heap.size,0,_,_,_,rfl,by omega,by simpa using q0,by simpa using q1,by simpa using q2,(HI.out.below (cL.out.mono hB)).mono (by omega)⟩,trivial⟩)
 have Oc:Hid (z.heap.size+1<=C.heap.size):=za (by rw[<-cC];simp);rw[cC];have HT:=za hl;clear cC Ui Rt q0 q1 q2 g0 g1 g2 HI hl;obtain⟨S,hS⟩:∃S,z.heap.size+1=S:=⟨_,rfl⟩
 have aS:Hid (w.heap.size<=S):=za (by omega);rw[hS]at aJ Oc⊢;obtain⟨X,AT⟩:∃X,x.fJ=X:=⟨_,rfl⟩
 rw[AT]at HT;have aQ:=za AT;clear AT;go_loopg [5] (Aw [([x],[])]) (fun k v wr=>∃(g F:Nat) (xs:List It) (b:List UInt8) (d:List (List It×List UInt8)) (v0 v1:Value) (D:List (Value×Value)),v= .slice (some ⟨g,0,none⟩) (d.length+1) F/\Hid (Lay wr S g F ((xs,b)::d) ((v0,v1)::D))/\Hid (ec xs b d=X)/\Hid (Aw ((xs,b)::d)<=k)/\Hid (Below S C wr))
 case atStart=>exact⟨S,1,[x],[],[],_,_,[],rfl,aJ,za (by rw[<-aQ.out];simp[ec,fp]),za (zi _),za (zq _ _)⟩
 case round=>
  obtain⟨g,F,xs,b,d,v0,v1,D,rfl,K,L,Y,fL⟩:=hrel;have N6:=fL.out.size;have ag:S<=wr.heap.size:=zP Oc.out N6;obtain⟨t0,t1,Ll,NL,aO⟩:=K.out.top;have bl:=K.out.block;obtain⟨Lk,wV,ph,bu,_⟩:=bl;obtain⟨⟨A1,k1,rfl,iP,br,aA⟩,bB⟩:=K.out.lays.1;have R:=za bB;have JB:=za aA;obtain⟨G,n2,H,rfl,Jn,AL,bt⟩:=bB.df;clear bB aA;dsimp only at t0 t1 aO R Jn JB iP;simp only[zB]at ph;obtain⟨r,hr⟩:∃r,d.length=r:=⟨_,rfl⟩
  rw[hr]at t0 t1 Ll NL ph⊢;have E:=za hr;clear hr;have KX:k1<9223372036854775808:=by omega
  cases xs with
  |nil=>
   simp only[zO]at t0;cases d with
   |nil=>
    obtain rfl:r=0:=E.out.symm;have eN:=R.out.Ha (P:=Tryz.prog) zx yB zT;go_wp2;go_ret2
    refine⟨?_,cL.out.trans (fL.out.mono aS.out)⟩;have:=L.out;rw[aQ.out,<-this];simp[ec,fp]
   |cons f rest=>
    obtain⟨r,rfl⟩:∃r',r=r'+1:=⟨r-1,by have:=E.out;simp at this;omega⟩
    have Ob:Hid (rest.length=r):=za (by have:=E.out;simp at this;omega);obtain⟨⟨u0,u1⟩,us,rfl⟩:∃u us,D=u::us:=by
     cases D with
     |nil=>exact absurd K.out.lays.length (by simp)
     |cons u us=>exact⟨u,us,rfl⟩
    obtain⟨zs,c⟩:=f;have HP:=za K.out.pop;obtain⟨t2,t3,Ss,aE,aR⟩:=HP.out.top;have ar:=za HP.out.lays.1.2;have aP:∀i,Value.ownBlock (.slice G n2 H)=some i->u1.ownBlock≠some i:=K.out.lays.2.1 (u0,u1) (by simp);rw[Ob.out]at t2 t3 Ss aE;dsimp only at t2 t3 ar;obtain⟨A3,n3,aF,rfl,T1,bw,bn⟩:=ar.out.df;have ad:=hG rest zs (c++kQ b);rw[<-oH,L.out]at ad;simp only[zo,kQ]at ad;have DS:=HT.out;have aM:b.length=n2:=Jn.out.symm;have HH:=za (P' 192 n2 S _ c wr ar.out ag (by omega) (by omega) (by omega));have bj:=za aP;have bd:=za aR;clear aO aR aP aM ad DS;go_wp2_with fail
    refine HH.out.mono ?_;rintro e w2 ⟨v',rfl,ae,tr⟩;obtain⟨O,N,M,rfl,Sj,aZ,bc⟩:=ae.df;have aV:=za ae;have YZ:=za tr;have bm:Hid (bJ w2 S 5 (.slice G n2 H) b):=za (R.out.ag fun k hk ho=>tr.block hk (bj.out k ho));have tT:=tr.size;have Y1:(c++cr 192 n2).length+b.length<=1099511627776:=by
     have ad:=hG rest zs (c++kQ b);rw[<-oH,L.out]at ad;have DS:=HT.out;simp only[zo,kQ]at ad⊢;rw[Jn.out];omega
    have aW:=za Y1;clear ae tr Y1;go_wp2_with (at_builtin;refine cm (by rfl) (.tmp 57) (.tmp 58) 31 31 (by rfl) S 5 i0 zx hi eo cc cA (by rfl) aV.out _ b (by rfl) (JV zx bm.out) (by omega) (zP aW.out (by omega)) ?_)
    intro A5 n5 an w3 kn aC;have Rv:=YZ.out.trans aC;have Y0:Value.ownBlock (.slice A3 n3 aF)≠some g:=by
     rcases bd.out g with h|h
     ·exact h
     exact absurd rfl h
    have e3:w3.cell? ⟨g,r*2+1,none⟩=some (.slice A3 n3 aF):=(Rv.grown.cell_far ⟨g,r*2+1,none⟩ wV (Z4 Y0)).trans t3;have e4:w3.frozen? ⟨g,r*2+1,none⟩=false:=(Rv.grown.frozen_far ⟨g,r*2+1,none⟩ wV (Z4 Y0)).trans aE;have aT:Hid (Lay (w3.setCell ⟨g,r*2+1,none⟩ (.slice A5 n5 an)) S g F ((zs,c++(cr 192 n2++b))::rest) ((u0,.slice A5 n5 an)::us)):=za (by have:=HP.out.bytes ag Rv kn;rwa [Ob.out]at this);have aw:Hid (Below S C (w3.setCell ⟨g,r*2+1,none⟩ (.slice A5 n5 an))):=za ((Rv.below fL.out ag (fun i hi=>(ar.out.ge i hi).1)).setCell (by simpa using Lk) _);clear kn aC Rv Y0;go_wp2;go_roundg (gk-1)
    case measure=>have:=Y.out;simp[Aw]at this;omega
    case rel=>
     refine⟨g,F,zs,c++(cr 192 n2++b),rest,u0,.slice A5 n5 an,us,by rw[Ob.out],aT,za ?_,za ?_,aw⟩
     ·have:=L.out;rw[oH,kQ,<-Jn.out]at this;exact this
     have:=Y.out;simp[Aw,aH]at this⊢;omega
  |cons y ys=>
   obtain⟨q,hq⟩:∃q,ys.length=q:=⟨_,rfl⟩
   obtain⟨⟨m,l,d0,d1,d2,rfl,Jk,e0,e1,e2,hy⟩,aD⟩:=JB.out;have ay:=za aD.tail;obtain⟨ty,ly,j⟩:=y;obtain⟨rfl,rfl,nO,bs,I,ck,rfl,a7,bh,dx⟩:=hy;have Y2:=za dx;simp only[Nat.zero_mul,xp]at e0 e1 e2;rw[zB,hq]at t0 iP;have HQ:=za hq;have bx:q+1<=9223372036854775807:=by omega
   clear aD dx hq;have lg:d.length<=1099511627776:=by
    have h1:=C8 d (It.mk ty ly j::ys) b;rw[L.out]at h1;have h2:=HT.out;omega
   rw[E.out]at lg;go_upto_region 14 with fail
   go_cut [] (fun n=>∃U,Hid (Lay n S g F ((ys,b)::d) ((U,.slice G n2 H)::D))/\Hid (Below S C n)/\Hid (af n wr.heap.size 28 #[.string ty,.bool ly,.slice I j.length ck])/\Hid (bU n S j I 0)/\Hid (n.heap.size=wr.heap.size+1))
   case first=>
    by_cases bk:k1=1
    ·subst bk;obtain rfl:q=0:=by omega
     have J:Hid (Lay (wr.setCell ⟨g,r*2,none⟩ (.slice (some ⟨m,l,none⟩) 0 0)) S g F ((ys,b)::d) ((.slice (some ⟨m,l,none⟩) 0 0,.slice G n2 H)::D)):=za (by
      obtain rfl:ys= []:=zt HQ.out;have:=K.out.items ag (xs':= []) (A:=some ⟨m,l,none⟩) (c:=0) (by simp) (by simp) trivial;rwa [E.out]at this)
     go_wp2_with fail
     go_meet;case rel=>
      have ax:(wr.setCell ⟨g,r*2,none⟩ (.slice (some ⟨m,l,none⟩) 0 0)).heap.size=wr.heap.size:=by simp[World.setCell]
      refine⟨.slice (some ⟨m,l,none⟩) 0 0,za (J.out.below (by omega) ((zq _ _).alloc (zi _) _)),za ((fL.out.setCell (by simpa using Lk) _).alloc (by omega) _),za ?_,za ?_,za (by simp[World.setCell])⟩
      ·have:=af.new (wr.setCell ⟨g,r*2,none⟩ (.slice (some ⟨m,l,none⟩) 0 0)) 28 #[.string ty,.bool ly,.slice I j.length ck];rwa [ax]at this
      refine bU.below (w:=wr.setCell ⟨g,r*2,none⟩ (.slice (some ⟨m,l,none⟩) 0 0)) (Y2.out.ag fun p hp=>zK (bH (by simp;omega))) (((zq _ _).alloc (zi _) _).mono (by omega))
    have J:Hid (Lay (wr.setCell ⟨g,r*2,none⟩ (.slice (some ⟨m,l+3,none⟩) q (k1-1))) S g F ((ys,b)::d) ((.slice (some ⟨m,l+3,none⟩) q (k1-1),.slice G n2 H)::D)):=za (by
     have:=K.out.items ag (xs':=ys) (A:=some ⟨m,l+3,none⟩) (c:=k1-1) (by rw[HQ.out];omega) (by omega) ay.out;rwa [E.out,HQ.out]at this)
    go_wp2_with fail
    go_meet;case rel=>
     have ax:(wr.setCell ⟨g,r*2,none⟩ (.slice (some ⟨m,l+3,none⟩) q (k1-1))).heap.size=wr.heap.size:=by simp[World.setCell]
     refine⟨.slice (some ⟨m,l+3,none⟩) q (k1-1),za (J.out.below (by omega) ((zq _ _).alloc (zi _) _)),za ((fL.out.setCell (by simpa using Lk) _).alloc (by omega) _),za ?_,za ?_,za (by simp[World.setCell])⟩
     ·have:=af.new (wr.setCell ⟨g,r*2,none⟩ (.slice (some ⟨m,l+3,none⟩) q (k1-1))) 28 #[.string ty,.bool ly,.slice I j.length ck];rwa [ax]at this
     refine bU.below (w:=wr.setCell ⟨g,r*2,none⟩ (.slice (some ⟨m,l+3,none⟩) q (k1-1))) (Y2.out.ag fun p hp=>zK (bH (by simp;omega))) (((zq _ _).alloc (zi _) _).mono (by omega))
   case rest=>
    obtain⟨U,J,dU,ai,aX,HZ⟩:=hcut;obtain⟨bD,bC,bp,bE,bA,bo⟩:=a8 ai.out;have bq:=ai.out.lt;have az:g<wc.heap.size:=by have:=HZ.out;omega
    have av:S<=wc.heap.size:=by omega
    have bz:g≠wr.heap.size:=by omega
    clear ag wV N6;clear t0 t1 Ll NL e0 e1 e2 JB ay Y2 K R;cases ly with
    |true=>
     have NJ:Hid (∀o,Lay (wc.alloc o) S g F ((ys,b)::d) ((U,.slice G n2 H)::D)):=za (fun o=>J.out.below (by omega) ((zq _ _).alloc (zi _) _));have N':Hid (r+1=((ys,b)::d).length):=za (by simp[E.out]);have JA:Hid (∀o,bU (wc.alloc o) S j I 0):=za (fun o=>aX.out.below (((zq wc.heap.size wc).alloc (zi _) o).mono (by omega)));have VJ:Hid (af (wc.alloc (.cells #[.slice I j.length ck,.slice none 0 0] 182)) wc.heap.size 182 #[.slice I j.length ck,.slice none 0 0]):=za (af.new wc _ _);have jg:Hid (∀o,Below S C (wc.alloc o)):=za (fun o=>dU.out.alloc (by omega) o);have Ru:Hid (∀o,S<=(wc.alloc o).heap.size):=za (fun o=>by simp;omega);go_wp2_with (at_builtin;refine Hid.out ?_)
     refine za ?_;refine qo (by rfl) (.tmp 78) (.tmp 82) (by rfl) (NJ.out _) (Ru.out _) N'.out (by rfl) a7 bh (JA.out _) wc.heap.size (by rfl) (VJ.out.cell 0) (VJ.out.cell 1) (by rw[<-N'.out];omega) ?_;intro g' n' aq w' a' aU a1;have aw:Hid (Below S C w'):=za ((jg.out _).grown a1.out (Ru.out _) (fun k hk=>by injection hk with hk;omega));go_wp2;go_roundg (gk-1)
     case measure=>have:=Y.out;simp[Aw]at this;omega
     case rel=>
      refine⟨g',aq,j,[],(ys,b)::d,.slice I j.length ck,.slice none 0 0,(U,.slice G n2 H)::D,by rw[a'.out],aU,za ?_,za ?_,aw⟩
      ·have:=L.out;rw[EJ]at this;exact this
      have:=Y.out;simp[Aw,aH,It.count]at this⊢;omega
    |false=>
     go_upto_region 17 with fail
     go_cut [93] (fun s n=>∃bb:Bool,s= .bool bb/\Hid (bb=false↔(ty.size=1/\(ty.data.toList.getD 0 0).toNat<128))/\n=wc)
     case first=>
      by_cases Gr:ty.size=1
      ·have DX:((ty.size:Int) !=1)=false:=by simp[Gr]
       have aY:((ty.size:Int)==1)=true:=by simp[Gr]
       have AI:0<ty.size:=by omega
       have ba:Hid (ty.data.toList.getD 0 0=ty[0]):=za (by rw[zA,gz ty 0 AI];rfl);go_wp2_with fail
       go_meet;case rel=>
        rw[ba.out];refine⟨_,rfl,za ?_,rfl⟩;simp[Gr];omega
      have DX:((ty.size:Int) !=1)=true:=by simp;omega
      have aY:((ty.size:Int)==1)=false:=by simp;omega
      go_wp2_with fail
      go_meet;case rel=>exact⟨_,rfl,za (by simp[Gr]),rfl⟩
     case rest=>
      obtain⟨bb,rfl,GN,rfl⟩:=hcut;go_upto_if 93 with fail
      go_cut [] (fun n=>∃W O N M,Hid (Lay n S g F ((ys,W)::d) ((U,.slice O N M)::D))/\Hid (Below S C n)/\Hid (af n wr.heap.size 28 #[.string ty,.bool false,.slice I j.length ck])/\Hid (W++ty.data.toList=b++(It.mk ty false j).fJ))
      case first=>
       cases bb with
       |false=>
        have ak:Hid ((It.mk ty false j).fJ=ty.data.toList):=za (AB ty j (GN.out.1 rfl));go_wp2_with fail
        go_meet;case rel=>exact⟨b,G,n2,H,J,dU,ai,za (by rw[ak.out])⟩
       |true=>
        have ak:Hid ((It.mk ty false j).fJ=cr 128 ty.size++ty.data.toList):=za (AD ty j (fun h=>by have:=GN.out.2 h;cases this));obtain⟨_,s1,_,aK,aL⟩:=J.out.top;rw[E.out]at s1 aK;have Od:Hid (some g≠Value.ownBlock (.slice G n2 H)):=za (by
         rcases aL g with h|h
         ·exact Z4 h
         exact absurd rfl h)
        have R:=za J.out.lays.1.2;have a6:=Jn.out;have Z:=hG d ys (b++(It.mk ty false j).fJ);rw[<-mH,L.out,ak.out]at Z;simp only[zo,aa]at Z;have Y3:=HT.out;have Lm:=za (P' 128 ty.size S (.slice G n2 H) b wc.drew R.out av (by omega) (by omega) (by omega));clear a6 Z Y3 aL;go_wp2_with fail
        go_region_law (first|(go_simp;go_at_call 133;refine Lm.out.mono ?_;rintro e n ⟨v',rfl,ae,ah⟩;obtain⟨O,N,M,rfl,Sj,aZ,bc⟩:=ae.df;have e3:n.cell? ⟨g,r*2+1,none⟩=some (.slice G n2 H):=(ah.grown.cell_far ⟨g,r*2+1,none⟩ az Od.out).trans s1;have e4:n.frozen? ⟨g,r*2+1,none⟩=false:=(ah.grown.frozen_far ⟨g,r*2+1,none⟩ az Od.out).trans aK))
        all_goals
         go_wp2_with fail
         go_meet;case rel=>
          refine⟨b++cr 128 ty.size,O,N,M,za ?_,za ?_,za ?_,za ?_⟩
          ·have:=Lay.bytes (w:=wc.drew) (J.out.below av (zq _ _).drew) av ah ae;rwa [E.out]at this
          ·exact(ah.below dU.out.drew av (fun i hi=>(R.out.ge i hi).1)).setCell (by simpa using Lk) _
          ·exact af.dz (af.SH (w:=wc.drew) ai.out ah (fun e=>by
            obtain⟨_,_,cu,fr,h2⟩:=R.out.ge _ e;have h3:=ai.out;rw[af,h2]at h3;injection h3 with h3;injection h3 with _ h3;exact absurd h3 (by decide))) (by intro e;dsimp only at e;omega) _
          rw[ak.out,zI]
      case rest=>
       obtain⟨W,O,N,M,Lh,aB,bf,Ln⟩:=hcut;have au:S<=wc.heap.size:=zP Oc.out aB.out.size;have DC:g<wc.heap.size:=Lh.out.block.2.1;obtain⟨_,s4,_,aI,aN⟩:=Lh.out.top;rw[E.out]at s4 aI;have aG:Hid (some g≠Value.ownBlock (.slice O N M)):=za (by
        rcases aN g with h|h
        ·exact Z4 h
        exact absurd rfl h)
       obtain⟨i4,_,_,_,_,_⟩:=a8 bf.out;have dM:=za Lh.out.lays.1.2;have Z:=hG d ys (b++(It.mk ty false j).fJ);rw[<-mH,L.out,<-Ln.out]at Z;simp only[zo]at Z;have Y3:=HT.out;have wX:Hid (W.length+ty.data.toList.length<=140737488355328):=za (by omega);clear Z Y3 aN;go_wp2_with fail
       go_region_law (refine qV (by rfl) (.tmp 110) (.tmp 112) 31 9 (by rfl) S 5 i0 zx hi eo cc cA (by rfl) (show bJ wc.drew S 5 (.slice O N M) W from dM.out) _ ty.data.toList (by rfl) (iY zT _ ty) au wX.out ?_;intro A6 n6 al w6 nP aj;have e5:w6.cell? ⟨g,r*2+1,none⟩=some (.slice O N M):=(aj.grown.cell_far ⟨g,r*2+1,none⟩ DC aG.out).trans s4;have e6:w6.frozen? ⟨g,r*2+1,none⟩=false:=(aj.grown.frozen_far ⟨g,r*2+1,none⟩ DC aG.out).trans aI)
       all_goals
        have bg:Hid (Lay (w6.setCell ⟨g,r*2+1,none⟩ (.slice A6 n6 al)) S g F ((ys,W++ty.data.toList)::d) ((U,.slice A6 n6 al)::D)):=za (by
         have:=Lay.bytes (w:=wc.drew) (Lh.out.below au (zq _ _).drew) au aj nP;rwa [E.out]at this)
        have wL:Hid (Below S C (w6.setCell ⟨g,r*2+1,none⟩ (.slice A6 n6 al))):=za ((aj.below aB.out.drew au (fun i hi=>(dM.out.ge i hi).1)).setCell (by simpa using Lk) _);clear nP aj;go_wp2;go_roundg (gk-1)
        case measure=>have:=Y.out;simp[Aw]at this;omega
        case rel=>
         refine⟨g,F,ys,W++ty.data.toList,d,U,.slice A6 n6 al,D,by rw[E.out],bg,za ?_,za ?_,wL⟩
         ·rw[Ln.out,<-mH];exact L.out
         have:=Y.out;have:=Bj (It.mk ty false j);simp[Aw,aH]at this⊢;have h5:=Y.out;simp[Aw,aH]at h5;omega
