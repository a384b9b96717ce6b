/- sha.mix: a block mixed into the state. -/
import Derived.Test.YtimoclkoflamkaaGreatDoorKA35
set_option linter.all false
set_option maxRecDepth 100000
set_option maxHeartbeats 4000000
open Go.Proofs.Tryz
namespace Go.Proofs.YtimoclkoflamkaaGreatDoor
open Go.RowKit Go.Shelf
attribute [local go_sem] Oper.semAt_some
def yH:=@eq_false
theorem VB (s:Sh)(J:s.ok)(blk:ByteArray)(hb:blk.size=64)(w:World):
 Calls prog 226 #[kq s,.string blk] w fun e w'=>e= .returned (kq (pQ uU s blk))/\ae [] w w':=by
 obtain⟨ai,hR⟩:∃ai,pQ uU s blk=ai:=⟨_,rfl⟩
 have aU:Hid (ai=ti 8 s (fG uU blk 64 s)):=za (by rw[<-hR];exact Ny s blk);rw[hR];clear hR;have HB:Hid (ag (w.alloc (.cells #[.int .u32 s.a,.int .u32 s.b,.int .u32 s.c,.int .u32 s.d,.int .u32 s.e,.int .u32 s.f,.int .u32 s.g,.int .u32 s.h] 274)) w.heap.size 274 #[.int .u32 s.a,.int .u32 s.b,.int .u32 s.c,.int .u32 s.d,.int .u32 s.e,.int .u32 s.f,.int .u32 s.g,.int .u32 s.h]):=za (ag.new w _ _);unfold kq;refine(Yh (n:=5)).1 ?_;refine callsIn_of_wp_marks func226 rfl trivial ?_ rfl;simp only[ntmps226,Zx,zz,zO,Nat.reduceAdd,Nat.reduceSub,Array.replicate_succ,Array.replicate_zero,List.push_toArray,List.append_toArray,yo,zW];gi_upto_region 2 with(fail)
 obtain⟨d,dS⟩:∃d,((w.alloc (.cells #[.int .u32 s.a,.int .u32 s.b,.int .u32 s.c,.int .u32 s.d,.int .u32 s.e,.int .u32 s.f,.int .u32 s.g,.int .u32 s.h] 274)).alloc (.cells #[.int .u32 0,.int .u32 0,.int .u32 0,.int .u32 0,.int .u32 0,.int .u32 0,.int .u32 0,.int .u32 0] 274)).alloc (.cells #[.func (.func 236) #[] #[]] 287)=d:=⟨_,rfl⟩
 have mq:Hid (ag d w.heap.size 274 #[.int .u32 s.a,.int .u32 s.b,.int .u32 s.c,.int .u32 s.d,.int .u32 s.e,.int .u32 s.f,.int .u32 s.g,.int .u32 s.h]):=za (by rw[<-dS];exact(HB.out.alloc _).alloc _);have aV:Hid (ag d (w.heap.size+1) 274 #[.int .u32 0,.int .u32 0,.int .u32 0,.int .u32 0,.int .u32 0,.int .u32 0,.int .u32 0,.int .u32 0]):=za (by
  rw[<-dS];refine ag.alloc ?_ _;have:=ag.new (w.alloc (.cells #[.int .u32 s.a,.int .u32 s.b,.int .u32 s.c,.int .u32 s.d,.int .u32 s.e,.int .u32 s.f,.int .u32 s.g,.int .u32 s.h] 274)) 274 #[.int .u32 0,.int .u32 0,.int .u32 0,.int .u32 0,.int .u32 0,.int .u32 0,.int .u32 0,.int .u32 0];rwa [zt]at this)
 have U1:Hid (ag d (w.heap.size+2) 287 #[.func (.func 236) #[] #[]]):=za (by
  rw[<-dS];have:=ag.new ((w.alloc (.cells #[.int .u32 s.a,.int .u32 s.b,.int .u32 s.c,.int .u32 s.d,.int .u32 s.e,.int .u32 s.f,.int .u32 s.g,.int .u32 s.h] 274)).alloc (.cells #[.int .u32 0,.int .u32 0,.int .u32 0,.int .u32 0,.int .u32 0,.int .u32 0,.int .u32 0,.int .u32 0] 274)) 287 #[.func (.func 236) #[] #[]];simp only[zt]at this;exact this)
 have aW:Hid (ae [] w d):=za (by rw[<-dS];exact(((ae.refl [] w).alloc _).alloc _).alloc _);have DQ:Hid (d.heap.size=w.heap.size+3):=za (by rw[<-dS];simp);rw[dS];clear dS HB;refine wpIn_wide.2 ?_;refine AG (by kernel_rfl) (by kernel_rfl) (agF s blk w.heap.size d.drew) ?start ?step ?done;case start=>exact⟨fun _=>undef,0,fun _=>0,rfl,MJ.start _ _ _ _ _⟩
 case step=>
  have Wv:Hid (ag d.drew w.heap.size 274 #[.int .u32 s.a,.int .u32 s.b,.int .u32 s.c,.int .u32 s.d,.int .u32 s.e,.int .u32 s.f,.int .u32 s.g,.int .u32 s.h]):=mq;have nJ:Hid (w.heap.size<d.drew.heap.size):=za (by have:=DQ.out;show w.heap.size<d.heap.size;omega);rintro listed a w' i hi ⟨x,m,q,rfl,b⟩ hr;obtain⟨mC,o,K,C⟩:=ZD.1 hr;clear hr;have aT:i=0\/i=1\/i=2\/i=3\/i=4\/i=5\/i=6\/i=7\/i=8\/i=9\/i=10\/i=11\/i=12\/i=13\/i=14\/i=15\/i=16\/i=17\/i=18\/i=19\/i=20\/i=21\/i=22\/i=23\/i=24\/i=25\/i=26\/i=27\/i=28\/i=29\/i=30\/i=31:=by simp at hi;omega
  rcases aT with rfl|rfl|rfl|rfl|rfl|rfl|rfl|rfl|rfl|rfl|rfl|rfl|rfl|rfl|rfl|rfl|rfl|rfl|rfl|rfl|rfl|rfl|rfl|rfl|rfl|rfl|rfl|rfl|rfl|rfl|rfl|rfl
  ·refine aS rfl rfl ?_;unfold bD;go_simp;exact⟨k6 x 22 _,m,q,rfl,b.addr 0 (by omega)⟩
  ·obtain rfl:=yl K;have hx:=b.ad 0 (by omega) (C ⟨0,.data⟩ (by simp) rfl);simp only[Nat.reduceMul,Nat.reduceAdd]at hx;have H:=ag.cell ((b.bl.block _ nJ.out).trans Wv.out) 0;refine aS rfl rfl ?_;unfold bD;simp at H;simp only[hx];go_simp;refine⟨_,m,q, ?_,b.load 0 (by omega)⟩;simp[bD,k6,hx,dC,Sh.list]
  ·refine aS rfl rfl ?_;unfold bD;go_simp;exact⟨k6 x 24 _,m,q,rfl,b.addr 1 (by omega)⟩
  ·obtain rfl:=yl K;have hx:=b.ad 1 (by omega) (C ⟨2,.data⟩ (by simp) rfl);simp only[Nat.reduceMul,Nat.reduceAdd]at hx;have H:=ag.cell ((b.bl.block _ nJ.out).trans Wv.out) 1;refine aS rfl rfl ?_;unfold bD;simp at H;simp only[hx];go_simp;refine⟨_,m,q, ?_,b.load 1 (by omega)⟩;simp[bD,k6,hx,dC,Sh.list]
  ·refine aS rfl rfl ?_;unfold bD;go_simp;exact⟨k6 x 26 _,m,q,rfl,b.addr 2 (by omega)⟩
  ·obtain rfl:=yl K;have hx:=b.ad 2 (by omega) (C ⟨4,.data⟩ (by simp) rfl);simp only[Nat.reduceMul,Nat.reduceAdd]at hx;have H:=ag.cell ((b.bl.block _ nJ.out).trans Wv.out) 2;refine aS rfl rfl ?_;unfold bD;simp at H;simp only[hx];go_simp;refine⟨_,m,q, ?_,b.load 2 (by omega)⟩;simp[bD,k6,hx,dC,Sh.list]
  ·refine aS rfl rfl ?_;unfold bD;go_simp;exact⟨k6 x 28 _,m,q,rfl,b.addr 3 (by omega)⟩
  ·obtain rfl:=yl K;have hx:=b.ad 3 (by omega) (C ⟨6,.data⟩ (by simp) rfl);simp only[Nat.reduceMul,Nat.reduceAdd]at hx;have H:=ag.cell ((b.bl.block _ nJ.out).trans Wv.out) 3;refine aS rfl rfl ?_;unfold bD;simp at H;simp only[hx];go_simp;refine⟨_,m,q, ?_,b.load 3 (by omega)⟩;simp[bD,k6,hx,dC,Sh.list]
  ·refine aS rfl rfl ?_;unfold bD;go_simp;exact⟨k6 x 30 _,m,q,rfl,b.addr 4 (by omega)⟩
  ·obtain rfl:=yl K;have hx:=b.ad 4 (by omega) (C ⟨8,.data⟩ (by simp) rfl);simp only[Nat.reduceMul,Nat.reduceAdd]at hx;have H:=ag.cell ((b.bl.block _ nJ.out).trans Wv.out) 4;refine aS rfl rfl ?_;unfold bD;simp at H;simp only[hx];go_simp;refine⟨_,m,q, ?_,b.load 4 (by omega)⟩;simp[bD,k6,hx,dC,Sh.list]
  ·refine aS rfl rfl ?_;unfold bD;go_simp;exact⟨k6 x 32 _,m,q,rfl,b.addr 5 (by omega)⟩
  ·obtain rfl:=yl K;have hx:=b.ad 5 (by omega) (C ⟨10,.data⟩ (by simp) rfl);simp only[Nat.reduceMul,Nat.reduceAdd]at hx;have H:=ag.cell ((b.bl.block _ nJ.out).trans Wv.out) 5;refine aS rfl rfl ?_;unfold bD;simp at H;simp only[hx];go_simp;refine⟨_,m,q, ?_,b.load 5 (by omega)⟩;simp[bD,k6,hx,dC,Sh.list]
  ·refine aS rfl rfl ?_;unfold bD;go_simp;exact⟨k6 x 34 _,m,q,rfl,b.addr 6 (by omega)⟩
  ·obtain rfl:=yl K;have hx:=b.ad 6 (by omega) (C ⟨12,.data⟩ (by simp) rfl);simp only[Nat.reduceMul,Nat.reduceAdd]at hx;have H:=ag.cell ((b.bl.block _ nJ.out).trans Wv.out) 6;refine aS rfl rfl ?_;unfold bD;simp at H;simp only[hx];go_simp;refine⟨_,m,q, ?_,b.load 6 (by omega)⟩;simp[bD,k6,hx,dC,Sh.list]
  ·refine aS rfl rfl ?_;unfold bD;go_simp;exact⟨k6 x 36 _,m,q,rfl,b.addr 7 (by omega)⟩
  ·obtain rfl:=yl K;have hx:=b.ad 7 (by omega) (C ⟨14,.data⟩ (by simp) rfl);simp only[Nat.reduceMul,Nat.reduceAdd]at hx;have H:=ag.cell ((b.bl.block _ nJ.out).trans Wv.out) 7;refine aS rfl rfl ?_;unfold bD;simp at H;simp only[hx];go_simp;refine⟨_,m,q, ?_,b.load 7 (by omega)⟩;simp[bD,k6,hx,dC,Sh.list]
  ·refine aS rfl rfl ?_;unfold bD;go_simp;exact⟨k6 x 6 _,m+1,_,rfl,b.alloc 0 (by omega) (Zq mC)⟩
  ·refine aS rfl rfl ?_;unfold bD;go_simp;exact⟨k6 x 7 _,m+1,_,rfl,b.alloc 1 (by omega) (Zq mC)⟩
  ·refine aS rfl rfl ?_;unfold bD;go_simp;exact⟨k6 x 8 _,m+1,_,rfl,b.alloc 2 (by omega) (Zq mC)⟩
  ·refine aS rfl rfl ?_;unfold bD;go_simp;exact⟨k6 x 9 _,m+1,_,rfl,b.alloc 3 (by omega) (Zq mC)⟩
  ·refine aS rfl rfl ?_;unfold bD;go_simp;exact⟨k6 x 10 _,m+1,_,rfl,b.alloc 4 (by omega) (Zq mC)⟩
  ·refine aS rfl rfl ?_;unfold bD;go_simp;exact⟨k6 x 11 _,m+1,_,rfl,b.alloc 5 (by omega) (Zq mC)⟩
  ·refine aS rfl rfl ?_;unfold bD;go_simp;exact⟨k6 x 12 _,m+1,_,rfl,b.alloc 6 (by omega) (Zq mC)⟩
  ·refine aS rfl rfl ?_;unfold bD;go_simp;exact⟨k6 x 13 _,m+1,_,rfl,b.alloc 7 (by omega) (Zq mC)⟩
  ·obtain rfl:=yl K;have F:=C ⟨16,.data⟩ (by simp) rfl;obtain⟨hx,hq,D⟩:=b.al 0 (by omega) F;have r:=b.ld 0 (by omega) (C ⟨1,.data⟩ (by simp) rfl);have J:=za (b.store 0 (by omega) F);simp only[Nat.reduceMul,Nat.reduceAdd]at hx r D;replace hx:x 6= .pointer (some ⟨d.heap.size+q 0,0,none⟩):=hx;obtain⟨G,H⟩:∃G,w'.cell? ⟨d.heap.size+q 0,0,none⟩=some G:=⟨_,D.cell 0⟩
   have f0:w'.frozen? ⟨d.heap.size+q 0,0,none⟩=false:=D.frozen 0;have M:s.list.getD 0 0=s.a:=rfl;rw[M,dC]at r;refine aS rfl rfl ?_;unfold bD;simp only[hx,r];go_simp;refine⟨x,m,q, ?_,J.out⟩;simp[bD,hx,r]
  ·obtain rfl:=yl K;have F:=C ⟨17,.data⟩ (by simp) rfl;obtain⟨hx,hq,D⟩:=b.al 1 (by omega) F;have r:=b.ld 1 (by omega) (C ⟨3,.data⟩ (by simp) rfl);have J:=za (b.store 1 (by omega) F);simp only[Nat.reduceMul,Nat.reduceAdd]at hx r D;replace hx:x 7= .pointer (some ⟨d.heap.size+q 1,0,none⟩):=hx;obtain⟨G,H⟩:∃G,w'.cell? ⟨d.heap.size+q 1,0,none⟩=some G:=⟨_,D.cell 0⟩
   have f0:w'.frozen? ⟨d.heap.size+q 1,0,none⟩=false:=D.frozen 0;have M:s.list.getD 1 0=s.b:=rfl;rw[M,dC]at r;refine aS rfl rfl ?_;unfold bD;simp only[hx,r];go_simp;refine⟨x,m,q, ?_,J.out⟩;simp[bD,hx,r]
  ·obtain rfl:=yl K;have F:=C ⟨18,.data⟩ (by simp) rfl;obtain⟨hx,hq,D⟩:=b.al 2 (by omega) F;have r:=b.ld 2 (by omega) (C ⟨5,.data⟩ (by simp) rfl);have J:=za (b.store 2 (by omega) F);simp only[Nat.reduceMul,Nat.reduceAdd]at hx r D;replace hx:x 8= .pointer (some ⟨d.heap.size+q 2,0,none⟩):=hx;obtain⟨G,H⟩:∃G,w'.cell? ⟨d.heap.size+q 2,0,none⟩=some G:=⟨_,D.cell 0⟩
   have f0:w'.frozen? ⟨d.heap.size+q 2,0,none⟩=false:=D.frozen 0;have M:s.list.getD 2 0=s.c:=rfl;rw[M,dC]at r;refine aS rfl rfl ?_;unfold bD;simp only[hx,r];go_simp;refine⟨x,m,q, ?_,J.out⟩;simp[bD,hx,r]
  ·obtain rfl:=yl K;have F:=C ⟨19,.data⟩ (by simp) rfl;obtain⟨hx,hq,D⟩:=b.al 3 (by omega) F;have r:=b.ld 3 (by omega) (C ⟨7,.data⟩ (by simp) rfl);have J:=za (b.store 3 (by omega) F);simp only[Nat.reduceMul,Nat.reduceAdd]at hx r D;replace hx:x 9= .pointer (some ⟨d.heap.size+q 3,0,none⟩):=hx;obtain⟨G,H⟩:∃G,w'.cell? ⟨d.heap.size+q 3,0,none⟩=some G:=⟨_,D.cell 0⟩
   have f0:w'.frozen? ⟨d.heap.size+q 3,0,none⟩=false:=D.frozen 0;have M:s.list.getD 3 0=s.d:=rfl;rw[M,dC]at r;refine aS rfl rfl ?_;unfold bD;simp only[hx,r];go_simp;refine⟨x,m,q, ?_,J.out⟩;simp[bD,hx,r]
  ·obtain rfl:=yl K;have F:=C ⟨20,.data⟩ (by simp) rfl;obtain⟨hx,hq,D⟩:=b.al 4 (by omega) F;have r:=b.ld 4 (by omega) (C ⟨9,.data⟩ (by simp) rfl);have J:=za (b.store 4 (by omega) F);simp only[Nat.reduceMul,Nat.reduceAdd]at hx r D;replace hx:x 10= .pointer (some ⟨d.heap.size+q 4,0,none⟩):=hx;obtain⟨G,H⟩:∃G,w'.cell? ⟨d.heap.size+q 4,0,none⟩=some G:=⟨_,D.cell 0⟩
   have f0:w'.frozen? ⟨d.heap.size+q 4,0,none⟩=false:=D.frozen 0;have M:s.list.getD 4 0=s.e:=rfl;rw[M,dC]at r;refine aS rfl rfl ?_;unfold bD;simp only[hx,r];go_simp;refine⟨x,m,q, ?_,J.out⟩;simp[bD,hx,r]
  ·obtain rfl:=yl K;have F:=C ⟨21,.data⟩ (by simp) rfl;obtain⟨hx,hq,D⟩:=b.al 5 (by omega) F;have r:=b.ld 5 (by omega) (C ⟨11,.data⟩ (by simp) rfl);have J:=za (b.store 5 (by omega) F);simp only[Nat.reduceMul,Nat.reduceAdd]at hx r D;replace hx:x 11= .pointer (some ⟨d.heap.size+q 5,0,none⟩):=hx;obtain⟨G,H⟩:∃G,w'.cell? ⟨d.heap.size+q 5,0,none⟩=some G:=⟨_,D.cell 0⟩
   have f0:w'.frozen? ⟨d.heap.size+q 5,0,none⟩=false:=D.frozen 0;have M:s.list.getD 5 0=s.f:=rfl;rw[M,dC]at r;refine aS rfl rfl ?_;unfold bD;simp only[hx,r];go_simp;refine⟨x,m,q, ?_,J.out⟩;simp[bD,hx,r]
  ·obtain rfl:=yl K;have F:=C ⟨22,.data⟩ (by simp) rfl;obtain⟨hx,hq,D⟩:=b.al 6 (by omega) F;have r:=b.ld 6 (by omega) (C ⟨13,.data⟩ (by simp) rfl);have J:=za (b.store 6 (by omega) F);simp only[Nat.reduceMul,Nat.reduceAdd]at hx r D;replace hx:x 12= .pointer (some ⟨d.heap.size+q 6,0,none⟩):=hx;obtain⟨G,H⟩:∃G,w'.cell? ⟨d.heap.size+q 6,0,none⟩=some G:=⟨_,D.cell 0⟩
   have f0:w'.frozen? ⟨d.heap.size+q 6,0,none⟩=false:=D.frozen 0;have M:s.list.getD 6 0=s.g:=rfl;rw[M,dC]at r;refine aS rfl rfl ?_;unfold bD;simp only[hx,r];go_simp;refine⟨x,m,q, ?_,J.out⟩;simp[bD,hx,r]
  obtain rfl:=yl K;have F:=C ⟨23,.data⟩ (by simp) rfl;obtain⟨hx,hq,D⟩:=b.al 7 (by omega) F;have r:=b.ld 7 (by omega) (C ⟨15,.data⟩ (by simp) rfl);have J:=za (b.store 7 (by omega) F);simp only[Nat.reduceMul,Nat.reduceAdd]at hx r D;replace hx:x 13= .pointer (some ⟨d.heap.size+q 7,0,none⟩):=hx;obtain⟨G,H⟩:∃G,w'.cell? ⟨d.heap.size+q 7,0,none⟩=some G:=⟨_,D.cell 0⟩
  have f0:w'.frozen? ⟨d.heap.size+q 7,0,none⟩=false:=D.frozen 0;have M:s.list.getD 7 0=s.h:=rfl;rw[M,dC]at r;refine aS rfl rfl ?_;unfold bD;simp only[hx,r];go_simp;refine⟨x,m,q, ?_,J.out⟩;simp[bD,hx,r]
 case done=>
  rintro listed a L C ⟨x,m,q,rfl,b⟩;obtain⟨p,hp⟩:∃p:Nat->Nat,p=fun j=>d.heap.size+q j:=⟨_,rfl⟩
  have O:∀j,j<8->x (6+j)= .pointer (some ⟨p j,0,none⟩)/\ag L (p j) 22 #[dC (s.list.getD j 0)]/\d.heap.size<=p j/\p j<L.heap.size:=by
   intro j E;obtain⟨e1,e2,e3⟩:=b.al j E (C _ (by simp;omega));rw[zj (C _ (by simp;omega))]at e3;subst hp;exact⟨e1,e3,Nat.le_add_right _ _,e3.lt⟩
  have bY:∀i j,i<8->j<8->i≠j->p i≠p j:=by
   intro i j hi E SC e;subst hp;exact b.ne i j hi E (C _ (by simp;omega)) (C _ (by simp;omega)) SC (by simpa using e)
  have U:∀j,j<8->x (22+2*j)= .pointer (some ⟨w.heap.size,j,none⟩):=fun j E=>b.ad j E (C _ (by simp;omega))
  have GY:∀j,j<8->x (23+2*j)=dC (s.list.getD j 0):=fun j E=>b.ld j E (C _ (by simp;omega))
  have hM:oJ w w.heap.size p s s L:=⟨fun j E=>(O j E).2.1,(b.bl.block _ (by have:=DQ.out;show _<d.heap.size;omega)).trans mq.out,(b.bl.block _ (by have:=DQ.out;show _<d.heap.size;omega)).trans aV.out,(b.bl.block _ (by have:=DQ.out;show _<d.heap.size;omega)).trans U1.out,
   aW.out.trans ⟨b.bl.os,b.bl.tape,b.bl.output,b.bl.size,fun k hk _=>b.bl.block k hk⟩⟩
  have aN:∀j,j<8->w.heap.size+3<=p j:=fun j E=>by have:=(O j E).2.2.1;have:=DQ.out;omega
  have GW:∀j,j<8->p j<L.heap.size:=fun j E=>(O j E).2.2.2
  have x6:=(O 0 (by omega)).1;have x7:=(O 1 (by omega)).1;have x8:=(O 2 (by omega)).1;have x9:=(O 3 (by omega)).1;have ao:=(O 4 (by omega)).1;have ad:=(O 5 (by omega)).1;have ah:=(O 6 (by omega)).1;have an:=(O 7 (by omega)).1;have ay:=U 0 (by omega);have aq:=U 1 (by omega);have au:=U 2 (by omega);have aB:=U 3 (by omega);have ar:=U 4 (by omega);have aF:=U 5 (by omega);have ax:=U 6 (by omega);have af:=U 7 (by omega);have aD:=GY 0 (by omega);have aj:=GY 1 (by omega);have az:=GY 2 (by omega);have aw:=GY 3 (by omega);have aG:=GY 4 (by omega);have aA:=GY 5 (by omega);have aE:=GY 6 (by omega);have al:=GY 7 (by omega);simp only[Nat.reduceMul,Nat.reduceAdd,xe,dC,Sh.list,ZR,List.getD_cons_succ]at x6 x7 x8 x9 ao ad ah an ay aq au aB ar aF ax af aD aj az aw aG aA aE al;unfold bD;simp only[x6,x7,x8,x9,ao,ad,ah,an,ay,aq,au,aB,ar,aF,ax,af,aD,aj,az,aw,aG,aA,aE,al,kq];clear x6 x7 x8 x9 ao ad ah an ay aq au aB ar aF ax af aD aj az aw aG aA aE al O U GY b hp C;have HM:=za hM;have y:=za (And.intro aN (And.intro GW bY));clear hM aN GW bY;gi_wp2_with fail
  refine⟨trivial,(Yh.2 (QI blk _)).mono ?_⟩;rintro e w2 ⟨rfl,rfl⟩;gi_wp2_with fail
  obtain⟨Z,mF⟩:∃Z,L.alloc (.cells #[.string blk] 9)=Z:=⟨_,rfl⟩
  have cF:Z.heap.size=L.heap.size+1:=by rw[<-mF];simp
  have aQ:Z.cell? ⟨L.heap.size,0,none⟩=some (.string blk):=by rw[<-mF];exact(ag.new L 9 #[.string blk]).cell 0
  have rr:Hid (oJ w w.heap.size p s s Z):=za (HM.out.ah (B:=L.heap.size) (by rw[<-mF];exact(zm _ L).alloc (zd _) _) y.out.2.1 (by have:=HM.out.fn.lt;omega) HM.out.only.size);rw[mF];have mA:=HM.out.fn.lt;have aI:∀j,j<8->p j<Z.heap.size:=fun j E=>by have:=y.out.2.1 j E;omega
  have U3:=za aI;clear mF aI;refine wF rfl (by omega) (gf:=244) (lb:= #[.pointer (some ⟨L.heap.size,0,none⟩)]) rfl trivial (enters_of func244 (by kernel_rfl) rfl)
   (Jt _ blk hb Z L.heap.size (boxes p) aQ (by omega) (fun h=>by obtain⟨j,E,e⟩:=lf h;have:=y.out.2.1 j E;omega) (fun i hi=>by obtain⟨j,E,e⟩:=lf hi;have:=U3.out j E;omega))
   (fun i hi=>by obtain⟨j,E,e⟩:=lf hi;have:=U3.out j E;omega) (fun _=>rfl)
   (fun pre W=>oJ w w.heap.size p s (fG uU blk pre.length s) W/\L.heap.size<W.heap.size) ?hI ⟨rr.out,by show L.heap.size<Z.heap.size;omega⟩
   (fun x=>{tmps:= #[.agg #[.int .u32 s.a,.int .u32 s.b,.int .u32 s.c,.int .u32 s.d,.int .u32 s.e,.int .u32 s.f,.int .u32 s.g,.int .u32 s.h],.string blk,.pointer (some ⟨w.heap.size,0,none⟩),undef,.pointer (some ⟨w.heap.size+1,0,none⟩),.pointer (some ⟨w.heap.size+1+1,0,none⟩),.pointer (some ⟨p 0,0,none⟩),.pointer (some ⟨p 1,0,none⟩),.pointer (some ⟨p 2,0,none⟩),.pointer (some ⟨p 3,0,none⟩),.pointer (some ⟨p 4,0,none⟩),.pointer (some ⟨p 5,0,none⟩),.pointer (some ⟨p 6,0,none⟩),.pointer (some ⟨p 7,0,none⟩),.int .i64 x.1,.int .u32 x.2,undef,undef,undef,undef,undef,undef,.pointer (some ⟨w.heap.size,0,none⟩),.int .u32 s.a,.pointer (some ⟨w.heap.size,1,none⟩),.int .u32 s.b,.pointer (some ⟨w.heap.size,2,none⟩),.int .u32 s.c,.pointer (some ⟨w.heap.size,3,none⟩),.int .u32 s.d,.pointer (some ⟨w.heap.size,4,none⟩),.int .u32 s.e,.pointer (some ⟨w.heap.size,5,none⟩),.int .u32 s.f,.pointer (some ⟨w.heap.size,6,none⟩),.int .u32 s.g,.pointer (some ⟨w.heap.size,7,none⟩),.int .u32 s.h,.string blk,.func (.func 244) #[] #[.pointer (some ⟨L.heap.size,0,none⟩)],.int .i64 x.1,.int .u32 x.2,undef,undef,undef,undef,undef,undef,undef,undef,undef,undef,undef,undef,undef,undef,undef,undef,undef,undef,undef,undef,undef,undef,undef,undef,undef,undef,undef,undef,undef,undef,undef,undef,undef,undef,undef,undef,undef,undef,undef,undef,undef,undef,undef,undef,undef,undef,undef,undef,undef,undef,undef,undef,undef,undef,undef,undef,undef,undef,undef,undef,undef,undef,undef,undef,undef,undef,undef,undef],defers:= []}) ?assign ?body ?dn
  case hI=>
   rintro pre A B ⟨h,F⟩ rh;have:=rh.size;exact⟨h.ah (B:=Z.heap.size) rh U3.out (by omega) (by omega),by omega⟩
  case assign=>
   intro l x W bA hK;simp only[Uc];gi_wp2
   exact hK
  case body=>
   rintro l pre x W F ⟨z,fa⟩ Sc;obtain⟨hk,rfl⟩:=Jv Sc;obtain⟨k,Lv⟩:∃k,pre.length=k:=⟨_,rfl⟩
   have a6:=za Lv;rw[Lv]at z hk Sc⊢;have mD:Hid (fG uU blk (k+1) s=CC (uU.getD k 0) (mi blk k) (fG uU blk k s)):=za rfl;have GD:=sv uU blk k J;obtain⟨t,ht⟩:∃t,fG uU blk k s=t:=⟨_,rfl⟩
   rw[ht]at z mD GD;obtain⟨ta,tb,tc,td,te,tf,tg,th⟩:=GD;have c6:W.cell? ⟨p 0,0,none⟩=some (.int .u32 t.a):=(z.box 0 (by omega)).cell 0;have c7:W.cell? ⟨p 1,0,none⟩=some (.int .u32 t.b):=(z.box 1 (by omega)).cell 0;have c8:W.cell? ⟨p 2,0,none⟩=some (.int .u32 t.c):=(z.box 2 (by omega)).cell 0;have c9:W.cell? ⟨p 3,0,none⟩=some (.int .u32 t.d):=(z.box 3 (by omega)).cell 0;have aP:W.cell? ⟨p 4,0,none⟩=some (.int .u32 t.e):=(z.box 4 (by omega)).cell 0;have a7:W.cell? ⟨p 5,0,none⟩=some (.int .u32 t.f):=(z.box 5 (by omega)).cell 0;have a1:W.cell? ⟨p 6,0,none⟩=some (.int .u32 t.g):=(z.box 6 (by omega)).cell 0;have a8:W.cell? ⟨p 7,0,none⟩=some (.int .u32 t.h):=(z.box 7 (by omega)).cell 0;have f6:=(z.box 0 (by omega)).frozen 0;have f7:=(z.box 1 (by omega)).frozen 0;have f8:=(z.box 2 (by omega)).frozen 0;have f9:=(z.box 3 (by omega)).frozen 0;have bB:=(z.box 4 (by omega)).frozen 0;have bu:=(z.box 5 (by omega)).frozen 0;have bJ:=(z.box 6 (by omega)).frozen 0;have bm:=(z.box 7 (by omega)).frozen 0;have cf:W.cell? ⟨w.heap.size+1+1,0,none⟩=some (.func (.func 236) #[] #[]):=z.fn.cell 0;have ab:=za z;have aJ:=za (Gg t.e t.f t.g te tf tg);have aO:=za (Nw t.a t.b t.c ta tb tc);have aK:=za (fun w=>Xm k w hk);have cO:=za (fun w=>XW t.e w te);have ep:=za (fun w=>XX t.a w ta);clear ht z Lv Sc;generalize mi blk k=wk at*;generalize uU.getD k 0=kc at*;gi_wp2
   rw[aJ.out,aO.out];have RH:Hid (CC kc wk t=⟨(((t.h+Sg1 t.e+kc+wk+Es t.e t.f t.g)%4294967296)+((Sg0 t.a+uR t.a t.b t.c)%4294967296))%4294967296,t.a,t.b,t.c,(t.d+(t.h+Sg1 t.e+kc+wk+Es t.e t.f t.g)%4294967296)%4294967296,t.e,t.f,t.g⟩):=za rfl;clear aJ aO;generalize Es t.e t.f t.g=cv at*;generalize uR t.a t.b t.c=mv at*;generalize Sg1 t.e=g1 at*;generalize Sg0 t.a=g0 at*;refine kz l (by kernel_rfl) (by kernel_rfl) (by kernel_rfl) ?_;repeat(go_big_quiet_step (first|(with_reducible exact Calls.eZ (cO.out _))|(with_reducible exact Calls.quiet_of (aK.out _))))
   refine xO ?_;intro nq;obtain⟨pv,LF⟩:∃pv,(t.h+g1+kc+wk+cv)%4294967296=pv:=⟨_,rfl⟩
   have aL:Hid ((((t.h:Int)+g1+kc+wk)%4294967296+cv)%4294967296=(pv:Int)):=za (by omega);have GW:pv<4294967296:=by omega
   rw[LF]at RH;clear LF;rw[aL.out];clear aL aK cO;gi_wp2_with fail
   refine⟨trivial,(CallsIn.inRound l (Yh.2 (ep.out _))).mono ?_⟩;rintro e w' ⟨rfl,rfl⟩;have bc:(p 0=p 1)=False:=yH (y.out.2.2 0 1 (by omega) (by omega) (by omega));have bn:(p 0=p 2)=False:=yH (y.out.2.2 0 2 (by omega) (by omega) (by omega));have bH:(p 0=p 3)=False:=yH (y.out.2.2 0 3 (by omega) (by omega) (by omega));have bd:(p 0=p 4)=False:=yH (y.out.2.2 0 4 (by omega) (by omega) (by omega));have bf:(p 0=p 5)=False:=yH (y.out.2.2 0 5 (by omega) (by omega) (by omega));have bh:(p 0=p 6)=False:=yH (y.out.2.2 0 6 (by omega) (by omega) (by omega));have bp:(p 0=p 7)=False:=yH (y.out.2.2 0 7 (by omega) (by omega) (by omega));have bI:(p 1=p 2)=False:=yH (y.out.2.2 1 2 (by omega) (by omega) (by omega));have bb:(p 1=p 3)=False:=yH (y.out.2.2 1 3 (by omega) (by omega) (by omega));have bo:(p 1=p 4)=False:=yH (y.out.2.2 1 4 (by omega) (by omega) (by omega));have bs:(p 1=p 5)=False:=yH (y.out.2.2 1 5 (by omega) (by omega) (by omega));have bw:(p 1=p 6)=False:=yH (y.out.2.2 1 6 (by omega) (by omega) (by omega));have bC:(p 1=p 7)=False:=yH (y.out.2.2 1 7 (by omega) (by omega) (by omega));have ba:(p 2=p 3)=False:=yH (y.out.2.2 2 3 (by omega) (by omega) (by omega));have bj:(p 2=p 4)=False:=yH (y.out.2.2 2 4 (by omega) (by omega) (by omega));have bL:(p 2=p 5)=False:=yH (y.out.2.2 2 5 (by omega) (by omega) (by omega));have bl:(p 2=p 6)=False:=yH (y.out.2.2 2 6 (by omega) (by omega) (by omega));have bg:(p 2=p 7)=False:=yH (y.out.2.2 2 7 (by omega) (by omega) (by omega))
   have bt:(p 3=p 4)=False:=yH (y.out.2.2 3 4 (by omega) (by omega) (by omega));have br:(p 3=p 5)=False:=yH (y.out.2.2 3 5 (by omega) (by omega) (by omega));have bk:(p 3=p 6)=False:=yH (y.out.2.2 3 6 (by omega) (by omega) (by omega));have a':(p 3=p 7)=False:=yH (y.out.2.2 3 7 (by omega) (by omega) (by omega));have bE:(p 4=p 5)=False:=yH (y.out.2.2 4 5 (by omega) (by omega) (by omega));have bF:(p 4=p 6)=False:=yH (y.out.2.2 4 6 (by omega) (by omega) (by omega));have bK:(p 4=p 7)=False:=yH (y.out.2.2 4 7 (by omega) (by omega) (by omega));have bx:(p 5=p 6)=False:=yH (y.out.2.2 5 6 (by omega) (by omega) (by omega));have bz:(p 5=p 7)=False:=yH (y.out.2.2 5 7 (by omega) (by omega) (by omega));have bq:(p 6=p 7)=False:=yH (y.out.2.2 6 7 (by omega) (by omega) (by omega));obtain⟨av,aM⟩:∃av,(pv+(g0+mv)%4294967296)%4294967296=av:=⟨_,rfl⟩
   obtain⟨ev,aH⟩:∃ev,(t.d+pv)%4294967296=ev:=⟨_,rfl⟩
   have aY:Hid (((pv:Int)+((g0:Int)+mv))%4294967296=(av:Int)):=za (by omega);have aX:Hid (((t.d:Int)+pv)%4294967296=(ev:Int)):=za (by omega);rw[aM,aH]at RH;clear aM aH;gi_wp2
   rw[aY.out,aX.out,a6.out,mD.out,RH.out];have hq:oJ w w.heap.size p s t (W.drewN nq):=ab.out.ah (B:=W.heap.size) ((zm _ W).bF nq) (fun j E=>by have:=U3.out j E;omega) (by omega) (by omega);exact⟨((ae.refl (boxes p) W).drewN nq).trans (s9 (W.drewN nq) p ⟨av,t.a,t.b,t.c,ev,t.e,t.f,t.g⟩),hq.put _ (fun j E=>by have:=y.out.1 j E;omega) (fun j E=>by have:=y.out.1 j E;omega) y.out.2.2⟩
  case dn=>
   rintro aa W hD ⟨z,fa⟩ hK;have Lf:(cS blk 64).length=64:=by simp[cS]
   rw[Lf]at z;have ak:=aU;have GD:=sv uU blk 64 J;obtain⟨t,ht⟩:∃t,fG uU blk 64 s=t:=⟨_,rfl⟩
   rw[ht]at z ak GD;obtain⟨ta,tb,tc,td,te,tf,tg,th⟩:=GD;obtain⟨sa,sb,sc,sd,se,sf,sg,sh⟩:=J;have c6:W.cell? ⟨p 0,0,none⟩=some (.int .u32 t.a):=(z.box 0 (by omega)).cell 0;have c7:W.cell? ⟨p 1,0,none⟩=some (.int .u32 t.b):=(z.box 1 (by omega)).cell 0;have c8:W.cell? ⟨p 2,0,none⟩=some (.int .u32 t.c):=(z.box 2 (by omega)).cell 0;have c9:W.cell? ⟨p 3,0,none⟩=some (.int .u32 t.d):=(z.box 3 (by omega)).cell 0;have aP:W.cell? ⟨p 4,0,none⟩=some (.int .u32 t.e):=(z.box 4 (by omega)).cell 0;have a7:W.cell? ⟨p 5,0,none⟩=some (.int .u32 t.f):=(z.box 5 (by omega)).cell 0;have a1:W.cell? ⟨p 6,0,none⟩=some (.int .u32 t.g):=(z.box 6 (by omega)).cell 0;have a8:W.cell? ⟨p 7,0,none⟩=some (.int .u32 t.h):=(z.box 7 (by omega)).cell 0;have ab:=za z;have aR:=za hK;have R:Hid (w.heap.size+1<aa):=za (by omega);clear z ht hK;gi_wp2
   gi_loopw [98] (fun i wr=>jO w w.heap.size aa s t i wr) (fun i _=>8-(intOf i).toNat)
   case atStart=>exact⟨0,by omega,rfl,ab.out.sta,ab.out.res,ab.out.only,aR.out⟩
   case round=>
    obtain⟨k,hk,rfl,c,I,kD,aC⟩:=hrel.ex;have X:=za I;have S:=za kD;have Y:=za aC;by_cases bG:k<8
    ·clear I kD aC;have h8:k=0\/k=1\/k=2\/k=3\/k=4\/k=5\/k=6\/k=7:=by omega
     rcases h8 with rfl|rfl|rfl|rfl|rfl|rfl|rfl|rfl
     ·have q0:wr.cell? ⟨w.heap.size,0,none⟩=some (.int .u32 s.a):=c.cell 0;have q1:=c.frozen 0;have hi:∀w',(Instr.index 274 (.agg #[.int .u32 t.a,.int .u32 t.b,.int .u32 t.c,.int .u32 t.d,.int .u32 t.e,.int .u32 t.f,.int .u32 t.g,.int .u32 t.h]) (.int .i64 0)).run prog w'= .ok (.int .u32 t.a) w':=fun w'=>lT t w' 0 (.int .u32 t.a) rfl
      have N:=za (c.set 0 (.int .u32 ((s.a+t.a)%4294967296:Nat)));clear c;gi_wp2
      go_roundw
      case rel=>exact jO.next N.out X.out S.out Y.out R.out (by omega) (by omega) rfl (by simp)
      case measure=>simp[intOf]
     ·have q0:wr.cell? ⟨w.heap.size,1,none⟩=some (.int .u32 s.b):=c.cell 1;have q1:=c.frozen 1;have hi:∀w',(Instr.index 274 (.agg #[.int .u32 t.a,.int .u32 t.b,.int .u32 t.c,.int .u32 t.d,.int .u32 t.e,.int .u32 t.f,.int .u32 t.g,.int .u32 t.h]) (.int .i64 1)).run prog w'= .ok (.int .u32 t.b) w':=fun w'=>lT t w' 1 (.int .u32 t.b) rfl
      have N:=za (c.set 1 (.int .u32 ((s.b+t.b)%4294967296:Nat)));clear c;gi_wp2
      go_roundw
      case rel=>exact jO.next N.out X.out S.out Y.out R.out (by omega) (by omega) rfl (by simp)
      case measure=>simp[intOf]
     ·have q0:wr.cell? ⟨w.heap.size,2,none⟩=some (.int .u32 s.c):=c.cell 2;have q1:=c.frozen 2;have hi:∀w',(Instr.index 274 (.agg #[.int .u32 t.a,.int .u32 t.b,.int .u32 t.c,.int .u32 t.d,.int .u32 t.e,.int .u32 t.f,.int .u32 t.g,.int .u32 t.h]) (.int .i64 2)).run prog w'= .ok (.int .u32 t.c) w':=fun w'=>lT t w' 2 (.int .u32 t.c) rfl
      have N:=za (c.set 2 (.int .u32 ((s.c+t.c)%4294967296:Nat)));clear c;gi_wp2
      go_roundw
      case rel=>exact jO.next N.out X.out S.out Y.out R.out (by omega) (by omega) rfl (by simp)
      case measure=>simp[intOf]
     ·have q0:wr.cell? ⟨w.heap.size,3,none⟩=some (.int .u32 s.d):=c.cell 3;have q1:=c.frozen 3;have hi:∀w',(Instr.index 274 (.agg #[.int .u32 t.a,.int .u32 t.b,.int .u32 t.c,.int .u32 t.d,.int .u32 t.e,.int .u32 t.f,.int .u32 t.g,.int .u32 t.h]) (.int .i64 3)).run prog w'= .ok (.int .u32 t.d) w':=fun w'=>lT t w' 3 (.int .u32 t.d) rfl
      have N:=za (c.set 3 (.int .u32 ((s.d+t.d)%4294967296:Nat)));clear c;gi_wp2
      go_roundw
      case rel=>exact jO.next N.out X.out S.out Y.out R.out (by omega) (by omega) rfl (by simp)
      case measure=>simp[intOf]
     ·have q0:wr.cell? ⟨w.heap.size,4,none⟩=some (.int .u32 s.e):=c.cell 4;have q1:=c.frozen 4;have hi:∀w',(Instr.index 274 (.agg #[.int .u32 t.a,.int .u32 t.b,.int .u32 t.c,.int .u32 t.d,.int .u32 t.e,.int .u32 t.f,.int .u32 t.g,.int .u32 t.h]) (.int .i64 4)).run prog w'= .ok (.int .u32 t.e) w':=fun w'=>lT t w' 4 (.int .u32 t.e) rfl
      have N:=za (c.set 4 (.int .u32 ((s.e+t.e)%4294967296:Nat)));clear c;gi_wp2
      go_roundw
      case rel=>exact jO.next N.out X.out S.out Y.out R.out (by omega) (by omega) rfl (by simp)
      case measure=>simp[intOf]
     ·have q0:wr.cell? ⟨w.heap.size,5,none⟩=some (.int .u32 s.f):=c.cell 5;have q1:=c.frozen 5;have hi:∀w',(Instr.index 274 (.agg #[.int .u32 t.a,.int .u32 t.b,.int .u32 t.c,.int .u32 t.d,.int .u32 t.e,.int .u32 t.f,.int .u32 t.g,.int .u32 t.h]) (.int .i64 5)).run prog w'= .ok (.int .u32 t.f) w':=fun w'=>lT t w' 5 (.int .u32 t.f) rfl
      have N:=za (c.set 5 (.int .u32 ((s.f+t.f)%4294967296:Nat)));clear c;gi_wp2
      go_roundw
      case rel=>exact jO.next N.out X.out S.out Y.out R.out (by omega) (by omega) rfl (by simp)
      case measure=>simp[intOf]
     ·have q0:wr.cell? ⟨w.heap.size,6,none⟩=some (.int .u32 s.g):=c.cell 6;have q1:=c.frozen 6;have hi:∀w',(Instr.index 274 (.agg #[.int .u32 t.a,.int .u32 t.b,.int .u32 t.c,.int .u32 t.d,.int .u32 t.e,.int .u32 t.f,.int .u32 t.g,.int .u32 t.h]) (.int .i64 6)).run prog w'= .ok (.int .u32 t.g) w':=fun w'=>lT t w' 6 (.int .u32 t.g) rfl
      have N:=za (c.set 6 (.int .u32 ((s.g+t.g)%4294967296:Nat)));clear c;gi_wp2
      go_roundw
      case rel=>exact jO.next N.out X.out S.out Y.out R.out (by omega) (by omega) rfl (by simp)
      case measure=>simp[intOf]
     have q0:wr.cell? ⟨w.heap.size,7,none⟩=some (.int .u32 s.h):=c.cell 7;have q1:=c.frozen 7;have hi:∀w',(Instr.index 274 (.agg #[.int .u32 t.a,.int .u32 t.b,.int .u32 t.c,.int .u32 t.d,.int .u32 t.e,.int .u32 t.f,.int .u32 t.g,.int .u32 t.h]) (.int .i64 7)).run prog w'= .ok (.int .u32 t.h) w':=fun w'=>lT t w' 7 (.int .u32 t.h) rfl
     have N:=za (c.set 7 (.int .u32 ((s.h+t.h)%4294967296:Nat)));clear c;gi_wp2
     go_roundw
     case rel=>exact jO.next N.out X.out S.out Y.out R.out (by omega) (by omega) rfl (by simp)
     case measure=>simp[intOf]
    obtain rfl:k=8:=by omega
    obtain⟨u,hu⟩:∃u,ti 8 s t=u:=⟨_,rfl⟩
    rw[hu]at c ak;clear hu;have q0:wr.cell? ⟨w.heap.size,0,none⟩=some (.int .u32 u.a):=c.cell 0;have q1:wr.cell? ⟨w.heap.size,1,none⟩=some (.int .u32 u.b):=c.cell 1;have q2:wr.cell? ⟨w.heap.size,2,none⟩=some (.int .u32 u.c):=c.cell 2;have q3:wr.cell? ⟨w.heap.size,3,none⟩=some (.int .u32 u.d):=c.cell 3;have q4:wr.cell? ⟨w.heap.size,4,none⟩=some (.int .u32 u.e):=c.cell 4;have q5:wr.cell? ⟨w.heap.size,5,none⟩=some (.int .u32 u.f):=c.cell 5;have q6:wr.cell? ⟨w.heap.size,6,none⟩=some (.int .u32 u.g):=c.cell 6;have q7:wr.cell? ⟨w.heap.size,7,none⟩=some (.int .u32 u.h):=c.cell 7;have r0:=I.cell 0;have r1:=I.cell 1;have r2:=I.cell 2;have r3:=I.cell 3;have r4:=I.cell 4;have r5:=I.cell 5;have r6:=I.cell 6;have r7:=I.cell 7;simp at r0 r1 r2 r3 r4 r5 r6 r7;have f0:=I.frozen 0;have f1:=I.frozen 1;have f2:=I.frozen 2;have f3:=I.frozen 3;have f4:=I.frozen 4;have f5:=I.frozen 5;have f6:=I.frozen 6;have f7:=I.frozen 7;clear c I kD aC;gi_wp2
    have UI:(nE wr (w.heap.size+1) u).heap[aa]?=some (.deferred (some [])):=(Gh wr _ u aa (by have:=R.out;omega)).trans Y.out;have lV:=Jw u X.out;have aZ:=tj u S.out (show w.heap.size<=w.heap.size+1 by omega);have Wu:=lV.only (iN _ aa (.deferred none)) (by have:=R.out;simp;omega);have Wt:=aZ.trans' (iN _ aa (.deferred none)) (fun i hi=> .inr (by have:=R.out;simp at hi;omega));unfold nE at UI Wu Wt;refine⟨by simp,.inl ⟨_,_,rfl,run_takeDeferred UI, ?_⟩⟩;refine⟨_,XY u (g:=w.heap.size+1) rfl Wu, ?_,Wt⟩;rw[ak.out];rfl
