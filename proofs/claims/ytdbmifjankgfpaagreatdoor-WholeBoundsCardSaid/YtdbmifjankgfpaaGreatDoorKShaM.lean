/- sha.mix: a block mixed into the state. -/
import Derived.Test.YtdbmifjankgfpaaGreatDoorKA16
set_option linter.all false
set_option maxRecDepth 100000
set_option maxHeartbeats 4000000
open Go.Proofs.Tryz
namespace Go.Proofs.YtdbmifjankgfpaaGreatDoor
open Go.RowKit Go.Shelf
attribute [local go_sem] Oper.semAt_some
def yG:=@eq_false
theorem VA (s:Sh)(I:s.ok)(blk:ByteArray)(hb:blk.size=64)(w:World):
 Calls prog 190 #[kC s,.string blk] w fun e w'=>e= .returned (kC (pN uM s blk))/\ae [] w w':=by
 obtain⟨aB,hR⟩:∃aB,pN uM s blk=aB:=⟨_,rfl⟩
 have aZ:Hid (aB=tu 8 s (fS uM blk 64 s)):=za (by rw[<-hR];exact NJ s blk);rw[hR];clear hR;have HB:Hid (af (w.alloc (.cells #[.int .u32 s.a,.int .u32 s.b,.int .u32 s.c,.int .u32 s.d,.int .u32 s.e,.int .u32 s.f,.int .u32 s.g,.int .u32 s.h] 244)) w.heap.size 244 #[.int .u32 s.a,.int .u32 s.b,.int .u32 s.c,.int .u32 s.d,.int .u32 s.e,.int .u32 s.f,.int .u32 s.g,.int .u32 s.h]):=za (af.new w _ _);unfold kC;refine(Z7 (n:=5)).1 ?_;refine callsIn_of_wp_marks func190 rfl trivial ?_ rfl;simp only[ntmps190,ZX,zx,zJ,Nat.reduceAdd,Nat.reduceSub,Array.replicate_succ,Array.replicate_zero,List.push_toArray,List.append_toArray,yy,ya];gi_upto_region 2 with(fail)
 obtain⟨d,bO⟩:∃d,((w.alloc (.cells #[.int .u32 s.a,.int .u32 s.b,.int .u32 s.c,.int .u32 s.d,.int .u32 s.e,.int .u32 s.f,.int .u32 s.g,.int .u32 s.h] 244)).alloc (.cells #[.int .u32 0,.int .u32 0,.int .u32 0,.int .u32 0,.int .u32 0,.int .u32 0,.int .u32 0,.int .u32 0] 244)).alloc (.cells #[.func (.func 222) #[] #[]] 268)=d:=⟨_,rfl⟩
 have kg:Hid (af d w.heap.size 244 #[.int .u32 s.a,.int .u32 s.b,.int .u32 s.c,.int .u32 s.d,.int .u32 s.e,.int .u32 s.f,.int .u32 s.g,.int .u32 s.h]):=za (by rw[<-bO];exact(HB.out.alloc _).alloc _);have aY:Hid (af d (w.heap.size+1) 244 #[.int .u32 0,.int .u32 0,.int .u32 0,.int .u32 0,.int .u32 0,.int .u32 0,.int .u32 0,.int .u32 0]):=za (by
  rw[<-bO];refine af.alloc ?_ _;have:=af.new (w.alloc (.cells #[.int .u32 s.a,.int .u32 s.b,.int .u32 s.c,.int .u32 s.d,.int .u32 s.e,.int .u32 s.f,.int .u32 s.g,.int .u32 s.h] 244)) 244 #[.int .u32 0,.int .u32 0,.int .u32 0,.int .u32 0,.int .u32 0,.int .u32 0,.int .u32 0,.int .u32 0];rwa [zq]at this)
 have tV:Hid (af d (w.heap.size+2) 268 #[.func (.func 222) #[] #[]]):=za (by
  rw[<-bO];have:=af.new ((w.alloc (.cells #[.int .u32 s.a,.int .u32 s.b,.int .u32 s.c,.int .u32 s.d,.int .u32 s.e,.int .u32 s.f,.int .u32 s.g,.int .u32 s.h] 244)).alloc (.cells #[.int .u32 0,.int .u32 0,.int .u32 0,.int .u32 0,.int .u32 0,.int .u32 0,.int .u32 0,.int .u32 0] 244)) 268 #[.func (.func 222) #[] #[]];simp only[zq]at this;exact this)
 have aU:Hid (ae [] w d):=za (by rw[<-bO];exact(((ae.refl [] w).alloc _).alloc _).alloc _);have Bo:Hid (d.heap.size=w.heap.size+3):=za (by rw[<-bO];simp);rw[bO];clear bO HB;refine wpIn_wide.2 ?_;refine Aw (by kernel_rfl) (by kernel_rfl) (afP s blk w.heap.size d.drew) ?start ?step ?done;case start=>exact⟨fun _=>undef,0,fun _=>0,rfl,MJ.start _ _ _ _ _⟩
 case step=>
  have Wl:Hid (af d.drew w.heap.size 244 #[.int .u32 s.a,.int .u32 s.b,.int .u32 s.c,.int .u32 s.d,.int .u32 s.e,.int .u32 s.f,.int .u32 s.g,.int .u32 s.h]):=kg;have qS:Hid (w.heap.size<d.drew.heap.size):=za (by have:=Bo.out;show w.heap.size<d.heap.size;omega);rintro listed a w' i hi ⟨x,m,q,rfl,b⟩ hr;obtain⟨mM,o,K,C⟩:=Zt.1 hr;clear hr;have a8:i=0\/i=1\/i=2\/i=3\/i=4\/i=5\/i=6\/i=7\/i=8\/i=9\/i=10\/i=11\/i=12\/i=13\/i=14\/i=15\/i=16\/i=17\/i=18\/i=19\/i=20\/i=21\/i=22\/i=23\/i=24\/i=25\/i=26\/i=27\/i=28\/i=29\/i=30\/i=31:=by simp at hi;omega
  rcases a8 with rfl|rfl|rfl|rfl|rfl|rfl|rfl|rfl|rfl|rfl|rfl|rfl|rfl|rfl|rfl|rfl|rfl|rfl|rfl|rfl|rfl|rfl|rfl|rfl|rfl|rfl|rfl|rfl|rfl|rfl|rfl|rfl
  ·refine aT rfl rfl ?_;unfold bE;go_simp;exact⟨lj x 22 _,m,q,rfl,b.addr 0 (by omega)⟩
  ·obtain rfl:=yp K;have hx:=b.ad 0 (by omega) (C ⟨0,.data⟩ (by simp) rfl);simp only[Nat.reduceMul,Nat.reduceAdd]at hx;have G:=af.cell ((b.bl.block _ qS.out).trans Wl.out) 0;refine aT rfl rfl ?_;unfold bE;simp at G;simp only[hx];go_simp;refine⟨_,m,q, ?_,b.load 0 (by omega)⟩;simp[bE,lj,hx,dH,Sh.list]
  ·refine aT rfl rfl ?_;unfold bE;go_simp;exact⟨lj x 24 _,m,q,rfl,b.addr 1 (by omega)⟩
  ·obtain rfl:=yp K;have hx:=b.ad 1 (by omega) (C ⟨2,.data⟩ (by simp) rfl);simp only[Nat.reduceMul,Nat.reduceAdd]at hx;have G:=af.cell ((b.bl.block _ qS.out).trans Wl.out) 1;refine aT rfl rfl ?_;unfold bE;simp at G;simp only[hx];go_simp;refine⟨_,m,q, ?_,b.load 1 (by omega)⟩;simp[bE,lj,hx,dH,Sh.list]
  ·refine aT rfl rfl ?_;unfold bE;go_simp;exact⟨lj x 26 _,m,q,rfl,b.addr 2 (by omega)⟩
  ·obtain rfl:=yp K;have hx:=b.ad 2 (by omega) (C ⟨4,.data⟩ (by simp) rfl);simp only[Nat.reduceMul,Nat.reduceAdd]at hx;have G:=af.cell ((b.bl.block _ qS.out).trans Wl.out) 2;refine aT rfl rfl ?_;unfold bE;simp at G;simp only[hx];go_simp;refine⟨_,m,q, ?_,b.load 2 (by omega)⟩;simp[bE,lj,hx,dH,Sh.list]
  ·refine aT rfl rfl ?_;unfold bE;go_simp;exact⟨lj x 28 _,m,q,rfl,b.addr 3 (by omega)⟩
  ·obtain rfl:=yp K;have hx:=b.ad 3 (by omega) (C ⟨6,.data⟩ (by simp) rfl);simp only[Nat.reduceMul,Nat.reduceAdd]at hx;have G:=af.cell ((b.bl.block _ qS.out).trans Wl.out) 3;refine aT rfl rfl ?_;unfold bE;simp at G;simp only[hx];go_simp;refine⟨_,m,q, ?_,b.load 3 (by omega)⟩;simp[bE,lj,hx,dH,Sh.list]
  ·refine aT rfl rfl ?_;unfold bE;go_simp;exact⟨lj x 30 _,m,q,rfl,b.addr 4 (by omega)⟩
  ·obtain rfl:=yp K;have hx:=b.ad 4 (by omega) (C ⟨8,.data⟩ (by simp) rfl);simp only[Nat.reduceMul,Nat.reduceAdd]at hx;have G:=af.cell ((b.bl.block _ qS.out).trans Wl.out) 4;refine aT rfl rfl ?_;unfold bE;simp at G;simp only[hx];go_simp;refine⟨_,m,q, ?_,b.load 4 (by omega)⟩;simp[bE,lj,hx,dH,Sh.list]
  ·refine aT rfl rfl ?_;unfold bE;go_simp;exact⟨lj x 32 _,m,q,rfl,b.addr 5 (by omega)⟩
  ·obtain rfl:=yp K;have hx:=b.ad 5 (by omega) (C ⟨10,.data⟩ (by simp) rfl);simp only[Nat.reduceMul,Nat.reduceAdd]at hx;have G:=af.cell ((b.bl.block _ qS.out).trans Wl.out) 5;refine aT rfl rfl ?_;unfold bE;simp at G;simp only[hx];go_simp;refine⟨_,m,q, ?_,b.load 5 (by omega)⟩;simp[bE,lj,hx,dH,Sh.list]
  ·refine aT rfl rfl ?_;unfold bE;go_simp;exact⟨lj x 34 _,m,q,rfl,b.addr 6 (by omega)⟩
  ·obtain rfl:=yp K;have hx:=b.ad 6 (by omega) (C ⟨12,.data⟩ (by simp) rfl);simp only[Nat.reduceMul,Nat.reduceAdd]at hx;have G:=af.cell ((b.bl.block _ qS.out).trans Wl.out) 6;refine aT rfl rfl ?_;unfold bE;simp at G;simp only[hx];go_simp;refine⟨_,m,q, ?_,b.load 6 (by omega)⟩;simp[bE,lj,hx,dH,Sh.list]
  ·refine aT rfl rfl ?_;unfold bE;go_simp;exact⟨lj x 36 _,m,q,rfl,b.addr 7 (by omega)⟩
  ·obtain rfl:=yp K;have hx:=b.ad 7 (by omega) (C ⟨14,.data⟩ (by simp) rfl);simp only[Nat.reduceMul,Nat.reduceAdd]at hx;have G:=af.cell ((b.bl.block _ qS.out).trans Wl.out) 7;refine aT rfl rfl ?_;unfold bE;simp at G;simp only[hx];go_simp;refine⟨_,m,q, ?_,b.load 7 (by omega)⟩;simp[bE,lj,hx,dH,Sh.list]
  ·refine aT rfl rfl ?_;unfold bE;go_simp;exact⟨lj x 6 _,m+1,_,rfl,b.alloc 0 (by omega) (Zj mM)⟩
  ·refine aT rfl rfl ?_;unfold bE;go_simp;exact⟨lj x 7 _,m+1,_,rfl,b.alloc 1 (by omega) (Zj mM)⟩
  ·refine aT rfl rfl ?_;unfold bE;go_simp;exact⟨lj x 8 _,m+1,_,rfl,b.alloc 2 (by omega) (Zj mM)⟩
  ·refine aT rfl rfl ?_;unfold bE;go_simp;exact⟨lj x 9 _,m+1,_,rfl,b.alloc 3 (by omega) (Zj mM)⟩
  ·refine aT rfl rfl ?_;unfold bE;go_simp;exact⟨lj x 10 _,m+1,_,rfl,b.alloc 4 (by omega) (Zj mM)⟩
  ·refine aT rfl rfl ?_;unfold bE;go_simp;exact⟨lj x 11 _,m+1,_,rfl,b.alloc 5 (by omega) (Zj mM)⟩
  ·refine aT rfl rfl ?_;unfold bE;go_simp;exact⟨lj x 12 _,m+1,_,rfl,b.alloc 6 (by omega) (Zj mM)⟩
  ·refine aT rfl rfl ?_;unfold bE;go_simp;exact⟨lj x 13 _,m+1,_,rfl,b.alloc 7 (by omega) (Zj mM)⟩
  ·obtain rfl:=yp K;have F:=C ⟨16,.data⟩ (by simp) rfl;obtain⟨hx,hq,D⟩:=b.al 0 (by omega) F;have r:=b.ld 0 (by omega) (C ⟨1,.data⟩ (by simp) rfl);have I:=za (b.store 0 (by omega) F);simp only[Nat.reduceMul,Nat.reduceAdd]at hx r D;replace hx:x 6= .pointer (some ⟨d.heap.size+q 0,0,none⟩):=hx;obtain⟨H,G⟩:∃H,w'.cell? ⟨d.heap.size+q 0,0,none⟩=some H:=⟨_,D.cell 0⟩
   have f0:w'.frozen? ⟨d.heap.size+q 0,0,none⟩=false:=D.frozen 0;have M:s.list.getD 0 0=s.a:=rfl;rw[M,dH]at r;refine aT rfl rfl ?_;unfold bE;simp only[hx,r];go_simp;refine⟨x,m,q, ?_,I.out⟩;simp[bE,hx,r]
  ·obtain rfl:=yp K;have F:=C ⟨17,.data⟩ (by simp) rfl;obtain⟨hx,hq,D⟩:=b.al 1 (by omega) F;have r:=b.ld 1 (by omega) (C ⟨3,.data⟩ (by simp) rfl);have I:=za (b.store 1 (by omega) F);simp only[Nat.reduceMul,Nat.reduceAdd]at hx r D;replace hx:x 7= .pointer (some ⟨d.heap.size+q 1,0,none⟩):=hx;obtain⟨H,G⟩:∃H,w'.cell? ⟨d.heap.size+q 1,0,none⟩=some H:=⟨_,D.cell 0⟩
   have f0:w'.frozen? ⟨d.heap.size+q 1,0,none⟩=false:=D.frozen 0;have M:s.list.getD 1 0=s.b:=rfl;rw[M,dH]at r;refine aT rfl rfl ?_;unfold bE;simp only[hx,r];go_simp;refine⟨x,m,q, ?_,I.out⟩;simp[bE,hx,r]
  ·obtain rfl:=yp K;have F:=C ⟨18,.data⟩ (by simp) rfl;obtain⟨hx,hq,D⟩:=b.al 2 (by omega) F;have r:=b.ld 2 (by omega) (C ⟨5,.data⟩ (by simp) rfl);have I:=za (b.store 2 (by omega) F);simp only[Nat.reduceMul,Nat.reduceAdd]at hx r D;replace hx:x 8= .pointer (some ⟨d.heap.size+q 2,0,none⟩):=hx;obtain⟨H,G⟩:∃H,w'.cell? ⟨d.heap.size+q 2,0,none⟩=some H:=⟨_,D.cell 0⟩
   have f0:w'.frozen? ⟨d.heap.size+q 2,0,none⟩=false:=D.frozen 0;have M:s.list.getD 2 0=s.c:=rfl;rw[M,dH]at r;refine aT rfl rfl ?_;unfold bE;simp only[hx,r];go_simp;refine⟨x,m,q, ?_,I.out⟩;simp[bE,hx,r]
  ·obtain rfl:=yp K;have F:=C ⟨19,.data⟩ (by simp) rfl;obtain⟨hx,hq,D⟩:=b.al 3 (by omega) F;have r:=b.ld 3 (by omega) (C ⟨7,.data⟩ (by simp) rfl);have I:=za (b.store 3 (by omega) F);simp only[Nat.reduceMul,Nat.reduceAdd]at hx r D;replace hx:x 9= .pointer (some ⟨d.heap.size+q 3,0,none⟩):=hx;obtain⟨H,G⟩:∃H,w'.cell? ⟨d.heap.size+q 3,0,none⟩=some H:=⟨_,D.cell 0⟩
   have f0:w'.frozen? ⟨d.heap.size+q 3,0,none⟩=false:=D.frozen 0;have M:s.list.getD 3 0=s.d:=rfl;rw[M,dH]at r;refine aT rfl rfl ?_;unfold bE;simp only[hx,r];go_simp;refine⟨x,m,q, ?_,I.out⟩;simp[bE,hx,r]
  ·obtain rfl:=yp K;have F:=C ⟨20,.data⟩ (by simp) rfl;obtain⟨hx,hq,D⟩:=b.al 4 (by omega) F;have r:=b.ld 4 (by omega) (C ⟨9,.data⟩ (by simp) rfl);have I:=za (b.store 4 (by omega) F);simp only[Nat.reduceMul,Nat.reduceAdd]at hx r D;replace hx:x 10= .pointer (some ⟨d.heap.size+q 4,0,none⟩):=hx;obtain⟨H,G⟩:∃H,w'.cell? ⟨d.heap.size+q 4,0,none⟩=some H:=⟨_,D.cell 0⟩
   have f0:w'.frozen? ⟨d.heap.size+q 4,0,none⟩=false:=D.frozen 0;have M:s.list.getD 4 0=s.e:=rfl;rw[M,dH]at r;refine aT rfl rfl ?_;unfold bE;simp only[hx,r];go_simp;refine⟨x,m,q, ?_,I.out⟩;simp[bE,hx,r]
  ·obtain rfl:=yp K;have F:=C ⟨21,.data⟩ (by simp) rfl;obtain⟨hx,hq,D⟩:=b.al 5 (by omega) F;have r:=b.ld 5 (by omega) (C ⟨11,.data⟩ (by simp) rfl);have I:=za (b.store 5 (by omega) F);simp only[Nat.reduceMul,Nat.reduceAdd]at hx r D;replace hx:x 11= .pointer (some ⟨d.heap.size+q 5,0,none⟩):=hx;obtain⟨H,G⟩:∃H,w'.cell? ⟨d.heap.size+q 5,0,none⟩=some H:=⟨_,D.cell 0⟩
   have f0:w'.frozen? ⟨d.heap.size+q 5,0,none⟩=false:=D.frozen 0;have M:s.list.getD 5 0=s.f:=rfl;rw[M,dH]at r;refine aT rfl rfl ?_;unfold bE;simp only[hx,r];go_simp;refine⟨x,m,q, ?_,I.out⟩;simp[bE,hx,r]
  ·obtain rfl:=yp K;have F:=C ⟨22,.data⟩ (by simp) rfl;obtain⟨hx,hq,D⟩:=b.al 6 (by omega) F;have r:=b.ld 6 (by omega) (C ⟨13,.data⟩ (by simp) rfl);have I:=za (b.store 6 (by omega) F);simp only[Nat.reduceMul,Nat.reduceAdd]at hx r D;replace hx:x 12= .pointer (some ⟨d.heap.size+q 6,0,none⟩):=hx;obtain⟨H,G⟩:∃H,w'.cell? ⟨d.heap.size+q 6,0,none⟩=some H:=⟨_,D.cell 0⟩
   have f0:w'.frozen? ⟨d.heap.size+q 6,0,none⟩=false:=D.frozen 0;have M:s.list.getD 6 0=s.g:=rfl;rw[M,dH]at r;refine aT rfl rfl ?_;unfold bE;simp only[hx,r];go_simp;refine⟨x,m,q, ?_,I.out⟩;simp[bE,hx,r]
  obtain rfl:=yp K;have F:=C ⟨23,.data⟩ (by simp) rfl;obtain⟨hx,hq,D⟩:=b.al 7 (by omega) F;have r:=b.ld 7 (by omega) (C ⟨15,.data⟩ (by simp) rfl);have I:=za (b.store 7 (by omega) F);simp only[Nat.reduceMul,Nat.reduceAdd]at hx r D;replace hx:x 13= .pointer (some ⟨d.heap.size+q 7,0,none⟩):=hx;obtain⟨H,G⟩:∃H,w'.cell? ⟨d.heap.size+q 7,0,none⟩=some H:=⟨_,D.cell 0⟩
  have f0:w'.frozen? ⟨d.heap.size+q 7,0,none⟩=false:=D.frozen 0;have M:s.list.getD 7 0=s.h:=rfl;rw[M,dH]at r;refine aT rfl rfl ?_;unfold bE;simp only[hx,r];go_simp;refine⟨x,m,q, ?_,I.out⟩;simp[bE,hx,r]
 case done=>
  rintro listed a L C ⟨x,m,q,rfl,b⟩;obtain⟨p,hp⟩:∃p:Nat->Nat,p=fun j=>d.heap.size+q j:=⟨_,rfl⟩
  have O:∀j,j<8->x (6+j)= .pointer (some ⟨p j,0,none⟩)/\af L (p j) 22 #[dH (s.list.getD j 0)]/\d.heap.size<=p j/\p j<L.heap.size:=by
   intro j E;obtain⟨e1,e2,e3⟩:=b.al j E (C _ (by simp;omega));rw[zi (C _ (by simp;omega))]at e3;subst hp;exact⟨e1,e3,Nat.le_add_right _ _,e3.lt⟩
  have cn:∀i j,i<8->j<8->i≠j->p i≠p j:=by
   intro i j hi E aW e;subst hp;exact b.ne i j hi E (C _ (by simp;omega)) (C _ (by simp;omega)) aW (by simpa using e)
  have Y:∀j,j<8->x (22+2*j)= .pointer (some ⟨w.heap.size,j,none⟩):=fun j E=>b.ad j E (C _ (by simp;omega))
  have Bc:∀j,j<8->x (23+2*j)=dH (s.list.getD j 0):=fun j E=>b.ld j E (C _ (by simp;omega))
  have hM:oU w w.heap.size p s s L:=⟨fun j E=>(O j E).2.1,(b.bl.block _ (by have:=Bo.out;show _<d.heap.size;omega)).trans kg.out,(b.bl.block _ (by have:=Bo.out;show _<d.heap.size;omega)).trans aY.out,(b.bl.block _ (by have:=Bo.out;show _<d.heap.size;omega)).trans tV.out,
   aU.out.trans ⟨b.bl.os,b.bl.tape,b.bl.output,b.bl.size,fun k hk _=>b.bl.block k hk⟩⟩
  have aG:∀j,j<8->w.heap.size+3<=p j:=fun j E=>by have:=(O j E).2.2.1;have:=Bo.out;omega
  have GQ:∀j,j<8->p j<L.heap.size:=fun j E=>(O j E).2.2.2
  have x6:=(O 0 (by omega)).1;have x7:=(O 1 (by omega)).1;have x8:=(O 2 (by omega)).1;have x9:=(O 3 (by omega)).1;have al:=(O 4 (by omega)).1;have an:=(O 5 (by omega)).1;have au:=(O 6 (by omega)).1;have ar:=(O 7 (by omega)).1;have ay:=Y 0 (by omega);have ak:=Y 1 (by omega);have ai:=Y 2 (by omega);have ad:=Y 3 (by omega);have ag:=Y 4 (by omega);have aC:=Y 5 (by omega);have ah:=Y 6 (by omega);have aF:=Y 7 (by omega);have aj:=Bc 0 (by omega);have aq:=Bc 1 (by omega);have aA:=Bc 2 (by omega);have aD:=Bc 3 (by omega);have ax:=Bc 4 (by omega);have az:=Bc 5 (by omega);have ao:=Bc 6 (by omega);have aE:=Bc 7 (by omega);simp only[Nat.reduceMul,Nat.reduceAdd,xd,dH,Sh.list,ZH,List.getD_cons_succ]at x6 x7 x8 x9 al an au ar ay ak ai ad ag aC ah aF aj aq aA aD ax az ao aE;unfold bE;simp only[x6,x7,x8,x9,al,an,au,ar,ay,ak,ai,ad,ag,aC,ah,aF,aj,aq,aA,aD,ax,az,ao,aE,kC];clear x6 x7 x8 x9 al an au ar ay ak ai ad ag aC ah aF aj aq aA aD ax az ao aE O Y Bc b hp C;have HM:=za hM;have z:=za (And.intro aG (And.intro GQ cn));clear hM aG GQ cn;gi_wp2_with fail
  refine⟨trivial,(Z7.2 (QS blk _)).mono ?_⟩;rintro e w2 ⟨rfl,rfl⟩;gi_wp2_with fail
  obtain⟨U,mQ⟩:∃U,L.alloc (.cells #[.string blk] 9)=U:=⟨_,rfl⟩
  have cE:U.heap.size=L.heap.size+1:=by rw[<-mQ];simp
  have aP:U.cell? ⟨L.heap.size,0,none⟩=some (.string blk):=by rw[<-mQ];exact(af.new L 9 #[.string blk]).cell 0
  have rp:Hid (oU w w.heap.size p s s U):=za (HM.out.ag (B:=L.heap.size) (by rw[<-mQ];exact(zm _ L).alloc (zg _) _) z.out.2.1 (by have:=HM.out.fn.lt;omega) HM.out.only.size);rw[mQ];have mf:=HM.out.fn.lt;have aM:∀j,j<8->p j<U.heap.size:=fun j E=>by have:=z.out.2.1 j E;omega
  have U2:=za aM;clear mQ aM;refine wC rfl (by omega) (gf:=240) (lb:= #[.pointer (some ⟨L.heap.size,0,none⟩)]) rfl trivial (enters_of func240 (by kernel_rfl) rfl)
   (Jk _ blk hb U L.heap.size (boxes p) aP (by omega) (fun h=>by obtain⟨j,E,e⟩:=lx h;have:=z.out.2.1 j E;omega) (fun i hi=>by obtain⟨j,E,e⟩:=lx hi;have:=U2.out j E;omega))
   (fun i hi=>by obtain⟨j,E,e⟩:=lx hi;have:=U2.out j E;omega) (fun _=>rfl)
   (fun pre W=>oU w w.heap.size p s (fS uM blk pre.length s) W/\L.heap.size<W.heap.size) ?hI ⟨rp.out,by show L.heap.size<U.heap.size;omega⟩
   (fun x=>{tmps:= #[.agg #[.int .u32 s.a,.int .u32 s.b,.int .u32 s.c,.int .u32 s.d,.int .u32 s.e,.int .u32 s.f,.int .u32 s.g,.int .u32 s.h],.string blk,.pointer (some ⟨w.heap.size,0,none⟩),undef,.pointer (some ⟨w.heap.size+1,0,none⟩),.pointer (some ⟨w.heap.size+1+1,0,none⟩),.pointer (some ⟨p 0,0,none⟩),.pointer (some ⟨p 1,0,none⟩),.pointer (some ⟨p 2,0,none⟩),.pointer (some ⟨p 3,0,none⟩),.pointer (some ⟨p 4,0,none⟩),.pointer (some ⟨p 5,0,none⟩),.pointer (some ⟨p 6,0,none⟩),.pointer (some ⟨p 7,0,none⟩),.int .i64 x.1,.int .u32 x.2,undef,undef,undef,undef,undef,undef,.pointer (some ⟨w.heap.size,0,none⟩),.int .u32 s.a,.pointer (some ⟨w.heap.size,1,none⟩),.int .u32 s.b,.pointer (some ⟨w.heap.size,2,none⟩),.int .u32 s.c,.pointer (some ⟨w.heap.size,3,none⟩),.int .u32 s.d,.pointer (some ⟨w.heap.size,4,none⟩),.int .u32 s.e,.pointer (some ⟨w.heap.size,5,none⟩),.int .u32 s.f,.pointer (some ⟨w.heap.size,6,none⟩),.int .u32 s.g,.pointer (some ⟨w.heap.size,7,none⟩),.int .u32 s.h,.string blk,.func (.func 240) #[] #[.pointer (some ⟨L.heap.size,0,none⟩)],.int .i64 x.1,.int .u32 x.2,undef,undef,undef,undef,undef,undef,undef,undef,undef,undef,undef,undef,undef,undef,undef,undef,undef,undef,undef,undef,undef,undef,undef,undef,undef,undef,undef,undef,undef,undef,undef,undef,undef,undef,undef,undef,undef,undef,undef,undef,undef,undef,undef,undef,undef,undef,undef,undef,undef,undef,undef,undef,undef,undef,undef,undef,undef,undef,undef,undef,undef,undef,undef,undef,undef,undef,undef,undef],defers:= []}) ?assign ?body ?dn
  case hI=>
   rintro pre A B ⟨h,F⟩ A7;have:=A7.size;exact⟨h.ag (B:=U.heap.size) A7 U2.out (by omega) (by omega),by omega⟩
  case assign=>
   intro l x W bp hK;simp only[Uk];gi_wp2
   exact hK
  case body=>
   rintro l pre x W F ⟨y,eX⟩ Si;obtain⟨hk,rfl⟩:=Jm Si;obtain⟨k,SX⟩:∃k,pre.length=k:=⟨_,rfl⟩
   have Ta:=za SX;rw[SX]at y hk Si⊢;have mD:Hid (fS uM blk (k+1) s=CC (uM.getD k 0) (mF blk k) (fS uM blk k s)):=za rfl;have GC:=sH uM blk k I;obtain⟨t,ht⟩:∃t,fS uM blk k s=t:=⟨_,rfl⟩
   rw[ht]at y mD GC;obtain⟨ta,tb,tc,td,te,tf,tg,th⟩:=GC;have c6:W.cell? ⟨p 0,0,none⟩=some (.int .u32 t.a):=(y.box 0 (by omega)).cell 0;have c7:W.cell? ⟨p 1,0,none⟩=some (.int .u32 t.b):=(y.box 1 (by omega)).cell 0;have c8:W.cell? ⟨p 2,0,none⟩=some (.int .u32 t.c):=(y.box 2 (by omega)).cell 0;have c9:W.cell? ⟨p 3,0,none⟩=some (.int .u32 t.d):=(y.box 3 (by omega)).cell 0;have aR:W.cell? ⟨p 4,0,none⟩=some (.int .u32 t.e):=(y.box 4 (by omega)).cell 0;have a6:W.cell? ⟨p 5,0,none⟩=some (.int .u32 t.f):=(y.box 5 (by omega)).cell 0;have aS:W.cell? ⟨p 6,0,none⟩=some (.int .u32 t.g):=(y.box 6 (by omega)).cell 0;have aX:W.cell? ⟨p 7,0,none⟩=some (.int .u32 t.h):=(y.box 7 (by omega)).cell 0;have f6:=(y.box 0 (by omega)).frozen 0;have f7:=(y.box 1 (by omega)).frozen 0;have f8:=(y.box 2 (by omega)).frozen 0;have f9:=(y.box 3 (by omega)).frozen 0;have bH:=(y.box 4 (by omega)).frozen 0;have a':=(y.box 5 (by omega)).frozen 0;have bo:=(y.box 6 (by omega)).frozen 0;have bA:=(y.box 7 (by omega)).frozen 0;have cf:W.cell? ⟨w.heap.size+1+1,0,none⟩=some (.func (.func 222) #[] #[]):=y.fn.cell 0;have Ym:=za y;have aJ:=za (F1 t.e t.f t.g te tf tg);have aI:=za (NI t.a t.b t.c ta tb tc);have aN:=za (fun w=>WY k w hk);have bQ:=za (fun w=>XI t.e w te);have ee:=za (fun w=>XJ t.a w ta);clear ht y SX Si;generalize mF blk k=wk at*;generalize uM.getD k 0=kc at*;gi_wp2
   rw[aJ.out,aI.out];have N7:Hid (CC kc wk t=⟨(((t.h+Sg1 t.e+kc+wk+El t.e t.f t.g)%4294967296)+((Sg0 t.a+uJ t.a t.b t.c)%4294967296))%4294967296,t.a,t.b,t.c,(t.d+(t.h+Sg1 t.e+kc+wk+El t.e t.f t.g)%4294967296)%4294967296,t.e,t.f,t.g⟩):=za rfl;clear aJ aI;generalize El t.e t.f t.g=cv at*;generalize uJ t.a t.b t.c=mv at*;generalize Sg1 t.e=g1 at*;generalize Sg0 t.a=g0 at*;refine kL l (by kernel_rfl) (by kernel_rfl) (by kernel_rfl) ?_;repeat(go_big_quiet_step (first|(with_reducible exact Calls.fq (bQ.out _))|(with_reducible exact Calls.quiet_of (aN.out _))))
   refine xg ?_;intro nq;obtain⟨pv,LG⟩:∃pv,(t.h+g1+kc+wk+cv)%4294967296=pv:=⟨_,rfl⟩
   have aL:Hid ((((t.h:Int)+g1+kc+wk)%4294967296+cv)%4294967296=(pv:Int)):=za (by omega);have GQ:pv<4294967296:=by omega
   rw[LG]at N7;clear LG;rw[aL.out];clear aL aN bQ;gi_wp2_with fail
   refine⟨trivial,(CallsIn.inRound l (Z7.2 (ee.out _))).mono ?_⟩;rintro e w' ⟨rfl,rfl⟩;have bF:(p 0=p 1)=False:=yG (z.out.2.2 0 1 (by omega) (by omega) (by omega));have bI:(p 0=p 2)=False:=yG (z.out.2.2 0 2 (by omega) (by omega) (by omega));have bB:(p 0=p 3)=False:=yG (z.out.2.2 0 3 (by omega) (by omega) (by omega));have bl:(p 0=p 4)=False:=yG (z.out.2.2 0 4 (by omega) (by omega) (by omega));have bm:(p 0=p 5)=False:=yG (z.out.2.2 0 5 (by omega) (by omega) (by omega));have bs:(p 0=p 6)=False:=yG (z.out.2.2 0 6 (by omega) (by omega) (by omega));have bL:(p 0=p 7)=False:=yG (z.out.2.2 0 7 (by omega) (by omega) (by omega));have bb:(p 1=p 2)=False:=yG (z.out.2.2 1 2 (by omega) (by omega) (by omega));have bJ:(p 1=p 3)=False:=yG (z.out.2.2 1 3 (by omega) (by omega) (by omega));have bw:(p 1=p 4)=False:=yG (z.out.2.2 1 4 (by omega) (by omega) (by omega));have bx:(p 1=p 5)=False:=yG (z.out.2.2 1 5 (by omega) (by omega) (by omega));have bt:(p 1=p 6)=False:=yG (z.out.2.2 1 6 (by omega) (by omega) (by omega));have bC:(p 1=p 7)=False:=yG (z.out.2.2 1 7 (by omega) (by omega) (by omega));have bG:(p 2=p 3)=False:=yG (z.out.2.2 2 3 (by omega) (by omega) (by omega));have br:(p 2=p 4)=False:=yG (z.out.2.2 2 4 (by omega) (by omega) (by omega));have bc:(p 2=p 5)=False:=yG (z.out.2.2 2 5 (by omega) (by omega) (by omega));have bz:(p 2=p 6)=False:=yG (z.out.2.2 2 6 (by omega) (by omega) (by omega));have bk:(p 2=p 7)=False:=yG (z.out.2.2 2 7 (by omega) (by omega) (by omega))
   have bD:(p 3=p 4)=False:=yG (z.out.2.2 3 4 (by omega) (by omega) (by omega));have bh:(p 3=p 5)=False:=yG (z.out.2.2 3 5 (by omega) (by omega) (by omega));have bg:(p 3=p 6)=False:=yG (z.out.2.2 3 6 (by omega) (by omega) (by omega));have bn:(p 3=p 7)=False:=yG (z.out.2.2 3 7 (by omega) (by omega) (by omega));have bq:(p 4=p 5)=False:=yG (z.out.2.2 4 5 (by omega) (by omega) (by omega));have bj:(p 4=p 6)=False:=yG (z.out.2.2 4 6 (by omega) (by omega) (by omega));have bd:(p 4=p 7)=False:=yG (z.out.2.2 4 7 (by omega) (by omega) (by omega));have bu:(p 5=p 6)=False:=yG (z.out.2.2 5 6 (by omega) (by omega) (by omega));have bK:(p 5=p 7)=False:=yG (z.out.2.2 5 7 (by omega) (by omega) (by omega));have bf:(p 6=p 7)=False:=yG (z.out.2.2 6 7 (by omega) (by omega) (by omega));obtain⟨av,aH⟩:∃av,(pv+(g0+mv)%4294967296)%4294967296=av:=⟨_,rfl⟩
   obtain⟨ev,aK⟩:∃ev,(t.d+pv)%4294967296=ev:=⟨_,rfl⟩
   have a1:Hid (((pv:Int)+((g0:Int)+mv))%4294967296=(av:Int)):=za (by omega);have a7:Hid (((t.d:Int)+pv)%4294967296=(ev:Int)):=za (by omega);rw[aH,aK]at N7;clear aH aK;gi_wp2
   rw[a1.out,a7.out,Ta.out,mD.out,N7.out];have hq:oU w w.heap.size p s t (W.drewN nq):=Ym.out.ag (B:=W.heap.size) ((zm _ W).bs nq) (fun j E=>by have:=U2.out j E;omega) (by omega) (by omega);exact⟨((ae.refl (boxes p) W).drewN nq).trans (tt (W.drewN nq) p ⟨av,t.a,t.b,t.c,ev,t.e,t.f,t.g⟩),hq.put _ (fun j E=>by have:=z.out.1 j E;omega) (fun j E=>by have:=z.out.1 j E;omega) z.out.2.2⟩
  case dn=>
   rintro aa W hD ⟨y,eX⟩ hK;have Lh:(cY blk 64).length=64:=by simp[cY]
   rw[Lh]at y;have aw:=aZ;have GC:=sH uM blk 64 I;obtain⟨t,ht⟩:∃t,fS uM blk 64 s=t:=⟨_,rfl⟩
   rw[ht]at y aw GC;obtain⟨ta,tb,tc,td,te,tf,tg,th⟩:=GC;obtain⟨sa,sb,sc,sd,se,sf,sg,sh⟩:=I;have c6:W.cell? ⟨p 0,0,none⟩=some (.int .u32 t.a):=(y.box 0 (by omega)).cell 0;have c7:W.cell? ⟨p 1,0,none⟩=some (.int .u32 t.b):=(y.box 1 (by omega)).cell 0;have c8:W.cell? ⟨p 2,0,none⟩=some (.int .u32 t.c):=(y.box 2 (by omega)).cell 0;have c9:W.cell? ⟨p 3,0,none⟩=some (.int .u32 t.d):=(y.box 3 (by omega)).cell 0;have aR:W.cell? ⟨p 4,0,none⟩=some (.int .u32 t.e):=(y.box 4 (by omega)).cell 0;have a6:W.cell? ⟨p 5,0,none⟩=some (.int .u32 t.f):=(y.box 5 (by omega)).cell 0;have aS:W.cell? ⟨p 6,0,none⟩=some (.int .u32 t.g):=(y.box 6 (by omega)).cell 0;have aX:W.cell? ⟨p 7,0,none⟩=some (.int .u32 t.h):=(y.box 7 (by omega)).cell 0;have Ym:=za y;have aQ:=za hK;have R:Hid (w.heap.size+1<aa):=za (by omega);clear y ht hK;gi_wp2
   gi_loopw [98] (fun i wr=>jX w w.heap.size aa s t i wr) (fun i _=>8-(intOf i).toNat)
   case atStart=>exact⟨0,by omega,rfl,Ym.out.sta,Ym.out.res,Ym.out.only,aQ.out⟩
   case round=>
    obtain⟨k,hk,rfl,c,J,kN,ab⟩:=hrel.ex;have S:=za J;have Z:=za kN;have X:=za ab;by_cases ba:k<8
    ·clear J kN ab;have h8:k=0\/k=1\/k=2\/k=3\/k=4\/k=5\/k=6\/k=7:=by omega
     rcases h8 with rfl|rfl|rfl|rfl|rfl|rfl|rfl|rfl
     ·have q0:wr.cell? ⟨w.heap.size,0,none⟩=some (.int .u32 s.a):=c.cell 0;have q1:=c.frozen 0;have hi:∀w',(Instr.index 244 (.agg #[.int .u32 t.a,.int .u32 t.b,.int .u32 t.c,.int .u32 t.d,.int .u32 t.e,.int .u32 t.f,.int .u32 t.g,.int .u32 t.h]) (.int .i64 0)).run prog w'= .ok (.int .u32 t.a) w':=fun w'=>l9 t w' 0 (.int .u32 t.a) rfl
      have N:=za (c.set 0 (.int .u32 ((s.a+t.a)%4294967296:Nat)));clear c;gi_wp2
      go_roundw
      case rel=>exact jX.next N.out S.out Z.out X.out R.out (by omega) (by omega) rfl (by simp)
      case measure=>simp[intOf]
     ·have q0:wr.cell? ⟨w.heap.size,1,none⟩=some (.int .u32 s.b):=c.cell 1;have q1:=c.frozen 1;have hi:∀w',(Instr.index 244 (.agg #[.int .u32 t.a,.int .u32 t.b,.int .u32 t.c,.int .u32 t.d,.int .u32 t.e,.int .u32 t.f,.int .u32 t.g,.int .u32 t.h]) (.int .i64 1)).run prog w'= .ok (.int .u32 t.b) w':=fun w'=>l9 t w' 1 (.int .u32 t.b) rfl
      have N:=za (c.set 1 (.int .u32 ((s.b+t.b)%4294967296:Nat)));clear c;gi_wp2
      go_roundw
      case rel=>exact jX.next N.out S.out Z.out X.out R.out (by omega) (by omega) rfl (by simp)
      case measure=>simp[intOf]
     ·have q0:wr.cell? ⟨w.heap.size,2,none⟩=some (.int .u32 s.c):=c.cell 2;have q1:=c.frozen 2;have hi:∀w',(Instr.index 244 (.agg #[.int .u32 t.a,.int .u32 t.b,.int .u32 t.c,.int .u32 t.d,.int .u32 t.e,.int .u32 t.f,.int .u32 t.g,.int .u32 t.h]) (.int .i64 2)).run prog w'= .ok (.int .u32 t.c) w':=fun w'=>l9 t w' 2 (.int .u32 t.c) rfl
      have N:=za (c.set 2 (.int .u32 ((s.c+t.c)%4294967296:Nat)));clear c;gi_wp2
      go_roundw
      case rel=>exact jX.next N.out S.out Z.out X.out R.out (by omega) (by omega) rfl (by simp)
      case measure=>simp[intOf]
     ·have q0:wr.cell? ⟨w.heap.size,3,none⟩=some (.int .u32 s.d):=c.cell 3;have q1:=c.frozen 3;have hi:∀w',(Instr.index 244 (.agg #[.int .u32 t.a,.int .u32 t.b,.int .u32 t.c,.int .u32 t.d,.int .u32 t.e,.int .u32 t.f,.int .u32 t.g,.int .u32 t.h]) (.int .i64 3)).run prog w'= .ok (.int .u32 t.d) w':=fun w'=>l9 t w' 3 (.int .u32 t.d) rfl
      have N:=za (c.set 3 (.int .u32 ((s.d+t.d)%4294967296:Nat)));clear c;gi_wp2
      go_roundw
      case rel=>exact jX.next N.out S.out Z.out X.out R.out (by omega) (by omega) rfl (by simp)
      case measure=>simp[intOf]
     ·have q0:wr.cell? ⟨w.heap.size,4,none⟩=some (.int .u32 s.e):=c.cell 4;have q1:=c.frozen 4;have hi:∀w',(Instr.index 244 (.agg #[.int .u32 t.a,.int .u32 t.b,.int .u32 t.c,.int .u32 t.d,.int .u32 t.e,.int .u32 t.f,.int .u32 t.g,.int .u32 t.h]) (.int .i64 4)).run prog w'= .ok (.int .u32 t.e) w':=fun w'=>l9 t w' 4 (.int .u32 t.e) rfl
      have N:=za (c.set 4 (.int .u32 ((s.e+t.e)%4294967296:Nat)));clear c;gi_wp2
      go_roundw
      case rel=>exact jX.next N.out S.out Z.out X.out R.out (by omega) (by omega) rfl (by simp)
      case measure=>simp[intOf]
     ·have q0:wr.cell? ⟨w.heap.size,5,none⟩=some (.int .u32 s.f):=c.cell 5;have q1:=c.frozen 5;have hi:∀w',(Instr.index 244 (.agg #[.int .u32 t.a,.int .u32 t.b,.int .u32 t.c,.int .u32 t.d,.int .u32 t.e,.int .u32 t.f,.int .u32 t.g,.int .u32 t.h]) (.int .i64 5)).run prog w'= .ok (.int .u32 t.f) w':=fun w'=>l9 t w' 5 (.int .u32 t.f) rfl
      have N:=za (c.set 5 (.int .u32 ((s.f+t.f)%4294967296:Nat)));clear c;gi_wp2
      go_roundw
      case rel=>exact jX.next N.out S.out Z.out X.out R.out (by omega) (by omega) rfl (by simp)
      case measure=>simp[intOf]
     ·have q0:wr.cell? ⟨w.heap.size,6,none⟩=some (.int .u32 s.g):=c.cell 6;have q1:=c.frozen 6;have hi:∀w',(Instr.index 244 (.agg #[.int .u32 t.a,.int .u32 t.b,.int .u32 t.c,.int .u32 t.d,.int .u32 t.e,.int .u32 t.f,.int .u32 t.g,.int .u32 t.h]) (.int .i64 6)).run prog w'= .ok (.int .u32 t.g) w':=fun w'=>l9 t w' 6 (.int .u32 t.g) rfl
      have N:=za (c.set 6 (.int .u32 ((s.g+t.g)%4294967296:Nat)));clear c;gi_wp2
      go_roundw
      case rel=>exact jX.next N.out S.out Z.out X.out R.out (by omega) (by omega) rfl (by simp)
      case measure=>simp[intOf]
     have q0:wr.cell? ⟨w.heap.size,7,none⟩=some (.int .u32 s.h):=c.cell 7;have q1:=c.frozen 7;have hi:∀w',(Instr.index 244 (.agg #[.int .u32 t.a,.int .u32 t.b,.int .u32 t.c,.int .u32 t.d,.int .u32 t.e,.int .u32 t.f,.int .u32 t.g,.int .u32 t.h]) (.int .i64 7)).run prog w'= .ok (.int .u32 t.h) w':=fun w'=>l9 t w' 7 (.int .u32 t.h) rfl
     have N:=za (c.set 7 (.int .u32 ((s.h+t.h)%4294967296:Nat)));clear c;gi_wp2
     go_roundw
     case rel=>exact jX.next N.out S.out Z.out X.out R.out (by omega) (by omega) rfl (by simp)
     case measure=>simp[intOf]
    obtain rfl:k=8:=by omega
    obtain⟨u,hu⟩:∃u,tu 8 s t=u:=⟨_,rfl⟩
    rw[hu]at c aw;clear hu;have q0:wr.cell? ⟨w.heap.size,0,none⟩=some (.int .u32 u.a):=c.cell 0;have q1:wr.cell? ⟨w.heap.size,1,none⟩=some (.int .u32 u.b):=c.cell 1;have q2:wr.cell? ⟨w.heap.size,2,none⟩=some (.int .u32 u.c):=c.cell 2;have q3:wr.cell? ⟨w.heap.size,3,none⟩=some (.int .u32 u.d):=c.cell 3;have q4:wr.cell? ⟨w.heap.size,4,none⟩=some (.int .u32 u.e):=c.cell 4;have q5:wr.cell? ⟨w.heap.size,5,none⟩=some (.int .u32 u.f):=c.cell 5;have q6:wr.cell? ⟨w.heap.size,6,none⟩=some (.int .u32 u.g):=c.cell 6;have q7:wr.cell? ⟨w.heap.size,7,none⟩=some (.int .u32 u.h):=c.cell 7;have r0:=J.cell 0;have r1:=J.cell 1;have r2:=J.cell 2;have r3:=J.cell 3;have r4:=J.cell 4;have r5:=J.cell 5;have r6:=J.cell 6;have r7:=J.cell 7;simp at r0 r1 r2 r3 r4 r5 r6 r7;have f0:=J.frozen 0;have f1:=J.frozen 1;have f2:=J.frozen 2;have f3:=J.frozen 3;have f4:=J.frozen 4;have f5:=J.frozen 5;have f6:=J.frozen 6;have f7:=J.frozen 7;clear c J kN ab;gi_wp2
    have aO:(nM wr (w.heap.size+1) u).heap[aa]?=some (.deferred (some [])):=(F2 wr _ u aa (by have:=R.out;omega)).trans X.out;have ma:=Jn u S.out;have aV:=tv u Z.out (show w.heap.size<=w.heap.size+1 by omega);have Wj:=ma.only (iY _ aa (.deferred none)) (by have:=R.out;simp;omega);have Wk:=aV.trans' (iY _ aa (.deferred none)) (fun i hi=> .inr (by have:=R.out;simp at hi;omega));unfold nM at aO Wj Wk;refine⟨by simp,.inl ⟨_,_,rfl,run_takeDeferred aO, ?_⟩⟩;refine⟨_,XK u (g:=w.heap.size+1) rfl Wj, ?_,Wk⟩;rw[aw.out];rfl
