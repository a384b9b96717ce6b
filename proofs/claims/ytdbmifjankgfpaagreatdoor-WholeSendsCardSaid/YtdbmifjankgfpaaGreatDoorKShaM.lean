/- sha.mix: a block mixed into the state. -/
import Derived.Test.YtdbmifjankgfpaaGreatDoorKA14
set_option linter.all false
set_option maxRecDepth 100000
set_option maxHeartbeats 4000000
open Go.Proofs.Tryz
namespace Go.Proofs.YtdbmifjankgfpaaGreatDoor
open Go.RowKit Go.Shelf
attribute [local go_sem] Oper.semAt_some
def yF:=@eq_false
theorem VK (s:Sh)(I:s.ok)(blk:ByteArray)(hb:blk.size=64)(w:World):
 Calls prog 190 #[kB s,.string blk] w fun e w'=>e= .returned (kB (pY uP s blk))/\ae [] w w':=by
 obtain⟨aD,hR⟩:∃aD,pY uP s blk=aD:=⟨_,rfl⟩
 have a6:Hid (aD=tj 8 s (fM uP blk 64 s)):=za (by rw[<-hR];exact N2 s blk);rw[hR];clear hR;have HB:Hid (af (w.alloc (.cells #[.int .u32 s.a,.int .u32 s.b,.int .u32 s.c,.int .u32 s.d,.int .u32 s.e,.int .u32 s.f,.int .u32 s.g,.int .u32 s.h] 244)) w.heap.size 244 #[.int .u32 s.a,.int .u32 s.b,.int .u32 s.c,.int .u32 s.d,.int .u32 s.e,.int .u32 s.f,.int .u32 s.g,.int .u32 s.h]):=za (af.new w _ _);unfold kB;refine(Yc (n:=5)).1 ?_;refine callsIn_of_wp_marks func190 rfl trivial ?_ rfl;simp only[ntmps190,ZZ,zy,zL,Nat.reduceAdd,Nat.reduceSub,Array.replicate_succ,Array.replicate_zero,List.push_toArray,List.append_toArray,yx,zP];gi_upto_region 2 with(fail)
 obtain⟨d,ca⟩:∃d,((w.alloc (.cells #[.int .u32 s.a,.int .u32 s.b,.int .u32 s.c,.int .u32 s.d,.int .u32 s.e,.int .u32 s.f,.int .u32 s.g,.int .u32 s.h] 244)).alloc (.cells #[.int .u32 0,.int .u32 0,.int .u32 0,.int .u32 0,.int .u32 0,.int .u32 0,.int .u32 0,.int .u32 0] 244)).alloc (.cells #[.func (.func 222) #[] #[]] 268)=d:=⟨_,rfl⟩
 have jU:Hid (af d w.heap.size 244 #[.int .u32 s.a,.int .u32 s.b,.int .u32 s.c,.int .u32 s.d,.int .u32 s.e,.int .u32 s.f,.int .u32 s.g,.int .u32 s.h]):=za (by rw[<-ca];exact(HB.out.alloc _).alloc _);have aY:Hid (af d (w.heap.size+1) 244 #[.int .u32 0,.int .u32 0,.int .u32 0,.int .u32 0,.int .u32 0,.int .u32 0,.int .u32 0,.int .u32 0]):=za (by
  rw[<-ca];refine af.alloc ?_ _;have:=af.new (w.alloc (.cells #[.int .u32 s.a,.int .u32 s.b,.int .u32 s.c,.int .u32 s.d,.int .u32 s.e,.int .u32 s.f,.int .u32 s.g,.int .u32 s.h] 244)) 244 #[.int .u32 0,.int .u32 0,.int .u32 0,.int .u32 0,.int .u32 0,.int .u32 0,.int .u32 0,.int .u32 0];rwa [zp]at this)
 have tY:Hid (af d (w.heap.size+2) 268 #[.func (.func 222) #[] #[]]):=za (by
  rw[<-ca];have:=af.new ((w.alloc (.cells #[.int .u32 s.a,.int .u32 s.b,.int .u32 s.c,.int .u32 s.d,.int .u32 s.e,.int .u32 s.f,.int .u32 s.g,.int .u32 s.h] 244)).alloc (.cells #[.int .u32 0,.int .u32 0,.int .u32 0,.int .u32 0,.int .u32 0,.int .u32 0,.int .u32 0,.int .u32 0] 244)) 268 #[.func (.func 222) #[] #[]];simp only[zp]at this;exact this)
 have aP:Hid (ae [] w d):=za (by rw[<-ca];exact(((ae.refl [] w).alloc _).alloc _).alloc _);have Bk:Hid (d.heap.size=w.heap.size+3):=za (by rw[<-ca];simp);rw[ca];clear ca HB;refine wpIn_wide.2 ?_;refine AF (by kernel_rfl) (by kernel_rfl) (agC s blk w.heap.size d.drew) ?start ?step ?done;case start=>exact⟨fun _=>undef,0,fun _=>0,rfl,MJ.start _ _ _ _ _⟩
 case step=>
  have Wz:Hid (af d.drew w.heap.size 244 #[.int .u32 s.a,.int .u32 s.b,.int .u32 s.c,.int .u32 s.d,.int .u32 s.e,.int .u32 s.f,.int .u32 s.g,.int .u32 s.h]):=jU;have ma:Hid (w.heap.size<d.drew.heap.size):=za (by have:=Bk.out;show w.heap.size<d.heap.size;omega);rintro listed a w' i hi ⟨x,m,q,rfl,b⟩ hr;obtain⟨l8,o,K,C⟩:=Zu.1 hr;clear hr;have aV:i=0\/i=1\/i=2\/i=3\/i=4\/i=5\/i=6\/i=7\/i=8\/i=9\/i=10\/i=11\/i=12\/i=13\/i=14\/i=15\/i=16\/i=17\/i=18\/i=19\/i=20\/i=21\/i=22\/i=23\/i=24\/i=25\/i=26\/i=27\/i=28\/i=29\/i=30\/i=31:=by simp at hi;omega
  rcases aV with rfl|rfl|rfl|rfl|rfl|rfl|rfl|rfl|rfl|rfl|rfl|rfl|rfl|rfl|rfl|rfl|rfl|rfl|rfl|rfl|rfl|rfl|rfl|rfl|rfl|rfl|rfl|rfl|rfl|rfl|rfl|rfl
  ·refine aS rfl rfl ?_;unfold bG;go_simp;exact⟨ll x 22 _,m,q,rfl,b.addr 0 (by omega)⟩
  ·obtain rfl:=yg K;have hx:=b.ad 0 (by omega) (C ⟨0,.data⟩ (by simp) rfl);simp only[Nat.reduceMul,Nat.reduceAdd]at hx;have G:=af.cell ((b.bl.block _ ma.out).trans Wz.out) 0;refine aS rfl rfl ?_;unfold bG;simp at G;simp only[hx];go_simp;refine⟨_,m,q, ?_,b.load 0 (by omega)⟩;simp[bG,ll,hx,dM,Sh.list]
  ·refine aS rfl rfl ?_;unfold bG;go_simp;exact⟨ll x 24 _,m,q,rfl,b.addr 1 (by omega)⟩
  ·obtain rfl:=yg K;have hx:=b.ad 1 (by omega) (C ⟨2,.data⟩ (by simp) rfl);simp only[Nat.reduceMul,Nat.reduceAdd]at hx;have G:=af.cell ((b.bl.block _ ma.out).trans Wz.out) 1;refine aS rfl rfl ?_;unfold bG;simp at G;simp only[hx];go_simp;refine⟨_,m,q, ?_,b.load 1 (by omega)⟩;simp[bG,ll,hx,dM,Sh.list]
  ·refine aS rfl rfl ?_;unfold bG;go_simp;exact⟨ll x 26 _,m,q,rfl,b.addr 2 (by omega)⟩
  ·obtain rfl:=yg K;have hx:=b.ad 2 (by omega) (C ⟨4,.data⟩ (by simp) rfl);simp only[Nat.reduceMul,Nat.reduceAdd]at hx;have G:=af.cell ((b.bl.block _ ma.out).trans Wz.out) 2;refine aS rfl rfl ?_;unfold bG;simp at G;simp only[hx];go_simp;refine⟨_,m,q, ?_,b.load 2 (by omega)⟩;simp[bG,ll,hx,dM,Sh.list]
  ·refine aS rfl rfl ?_;unfold bG;go_simp;exact⟨ll x 28 _,m,q,rfl,b.addr 3 (by omega)⟩
  ·obtain rfl:=yg K;have hx:=b.ad 3 (by omega) (C ⟨6,.data⟩ (by simp) rfl);simp only[Nat.reduceMul,Nat.reduceAdd]at hx;have G:=af.cell ((b.bl.block _ ma.out).trans Wz.out) 3;refine aS rfl rfl ?_;unfold bG;simp at G;simp only[hx];go_simp;refine⟨_,m,q, ?_,b.load 3 (by omega)⟩;simp[bG,ll,hx,dM,Sh.list]
  ·refine aS rfl rfl ?_;unfold bG;go_simp;exact⟨ll x 30 _,m,q,rfl,b.addr 4 (by omega)⟩
  ·obtain rfl:=yg K;have hx:=b.ad 4 (by omega) (C ⟨8,.data⟩ (by simp) rfl);simp only[Nat.reduceMul,Nat.reduceAdd]at hx;have G:=af.cell ((b.bl.block _ ma.out).trans Wz.out) 4;refine aS rfl rfl ?_;unfold bG;simp at G;simp only[hx];go_simp;refine⟨_,m,q, ?_,b.load 4 (by omega)⟩;simp[bG,ll,hx,dM,Sh.list]
  ·refine aS rfl rfl ?_;unfold bG;go_simp;exact⟨ll x 32 _,m,q,rfl,b.addr 5 (by omega)⟩
  ·obtain rfl:=yg K;have hx:=b.ad 5 (by omega) (C ⟨10,.data⟩ (by simp) rfl);simp only[Nat.reduceMul,Nat.reduceAdd]at hx;have G:=af.cell ((b.bl.block _ ma.out).trans Wz.out) 5;refine aS rfl rfl ?_;unfold bG;simp at G;simp only[hx];go_simp;refine⟨_,m,q, ?_,b.load 5 (by omega)⟩;simp[bG,ll,hx,dM,Sh.list]
  ·refine aS rfl rfl ?_;unfold bG;go_simp;exact⟨ll x 34 _,m,q,rfl,b.addr 6 (by omega)⟩
  ·obtain rfl:=yg K;have hx:=b.ad 6 (by omega) (C ⟨12,.data⟩ (by simp) rfl);simp only[Nat.reduceMul,Nat.reduceAdd]at hx;have G:=af.cell ((b.bl.block _ ma.out).trans Wz.out) 6;refine aS rfl rfl ?_;unfold bG;simp at G;simp only[hx];go_simp;refine⟨_,m,q, ?_,b.load 6 (by omega)⟩;simp[bG,ll,hx,dM,Sh.list]
  ·refine aS rfl rfl ?_;unfold bG;go_simp;exact⟨ll x 36 _,m,q,rfl,b.addr 7 (by omega)⟩
  ·obtain rfl:=yg K;have hx:=b.ad 7 (by omega) (C ⟨14,.data⟩ (by simp) rfl);simp only[Nat.reduceMul,Nat.reduceAdd]at hx;have G:=af.cell ((b.bl.block _ ma.out).trans Wz.out) 7;refine aS rfl rfl ?_;unfold bG;simp at G;simp only[hx];go_simp;refine⟨_,m,q, ?_,b.load 7 (by omega)⟩;simp[bG,ll,hx,dM,Sh.list]
  ·refine aS rfl rfl ?_;unfold bG;go_simp;exact⟨ll x 6 _,m+1,_,rfl,b.alloc 0 (by omega) (Zj l8)⟩
  ·refine aS rfl rfl ?_;unfold bG;go_simp;exact⟨ll x 7 _,m+1,_,rfl,b.alloc 1 (by omega) (Zj l8)⟩
  ·refine aS rfl rfl ?_;unfold bG;go_simp;exact⟨ll x 8 _,m+1,_,rfl,b.alloc 2 (by omega) (Zj l8)⟩
  ·refine aS rfl rfl ?_;unfold bG;go_simp;exact⟨ll x 9 _,m+1,_,rfl,b.alloc 3 (by omega) (Zj l8)⟩
  ·refine aS rfl rfl ?_;unfold bG;go_simp;exact⟨ll x 10 _,m+1,_,rfl,b.alloc 4 (by omega) (Zj l8)⟩
  ·refine aS rfl rfl ?_;unfold bG;go_simp;exact⟨ll x 11 _,m+1,_,rfl,b.alloc 5 (by omega) (Zj l8)⟩
  ·refine aS rfl rfl ?_;unfold bG;go_simp;exact⟨ll x 12 _,m+1,_,rfl,b.alloc 6 (by omega) (Zj l8)⟩
  ·refine aS rfl rfl ?_;unfold bG;go_simp;exact⟨ll x 13 _,m+1,_,rfl,b.alloc 7 (by omega) (Zj l8)⟩
  ·obtain rfl:=yg K;have F:=C ⟨16,.data⟩ (by simp) rfl;obtain⟨hx,hq,D⟩:=b.al 0 (by omega) F;have r:=b.ld 0 (by omega) (C ⟨1,.data⟩ (by simp) rfl);have I:=za (b.store 0 (by omega) F);simp only[Nat.reduceMul,Nat.reduceAdd]at hx r D;replace hx:x 6= .pointer (some ⟨d.heap.size+q 0,0,none⟩):=hx;obtain⟨H,G⟩:∃H,w'.cell? ⟨d.heap.size+q 0,0,none⟩=some H:=⟨_,D.cell 0⟩
   have f0:w'.frozen? ⟨d.heap.size+q 0,0,none⟩=false:=D.frozen 0;have M:s.list.getD 0 0=s.a:=rfl;rw[M,dM]at r;refine aS rfl rfl ?_;unfold bG;simp only[hx,r];go_simp;refine⟨x,m,q, ?_,I.out⟩;simp[bG,hx,r]
  ·obtain rfl:=yg K;have F:=C ⟨17,.data⟩ (by simp) rfl;obtain⟨hx,hq,D⟩:=b.al 1 (by omega) F;have r:=b.ld 1 (by omega) (C ⟨3,.data⟩ (by simp) rfl);have I:=za (b.store 1 (by omega) F);simp only[Nat.reduceMul,Nat.reduceAdd]at hx r D;replace hx:x 7= .pointer (some ⟨d.heap.size+q 1,0,none⟩):=hx;obtain⟨H,G⟩:∃H,w'.cell? ⟨d.heap.size+q 1,0,none⟩=some H:=⟨_,D.cell 0⟩
   have f0:w'.frozen? ⟨d.heap.size+q 1,0,none⟩=false:=D.frozen 0;have M:s.list.getD 1 0=s.b:=rfl;rw[M,dM]at r;refine aS rfl rfl ?_;unfold bG;simp only[hx,r];go_simp;refine⟨x,m,q, ?_,I.out⟩;simp[bG,hx,r]
  ·obtain rfl:=yg K;have F:=C ⟨18,.data⟩ (by simp) rfl;obtain⟨hx,hq,D⟩:=b.al 2 (by omega) F;have r:=b.ld 2 (by omega) (C ⟨5,.data⟩ (by simp) rfl);have I:=za (b.store 2 (by omega) F);simp only[Nat.reduceMul,Nat.reduceAdd]at hx r D;replace hx:x 8= .pointer (some ⟨d.heap.size+q 2,0,none⟩):=hx;obtain⟨H,G⟩:∃H,w'.cell? ⟨d.heap.size+q 2,0,none⟩=some H:=⟨_,D.cell 0⟩
   have f0:w'.frozen? ⟨d.heap.size+q 2,0,none⟩=false:=D.frozen 0;have M:s.list.getD 2 0=s.c:=rfl;rw[M,dM]at r;refine aS rfl rfl ?_;unfold bG;simp only[hx,r];go_simp;refine⟨x,m,q, ?_,I.out⟩;simp[bG,hx,r]
  ·obtain rfl:=yg K;have F:=C ⟨19,.data⟩ (by simp) rfl;obtain⟨hx,hq,D⟩:=b.al 3 (by omega) F;have r:=b.ld 3 (by omega) (C ⟨7,.data⟩ (by simp) rfl);have I:=za (b.store 3 (by omega) F);simp only[Nat.reduceMul,Nat.reduceAdd]at hx r D;replace hx:x 9= .pointer (some ⟨d.heap.size+q 3,0,none⟩):=hx;obtain⟨H,G⟩:∃H,w'.cell? ⟨d.heap.size+q 3,0,none⟩=some H:=⟨_,D.cell 0⟩
   have f0:w'.frozen? ⟨d.heap.size+q 3,0,none⟩=false:=D.frozen 0;have M:s.list.getD 3 0=s.d:=rfl;rw[M,dM]at r;refine aS rfl rfl ?_;unfold bG;simp only[hx,r];go_simp;refine⟨x,m,q, ?_,I.out⟩;simp[bG,hx,r]
  ·obtain rfl:=yg K;have F:=C ⟨20,.data⟩ (by simp) rfl;obtain⟨hx,hq,D⟩:=b.al 4 (by omega) F;have r:=b.ld 4 (by omega) (C ⟨9,.data⟩ (by simp) rfl);have I:=za (b.store 4 (by omega) F);simp only[Nat.reduceMul,Nat.reduceAdd]at hx r D;replace hx:x 10= .pointer (some ⟨d.heap.size+q 4,0,none⟩):=hx;obtain⟨H,G⟩:∃H,w'.cell? ⟨d.heap.size+q 4,0,none⟩=some H:=⟨_,D.cell 0⟩
   have f0:w'.frozen? ⟨d.heap.size+q 4,0,none⟩=false:=D.frozen 0;have M:s.list.getD 4 0=s.e:=rfl;rw[M,dM]at r;refine aS rfl rfl ?_;unfold bG;simp only[hx,r];go_simp;refine⟨x,m,q, ?_,I.out⟩;simp[bG,hx,r]
  ·obtain rfl:=yg K;have F:=C ⟨21,.data⟩ (by simp) rfl;obtain⟨hx,hq,D⟩:=b.al 5 (by omega) F;have r:=b.ld 5 (by omega) (C ⟨11,.data⟩ (by simp) rfl);have I:=za (b.store 5 (by omega) F);simp only[Nat.reduceMul,Nat.reduceAdd]at hx r D;replace hx:x 11= .pointer (some ⟨d.heap.size+q 5,0,none⟩):=hx;obtain⟨H,G⟩:∃H,w'.cell? ⟨d.heap.size+q 5,0,none⟩=some H:=⟨_,D.cell 0⟩
   have f0:w'.frozen? ⟨d.heap.size+q 5,0,none⟩=false:=D.frozen 0;have M:s.list.getD 5 0=s.f:=rfl;rw[M,dM]at r;refine aS rfl rfl ?_;unfold bG;simp only[hx,r];go_simp;refine⟨x,m,q, ?_,I.out⟩;simp[bG,hx,r]
  ·obtain rfl:=yg K;have F:=C ⟨22,.data⟩ (by simp) rfl;obtain⟨hx,hq,D⟩:=b.al 6 (by omega) F;have r:=b.ld 6 (by omega) (C ⟨13,.data⟩ (by simp) rfl);have I:=za (b.store 6 (by omega) F);simp only[Nat.reduceMul,Nat.reduceAdd]at hx r D;replace hx:x 12= .pointer (some ⟨d.heap.size+q 6,0,none⟩):=hx;obtain⟨H,G⟩:∃H,w'.cell? ⟨d.heap.size+q 6,0,none⟩=some H:=⟨_,D.cell 0⟩
   have f0:w'.frozen? ⟨d.heap.size+q 6,0,none⟩=false:=D.frozen 0;have M:s.list.getD 6 0=s.g:=rfl;rw[M,dM]at r;refine aS rfl rfl ?_;unfold bG;simp only[hx,r];go_simp;refine⟨x,m,q, ?_,I.out⟩;simp[bG,hx,r]
  obtain rfl:=yg K;have F:=C ⟨23,.data⟩ (by simp) rfl;obtain⟨hx,hq,D⟩:=b.al 7 (by omega) F;have r:=b.ld 7 (by omega) (C ⟨15,.data⟩ (by simp) rfl);have I:=za (b.store 7 (by omega) F);simp only[Nat.reduceMul,Nat.reduceAdd]at hx r D;replace hx:x 13= .pointer (some ⟨d.heap.size+q 7,0,none⟩):=hx;obtain⟨H,G⟩:∃H,w'.cell? ⟨d.heap.size+q 7,0,none⟩=some H:=⟨_,D.cell 0⟩
  have f0:w'.frozen? ⟨d.heap.size+q 7,0,none⟩=false:=D.frozen 0;have M:s.list.getD 7 0=s.h:=rfl;rw[M,dM]at r;refine aS rfl rfl ?_;unfold bG;simp only[hx,r];go_simp;refine⟨x,m,q, ?_,I.out⟩;simp[bG,hx,r]
 case done=>
  rintro listed a N C ⟨x,m,q,rfl,b⟩;obtain⟨p,hp⟩:∃p:Nat->Nat,p=fun j=>d.heap.size+q j:=⟨_,rfl⟩
  have O:∀j,j<8->x (6+j)= .pointer (some ⟨p j,0,none⟩)/\af N (p j) 22 #[dM (s.list.getD j 0)]/\d.heap.size<=p j/\p j<N.heap.size:=by
   intro j E;obtain⟨e1,e2,e3⟩:=b.al j E (C _ (by simp;omega));rw[zi (C _ (by simp;omega))]at e3;subst hp;exact⟨e1,e3,Nat.le_add_right _ _,e3.lt⟩
  have cF:∀i j,i<8->j<8->i≠j->p i≠p j:=by
   intro i j hi E aQ e;subst hp;exact b.ne i j hi E (C _ (by simp;omega)) (C _ (by simp;omega)) aQ (by simpa using e)
  have U:∀j,j<8->x (22+2*j)= .pointer (some ⟨w.heap.size,j,none⟩):=fun j E=>b.ad j E (C _ (by simp;omega))
  have S:∀j,j<8->x (23+2*j)=dM (s.list.getD j 0):=fun j E=>b.ld j E (C _ (by simp;omega))
  have hM:oR w w.heap.size p s s N:=⟨fun j E=>(O j E).2.1,(b.bl.block _ (by have:=Bk.out;show _<d.heap.size;omega)).trans jU.out,(b.bl.block _ (by have:=Bk.out;show _<d.heap.size;omega)).trans aY.out,(b.bl.block _ (by have:=Bk.out;show _<d.heap.size;omega)).trans tY.out,
   aP.out.trans ⟨b.bl.os,b.bl.tape,b.bl.output,b.bl.size,fun k hk _=>b.bl.block k hk⟩⟩
  have aJ:∀j,j<8->w.heap.size+3<=p j:=fun j E=>by have:=(O j E).2.2.1;have:=Bk.out;omega
  have A9:∀j,j<8->p j<N.heap.size:=fun j E=>(O j E).2.2.2
  have x6:=(O 0 (by omega)).1;have x7:=(O 1 (by omega)).1;have x8:=(O 2 (by omega)).1;have x9:=(O 3 (by omega)).1;have al:=(O 4 (by omega)).1;have aw:=(O 5 (by omega)).1;have aq:=(O 6 (by omega)).1;have ai:=(O 7 (by omega)).1;have ag:=U 0 (by omega);have ab:=U 1 (by omega);have aA:=U 2 (by omega);have aF:=U 3 (by omega);have aE:=U 4 (by omega);have ar:=U 5 (by omega);have aB:=U 6 (by omega);have ao:=U 7 (by omega);have an:=S 0 (by omega);have aj:=S 1 (by omega);have ak:=S 2 (by omega);have au:=S 3 (by omega);have ay:=S 4 (by omega);have az:=S 5 (by omega);have ad:=S 6 (by omega);have aC:=S 7 (by omega);simp only[Nat.reduceMul,Nat.reduceAdd,yU,dM,Sh.list,ZJ,List.getD_cons_succ]at x6 x7 x8 x9 al aw aq ai ag ab aA aF aE ar aB ao an aj ak au ay az ad aC;unfold bG;simp only[x6,x7,x8,x9,al,aw,aq,ai,ag,ab,aA,aF,aE,ar,aB,ao,an,aj,ak,au,ay,az,ad,aC,kB];clear x6 x7 x8 x9 al aw aq ai ag ab aA aF aE ar aB ao an aj ak au ay az ad aC O U S b hp C;have HM:=za hM;have z:=za (And.intro aJ (And.intro A9 cF));clear hM aJ A9 cF;gi_wp2_with fail
  refine⟨trivial,(Yc.2 (Q8 blk _)).mono ?_⟩;rintro e w2 ⟨rfl,rfl⟩;gi_wp2_with fail
  obtain⟨Y,mL⟩:∃Y,N.alloc (.cells #[.string blk] 9)=Y:=⟨_,rfl⟩
  have cE:Y.heap.size=N.heap.size+1:=by rw[<-mL];simp
  have aT:Y.cell? ⟨N.heap.size,0,none⟩=some (.string blk):=by rw[<-mL];exact(af.new N 9 #[.string blk]).cell 0
  have oW:Hid (oR w w.heap.size p s s Y):=za (HM.out.ag (B:=N.heap.size) (by rw[<-mL];exact(zl _ N).alloc (zg _) _) z.out.2.1 (by have:=HM.out.fn.lt;omega) HM.out.only.size);rw[mL];have mu:=HM.out.fn.lt;have aH:∀j,j<8->p j<Y.heap.size:=fun j E=>by have:=z.out.2.1 j E;omega
  have U':=za aH;clear mL aH;refine wF rfl (by omega) (gf:=240) (lb:= #[.pointer (some ⟨N.heap.size,0,none⟩)]) rfl trivial (enters_of func240 (by kernel_rfl) rfl)
   (JB _ blk hb Y N.heap.size (boxes p) aT (by omega) (fun h=>by obtain⟨j,E,e⟩:=lD h;have:=z.out.2.1 j E;omega) (fun i hi=>by obtain⟨j,E,e⟩:=lD hi;have:=U'.out j E;omega))
   (fun i hi=>by obtain⟨j,E,e⟩:=lD hi;have:=U'.out j E;omega) (fun _=>rfl)
   (fun pre W=>oR w w.heap.size p s (fM uP blk pre.length s) W/\N.heap.size<W.heap.size) ?hI ⟨oW.out,by show N.heap.size<Y.heap.size;omega⟩
   (fun x=>{tmps:= #[.agg #[.int .u32 s.a,.int .u32 s.b,.int .u32 s.c,.int .u32 s.d,.int .u32 s.e,.int .u32 s.f,.int .u32 s.g,.int .u32 s.h],.string blk,.pointer (some ⟨w.heap.size,0,none⟩),undef,.pointer (some ⟨w.heap.size+1,0,none⟩),.pointer (some ⟨w.heap.size+1+1,0,none⟩),.pointer (some ⟨p 0,0,none⟩),.pointer (some ⟨p 1,0,none⟩),.pointer (some ⟨p 2,0,none⟩),.pointer (some ⟨p 3,0,none⟩),.pointer (some ⟨p 4,0,none⟩),.pointer (some ⟨p 5,0,none⟩),.pointer (some ⟨p 6,0,none⟩),.pointer (some ⟨p 7,0,none⟩),.int .i64 x.1,.int .u32 x.2,undef,undef,undef,undef,undef,undef,.pointer (some ⟨w.heap.size,0,none⟩),.int .u32 s.a,.pointer (some ⟨w.heap.size,1,none⟩),.int .u32 s.b,.pointer (some ⟨w.heap.size,2,none⟩),.int .u32 s.c,.pointer (some ⟨w.heap.size,3,none⟩),.int .u32 s.d,.pointer (some ⟨w.heap.size,4,none⟩),.int .u32 s.e,.pointer (some ⟨w.heap.size,5,none⟩),.int .u32 s.f,.pointer (some ⟨w.heap.size,6,none⟩),.int .u32 s.g,.pointer (some ⟨w.heap.size,7,none⟩),.int .u32 s.h,.string blk,.func (.func 240) #[] #[.pointer (some ⟨N.heap.size,0,none⟩)],.int .i64 x.1,.int .u32 x.2,undef,undef,undef,undef,undef,undef,undef,undef,undef,undef,undef,undef,undef,undef,undef,undef,undef,undef,undef,undef,undef,undef,undef,undef,undef,undef,undef,undef,undef,undef,undef,undef,undef,undef,undef,undef,undef,undef,undef,undef,undef,undef,undef,undef,undef,undef,undef,undef,undef,undef,undef,undef,undef,undef,undef,undef,undef,undef,undef,undef,undef,undef,undef,undef,undef,undef,undef,undef],defers:= []}) ?assign ?body ?dn
  case hI=>
   rintro pre A B ⟨h,F⟩ wR;have:=wR.size;exact⟨h.ag (B:=Y.heap.size) wR U'.out (by omega) (by omega),by omega⟩
  case assign=>
   intro l x W bJ hK;simp only[Up];gi_wp2
   exact hK
  case body=>
   rintro l pre x W F ⟨y,fG⟩ Sx;obtain⟨hk,rfl⟩:=JD Sx;obtain⟨k,OV⟩:∃k,pre.length=k:=⟨_,rfl⟩
   have Tg:=za OV;rw[OV]at y hk Sx⊢;have pJ:Hid (fM uP blk (k+1) s=CB (uP.getD k 0) (mA blk k) (fM uP blk k s)):=za rfl;have G1:=sB uP blk k I;obtain⟨t,ht⟩:∃t,fM uP blk k s=t:=⟨_,rfl⟩
   rw[ht]at y pJ G1;obtain⟨ta,tb,tc,td,te,tf,tg,th⟩:=G1;have c6:W.cell? ⟨p 0,0,none⟩=some (.int .u32 t.a):=(y.box 0 (by omega)).cell 0;have c7:W.cell? ⟨p 1,0,none⟩=some (.int .u32 t.b):=(y.box 1 (by omega)).cell 0;have c8:W.cell? ⟨p 2,0,none⟩=some (.int .u32 t.c):=(y.box 2 (by omega)).cell 0;have c9:W.cell? ⟨p 3,0,none⟩=some (.int .u32 t.d):=(y.box 3 (by omega)).cell 0;have aZ:W.cell? ⟨p 4,0,none⟩=some (.int .u32 t.e):=(y.box 4 (by omega)).cell 0;have aX:W.cell? ⟨p 5,0,none⟩=some (.int .u32 t.f):=(y.box 5 (by omega)).cell 0;have a8:W.cell? ⟨p 6,0,none⟩=some (.int .u32 t.g):=(y.box 6 (by omega)).cell 0;have a7:W.cell? ⟨p 7,0,none⟩=some (.int .u32 t.h):=(y.box 7 (by omega)).cell 0;have f6:=(y.box 0 (by omega)).frozen 0;have f7:=(y.box 1 (by omega)).frozen 0;have f8:=(y.box 2 (by omega)).frozen 0;have f9:=(y.box 3 (by omega)).frozen 0;have bB:=(y.box 4 (by omega)).frozen 0;have bj:=(y.box 5 (by omega)).frozen 0;have bo:=(y.box 6 (by omega)).frozen 0;have bK:=(y.box 7 (by omega)).frozen 0;have cf:W.cell? ⟨w.heap.size+1+1,0,none⟩=some (.func (.func 222) #[] #[]):=y.fn.cell 0;have YP:=za y;have aN:=za (Gk t.e t.f t.g te tf tg);have aM:=za (N1 t.a t.b t.c ta tb tc);have aO:=za (fun w=>Xl k w hk);have cr:=za (fun w=>XX t.e w te);have dm:=za (fun w=>XY t.a w ta);clear ht y OV Sx;generalize mA blk k=wk at*;generalize uP.getD k 0=kc at*;gi_wp2
   rw[aN.out,aM.out];have RW:Hid (CB kc wk t=⟨(((t.h+Sg1 t.e+kc+wk+Ev t.e t.f t.g)%4294967296)+((Sg0 t.a+uM t.a t.b t.c)%4294967296))%4294967296,t.a,t.b,t.c,(t.d+(t.h+Sg1 t.e+kc+wk+Ev t.e t.f t.g)%4294967296)%4294967296,t.e,t.f,t.g⟩):=za rfl;clear aN aM;generalize Ev t.e t.f t.g=cv at*;generalize uM t.a t.b t.c=mv at*;generalize Sg1 t.e=g1 at*;generalize Sg0 t.a=g0 at*;refine kK l (by kernel_rfl) (by kernel_rfl) (by kernel_rfl) ?_;repeat(go_big_quiet_step (first|(with_reducible exact Calls.fj (cr.out _))|(with_reducible exact Calls.quiet_of (aO.out _))))
   refine xE ?_;intro nq;obtain⟨pv,Me⟩:∃pv,(t.h+g1+kc+wk+cv)%4294967296=pv:=⟨_,rfl⟩
   have aK:Hid ((((t.h:Int)+g1+kc+wk)%4294967296+cv)%4294967296=(pv:Int)):=za (by omega);have A9:pv<4294967296:=by omega
   rw[Me]at RW;clear Me;rw[aK.out];clear aK aO cr;gi_wp2_with fail
   refine⟨trivial,(CallsIn.inRound l (Yc.2 (dm.out _))).mono ?_⟩;rintro e w' ⟨rfl,rfl⟩;have bL:(p 0=p 1)=False:=yF (z.out.2.2 0 1 (by omega) (by omega) (by omega));have bk:(p 0=p 2)=False:=yF (z.out.2.2 0 2 (by omega) (by omega) (by omega));have bC:(p 0=p 3)=False:=yF (z.out.2.2 0 3 (by omega) (by omega) (by omega));have bp:(p 0=p 4)=False:=yF (z.out.2.2 0 4 (by omega) (by omega) (by omega));have bn:(p 0=p 5)=False:=yF (z.out.2.2 0 5 (by omega) (by omega) (by omega));have bD:(p 0=p 6)=False:=yF (z.out.2.2 0 6 (by omega) (by omega) (by omega));have br:(p 0=p 7)=False:=yF (z.out.2.2 0 7 (by omega) (by omega) (by omega));have bf:(p 1=p 2)=False:=yF (z.out.2.2 1 2 (by omega) (by omega) (by omega));have bh:(p 1=p 3)=False:=yF (z.out.2.2 1 3 (by omega) (by omega) (by omega));have bt:(p 1=p 4)=False:=yF (z.out.2.2 1 4 (by omega) (by omega) (by omega));have bq:(p 1=p 5)=False:=yF (z.out.2.2 1 5 (by omega) (by omega) (by omega));have bb:(p 1=p 6)=False:=yF (z.out.2.2 1 6 (by omega) (by omega) (by omega));have bA:(p 1=p 7)=False:=yF (z.out.2.2 1 7 (by omega) (by omega) (by omega));have bx:(p 2=p 3)=False:=yF (z.out.2.2 2 3 (by omega) (by omega) (by omega));have bg:(p 2=p 4)=False:=yF (z.out.2.2 2 4 (by omega) (by omega) (by omega));have bw:(p 2=p 5)=False:=yF (z.out.2.2 2 5 (by omega) (by omega) (by omega));have bH:(p 2=p 6)=False:=yF (z.out.2.2 2 6 (by omega) (by omega) (by omega));have bI:(p 2=p 7)=False:=yF (z.out.2.2 2 7 (by omega) (by omega) (by omega))
   have a':(p 3=p 4)=False:=yF (z.out.2.2 3 4 (by omega) (by omega) (by omega));have bF:(p 3=p 5)=False:=yF (z.out.2.2 3 5 (by omega) (by omega) (by omega));have bE:(p 3=p 6)=False:=yF (z.out.2.2 3 6 (by omega) (by omega) (by omega));have bl:(p 3=p 7)=False:=yF (z.out.2.2 3 7 (by omega) (by omega) (by omega));have bs:(p 4=p 5)=False:=yF (z.out.2.2 4 5 (by omega) (by omega) (by omega));have bm:(p 4=p 6)=False:=yF (z.out.2.2 4 6 (by omega) (by omega) (by omega));have bd:(p 4=p 7)=False:=yF (z.out.2.2 4 7 (by omega) (by omega) (by omega));have bc:(p 5=p 6)=False:=yF (z.out.2.2 5 6 (by omega) (by omega) (by omega));have bu:(p 5=p 7)=False:=yF (z.out.2.2 5 7 (by omega) (by omega) (by omega));have bz:(p 6=p 7)=False:=yF (z.out.2.2 6 7 (by omega) (by omega) (by omega));obtain⟨av,aL⟩:∃av,(pv+(g0+mv)%4294967296)%4294967296=av:=⟨_,rfl⟩
   obtain⟨ev,aG⟩:∃ev,(t.d+pv)%4294967296=ev:=⟨_,rfl⟩
   have a1:Hid (((pv:Int)+((g0:Int)+mv))%4294967296=(av:Int)):=za (by omega);have aW:Hid (((t.d:Int)+pv)%4294967296=(ev:Int)):=za (by omega);rw[aL,aG]at RW;clear aL aG;gi_wp2
   rw[a1.out,aW.out,Tg.out,pJ.out,RW.out];have hq:oR w w.heap.size p s t (W.drewN nq):=YP.out.ag (B:=W.heap.size) ((zl _ W).bJ nq) (fun j E=>by have:=U'.out j E;omega) (by omega) (by omega);exact⟨((ae.refl (boxes p) W).drewN nq).trans (ti (W.drewN nq) p ⟨av,t.a,t.b,t.c,ev,t.e,t.f,t.g⟩),hq.put _ (fun j E=>by have:=z.out.1 j E;omega) (fun j E=>by have:=z.out.1 j E;omega) z.out.2.2⟩
  case dn=>
   rintro aa W hD ⟨y,fG⟩ hK;have LF:(da blk 64).length=64:=by simp[da]
   rw[LF]at y;have ax:=a6;have G1:=sB uP blk 64 I;obtain⟨t,ht⟩:∃t,fM uP blk 64 s=t:=⟨_,rfl⟩
   rw[ht]at y ax G1;obtain⟨ta,tb,tc,td,te,tf,tg,th⟩:=G1;obtain⟨sa,sb,sc,sd,se,sf,sg,sh⟩:=I;have c6:W.cell? ⟨p 0,0,none⟩=some (.int .u32 t.a):=(y.box 0 (by omega)).cell 0;have c7:W.cell? ⟨p 1,0,none⟩=some (.int .u32 t.b):=(y.box 1 (by omega)).cell 0;have c8:W.cell? ⟨p 2,0,none⟩=some (.int .u32 t.c):=(y.box 2 (by omega)).cell 0;have c9:W.cell? ⟨p 3,0,none⟩=some (.int .u32 t.d):=(y.box 3 (by omega)).cell 0;have aZ:W.cell? ⟨p 4,0,none⟩=some (.int .u32 t.e):=(y.box 4 (by omega)).cell 0;have aX:W.cell? ⟨p 5,0,none⟩=some (.int .u32 t.f):=(y.box 5 (by omega)).cell 0;have a8:W.cell? ⟨p 6,0,none⟩=some (.int .u32 t.g):=(y.box 6 (by omega)).cell 0;have a7:W.cell? ⟨p 7,0,none⟩=some (.int .u32 t.h):=(y.box 7 (by omega)).cell 0;have YP:=za y;have aR:=za hK;have R:Hid (w.heap.size+1<aa):=za (by omega);clear y ht hK;gi_wp2
   gi_loopw [98] (fun i wr=>jQ w w.heap.size aa s t i wr) (fun i _=>8-(intOf i).toNat)
   case atStart=>exact⟨0,by omega,rfl,YP.out.sta,YP.out.res,YP.out.only,aR.out⟩
   case round=>
    obtain⟨k,hk,rfl,c,J,kO,ah⟩:=hrel.ex;have Z:=za J;have Mh:=za kO;have X:=za ah;by_cases ba:k<8
    ·clear J kO ah;have h8:k=0\/k=1\/k=2\/k=3\/k=4\/k=5\/k=6\/k=7:=by omega
     rcases h8 with rfl|rfl|rfl|rfl|rfl|rfl|rfl|rfl
     ·have q0:wr.cell? ⟨w.heap.size,0,none⟩=some (.int .u32 s.a):=c.cell 0;have q1:=c.frozen 0;have hi:∀w',(Instr.index 244 (.agg #[.int .u32 t.a,.int .u32 t.b,.int .u32 t.c,.int .u32 t.d,.int .u32 t.e,.int .u32 t.f,.int .u32 t.g,.int .u32 t.h]) (.int .i64 0)).run prog w'= .ok (.int .u32 t.a) w':=fun w'=>l6 t w' 0 (.int .u32 t.a) rfl
      have L:=za (c.set 0 (.int .u32 ((s.a+t.a)%4294967296:Nat)));clear c;gi_wp2
      go_roundw
      case rel=>exact jQ.next L.out Z.out Mh.out X.out R.out (by omega) (by omega) rfl (by simp)
      case measure=>simp[intOf]
     ·have q0:wr.cell? ⟨w.heap.size,1,none⟩=some (.int .u32 s.b):=c.cell 1;have q1:=c.frozen 1;have hi:∀w',(Instr.index 244 (.agg #[.int .u32 t.a,.int .u32 t.b,.int .u32 t.c,.int .u32 t.d,.int .u32 t.e,.int .u32 t.f,.int .u32 t.g,.int .u32 t.h]) (.int .i64 1)).run prog w'= .ok (.int .u32 t.b) w':=fun w'=>l6 t w' 1 (.int .u32 t.b) rfl
      have L:=za (c.set 1 (.int .u32 ((s.b+t.b)%4294967296:Nat)));clear c;gi_wp2
      go_roundw
      case rel=>exact jQ.next L.out Z.out Mh.out X.out R.out (by omega) (by omega) rfl (by simp)
      case measure=>simp[intOf]
     ·have q0:wr.cell? ⟨w.heap.size,2,none⟩=some (.int .u32 s.c):=c.cell 2;have q1:=c.frozen 2;have hi:∀w',(Instr.index 244 (.agg #[.int .u32 t.a,.int .u32 t.b,.int .u32 t.c,.int .u32 t.d,.int .u32 t.e,.int .u32 t.f,.int .u32 t.g,.int .u32 t.h]) (.int .i64 2)).run prog w'= .ok (.int .u32 t.c) w':=fun w'=>l6 t w' 2 (.int .u32 t.c) rfl
      have L:=za (c.set 2 (.int .u32 ((s.c+t.c)%4294967296:Nat)));clear c;gi_wp2
      go_roundw
      case rel=>exact jQ.next L.out Z.out Mh.out X.out R.out (by omega) (by omega) rfl (by simp)
      case measure=>simp[intOf]
     ·have q0:wr.cell? ⟨w.heap.size,3,none⟩=some (.int .u32 s.d):=c.cell 3;have q1:=c.frozen 3;have hi:∀w',(Instr.index 244 (.agg #[.int .u32 t.a,.int .u32 t.b,.int .u32 t.c,.int .u32 t.d,.int .u32 t.e,.int .u32 t.f,.int .u32 t.g,.int .u32 t.h]) (.int .i64 3)).run prog w'= .ok (.int .u32 t.d) w':=fun w'=>l6 t w' 3 (.int .u32 t.d) rfl
      have L:=za (c.set 3 (.int .u32 ((s.d+t.d)%4294967296:Nat)));clear c;gi_wp2
      go_roundw
      case rel=>exact jQ.next L.out Z.out Mh.out X.out R.out (by omega) (by omega) rfl (by simp)
      case measure=>simp[intOf]
     ·have q0:wr.cell? ⟨w.heap.size,4,none⟩=some (.int .u32 s.e):=c.cell 4;have q1:=c.frozen 4;have hi:∀w',(Instr.index 244 (.agg #[.int .u32 t.a,.int .u32 t.b,.int .u32 t.c,.int .u32 t.d,.int .u32 t.e,.int .u32 t.f,.int .u32 t.g,.int .u32 t.h]) (.int .i64 4)).run prog w'= .ok (.int .u32 t.e) w':=fun w'=>l6 t w' 4 (.int .u32 t.e) rfl
      have L:=za (c.set 4 (.int .u32 ((s.e+t.e)%4294967296:Nat)));clear c;gi_wp2
      go_roundw
      case rel=>exact jQ.next L.out Z.out Mh.out X.out R.out (by omega) (by omega) rfl (by simp)
      case measure=>simp[intOf]
     ·have q0:wr.cell? ⟨w.heap.size,5,none⟩=some (.int .u32 s.f):=c.cell 5;have q1:=c.frozen 5;have hi:∀w',(Instr.index 244 (.agg #[.int .u32 t.a,.int .u32 t.b,.int .u32 t.c,.int .u32 t.d,.int .u32 t.e,.int .u32 t.f,.int .u32 t.g,.int .u32 t.h]) (.int .i64 5)).run prog w'= .ok (.int .u32 t.f) w':=fun w'=>l6 t w' 5 (.int .u32 t.f) rfl
      have L:=za (c.set 5 (.int .u32 ((s.f+t.f)%4294967296:Nat)));clear c;gi_wp2
      go_roundw
      case rel=>exact jQ.next L.out Z.out Mh.out X.out R.out (by omega) (by omega) rfl (by simp)
      case measure=>simp[intOf]
     ·have q0:wr.cell? ⟨w.heap.size,6,none⟩=some (.int .u32 s.g):=c.cell 6;have q1:=c.frozen 6;have hi:∀w',(Instr.index 244 (.agg #[.int .u32 t.a,.int .u32 t.b,.int .u32 t.c,.int .u32 t.d,.int .u32 t.e,.int .u32 t.f,.int .u32 t.g,.int .u32 t.h]) (.int .i64 6)).run prog w'= .ok (.int .u32 t.g) w':=fun w'=>l6 t w' 6 (.int .u32 t.g) rfl
      have L:=za (c.set 6 (.int .u32 ((s.g+t.g)%4294967296:Nat)));clear c;gi_wp2
      go_roundw
      case rel=>exact jQ.next L.out Z.out Mh.out X.out R.out (by omega) (by omega) rfl (by simp)
      case measure=>simp[intOf]
     have q0:wr.cell? ⟨w.heap.size,7,none⟩=some (.int .u32 s.h):=c.cell 7;have q1:=c.frozen 7;have hi:∀w',(Instr.index 244 (.agg #[.int .u32 t.a,.int .u32 t.b,.int .u32 t.c,.int .u32 t.d,.int .u32 t.e,.int .u32 t.f,.int .u32 t.g,.int .u32 t.h]) (.int .i64 7)).run prog w'= .ok (.int .u32 t.h) w':=fun w'=>l6 t w' 7 (.int .u32 t.h) rfl
     have L:=za (c.set 7 (.int .u32 ((s.h+t.h)%4294967296:Nat)));clear c;gi_wp2
     go_roundw
     case rel=>exact jQ.next L.out Z.out Mh.out X.out R.out (by omega) (by omega) rfl (by simp)
     case measure=>simp[intOf]
    obtain rfl:k=8:=by omega
    obtain⟨u,hu⟩:∃u,tj 8 s t=u:=⟨_,rfl⟩
    rw[hu]at c ax;clear hu;have q0:wr.cell? ⟨w.heap.size,0,none⟩=some (.int .u32 u.a):=c.cell 0;have q1:wr.cell? ⟨w.heap.size,1,none⟩=some (.int .u32 u.b):=c.cell 1;have q2:wr.cell? ⟨w.heap.size,2,none⟩=some (.int .u32 u.c):=c.cell 2;have q3:wr.cell? ⟨w.heap.size,3,none⟩=some (.int .u32 u.d):=c.cell 3;have q4:wr.cell? ⟨w.heap.size,4,none⟩=some (.int .u32 u.e):=c.cell 4;have q5:wr.cell? ⟨w.heap.size,5,none⟩=some (.int .u32 u.f):=c.cell 5;have q6:wr.cell? ⟨w.heap.size,6,none⟩=some (.int .u32 u.g):=c.cell 6;have q7:wr.cell? ⟨w.heap.size,7,none⟩=some (.int .u32 u.h):=c.cell 7;have r0:=J.cell 0;have r1:=J.cell 1;have r2:=J.cell 2;have r3:=J.cell 3;have r4:=J.cell 4;have r5:=J.cell 5;have r6:=J.cell 6;have r7:=J.cell 7;simp at r0 r1 r2 r3 r4 r5 r6 r7;have f0:=J.frozen 0;have f1:=J.frozen 1;have f2:=J.frozen 2;have f3:=J.frozen 3;have f4:=J.frozen 4;have f5:=J.frozen 5;have f6:=J.frozen 6;have f7:=J.frozen 7;clear c J kO ah;gi_wp2
    have aI:(nJ wr (w.heap.size+1) u).heap[aa]?=some (.deferred (some [])):=(Gl wr _ u aa (by have:=R.out;omega)).trans X.out;have l9:=JE u Z.out;have aU:=tk u Mh.out (show w.heap.size<=w.heap.size+1 by omega);have Wy:=l9.only (iN _ aa (.deferred none)) (by have:=R.out;simp;omega);have Wx:=aU.trans' (iN _ aa (.deferred none)) (fun i hi=> .inr (by have:=R.out;simp at hi;omega));unfold nJ at aI Wy Wx;refine⟨by simp,.inl ⟨_,_,rfl,run_takeDeferred aI, ?_⟩⟩;refine⟨_,XZ u (g:=w.heap.size+1) rfl Wy, ?_,Wx⟩;rw[ax.out];rfl
