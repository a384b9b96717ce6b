/- sha.mix: a block mixed into the state. -/
import Derived.Test.YtdbmifjankgfpaaGreatDoorKA13
set_option linter.all false
set_option maxRecDepth 100000
set_option maxHeartbeats 4000000
namespace Go.Proofs.YtdbmifjankgfpaaGreatDoor
open Tryz
open Go.RowKit Go.Shelf
attribute [local go_sem] Oper.semAt_some
def yD:=@eq_false
theorem VI (s:Sh)(J:s.ok)(blk:ByteArray)(hb:blk.size=64)(w:World):
 Calls prog 190 #[kG s,.string blk] w fun e w'=>e= .returned (kG (qb uW s blk))/\ae [] w w':=by
 obtain⟨az,hR⟩:∃az,qb uW s blk=az:=⟨_,rfl⟩
 have aP:Hid (az=tu 8 s (fM uW blk 64 s)):=za (by rw[<-hR];exact NM s blk);rw[hR];clear hR;have HB:Hid (af (w.alloc (.cells #[.int .u32 s.a,.int .u32 s.b,.int .u32 s.c,.int .u32 s.d,.int .u32 s.e,.int .u32 s.f,.int .u32 s.g,.int .u32 s.h] 244)) w.heap.size 244 #[.int .u32 s.a,.int .u32 s.b,.int .u32 s.c,.int .u32 s.d,.int .u32 s.e,.int .u32 s.f,.int .u32 s.g,.int .u32 s.h]):=za (af.new w _ _);unfold kG;refine(Yc (n:=5)).1 ?_;refine callsIn_of_wp_marks func190 rfl trivial ?_ rfl;simp only[ntmps190,Z4,zw,zL,Nat.reduceAdd,Nat.reduceSub,Array.replicate_succ,Array.replicate_zero,List.push_toArray,List.append_toArray,yu,zV];gi_upto_region 2 with(fail)
 obtain⟨d,cm⟩:∃d,((w.alloc (.cells #[.int .u32 s.a,.int .u32 s.b,.int .u32 s.c,.int .u32 s.d,.int .u32 s.e,.int .u32 s.f,.int .u32 s.g,.int .u32 s.h] 244)).alloc (.cells #[.int .u32 0,.int .u32 0,.int .u32 0,.int .u32 0,.int .u32 0,.int .u32 0,.int .u32 0,.int .u32 0] 244)).alloc (.cells #[.func (.func 222) #[] #[]] 268)=d:=⟨_,rfl⟩
 have kZ:Hid (af d w.heap.size 244 #[.int .u32 s.a,.int .u32 s.b,.int .u32 s.c,.int .u32 s.d,.int .u32 s.e,.int .u32 s.f,.int .u32 s.g,.int .u32 s.h]):=za (by rw[<-cm];exact(HB.out.alloc _).alloc _);have aQ:Hid (af d (w.heap.size+1) 244 #[.int .u32 0,.int .u32 0,.int .u32 0,.int .u32 0,.int .u32 0,.int .u32 0,.int .u32 0,.int .u32 0]):=za (by
  rw[<-cm];refine af.alloc ?_ _;have:=af.new (w.alloc (.cells #[.int .u32 s.a,.int .u32 s.b,.int .u32 s.c,.int .u32 s.d,.int .u32 s.e,.int .u32 s.f,.int .u32 s.g,.int .u32 s.h] 244)) 244 #[.int .u32 0,.int .u32 0,.int .u32 0,.int .u32 0,.int .u32 0,.int .u32 0,.int .u32 0,.int .u32 0];rwa [zp]at this)
 have tZ:Hid (af d (w.heap.size+2) 268 #[.func (.func 222) #[] #[]]):=za (by
  rw[<-cm];have:=af.new ((w.alloc (.cells #[.int .u32 s.a,.int .u32 s.b,.int .u32 s.c,.int .u32 s.d,.int .u32 s.e,.int .u32 s.f,.int .u32 s.g,.int .u32 s.h] 244)).alloc (.cells #[.int .u32 0,.int .u32 0,.int .u32 0,.int .u32 0,.int .u32 0,.int .u32 0,.int .u32 0,.int .u32 0] 244)) 268 #[.func (.func 222) #[] #[]];simp only[zp]at this;exact this)
 have a7:Hid (ae [] w d):=za (by rw[<-cm];exact(((ae.refl [] w).alloc _).alloc _).alloc _);have By:Hid (d.heap.size=w.heap.size+3):=za (by rw[<-cm];simp);rw[cm];clear cm HB;refine wpIn_wide.2 ?_;refine Ba (by kernel_rfl) (by kernel_rfl) (agR s blk w.heap.size d.drew) ?start ?step ?done;case start=>exact⟨fun _=>undef,0,fun _=>0,rfl,MJ.start _ _ _ _ _⟩
 case step=>
  have Wx:Hid (af d.drew w.heap.size 244 #[.int .u32 s.a,.int .u32 s.b,.int .u32 s.c,.int .u32 s.d,.int .u32 s.e,.int .u32 s.f,.int .u32 s.g,.int .u32 s.h]):=kZ;have rh:Hid (w.heap.size<d.drew.heap.size):=za (by have:=By.out;show w.heap.size<d.heap.size;omega);rintro listed a w' i hi ⟨x,m,q,rfl,b⟩ hr;obtain⟨mT,o,K,C⟩:=ZB.1 hr;clear hr;have a6:i=0\/i=1\/i=2\/i=3\/i=4\/i=5\/i=6\/i=7\/i=8\/i=9\/i=10\/i=11\/i=12\/i=13\/i=14\/i=15\/i=16\/i=17\/i=18\/i=19\/i=20\/i=21\/i=22\/i=23\/i=24\/i=25\/i=26\/i=27\/i=28\/i=29\/i=30\/i=31:=by simp at hi;omega
  rcases a6 with rfl|rfl|rfl|rfl|rfl|rfl|rfl|rfl|rfl|rfl|rfl|rfl|rfl|rfl|rfl|rfl|rfl|rfl|rfl|rfl|rfl|rfl|rfl|rfl|rfl|rfl|rfl|rfl|rfl|rfl|rfl|rfl
  ·refine aW rfl rfl ?_;unfold bE;go_simp;exact⟨lu x 22 _,m,q,rfl,b.addr 0 (by omega)⟩
  ·obtain rfl:=yh K;have hx:=b.ad 0 (by omega) (C ⟨0,.data⟩ (by simp) rfl);simp only[Nat.reduceMul,Nat.reduceAdd]at hx;have H:=af.cell ((b.bl.block _ rh.out).trans Wx.out) 0;refine aW rfl rfl ?_;unfold bE;simp at H;simp only[hx];go_simp;refine⟨_,m,q, ?_,b.load 0 (by omega)⟩;simp[bE,lu,hx,dG,Sh.list]
  ·refine aW rfl rfl ?_;unfold bE;go_simp;exact⟨lu x 24 _,m,q,rfl,b.addr 1 (by omega)⟩
  ·obtain rfl:=yh K;have hx:=b.ad 1 (by omega) (C ⟨2,.data⟩ (by simp) rfl);simp only[Nat.reduceMul,Nat.reduceAdd]at hx;have H:=af.cell ((b.bl.block _ rh.out).trans Wx.out) 1;refine aW rfl rfl ?_;unfold bE;simp at H;simp only[hx];go_simp;refine⟨_,m,q, ?_,b.load 1 (by omega)⟩;simp[bE,lu,hx,dG,Sh.list]
  ·refine aW rfl rfl ?_;unfold bE;go_simp;exact⟨lu x 26 _,m,q,rfl,b.addr 2 (by omega)⟩
  ·obtain rfl:=yh K;have hx:=b.ad 2 (by omega) (C ⟨4,.data⟩ (by simp) rfl);simp only[Nat.reduceMul,Nat.reduceAdd]at hx;have H:=af.cell ((b.bl.block _ rh.out).trans Wx.out) 2;refine aW rfl rfl ?_;unfold bE;simp at H;simp only[hx];go_simp;refine⟨_,m,q, ?_,b.load 2 (by omega)⟩;simp[bE,lu,hx,dG,Sh.list]
  ·refine aW rfl rfl ?_;unfold bE;go_simp;exact⟨lu x 28 _,m,q,rfl,b.addr 3 (by omega)⟩
  ·obtain rfl:=yh K;have hx:=b.ad 3 (by omega) (C ⟨6,.data⟩ (by simp) rfl);simp only[Nat.reduceMul,Nat.reduceAdd]at hx;have H:=af.cell ((b.bl.block _ rh.out).trans Wx.out) 3;refine aW rfl rfl ?_;unfold bE;simp at H;simp only[hx];go_simp;refine⟨_,m,q, ?_,b.load 3 (by omega)⟩;simp[bE,lu,hx,dG,Sh.list]
  ·refine aW rfl rfl ?_;unfold bE;go_simp;exact⟨lu x 30 _,m,q,rfl,b.addr 4 (by omega)⟩
  ·obtain rfl:=yh K;have hx:=b.ad 4 (by omega) (C ⟨8,.data⟩ (by simp) rfl);simp only[Nat.reduceMul,Nat.reduceAdd]at hx;have H:=af.cell ((b.bl.block _ rh.out).trans Wx.out) 4;refine aW rfl rfl ?_;unfold bE;simp at H;simp only[hx];go_simp;refine⟨_,m,q, ?_,b.load 4 (by omega)⟩;simp[bE,lu,hx,dG,Sh.list]
  ·refine aW rfl rfl ?_;unfold bE;go_simp;exact⟨lu x 32 _,m,q,rfl,b.addr 5 (by omega)⟩
  ·obtain rfl:=yh K;have hx:=b.ad 5 (by omega) (C ⟨10,.data⟩ (by simp) rfl);simp only[Nat.reduceMul,Nat.reduceAdd]at hx;have H:=af.cell ((b.bl.block _ rh.out).trans Wx.out) 5;refine aW rfl rfl ?_;unfold bE;simp at H;simp only[hx];go_simp;refine⟨_,m,q, ?_,b.load 5 (by omega)⟩;simp[bE,lu,hx,dG,Sh.list]
  ·refine aW rfl rfl ?_;unfold bE;go_simp;exact⟨lu x 34 _,m,q,rfl,b.addr 6 (by omega)⟩
  ·obtain rfl:=yh K;have hx:=b.ad 6 (by omega) (C ⟨12,.data⟩ (by simp) rfl);simp only[Nat.reduceMul,Nat.reduceAdd]at hx;have H:=af.cell ((b.bl.block _ rh.out).trans Wx.out) 6;refine aW rfl rfl ?_;unfold bE;simp at H;simp only[hx];go_simp;refine⟨_,m,q, ?_,b.load 6 (by omega)⟩;simp[bE,lu,hx,dG,Sh.list]
  ·refine aW rfl rfl ?_;unfold bE;go_simp;exact⟨lu x 36 _,m,q,rfl,b.addr 7 (by omega)⟩
  ·obtain rfl:=yh K;have hx:=b.ad 7 (by omega) (C ⟨14,.data⟩ (by simp) rfl);simp only[Nat.reduceMul,Nat.reduceAdd]at hx;have H:=af.cell ((b.bl.block _ rh.out).trans Wx.out) 7;refine aW rfl rfl ?_;unfold bE;simp at H;simp only[hx];go_simp;refine⟨_,m,q, ?_,b.load 7 (by omega)⟩;simp[bE,lu,hx,dG,Sh.list]
  ·refine aW rfl rfl ?_;unfold bE;go_simp;exact⟨lu x 6 _,m+1,_,rfl,b.alloc 0 (by omega) (Zk mT)⟩
  ·refine aW rfl rfl ?_;unfold bE;go_simp;exact⟨lu x 7 _,m+1,_,rfl,b.alloc 1 (by omega) (Zk mT)⟩
  ·refine aW rfl rfl ?_;unfold bE;go_simp;exact⟨lu x 8 _,m+1,_,rfl,b.alloc 2 (by omega) (Zk mT)⟩
  ·refine aW rfl rfl ?_;unfold bE;go_simp;exact⟨lu x 9 _,m+1,_,rfl,b.alloc 3 (by omega) (Zk mT)⟩
  ·refine aW rfl rfl ?_;unfold bE;go_simp;exact⟨lu x 10 _,m+1,_,rfl,b.alloc 4 (by omega) (Zk mT)⟩
  ·refine aW rfl rfl ?_;unfold bE;go_simp;exact⟨lu x 11 _,m+1,_,rfl,b.alloc 5 (by omega) (Zk mT)⟩
  ·refine aW rfl rfl ?_;unfold bE;go_simp;exact⟨lu x 12 _,m+1,_,rfl,b.alloc 6 (by omega) (Zk mT)⟩
  ·refine aW rfl rfl ?_;unfold bE;go_simp;exact⟨lu x 13 _,m+1,_,rfl,b.alloc 7 (by omega) (Zk mT)⟩
  ·obtain rfl:=yh K;have F:=C ⟨16,.data⟩ (by simp) rfl;obtain⟨hx,Z,D⟩:=b.al 0 (by omega) F;have r:=b.ld 0 (by omega) (C ⟨1,.data⟩ (by simp) rfl);have J:=za (b.store 0 (by omega) F);simp only[Nat.reduceMul,Nat.reduceAdd]at hx r D;replace hx:x 6= .pointer (some ⟨d.heap.size+q 0,0,none⟩):=hx;obtain⟨G,H⟩:∃G,w'.cell? ⟨d.heap.size+q 0,0,none⟩=some G:=⟨_,D.cell 0⟩
   have f0:w'.frozen? ⟨d.heap.size+q 0,0,none⟩=false:=D.frozen 0;have M:s.list.getD 0 0=s.a:=rfl;rw[M,dG]at r;refine aW rfl rfl ?_;unfold bE;simp only[hx,r];go_simp;refine⟨x,m,q, ?_,J.out⟩;simp[bE,hx,r]
  ·obtain rfl:=yh K;have F:=C ⟨17,.data⟩ (by simp) rfl;obtain⟨hx,Z,D⟩:=b.al 1 (by omega) F;have r:=b.ld 1 (by omega) (C ⟨3,.data⟩ (by simp) rfl);have J:=za (b.store 1 (by omega) F);simp only[Nat.reduceMul,Nat.reduceAdd]at hx r D;replace hx:x 7= .pointer (some ⟨d.heap.size+q 1,0,none⟩):=hx;obtain⟨G,H⟩:∃G,w'.cell? ⟨d.heap.size+q 1,0,none⟩=some G:=⟨_,D.cell 0⟩
   have f0:w'.frozen? ⟨d.heap.size+q 1,0,none⟩=false:=D.frozen 0;have M:s.list.getD 1 0=s.b:=rfl;rw[M,dG]at r;refine aW rfl rfl ?_;unfold bE;simp only[hx,r];go_simp;refine⟨x,m,q, ?_,J.out⟩;simp[bE,hx,r]
  ·obtain rfl:=yh K;have F:=C ⟨18,.data⟩ (by simp) rfl;obtain⟨hx,Z,D⟩:=b.al 2 (by omega) F;have r:=b.ld 2 (by omega) (C ⟨5,.data⟩ (by simp) rfl);have J:=za (b.store 2 (by omega) F);simp only[Nat.reduceMul,Nat.reduceAdd]at hx r D;replace hx:x 8= .pointer (some ⟨d.heap.size+q 2,0,none⟩):=hx;obtain⟨G,H⟩:∃G,w'.cell? ⟨d.heap.size+q 2,0,none⟩=some G:=⟨_,D.cell 0⟩
   have f0:w'.frozen? ⟨d.heap.size+q 2,0,none⟩=false:=D.frozen 0;have M:s.list.getD 2 0=s.c:=rfl;rw[M,dG]at r;refine aW rfl rfl ?_;unfold bE;simp only[hx,r];go_simp;refine⟨x,m,q, ?_,J.out⟩;simp[bE,hx,r]
  ·obtain rfl:=yh K;have F:=C ⟨19,.data⟩ (by simp) rfl;obtain⟨hx,Z,D⟩:=b.al 3 (by omega) F;have r:=b.ld 3 (by omega) (C ⟨7,.data⟩ (by simp) rfl);have J:=za (b.store 3 (by omega) F);simp only[Nat.reduceMul,Nat.reduceAdd]at hx r D;replace hx:x 9= .pointer (some ⟨d.heap.size+q 3,0,none⟩):=hx;obtain⟨G,H⟩:∃G,w'.cell? ⟨d.heap.size+q 3,0,none⟩=some G:=⟨_,D.cell 0⟩
   have f0:w'.frozen? ⟨d.heap.size+q 3,0,none⟩=false:=D.frozen 0;have M:s.list.getD 3 0=s.d:=rfl;rw[M,dG]at r;refine aW rfl rfl ?_;unfold bE;simp only[hx,r];go_simp;refine⟨x,m,q, ?_,J.out⟩;simp[bE,hx,r]
  ·obtain rfl:=yh K;have F:=C ⟨20,.data⟩ (by simp) rfl;obtain⟨hx,Z,D⟩:=b.al 4 (by omega) F;have r:=b.ld 4 (by omega) (C ⟨9,.data⟩ (by simp) rfl);have J:=za (b.store 4 (by omega) F);simp only[Nat.reduceMul,Nat.reduceAdd]at hx r D;replace hx:x 10= .pointer (some ⟨d.heap.size+q 4,0,none⟩):=hx;obtain⟨G,H⟩:∃G,w'.cell? ⟨d.heap.size+q 4,0,none⟩=some G:=⟨_,D.cell 0⟩
   have f0:w'.frozen? ⟨d.heap.size+q 4,0,none⟩=false:=D.frozen 0;have M:s.list.getD 4 0=s.e:=rfl;rw[M,dG]at r;refine aW rfl rfl ?_;unfold bE;simp only[hx,r];go_simp;refine⟨x,m,q, ?_,J.out⟩;simp[bE,hx,r]
  ·obtain rfl:=yh K;have F:=C ⟨21,.data⟩ (by simp) rfl;obtain⟨hx,Z,D⟩:=b.al 5 (by omega) F;have r:=b.ld 5 (by omega) (C ⟨11,.data⟩ (by simp) rfl);have J:=za (b.store 5 (by omega) F);simp only[Nat.reduceMul,Nat.reduceAdd]at hx r D;replace hx:x 11= .pointer (some ⟨d.heap.size+q 5,0,none⟩):=hx;obtain⟨G,H⟩:∃G,w'.cell? ⟨d.heap.size+q 5,0,none⟩=some G:=⟨_,D.cell 0⟩
   have f0:w'.frozen? ⟨d.heap.size+q 5,0,none⟩=false:=D.frozen 0;have M:s.list.getD 5 0=s.f:=rfl;rw[M,dG]at r;refine aW rfl rfl ?_;unfold bE;simp only[hx,r];go_simp;refine⟨x,m,q, ?_,J.out⟩;simp[bE,hx,r]
  ·obtain rfl:=yh K;have F:=C ⟨22,.data⟩ (by simp) rfl;obtain⟨hx,Z,D⟩:=b.al 6 (by omega) F;have r:=b.ld 6 (by omega) (C ⟨13,.data⟩ (by simp) rfl);have J:=za (b.store 6 (by omega) F);simp only[Nat.reduceMul,Nat.reduceAdd]at hx r D;replace hx:x 12= .pointer (some ⟨d.heap.size+q 6,0,none⟩):=hx;obtain⟨G,H⟩:∃G,w'.cell? ⟨d.heap.size+q 6,0,none⟩=some G:=⟨_,D.cell 0⟩
   have f0:w'.frozen? ⟨d.heap.size+q 6,0,none⟩=false:=D.frozen 0;have M:s.list.getD 6 0=s.g:=rfl;rw[M,dG]at r;refine aW rfl rfl ?_;unfold bE;simp only[hx,r];go_simp;refine⟨x,m,q, ?_,J.out⟩;simp[bE,hx,r]
  obtain rfl:=yh K;have F:=C ⟨23,.data⟩ (by simp) rfl;obtain⟨hx,Z,D⟩:=b.al 7 (by omega) F;have r:=b.ld 7 (by omega) (C ⟨15,.data⟩ (by simp) rfl);have J:=za (b.store 7 (by omega) F);simp only[Nat.reduceMul,Nat.reduceAdd]at hx r D;replace hx:x 13= .pointer (some ⟨d.heap.size+q 7,0,none⟩):=hx;obtain⟨G,H⟩:∃G,w'.cell? ⟨d.heap.size+q 7,0,none⟩=some G:=⟨_,D.cell 0⟩
  have f0:w'.frozen? ⟨d.heap.size+q 7,0,none⟩=false:=D.frozen 0;have M:s.list.getD 7 0=s.h:=rfl;rw[M,dG]at r;refine aW rfl rfl ?_;unfold bE;simp only[hx,r];go_simp;refine⟨x,m,q, ?_,J.out⟩;simp[bE,hx,r]
 case done=>
  rintro listed a L C ⟨x,m,q,rfl,b⟩;obtain⟨p,hp⟩:∃p:Nat->Nat,p=fun j=>d.heap.size+q j:=⟨_,rfl⟩
  have O:∀j,j<8->x (6+j)= .pointer (some ⟨p j,0,none⟩)/\af L (p j) 22 #[dG (s.list.getD j 0)]/\d.heap.size<=p j/\p j<L.heap.size:=by
   intro j E;obtain⟨e1,e2,e3⟩:=b.al j E (C _ (by simp;omega));rw[zi (C _ (by simp;omega))]at e3;subst hp;exact⟨e1,e3,Nat.le_add_right _ _,e3.lt⟩
  have cB:∀i j,i<8->j<8->i≠j->p i≠p j:=by
   intro i j hi E a8 e;subst hp;exact b.ne i j hi E (C _ (by simp;omega)) (C _ (by simp;omega)) a8 (by simpa using e)
  have U4:∀j,j<8->x (22+2*j)= .pointer (some ⟨w.heap.size,j,none⟩):=fun j E=>b.ad j E (C _ (by simp;omega))
  have X:∀j,j<8->x (23+2*j)=dG (s.list.getD j 0):=fun j E=>b.ld j E (C _ (by simp;omega))
  have hM:o6 w w.heap.size p s s L:=⟨fun j E=>(O j E).2.1,(b.bl.block _ (by have:=By.out;show _<d.heap.size;omega)).trans kZ.out,(b.bl.block _ (by have:=By.out;show _<d.heap.size;omega)).trans aQ.out,(b.bl.block _ (by have:=By.out;show _<d.heap.size;omega)).trans tZ.out,
   a7.out.trans ⟨b.bl.os,b.bl.tape,b.bl.output,b.bl.size,fun k hk _=>b.bl.block k hk⟩⟩
  have aO:∀j,j<8->w.heap.size+3<=p j:=fun j E=>by have:=(O j E).2.2.1;have:=By.out;omega
  have DR:∀j,j<8->p j<L.heap.size:=fun j E=>(O j E).2.2.2
  have x6:=(O 0 (by omega)).1;have x7:=(O 1 (by omega)).1;have x8:=(O 2 (by omega)).1;have x9:=(O 3 (by omega)).1;have aD:=(O 4 (by omega)).1;have ao:=(O 5 (by omega)).1;have aE:=(O 6 (by omega)).1;have ak:=(O 7 (by omega)).1;have aC:=U4 0 (by omega);have ah:=U4 1 (by omega);have aq:=U4 2 (by omega);have aw:=U4 3 (by omega);have ai:=U4 4 (by omega);have aB:=U4 5 (by omega);have ab:=U4 6 (by omega);have al:=U4 7 (by omega);have ar:=X 0 (by omega);have aF:=X 1 (by omega);have an:=X 2 (by omega);have aj:=X 3 (by omega);have aA:=X 4 (by omega);have ag:=X 5 (by omega);have ax:=X 6 (by omega);have ad:=X 7 (by omega);simp only[Nat.reduceMul,Nat.reduceAdd,y8,dG,Sh.list,ZO,List.getD_cons_succ]at x6 x7 x8 x9 aD ao aE ak aC ah aq aw ai aB ab al ar aF an aj aA ag ax ad;unfold bE;simp only[x6,x7,x8,x9,aD,ao,aE,ak,aC,ah,aq,aw,ai,aB,ab,al,ar,aF,an,aj,aA,ag,ax,ad,kG];clear x6 x7 x8 x9 aD ao aE ak aC ah aq aw ai aB ab al ar aF an aj aA ag ax ad O U4 X b hp C;have HM:=za hM;have z:=za (And.intro aO (And.intro DR cB));clear hM aO DR cB;gi_wp2_with fail
  refine⟨trivial,(Yc.2 (QO blk _)).mono ?_⟩;rintro e w2 ⟨rfl,rfl⟩;gi_wp2_with fail
  obtain⟨W2,jH⟩:∃W2,L.alloc (.cells #[.string blk] 9)=W2:=⟨_,rfl⟩
  have cC:W2.heap.size=L.heap.size+1:=by rw[<-jH];simp
  have aR:W2.cell? ⟨L.heap.size,0,none⟩=some (.string blk):=by rw[<-jH];exact(af.new L 9 #[.string blk]).cell 0
  have rz:Hid (o6 w w.heap.size p s s W2):=za (HM.out.ag (B:=L.heap.size) (by rw[<-jH];exact(zl _ L).alloc (zd _) _) z.out.2.1 (by have:=HM.out.fn.lt;omega) HM.out.only.size);rw[jH];have mD:=HM.out.fn.lt;have aL:∀j,j<8->p j<W2.heap.size:=fun j E=>by have:=z.out.2.1 j E;omega
  have U5:=za aL;clear jH aL;refine wJ rfl (by omega) (gf:=240) (lb:= #[.pointer (some ⟨L.heap.size,0,none⟩)]) rfl trivial (enters_of func240 (by kernel_rfl) rfl)
   (Js _ blk hb W2 L.heap.size (boxes p) aR (by omega) (fun h=>by obtain⟨j,E,e⟩:=lF h;have:=z.out.2.1 j E;omega) (fun i hi=>by obtain⟨j,E,e⟩:=lF hi;have:=U5.out j E;omega))
   (fun i hi=>by obtain⟨j,E,e⟩:=lF hi;have:=U5.out j E;omega) (fun _=>rfl)
   (fun pre W=>o6 w w.heap.size p s (fM uW blk pre.length s) W/\L.heap.size<W.heap.size) ?hI ⟨rz.out,by show L.heap.size<W2.heap.size;omega⟩
   (fun x=>{tmps:= #[.agg #[.int .u32 s.a,.int .u32 s.b,.int .u32 s.c,.int .u32 s.d,.int .u32 s.e,.int .u32 s.f,.int .u32 s.g,.int .u32 s.h],.string blk,.pointer (some ⟨w.heap.size,0,none⟩),undef,.pointer (some ⟨w.heap.size+1,0,none⟩),.pointer (some ⟨w.heap.size+1+1,0,none⟩),.pointer (some ⟨p 0,0,none⟩),.pointer (some ⟨p 1,0,none⟩),.pointer (some ⟨p 2,0,none⟩),.pointer (some ⟨p 3,0,none⟩),.pointer (some ⟨p 4,0,none⟩),.pointer (some ⟨p 5,0,none⟩),.pointer (some ⟨p 6,0,none⟩),.pointer (some ⟨p 7,0,none⟩),.int .i64 x.1,.int .u32 x.2,undef,undef,undef,undef,undef,undef,.pointer (some ⟨w.heap.size,0,none⟩),.int .u32 s.a,.pointer (some ⟨w.heap.size,1,none⟩),.int .u32 s.b,.pointer (some ⟨w.heap.size,2,none⟩),.int .u32 s.c,.pointer (some ⟨w.heap.size,3,none⟩),.int .u32 s.d,.pointer (some ⟨w.heap.size,4,none⟩),.int .u32 s.e,.pointer (some ⟨w.heap.size,5,none⟩),.int .u32 s.f,.pointer (some ⟨w.heap.size,6,none⟩),.int .u32 s.g,.pointer (some ⟨w.heap.size,7,none⟩),.int .u32 s.h,.string blk,.func (.func 240) #[] #[.pointer (some ⟨L.heap.size,0,none⟩)],.int .i64 x.1,.int .u32 x.2,undef,undef,undef,undef,undef,undef,undef,undef,undef,undef,undef,undef,undef,undef,undef,undef,undef,undef,undef,undef,undef,undef,undef,undef,undef,undef,undef,undef,undef,undef,undef,undef,undef,undef,undef,undef,undef,undef,undef,undef,undef,undef,undef,undef,undef,undef,undef,undef,undef,undef,undef,undef,undef,undef,undef,undef,undef,undef,undef,undef,undef,undef,undef,undef,undef,undef,undef,undef],defers:= []}) ?assign ?body ?dn
  case hI=>
   rintro pre A B ⟨h,F⟩ Bp;have:=Bp.size;exact⟨h.ag (B:=W2.heap.size) Bp U5.out (by omega) (by omega),by omega⟩
  case assign=>
   intro l x W bL hK;simp only[Up];gi_wp2
   exact hK
  case body=>
   rintro l pre x W F ⟨y,gF⟩ So;obtain⟨hk,rfl⟩:=Ju So;obtain⟨k,S4⟩:∃k,pre.length=k:=⟨_,rfl⟩
   have Ti:=za S4;rw[S4]at y hk So⊢;have pO:Hid (fM uW blk (k+1) s=CT (uW.getD k 0) (mG blk k) (fM uW blk k s)):=za rfl;have G3:=sI uW blk k J;obtain⟨t,ht⟩:∃t,fM uW blk k s=t:=⟨_,rfl⟩
   rw[ht]at y pO G3;obtain⟨ta,tb,tc,td,te,tf,tg,th⟩:=G3;have c6:W.cell? ⟨p 0,0,none⟩=some (.int .u32 t.a):=(y.box 0 (by omega)).cell 0;have c7:W.cell? ⟨p 1,0,none⟩=some (.int .u32 t.b):=(y.box 1 (by omega)).cell 0;have c8:W.cell? ⟨p 2,0,none⟩=some (.int .u32 t.c):=(y.box 2 (by omega)).cell 0;have c9:W.cell? ⟨p 3,0,none⟩=some (.int .u32 t.d):=(y.box 3 (by omega)).cell 0;have aX:W.cell? ⟨p 4,0,none⟩=some (.int .u32 t.e):=(y.box 4 (by omega)).cell 0;have a1:W.cell? ⟨p 5,0,none⟩=some (.int .u32 t.f):=(y.box 5 (by omega)).cell 0;have aS:W.cell? ⟨p 6,0,none⟩=some (.int .u32 t.g):=(y.box 6 (by omega)).cell 0;have aV:W.cell? ⟨p 7,0,none⟩=some (.int .u32 t.h):=(y.box 7 (by omega)).cell 0;have f6:=(y.box 0 (by omega)).frozen 0;have f7:=(y.box 1 (by omega)).frozen 0;have f8:=(y.box 2 (by omega)).frozen 0;have f9:=(y.box 3 (by omega)).frozen 0;have bH:=(y.box 4 (by omega)).frozen 0;have bs:=(y.box 5 (by omega)).frozen 0;have bI:=(y.box 6 (by omega)).frozen 0;have bh:=(y.box 7 (by omega)).frozen 0;have cf:W.cell? ⟨w.heap.size+1+1,0,none⟩=some (.func (.func 222) #[] #[]):=y.fn.cell 0;have YL:=za y;have aI:=za (Gl t.e t.f t.g te tf tg);have aJ:=za (NL t.a t.b t.c ta tb tc);have aM:=za (fun w=>Xl k w hk);have ch:=za (fun w=>XV t.e w te);have du:=za (fun w=>XW t.a w ta);clear ht y S4 So;generalize mG blk k=wk at*;generalize uW.getD k 0=kc at*;gi_wp2
   rw[aI.out,aJ.out];have RK:Hid (CT kc wk t=⟨(((t.h+Sg1 t.e+kc+wk+EI t.e t.f t.g)%4294967296)+((Sg0 t.a+uT t.a t.b t.c)%4294967296))%4294967296,t.a,t.b,t.c,(t.d+(t.h+Sg1 t.e+kc+wk+EI t.e t.f t.g)%4294967296)%4294967296,t.e,t.f,t.g⟩):=za rfl;clear aI aJ;generalize EI t.e t.f t.g=cv at*;generalize uT t.a t.b t.c=mv at*;generalize Sg1 t.e=g1 at*;generalize Sg0 t.a=g0 at*;refine kN l (by kernel_rfl) (by kernel_rfl) (by kernel_rfl) ?_;repeat(go_big_quiet_step (first|(with_reducible exact Calls.fj (ch.out _))|(with_reducible exact Calls.quiet_of (aM.out _))))
   refine xL ?_;intro nq;obtain⟨pv,L5⟩:∃pv,(t.h+g1+kc+wk+cv)%4294967296=pv:=⟨_,rfl⟩
   have aN:Hid ((((t.h:Int)+g1+kc+wk)%4294967296+cv)%4294967296=(pv:Int)):=za (by omega);have DR:pv<4294967296:=by omega
   rw[L5]at RK;clear L5;rw[aN.out];clear aN aM ch;gi_wp2_with fail
   refine⟨trivial,(CallsIn.inRound l (Yc.2 (du.out _))).mono ?_⟩;rintro e w' ⟨rfl,rfl⟩;have bu:(p 0=p 1)=False:=yD (z.out.2.2 0 1 (by omega) (by omega) (by omega));have bK:(p 0=p 2)=False:=yD (z.out.2.2 0 2 (by omega) (by omega) (by omega));have br:(p 0=p 3)=False:=yD (z.out.2.2 0 3 (by omega) (by omega) (by omega));have bm:(p 0=p 4)=False:=yD (z.out.2.2 0 4 (by omega) (by omega) (by omega));have bk:(p 0=p 5)=False:=yD (z.out.2.2 0 5 (by omega) (by omega) (by omega));have bJ:(p 0=p 6)=False:=yD (z.out.2.2 0 6 (by omega) (by omega) (by omega));have bc:(p 0=p 7)=False:=yD (z.out.2.2 0 7 (by omega) (by omega) (by omega));have bt:(p 1=p 2)=False:=yD (z.out.2.2 1 2 (by omega) (by omega) (by omega));have bb:(p 1=p 3)=False:=yD (z.out.2.2 1 3 (by omega) (by omega) (by omega));have bf:(p 1=p 4)=False:=yD (z.out.2.2 1 4 (by omega) (by omega) (by omega));have bC:(p 1=p 5)=False:=yD (z.out.2.2 1 5 (by omega) (by omega) (by omega));have bd:(p 1=p 6)=False:=yD (z.out.2.2 1 6 (by omega) (by omega) (by omega));have bF:(p 1=p 7)=False:=yD (z.out.2.2 1 7 (by omega) (by omega) (by omega));have bq:(p 2=p 3)=False:=yD (z.out.2.2 2 3 (by omega) (by omega) (by omega));have bg:(p 2=p 4)=False:=yD (z.out.2.2 2 4 (by omega) (by omega) (by omega));have a':(p 2=p 5)=False:=yD (z.out.2.2 2 5 (by omega) (by omega) (by omega));have bG:(p 2=p 6)=False:=yD (z.out.2.2 2 6 (by omega) (by omega) (by omega));have bl:(p 2=p 7)=False:=yD (z.out.2.2 2 7 (by omega) (by omega) (by omega))
   have bo:(p 3=p 4)=False:=yD (z.out.2.2 3 4 (by omega) (by omega) (by omega));have bx:(p 3=p 5)=False:=yD (z.out.2.2 3 5 (by omega) (by omega) (by omega));have bn:(p 3=p 6)=False:=yD (z.out.2.2 3 6 (by omega) (by omega) (by omega));have bp:(p 3=p 7)=False:=yD (z.out.2.2 3 7 (by omega) (by omega) (by omega));have bj:(p 4=p 5)=False:=yD (z.out.2.2 4 5 (by omega) (by omega) (by omega));have bw:(p 4=p 6)=False:=yD (z.out.2.2 4 6 (by omega) (by omega) (by omega));have bA:(p 4=p 7)=False:=yD (z.out.2.2 4 7 (by omega) (by omega) (by omega));have ba:(p 5=p 6)=False:=yD (z.out.2.2 5 6 (by omega) (by omega) (by omega));have bD:(p 5=p 7)=False:=yD (z.out.2.2 5 7 (by omega) (by omega) (by omega));have bz:(p 6=p 7)=False:=yD (z.out.2.2 6 7 (by omega) (by omega) (by omega));obtain⟨av,aK⟩:∃av,(pv+(g0+mv)%4294967296)%4294967296=av:=⟨_,rfl⟩
   obtain⟨ev,aG⟩:∃ev,(t.d+pv)%4294967296=ev:=⟨_,rfl⟩
   have aY:Hid (((pv:Int)+((g0:Int)+mv))%4294967296=(av:Int)):=za (by omega);have aT:Hid (((t.d:Int)+pv)%4294967296=(ev:Int)):=za (by omega);rw[aK,aG]at RK;clear aK aG;gi_wp2
   rw[aY.out,aT.out,Ti.out,pO.out,RK.out];have Z:o6 w w.heap.size p s t (W.drewN nq):=YL.out.ag (B:=W.heap.size) ((zl _ W).bG nq) (fun j E=>by have:=U5.out j E;omega) (by omega) (by omega);exact⟨((ae.refl (boxes p) W).drewN nq).trans (tt (W.drewN nq) p ⟨av,t.a,t.b,t.c,ev,t.e,t.f,t.g⟩),Z.put _ (fun j E=>by have:=z.out.1 j E;omega) (fun j E=>by have:=z.out.1 j E;omega) z.out.2.2⟩
  case dn=>
   rintro aa W hD ⟨y,gF⟩ hK;have Lx:(cU blk 64).length=64:=by simp[cU]
   rw[Lx]at y;have au:=aP;have G3:=sI uW blk 64 J;obtain⟨t,ht⟩:∃t,fM uW blk 64 s=t:=⟨_,rfl⟩
   rw[ht]at y au G3;obtain⟨ta,tb,tc,td,te,tf,tg,th⟩:=G3;obtain⟨sa,sb,sc,sd,se,sf,sg,sh⟩:=J;have c6:W.cell? ⟨p 0,0,none⟩=some (.int .u32 t.a):=(y.box 0 (by omega)).cell 0;have c7:W.cell? ⟨p 1,0,none⟩=some (.int .u32 t.b):=(y.box 1 (by omega)).cell 0;have c8:W.cell? ⟨p 2,0,none⟩=some (.int .u32 t.c):=(y.box 2 (by omega)).cell 0;have c9:W.cell? ⟨p 3,0,none⟩=some (.int .u32 t.d):=(y.box 3 (by omega)).cell 0;have aX:W.cell? ⟨p 4,0,none⟩=some (.int .u32 t.e):=(y.box 4 (by omega)).cell 0;have a1:W.cell? ⟨p 5,0,none⟩=some (.int .u32 t.f):=(y.box 5 (by omega)).cell 0;have aS:W.cell? ⟨p 6,0,none⟩=some (.int .u32 t.g):=(y.box 6 (by omega)).cell 0;have aV:W.cell? ⟨p 7,0,none⟩=some (.int .u32 t.h):=(y.box 7 (by omega)).cell 0;have YL:=za y;have aZ:=za hK;have R:Hid (w.heap.size+1<aa):=za (by omega);clear y ht hK;gi_wp2
   gi_loopw [98] (fun i wr=>jX w w.heap.size aa s t i wr) (fun i _=>8-(intOf i).toNat)
   case atStart=>exact⟨0,by omega,rfl,YL.out.sta,YL.out.res,YL.out.only,aZ.out⟩
   case round=>
    obtain⟨k,hk,rfl,c,I,kQ,ay⟩:=hrel.ex;have S:=za I;have Y:=za kQ;have U:=za ay;by_cases bB:k<8
    ·clear I kQ ay;have h8:k=0\/k=1\/k=2\/k=3\/k=4\/k=5\/k=6\/k=7:=by omega
     rcases h8 with rfl|rfl|rfl|rfl|rfl|rfl|rfl|rfl
     ·have q0:wr.cell? ⟨w.heap.size,0,none⟩=some (.int .u32 s.a):=c.cell 0;have q1:=c.frozen 0;have hi:∀w',(Instr.index 244 (.agg #[.int .u32 t.a,.int .u32 t.b,.int .u32 t.c,.int .u32 t.d,.int .u32 t.e,.int .u32 t.f,.int .u32 t.g,.int .u32 t.h]) (.int .i64 0)).run prog w'= .ok (.int .u32 t.a) w':=fun w'=>mh t w' 0 (.int .u32 t.a) rfl
      have N:=za (c.set 0 (.int .u32 ((s.a+t.a)%4294967296:Nat)));clear c;gi_wp2
      go_roundw
      case rel=>exact jX.next N.out S.out Y.out U.out R.out (by omega) (by omega) rfl (by simp)
      case measure=>simp[intOf]
     ·have q0:wr.cell? ⟨w.heap.size,1,none⟩=some (.int .u32 s.b):=c.cell 1;have q1:=c.frozen 1;have hi:∀w',(Instr.index 244 (.agg #[.int .u32 t.a,.int .u32 t.b,.int .u32 t.c,.int .u32 t.d,.int .u32 t.e,.int .u32 t.f,.int .u32 t.g,.int .u32 t.h]) (.int .i64 1)).run prog w'= .ok (.int .u32 t.b) w':=fun w'=>mh t w' 1 (.int .u32 t.b) rfl
      have N:=za (c.set 1 (.int .u32 ((s.b+t.b)%4294967296:Nat)));clear c;gi_wp2
      go_roundw
      case rel=>exact jX.next N.out S.out Y.out U.out R.out (by omega) (by omega) rfl (by simp)
      case measure=>simp[intOf]
     ·have q0:wr.cell? ⟨w.heap.size,2,none⟩=some (.int .u32 s.c):=c.cell 2;have q1:=c.frozen 2;have hi:∀w',(Instr.index 244 (.agg #[.int .u32 t.a,.int .u32 t.b,.int .u32 t.c,.int .u32 t.d,.int .u32 t.e,.int .u32 t.f,.int .u32 t.g,.int .u32 t.h]) (.int .i64 2)).run prog w'= .ok (.int .u32 t.c) w':=fun w'=>mh t w' 2 (.int .u32 t.c) rfl
      have N:=za (c.set 2 (.int .u32 ((s.c+t.c)%4294967296:Nat)));clear c;gi_wp2
      go_roundw
      case rel=>exact jX.next N.out S.out Y.out U.out R.out (by omega) (by omega) rfl (by simp)
      case measure=>simp[intOf]
     ·have q0:wr.cell? ⟨w.heap.size,3,none⟩=some (.int .u32 s.d):=c.cell 3;have q1:=c.frozen 3;have hi:∀w',(Instr.index 244 (.agg #[.int .u32 t.a,.int .u32 t.b,.int .u32 t.c,.int .u32 t.d,.int .u32 t.e,.int .u32 t.f,.int .u32 t.g,.int .u32 t.h]) (.int .i64 3)).run prog w'= .ok (.int .u32 t.d) w':=fun w'=>mh t w' 3 (.int .u32 t.d) rfl
      have N:=za (c.set 3 (.int .u32 ((s.d+t.d)%4294967296:Nat)));clear c;gi_wp2
      go_roundw
      case rel=>exact jX.next N.out S.out Y.out U.out R.out (by omega) (by omega) rfl (by simp)
      case measure=>simp[intOf]
     ·have q0:wr.cell? ⟨w.heap.size,4,none⟩=some (.int .u32 s.e):=c.cell 4;have q1:=c.frozen 4;have hi:∀w',(Instr.index 244 (.agg #[.int .u32 t.a,.int .u32 t.b,.int .u32 t.c,.int .u32 t.d,.int .u32 t.e,.int .u32 t.f,.int .u32 t.g,.int .u32 t.h]) (.int .i64 4)).run prog w'= .ok (.int .u32 t.e) w':=fun w'=>mh t w' 4 (.int .u32 t.e) rfl
      have N:=za (c.set 4 (.int .u32 ((s.e+t.e)%4294967296:Nat)));clear c;gi_wp2
      go_roundw
      case rel=>exact jX.next N.out S.out Y.out U.out R.out (by omega) (by omega) rfl (by simp)
      case measure=>simp[intOf]
     ·have q0:wr.cell? ⟨w.heap.size,5,none⟩=some (.int .u32 s.f):=c.cell 5;have q1:=c.frozen 5;have hi:∀w',(Instr.index 244 (.agg #[.int .u32 t.a,.int .u32 t.b,.int .u32 t.c,.int .u32 t.d,.int .u32 t.e,.int .u32 t.f,.int .u32 t.g,.int .u32 t.h]) (.int .i64 5)).run prog w'= .ok (.int .u32 t.f) w':=fun w'=>mh t w' 5 (.int .u32 t.f) rfl
      have N:=za (c.set 5 (.int .u32 ((s.f+t.f)%4294967296:Nat)));clear c;gi_wp2
      go_roundw
      case rel=>exact jX.next N.out S.out Y.out U.out R.out (by omega) (by omega) rfl (by simp)
      case measure=>simp[intOf]
     ·have q0:wr.cell? ⟨w.heap.size,6,none⟩=some (.int .u32 s.g):=c.cell 6;have q1:=c.frozen 6;have hi:∀w',(Instr.index 244 (.agg #[.int .u32 t.a,.int .u32 t.b,.int .u32 t.c,.int .u32 t.d,.int .u32 t.e,.int .u32 t.f,.int .u32 t.g,.int .u32 t.h]) (.int .i64 6)).run prog w'= .ok (.int .u32 t.g) w':=fun w'=>mh t w' 6 (.int .u32 t.g) rfl
      have N:=za (c.set 6 (.int .u32 ((s.g+t.g)%4294967296:Nat)));clear c;gi_wp2
      go_roundw
      case rel=>exact jX.next N.out S.out Y.out U.out R.out (by omega) (by omega) rfl (by simp)
      case measure=>simp[intOf]
     have q0:wr.cell? ⟨w.heap.size,7,none⟩=some (.int .u32 s.h):=c.cell 7;have q1:=c.frozen 7;have hi:∀w',(Instr.index 244 (.agg #[.int .u32 t.a,.int .u32 t.b,.int .u32 t.c,.int .u32 t.d,.int .u32 t.e,.int .u32 t.f,.int .u32 t.g,.int .u32 t.h]) (.int .i64 7)).run prog w'= .ok (.int .u32 t.h) w':=fun w'=>mh t w' 7 (.int .u32 t.h) rfl
     have N:=za (c.set 7 (.int .u32 ((s.h+t.h)%4294967296:Nat)));clear c;gi_wp2
     go_roundw
     case rel=>exact jX.next N.out S.out Y.out U.out R.out (by omega) (by omega) rfl (by simp)
     case measure=>simp[intOf]
    obtain rfl:k=8:=by omega
    obtain⟨u,hu⟩:∃u,tu 8 s t=u:=⟨_,rfl⟩
    rw[hu]at c au;clear hu;have q0:wr.cell? ⟨w.heap.size,0,none⟩=some (.int .u32 u.a):=c.cell 0;have q1:wr.cell? ⟨w.heap.size,1,none⟩=some (.int .u32 u.b):=c.cell 1;have q2:wr.cell? ⟨w.heap.size,2,none⟩=some (.int .u32 u.c):=c.cell 2;have q3:wr.cell? ⟨w.heap.size,3,none⟩=some (.int .u32 u.d):=c.cell 3;have q4:wr.cell? ⟨w.heap.size,4,none⟩=some (.int .u32 u.e):=c.cell 4;have q5:wr.cell? ⟨w.heap.size,5,none⟩=some (.int .u32 u.f):=c.cell 5;have q6:wr.cell? ⟨w.heap.size,6,none⟩=some (.int .u32 u.g):=c.cell 6;have q7:wr.cell? ⟨w.heap.size,7,none⟩=some (.int .u32 u.h):=c.cell 7;have r0:=I.cell 0;have r1:=I.cell 1;have r2:=I.cell 2;have r3:=I.cell 3;have r4:=I.cell 4;have r5:=I.cell 5;have r6:=I.cell 6;have r7:=I.cell 7;simp at r0 r1 r2 r3 r4 r5 r6 r7;have f0:=I.frozen 0;have f1:=I.frozen 1;have f2:=I.frozen 2;have f3:=I.frozen 3;have f4:=I.frozen 4;have f5:=I.frozen 5;have f6:=I.frozen 6;have f7:=I.frozen 7;clear c I kQ ay;gi_wp2
    have aH:(nT wr (w.heap.size+1) u).heap[aa]?=some (.deferred (some [])):=(Gm wr _ u aa (by have:=R.out;omega)).trans U.out;have mi:=Jv u S.out;have aU:=tv u Y.out (show w.heap.size<=w.heap.size+1 by omega);have Wy:=mi.only (iW _ aa (.deferred none)) (by have:=R.out;simp;omega);have Ww:=aU.trans' (iW _ aa (.deferred none)) (fun i hi=> .inr (by have:=R.out;simp at hi;omega));unfold nT at aH Wy Ww;refine⟨by simp,.inl ⟨_,_,rfl,run_takeDeferred aH, ?_⟩⟩;refine⟨_,XX u (g:=w.heap.size+1) rfl Wy, ?_,Ww⟩;rw[au.out];rfl
