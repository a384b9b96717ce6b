/- sha.mix: a block mixed into the state. -/
import Derived.Test.YtpjgigllldipiaaGreatDoorKA15
set_option linter.all false
set_option maxRecDepth 100000
set_option maxHeartbeats 4000000
namespace Go.Proofs.YtpjgigllldipiaaGreatDoor
open Go.RowKit Go.Shelf
attribute [local go_sem] Oper.semAt_some
def yL:=@eq_false
theorem U4 (s:Sh)(J:s.ok)(blk:ByteArray)(hb:blk.size=64)(w:World):
 Calls Tryz.prog 209 #[ke s,.string blk] w fun e w'=>e= .returned (ke (px uk s blk))/\ae [] w w':=by
 obtain⟨ag,hR⟩:∃ag,px uk s blk=ag:=⟨_,rfl⟩
 have aS:Hid (ag=sQ 8 s (fG uk blk 64 s)):=za (by rw[<-hR];exact Nd s blk);rw[hR];clear hR;have HB:Hid (af (w.alloc (.cells #[.int .u32 s.a,.int .u32 s.b,.int .u32 s.c,.int .u32 s.d,.int .u32 s.e,.int .u32 s.f,.int .u32 s.g,.int .u32 s.h] 250)) w.heap.size 250 #[.int .u32 s.a,.int .u32 s.b,.int .u32 s.c,.int .u32 s.d,.int .u32 s.e,.int .u32 s.f,.int .u32 s.g,.int .u32 s.h]):=za (af.new w _ _);unfold ke;refine(Yo (n:=5)).1 ?_;refine callsIn_of_wp_marks Tryz.func209 rfl trivial ?_ rfl;simp only[Tryz.ntmps209,Yf,zB,zO,Nat.reduceAdd,Nat.reduceSub,Array.replicate_succ,Array.replicate_zero,List.push_toArray,List.append_toArray,yD,ya];gi_upto_region 2 with(fail)
 obtain⟨d,cC⟩:∃d,((w.alloc (.cells #[.int .u32 s.a,.int .u32 s.b,.int .u32 s.c,.int .u32 s.d,.int .u32 s.e,.int .u32 s.f,.int .u32 s.g,.int .u32 s.h] 250)).alloc (.cells #[.int .u32 0,.int .u32 0,.int .u32 0,.int .u32 0,.int .u32 0,.int .u32 0,.int .u32 0,.int .u32 0] 250)).alloc (.cells #[.func (.func 219) #[] #[]] 263)=d:=⟨_,rfl⟩
 have l6:Hid (af d w.heap.size 250 #[.int .u32 s.a,.int .u32 s.b,.int .u32 s.c,.int .u32 s.d,.int .u32 s.e,.int .u32 s.f,.int .u32 s.g,.int .u32 s.h]):=za (by rw[<-cC];exact(HB.out.alloc _).alloc _);have aT:Hid (af d (w.heap.size+1) 250 #[.int .u32 0,.int .u32 0,.int .u32 0,.int .u32 0,.int .u32 0,.int .u32 0,.int .u32 0,.int .u32 0]):=za (by
  rw[<-cC];refine af.alloc ?_ _;have:=af.new (w.alloc (.cells #[.int .u32 s.a,.int .u32 s.b,.int .u32 s.c,.int .u32 s.d,.int .u32 s.e,.int .u32 s.f,.int .u32 s.g,.int .u32 s.h] 250)) 250 #[.int .u32 0,.int .u32 0,.int .u32 0,.int .u32 0,.int .u32 0,.int .u32 0,.int .u32 0,.int .u32 0];rwa [zu]at this)
 have tz:Hid (af d (w.heap.size+2) 263 #[.func (.func 219) #[] #[]]):=za (by
  rw[<-cC];have:=af.new ((w.alloc (.cells #[.int .u32 s.a,.int .u32 s.b,.int .u32 s.c,.int .u32 s.d,.int .u32 s.e,.int .u32 s.f,.int .u32 s.g,.int .u32 s.h] 250)).alloc (.cells #[.int .u32 0,.int .u32 0,.int .u32 0,.int .u32 0,.int .u32 0,.int .u32 0,.int .u32 0,.int .u32 0] 250)) 263 #[.func (.func 219) #[] #[]];simp only[zu]at this;exact this)
 have aX:Hid (ae [] w d):=za (by rw[<-cC];exact(((ae.refl [] w).alloc _).alloc _).alloc _);have AS:Hid (d.heap.size=w.heap.size+3):=za (by rw[<-cC];simp);rw[cC];clear cC HB;refine wpIn_wide.2 ?_;refine An (by kernel_rfl) (by kernel_rfl) (afP s blk w.heap.size d.drew) ?start ?step ?done;case start=>exact⟨fun _=>undef,0,fun _=>0,rfl,MJ.start _ _ _ _ _⟩
 case step=>
  have VS:Hid (af d.drew w.heap.size 250 #[.int .u32 s.a,.int .u32 s.b,.int .u32 s.c,.int .u32 s.d,.int .u32 s.e,.int .u32 s.f,.int .u32 s.g,.int .u32 s.h]):=l6;have ny:Hid (w.heap.size<d.drew.heap.size):=za (by have:=AS.out;show w.heap.size<d.heap.size;omega);rintro listed a w' i hi ⟨x,m,q,rfl,b⟩ hr;obtain⟨mc,o,K,C⟩:=Yy.1 hr;clear hr;have aU:i=0\/i=1\/i=2\/i=3\/i=4\/i=5\/i=6\/i=7\/i=8\/i=9\/i=10\/i=11\/i=12\/i=13\/i=14\/i=15\/i=16\/i=17\/i=18\/i=19\/i=20\/i=21\/i=22\/i=23\/i=24\/i=25\/i=26\/i=27\/i=28\/i=29\/i=30\/i=31:=by simp at hi;omega
  rcases aU with rfl|rfl|rfl|rfl|rfl|rfl|rfl|rfl|rfl|rfl|rfl|rfl|rfl|rfl|rfl|rfl|rfl|rfl|rfl|rfl|rfl|rfl|rfl|rfl|rfl|rfl|rfl|rfl|rfl|rfl|rfl|rfl
  ·refine aP rfl rfl ?_;unfold bA;go_simp;exact⟨kV x 22 _,m,q,rfl,b.addr 0 (by omega)⟩
  ·obtain rfl:=yt K;have hx:=b.ad 0 (by omega) (C ⟨0,.data⟩ (by simp) rfl);simp only[Nat.reduceMul,Nat.reduceAdd]at hx;have H:=af.cell ((b.bl.block _ ny.out).trans VS.out) 0;refine aP rfl rfl ?_;unfold bA;simp at H;simp only[hx];go_simp;refine⟨_,m,q, ?_,b.load 0 (by omega)⟩;simp[bA,kV,hx,dE,Sh.list]
  ·refine aP rfl rfl ?_;unfold bA;go_simp;exact⟨kV x 24 _,m,q,rfl,b.addr 1 (by omega)⟩
  ·obtain rfl:=yt K;have hx:=b.ad 1 (by omega) (C ⟨2,.data⟩ (by simp) rfl);simp only[Nat.reduceMul,Nat.reduceAdd]at hx;have H:=af.cell ((b.bl.block _ ny.out).trans VS.out) 1;refine aP rfl rfl ?_;unfold bA;simp at H;simp only[hx];go_simp;refine⟨_,m,q, ?_,b.load 1 (by omega)⟩;simp[bA,kV,hx,dE,Sh.list]
  ·refine aP rfl rfl ?_;unfold bA;go_simp;exact⟨kV x 26 _,m,q,rfl,b.addr 2 (by omega)⟩
  ·obtain rfl:=yt K;have hx:=b.ad 2 (by omega) (C ⟨4,.data⟩ (by simp) rfl);simp only[Nat.reduceMul,Nat.reduceAdd]at hx;have H:=af.cell ((b.bl.block _ ny.out).trans VS.out) 2;refine aP rfl rfl ?_;unfold bA;simp at H;simp only[hx];go_simp;refine⟨_,m,q, ?_,b.load 2 (by omega)⟩;simp[bA,kV,hx,dE,Sh.list]
  ·refine aP rfl rfl ?_;unfold bA;go_simp;exact⟨kV x 28 _,m,q,rfl,b.addr 3 (by omega)⟩
  ·obtain rfl:=yt K;have hx:=b.ad 3 (by omega) (C ⟨6,.data⟩ (by simp) rfl);simp only[Nat.reduceMul,Nat.reduceAdd]at hx;have H:=af.cell ((b.bl.block _ ny.out).trans VS.out) 3;refine aP rfl rfl ?_;unfold bA;simp at H;simp only[hx];go_simp;refine⟨_,m,q, ?_,b.load 3 (by omega)⟩;simp[bA,kV,hx,dE,Sh.list]
  ·refine aP rfl rfl ?_;unfold bA;go_simp;exact⟨kV x 30 _,m,q,rfl,b.addr 4 (by omega)⟩
  ·obtain rfl:=yt K;have hx:=b.ad 4 (by omega) (C ⟨8,.data⟩ (by simp) rfl);simp only[Nat.reduceMul,Nat.reduceAdd]at hx;have H:=af.cell ((b.bl.block _ ny.out).trans VS.out) 4;refine aP rfl rfl ?_;unfold bA;simp at H;simp only[hx];go_simp;refine⟨_,m,q, ?_,b.load 4 (by omega)⟩;simp[bA,kV,hx,dE,Sh.list]
  ·refine aP rfl rfl ?_;unfold bA;go_simp;exact⟨kV x 32 _,m,q,rfl,b.addr 5 (by omega)⟩
  ·obtain rfl:=yt K;have hx:=b.ad 5 (by omega) (C ⟨10,.data⟩ (by simp) rfl);simp only[Nat.reduceMul,Nat.reduceAdd]at hx;have H:=af.cell ((b.bl.block _ ny.out).trans VS.out) 5;refine aP rfl rfl ?_;unfold bA;simp at H;simp only[hx];go_simp;refine⟨_,m,q, ?_,b.load 5 (by omega)⟩;simp[bA,kV,hx,dE,Sh.list]
  ·refine aP rfl rfl ?_;unfold bA;go_simp;exact⟨kV x 34 _,m,q,rfl,b.addr 6 (by omega)⟩
  ·obtain rfl:=yt K;have hx:=b.ad 6 (by omega) (C ⟨12,.data⟩ (by simp) rfl);simp only[Nat.reduceMul,Nat.reduceAdd]at hx;have H:=af.cell ((b.bl.block _ ny.out).trans VS.out) 6;refine aP rfl rfl ?_;unfold bA;simp at H;simp only[hx];go_simp;refine⟨_,m,q, ?_,b.load 6 (by omega)⟩;simp[bA,kV,hx,dE,Sh.list]
  ·refine aP rfl rfl ?_;unfold bA;go_simp;exact⟨kV x 36 _,m,q,rfl,b.addr 7 (by omega)⟩
  ·obtain rfl:=yt K;have hx:=b.ad 7 (by omega) (C ⟨14,.data⟩ (by simp) rfl);simp only[Nat.reduceMul,Nat.reduceAdd]at hx;have H:=af.cell ((b.bl.block _ ny.out).trans VS.out) 7;refine aP rfl rfl ?_;unfold bA;simp at H;simp only[hx];go_simp;refine⟨_,m,q, ?_,b.load 7 (by omega)⟩;simp[bA,kV,hx,dE,Sh.list]
  ·refine aP rfl rfl ?_;unfold bA;go_simp;exact⟨kV x 6 _,m+1,_,rfl,b.alloc 0 (by omega) (Yc mc)⟩
  ·refine aP rfl rfl ?_;unfold bA;go_simp;exact⟨kV x 7 _,m+1,_,rfl,b.alloc 1 (by omega) (Yc mc)⟩
  ·refine aP rfl rfl ?_;unfold bA;go_simp;exact⟨kV x 8 _,m+1,_,rfl,b.alloc 2 (by omega) (Yc mc)⟩
  ·refine aP rfl rfl ?_;unfold bA;go_simp;exact⟨kV x 9 _,m+1,_,rfl,b.alloc 3 (by omega) (Yc mc)⟩
  ·refine aP rfl rfl ?_;unfold bA;go_simp;exact⟨kV x 10 _,m+1,_,rfl,b.alloc 4 (by omega) (Yc mc)⟩
  ·refine aP rfl rfl ?_;unfold bA;go_simp;exact⟨kV x 11 _,m+1,_,rfl,b.alloc 5 (by omega) (Yc mc)⟩
  ·refine aP rfl rfl ?_;unfold bA;go_simp;exact⟨kV x 12 _,m+1,_,rfl,b.alloc 6 (by omega) (Yc mc)⟩
  ·refine aP rfl rfl ?_;unfold bA;go_simp;exact⟨kV x 13 _,m+1,_,rfl,b.alloc 7 (by omega) (Yc mc)⟩
  ·obtain rfl:=yt K;have F:=C ⟨16,.data⟩ (by simp) rfl;obtain⟨hx,Y,D⟩:=b.al 0 (by omega) F;have r:=b.ld 0 (by omega) (C ⟨1,.data⟩ (by simp) rfl);have J:=za (b.store 0 (by omega) F);simp only[Nat.reduceMul,Nat.reduceAdd]at hx r D;replace hx:x 6= .pointer (some ⟨d.heap.size+q 0,0,none⟩):=hx;obtain⟨G,H⟩:∃G,w'.cell? ⟨d.heap.size+q 0,0,none⟩=some G:=⟨_,D.cell 0⟩
   have f0:w'.frozen? ⟨d.heap.size+q 0,0,none⟩=false:=D.frozen 0;have M:s.list.getD 0 0=s.a:=rfl;rw[M,dE]at r;refine aP rfl rfl ?_;unfold bA;simp only[hx,r];go_simp;refine⟨x,m,q, ?_,J.out⟩;simp[bA,hx,r]
  ·obtain rfl:=yt K;have F:=C ⟨17,.data⟩ (by simp) rfl;obtain⟨hx,Y,D⟩:=b.al 1 (by omega) F;have r:=b.ld 1 (by omega) (C ⟨3,.data⟩ (by simp) rfl);have J:=za (b.store 1 (by omega) F);simp only[Nat.reduceMul,Nat.reduceAdd]at hx r D;replace hx:x 7= .pointer (some ⟨d.heap.size+q 1,0,none⟩):=hx;obtain⟨G,H⟩:∃G,w'.cell? ⟨d.heap.size+q 1,0,none⟩=some G:=⟨_,D.cell 0⟩
   have f0:w'.frozen? ⟨d.heap.size+q 1,0,none⟩=false:=D.frozen 0;have M:s.list.getD 1 0=s.b:=rfl;rw[M,dE]at r;refine aP rfl rfl ?_;unfold bA;simp only[hx,r];go_simp;refine⟨x,m,q, ?_,J.out⟩;simp[bA,hx,r]
  ·obtain rfl:=yt K;have F:=C ⟨18,.data⟩ (by simp) rfl;obtain⟨hx,Y,D⟩:=b.al 2 (by omega) F;have r:=b.ld 2 (by omega) (C ⟨5,.data⟩ (by simp) rfl);have J:=za (b.store 2 (by omega) F);simp only[Nat.reduceMul,Nat.reduceAdd]at hx r D;replace hx:x 8= .pointer (some ⟨d.heap.size+q 2,0,none⟩):=hx;obtain⟨G,H⟩:∃G,w'.cell? ⟨d.heap.size+q 2,0,none⟩=some G:=⟨_,D.cell 0⟩
   have f0:w'.frozen? ⟨d.heap.size+q 2,0,none⟩=false:=D.frozen 0;have M:s.list.getD 2 0=s.c:=rfl;rw[M,dE]at r;refine aP rfl rfl ?_;unfold bA;simp only[hx,r];go_simp;refine⟨x,m,q, ?_,J.out⟩;simp[bA,hx,r]
  ·obtain rfl:=yt K;have F:=C ⟨19,.data⟩ (by simp) rfl;obtain⟨hx,Y,D⟩:=b.al 3 (by omega) F;have r:=b.ld 3 (by omega) (C ⟨7,.data⟩ (by simp) rfl);have J:=za (b.store 3 (by omega) F);simp only[Nat.reduceMul,Nat.reduceAdd]at hx r D;replace hx:x 9= .pointer (some ⟨d.heap.size+q 3,0,none⟩):=hx;obtain⟨G,H⟩:∃G,w'.cell? ⟨d.heap.size+q 3,0,none⟩=some G:=⟨_,D.cell 0⟩
   have f0:w'.frozen? ⟨d.heap.size+q 3,0,none⟩=false:=D.frozen 0;have M:s.list.getD 3 0=s.d:=rfl;rw[M,dE]at r;refine aP rfl rfl ?_;unfold bA;simp only[hx,r];go_simp;refine⟨x,m,q, ?_,J.out⟩;simp[bA,hx,r]
  ·obtain rfl:=yt K;have F:=C ⟨20,.data⟩ (by simp) rfl;obtain⟨hx,Y,D⟩:=b.al 4 (by omega) F;have r:=b.ld 4 (by omega) (C ⟨9,.data⟩ (by simp) rfl);have J:=za (b.store 4 (by omega) F);simp only[Nat.reduceMul,Nat.reduceAdd]at hx r D;replace hx:x 10= .pointer (some ⟨d.heap.size+q 4,0,none⟩):=hx;obtain⟨G,H⟩:∃G,w'.cell? ⟨d.heap.size+q 4,0,none⟩=some G:=⟨_,D.cell 0⟩
   have f0:w'.frozen? ⟨d.heap.size+q 4,0,none⟩=false:=D.frozen 0;have M:s.list.getD 4 0=s.e:=rfl;rw[M,dE]at r;refine aP rfl rfl ?_;unfold bA;simp only[hx,r];go_simp;refine⟨x,m,q, ?_,J.out⟩;simp[bA,hx,r]
  ·obtain rfl:=yt K;have F:=C ⟨21,.data⟩ (by simp) rfl;obtain⟨hx,Y,D⟩:=b.al 5 (by omega) F;have r:=b.ld 5 (by omega) (C ⟨11,.data⟩ (by simp) rfl);have J:=za (b.store 5 (by omega) F);simp only[Nat.reduceMul,Nat.reduceAdd]at hx r D;replace hx:x 11= .pointer (some ⟨d.heap.size+q 5,0,none⟩):=hx;obtain⟨G,H⟩:∃G,w'.cell? ⟨d.heap.size+q 5,0,none⟩=some G:=⟨_,D.cell 0⟩
   have f0:w'.frozen? ⟨d.heap.size+q 5,0,none⟩=false:=D.frozen 0;have M:s.list.getD 5 0=s.f:=rfl;rw[M,dE]at r;refine aP rfl rfl ?_;unfold bA;simp only[hx,r];go_simp;refine⟨x,m,q, ?_,J.out⟩;simp[bA,hx,r]
  ·obtain rfl:=yt K;have F:=C ⟨22,.data⟩ (by simp) rfl;obtain⟨hx,Y,D⟩:=b.al 6 (by omega) F;have r:=b.ld 6 (by omega) (C ⟨13,.data⟩ (by simp) rfl);have J:=za (b.store 6 (by omega) F);simp only[Nat.reduceMul,Nat.reduceAdd]at hx r D;replace hx:x 12= .pointer (some ⟨d.heap.size+q 6,0,none⟩):=hx;obtain⟨G,H⟩:∃G,w'.cell? ⟨d.heap.size+q 6,0,none⟩=some G:=⟨_,D.cell 0⟩
   have f0:w'.frozen? ⟨d.heap.size+q 6,0,none⟩=false:=D.frozen 0;have M:s.list.getD 6 0=s.g:=rfl;rw[M,dE]at r;refine aP rfl rfl ?_;unfold bA;simp only[hx,r];go_simp;refine⟨x,m,q, ?_,J.out⟩;simp[bA,hx,r]
  obtain rfl:=yt K;have F:=C ⟨23,.data⟩ (by simp) rfl;obtain⟨hx,Y,D⟩:=b.al 7 (by omega) F;have r:=b.ld 7 (by omega) (C ⟨15,.data⟩ (by simp) rfl);have J:=za (b.store 7 (by omega) F);simp only[Nat.reduceMul,Nat.reduceAdd]at hx r D;replace hx:x 13= .pointer (some ⟨d.heap.size+q 7,0,none⟩):=hx;obtain⟨G,H⟩:∃G,w'.cell? ⟨d.heap.size+q 7,0,none⟩=some G:=⟨_,D.cell 0⟩
  have f0:w'.frozen? ⟨d.heap.size+q 7,0,none⟩=false:=D.frozen 0;have M:s.list.getD 7 0=s.h:=rfl;rw[M,dE]at r;refine aP rfl rfl ?_;unfold bA;simp only[hx,r];go_simp;refine⟨x,m,q, ?_,J.out⟩;simp[bA,hx,r]
 case done=>
  rintro listed a N C ⟨x,m,q,rfl,b⟩;obtain⟨p,hp⟩:∃p:Nat->Nat,p=fun j=>d.heap.size+q j:=⟨_,rfl⟩
  have O:∀j,j<8->x (6+j)= .pointer (some ⟨p j,0,none⟩)/\af N (p j) 22 #[dE (s.list.getD j 0)]/\d.heap.size<=p j/\p j<N.heap.size:=by
   intro j E;obtain⟨e1,e2,e3⟩:=b.al j E (C _ (by simp;omega));rw[zl (C _ (by simp;omega))]at e3;subst hp;exact⟨e1,e3,Nat.le_add_right _ _,e3.lt⟩
  have ch:∀i j,i<8->j<8->i≠j->p i≠p j:=by
   intro i j hi E aY e;subst hp;exact b.ne i j hi E (C _ (by simp;omega)) (C _ (by simp;omega)) aY (by simpa using e)
  have S:∀j,j<8->x (22+2*j)= .pointer (some ⟨w.heap.size,j,none⟩):=fun j E=>b.ad j E (C _ (by simp;omega))
  have AJ:∀j,j<8->x (23+2*j)=dE (s.list.getD j 0):=fun j E=>b.ld j E (C _ (by simp;omega))
  have hM:oq w w.heap.size p s s N:=⟨fun j E=>(O j E).2.1,(b.bl.block _ (by have:=AS.out;show _<d.heap.size;omega)).trans l6.out,(b.bl.block _ (by have:=AS.out;show _<d.heap.size;omega)).trans aT.out,(b.bl.block _ (by have:=AS.out;show _<d.heap.size;omega)).trans tz.out,
   aX.out.trans ⟨b.bl.os,b.bl.tape,b.bl.output,b.bl.size,fun k hk _=>b.bl.block k hk⟩⟩
  have aO:∀j,j<8->w.heap.size+3<=p j:=fun j E=>by have:=(O j E).2.2.1;have:=AS.out;omega
  have GG:∀j,j<8->p j<N.heap.size:=fun j E=>(O j E).2.2.2
  have x6:=(O 0 (by omega)).1;have x7:=(O 1 (by omega)).1;have x8:=(O 2 (by omega)).1;have x9:=(O 3 (by omega)).1;have ax:=(O 4 (by omega)).1;have aq:=(O 5 (by omega)).1;have ad:=(O 6 (by omega)).1;have az:=(O 7 (by omega)).1;have ai:=S 0 (by omega);have aA:=S 1 (by omega);have ab:=S 2 (by omega);have ay:=S 3 (by omega);have aj:=S 4 (by omega);have aF:=S 5 (by omega);have ar:=S 6 (by omega);have aB:=S 7 (by omega);have au:=AJ 0 (by omega);have aw:=AJ 1 (by omega);have aD:=AJ 2 (by omega);have ak:=AJ 3 (by omega);have ah:=AJ 4 (by omega);have an:=AJ 5 (by omega);have aE:=AJ 6 (by omega);have al:=AJ 7 (by omega);simp only[Nat.reduceMul,Nat.reduceAdd,xp,dE,Sh.list,ZV,List.getD_cons_succ]at x6 x7 x8 x9 ax aq ad az ai aA ab ay aj aF ar aB au aw aD ak ah an aE al;unfold bA;simp only[x6,x7,x8,x9,ax,aq,ad,az,ai,aA,ab,ay,aj,aF,ar,aB,au,aw,aD,ak,ah,an,aE,al,ke];clear x6 x7 x8 x9 ax aq ad az ai aA ab ay aj aF ar aB au aw aD ak ah an aE al O S AJ b hp C;have HM:=za hM;have y:=za (And.intro aO (And.intro GG ch));clear hM aO GG ch;gi_wp2_with fail
  refine⟨trivial,(Yo.2 (Qg blk _)).mono ?_⟩;rintro e w2 ⟨rfl,rfl⟩;gi_wp2_with fail
  obtain⟨X,mf⟩:∃X,N.alloc (.cells #[.string blk] 9)=X:=⟨_,rfl⟩
  have cA:X.heap.size=N.heap.size+1:=by rw[<-mf];simp
  have a8:X.cell? ⟨N.heap.size,0,none⟩=some (.string blk):=by rw[<-mf];exact(af.new N 9 #[.string blk]).cell 0
  have qN:Hid (oq w w.heap.size p s s X):=za (HM.out.ag (B:=N.heap.size) (by rw[<-mf];exact(zq _ N).alloc (zi _) _) y.out.2.1 (by have:=HM.out.fn.lt;omega) HM.out.only.size);rw[mf];have lg:=HM.out.fn.lt;have aG:∀j,j<8->p j<X.heap.size:=fun j E=>by have:=y.out.2.1 j E;omega
  have Ur:=za aG;clear mf aG;refine vN rfl (by omega) (gf:=227) (lb:= #[.pointer (some ⟨N.heap.size,0,none⟩)]) rfl trivial (enters_of Tryz.func227 (by kernel_rfl) rfl)
   (I8 _ blk hb X N.heap.size (boxes p) a8 (by omega) (fun h=>by obtain⟨j,E,e⟩:=k8 h;have:=y.out.2.1 j E;omega) (fun i hi=>by obtain⟨j,E,e⟩:=k8 hi;have:=Ur.out j E;omega))
   (fun i hi=>by obtain⟨j,E,e⟩:=k8 hi;have:=Ur.out j E;omega) (fun _=>rfl)
   (fun pre W=>oq w w.heap.size p s (fG uk blk pre.length s) W/\N.heap.size<W.heap.size) ?hI ⟨qN.out,by show N.heap.size<X.heap.size;omega⟩
   (fun x=>{tmps:= #[.agg #[.int .u32 s.a,.int .u32 s.b,.int .u32 s.c,.int .u32 s.d,.int .u32 s.e,.int .u32 s.f,.int .u32 s.g,.int .u32 s.h],.string blk,.pointer (some ⟨w.heap.size,0,none⟩),undef,.pointer (some ⟨w.heap.size+1,0,none⟩),.pointer (some ⟨w.heap.size+1+1,0,none⟩),.pointer (some ⟨p 0,0,none⟩),.pointer (some ⟨p 1,0,none⟩),.pointer (some ⟨p 2,0,none⟩),.pointer (some ⟨p 3,0,none⟩),.pointer (some ⟨p 4,0,none⟩),.pointer (some ⟨p 5,0,none⟩),.pointer (some ⟨p 6,0,none⟩),.pointer (some ⟨p 7,0,none⟩),.int .i64 x.1,.int .u32 x.2,undef,undef,undef,undef,undef,undef,.pointer (some ⟨w.heap.size,0,none⟩),.int .u32 s.a,.pointer (some ⟨w.heap.size,1,none⟩),.int .u32 s.b,.pointer (some ⟨w.heap.size,2,none⟩),.int .u32 s.c,.pointer (some ⟨w.heap.size,3,none⟩),.int .u32 s.d,.pointer (some ⟨w.heap.size,4,none⟩),.int .u32 s.e,.pointer (some ⟨w.heap.size,5,none⟩),.int .u32 s.f,.pointer (some ⟨w.heap.size,6,none⟩),.int .u32 s.g,.pointer (some ⟨w.heap.size,7,none⟩),.int .u32 s.h,.string blk,.func (.func 227) #[] #[.pointer (some ⟨N.heap.size,0,none⟩)],.int .i64 x.1,.int .u32 x.2,undef,undef,undef,undef,undef,undef,undef,undef,undef,undef,undef,undef,undef,undef,undef,undef,undef,undef,undef,undef,undef,undef,undef,undef,undef,undef,undef,undef,undef,undef,undef,undef,undef,undef,undef,undef,undef,undef,undef,undef,undef,undef,undef,undef,undef,undef,undef,undef,undef,undef,undef,undef,undef,undef,undef,undef,undef,undef,undef,undef,undef,undef,undef,undef,undef,undef,undef,undef],defers:= []}) ?assign ?body ?dn
  case hI=>
   rintro pre A B ⟨h,F⟩ wm;have:=wm.size;exact⟨h.ag (B:=X.heap.size) wm Ur.out (by omega) (by omega),by omega⟩
  case assign=>
   intro l x W bo hK;simp only[TK];gi_wp2
   exact hK
  case body=>
   rintro l pre x W F ⟨z,ej⟩ RI;obtain⟨hk,rfl⟩:=I' RI;obtain⟨k,NG⟩:∃k,pre.length=k:=⟨_,rfl⟩
   have Sx:=za NG;rw[NG]at z hk RI⊢;have o8:Hid (fG uk blk (k+1) s=Cm (uk.getD k 0) (lY blk k) (fG uk blk k s)):=za rfl;have Gw:=rV uk blk k J;obtain⟨t,ht⟩:∃t,fG uk blk k s=t:=⟨_,rfl⟩
   rw[ht]at z o8 Gw;obtain⟨ta,tb,tc,td,te,tf,tg,th⟩:=Gw;have c6:W.cell? ⟨p 0,0,none⟩=some (.int .u32 t.a):=(z.box 0 (by omega)).cell 0;have c7:W.cell? ⟨p 1,0,none⟩=some (.int .u32 t.b):=(z.box 1 (by omega)).cell 0;have c8:W.cell? ⟨p 2,0,none⟩=some (.int .u32 t.c):=(z.box 2 (by omega)).cell 0;have c9:W.cell? ⟨p 3,0,none⟩=some (.int .u32 t.d):=(z.box 3 (by omega)).cell 0;have aZ:W.cell? ⟨p 4,0,none⟩=some (.int .u32 t.e):=(z.box 4 (by omega)).cell 0;have a1:W.cell? ⟨p 5,0,none⟩=some (.int .u32 t.f):=(z.box 5 (by omega)).cell 0;have aV:W.cell? ⟨p 6,0,none⟩=some (.int .u32 t.g):=(z.box 6 (by omega)).cell 0;have aQ:W.cell? ⟨p 7,0,none⟩=some (.int .u32 t.h):=(z.box 7 (by omega)).cell 0;have f6:=(z.box 0 (by omega)).frozen 0;have f7:=(z.box 1 (by omega)).frozen 0;have f8:=(z.box 2 (by omega)).frozen 0;have f9:=(z.box 3 (by omega)).frozen 0;have bH:=(z.box 4 (by omega)).frozen 0;have bJ:=(z.box 5 (by omega)).frozen 0;have bx:=(z.box 6 (by omega)).frozen 0;have bg:=(z.box 7 (by omega)).frozen 0;have cf:W.cell? ⟨w.heap.size+1+1,0,none⟩=some (.func (.func 219) #[] #[]):=z.fn.cell 0;have YF:=za z;have aJ:=za (FU t.e t.f t.g te tf tg);have aK:=za (Nc t.a t.b t.c ta tb tc);have aN:=za (fun w=>Wr k w hk);have cl:=za (fun w=>Xf t.e w te);have dU:=za (fun w=>Xg t.a w ta);clear ht z NG RI;generalize lY blk k=wk at*;generalize uk.getD k 0=kc at*;gi_wp2
   rw[aJ.out,aK.out];have Rc:Hid (Cm kc wk t=⟨(((t.h+Sg1 t.e+kc+wk+Eb t.e t.f t.g)%4294967296)+((Sg0 t.a+uh t.a t.b t.c)%4294967296))%4294967296,t.a,t.b,t.c,(t.d+(t.h+Sg1 t.e+kc+wk+Eb t.e t.f t.g)%4294967296)%4294967296,t.e,t.f,t.g⟩):=za rfl;clear aJ aK;generalize Eb t.e t.f t.g=cv at*;generalize uh t.a t.b t.c=mv at*;generalize Sg1 t.e=g1 at*;generalize Sg0 t.a=g0 at*;refine ku l (by kernel_rfl) (by kernel_rfl) (by kernel_rfl) ?_;repeat(go_big_quiet_step (first|(with_reducible exact Calls.eX (cl.out _))|(with_reducible exact Calls.quiet_of (aN.out _))))
   refine xN ?_;intro nq;obtain⟨pv,Lr⟩:∃pv,(t.h+g1+kc+wk+cv)%4294967296=pv:=⟨_,rfl⟩
   have aH:Hid ((((t.h:Int)+g1+kc+wk)%4294967296+cv)%4294967296=(pv:Int)):=za (by omega);have GG:pv<4294967296:=by omega
   rw[Lr]at Rc;clear Lr;rw[aH.out];clear aH aN cl;gi_wp2_with fail
   refine⟨trivial,(CallsIn.inRound l (Yo.2 (dU.out _))).mono ?_⟩;rintro e w' ⟨rfl,rfl⟩;have bG:(p 0=p 1)=False:=yL (y.out.2.2 0 1 (by omega) (by omega) (by omega));have bC:(p 0=p 2)=False:=yL (y.out.2.2 0 2 (by omega) (by omega) (by omega));have bF:(p 0=p 3)=False:=yL (y.out.2.2 0 3 (by omega) (by omega) (by omega));have bh:(p 0=p 4)=False:=yL (y.out.2.2 0 4 (by omega) (by omega) (by omega));have bq:(p 0=p 5)=False:=yL (y.out.2.2 0 5 (by omega) (by omega) (by omega));have bK:(p 0=p 6)=False:=yL (y.out.2.2 0 6 (by omega) (by omega) (by omega));have br:(p 0=p 7)=False:=yL (y.out.2.2 0 7 (by omega) (by omega) (by omega));have bk:(p 1=p 2)=False:=yL (y.out.2.2 1 2 (by omega) (by omega) (by omega));have bd:(p 1=p 3)=False:=yL (y.out.2.2 1 3 (by omega) (by omega) (by omega));have bl:(p 1=p 4)=False:=yL (y.out.2.2 1 4 (by omega) (by omega) (by omega));have bD:(p 1=p 5)=False:=yL (y.out.2.2 1 5 (by omega) (by omega) (by omega));have bf:(p 1=p 6)=False:=yL (y.out.2.2 1 6 (by omega) (by omega) (by omega));have bm:(p 1=p 7)=False:=yL (y.out.2.2 1 7 (by omega) (by omega) (by omega));have bn:(p 2=p 3)=False:=yL (y.out.2.2 2 3 (by omega) (by omega) (by omega));have bs:(p 2=p 4)=False:=yL (y.out.2.2 2 4 (by omega) (by omega) (by omega));have ba:(p 2=p 5)=False:=yL (y.out.2.2 2 5 (by omega) (by omega) (by omega));have bL:(p 2=p 6)=False:=yL (y.out.2.2 2 6 (by omega) (by omega) (by omega));have a':(p 2=p 7)=False:=yL (y.out.2.2 2 7 (by omega) (by omega) (by omega))
   have bt:(p 3=p 4)=False:=yL (y.out.2.2 3 4 (by omega) (by omega) (by omega));have bj:(p 3=p 5)=False:=yL (y.out.2.2 3 5 (by omega) (by omega) (by omega));have bb:(p 3=p 6)=False:=yL (y.out.2.2 3 6 (by omega) (by omega) (by omega));have bE:(p 3=p 7)=False:=yL (y.out.2.2 3 7 (by omega) (by omega) (by omega));have bI:(p 4=p 5)=False:=yL (y.out.2.2 4 5 (by omega) (by omega) (by omega));have bp:(p 4=p 6)=False:=yL (y.out.2.2 4 6 (by omega) (by omega) (by omega));have bw:(p 4=p 7)=False:=yL (y.out.2.2 4 7 (by omega) (by omega) (by omega));have bu:(p 5=p 6)=False:=yL (y.out.2.2 5 6 (by omega) (by omega) (by omega));have bz:(p 5=p 7)=False:=yL (y.out.2.2 5 7 (by omega) (by omega) (by omega));have bB:(p 6=p 7)=False:=yL (y.out.2.2 6 7 (by omega) (by omega) (by omega));obtain⟨av,aI⟩:∃av,(pv+(g0+mv)%4294967296)%4294967296=av:=⟨_,rfl⟩
   obtain⟨ev,aL⟩:∃ev,(t.d+pv)%4294967296=ev:=⟨_,rfl⟩
   have a7:Hid (((pv:Int)+((g0:Int)+mv))%4294967296=(av:Int)):=za (by omega);have aR:Hid (((t.d:Int)+pv)%4294967296=(ev:Int)):=za (by omega);rw[aI,aL]at Rc;clear aI aL;gi_wp2
   rw[a7.out,aR.out,Sx.out,o8.out,Rc.out];have Y:oq w w.heap.size p s t (W.drewN nq):=YF.out.ag (B:=W.heap.size) ((zq _ W).bE nq) (fun j E=>by have:=Ur.out j E;omega) (by omega) (by omega);exact⟨((ae.refl (boxes p) W).drewN nq).trans (sP (W.drewN nq) p ⟨av,t.a,t.b,t.c,ev,t.e,t.f,t.g⟩),Y.put _ (fun j E=>by have:=y.out.1 j E;omega) (fun j E=>by have:=y.out.1 j E;omega) y.out.2.2⟩
  case dn=>
   rintro aa W hD ⟨z,ej⟩ hK;have KU:(cQ blk 64).length=64:=by simp[cQ]
   rw[KU]at z;have ao:=aS;have Gw:=rV uk blk 64 J;obtain⟨t,ht⟩:∃t,fG uk blk 64 s=t:=⟨_,rfl⟩
   rw[ht]at z ao Gw;obtain⟨ta,tb,tc,td,te,tf,tg,th⟩:=Gw;obtain⟨sa,sb,sc,sd,se,sf,sg,sh⟩:=J;have c6:W.cell? ⟨p 0,0,none⟩=some (.int .u32 t.a):=(z.box 0 (by omega)).cell 0;have c7:W.cell? ⟨p 1,0,none⟩=some (.int .u32 t.b):=(z.box 1 (by omega)).cell 0;have c8:W.cell? ⟨p 2,0,none⟩=some (.int .u32 t.c):=(z.box 2 (by omega)).cell 0;have c9:W.cell? ⟨p 3,0,none⟩=some (.int .u32 t.d):=(z.box 3 (by omega)).cell 0;have aZ:W.cell? ⟨p 4,0,none⟩=some (.int .u32 t.e):=(z.box 4 (by omega)).cell 0;have a1:W.cell? ⟨p 5,0,none⟩=some (.int .u32 t.f):=(z.box 5 (by omega)).cell 0;have aV:W.cell? ⟨p 6,0,none⟩=some (.int .u32 t.g):=(z.box 6 (by omega)).cell 0;have aQ:W.cell? ⟨p 7,0,none⟩=some (.int .u32 t.h):=(z.box 7 (by omega)).cell 0;have YF:=za z;have aW:=za hK;have R:Hid (w.heap.size+1<aa):=za (by omega);clear z ht hK;gi_wp2
   gi_loopw [98] (fun i wr=>jH w w.heap.size aa s t i wr) (fun i _=>8-(intOf i).toNat)
   case atStart=>exact⟨0,by omega,rfl,YF.out.sta,YF.out.res,YF.out.only,aW.out⟩
   case round=>
    obtain⟨k,hk,rfl,c,I,ky,aC⟩:=hrel.ex;have U:=za I;have Lu:=za ky;have Z:=za aC;by_cases bc:k<8
    ·clear I ky aC;have h8:k=0\/k=1\/k=2\/k=3\/k=4\/k=5\/k=6\/k=7:=by omega
     rcases h8 with rfl|rfl|rfl|rfl|rfl|rfl|rfl|rfl
     ·have q0:wr.cell? ⟨w.heap.size,0,none⟩=some (.int .u32 s.a):=c.cell 0;have q1:=c.frozen 0;have hi:∀w',(Instr.index 250 (.agg #[.int .u32 t.a,.int .u32 t.b,.int .u32 t.c,.int .u32 t.d,.int .u32 t.e,.int .u32 t.f,.int .u32 t.g,.int .u32 t.h]) (.int .i64 0)).run Tryz.prog w'= .ok (.int .u32 t.a) w':=fun w'=>lJ t w' 0 (.int .u32 t.a) rfl
      have L:=za (c.set 0 (.int .u32 ((s.a+t.a)%4294967296:Nat)));clear c;gi_wp2
      go_roundw
      case rel=>exact jH.next L.out U.out Lu.out Z.out R.out (by omega) (by omega) rfl (by simp)
      case measure=>simp[intOf]
     ·have q0:wr.cell? ⟨w.heap.size,1,none⟩=some (.int .u32 s.b):=c.cell 1;have q1:=c.frozen 1;have hi:∀w',(Instr.index 250 (.agg #[.int .u32 t.a,.int .u32 t.b,.int .u32 t.c,.int .u32 t.d,.int .u32 t.e,.int .u32 t.f,.int .u32 t.g,.int .u32 t.h]) (.int .i64 1)).run Tryz.prog w'= .ok (.int .u32 t.b) w':=fun w'=>lJ t w' 1 (.int .u32 t.b) rfl
      have L:=za (c.set 1 (.int .u32 ((s.b+t.b)%4294967296:Nat)));clear c;gi_wp2
      go_roundw
      case rel=>exact jH.next L.out U.out Lu.out Z.out R.out (by omega) (by omega) rfl (by simp)
      case measure=>simp[intOf]
     ·have q0:wr.cell? ⟨w.heap.size,2,none⟩=some (.int .u32 s.c):=c.cell 2;have q1:=c.frozen 2;have hi:∀w',(Instr.index 250 (.agg #[.int .u32 t.a,.int .u32 t.b,.int .u32 t.c,.int .u32 t.d,.int .u32 t.e,.int .u32 t.f,.int .u32 t.g,.int .u32 t.h]) (.int .i64 2)).run Tryz.prog w'= .ok (.int .u32 t.c) w':=fun w'=>lJ t w' 2 (.int .u32 t.c) rfl
      have L:=za (c.set 2 (.int .u32 ((s.c+t.c)%4294967296:Nat)));clear c;gi_wp2
      go_roundw
      case rel=>exact jH.next L.out U.out Lu.out Z.out R.out (by omega) (by omega) rfl (by simp)
      case measure=>simp[intOf]
     ·have q0:wr.cell? ⟨w.heap.size,3,none⟩=some (.int .u32 s.d):=c.cell 3;have q1:=c.frozen 3;have hi:∀w',(Instr.index 250 (.agg #[.int .u32 t.a,.int .u32 t.b,.int .u32 t.c,.int .u32 t.d,.int .u32 t.e,.int .u32 t.f,.int .u32 t.g,.int .u32 t.h]) (.int .i64 3)).run Tryz.prog w'= .ok (.int .u32 t.d) w':=fun w'=>lJ t w' 3 (.int .u32 t.d) rfl
      have L:=za (c.set 3 (.int .u32 ((s.d+t.d)%4294967296:Nat)));clear c;gi_wp2
      go_roundw
      case rel=>exact jH.next L.out U.out Lu.out Z.out R.out (by omega) (by omega) rfl (by simp)
      case measure=>simp[intOf]
     ·have q0:wr.cell? ⟨w.heap.size,4,none⟩=some (.int .u32 s.e):=c.cell 4;have q1:=c.frozen 4;have hi:∀w',(Instr.index 250 (.agg #[.int .u32 t.a,.int .u32 t.b,.int .u32 t.c,.int .u32 t.d,.int .u32 t.e,.int .u32 t.f,.int .u32 t.g,.int .u32 t.h]) (.int .i64 4)).run Tryz.prog w'= .ok (.int .u32 t.e) w':=fun w'=>lJ t w' 4 (.int .u32 t.e) rfl
      have L:=za (c.set 4 (.int .u32 ((s.e+t.e)%4294967296:Nat)));clear c;gi_wp2
      go_roundw
      case rel=>exact jH.next L.out U.out Lu.out Z.out R.out (by omega) (by omega) rfl (by simp)
      case measure=>simp[intOf]
     ·have q0:wr.cell? ⟨w.heap.size,5,none⟩=some (.int .u32 s.f):=c.cell 5;have q1:=c.frozen 5;have hi:∀w',(Instr.index 250 (.agg #[.int .u32 t.a,.int .u32 t.b,.int .u32 t.c,.int .u32 t.d,.int .u32 t.e,.int .u32 t.f,.int .u32 t.g,.int .u32 t.h]) (.int .i64 5)).run Tryz.prog w'= .ok (.int .u32 t.f) w':=fun w'=>lJ t w' 5 (.int .u32 t.f) rfl
      have L:=za (c.set 5 (.int .u32 ((s.f+t.f)%4294967296:Nat)));clear c;gi_wp2
      go_roundw
      case rel=>exact jH.next L.out U.out Lu.out Z.out R.out (by omega) (by omega) rfl (by simp)
      case measure=>simp[intOf]
     ·have q0:wr.cell? ⟨w.heap.size,6,none⟩=some (.int .u32 s.g):=c.cell 6;have q1:=c.frozen 6;have hi:∀w',(Instr.index 250 (.agg #[.int .u32 t.a,.int .u32 t.b,.int .u32 t.c,.int .u32 t.d,.int .u32 t.e,.int .u32 t.f,.int .u32 t.g,.int .u32 t.h]) (.int .i64 6)).run Tryz.prog w'= .ok (.int .u32 t.g) w':=fun w'=>lJ t w' 6 (.int .u32 t.g) rfl
      have L:=za (c.set 6 (.int .u32 ((s.g+t.g)%4294967296:Nat)));clear c;gi_wp2
      go_roundw
      case rel=>exact jH.next L.out U.out Lu.out Z.out R.out (by omega) (by omega) rfl (by simp)
      case measure=>simp[intOf]
     have q0:wr.cell? ⟨w.heap.size,7,none⟩=some (.int .u32 s.h):=c.cell 7;have q1:=c.frozen 7;have hi:∀w',(Instr.index 250 (.agg #[.int .u32 t.a,.int .u32 t.b,.int .u32 t.c,.int .u32 t.d,.int .u32 t.e,.int .u32 t.f,.int .u32 t.g,.int .u32 t.h]) (.int .i64 7)).run Tryz.prog w'= .ok (.int .u32 t.h) w':=fun w'=>lJ t w' 7 (.int .u32 t.h) rfl
     have L:=za (c.set 7 (.int .u32 ((s.h+t.h)%4294967296:Nat)));clear c;gi_wp2
     go_roundw
     case rel=>exact jH.next L.out U.out Lu.out Z.out R.out (by omega) (by omega) rfl (by simp)
     case measure=>simp[intOf]
    obtain rfl:k=8:=by omega
    obtain⟨u,hu⟩:∃u,sQ 8 s t=u:=⟨_,rfl⟩
    rw[hu]at c ao;clear hu;have q0:wr.cell? ⟨w.heap.size,0,none⟩=some (.int .u32 u.a):=c.cell 0;have q1:wr.cell? ⟨w.heap.size,1,none⟩=some (.int .u32 u.b):=c.cell 1;have q2:wr.cell? ⟨w.heap.size,2,none⟩=some (.int .u32 u.c):=c.cell 2;have q3:wr.cell? ⟨w.heap.size,3,none⟩=some (.int .u32 u.d):=c.cell 3;have q4:wr.cell? ⟨w.heap.size,4,none⟩=some (.int .u32 u.e):=c.cell 4;have q5:wr.cell? ⟨w.heap.size,5,none⟩=some (.int .u32 u.f):=c.cell 5;have q6:wr.cell? ⟨w.heap.size,6,none⟩=some (.int .u32 u.g):=c.cell 6;have q7:wr.cell? ⟨w.heap.size,7,none⟩=some (.int .u32 u.h):=c.cell 7;have r0:=I.cell 0;have r1:=I.cell 1;have r2:=I.cell 2;have r3:=I.cell 3;have r4:=I.cell 4;have r5:=I.cell 5;have r6:=I.cell 6;have r7:=I.cell 7;simp at r0 r1 r2 r3 r4 r5 r6 r7;have f0:=I.frozen 0;have f1:=I.frozen 1;have f2:=I.frozen 2;have f3:=I.frozen 3;have f4:=I.frozen 4;have f5:=I.frozen 5;have f6:=I.frozen 6;have f7:=I.frozen 7;clear c I ky aC;gi_wp2
    have aM:(nk wr (w.heap.size+1) u).heap[aa]?=some (.deferred (some [])):=(FW wr _ u aa (by have:=R.out;omega)).trans Z.out;have lL:=Ja u U.out;have a6:=sR u Lu.out (show w.heap.size<=w.heap.size+1 by omega);have VT:=lL.only (iB _ aa (.deferred none)) (by have:=R.out;simp;omega);have VU:=a6.trans' (iB _ aa (.deferred none)) (fun i hi=> .inr (by have:=R.out;simp at hi;omega));unfold nk at aM VT VU;refine⟨by simp,.inl ⟨_,_,rfl,run_takeDeferred aM, ?_⟩⟩;refine⟨_,Xh u (g:=w.heap.size+1) rfl VT, ?_,VU⟩;rw[ao.out];rfl
