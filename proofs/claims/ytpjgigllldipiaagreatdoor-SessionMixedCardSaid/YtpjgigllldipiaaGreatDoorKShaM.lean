/- sha.mix: a block mixed into the state. -/
import Derived.Test.YtpjgigllldipiaaGreatDoorKA15
set_option linter.all false
set_option maxRecDepth 100000
set_option maxHeartbeats 4000000
namespace Go.Proofs.YtpjgigllldipiaaGreatDoor
open Tryz
open Go.RowKit Go.Shelf
attribute [local go_sem] Oper.semAt_some
def yL:=@eq_false
theorem UH (s:Sh)(J:s.ok)(blk:ByteArray)(hb:blk.size=64)(w:World):
 Calls prog 209 #[j8 s,.string blk] w fun e w'=>e= .returned (j8 (pj tZ s blk))/\ae [] w w':=by
 obtain⟨ag,hR⟩:∃ag,pj tZ s blk=ag:=⟨_,rfl⟩
 have aY:Hid (ag=sN 8 s (fx tZ blk 64 s)):=za (by rw[<-hR];exact MU s blk);rw[hR];clear hR;have HB:Hid (af (w.alloc (.cells #[.int .u32 s.a,.int .u32 s.b,.int .u32 s.c,.int .u32 s.d,.int .u32 s.e,.int .u32 s.f,.int .u32 s.g,.int .u32 s.h] 250)) w.heap.size 250 #[.int .u32 s.a,.int .u32 s.b,.int .u32 s.c,.int .u32 s.d,.int .u32 s.e,.int .u32 s.f,.int .u32 s.g,.int .u32 s.h]):=za (af.new w _ _);unfold j8;refine(Yn (n:=5)).1 ?_;refine callsIn_of_wp_marks func209 rfl trivial ?_ rfl;simp only[ntmps209,Yf,zD,zS,Nat.reduceAdd,Nat.reduceSub,Array.replicate_succ,Array.replicate_zero,List.push_toArray,List.append_toArray,yE,ya];gi_upto_region 2 with(fail)
 obtain⟨d,cB⟩:∃d,((w.alloc (.cells #[.int .u32 s.a,.int .u32 s.b,.int .u32 s.c,.int .u32 s.d,.int .u32 s.e,.int .u32 s.f,.int .u32 s.g,.int .u32 s.h] 250)).alloc (.cells #[.int .u32 0,.int .u32 0,.int .u32 0,.int .u32 0,.int .u32 0,.int .u32 0,.int .u32 0,.int .u32 0] 250)).alloc (.cells #[.func (.func 219) #[] #[]] 263)=d:=⟨_,rfl⟩
 have lZ:Hid (af d w.heap.size 250 #[.int .u32 s.a,.int .u32 s.b,.int .u32 s.c,.int .u32 s.d,.int .u32 s.e,.int .u32 s.f,.int .u32 s.g,.int .u32 s.h]):=za (by rw[<-cB];exact(HB.out.alloc _).alloc _);have a1:Hid (af d (w.heap.size+1) 250 #[.int .u32 0,.int .u32 0,.int .u32 0,.int .u32 0,.int .u32 0,.int .u32 0,.int .u32 0,.int .u32 0]):=za (by
  rw[<-cB];refine af.alloc ?_ _;have:=af.new (w.alloc (.cells #[.int .u32 s.a,.int .u32 s.b,.int .u32 s.c,.int .u32 s.d,.int .u32 s.e,.int .u32 s.f,.int .u32 s.g,.int .u32 s.h] 250)) 250 #[.int .u32 0,.int .u32 0,.int .u32 0,.int .u32 0,.int .u32 0,.int .u32 0,.int .u32 0,.int .u32 0];rwa [zt]at this)
 have tr:Hid (af d (w.heap.size+2) 263 #[.func (.func 219) #[] #[]]):=za (by
  rw[<-cB];have:=af.new ((w.alloc (.cells #[.int .u32 s.a,.int .u32 s.b,.int .u32 s.c,.int .u32 s.d,.int .u32 s.e,.int .u32 s.f,.int .u32 s.g,.int .u32 s.h] 250)).alloc (.cells #[.int .u32 0,.int .u32 0,.int .u32 0,.int .u32 0,.int .u32 0,.int .u32 0,.int .u32 0,.int .u32 0] 250)) 263 #[.func (.func 219) #[] #[]];simp only[zt]at this;exact this)
 have aS:Hid (ae [] w d):=za (by rw[<-cB];exact(((ae.refl [] w).alloc _).alloc _).alloc _);have AL:Hid (d.heap.size=w.heap.size+3):=za (by rw[<-cB];simp);rw[cB];clear cB HB;refine wpIn_wide.2 ?_;refine Ae (by kernel_rfl) (by kernel_rfl) (aft s blk w.heap.size d.drew) ?start ?step ?done;case start=>exact⟨fun _=>undef,0,fun _=>0,rfl,MJ.start _ _ _ _ _⟩
 case step=>
  have Vt:Hid (af d.drew w.heap.size 250 #[.int .u32 s.a,.int .u32 s.b,.int .u32 s.c,.int .u32 s.d,.int .u32 s.e,.int .u32 s.f,.int .u32 s.g,.int .u32 s.h]):=lZ;have nn:Hid (w.heap.size<d.drew.heap.size):=za (by have:=AL.out;show w.heap.size<d.heap.size;omega);rintro listed a w' i hi ⟨x,m,q,rfl,b⟩ hr;obtain⟨l9,o,K,C⟩:=Yx.1 hr;clear hr;have a8:i=0\/i=1\/i=2\/i=3\/i=4\/i=5\/i=6\/i=7\/i=8\/i=9\/i=10\/i=11\/i=12\/i=13\/i=14\/i=15\/i=16\/i=17\/i=18\/i=19\/i=20\/i=21\/i=22\/i=23\/i=24\/i=25\/i=26\/i=27\/i=28\/i=29\/i=30\/i=31:=by simp at hi;omega
  rcases a8 with rfl|rfl|rfl|rfl|rfl|rfl|rfl|rfl|rfl|rfl|rfl|rfl|rfl|rfl|rfl|rfl|rfl|rfl|rfl|rfl|rfl|rfl|rfl|rfl|rfl|rfl|rfl|rfl|rfl|rfl|rfl|rfl
  ·refine aP rfl rfl ?_;unfold bw;go_simp;exact⟨kP x 22 _,m,q,rfl,b.addr 0 (by omega)⟩
  ·obtain rfl:=yt K;have hx:=b.ad 0 (by omega) (C ⟨0,.data⟩ (by simp) rfl);simp only[Nat.reduceMul,Nat.reduceAdd]at hx;have H:=af.cell ((b.bl.block _ nn.out).trans Vt.out) 0;refine aP rfl rfl ?_;unfold bw;simp at H;simp only[hx];go_simp;refine⟨_,m,q, ?_,b.load 0 (by omega)⟩;simp[bw,kP,hx,dy,Sh.list]
  ·refine aP rfl rfl ?_;unfold bw;go_simp;exact⟨kP x 24 _,m,q,rfl,b.addr 1 (by omega)⟩
  ·obtain rfl:=yt K;have hx:=b.ad 1 (by omega) (C ⟨2,.data⟩ (by simp) rfl);simp only[Nat.reduceMul,Nat.reduceAdd]at hx;have H:=af.cell ((b.bl.block _ nn.out).trans Vt.out) 1;refine aP rfl rfl ?_;unfold bw;simp at H;simp only[hx];go_simp;refine⟨_,m,q, ?_,b.load 1 (by omega)⟩;simp[bw,kP,hx,dy,Sh.list]
  ·refine aP rfl rfl ?_;unfold bw;go_simp;exact⟨kP x 26 _,m,q,rfl,b.addr 2 (by omega)⟩
  ·obtain rfl:=yt K;have hx:=b.ad 2 (by omega) (C ⟨4,.data⟩ (by simp) rfl);simp only[Nat.reduceMul,Nat.reduceAdd]at hx;have H:=af.cell ((b.bl.block _ nn.out).trans Vt.out) 2;refine aP rfl rfl ?_;unfold bw;simp at H;simp only[hx];go_simp;refine⟨_,m,q, ?_,b.load 2 (by omega)⟩;simp[bw,kP,hx,dy,Sh.list]
  ·refine aP rfl rfl ?_;unfold bw;go_simp;exact⟨kP x 28 _,m,q,rfl,b.addr 3 (by omega)⟩
  ·obtain rfl:=yt K;have hx:=b.ad 3 (by omega) (C ⟨6,.data⟩ (by simp) rfl);simp only[Nat.reduceMul,Nat.reduceAdd]at hx;have H:=af.cell ((b.bl.block _ nn.out).trans Vt.out) 3;refine aP rfl rfl ?_;unfold bw;simp at H;simp only[hx];go_simp;refine⟨_,m,q, ?_,b.load 3 (by omega)⟩;simp[bw,kP,hx,dy,Sh.list]
  ·refine aP rfl rfl ?_;unfold bw;go_simp;exact⟨kP x 30 _,m,q,rfl,b.addr 4 (by omega)⟩
  ·obtain rfl:=yt K;have hx:=b.ad 4 (by omega) (C ⟨8,.data⟩ (by simp) rfl);simp only[Nat.reduceMul,Nat.reduceAdd]at hx;have H:=af.cell ((b.bl.block _ nn.out).trans Vt.out) 4;refine aP rfl rfl ?_;unfold bw;simp at H;simp only[hx];go_simp;refine⟨_,m,q, ?_,b.load 4 (by omega)⟩;simp[bw,kP,hx,dy,Sh.list]
  ·refine aP rfl rfl ?_;unfold bw;go_simp;exact⟨kP x 32 _,m,q,rfl,b.addr 5 (by omega)⟩
  ·obtain rfl:=yt K;have hx:=b.ad 5 (by omega) (C ⟨10,.data⟩ (by simp) rfl);simp only[Nat.reduceMul,Nat.reduceAdd]at hx;have H:=af.cell ((b.bl.block _ nn.out).trans Vt.out) 5;refine aP rfl rfl ?_;unfold bw;simp at H;simp only[hx];go_simp;refine⟨_,m,q, ?_,b.load 5 (by omega)⟩;simp[bw,kP,hx,dy,Sh.list]
  ·refine aP rfl rfl ?_;unfold bw;go_simp;exact⟨kP x 34 _,m,q,rfl,b.addr 6 (by omega)⟩
  ·obtain rfl:=yt K;have hx:=b.ad 6 (by omega) (C ⟨12,.data⟩ (by simp) rfl);simp only[Nat.reduceMul,Nat.reduceAdd]at hx;have H:=af.cell ((b.bl.block _ nn.out).trans Vt.out) 6;refine aP rfl rfl ?_;unfold bw;simp at H;simp only[hx];go_simp;refine⟨_,m,q, ?_,b.load 6 (by omega)⟩;simp[bw,kP,hx,dy,Sh.list]
  ·refine aP rfl rfl ?_;unfold bw;go_simp;exact⟨kP x 36 _,m,q,rfl,b.addr 7 (by omega)⟩
  ·obtain rfl:=yt K;have hx:=b.ad 7 (by omega) (C ⟨14,.data⟩ (by simp) rfl);simp only[Nat.reduceMul,Nat.reduceAdd]at hx;have H:=af.cell ((b.bl.block _ nn.out).trans Vt.out) 7;refine aP rfl rfl ?_;unfold bw;simp at H;simp only[hx];go_simp;refine⟨_,m,q, ?_,b.load 7 (by omega)⟩;simp[bw,kP,hx,dy,Sh.list]
  ·refine aP rfl rfl ?_;unfold bw;go_simp;exact⟨kP x 6 _,m+1,_,rfl,b.alloc 0 (by omega) (Yc l9)⟩
  ·refine aP rfl rfl ?_;unfold bw;go_simp;exact⟨kP x 7 _,m+1,_,rfl,b.alloc 1 (by omega) (Yc l9)⟩
  ·refine aP rfl rfl ?_;unfold bw;go_simp;exact⟨kP x 8 _,m+1,_,rfl,b.alloc 2 (by omega) (Yc l9)⟩
  ·refine aP rfl rfl ?_;unfold bw;go_simp;exact⟨kP x 9 _,m+1,_,rfl,b.alloc 3 (by omega) (Yc l9)⟩
  ·refine aP rfl rfl ?_;unfold bw;go_simp;exact⟨kP x 10 _,m+1,_,rfl,b.alloc 4 (by omega) (Yc l9)⟩
  ·refine aP rfl rfl ?_;unfold bw;go_simp;exact⟨kP x 11 _,m+1,_,rfl,b.alloc 5 (by omega) (Yc l9)⟩
  ·refine aP rfl rfl ?_;unfold bw;go_simp;exact⟨kP x 12 _,m+1,_,rfl,b.alloc 6 (by omega) (Yc l9)⟩
  ·refine aP rfl rfl ?_;unfold bw;go_simp;exact⟨kP x 13 _,m+1,_,rfl,b.alloc 7 (by omega) (Yc l9)⟩
  ·obtain rfl:=yt K;have F:=C ⟨16,.data⟩ (by simp) rfl;obtain⟨hx,hq,D⟩:=b.al 0 (by omega) F;have r:=b.ld 0 (by omega) (C ⟨1,.data⟩ (by simp) rfl);have J:=za (b.store 0 (by omega) F);simp only[Nat.reduceMul,Nat.reduceAdd]at hx r D;replace hx:x 6= .pointer (some ⟨d.heap.size+q 0,0,none⟩):=hx;obtain⟨G,H⟩:∃G,w'.cell? ⟨d.heap.size+q 0,0,none⟩=some G:=⟨_,D.cell 0⟩
   have f0:w'.frozen? ⟨d.heap.size+q 0,0,none⟩=false:=D.frozen 0;have N:s.list.getD 0 0=s.a:=rfl;rw[N,dy]at r;refine aP rfl rfl ?_;unfold bw;simp only[hx,r];go_simp;refine⟨x,m,q, ?_,J.out⟩;simp[bw,hx,r]
  ·obtain rfl:=yt K;have F:=C ⟨17,.data⟩ (by simp) rfl;obtain⟨hx,hq,D⟩:=b.al 1 (by omega) F;have r:=b.ld 1 (by omega) (C ⟨3,.data⟩ (by simp) rfl);have J:=za (b.store 1 (by omega) F);simp only[Nat.reduceMul,Nat.reduceAdd]at hx r D;replace hx:x 7= .pointer (some ⟨d.heap.size+q 1,0,none⟩):=hx;obtain⟨G,H⟩:∃G,w'.cell? ⟨d.heap.size+q 1,0,none⟩=some G:=⟨_,D.cell 0⟩
   have f0:w'.frozen? ⟨d.heap.size+q 1,0,none⟩=false:=D.frozen 0;have N:s.list.getD 1 0=s.b:=rfl;rw[N,dy]at r;refine aP rfl rfl ?_;unfold bw;simp only[hx,r];go_simp;refine⟨x,m,q, ?_,J.out⟩;simp[bw,hx,r]
  ·obtain rfl:=yt K;have F:=C ⟨18,.data⟩ (by simp) rfl;obtain⟨hx,hq,D⟩:=b.al 2 (by omega) F;have r:=b.ld 2 (by omega) (C ⟨5,.data⟩ (by simp) rfl);have J:=za (b.store 2 (by omega) F);simp only[Nat.reduceMul,Nat.reduceAdd]at hx r D;replace hx:x 8= .pointer (some ⟨d.heap.size+q 2,0,none⟩):=hx;obtain⟨G,H⟩:∃G,w'.cell? ⟨d.heap.size+q 2,0,none⟩=some G:=⟨_,D.cell 0⟩
   have f0:w'.frozen? ⟨d.heap.size+q 2,0,none⟩=false:=D.frozen 0;have N:s.list.getD 2 0=s.c:=rfl;rw[N,dy]at r;refine aP rfl rfl ?_;unfold bw;simp only[hx,r];go_simp;refine⟨x,m,q, ?_,J.out⟩;simp[bw,hx,r]
  ·obtain rfl:=yt K;have F:=C ⟨19,.data⟩ (by simp) rfl;obtain⟨hx,hq,D⟩:=b.al 3 (by omega) F;have r:=b.ld 3 (by omega) (C ⟨7,.data⟩ (by simp) rfl);have J:=za (b.store 3 (by omega) F);simp only[Nat.reduceMul,Nat.reduceAdd]at hx r D;replace hx:x 9= .pointer (some ⟨d.heap.size+q 3,0,none⟩):=hx;obtain⟨G,H⟩:∃G,w'.cell? ⟨d.heap.size+q 3,0,none⟩=some G:=⟨_,D.cell 0⟩
   have f0:w'.frozen? ⟨d.heap.size+q 3,0,none⟩=false:=D.frozen 0;have N:s.list.getD 3 0=s.d:=rfl;rw[N,dy]at r;refine aP rfl rfl ?_;unfold bw;simp only[hx,r];go_simp;refine⟨x,m,q, ?_,J.out⟩;simp[bw,hx,r]
  ·obtain rfl:=yt K;have F:=C ⟨20,.data⟩ (by simp) rfl;obtain⟨hx,hq,D⟩:=b.al 4 (by omega) F;have r:=b.ld 4 (by omega) (C ⟨9,.data⟩ (by simp) rfl);have J:=za (b.store 4 (by omega) F);simp only[Nat.reduceMul,Nat.reduceAdd]at hx r D;replace hx:x 10= .pointer (some ⟨d.heap.size+q 4,0,none⟩):=hx;obtain⟨G,H⟩:∃G,w'.cell? ⟨d.heap.size+q 4,0,none⟩=some G:=⟨_,D.cell 0⟩
   have f0:w'.frozen? ⟨d.heap.size+q 4,0,none⟩=false:=D.frozen 0;have N:s.list.getD 4 0=s.e:=rfl;rw[N,dy]at r;refine aP rfl rfl ?_;unfold bw;simp only[hx,r];go_simp;refine⟨x,m,q, ?_,J.out⟩;simp[bw,hx,r]
  ·obtain rfl:=yt K;have F:=C ⟨21,.data⟩ (by simp) rfl;obtain⟨hx,hq,D⟩:=b.al 5 (by omega) F;have r:=b.ld 5 (by omega) (C ⟨11,.data⟩ (by simp) rfl);have J:=za (b.store 5 (by omega) F);simp only[Nat.reduceMul,Nat.reduceAdd]at hx r D;replace hx:x 11= .pointer (some ⟨d.heap.size+q 5,0,none⟩):=hx;obtain⟨G,H⟩:∃G,w'.cell? ⟨d.heap.size+q 5,0,none⟩=some G:=⟨_,D.cell 0⟩
   have f0:w'.frozen? ⟨d.heap.size+q 5,0,none⟩=false:=D.frozen 0;have N:s.list.getD 5 0=s.f:=rfl;rw[N,dy]at r;refine aP rfl rfl ?_;unfold bw;simp only[hx,r];go_simp;refine⟨x,m,q, ?_,J.out⟩;simp[bw,hx,r]
  ·obtain rfl:=yt K;have F:=C ⟨22,.data⟩ (by simp) rfl;obtain⟨hx,hq,D⟩:=b.al 6 (by omega) F;have r:=b.ld 6 (by omega) (C ⟨13,.data⟩ (by simp) rfl);have J:=za (b.store 6 (by omega) F);simp only[Nat.reduceMul,Nat.reduceAdd]at hx r D;replace hx:x 12= .pointer (some ⟨d.heap.size+q 6,0,none⟩):=hx;obtain⟨G,H⟩:∃G,w'.cell? ⟨d.heap.size+q 6,0,none⟩=some G:=⟨_,D.cell 0⟩
   have f0:w'.frozen? ⟨d.heap.size+q 6,0,none⟩=false:=D.frozen 0;have N:s.list.getD 6 0=s.g:=rfl;rw[N,dy]at r;refine aP rfl rfl ?_;unfold bw;simp only[hx,r];go_simp;refine⟨x,m,q, ?_,J.out⟩;simp[bw,hx,r]
  obtain rfl:=yt K;have F:=C ⟨23,.data⟩ (by simp) rfl;obtain⟨hx,hq,D⟩:=b.al 7 (by omega) F;have r:=b.ld 7 (by omega) (C ⟨15,.data⟩ (by simp) rfl);have J:=za (b.store 7 (by omega) F);simp only[Nat.reduceMul,Nat.reduceAdd]at hx r D;replace hx:x 13= .pointer (some ⟨d.heap.size+q 7,0,none⟩):=hx;obtain⟨G,H⟩:∃G,w'.cell? ⟨d.heap.size+q 7,0,none⟩=some G:=⟨_,D.cell 0⟩
  have f0:w'.frozen? ⟨d.heap.size+q 7,0,none⟩=false:=D.frozen 0;have N:s.list.getD 7 0=s.h:=rfl;rw[N,dy]at r;refine aP rfl rfl ?_;unfold bw;simp only[hx,r];go_simp;refine⟨x,m,q, ?_,J.out⟩;simp[bw,hx,r]
 case done=>
  rintro listed a M C ⟨x,m,q,rfl,b⟩;obtain⟨p,hp⟩:∃p:Nat->Nat,p=fun j=>d.heap.size+q j:=⟨_,rfl⟩
  have O:∀j,j<8->x (6+j)= .pointer (some ⟨p j,0,none⟩)/\af M (p j) 22 #[dy (s.list.getD j 0)]/\d.heap.size<=p j/\p j<M.heap.size:=by
   intro j E;obtain⟨e1,e2,e3⟩:=b.al j E (C _ (by simp;omega));rw[zl (C _ (by simp;omega))]at e3;subst hp;exact⟨e1,e3,Nat.le_add_right _ _,e3.lt⟩
  have cd:∀i j,i<8->j<8->i≠j->p i≠p j:=by
   intro i j hi E aQ e;subst hp;exact b.ne i j hi E (C _ (by simp;omega)) (C _ (by simp;omega)) aQ (by simpa using e)
  have Y:∀j,j<8->x (22+2*j)= .pointer (some ⟨w.heap.size,j,none⟩):=fun j E=>b.ad j E (C _ (by simp;omega))
  have Z:∀j,j<8->x (23+2*j)=dy (s.list.getD j 0):=fun j E=>b.ld j E (C _ (by simp;omega))
  have hM:og w w.heap.size p s s M:=⟨fun j E=>(O j E).2.1,(b.bl.block _ (by have:=AL.out;show _<d.heap.size;omega)).trans lZ.out,(b.bl.block _ (by have:=AL.out;show _<d.heap.size;omega)).trans a1.out,(b.bl.block _ (by have:=AL.out;show _<d.heap.size;omega)).trans tr.out,
   aS.out.trans ⟨b.bl.os,b.bl.tape,b.bl.output,b.bl.size,fun k hk _=>b.bl.block k hk⟩⟩
  have aG:∀j,j<8->w.heap.size+3<=p j:=fun j E=>by have:=(O j E).2.2.1;have:=AL.out;omega
  have Gt:∀j,j<8->p j<M.heap.size:=fun j E=>(O j E).2.2.2
  have x6:=(O 0 (by omega)).1;have x7:=(O 1 (by omega)).1;have x8:=(O 2 (by omega)).1;have x9:=(O 3 (by omega)).1;have ai:=(O 4 (by omega)).1;have ay:=(O 5 (by omega)).1;have aA:=(O 6 (by omega)).1;have aC:=(O 7 (by omega)).1;have aD:=Y 0 (by omega);have ad:=Y 1 (by omega);have aw:=Y 2 (by omega);have az:=Y 3 (by omega);have al:=Y 4 (by omega);have au:=Y 5 (by omega);have aq:=Y 6 (by omega);have aj:=Y 7 (by omega);have aF:=Z 0 (by omega);have aE:=Z 1 (by omega);have ar:=Z 2 (by omega);have an:=Z 3 (by omega);have ak:=Z 4 (by omega);have ax:=Z 5 (by omega);have aB:=Z 6 (by omega);have ao:=Z 7 (by omega);simp only[Nat.reduceMul,Nat.reduceAdd,xj,dy,Sh.list,ZU,List.getD_cons_succ]at x6 x7 x8 x9 ai ay aA aC aD ad aw az al au aq aj aF aE ar an ak ax aB ao;unfold bw;simp only[x6,x7,x8,x9,ai,ay,aA,aC,aD,ad,aw,az,al,au,aq,aj,aF,aE,ar,an,ak,ax,aB,ao,j8];clear x6 x7 x8 x9 ai ay aA aC aD ad aw az al au aq aj aF aE ar an ak ax aB ao O Y Z b hp C;have HM:=za hM;have z:=za (And.intro aG (And.intro Gt cd));clear hM aG Gt cd;gi_wp2_with fail
  refine⟨trivial,(Yn.2 (P5 blk _)).mono ?_⟩;rintro e w2 ⟨rfl,rfl⟩;gi_wp2_with fail
  obtain⟨X,ma⟩:∃X,M.alloc (.cells #[.string blk] 9)=X:=⟨_,rfl⟩
  have cG:X.heap.size=M.heap.size+1:=by rw[<-ma];simp
  have aU:X.cell? ⟨M.heap.size,0,none⟩=some (.string blk):=by rw[<-ma];exact(af.new M 9 #[.string blk]).cell 0
  have qG:Hid (og w w.heap.size p s s X):=za (HM.out.ah (B:=M.heap.size) (by rw[<-ma];exact(zq _ M).alloc (zf _) _) z.out.2.1 (by have:=HM.out.fn.lt;omega) HM.out.only.size);rw[ma];have lY:=HM.out.fn.lt;have aK:∀j,j<8->p j<X.heap.size:=fun j E=>by have:=z.out.2.1 j E;omega
  have Ua:=za aK;clear ma aK;refine vD rfl (by omega) (gf:=227) (lb:= #[.pointer (some ⟨M.heap.size,0,none⟩)]) rfl trivial (enters_of func227 (by kernel_rfl) rfl)
   (IQ _ blk hb X M.heap.size (boxes p) aU (by omega) (fun h=>by obtain⟨j,E,e⟩:=kW h;have:=z.out.2.1 j E;omega) (fun i hi=>by obtain⟨j,E,e⟩:=kW hi;have:=Ua.out j E;omega))
   (fun i hi=>by obtain⟨j,E,e⟩:=kW hi;have:=Ua.out j E;omega) (fun _=>rfl)
   (fun pre W=>og w w.heap.size p s (fx tZ blk pre.length s) W/\M.heap.size<W.heap.size) ?hI ⟨qG.out,by show M.heap.size<X.heap.size;omega⟩
   (fun x=>{tmps:= #[.agg #[.int .u32 s.a,.int .u32 s.b,.int .u32 s.c,.int .u32 s.d,.int .u32 s.e,.int .u32 s.f,.int .u32 s.g,.int .u32 s.h],.string blk,.pointer (some ⟨w.heap.size,0,none⟩),undef,.pointer (some ⟨w.heap.size+1,0,none⟩),.pointer (some ⟨w.heap.size+1+1,0,none⟩),.pointer (some ⟨p 0,0,none⟩),.pointer (some ⟨p 1,0,none⟩),.pointer (some ⟨p 2,0,none⟩),.pointer (some ⟨p 3,0,none⟩),.pointer (some ⟨p 4,0,none⟩),.pointer (some ⟨p 5,0,none⟩),.pointer (some ⟨p 6,0,none⟩),.pointer (some ⟨p 7,0,none⟩),.int .i64 x.1,.int .u32 x.2,undef,undef,undef,undef,undef,undef,.pointer (some ⟨w.heap.size,0,none⟩),.int .u32 s.a,.pointer (some ⟨w.heap.size,1,none⟩),.int .u32 s.b,.pointer (some ⟨w.heap.size,2,none⟩),.int .u32 s.c,.pointer (some ⟨w.heap.size,3,none⟩),.int .u32 s.d,.pointer (some ⟨w.heap.size,4,none⟩),.int .u32 s.e,.pointer (some ⟨w.heap.size,5,none⟩),.int .u32 s.f,.pointer (some ⟨w.heap.size,6,none⟩),.int .u32 s.g,.pointer (some ⟨w.heap.size,7,none⟩),.int .u32 s.h,.string blk,.func (.func 227) #[] #[.pointer (some ⟨M.heap.size,0,none⟩)],.int .i64 x.1,.int .u32 x.2,undef,undef,undef,undef,undef,undef,undef,undef,undef,undef,undef,undef,undef,undef,undef,undef,undef,undef,undef,undef,undef,undef,undef,undef,undef,undef,undef,undef,undef,undef,undef,undef,undef,undef,undef,undef,undef,undef,undef,undef,undef,undef,undef,undef,undef,undef,undef,undef,undef,undef,undef,undef,undef,undef,undef,undef,undef,undef,undef,undef,undef,undef,undef,undef,undef,undef,undef,undef],defers:= []}) ?assign ?body ?dn
  case hI=>
   rintro pre A B ⟨h,F⟩ vS;have:=vS.size;exact⟨h.ah (B:=X.heap.size) vS Ua.out (by omega) (by omega),by omega⟩
  case assign=>
   intro l x W bo hK;simp only[Tu];gi_wp2
   exact hK
  case body=>
   rintro l pre x W F ⟨y,fC⟩ Rs;obtain⟨hk,rfl⟩:=IT Rs;obtain⟨k,RY⟩:∃k,pre.length=k:=⟨_,rfl⟩
   have Sg:=za RY;rw[RY]at y hk Rs⊢;have oZ:Hid (fx tZ blk (k+1) s=Cg (tZ.getD k 0) (lV blk k) (fx tZ blk k s)):=za rfl;have Gn:=rP tZ blk k J;obtain⟨t,ht⟩:∃t,fx tZ blk k s=t:=⟨_,rfl⟩
   rw[ht]at y oZ Gn;obtain⟨ta,tb,tc,td,te,tf,tg,th⟩:=Gn;have c6:W.cell? ⟨p 0,0,none⟩=some (.int .u32 t.a):=(y.box 0 (by omega)).cell 0;have c7:W.cell? ⟨p 1,0,none⟩=some (.int .u32 t.b):=(y.box 1 (by omega)).cell 0;have c8:W.cell? ⟨p 2,0,none⟩=some (.int .u32 t.c):=(y.box 2 (by omega)).cell 0;have c9:W.cell? ⟨p 3,0,none⟩=some (.int .u32 t.d):=(y.box 3 (by omega)).cell 0;have a7:W.cell? ⟨p 4,0,none⟩=some (.int .u32 t.e):=(y.box 4 (by omega)).cell 0;have aZ:W.cell? ⟨p 5,0,none⟩=some (.int .u32 t.f):=(y.box 5 (by omega)).cell 0;have aV:W.cell? ⟨p 6,0,none⟩=some (.int .u32 t.g):=(y.box 6 (by omega)).cell 0;have aR:W.cell? ⟨p 7,0,none⟩=some (.int .u32 t.h):=(y.box 7 (by omega)).cell 0;have f6:=(y.box 0 (by omega)).frozen 0;have f7:=(y.box 1 (by omega)).frozen 0;have f8:=(y.box 2 (by omega)).frozen 0;have f9:=(y.box 3 (by omega)).frozen 0;have bF:=(y.box 4 (by omega)).frozen 0;have bC:=(y.box 5 (by omega)).frozen 0;have bc:=(y.box 6 (by omega)).frozen 0;have bp:=(y.box 7 (by omega)).frozen 0;have cf:W.cell? ⟨w.heap.size+1+1,0,none⟩=some (.func (.func 219) #[] #[]):=y.fn.cell 0;have XO:=za y;have aO:=za (FM t.e t.f t.g te tf tg);have aN:=za (MT t.a t.b t.c ta tb tc);have aH:=za (fun w=>V3 k w hk);have cq:=za (fun w=>WG t.e w te);have dS:=za (fun w=>WH t.a w ta);clear ht y RY Rs;generalize lV blk k=wk at*;generalize tZ.getD k 0=kc at*;gi_wp2
   rw[aO.out,aN.out];have QR:Hid (Cg kc wk t=⟨(((t.h+Sg1 t.e+kc+wk+D3 t.e t.f t.g)%4294967296)+((Sg0 t.a+tW t.a t.b t.c)%4294967296))%4294967296,t.a,t.b,t.c,(t.d+(t.h+Sg1 t.e+kc+wk+D3 t.e t.f t.g)%4294967296)%4294967296,t.e,t.f,t.g⟩):=za rfl;clear aO aN;generalize D3 t.e t.f t.g=cv at*;generalize tW t.a t.b t.c=mv at*;generalize Sg1 t.e=g1 at*;generalize Sg0 t.a=g0 at*;refine km l (by kernel_rfl) (by kernel_rfl) (by kernel_rfl) ?_;repeat(go_big_quiet_step (first|(with_reducible exact Calls.eR (cq.out _))|(with_reducible exact Calls.quiet_of (aH.out _))))
   refine xS ?_;intro nq;obtain⟨pv,KZ⟩:∃pv,(t.h+g1+kc+wk+cv)%4294967296=pv:=⟨_,rfl⟩
   have aJ:Hid ((((t.h:Int)+g1+kc+wk)%4294967296+cv)%4294967296=(pv:Int)):=za (by omega);have Gt:pv<4294967296:=by omega
   rw[KZ]at QR;clear KZ;rw[aJ.out];clear aJ aH cq;gi_wp2_with fail
   refine⟨trivial,(CallsIn.inRound l (Yn.2 (dS.out _))).mono ?_⟩;rintro e w' ⟨rfl,rfl⟩;have bE:(p 0=p 1)=False:=yL (z.out.2.2 0 1 (by omega) (by omega) (by omega));have bf:(p 0=p 2)=False:=yL (z.out.2.2 0 2 (by omega) (by omega) (by omega));have bl:(p 0=p 3)=False:=yL (z.out.2.2 0 3 (by omega) (by omega) (by omega));have bA:(p 0=p 4)=False:=yL (z.out.2.2 0 4 (by omega) (by omega) (by omega));have bH:(p 0=p 5)=False:=yL (z.out.2.2 0 5 (by omega) (by omega) (by omega));have ba:(p 0=p 6)=False:=yL (z.out.2.2 0 6 (by omega) (by omega) (by omega));have bg:(p 0=p 7)=False:=yL (z.out.2.2 0 7 (by omega) (by omega) (by omega));have bx:(p 1=p 2)=False:=yL (z.out.2.2 1 2 (by omega) (by omega) (by omega));have bI:(p 1=p 3)=False:=yL (z.out.2.2 1 3 (by omega) (by omega) (by omega));have bt:(p 1=p 4)=False:=yL (z.out.2.2 1 4 (by omega) (by omega) (by omega));have bs:(p 1=p 5)=False:=yL (z.out.2.2 1 5 (by omega) (by omega) (by omega));have bm:(p 1=p 6)=False:=yL (z.out.2.2 1 6 (by omega) (by omega) (by omega));have bn:(p 1=p 7)=False:=yL (z.out.2.2 1 7 (by omega) (by omega) (by omega));have bd:(p 2=p 3)=False:=yL (z.out.2.2 2 3 (by omega) (by omega) (by omega));have bG:(p 2=p 4)=False:=yL (z.out.2.2 2 4 (by omega) (by omega) (by omega));have bh:(p 2=p 5)=False:=yL (z.out.2.2 2 5 (by omega) (by omega) (by omega));have bk:(p 2=p 6)=False:=yL (z.out.2.2 2 6 (by omega) (by omega) (by omega));have bJ:(p 2=p 7)=False:=yL (z.out.2.2 2 7 (by omega) (by omega) (by omega))
   have bK:(p 3=p 4)=False:=yL (z.out.2.2 3 4 (by omega) (by omega) (by omega));have a':(p 3=p 5)=False:=yL (z.out.2.2 3 5 (by omega) (by omega) (by omega));have bb:(p 3=p 6)=False:=yL (z.out.2.2 3 6 (by omega) (by omega) (by omega));have bL:(p 3=p 7)=False:=yL (z.out.2.2 3 7 (by omega) (by omega) (by omega));have bj:(p 4=p 5)=False:=yL (z.out.2.2 4 5 (by omega) (by omega) (by omega));have br:(p 4=p 6)=False:=yL (z.out.2.2 4 6 (by omega) (by omega) (by omega));have bB:(p 4=p 7)=False:=yL (z.out.2.2 4 7 (by omega) (by omega) (by omega));have bu:(p 5=p 6)=False:=yL (z.out.2.2 5 6 (by omega) (by omega) (by omega));have bD:(p 5=p 7)=False:=yL (z.out.2.2 5 7 (by omega) (by omega) (by omega));have bq:(p 6=p 7)=False:=yL (z.out.2.2 6 7 (by omega) (by omega) (by omega));obtain⟨av,aM⟩:∃av,(pv+(g0+mv)%4294967296)%4294967296=av:=⟨_,rfl⟩
   obtain⟨ev,aL⟩:∃ev,(t.d+pv)%4294967296=ev:=⟨_,rfl⟩
   have a6:Hid (((pv:Int)+((g0:Int)+mv))%4294967296=(av:Int)):=za (by omega);have aT:Hid (((t.d:Int)+pv)%4294967296=(ev:Int)):=za (by omega);rw[aM,aL]at QR;clear aM aL;gi_wp2
   rw[a6.out,aT.out,Sg.out,oZ.out,QR.out];have hq:og w w.heap.size p s t (W.drewN nq):=XO.out.ah (B:=W.heap.size) ((zq _ W).bB nq) (fun j E=>by have:=Ua.out j E;omega) (by omega) (by omega);exact⟨((ae.refl (boxes p) W).drewN nq).trans (sM (W.drewN nq) p ⟨av,t.a,t.b,t.c,ev,t.e,t.f,t.g⟩),hq.put _ (fun j E=>by have:=z.out.1 j E;omega) (fun j E=>by have:=z.out.1 j E;omega) z.out.2.2⟩
  case dn=>
   rintro aa W hD ⟨y,fC⟩ hK;have Ky:(cN blk 64).length=64:=by simp[cN]
   rw[Ky]at y;have ab:=aY;have Gn:=rP tZ blk 64 J;obtain⟨t,ht⟩:∃t,fx tZ blk 64 s=t:=⟨_,rfl⟩
   rw[ht]at y ab Gn;obtain⟨ta,tb,tc,td,te,tf,tg,th⟩:=Gn;obtain⟨sa,sb,sc,sd,se,sf,sg,sh⟩:=J;have c6:W.cell? ⟨p 0,0,none⟩=some (.int .u32 t.a):=(y.box 0 (by omega)).cell 0;have c7:W.cell? ⟨p 1,0,none⟩=some (.int .u32 t.b):=(y.box 1 (by omega)).cell 0;have c8:W.cell? ⟨p 2,0,none⟩=some (.int .u32 t.c):=(y.box 2 (by omega)).cell 0;have c9:W.cell? ⟨p 3,0,none⟩=some (.int .u32 t.d):=(y.box 3 (by omega)).cell 0;have a7:W.cell? ⟨p 4,0,none⟩=some (.int .u32 t.e):=(y.box 4 (by omega)).cell 0;have aZ:W.cell? ⟨p 5,0,none⟩=some (.int .u32 t.f):=(y.box 5 (by omega)).cell 0;have aV:W.cell? ⟨p 6,0,none⟩=some (.int .u32 t.g):=(y.box 6 (by omega)).cell 0;have aR:W.cell? ⟨p 7,0,none⟩=some (.int .u32 t.h):=(y.box 7 (by omega)).cell 0;have XO:=za y;have aW:=za hK;have R:Hid (w.heap.size+1<aa):=za (by omega);clear y ht hK;gi_wp2
   gi_loopw [98] (fun i wr=>jE w w.heap.size aa s t i wr) (fun i _=>8-(intOf i).toNat)
   case atStart=>exact⟨0,by omega,rfl,XO.out.sta,XO.out.res,XO.out.only,aW.out⟩
   case round=>
    obtain⟨k,hk,rfl,c,I,kq,ah⟩:=hrel.ex;have U:=za I;have K7:=za kq;have S:=za ah;by_cases bz:k<8
    ·clear I kq ah;have h8:k=0\/k=1\/k=2\/k=3\/k=4\/k=5\/k=6\/k=7:=by omega
     rcases h8 with rfl|rfl|rfl|rfl|rfl|rfl|rfl|rfl
     ·have q0:wr.cell? ⟨w.heap.size,0,none⟩=some (.int .u32 s.a):=c.cell 0;have q1:=c.frozen 0;have hi:∀w',(Instr.index 250 (.agg #[.int .u32 t.a,.int .u32 t.b,.int .u32 t.c,.int .u32 t.d,.int .u32 t.e,.int .u32 t.f,.int .u32 t.g,.int .u32 t.h]) (.int .i64 0)).run prog w'= .ok (.int .u32 t.a) w':=fun w'=>lG t w' 0 (.int .u32 t.a) rfl
      have L:=za (c.set 0 (.int .u32 ((s.a+t.a)%4294967296:Nat)));clear c;gi_wp2
      go_roundw
      case rel=>exact jE.next L.out U.out K7.out S.out R.out (by omega) (by omega) rfl (by simp)
      case measure=>simp[intOf]
     ·have q0:wr.cell? ⟨w.heap.size,1,none⟩=some (.int .u32 s.b):=c.cell 1;have q1:=c.frozen 1;have hi:∀w',(Instr.index 250 (.agg #[.int .u32 t.a,.int .u32 t.b,.int .u32 t.c,.int .u32 t.d,.int .u32 t.e,.int .u32 t.f,.int .u32 t.g,.int .u32 t.h]) (.int .i64 1)).run prog w'= .ok (.int .u32 t.b) w':=fun w'=>lG t w' 1 (.int .u32 t.b) rfl
      have L:=za (c.set 1 (.int .u32 ((s.b+t.b)%4294967296:Nat)));clear c;gi_wp2
      go_roundw
      case rel=>exact jE.next L.out U.out K7.out S.out R.out (by omega) (by omega) rfl (by simp)
      case measure=>simp[intOf]
     ·have q0:wr.cell? ⟨w.heap.size,2,none⟩=some (.int .u32 s.c):=c.cell 2;have q1:=c.frozen 2;have hi:∀w',(Instr.index 250 (.agg #[.int .u32 t.a,.int .u32 t.b,.int .u32 t.c,.int .u32 t.d,.int .u32 t.e,.int .u32 t.f,.int .u32 t.g,.int .u32 t.h]) (.int .i64 2)).run prog w'= .ok (.int .u32 t.c) w':=fun w'=>lG t w' 2 (.int .u32 t.c) rfl
      have L:=za (c.set 2 (.int .u32 ((s.c+t.c)%4294967296:Nat)));clear c;gi_wp2
      go_roundw
      case rel=>exact jE.next L.out U.out K7.out S.out R.out (by omega) (by omega) rfl (by simp)
      case measure=>simp[intOf]
     ·have q0:wr.cell? ⟨w.heap.size,3,none⟩=some (.int .u32 s.d):=c.cell 3;have q1:=c.frozen 3;have hi:∀w',(Instr.index 250 (.agg #[.int .u32 t.a,.int .u32 t.b,.int .u32 t.c,.int .u32 t.d,.int .u32 t.e,.int .u32 t.f,.int .u32 t.g,.int .u32 t.h]) (.int .i64 3)).run prog w'= .ok (.int .u32 t.d) w':=fun w'=>lG t w' 3 (.int .u32 t.d) rfl
      have L:=za (c.set 3 (.int .u32 ((s.d+t.d)%4294967296:Nat)));clear c;gi_wp2
      go_roundw
      case rel=>exact jE.next L.out U.out K7.out S.out R.out (by omega) (by omega) rfl (by simp)
      case measure=>simp[intOf]
     ·have q0:wr.cell? ⟨w.heap.size,4,none⟩=some (.int .u32 s.e):=c.cell 4;have q1:=c.frozen 4;have hi:∀w',(Instr.index 250 (.agg #[.int .u32 t.a,.int .u32 t.b,.int .u32 t.c,.int .u32 t.d,.int .u32 t.e,.int .u32 t.f,.int .u32 t.g,.int .u32 t.h]) (.int .i64 4)).run prog w'= .ok (.int .u32 t.e) w':=fun w'=>lG t w' 4 (.int .u32 t.e) rfl
      have L:=za (c.set 4 (.int .u32 ((s.e+t.e)%4294967296:Nat)));clear c;gi_wp2
      go_roundw
      case rel=>exact jE.next L.out U.out K7.out S.out R.out (by omega) (by omega) rfl (by simp)
      case measure=>simp[intOf]
     ·have q0:wr.cell? ⟨w.heap.size,5,none⟩=some (.int .u32 s.f):=c.cell 5;have q1:=c.frozen 5;have hi:∀w',(Instr.index 250 (.agg #[.int .u32 t.a,.int .u32 t.b,.int .u32 t.c,.int .u32 t.d,.int .u32 t.e,.int .u32 t.f,.int .u32 t.g,.int .u32 t.h]) (.int .i64 5)).run prog w'= .ok (.int .u32 t.f) w':=fun w'=>lG t w' 5 (.int .u32 t.f) rfl
      have L:=za (c.set 5 (.int .u32 ((s.f+t.f)%4294967296:Nat)));clear c;gi_wp2
      go_roundw
      case rel=>exact jE.next L.out U.out K7.out S.out R.out (by omega) (by omega) rfl (by simp)
      case measure=>simp[intOf]
     ·have q0:wr.cell? ⟨w.heap.size,6,none⟩=some (.int .u32 s.g):=c.cell 6;have q1:=c.frozen 6;have hi:∀w',(Instr.index 250 (.agg #[.int .u32 t.a,.int .u32 t.b,.int .u32 t.c,.int .u32 t.d,.int .u32 t.e,.int .u32 t.f,.int .u32 t.g,.int .u32 t.h]) (.int .i64 6)).run prog w'= .ok (.int .u32 t.g) w':=fun w'=>lG t w' 6 (.int .u32 t.g) rfl
      have L:=za (c.set 6 (.int .u32 ((s.g+t.g)%4294967296:Nat)));clear c;gi_wp2
      go_roundw
      case rel=>exact jE.next L.out U.out K7.out S.out R.out (by omega) (by omega) rfl (by simp)
      case measure=>simp[intOf]
     have q0:wr.cell? ⟨w.heap.size,7,none⟩=some (.int .u32 s.h):=c.cell 7;have q1:=c.frozen 7;have hi:∀w',(Instr.index 250 (.agg #[.int .u32 t.a,.int .u32 t.b,.int .u32 t.c,.int .u32 t.d,.int .u32 t.e,.int .u32 t.f,.int .u32 t.g,.int .u32 t.h]) (.int .i64 7)).run prog w'= .ok (.int .u32 t.h) w':=fun w'=>lG t w' 7 (.int .u32 t.h) rfl
     have L:=za (c.set 7 (.int .u32 ((s.h+t.h)%4294967296:Nat)));clear c;gi_wp2
     go_roundw
     case rel=>exact jE.next L.out U.out K7.out S.out R.out (by omega) (by omega) rfl (by simp)
     case measure=>simp[intOf]
    obtain rfl:k=8:=by omega
    obtain⟨u,hu⟩:∃u,sN 8 s t=u:=⟨_,rfl⟩
    rw[hu]at c ab;clear hu;have q0:wr.cell? ⟨w.heap.size,0,none⟩=some (.int .u32 u.a):=c.cell 0;have q1:wr.cell? ⟨w.heap.size,1,none⟩=some (.int .u32 u.b):=c.cell 1;have q2:wr.cell? ⟨w.heap.size,2,none⟩=some (.int .u32 u.c):=c.cell 2;have q3:wr.cell? ⟨w.heap.size,3,none⟩=some (.int .u32 u.d):=c.cell 3;have q4:wr.cell? ⟨w.heap.size,4,none⟩=some (.int .u32 u.e):=c.cell 4;have q5:wr.cell? ⟨w.heap.size,5,none⟩=some (.int .u32 u.f):=c.cell 5;have q6:wr.cell? ⟨w.heap.size,6,none⟩=some (.int .u32 u.g):=c.cell 6;have q7:wr.cell? ⟨w.heap.size,7,none⟩=some (.int .u32 u.h):=c.cell 7;have r0:=I.cell 0;have r1:=I.cell 1;have r2:=I.cell 2;have r3:=I.cell 3;have r4:=I.cell 4;have r5:=I.cell 5;have r6:=I.cell 6;have r7:=I.cell 7;simp at r0 r1 r2 r3 r4 r5 r6 r7;have f0:=I.frozen 0;have f1:=I.frozen 1;have f2:=I.frozen 2;have f3:=I.frozen 3;have f4:=I.frozen 4;have f5:=I.frozen 5;have f6:=I.frozen 6;have f7:=I.frozen 7;clear c I kq ah;gi_wp2
    have aI:(mZ wr (w.heap.size+1) u).heap[aa]?=some (.deferred (some [])):=(FN wr _ u aa (by have:=R.out;omega)).trans S.out;have lH:=IU u U.out;have aX:=sO u K7.out (show w.heap.size<=w.heap.size+1 by omega);have Vv:=lH.only (iw _ aa (.deferred none)) (by have:=R.out;simp;omega);have Vu:=aX.trans' (iw _ aa (.deferred none)) (fun i hi=> .inr (by have:=R.out;simp at hi;omega));unfold mZ at aI Vv Vu;refine⟨by simp,.inl ⟨_,_,rfl,run_takeDeferred aI, ?_⟩⟩;refine⟨_,WI u (g:=w.heap.size+1) rfl Vv, ?_,Vu⟩;rw[ab.out];rfl
