/- sha.spread: the iterator over a block's words. -/
import Derived.Test.YtdbmifjankgfpaaGreatDoorKA12
import Derived.Test.YtdbmifjankgfpaaGreatDoorKA13
import Derived.StillTailTactics
import Derived.Sort.CutIn
import Derived.Deep.RegionHeld3
set_option linter.all false
set_option maxRecDepth 100000
set_option maxHeartbeats 4000000
open Go.Proofs.Tryz
namespace Go.Proofs.YtdbmifjankgfpaaGreatDoor
open Go.RowKit Go.Shelf
def ZQ:=@Int.tmod_eq_emod_of_nonneg
def Z7:=@callsIn_wide
theorem QS (blk:ByteArray)(w:World):
 Calls prog 224 #[.string blk] w fun e w'=>e= .returned (.func (.func 240) #[] #[.pointer (some ⟨w.heap.size,0,none⟩)])/\w'=w.alloc (.cells #[.string blk] 9):=by
 go_enter func224,ntmps224
 go_wp2;go_ret;exact⟨rfl,rfl⟩
theorem ab7 (x:Nat)(w:World)(hx:x<4294967296):Calls prog 241 #[.int .u32 x,.int .i64 7,.int .i64 18,.int .i64 3] w fun e w'=>e= .returned (.int .u32 (sg0 x))/\∃n,w'=w.drewN n:=vE x 7 18 3 w hx (by omega) (by omega) (by omega)
theorem ab8 (x:Nat)(w:World)(hx:x<4294967296):Calls prog 241 #[.int .u32 x,.int .i64 17,.int .i64 19,.int .i64 10] w fun e w'=>e= .returned (.int .u32 (sg1 x))/\∃n,w'=w.drewN n:=vE x 17 19 10 w hx (by omega) (by omega) (by omega)
theorem aeD (g:Nat){i j:Nat}(h:i≠j):(⟨g,i,none⟩:Addr)≠⟨g,j,none⟩:=fun e=>h (xo Addr.off e)
def cY (blk:ByteArray)(k:Nat):List (Nat×Nat):=(List.range k).map fun i=>(i,mF blk i)
theorem qI (blk:ByteArray)(k:Nat):cY blk (k+1)=cY blk k++ [(k,mF blk k)]:=by simp[cY,List.range_succ]
theorem ts (blk:ByteArray)(k:Nat)(h:k<64):cY blk k++ [(k,mF blk k)]<+:cY blk 64:=by
 rw[<-qI];refine⟨((List.range 64).drop (k+1)).map fun i=>(i,mF blk i), ?_⟩;unfold cY;rw[<-List.map_append];congr 1
 have e:List.range (k+1)=(List.range 64).take (k+1):=by rw[List.take_range];congr 1;omega
 rw[e,zI]
def Uk (x:Nat×Nat):Array Value:= #[.int .i64 x.1,.int .u32 x.2]
structure Jj (blk:ByteArray)(J:List (Nat×Nat)->World->Prop)(bb:Nat)(W:World)(i:Value)(wr:World):Prop where
 ex:∃k:Nat,k<=64/\i= .int .i64 k/\J (cY blk k) wr/\W.heap.size<wr.heap.size/\wr.cell? ⟨bb,0,none⟩=some (.string blk)/\
  (∀j,j<16->wr.cell? ⟨W.heap.size,j,none⟩=some (.int .u32 (fa blk k j))/\wr.frozen? ⟨W.heap.size,j,none⟩=false)
theorem F0 (blk:ByteArray)(k m g:Nat)(wr:World)(c:∀j,j<16->wr.cell? ⟨g,j,none⟩=some (.int .u32 (fa blk k j))/\wr.frozen? ⟨g,j,none⟩=false):
 ∀j,j<16->((wr.drewN m).setCell ⟨g,k%16,none⟩ (.int .u32 (mF blk k))).cell? ⟨g,j,none⟩=some (.int .u32 (fa blk (k+1) j))/\((wr.drewN m).setCell ⟨g,k%16,none⟩ (.int .u32 (mF blk k))).frozen? ⟨g,j,none⟩=false:=by
 intro j b;have hd:(wr.drewN m).cell? ⟨g,j,none⟩=some (.int .u32 (fa blk k j)):=(c j b).1;refine⟨?_,by rw[World.frozen?_setCell];exact(c j b).2⟩;by_cases e:j=k%16
 ·subst e;rw[uK];exact World.cell?_setCell_same' _ _ _ (by rw[hd];rfl)
 rw[CD blk k j b e];exact(World.cell?_setCell_other _ _ _ _ (by intro h;cases h;exact e rfl)).trans hd
structure py (blk:ByteArray)(J:List (Nat×Nat)->World->Prop)(bb:Nat)(W:World)(k:Nat)(wr:World):Prop where
 j:J (cY blk k) wr
 lt:W.heap.size<wr.heap.size
 box:wr.cell? ⟨bb,0,none⟩=some (.string blk)
 ring:∀j,j<16->wr.cell? ⟨W.heap.size,j,none⟩=some (.int .u32 (fa blk (k+1) j))/\wr.frozen? ⟨W.heap.size,j,none⟩=false
theorem py.of (blk:ByteArray)(J:List (Nat×Nat)->World->Prop)(b:Nat)(W:World)(k m:Nat)(wr:World)(d:∀s A B,J s A->Below W.heap.size A B->J s B)
 (e:J (cY blk k) wr) (i:W.heap.size<wr.heap.size) (l:wr.cell? ⟨b,0,none⟩=some (.string blk)) (n:b<W.heap.size)
 (c:∀j,j<16->wr.cell? ⟨W.heap.size,j,none⟩=some (.int .u32 (fa blk k j))/\wr.frozen? ⟨W.heap.size,j,none⟩=false):
 py blk J b W k ((wr.drewN m).setCell ⟨W.heap.size,k%16,none⟩ (.int .u32 (mF blk k))) where
 j:=d _ _ _ e (((zm _ wr).bs m).setCell (p:=⟨W.heap.size,k%16,none⟩) (zg _) _)
 lt:=by simpa[World.setCell]using i
 box:=(World.cell?_setCell_other _ _ _ _ (by intro h;have:=xo Addr.block h;simp at this;omega)).trans l
 ring:=F0 blk k m _ wr c
theorem py.next {blk:ByteArray}{J:List (Nat×Nat)->World->Prop}{b:Nat}{W:World}{k:Nat}{wr w':World}{l:Nat}{L:List Nat}(h:py blk J b W k wr)(x:k<64)(r:J (cY blk k++ [(k,mF blk k)]) w')(c:ae (l::L) wr w')
 (u:l<W.heap.size) (s:l≠b) (o:∀i,i∈L->i<W.heap.size) (q:b∉L) (w:b<W.heap.size):Jj blk J b W (.int .i64 ((k+1:Nat):Int)) w':=by
 have hz:=c.size;have d:=h.lt;have m:W.heap.size∉l::L:=by
  intro h;rcases xe.1 h with h|h
  ·omega
  have:=o _ h;omega
 refine⟨k+1,by omega,rfl,by rw[qI];exact r,by omega, ?_,fun j n=>⟨?_, ?_⟩⟩
 ·exact(c.cell (p:=⟨b,0,none⟩) (by simp;omega) (by simp;exact⟨fun e=>s e.symm,q⟩)).trans h.box
 ·exact(c.cell (p:=⟨W.heap.size,j,none⟩) d m).trans (h.ring j n).1
 exact(c.frozen (p:=⟨W.heap.size,j,none⟩) d m).trans (h.ring j n).2
theorem Jk (n:Nat)(blk:ByteArray)(hb:blk.size=64)(w:World)(b:Nat)(L:List Nat)(fA:w.cell? ⟨b,0,none⟩=some (.string blk))(aE:b<w.heap.size)(ab:b∉L)(U:∀i,i∈L->i<w.heap.size):
 K6 Fence.wide n prog 240 #[.pointer (some ⟨b,0,none⟩)] Uk (cY blk 64) L w:=by
 intro l J W hW Ly Y hJ X h0;have G:=za hJ;have S:=za X;clear hJ X;have LD:=hW.size;have oE:W.cell? ⟨b,0,none⟩=some (.string blk):=(hW.cell (p:=⟨b,0,none⟩) aE (by simp)).trans fA;refine callsIn_of_wp func240 rfl trivial ?_ rfl;simp only[ntmps240,ZX,zx,zJ,Nat.reduceAdd,Nat.reduceSub,Array.replicate_succ,Array.replicate_zero,List.push_toArray,List.append_toArray,yy,ya];gi_wp2
 gi_loopw [6] (fun i wr=>Jj blk J b W i wr) (fun i _=>64-(intOf i).toNat)
 case atStart=>
  refine⟨0,by omega,rfl,G.out _ _ _ h0 ((zm _ W).alloc (zg _) _),by simp,((((zm _ W).alloc (zg _) _).cell (p:=⟨b,0,none⟩) (by simp;omega)).trans oE), ?_⟩;intro j hj;have hB:=af.new W 283 #[.int .u32 0,.int .u32 0,.int .u32 0,.int .u32 0,.int .u32 0,.int .u32 0,.int .u32 0,.int .u32 0,.int .u32 0,.int .u32 0,.int .u32 0,.int .u32 0,.int .u32 0,.int .u32 0,.int .u32 0,.int .u32 0];refine⟨(hB.cell j).trans ?_,hB.frozen j⟩;have X3:j=0\/j=1\/j=2\/j=3\/j=4\/j=5\/j=6\/j=7\/j=8\/j=9\/j=10\/j=11\/j=12\/j=13\/j=14\/j=15:=by omega
  rcases X3 with rfl|rfl|rfl|rfl|rfl|rfl|rfl|rfl|rfl|rfl|rfl|rfl|rfl|rfl|rfl|rfl<;>rfl
 case round=>
  obtain⟨k,hk,rfl,H,aa,ic,s⟩:=hrel.ex;by_cases A:k<64
  ·by_cases F:k<16
   ·skip
    have ah:(k:Int)%16=k:=by omega
    have HW:=za (fun w=>P4 blk k w (by omega) (by omega));gi_wp2_with (refine⟨trivial,(fun h=>by cases h),(Z7.2 (HW.out _)).mono ?_⟩;rintro e w' ⟨rfl,m,rfl⟩)
    have d:=py.of blk J b W k m wr G.out H aa ic (by omega) s;rw[Nat.mod_eq_of_lt F,Bz blk k F]at d;obtain⟨fn,tmps,assign,body,C,D⟩:=S.out _ (k,mF blk k) _ d.j (ts blk k A);simp only[Uk,Bz blk k F]at C;rw[C];refine⟨(fun h=>by cases h),D.mono ?_⟩;rintro e W' ⟨rfl,z,x⟩;gi_wp2
    go_roundw
    case rel=>exact d.next A z x Y (by omega) (fun i hi=>by have:=U i hi;omega) ab (by omega)
    case measure=>simp[intOf];omega
   have B:16<=k:=by omega
   obtain⟨c,y⟩:∃c,k%16=c:=⟨_,rfl⟩
   obtain⟨q,O⟩:∃q,(k+1)%16=q:=⟨_,rfl⟩
   obtain⟨r,K⟩:∃r,(k+9)%16=r:=⟨_,rfl⟩
   obtain⟨o,I⟩:∃o,(k+14)%16=o:=⟨_,rfl⟩
   have N:c<16:=by omega
   have b1:q<16:=by omega
   have b2:r<16:=by omega
   have b3:o<16:=by omega
   have e0:(k:Int)%16=c:=by omega
   have e1:((k:Int)+1)%16=q:=by omega
   have e2:((k:Int)+9)%16=r:=by omega
   have e3:((k:Int)+14)%16=o:=by omega
   have r0:fa blk k c=mF blk (k-16):=by rw[<-y];exact km blk k 0 B (by omega)
   have R:fa blk k q=mF blk (k-15):=by rw[<-O,km blk k 1 B (by omega)];congr 1;omega
   have r2:fa blk k r=mF blk (k-7):=by rw[<-K,km blk k 9 B (by omega)];congr 1;omega
   have r3:fa blk k o=mF blk (k-2):=by rw[<-I,km blk k 14 B (by omega)];congr 1;omega
   have c0:=(s c N).1;have c1:=(s q b1).1;have c2:=(s r b2).1;have c3:=(s o b3).1;have f0:=(s c N).2;rw[r0]at c0;rw[R]at c1;rw[r2]at c2;rw[r3]at c3;have HM:=za (fun m=>py.of blk J b W k m wr G.out H aa ic (by omega) s);rw[y]at HM;have x1:=OW blk (k-15);have x3:=OW blk (k-2);have HA:=za (fun w=>ab7 (mF blk (k-15)) w x1);have HB:=za (fun w=>ab8 (mF blk (k-2)) w x3);have HE:=za (Tg blk k B A);have M:=uK blk k;rw[y]at M;have S9:=za M;clear M;have HP:=za (ts blk k A);have HN:Hid (∀u w',py blk J b W k u->J (cY blk k++ [(k,mF blk k)]) w'->ae (l::L) u w'->Jj blk J b W (.int .i64 ((k+1:Nat):Int)) w'):=za (fun u w' d z x=>d.next A z x Y (by omega) (fun i hi=>by have:=U i hi;omega) ab (by omega));generalize mF blk (k-16)=v0 at*;generalize mF blk (k-15)=v1 at*;generalize mF blk (k-7)=v2 at*;generalize mF blk (k-2)=v3 at*;generalize sg0 v1=s1 at*;generalize sg1 v3=s3 at*;generalize mF blk k=E at*;have ak:=za (And.intro y (And.intro O (And.intro K I)));clear y O K I r0 R r2 r3;have Z:(0:Int)<=(c:Int)/\(c:Int)<16:=by omega
   have i1:(0:Int)<=(q:Int)/\(q:Int)<16:=by omega
   have i2:(0:Int)<=(r:Int)/\(r:Int)<16:=by omega
   have i3:(0:Int)<=(o:Int)/\(o:Int)<16:=by omega
   obtain⟨Z,ad⟩:=Z;obtain⟨i1,ai⟩:=i1;obtain⟨i2,aj⟩:=i2;obtain⟨i3,ag⟩:=i3;have g1:IntKind.i64.wrap ((k:Int)+1)=(k:Int)+1:=zW _ (by omega);have g2:IntKind.i64.wrap ((k:Int)+9)=(k:Int)+9:=zW _ (by omega);have g3:IntKind.i64.wrap ((k:Int)+14)=(k:Int)+14:=zW _ (by omega);have t1:((k:Int)+1).tmod 16=q:=by rw[ZQ (by omega)];exact e1
   have t2:((k:Int)+9).tmod 16=r:=by rw[ZQ (by omega)];exact e2
   have t3:((k:Int)+14).tmod 16=o:=by rw[ZQ (by omega)];exact e3
   have HV:Hid (((v0:Int)+((s1:Int)+v2+s3)%4294967296)%4294967296=(E:Int)):=za (by
    have:=HE.out;omega)
   clear s;gi_upto_region 7 with(fail)
   refine wpIn_wide.2 ?_;refine cH 24 (by kernel_rfl) (by kernel_rfl) ?_;simp only[zT,yC,yf,zL];repeat(go_big_quiet_step (first|(go_at_call 241;with_reducible exact Calls.quiet_of (HA.out _))|(go_at_call 241;with_reducible exact Calls.quiet_of (HB.out _))))
   refine xg ?_;intro nq;rw[HV.out];go_wp2;have d:=HM.out nq;obtain⟨u,Y'⟩:∃u,(wr.drewN nq).setCell ⟨W.heap.size,c,none⟩ (.int .u32 E)=u:=⟨_,rfl⟩
   rw[Y']at d⊢;clear Y';have eK:=(d.ring c N).1;rw[S9.out]at eK;gi_wp2
   obtain⟨fn,tmps,assign,body,C,D⟩:=S.out _ (k,E) _ d.j HP.out;simp only[Uk]at C;rw[C];refine⟨(fun h=>by cases h),D.mono ?_⟩;rintro e W' ⟨rfl,z,x⟩;gi_wp2
   go_roundw
   case rel=>exact HN.out _ _ d z x
   case measure=>simp[intOf];omega
  obtain rfl:k=64:=by omega
  gi_wp2
  go_end0
  exact⟨⟨_,rfl⟩,H⟩
