/- sha.spread: the iterator over a block's words. -/
import Derived.Test.YtimoclkoflamkaaGreatDoorKA21
import Derived.Test.YtimoclkoflamkaaGreatDoorKA33
import Derived.Sort.CutIn
import Derived.Deep.RegionHeld3
set_option linter.all false
set_option maxRecDepth 100000
set_option maxHeartbeats 4000000
open Go.Proofs.Tryz
namespace Go.Proofs.YtimoclkoflamkaaGreatDoor
open Go.RowKit Go.Shelf
def Z0:=@Int.tmod_eq_emod_of_nonneg
def Yh:=@callsIn_wide
theorem QI (blk:ByteArray)(w:World):
 Calls prog 238 #[blk] w fun e w'=>e= .returned (.func (.func 244) #[] #[(w.heap.size,0)])/\w'=w.alloc (.cells #[blk] 9):=by
 go_enter func238,ntmps238
 go_wp2;go_ret;exact⟨rfl,rfl⟩
theorem acz (x:Nat)(w:World)(hx:x<4294967296):Calls prog 245 #[.int .u32 x,(7:Int),(18:Int),(3:Int)] w fun e w'=>e= .returned (.int .u32 (sg0 x))/\∃n,w'=w.drewN n:=vO x 7 18 3 w hx (by omega) (by omega) (by omega)
theorem acA (x:Nat)(w:World)(hx:x<4294967296):Calls prog 245 #[.int .u32 x,(17:Int),(19:Int),(10:Int)] w fun e w'=>e= .returned (.int .u32 (sg1 x))/\∃n,w'=w.drewN n:=vO x 17 19 10 w hx (by omega) (by omega) (by omega)
theorem ae9 (g:Nat){i j:Nat}(h:i≠j):((g,i):Addr)≠⟨g,j,none⟩:=fun e=>h (yp Addr.off e)
def cS (blk:ByteArray)(k:Nat):List (Nat×Nat):=(List.range k).map fun i=>(i,mi blk i)
theorem qL (blk:ByteArray)(k:Nat):cS blk (k+1)=cS blk k++ [(k,mi blk k)]:=by simp[cS,List.range_succ]
theorem s8 (blk:ByteArray)(k:Nat)(h:k<64):cS blk k++ [(k,mi blk k)]<+:cS blk 64:=by
 rw[<-qL];refine⟨((List.range 64).drop (k+1)).map fun i=>(i,mi blk i), ?_⟩;unfold cS;rw[<-List.map_append];congr 1
 have e:List.range (k+1)=(List.range 64).take (k+1):=by rw[List.take_range];congr 1;omega
 rw[e,zH]
def Uc (x:Nat×Nat):Array Value:= #[x.1,.int .u32 x.2]
structure Js (blk:ByteArray)(J:List (Nat×Nat)->World->Prop)(bb:Nat)(W:World)(i:Value)(wr:World):Prop where
 ex:∃k:Nat,k<=64/\i= .int .i64 k/\J (cS blk k) wr/\W.heap.size<wr.heap.size/\(wr,bb,0,blk)/\
  (∀j,j<16->(wr,W.heap.size,j,Value.int .u32 (eO blk k j))/\wr.frozen? (W.heap.size,j)=false)
theorem Gf (blk:ByteArray)(k m g:Nat)(wr:World)(c:∀j,j<16->(wr,g,j,Value.int .u32 (eO blk k j))/\wr.frozen? (g,j)=false):
 ∀j,j<16->(((wr.drewN m).setCell (g,k%16) (.int .u32 (mi blk k))),g,j,Value.int .u32 (eO blk (k+1) j))/\((wr.drewN m).setCell (g,k%16) (.int .u32 (mi blk k))).frozen? (g,j)=false:=by
 intro j b;have hd:(wr.drewN m).cell? (g,j)=some (.int .u32 (eO blk k j)):=(c j b).1;refine⟨?_,by rw[World.frozen?_setCell];exact(c j b).2⟩;by_cases e:j=k%16
 ·subst e;rw[uS];exact World.cell?_setCell_same' _ _ _ (by rw[hd];rfl)
 rw[CD blk k j b e];exact(Z2 _ _ _ _ (by intro h;cases h;exact e rfl)).trans hd
structure pt (blk:ByteArray)(J:List (Nat×Nat)->World->Prop)(bb:Nat)(W:World)(k:Nat)(wr:World):Prop where
 j:J (cS blk k) wr
 lt:W.heap.size<wr.heap.size
 box:wr.cell? (bb,0)=some (.string blk)
 ring:∀j,j<16->(wr,W.heap.size,j,Value.int .u32 (eO blk (k+1) j))/\wr.frozen? (W.heap.size,j)=false
theorem pt.of (blk:ByteArray)(J:List (Nat×Nat)->World->Prop)(b:Nat)(W:World)(k m:Nat)(wr:World)(d:∀s A B,J s A->Below W.heap.size A B->J s B)
 (i:J (cS blk k) wr) (c:W.heap.size<wr.heap.size) (l:wr.cell? (b,0)=some (.string blk)) (n:b<W.heap.size)
 (e:∀j,j<16->(wr,W.heap.size,j,Value.int .u32 (eO blk k j))/\wr.frozen? (W.heap.size,j)=false):
 pt blk J b W k ((wr.drewN m).setCell (W.heap.size,k%16) (.int .u32 (mi blk k))) where
 j:=d _ _ _ i (((zm _ wr).bF m).setCell (p:=(W.heap.size,k%16)) (zd _) _)
 lt:=by simpa[World.setCell]using c
 box:=(Z2 _ _ _ _ (by intro h;have:=yp Addr.block h;simp at this;omega)).trans l
 ring:=Gf blk k m _ wr e
theorem pt.next {blk:ByteArray}{J:List (Nat×Nat)->World->Prop}{b:Nat}{W:World}{k:Nat}{wr w':World}{l:Nat}{L:List Nat}(h:pt blk J b W k wr)(u:k<64)(q:J (cS blk k++ [(k,mi blk k)]) w')(c:ae (l::L) wr w')
 (w:l<W.heap.size) (r:l≠b) (s:∀i,i∈L->i<W.heap.size) (o:b∉L) (x:b<W.heap.size):Js blk J b W ((k+1:Nat):Int) w':=by
 have hz:=c.size;have n:=h.lt;have m:W.heap.size∉l::L:=by
  intro h;rcases yI.1 h with h|h
  ·omega
  have:=s _ h;omega
 refine⟨k+1,by omega,rfl,by rw[qL];exact q,by omega, ?_,fun j d=>⟨?_, ?_⟩⟩
 ·exact(c.cell (p:=(b,0)) (by simp;omega) (by simp;exact⟨fun e=>r e.symm,o⟩)).trans h.box
 ·exact(c.cell (p:=(W.heap.size,j)) n m).trans (h.ring j d).1
 exact(c.frozen (p:=(W.heap.size,j)) n m).trans (h.ring j d).2
theorem Jt (n:Nat)(blk:ByteArray)(hb:blk.size=64)(w:World)(b:Nat)(L:List Nat)(eA:w.cell? (b,0)=some (.string blk))(aD:b<w.heap.size)(R:b∉L)(S:∀i,i∈L->i<w.heap.size):
 K7 Fence.wide n prog 244 #[(b,0)] Uc (cS blk 64) L w:=by
 intro l J W hW Rq Z hJ hY h0;have D:=za hJ;have HY:=za hY;clear hJ hY;have af:=hW.size;have kt:W.cell? (b,0)=some (.string blk):=(hW.cell (p:=(b,0)) aD (by simp)).trans eA;refine callsIn_of_wp func244 rfl trivial ?_ rfl;simp only[ntmps244,Zx,zz,zO,Nat.reduceAdd,Nat.reduceSub,Array.replicate_succ,Array.replicate_zero,List.push_toArray,List.append_toArray,yo,zW];gi_wp2
 gi_loopw [6] (fun i wr=>Js blk J b W i wr) (fun i _=>64-(intOf i).toNat)
 case atStart=>
  refine⟨0,by omega,rfl,D.out _ _ _ h0 ((zm _ W).alloc (zd _) _),by simp,((((zm _ W).alloc (zd _) _).cell (p:=(b,0)) (by simp;omega)).trans kt), ?_⟩;intro j hj;have hB:=ag.new W 295 #[.int .u32 0,.int .u32 0,.int .u32 0,.int .u32 0,.int .u32 0,.int .u32 0,.int .u32 0,.int .u32 0,.int .u32 0,.int .u32 0,.int .u32 0,.int .u32 0,.int .u32 0,.int .u32 0,.int .u32 0,.int .u32 0];refine⟨(hB.cell j).trans ?_,hB.frozen j⟩;have Yw:j=0\/j=1\/j=2\/j=3\/j=4\/j=5\/j=6\/j=7\/j=8\/j=9\/j=10\/j=11\/j=12\/j=13\/j=14\/j=15:=by omega
  rcases Yw with rfl|rfl|rfl|rfl|rfl|rfl|rfl|rfl|rfl|rfl|rfl|rfl|rfl|rfl|rfl|rfl<;>rfl
 case round=>
  obtain⟨k,hk,rfl,H,aa,gY,s⟩:=hrel.ex;by_cases y:k<64
  ·by_cases E:k<16
   ·skip
    have ad:(k:Int)%16=k:=by omega
    have HW:=za (fun w=>P0 blk k w (by omega) (by omega));gi_wp2_with (refine⟨trivial,(fun h=>by cases h),(Yh.2 (HW.out _)).mono ?_⟩;rintro e w' ⟨rfl,m,rfl⟩)
    have d:=pt.of blk J b W k m wr D.out H aa gY (by omega) s;rw[Nat.mod_eq_of_lt E,Bm blk k E]at d;obtain⟨fn,tmps,assign,body,C,M⟩:=HY.out _ (k,mi blk k) _ d.j (s8 blk k y);simp only[Uc,Bm blk k E]at C;rw[C];refine⟨(fun h=>by cases h),M.mono ?_⟩;rintro e W' ⟨rfl,B,A⟩;gi_wp2
    go_roundw
    case rel=>exact d.next y B A Z (by omega) (fun i hi=>by have:=S i hi;omega) R (by omega)
    case measure=>simp[intOf];omega
   have z:16<=k:=by omega
   obtain⟨c,x⟩:∃c,k%16=c:=⟨_,rfl⟩
   obtain⟨o,I⟩:∃o,(k+1)%16=o:=⟨_,rfl⟩
   obtain⟨q,G⟩:∃q,(k+9)%16=q:=⟨_,rfl⟩
   obtain⟨r,K⟩:∃r,(k+14)%16=r:=⟨_,rfl⟩
   have F:c<16:=by omega
   have b1:o<16:=by omega
   have b2:q<16:=by omega
   have b3:r<16:=by omega
   have e0:(k:Int)%16=c:=by omega
   have e1:((k:Int)+1)%16=o:=by omega
   have e2:((k:Int)+9)%16=q:=by omega
   have e3:((k:Int)+14)%16=r:=by omega
   have r0:eO blk k c=mi blk (k-16):=by rw[<-x];exact j5 blk k 0 z (by omega)
   have U:eO blk k o=mi blk (k-15):=by rw[<-I,j5 blk k 1 z (by omega)];congr 1;omega
   have r2:eO blk k q=mi blk (k-7):=by rw[<-G,j5 blk k 9 z (by omega)];congr 1;omega
   have X:eO blk k r=mi blk (k-2):=by rw[<-K,j5 blk k 14 z (by omega)];congr 1;omega
   have c0:=(s c F).1;have c1:=(s o b1).1;have c2:=(s q b2).1;have c3:=(s r b3).1;have f0:=(s c F).2;rw[r0]at c0;rw[U]at c1;rw[r2]at c2;rw[X]at c3;have HM:=za (fun m=>pt.of blk J b W k m wr D.out H aa gY (by omega) s);rw[x]at HM;have x1:=OL blk (k-15);have x3:=OL blk (k-2);have HA:=za (fun w=>acz (mi blk (k-15)) w x1);have HB:=za (fun w=>acA (mi blk (k-2)) w x3);have HE:=za (SX blk k z y);have N:=uS blk k;rw[x]at N;have U0:=za N;clear N;have HP:=za (s8 blk k y);have HN:Hid (∀u w',pt blk J b W k u->J (cS blk k++ [(k,mi blk k)]) w'->ae (l::L) u w'->Js blk J b W ((k+1:Nat):Int) w'):=za (fun u w' d B A=>d.next y B A Z (by omega) (fun i hi=>by have:=S i hi;omega) R (by omega));generalize mi blk (k-16)=v0 at*;generalize mi blk (k-15)=v1 at*;generalize mi blk (k-7)=v2 at*;generalize mi blk (k-2)=v3 at*;generalize sg0 v1=s1 at*;generalize sg1 v3=s3 at*;generalize mi blk k=O at*;have ak:=za (And.intro x (And.intro I (And.intro G K)));clear x I G K r0 U r2 X;have Y:(0:Int)<=(c:Int)/\(c:Int)<16:=by omega
   have i1:(0:Int)<=(o:Int)/\(o:Int)<16:=by omega
   have i2:(0:Int)<=(q:Int)/\(q:Int)<16:=by omega
   have i3:(0:Int)<=(r:Int)/\(r:Int)<16:=by omega
   obtain⟨Y,ah⟩:=Y;obtain⟨i1,al⟩:=i1;obtain⟨i2,ai⟩:=i2;obtain⟨i3,aj⟩:=i3;have g1:IntKind.i64.wrap ((k:Int)+1)=(k:Int)+1:=zZ _ (by omega);have g2:IntKind.i64.wrap ((k:Int)+9)=(k:Int)+9:=zZ _ (by omega);have g3:IntKind.i64.wrap ((k:Int)+14)=(k:Int)+14:=zZ _ (by omega);have t1:((k:Int)+1).tmod 16=o:=by rw[Z0 (by omega)];exact e1
   have t2:((k:Int)+9).tmod 16=q:=by rw[Z0 (by omega)];exact e2
   have t3:((k:Int)+14).tmod 16=r:=by rw[Z0 (by omega)];exact e3
   have HV:Hid (((v0:Int)+((s1:Int)+v2+s3)%4294967296)%4294967296=(O:Int)):=za (by
    have:=HE.out;omega)
   clear s;gi_upto_region 7 with(fail)
   refine wpIn_wide.2 ?_;refine cB 24 (by kernel_rfl) (by kernel_rfl) ?_;simp only[zR,yv,ya,zL];repeat(go_big_quiet_step (first|(go_at_call 245;with_reducible exact Calls.quiet_of (HA.out _))|(go_at_call 245;with_reducible exact Calls.quiet_of (HB.out _))))
   refine xO ?_;intro nq;rw[HV.out];go_wp2;have d:=HM.out nq;obtain⟨u,ab⟩:∃u,(wr.drewN nq).setCell (W.heap.size,c) (.int .u32 O)=u:=⟨_,rfl⟩
   rw[ab]at d⊢;clear ab;have cZ:=(d.ring c F).1;rw[U0.out]at cZ;gi_wp2
   obtain⟨fn,tmps,assign,body,C,M⟩:=HY.out _ (k,O) _ d.j HP.out;simp only[Uc]at C;rw[C];refine⟨(fun h=>by cases h),M.mono ?_⟩;rintro e W' ⟨rfl,B,A⟩;gi_wp2
   go_roundw
   case rel=>exact HN.out _ _ d B A
   case measure=>simp[intOf];omega
  obtain rfl:k=64:=by omega
  gi_wp2
  go_end0
  exact⟨⟨_,rfl⟩,H⟩
