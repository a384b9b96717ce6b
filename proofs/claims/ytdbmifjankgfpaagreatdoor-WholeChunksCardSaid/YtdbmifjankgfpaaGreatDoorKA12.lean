/- sha.spread: the iterator over a block's words. -/
import Derived.Test.YtdbmifjankgfpaaGreatDoorKA9
import Derived.Test.YtdbmifjankgfpaaGreatDoorKA10
import Derived.StillTailTactics
import Derived.Sort.CutIn
import Derived.Deep.RegionHeld3
set_option linter.all false
set_option maxRecDepth 100000
set_option maxHeartbeats 4000000
namespace Go.Proofs.YtdbmifjankgfpaaGreatDoor
open Tryz
open Go.RowKit Go.Shelf
def Yc:=@callsIn_wide
theorem QO (blk:ByteArray)(w:World):
 Calls prog 224 #[.string blk] w fun e w'=>e= .returned (.func (.func 240) #[] #[.pointer (some ⟨w.heap.size,0,none⟩)])/\w'=w.alloc (.cells #[.string blk] 9):=by
 go_enter func224,ntmps224
 go_wp2;go_ret;exact⟨rfl,rfl⟩
theorem acF (x:Nat)(w:World)(hx:x<4294967296):Calls prog 241 #[.int .u32 x,.int .i64 7,.int .i64 18,.int .i64 3] w fun e w'=>e= .returned (.int .u32 (sg0 x))/\∃n,w'=w.drewN n:=vN x 7 18 3 w hx (by omega) (by omega) (by omega)
theorem acG (x:Nat)(w:World)(hx:x<4294967296):Calls prog 241 #[.int .u32 x,.int .i64 17,.int .i64 19,.int .i64 10] w fun e w'=>e= .returned (.int .u32 (sg1 x))/\∃n,w'=w.drewN n:=vN x 17 19 10 w hx (by omega) (by omega) (by omega)
theorem afv (g:Nat){i j:Nat}(h:i≠j):(⟨g,i,none⟩:Addr)≠⟨g,j,none⟩:=fun e=>h (xi Addr.off e)
def cU (blk:ByteArray)(k:Nat):List (Nat×Nat):=(List.range k).map fun i=>(i,mG blk i)
theorem qS (blk:ByteArray)(k:Nat):cU blk (k+1)=cU blk k++ [(k,mG blk k)]:=by simp[cU,List.range_succ]
theorem ts (blk:ByteArray)(k:Nat)(h:k<64):cU blk k++ [(k,mG blk k)]<+:cU blk 64:=by
 rw[<-qS];refine⟨((List.range 64).drop (k+1)).map fun i=>(i,mG blk i), ?_⟩;unfold cU;rw[<-Yl];congr 1
 have e:List.range (k+1)=(List.range 64).take (k+1):=by rw[List.take_range];congr 1;omega
 rw[e,zJ]
def Up (x:Nat×Nat):Array Value:= #[.int .i64 x.1,.int .u32 x.2]
structure Jr (blk:ByteArray)(J:List (Nat×Nat)->World->Prop)(bb:Nat)(W:World)(i:Value)(wr:World):Prop where
 ex:∃k:Nat,k<=64/\i= .int .i64 k/\J (cU blk k) wr/\W.heap.size<wr.heap.size/\wr.cell? ⟨bb,0,none⟩=some (.string blk)/\
  (∀j,j<16->wr.cell? ⟨W.heap.size,j,none⟩=some (.int .u32 (eX blk k j))/\wr.frozen? ⟨W.heap.size,j,none⟩=false)
theorem Gk (blk:ByteArray)(k m g:Nat)(wr:World)(c:∀j,j<16->wr.cell? ⟨g,j,none⟩=some (.int .u32 (eX blk k j))/\wr.frozen? ⟨g,j,none⟩=false):
 ∀j,j<16->((wr.drewN m).setCell ⟨g,k%16,none⟩ (.int .u32 (mG blk k))).cell? ⟨g,j,none⟩=some (.int .u32 (eX blk (k+1) j))/\((wr.drewN m).setCell ⟨g,k%16,none⟩ (.int .u32 (mG blk k))).frozen? ⟨g,j,none⟩=false:=by
 intro j b;have hd:(wr.drewN m).cell? ⟨g,j,none⟩=some (.int .u32 (eX blk k j)):=(c j b).1;refine⟨?_,by rw[World.frozen?_setCell];exact(c j b).2⟩;by_cases e:j=k%16
 ·subst e;rw[uU];exact World.cell?_setCell_same' _ _ _ (by rw[hd];rfl)
 rw[CU blk k j b e];exact(World.cell?_setCell_other _ _ _ _ (by intro h;cases h;exact e rfl)).trans hd
structure pE (blk:ByteArray)(J:List (Nat×Nat)->World->Prop)(bb:Nat)(W:World)(k:Nat)(wr:World):Prop where
 j:J (cU blk k) wr
 lt:W.heap.size<wr.heap.size
 box:wr.cell? ⟨bb,0,none⟩=some (.string blk)
 ring:∀j,j<16->wr.cell? ⟨W.heap.size,j,none⟩=some (.int .u32 (eX blk (k+1) j))/\wr.frozen? ⟨W.heap.size,j,none⟩=false
theorem pE.of (blk:ByteArray)(J:List (Nat×Nat)->World->Prop)(b:Nat)(W:World)(k m:Nat)(wr:World)(l:∀s A B,J s A->Below W.heap.size A B->J s B)
 (e:J (cU blk k) wr) (d:W.heap.size<wr.heap.size) (i:wr.cell? ⟨b,0,none⟩=some (.string blk)) (n:b<W.heap.size)
 (c:∀j,j<16->wr.cell? ⟨W.heap.size,j,none⟩=some (.int .u32 (eX blk k j))/\wr.frozen? ⟨W.heap.size,j,none⟩=false):
 pE blk J b W k ((wr.drewN m).setCell ⟨W.heap.size,k%16,none⟩ (.int .u32 (mG blk k))) where
 j:=l _ _ _ e (((zl _ wr).bG m).setCell (p:=⟨W.heap.size,k%16,none⟩) (zd _) _)
 lt:=by simpa[World.setCell]using d
 box:=(World.cell?_setCell_other _ _ _ _ (by intro h;have:=xi Addr.block h;simp at this;omega)).trans i
 ring:=Gk blk k m _ wr c
theorem pE.next {blk:ByteArray}{J:List (Nat×Nat)->World->Prop}{b:Nat}{W:World}{k:Nat}{wr w':World}{l:Nat}{L:List Nat}(h:pE blk J b W k wr)(x:k<64)(s:J (cU blk k++ [(k,mG blk k)]) w')(c:ae (l::L) wr w')
 (u:l<W.heap.size) (q:l≠b) (r:∀i,i∈L->i<W.heap.size) (o:b∉L) (w:b<W.heap.size):Jr blk J b W (.int .i64 ((k+1:Nat):Int)) w':=by
 have hz:=c.size;have m:=h.lt;have d:W.heap.size∉l::L:=by
  intro h;rcases y9.1 h with h|h
  ·omega
  have:=r _ h;omega
 refine⟨k+1,by omega,rfl,by rw[qS];exact s,by omega, ?_,fun j n=>⟨?_, ?_⟩⟩
 ·exact(c.cell (p:=⟨b,0,none⟩) (by simp;omega) (by simp;exact⟨fun e=>q e.symm,o⟩)).trans h.box
 ·exact(c.cell (p:=⟨W.heap.size,j,none⟩) m d).trans (h.ring j n).1
 exact(c.frozen (p:=⟨W.heap.size,j,none⟩) m d).trans (h.ring j n).2
theorem Js (n:Nat)(blk:ByteArray)(hb:blk.size=64)(w:World)(b:Nat)(L:List Nat)(eW:w.cell? ⟨b,0,none⟩=some (.string blk))(aD:b<w.heap.size)(aa:b∉L)(hL:∀i,i∈L->i<w.heap.size):
 Lf Fence.wide n prog 240 #[.pointer (some ⟨b,0,none⟩)] Up (cU blk 64) L w:=by
 intro l J W U LP JM S hY h0;have F:=za S;have HY:=za hY;clear S hY;have L3:=U.size;have k7:W.cell? ⟨b,0,none⟩=some (.string blk):=(U.cell (p:=⟨b,0,none⟩) aD (by simp)).trans eW;refine callsIn_of_wp func240 rfl trivial ?_ rfl;simp only[ntmps240,Z4,zw,zL,Nat.reduceAdd,Nat.reduceSub,Array.replicate_succ,Array.replicate_zero,List.push_toArray,List.append_toArray,yu,zV];gi_wp2
 gi_loopw [6] (fun i wr=>Jr blk J b W i wr) (fun i _=>64-(intOf i).toNat)
 case atStart=>
  refine⟨0,by omega,rfl,F.out _ _ _ h0 ((zl _ W).alloc (zd _) _),by simp,((((zl _ W).alloc (zd _) _).cell (p:=⟨b,0,none⟩) (by simp;omega)).trans k7), ?_⟩;intro j hj;have hB:=af.new W 283 #[.int .u32 0,.int .u32 0,.int .u32 0,.int .u32 0,.int .u32 0,.int .u32 0,.int .u32 0,.int .u32 0,.int .u32 0,.int .u32 0,.int .u32 0,.int .u32 0,.int .u32 0,.int .u32 0,.int .u32 0,.int .u32 0];refine⟨(hB.cell j).trans ?_,hB.frozen j⟩;have Yz:j=0\/j=1\/j=2\/j=3\/j=4\/j=5\/j=6\/j=7\/j=8\/j=9\/j=10\/j=11\/j=12\/j=13\/j=14\/j=15:=by omega
  rcases Yz with rfl|rfl|rfl|rfl|rfl|rfl|rfl|rfl|rfl|rfl|rfl|rfl|rfl|rfl|rfl|rfl<;>rfl
 case round=>
  obtain⟨k,hk,rfl,O,Z,Y,s⟩:=hrel.ex;by_cases x:k<64
  ·by_cases H:k<16
   ·skip
    have aj:(k:Int)%16=k:=by omega
    have HW:=za (fun w=>P0 blk k w (by omega) (by omega));gi_wp2_with (refine⟨trivial,(fun h=>by cases h),(Yc.2 (HW.out _)).mono ?_⟩;rintro e w' ⟨rfl,m,rfl⟩)
    have d:=pE.of blk J b W k m wr F.out O Z Y (by omega) s;rw[Nat.mod_eq_of_lt H,BJ blk k H]at d;obtain⟨fn,tmps,assign,body,C,M⟩:=HY.out _ (k,mG blk k) _ d.j (ts blk k x);simp only[Up,BJ blk k H]at C;rw[C];refine⟨(fun h=>by cases h),M.mono ?_⟩;rintro e W' ⟨rfl,B,z⟩;gi_wp2
    go_roundw
    case rel=>exact d.next x B z JM (by omega) (fun i hi=>by have:=hL i hi;omega) aa (by omega)
    case measure=>simp[intOf];omega
   have A:16<=k:=by omega
   obtain⟨c,y⟩:∃c,k%16=c:=⟨_,rfl⟩
   obtain⟨q,D⟩:∃q,(k+1)%16=q:=⟨_,rfl⟩
   obtain⟨o,N⟩:∃o,(k+9)%16=o:=⟨_,rfl⟩
   obtain⟨r,I⟩:∃r,(k+14)%16=r:=⟨_,rfl⟩
   have E:c<16:=by omega
   have b1:q<16:=by omega
   have b2:o<16:=by omega
   have b3:r<16:=by omega
   have e0:(k:Int)%16=c:=by omega
   have e1:((k:Int)+1)%16=q:=by omega
   have e2:((k:Int)+9)%16=o:=by omega
   have e3:((k:Int)+14)%16=r:=by omega
   have r0:eX blk k c=mG blk (k-16):=by rw[<-y];exact ko blk k 0 A (by omega)
   have X:eX blk k q=mG blk (k-15):=by rw[<-D,ko blk k 1 A (by omega)];congr 1;omega
   have r2:eX blk k o=mG blk (k-7):=by rw[<-N,ko blk k 9 A (by omega)];congr 1;omega
   have R:eX blk k r=mG blk (k-2):=by rw[<-I,ko blk k 14 A (by omega)];congr 1;omega
   have c0:=(s c E).1;have c1:=(s q b1).1;have c2:=(s o b2).1;have c3:=(s r b3).1;have f0:=(s c E).2;rw[r0]at c0;rw[X]at c1;rw[r2]at c2;rw[R]at c3;have HM:=za (fun m=>pE.of blk J b W k m wr F.out O Z Y (by omega) s);rw[y]at HM;have x1:=OY blk (k-15);have x3:=OY blk (k-2);have HA:=za (fun w=>acF (mG blk (k-15)) w x1);have HB:=za (fun w=>acG (mG blk (k-2)) w x3);have HE:=za (Tl blk k A x);have K:=uU blk k;rw[y]at K;have Th:=za K;clear K;have HP:=za (ts blk k x);have HN:Hid (∀u w',pE blk J b W k u->J (cU blk k++ [(k,mG blk k)]) w'->ae (l::L) u w'->Jr blk J b W (.int .i64 ((k+1:Nat):Int)) w'):=za (fun u w' d B z=>d.next x B z JM (by omega) (fun i hi=>by have:=hL i hi;omega) aa (by omega));generalize mG blk (k-16)=v0 at*;generalize mG blk (k-15)=v1 at*;generalize mG blk (k-7)=v2 at*;generalize mG blk (k-2)=v3 at*;generalize sg0 v1=s1 at*;generalize sg1 v3=s3 at*;generalize mG blk k=G at*;have ag:=za (And.intro y (And.intro D (And.intro N I)));clear y D N I r0 X r2 R;have i0:(0:Int)<=(c:Int)/\(c:Int)<16:=by omega
   have i1:(0:Int)<=(q:Int)/\(q:Int)<16:=by omega
   have i2:(0:Int)<=(o:Int)/\(o:Int)<16:=by omega
   have i3:(0:Int)<=(r:Int)/\(r:Int)<16:=by omega
   obtain⟨i0,ad⟩:=i0;obtain⟨i1,ah⟩:=i1;obtain⟨i2,ab⟩:=i2;obtain⟨i3,ai⟩:=i3;have g1:IntKind.i64.wrap ((k:Int)+1)=(k:Int)+1:=zZ _ (by omega);have g2:IntKind.i64.wrap ((k:Int)+9)=(k:Int)+9:=zZ _ (by omega);have g3:IntKind.i64.wrap ((k:Int)+14)=(k:Int)+14:=zZ _ (by omega);have t1:((k:Int)+1).tmod 16=q:=by rw[xr (by omega)];exact e1
   have t2:((k:Int)+9).tmod 16=o:=by rw[xr (by omega)];exact e2
   have t3:((k:Int)+14).tmod 16=r:=by rw[xr (by omega)];exact e3
   have HV:Hid (((v0:Int)+((s1:Int)+v2+s3)%4294967296)%4294967296=(G:Int)):=za (by
    have:=HE.out;omega)
   clear s;gi_upto_region 7 with(fail)
   refine wpIn_wide.2 ?_;refine cE 24 (by kernel_rfl) (by kernel_rfl) ?_;simp only[zP,yz,yg,zK];repeat(go_big_quiet_step (first|(go_at_call 241;with_reducible exact Calls.quiet_of (HA.out _))|(go_at_call 241;with_reducible exact Calls.quiet_of (HB.out _))))
   refine xL ?_;intro nq;rw[HV.out];go_wp2;have d:=HM.out nq;obtain⟨u,R9⟩:∃u,(wr.drewN nq).setCell ⟨W.heap.size,c,none⟩ (.int .u32 G)=u:=⟨_,rfl⟩
   rw[R9]at d⊢;clear R9;have eI:=(d.ring c E).1;rw[Th.out]at eI;gi_wp2
   obtain⟨fn,tmps,assign,body,C,M⟩:=HY.out _ (k,G) _ d.j HP.out;simp only[Up]at C;rw[C];refine⟨(fun h=>by cases h),M.mono ?_⟩;rintro e W' ⟨rfl,B,z⟩;gi_wp2
   go_roundw
   case rel=>exact HN.out _ _ d B z
   case measure=>simp[intOf];omega
  obtain rfl:k=64:=by omega
  gi_wp2
  go_end0
  exact⟨⟨_,rfl⟩,O⟩
