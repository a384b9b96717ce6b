/- sha.spread: the iterator over a block's words. -/
import Derived.Test.YtdbmifjankgfpaaGreatDoorKA11
import Derived.Test.YtdbmifjankgfpaaGreatDoorKA12
import Derived.StillTailTactics
import Derived.Sort.CutIn
import Derived.Deep.RegionHeld3
set_option linter.all false
set_option maxRecDepth 100000
set_option maxHeartbeats 4000000
open Go.Proofs.Tryz
namespace Go.Proofs.YtdbmifjankgfpaaGreatDoor
open Go.RowKit Go.Shelf
def ZT:=@Int.tmod_eq_emod_of_nonneg
def Yc:=@callsIn_wide
theorem Q8 (blk:ByteArray)(w:World):
 Calls prog 224 #[.string blk] w fun e w'=>e= .returned (.func (.func 240) #[] #[.pointer (some ⟨w.heap.size,0,none⟩)])/\w'=w.alloc (.cells #[.string blk] 9):=by
 go_enter func224,ntmps224
 go_wp2;go_ret;exact⟨rfl,rfl⟩
theorem acB (x:Nat)(w:World)(hx:x<4294967296):Calls prog 241 #[.int .u32 x,.int .i64 7,.int .i64 18,.int .i64 3] w fun e w'=>e= .returned (.int .u32 (sg0 x))/\∃n,w'=w.drewN n:=vH x 7 18 3 w hx (by omega) (by omega) (by omega)
theorem acC (x:Nat)(w:World)(hx:x<4294967296):Calls prog 241 #[.int .u32 x,.int .i64 17,.int .i64 19,.int .i64 10] w fun e w'=>e= .returned (.int .u32 (sg1 x))/\∃n,w'=w.drewN n:=vH x 17 19 10 w hx (by omega) (by omega) (by omega)
theorem afi (g:Nat){i j:Nat}(h:i≠j):(⟨g,i,none⟩:Addr)≠⟨g,j,none⟩:=fun e=>h (xu Addr.off e)
def da (blk:ByteArray)(k:Nat):List (Nat×Nat):=(List.range k).map fun i=>(i,mA blk i)
theorem qS (blk:ByteArray)(k:Nat):da blk (k+1)=da blk k++ [(k,mA blk k)]:=by simp[da,List.range_succ]
theorem s9 (blk:ByteArray)(k:Nat)(h:k<64):da blk k++ [(k,mA blk k)]<+:da blk 64:=by
 rw[<-qS];refine⟨((List.range 64).drop (k+1)).map fun i=>(i,mA blk i), ?_⟩;unfold da;rw[<-Ym];congr 1
 have e:List.range (k+1)=(List.range 64).take (k+1):=by rw[List.take_range];congr 1;omega
 rw[e,zC]
def Up (x:Nat×Nat):Array Value:= #[.int .i64 x.1,.int .u32 x.2]
structure JA (blk:ByteArray)(J:List (Nat×Nat)->World->Prop)(bb:Nat)(W:World)(i:Value)(wr:World):Prop where
 ex:∃k:Nat,k<=64/\i= .int .i64 k/\J (da blk k) wr/\W.heap.size<wr.heap.size/\wr.cell? ⟨bb,0,none⟩=some (.string blk)/\
  (∀j,j<16->wr.cell? ⟨W.heap.size,j,none⟩=some (.int .u32 (eY blk k j))/\wr.frozen? ⟨W.heap.size,j,none⟩=false)
theorem Gj (blk:ByteArray)(k m g:Nat)(wr:World)(c:∀j,j<16->wr.cell? ⟨g,j,none⟩=some (.int .u32 (eY blk k j))/\wr.frozen? ⟨g,j,none⟩=false):
 ∀j,j<16->((wr.drewN m).setCell ⟨g,k%16,none⟩ (.int .u32 (mA blk k))).cell? ⟨g,j,none⟩=some (.int .u32 (eY blk (k+1) j))/\((wr.drewN m).setCell ⟨g,k%16,none⟩ (.int .u32 (mA blk k))).frozen? ⟨g,j,none⟩=false:=by
 intro j b;have hd:(wr.drewN m).cell? ⟨g,j,none⟩=some (.int .u32 (eY blk k j)):=(c j b).1;refine⟨?_,by rw[World.frozen?_setCell];exact(c j b).2⟩;by_cases e:j=k%16
 ·subst e;rw[uN];exact World.cell?_setCell_same' _ _ _ (by rw[hd];rfl)
 rw[CC blk k j b e];exact(World.cell?_setCell_other _ _ _ _ (by intro h;cases h;exact e rfl)).trans hd
structure px (blk:ByteArray)(J:List (Nat×Nat)->World->Prop)(bb:Nat)(W:World)(k:Nat)(wr:World):Prop where
 j:J (da blk k) wr
 lt:W.heap.size<wr.heap.size
 box:wr.cell? ⟨bb,0,none⟩=some (.string blk)
 ring:∀j,j<16->wr.cell? ⟨W.heap.size,j,none⟩=some (.int .u32 (eY blk (k+1) j))/\wr.frozen? ⟨W.heap.size,j,none⟩=false
theorem px.of (blk:ByteArray)(J:List (Nat×Nat)->World->Prop)(b:Nat)(W:World)(k m:Nat)(wr:World)(e:∀s A B,J s A->Below W.heap.size A B->J s B)
 (d:J (da blk k) wr) (i:W.heap.size<wr.heap.size) (l:wr.cell? ⟨b,0,none⟩=some (.string blk)) (n:b<W.heap.size)
 (c:∀j,j<16->wr.cell? ⟨W.heap.size,j,none⟩=some (.int .u32 (eY blk k j))/\wr.frozen? ⟨W.heap.size,j,none⟩=false):
 px blk J b W k ((wr.drewN m).setCell ⟨W.heap.size,k%16,none⟩ (.int .u32 (mA blk k))) where
 j:=e _ _ _ d (((zl _ wr).bJ m).setCell (p:=⟨W.heap.size,k%16,none⟩) (zg _) _)
 lt:=by simpa[World.setCell]using i
 box:=(World.cell?_setCell_other _ _ _ _ (by intro h;have:=xu Addr.block h;simp at this;omega)).trans l
 ring:=Gj blk k m _ wr c
theorem px.next {blk:ByteArray}{J:List (Nat×Nat)->World->Prop}{b:Nat}{W:World}{k:Nat}{wr w':World}{l:Nat}{L:List Nat}(h:px blk J b W k wr)(u:k<64)(o:J (da blk k++ [(k,mA blk k)]) w')(c:ae (l::L) wr w')
 (w:l<W.heap.size) (s:l≠b) (r:∀i,i∈L->i<W.heap.size) (q:b∉L) (x:b<W.heap.size):JA blk J b W (.int .i64 ((k+1:Nat):Int)) w':=by
 have hz:=c.size;have n:=h.lt;have m:W.heap.size∉l::L:=by
  intro h;rcases xf.1 h with h|h
  ·omega
  have:=r _ h;omega
 refine⟨k+1,by omega,rfl,by rw[qS];exact o,by omega, ?_,fun j d=>⟨?_, ?_⟩⟩
 ·exact(c.cell (p:=⟨b,0,none⟩) (by simp;omega) (by simp;exact⟨fun e=>s e.symm,q⟩)).trans h.box
 ·exact(c.cell (p:=⟨W.heap.size,j,none⟩) n m).trans (h.ring j d).1
 exact(c.frozen (p:=⟨W.heap.size,j,none⟩) n m).trans (h.ring j d).2
theorem JB (n:Nat)(blk:ByteArray)(hb:blk.size=64)(w:World)(b:Nat)(L:List Nat)(fu:w.cell? ⟨b,0,none⟩=some (.string blk))(aC:b<w.heap.size)(aa:b∉L)(R:∀i,i∈L->i<w.heap.size):
 Lt Fence.wide n prog 240 #[.pointer (some ⟨b,0,none⟩)] Up (da blk 64) L w:=by
 intro l J W Z DN JS hJ hY h0;have N:=za hJ;have HY:=za hY;clear hJ hY;have Md:=Z.size;have oB:W.cell? ⟨b,0,none⟩=some (.string blk):=(Z.cell (p:=⟨b,0,none⟩) aC (by simp)).trans fu;refine callsIn_of_wp func240 rfl trivial ?_ rfl;simp only[ntmps240,ZZ,zy,zL,Nat.reduceAdd,Nat.reduceSub,Array.replicate_succ,Array.replicate_zero,List.push_toArray,List.append_toArray,yx,zP];gi_wp2
 gi_loopw [6] (fun i wr=>JA blk J b W i wr) (fun i _=>64-(intOf i).toNat)
 case atStart=>
  refine⟨0,by omega,rfl,N.out _ _ _ h0 ((zl _ W).alloc (zg _) _),by simp,((((zl _ W).alloc (zg _) _).cell (p:=⟨b,0,none⟩) (by simp;omega)).trans oB), ?_⟩;intro j hj;have hB:=af.new W 283 #[.int .u32 0,.int .u32 0,.int .u32 0,.int .u32 0,.int .u32 0,.int .u32 0,.int .u32 0,.int .u32 0,.int .u32 0,.int .u32 0,.int .u32 0,.int .u32 0,.int .u32 0,.int .u32 0,.int .u32 0,.int .u32 0];refine⟨(hB.cell j).trans ?_,hB.frozen j⟩;have YC:j=0\/j=1\/j=2\/j=3\/j=4\/j=5\/j=6\/j=7\/j=8\/j=9\/j=10\/j=11\/j=12\/j=13\/j=14\/j=15:=by omega
  rcases YC with rfl|rfl|rfl|rfl|rfl|rfl|rfl|rfl|rfl|rfl|rfl|rfl|rfl|rfl|rfl|rfl<;>rfl
 case round=>
  obtain⟨k,hk,rfl,I,Y,U,s⟩:=hrel.ex;by_cases C:k<64
  ·by_cases D:k<16
   ·skip
    have ai:(k:Int)%16=k:=by omega
    have HW:=za (fun w=>Qi blk k w (by omega) (by omega));gi_wp2_with (refine⟨trivial,(fun h=>by cases h),(Yc.2 (HW.out _)).mono ?_⟩;rintro e w' ⟨rfl,m,rfl⟩)
    have d:=px.of blk J b W k m wr N.out I Y U (by omega) s;rw[Nat.mod_eq_of_lt D,Bu blk k D]at d;obtain⟨fn,tmps,assign,body,z,F⟩:=HY.out _ (k,mA blk k) _ d.j (s9 blk k C);simp only[Up,Bu blk k D]at z;rw[z];refine⟨(fun h=>by cases h),F.mono ?_⟩;rintro e W' ⟨rfl,B,y⟩;gi_wp2
    go_roundw
    case rel=>exact d.next C B y JS (by omega) (fun i hi=>by have:=R i hi;omega) aa (by omega)
    case measure=>simp[intOf];omega
   have A:16<=k:=by omega
   obtain⟨c,x⟩:∃c,k%16=c:=⟨_,rfl⟩
   obtain⟨o,E⟩:∃o,(k+1)%16=o:=⟨_,rfl⟩
   obtain⟨r,G⟩:∃r,(k+9)%16=r:=⟨_,rfl⟩
   obtain⟨q,O⟩:∃q,(k+14)%16=q:=⟨_,rfl⟩
   have H:c<16:=by omega
   have b1:o<16:=by omega
   have b2:r<16:=by omega
   have b3:q<16:=by omega
   have e0:(k:Int)%16=c:=by omega
   have e1:((k:Int)+1)%16=o:=by omega
   have e2:((k:Int)+9)%16=r:=by omega
   have e3:((k:Int)+14)%16=q:=by omega
   have S:eY blk k c=mA blk (k-16):=by rw[<-x];exact j9 blk k 0 A (by omega)
   have X:eY blk k o=mA blk (k-15):=by rw[<-E,j9 blk k 1 A (by omega)];congr 1;omega
   have r2:eY blk k r=mA blk (k-7):=by rw[<-G,j9 blk k 9 A (by omega)];congr 1;omega
   have r3:eY blk k q=mA blk (k-2):=by rw[<-O,j9 blk k 14 A (by omega)];congr 1;omega
   have c0:=(s c H).1;have c1:=(s o b1).1;have c2:=(s r b2).1;have c3:=(s q b3).1;have f0:=(s c H).2;rw[S]at c0;rw[X]at c1;rw[r2]at c2;rw[r3]at c3;have HM:=za (fun m=>px.of blk J b W k m wr N.out I Y U (by omega) s);rw[x]at HM;have x1:=Pc blk (k-15);have x3:=Pc blk (k-2);have HA:=za (fun w=>acB (mA blk (k-15)) w x1);have HB:=za (fun w=>acC (mA blk (k-2)) w x3);have HE:=za (Ti blk k A C);have M:=uN blk k;rw[x]at M;have Tf:=za M;clear M;have HP:=za (s9 blk k C);have HN:Hid (∀u w',px blk J b W k u->J (da blk k++ [(k,mA blk k)]) w'->ae (l::L) u w'->JA blk J b W (.int .i64 ((k+1:Nat):Int)) w'):=za (fun u w' d B y=>d.next C B y JS (by omega) (fun i hi=>by have:=R i hi;omega) aa (by omega));generalize mA blk (k-16)=v0 at*;generalize mA blk (k-15)=v1 at*;generalize mA blk (k-7)=v2 at*;generalize mA blk (k-2)=v3 at*;generalize sg0 v1=s1 at*;generalize sg1 v3=s3 at*;generalize mA blk k=K at*;have ah:=za (And.intro x (And.intro E (And.intro G O)));clear x E G O S X r2 r3;have i0:(0:Int)<=(c:Int)/\(c:Int)<16:=by omega
   have i1:(0:Int)<=(o:Int)/\(o:Int)<16:=by omega
   have i2:(0:Int)<=(r:Int)/\(r:Int)<16:=by omega
   have i3:(0:Int)<=(q:Int)/\(q:Int)<16:=by omega
   obtain⟨i0,ak⟩:=i0;obtain⟨i1,aj⟩:=i1;obtain⟨i2,ad⟩:=i2;obtain⟨i3,ag⟩:=i3;have g1:IntKind.i64.wrap ((k:Int)+1)=(k:Int)+1:=yc _ (by omega);have g2:IntKind.i64.wrap ((k:Int)+9)=(k:Int)+9:=yc _ (by omega);have g3:IntKind.i64.wrap ((k:Int)+14)=(k:Int)+14:=yc _ (by omega);have t1:((k:Int)+1).tmod 16=o:=by rw[ZT (by omega)];exact e1
   have t2:((k:Int)+9).tmod 16=r:=by rw[ZT (by omega)];exact e2
   have t3:((k:Int)+14).tmod 16=q:=by rw[ZT (by omega)];exact e3
   have HV:Hid (((v0:Int)+((s1:Int)+v2+s3)%4294967296)%4294967296=(K:Int)):=za (by
    have:=HE.out;omega)
   clear s;gi_upto_region 7 with(fail)
   refine wpIn_wide.2 ?_;refine cL 24 (by kernel_rfl) (by kernel_rfl) ?_;simp only[zO,yu,zX,zJ];repeat(go_big_quiet_step (first|(go_at_call 241;with_reducible exact Calls.quiet_of (HA.out _))|(go_at_call 241;with_reducible exact Calls.quiet_of (HB.out _))))
   refine xE ?_;intro nq;rw[HV.out];go_wp2;have d:=HM.out nq;obtain⟨u,ab⟩:∃u,(wr.drewN nq).setCell ⟨W.heap.size,c,none⟩ (.int .u32 K)=u:=⟨_,rfl⟩
   rw[ab]at d⊢;clear ab;have bV:=(d.ring c H).1;rw[Tf.out]at bV;gi_wp2
   obtain⟨fn,tmps,assign,body,z,F⟩:=HY.out _ (k,K) _ d.j HP.out;simp only[Up]at z;rw[z];refine⟨(fun h=>by cases h),F.mono ?_⟩;rintro e W' ⟨rfl,B,y⟩;gi_wp2
   go_roundw
   case rel=>exact HN.out _ _ d B y
   case measure=>simp[intOf];omega
  obtain rfl:k=64:=by omega
  gi_wp2
  go_end0
  exact⟨⟨_,rfl⟩,I⟩
