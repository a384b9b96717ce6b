/- sha.spread: the iterator over a block's words. -/
import Derived.Test.YtimoclkoflamkaaGreatDoorKA21
import Derived.Test.YtimoclkoflamkaaGreatDoorKA33
import Derived.Sort.CutIn
import Derived.Deep.RegionHeld3
set_option linter.all false
set_option maxRecDepth 100000
set_option maxHeartbeats 4000000
open Go.Proofs.Tryz
namespace Go.Proofs.YtimoclkoflamkaaGreatDoor
open Go.RowKit Go.Shelf
def yW:=@Int.tmod_eq_emod_of_nonneg
def Yt:=@callsIn_wide
theorem SR (blk:ByteArray)(w:World):
 Calls prog 238 #[blk] w fun e w'=>e= .returned (.func (.func 244) #[] #[(w.heap.size,0)])/\w'=w.alloc (.cells #[blk] 9):=by
 go_enter func238,ntmps238
 go_wp2;go_ret;exact⟨rfl,rfl⟩
theorem aeJ (x:Nat)(w:World)(hx:x<4294967296):Calls prog 245 #[.int .u32 x,(7:Int),(18:Int),(3:Int)] w fun e w'=>e= .returned (.int .u32 (sg0 x))/\∃n,w'=w.drewN n:=Ac x 7 18 3 w hx (by omega) (by omega) (by omega)
theorem aeK (x:Nat)(w:World)(hx:x<4294967296):Calls prog 245 #[.int .u32 x,(17:Int),(19:Int),(10:Int)] w fun e w'=>e= .returned (.int .u32 (sg1 x))/\∃n,w'=w.drewN n:=Ac x 17 19 10 w hx (by omega) (by omega) (by omega)
theorem ahl (g:Nat){i j:Nat}(h:i≠j):((g,i):Addr)≠⟨g,j,none⟩:=fun e=>h (yi Addr.off e)
def cU (blk:ByteArray)(k:Nat):List (Nat×Nat):=(List.range k).map fun i=>(i,mD blk i)
theorem rA (blk:ByteArray)(k:Nat):cU blk (k+1)=cU blk k++ [(k,mD blk k)]:=by simp[cU,List.range_succ]
theorem uf (blk:ByteArray)(k:Nat)(h:k<64):cU blk k++ [(k,mD blk k)]<+:cU blk 64:=by
 rw[<-rA];refine⟨((List.range 64).drop (k+1)).map fun i=>(i,mD blk i), ?_⟩;unfold cU;rw[<-YF];congr 1
 have e:List.range (k+1)=(List.range 64).take (k+1):=by rw[List.take_range];congr 1;omega
 rw[e,zE]
def Wb (x:Nat×Nat):Array Value:= #[x.1,.int .u32 x.2]
structure KD (blk:ByteArray)(J:List (Nat×Nat)->World->Prop)(bb:Nat)(W:World)(i:Value)(wr:World):Prop where
 ex:∃k:Nat,k<=64/\i= .int .i64 k/\J (cU blk k) wr/\W.heap.size<wr.heap.size/\(wr,bb,0,blk)/\
  (∀j,j<16->(wr,W.heap.size,j,Value.int .u32 (eT blk k j))/\wr.frozen? (W.heap.size,j)=false)
theorem Hs (blk:ByteArray)(k m g:Nat)(wr:World)(c:∀j,j<16->(wr,g,j,Value.int .u32 (eT blk k j))/\wr.frozen? (g,j)=false):
 ∀j,j<16->(((wr.drewN m).setCell (g,k%16) (.int .u32 (mD blk k))),g,j,Value.int .u32 (eT blk (k+1) j))/\((wr.drewN m).setCell (g,k%16) (.int .u32 (mD blk k))).frozen? (g,j)=false:=by
 intro j b;have hd:(wr.drewN m).cell? (g,j)=some (.int .u32 (eT blk k j)):=(c j b).1;refine⟨?_,by rw[World.frozen?_setCell];exact(c j b).2⟩;by_cases e:j=k%16
 ·subst e;rw[vR];exact World.cell?_setCell_same' _ _ _ (by rw[hd];rfl)
 rw[DG blk k j b e];exact(World.cell?_setCell_other _ _ _ _ (by intro h;cases h;exact e rfl)).trans hd
structure pV (blk:ByteArray)(J:List (Nat×Nat)->World->Prop)(bb:Nat)(W:World)(k:Nat)(wr:World):Prop where
 j:J (cU blk k) wr
 lt:W.heap.size<wr.heap.size
 box:wr.cell? (bb,0)=some (.string blk)
 ring:∀j,j<16->(wr,W.heap.size,j,Value.int .u32 (eT blk (k+1) j))/\wr.frozen? (W.heap.size,j)=false
theorem pV.of (blk:ByteArray)(J:List (Nat×Nat)->World->Prop)(b:Nat)(W:World)(k m:Nat)(wr:World)(d:∀s A B,J s A->Below W.heap.size A B->J s B)
 (e:J (cU blk k) wr) (i:W.heap.size<wr.heap.size) (c:wr.cell? (b,0)=some (.string blk)) (n:b<W.heap.size)
 (l:∀j,j<16->(wr,W.heap.size,j,Value.int .u32 (eT blk k j))/\wr.frozen? (W.heap.size,j)=false):
 pV blk J b W k ((wr.drewN m).setCell (W.heap.size,k%16) (.int .u32 (mD blk k))) where
 j:=d _ _ _ e (((zi _ wr).bI m).setCell (p:=(W.heap.size,k%16)) (ze _) _)
 lt:=by simpa[World.setCell]using i
 box:=(World.cell?_setCell_other _ _ _ _ (by intro h;have:=yi Addr.block h;simp at this;omega)).trans c
 ring:=Hs blk k m _ wr l
theorem pV.next {blk:ByteArray}{J:List (Nat×Nat)->World->Prop}{b:Nat}{W:World}{k:Nat}{wr w':World}{l:Nat}{L:List Nat}(h:pV blk J b W k wr)(u:k<64)(o:J (cU blk k++ [(k,mD blk k)]) w')(c:ae (l::L) wr w')
 (x:l<W.heap.size) (s:l≠b) (r:∀i,i∈L->i<W.heap.size) (q:b∉L) (w:b<W.heap.size):KD blk J b W ((k+1:Nat):Int) w':=by
 have hz:=c.size;have n:=h.lt;have m:W.heap.size∉l::L:=by
  intro h;rcases yj.1 h with h|h
  ·omega
  have:=r _ h;omega
 refine⟨k+1,by omega,rfl,by rw[rA];exact o,by omega, ?_,fun j d=>⟨?_, ?_⟩⟩
 ·exact(c.cell (p:=(b,0)) (by simp;omega) (by simp;exact⟨fun e=>s e.symm,q⟩)).trans h.box
 ·exact(c.cell (p:=(W.heap.size,j)) n m).trans (h.ring j d).1
 exact(c.frozen (p:=(W.heap.size,j)) n m).trans (h.ring j d).2
theorem KE (n:Nat)(blk:ByteArray)(hb:blk.size=64)(w:World)(b:Nat)(L:List Nat)(eD:w.cell? (b,0)=some (.string blk))(aD:b<w.heap.size)(Z:b∉L)(hL:∀i,i∈L->i<w.heap.size):
 MM Fence.wide n prog 244 #[(b,0)] Wb (cU blk 64) L w:=by
 intro l J W hW Fq s8 hJ X h0;have N:=za hJ;have HY:=za X;clear hJ X;have ah:=hW.size;have jj:W.cell? (b,0)=some (.string blk):=(hW.cell (p:=(b,0)) aD (by simp)).trans eD;refine callsIn_of_wp func244 rfl trivial ?_ rfl;simp only[ntmps244,Zy,zx,zM,Nat.reduceAdd,Nat.reduceSub,Array.replicate_succ,Array.replicate_zero,List.push_toArray,List.append_toArray,yo,zT];gi_wp2
 gi_loopw [6] (fun i wr=>KD blk J b W i wr) (fun i _=>64-(intOf i).toNat)
 case atStart=>
  refine⟨0,by omega,rfl,N.out _ _ _ h0 ((zi _ W).alloc (ze _) _),by simp,((((zi _ W).alloc (ze _) _).cell (p:=(b,0)) (by simp;omega)).trans jj), ?_⟩;intro j hj;have hB:=af.new W 295 #[.int .u32 0,.int .u32 0,.int .u32 0,.int .u32 0,.int .u32 0,.int .u32 0,.int .u32 0,.int .u32 0,.int .u32 0,.int .u32 0,.int .u32 0,.int .u32 0,.int .u32 0,.int .u32 0,.int .u32 0,.int .u32 0];refine⟨(hB.cell j).trans ?_,hB.frozen j⟩;have ab:j=0\/j=1\/j=2\/j=3\/j=4\/j=5\/j=6\/j=7\/j=8\/j=9\/j=10\/j=11\/j=12\/j=13\/j=14\/j=15:=by omega
  rcases ab with rfl|rfl|rfl|rfl|rfl|rfl|rfl|rfl|rfl|rfl|rfl|rfl|rfl|rfl|rfl|rfl<;>rfl
 case round=>
  obtain⟨k,hk,rfl,G,U,gH,s⟩:=hrel.ex;by_cases A:k<64
  ·by_cases O:k<16
   ·skip
    have ad:(k:Int)%16=k:=by omega
    have HW:=za (fun w=>R5 blk k w (by omega) (by omega));gi_wp2_with (refine⟨trivial,(fun h=>by cases h),(Yt.2 (HW.out _)).mono ?_⟩;rintro e w' ⟨rfl,m,rfl⟩)
    have d:=pV.of blk J b W k m wr N.out G U gH (by omega) s;rw[Nat.mod_eq_of_lt O,Cs blk k O]at d;obtain⟨fn,tmps,assign,body,z,I⟩:=HY.out _ (k,mD blk k) _ d.j (uf blk k A);simp only[Wb,Cs blk k O]at z;rw[z];refine⟨(fun h=>by cases h),I.mono ?_⟩;rintro e W' ⟨rfl,B,x⟩;gi_wp2
    go_roundw
    case rel=>exact d.next A B x s8 (by omega) (fun i hi=>by have:=hL i hi;omega) Z (by omega)
    case measure=>simp[intOf];omega
   have y:16<=k:=by omega
   obtain⟨c,C⟩:∃c,k%16=c:=⟨_,rfl⟩
   obtain⟨o,M⟩:∃o,(k+1)%16=o:=⟨_,rfl⟩
   obtain⟨q,E⟩:∃q,(k+9)%16=q:=⟨_,rfl⟩
   obtain⟨r,F⟩:∃r,(k+14)%16=r:=⟨_,rfl⟩
   have D:c<16:=by omega
   have b1:o<16:=by omega
   have b2:q<16:=by omega
   have b3:r<16:=by omega
   have e0:(k:Int)%16=c:=by omega
   have e1:((k:Int)+1)%16=o:=by omega
   have e2:((k:Int)+9)%16=q:=by omega
   have e3:((k:Int)+14)%16=r:=by omega
   have r0:eT blk k c=mD blk (k-16):=by rw[<-C];exact kg blk k 0 y (by omega)
   have r1:eT blk k o=mD blk (k-15):=by rw[<-M,kg blk k 1 y (by omega)];congr 1;omega
   have S:eT blk k q=mD blk (k-7):=by rw[<-E,kg blk k 9 y (by omega)];congr 1;omega
   have r3:eT blk k r=mD blk (k-2):=by rw[<-F,kg blk k 14 y (by omega)];congr 1;omega
   have c0:=(s c D).1;have c1:=(s o b1).1;have c2:=(s q b2).1;have c3:=(s r b3).1;have f0:=(s c D).2;rw[r0]at c0;rw[r1]at c1;rw[S]at c2;rw[r3]at c3;have HM:=za (fun m=>pV.of blk J b W k m wr N.out G U gH (by omega) s);rw[C]at HM;have x1:=QM blk (k-15);have x3:=QM blk (k-2);have HA:=za (fun w=>aeJ (mD blk (k-15)) w x1);have HB:=za (fun w=>aeK (mD blk (k-2)) w x3);have HE:=za (U0 blk k y A);have K:=vR blk k;rw[C]at K;have P0:=za K;clear K;have HP:=za (uf blk k A);have HN:Hid (∀u w',pV blk J b W k u->J (cU blk k++ [(k,mD blk k)]) w'->ae (l::L) u w'->KD blk J b W ((k+1:Nat):Int) w'):=za (fun u w' d B x=>d.next A B x s8 (by omega) (fun i hi=>by have:=hL i hi;omega) Z (by omega));generalize mD blk (k-16)=v0 at*;generalize mD blk (k-15)=v1 at*;generalize mD blk (k-7)=v2 at*;generalize mD blk (k-2)=v3 at*;generalize sg0 v1=s1 at*;generalize sg1 v3=s3 at*;generalize mD blk k=H at*;have ag:=za (And.intro C (And.intro M (And.intro E F)));clear C M E F r0 r1 S r3;have R:(0:Int)<=(c:Int)/\(c:Int)<16:=by omega
   have i1:(0:Int)<=(o:Int)/\(o:Int)<16:=by omega
   have i2:(0:Int)<=(q:Int)/\(q:Int)<16:=by omega
   have Y:(0:Int)<=(r:Int)/\(r:Int)<16:=by omega
   obtain⟨R,ak⟩:=R;obtain⟨i1,al⟩:=i1;obtain⟨i2,aj⟩:=i2;obtain⟨Y,ai⟩:=Y;have g1:IntKind.i64.wrap ((k:Int)+1)=(k:Int)+1:=zY _ (by omega);have g2:IntKind.i64.wrap ((k:Int)+9)=(k:Int)+9:=zY _ (by omega);have g3:IntKind.i64.wrap ((k:Int)+14)=(k:Int)+14:=zY _ (by omega);have t1:((k:Int)+1).tmod 16=o:=by rw[yW (by omega)];exact e1
   have t2:((k:Int)+9).tmod 16=q:=by rw[yW (by omega)];exact e2
   have t3:((k:Int)+14).tmod 16=r:=by rw[yW (by omega)];exact e3
   have HV:Hid (((v0:Int)+((s1:Int)+v2+s3)%4294967296)%4294967296=(H:Int)):=za (by
    have:=HE.out;omega)
   clear s;gi_upto_region 7 with(fail)
   refine wpIn_wide.2 ?_;refine cG 24 (by kernel_rfl) (by kernel_rfl) ?_;simp only[zO,yq,zV,zG];repeat(go_big_quiet_step (first|(go_at_call 245;with_reducible exact Calls.quiet_of (HA.out _))|(go_at_call 245;with_reducible exact Calls.quiet_of (HB.out _))))
   refine xr ?_;intro nq;rw[HV.out];go_wp2;have d:=HM.out nq;obtain⟨u,aa⟩:∃u,(wr.drewN nq).setCell (W.heap.size,c) (.int .u32 H)=u:=⟨_,rfl⟩
   rw[aa]at d⊢;clear aa;have df:=(d.ring c D).1;rw[P0.out]at df;gi_wp2
   obtain⟨fn,tmps,assign,body,z,I⟩:=HY.out _ (k,H) _ d.j HP.out;simp only[Wb]at z;rw[z];refine⟨(fun h=>by cases h),I.mono ?_⟩;rintro e W' ⟨rfl,B,x⟩;gi_wp2
   go_roundw
   case rel=>exact HN.out _ _ d B x
   case measure=>simp[intOf];omega
  obtain rfl:k=64:=by omega
  gi_wp2
  go_end0
  exact⟨⟨_,rfl⟩,G⟩
