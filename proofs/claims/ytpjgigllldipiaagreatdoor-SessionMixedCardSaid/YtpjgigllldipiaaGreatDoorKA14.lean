/- sha.spread: the iterator over a block's words. -/
import Derived.Test.YtpjgigllldipiaaGreatDoorKA11
import Derived.Test.YtpjgigllldipiaaGreatDoorKA12
import Derived.StillTailTactics
import Derived.Sort.CutIn
import Derived.Deep.RegionHeld3
set_option linter.all false
set_option maxRecDepth 100000
set_option maxHeartbeats 4000000
namespace Go.Proofs.YtpjgigllldipiaaGreatDoor
open Tryz
open Go.RowKit Go.Shelf
def Z7:=@Int.tmod_eq_emod_of_nonneg
def Yn:=@callsIn_wide
theorem P5 (blk:ByteArray)(w:World):
 Calls prog 221 #[.string blk] w fun e w'=>e= .returned (.func (.func 227) #[] #[.pointer (some ⟨w.heap.size,0,none⟩)])/\w'=w.alloc (.cells #[.string blk] 9):=by
 go_enter func221,ntmps221
 go_wp2;go_ret;exact⟨rfl,rfl⟩
theorem abu (x:Nat)(w:World)(hx:x<4294967296):Calls prog 228 #[.int .u32 x,.int .i64 7,.int .i64 18,.int .i64 3] w fun e w'=>e= .returned (.int .u32 (sg0 x))/\∃n,w'=w.drewN n:=uW x 7 18 3 w hx (by omega) (by omega) (by omega)
theorem abv (x:Nat)(w:World)(hx:x<4294967296):Calls prog 228 #[.int .u32 x,.int .i64 17,.int .i64 19,.int .i64 10] w fun e w'=>e= .returned (.int .u32 (sg1 x))/\∃n,w'=w.drewN n:=uW x 17 19 10 w hx (by omega) (by omega) (by omega)
theorem aea (g:Nat){i j:Nat}(h:i≠j):(⟨g,i,none⟩:Addr)≠⟨g,j,none⟩:=fun e=>h (xC Addr.off e)
def cN (blk:ByteArray)(k:Nat):List (Nat×Nat):=(List.range k).map fun i=>(i,lV blk i)
theorem qg (blk:ByteArray)(k:Nat):cN blk (k+1)=cN blk k++ [(k,lV blk k)]:=by simp[cN,List.range_succ]
theorem sL (blk:ByteArray)(k:Nat)(h:k<64):cN blk k++ [(k,lV blk k)]<+:cN blk 64:=by
 rw[<-qg];refine⟨((List.range 64).drop (k+1)).map fun i=>(i,lV blk i), ?_⟩;unfold cN;rw[<-List.map_append];congr 1
 have e:List.range (k+1)=(List.range 64).take (k+1):=by rw[List.take_range];congr 1;omega
 rw[e,zN]
def Tu (x:Nat×Nat):Array Value:= #[.int .i64 x.1,.int .u32 x.2]
structure IP (blk:ByteArray)(J:List (Nat×Nat)->World->Prop)(bb:Nat)(W:World)(i:Value)(wr:World):Prop where
 ex:∃k:Nat,k<=64/\i= .int .i64 k/\J (cN blk k) wr/\W.heap.size<wr.heap.size/\wr.cell? ⟨bb,0,none⟩=some (.string blk)/\
  (∀j,j<16->wr.cell? ⟨W.heap.size,j,none⟩=some (.int .u32 (eI blk k j))/\wr.frozen? ⟨W.heap.size,j,none⟩=false)
theorem FL (blk:ByteArray)(k m g:Nat)(wr:World)(c:∀j,j<16->wr.cell? ⟨g,j,none⟩=some (.int .u32 (eI blk k j))/\wr.frozen? ⟨g,j,none⟩=false):
 ∀j,j<16->((wr.drewN m).setCell ⟨g,k%16,none⟩ (.int .u32 (lV blk k))).cell? ⟨g,j,none⟩=some (.int .u32 (eI blk (k+1) j))/\((wr.drewN m).setCell ⟨g,k%16,none⟩ (.int .u32 (lV blk k))).frozen? ⟨g,j,none⟩=false:=by
 intro j b;have hd:(wr.drewN m).cell? ⟨g,j,none⟩=some (.int .u32 (eI blk k j)):=(c j b).1;refine⟨?_,by rw[World.frozen?_setCell];exact(c j b).2⟩;by_cases e:j=k%16
 ·subst e;rw[tX];exact World.cell?_setCell_same' _ _ _ (by rw[hd];rfl)
 rw[Ch blk k j b e];exact(World.cell?_setCell_other _ _ _ _ (by intro h;cases h;exact e rfl)).trans hd
structure oR (blk:ByteArray)(J:List (Nat×Nat)->World->Prop)(bb:Nat)(W:World)(k:Nat)(wr:World):Prop where
 j:J (cN blk k) wr
 lt:W.heap.size<wr.heap.size
 box:wr.cell? ⟨bb,0,none⟩=some (.string blk)
 ring:∀j,j<16->wr.cell? ⟨W.heap.size,j,none⟩=some (.int .u32 (eI blk (k+1) j))/\wr.frozen? ⟨W.heap.size,j,none⟩=false
theorem oR.of (blk:ByteArray)(J:List (Nat×Nat)->World->Prop)(b:Nat)(W:World)(k m:Nat)(wr:World)(d:∀s A B,J s A->Below W.heap.size A B->J s B)
 (e:J (cN blk k) wr) (l:W.heap.size<wr.heap.size) (i:wr.cell? ⟨b,0,none⟩=some (.string blk)) (n:b<W.heap.size)
 (c:∀j,j<16->wr.cell? ⟨W.heap.size,j,none⟩=some (.int .u32 (eI blk k j))/\wr.frozen? ⟨W.heap.size,j,none⟩=false):
 oR blk J b W k ((wr.drewN m).setCell ⟨W.heap.size,k%16,none⟩ (.int .u32 (lV blk k))) where
 j:=d _ _ _ e (((zq _ wr).bB m).setCell (p:=⟨W.heap.size,k%16,none⟩) (zf _) _)
 lt:=by simpa[World.setCell]using l
 box:=(World.cell?_setCell_other _ _ _ _ (by intro h;have:=xC Addr.block h;simp at this;omega)).trans i
 ring:=FL blk k m _ wr c
theorem oR.next {blk:ByteArray}{J:List (Nat×Nat)->World->Prop}{b:Nat}{W:World}{k:Nat}{wr w':World}{l:Nat}{L:List Nat}(h:oR blk J b W k wr)(x:k<64)(r:J (cN blk k++ [(k,lV blk k)]) w')(c:ae (l::L) wr w')
 (w:l<W.heap.size) (o:l≠b) (q:∀i,i∈L->i<W.heap.size) (s:b∉L) (u:b<W.heap.size):IP blk J b W (.int .i64 ((k+1:Nat):Int)) w':=by
 have hz:=c.size;have n:=h.lt;have d:W.heap.size∉l::L:=by
  intro h;rcases xA.1 h with h|h
  ·omega
  have:=q _ h;omega
 refine⟨k+1,by omega,rfl,by rw[qg];exact r,by omega, ?_,fun j m=>⟨?_, ?_⟩⟩
 ·exact(c.cell (p:=⟨b,0,none⟩) (by simp;omega) (by simp;exact⟨fun e=>o e.symm,s⟩)).trans h.box
 ·exact(c.cell (p:=⟨W.heap.size,j,none⟩) n d).trans (h.ring j m).1
 exact(c.frozen (p:=⟨W.heap.size,j,none⟩) n d).trans (h.ring j m).2
theorem IQ (n:Nat)(blk:ByteArray)(hb:blk.size=64)(w:World)(b:Nat)(L:List Nat)(eY:w.cell? ⟨b,0,none⟩=some (.string blk))(aC:b<w.heap.size)(aa:b∉L)(hL:∀i,i∈L->i<w.heap.size):
 Kr Fence.wide n prog 227 #[.pointer (some ⟨b,0,none⟩)] Tu (cN blk 64) L w:=by
 intro l J W hW B5 BV hJ Y h0;have M:=za hJ;have HY:=za Y;clear hJ Y;have KY:=hW.size;have lJ:W.cell? ⟨b,0,none⟩=some (.string blk):=(hW.cell (p:=⟨b,0,none⟩) aC (by simp)).trans eY;refine callsIn_of_wp func227 rfl trivial ?_ rfl;simp only[ntmps227,Yf,zD,zS,Nat.reduceAdd,Nat.reduceSub,Array.replicate_succ,Array.replicate_zero,List.push_toArray,List.append_toArray,yE,ya];gi_wp2
 gi_loopw [6] (fun i wr=>IP blk J b W i wr) (fun i _=>64-(intOf i).toNat)
 case atStart=>
  refine⟨0,by omega,rfl,M.out _ _ _ h0 ((zq _ W).alloc (zf _) _),by simp,((((zq _ W).alloc (zf _) _).cell (p:=⟨b,0,none⟩) (by simp;omega)).trans lJ), ?_⟩;intro j hj;have hB:=af.new W 271 #[.int .u32 0,.int .u32 0,.int .u32 0,.int .u32 0,.int .u32 0,.int .u32 0,.int .u32 0,.int .u32 0,.int .u32 0,.int .u32 0,.int .u32 0,.int .u32 0,.int .u32 0,.int .u32 0,.int .u32 0,.int .u32 0];refine⟨(hB.cell j).trans ?_,hB.frozen j⟩;have Xa:j=0\/j=1\/j=2\/j=3\/j=4\/j=5\/j=6\/j=7\/j=8\/j=9\/j=10\/j=11\/j=12\/j=13\/j=14\/j=15:=by omega
  rcases Xa with rfl|rfl|rfl|rfl|rfl|rfl|rfl|rfl|rfl|rfl|rfl|rfl|rfl|rfl|rfl|rfl<;>rfl
 case round=>
  obtain⟨k,hk,rfl,N,X,R,s⟩:=hrel.ex;by_cases A:k<64
  ·by_cases G:k<16
   ·skip
    have ah:(k:Int)%16=k:=by omega
    have HW:=za (fun w=>O7 blk k w (by omega) (by omega));gi_wp2_with (refine⟨trivial,(fun h=>by cases h),(Yn.2 (HW.out _)).mono ?_⟩;rintro e w' ⟨rfl,m,rfl⟩)
    have d:=oR.of blk J b W k m wr M.out N X R (by omega) s;rw[Nat.mod_eq_of_lt G,AX blk k G]at d;obtain⟨fn,tmps,assign,body,B,D⟩:=HY.out _ (k,lV blk k) _ d.j (sL blk k A);simp only[Tu,AX blk k G]at B;rw[B];refine⟨(fun h=>by cases h),D.mono ?_⟩;rintro e W' ⟨rfl,y,C⟩;gi_wp2
    go_roundw
    case rel=>exact d.next A y C BV (by omega) (fun i hi=>by have:=hL i hi;omega) aa (by omega)
    case measure=>simp[intOf];omega
   have z:16<=k:=by omega
   obtain⟨c,x⟩:∃c,k%16=c:=⟨_,rfl⟩
   obtain⟨r,F⟩:∃r,(k+1)%16=r:=⟨_,rfl⟩
   obtain⟨o,I⟩:∃o,(k+9)%16=o:=⟨_,rfl⟩
   obtain⟨q,K⟩:∃q,(k+14)%16=q:=⟨_,rfl⟩
   have H:c<16:=by omega
   have b1:r<16:=by omega
   have b2:o<16:=by omega
   have b3:q<16:=by omega
   have e0:(k:Int)%16=c:=by omega
   have e1:((k:Int)+1)%16=r:=by omega
   have e2:((k:Int)+9)%16=o:=by omega
   have e3:((k:Int)+14)%16=q:=by omega
   have r0:eI blk k c=lV blk (k-16):=by rw[<-x];exact jQ blk k 0 z (by omega)
   have r1:eI blk k r=lV blk (k-15):=by rw[<-F,jQ blk k 1 z (by omega)];congr 1;omega
   have r2:eI blk k o=lV blk (k-7):=by rw[<-I,jQ blk k 9 z (by omega)];congr 1;omega
   have U:eI blk k q=lV blk (k-2):=by rw[<-K,jQ blk k 14 z (by omega)];congr 1;omega
   have c0:=(s c H).1;have c1:=(s r b1).1;have c2:=(s o b2).1;have c3:=(s q b3).1;have f0:=(s c H).2;rw[r0]at c0;rw[r1]at c1;rw[r2]at c2;rw[U]at c3;have HM:=za (fun m=>oR.of blk J b W k m wr M.out N X R (by omega) s);rw[x]at HM;have x1:=N6 blk (k-15);have x3:=N6 blk (k-2);have HA:=za (fun w=>abu (lV blk (k-15)) w x1);have HB:=za (fun w=>abv (lV blk (k-2)) w x3);have HE:=za (Sk blk k z A);have E:=tX blk k;rw[x]at E;have Js:=za E;clear E;have HP:=za (sL blk k A);have HN:Hid (∀u w',oR blk J b W k u->J (cN blk k++ [(k,lV blk k)]) w'->ae (l::L) u w'->IP blk J b W (.int .i64 ((k+1:Nat):Int)) w'):=za (fun u w' d y C=>d.next A y C BV (by omega) (fun i hi=>by have:=hL i hi;omega) aa (by omega));generalize lV blk (k-16)=v0 at*;generalize lV blk (k-15)=v1 at*;generalize lV blk (k-7)=v2 at*;generalize lV blk (k-2)=v3 at*;generalize sg0 v1=s1 at*;generalize sg1 v3=s3 at*;generalize lV blk k=O at*;have ag:=za (And.intro x (And.intro F (And.intro I K)));clear x F I K r0 r1 r2 U;have S:(0:Int)<=(c:Int)/\(c:Int)<16:=by omega
   have i1:(0:Int)<=(r:Int)/\(r:Int)<16:=by omega
   have i2:(0:Int)<=(o:Int)/\(o:Int)<16:=by omega
   have i3:(0:Int)<=(q:Int)/\(q:Int)<16:=by omega
   obtain⟨S,ad⟩:=S;obtain⟨i1,ai⟩:=i1;obtain⟨i2,aj⟩:=i2;obtain⟨i3,ab⟩:=i3;have g1:IntKind.i64.wrap ((k:Int)+1)=(k:Int)+1:=yh _ (by omega);have g2:IntKind.i64.wrap ((k:Int)+9)=(k:Int)+9:=yh _ (by omega);have g3:IntKind.i64.wrap ((k:Int)+14)=(k:Int)+14:=yh _ (by omega);have t1:((k:Int)+1).tmod 16=r:=by rw[Z7 (by omega)];exact e1
   have t2:((k:Int)+9).tmod 16=o:=by rw[Z7 (by omega)];exact e2
   have t3:((k:Int)+14).tmod 16=q:=by rw[Z7 (by omega)];exact e3
   have HV:Hid (((v0:Int)+((s1:Int)+v2+s3)%4294967296)%4294967296=(O:Int)):=za (by
    have:=HE.out;omega)
   clear s;gi_upto_region 7 with(fail)
   refine wpIn_wide.2 ?_;refine cy 24 (by kernel_rfl) (by kernel_rfl) ?_;simp only[zR,yB,yf,zQ];repeat(go_big_quiet_step (first|(go_at_call 228;with_reducible exact Calls.quiet_of (HA.out _))|(go_at_call 228;with_reducible exact Calls.quiet_of (HB.out _))))
   refine xS ?_;intro nq;rw[HV.out];go_wp2;have d:=HM.out nq;obtain⟨u,Z⟩:∃u,(wr.drewN nq).setCell ⟨W.heap.size,c,none⟩ (.int .u32 O)=u:=⟨_,rfl⟩
   rw[Z]at d⊢;clear Z;have cU:=(d.ring c H).1;rw[Js.out]at cU;gi_wp2
   obtain⟨fn,tmps,assign,body,B,D⟩:=HY.out _ (k,O) _ d.j HP.out;simp only[Tu]at B;rw[B];refine⟨(fun h=>by cases h),D.mono ?_⟩;rintro e W' ⟨rfl,y,C⟩;gi_wp2
   go_roundw
   case rel=>exact HN.out _ _ d y C
   case measure=>simp[intOf];omega
  obtain rfl:k=64:=by omega
  gi_wp2
  go_end0
  exact⟨⟨_,rfl⟩,N⟩
