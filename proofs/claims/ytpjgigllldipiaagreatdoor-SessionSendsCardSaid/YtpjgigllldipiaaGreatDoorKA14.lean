/- sha.spread: the iterator over a block's words. -/
import Derived.Test.YtpjgigllldipiaaGreatDoorKA11
import Derived.Test.YtpjgigllldipiaaGreatDoorKA12
import Derived.StillTailTactics
import Derived.Sort.CutIn
import Derived.Deep.RegionHeld3
set_option linter.all false
set_option maxRecDepth 100000
set_option maxHeartbeats 4000000
namespace Go.Proofs.YtpjgigllldipiaaGreatDoor
open Go.RowKit Go.Shelf
def Z8:=@Int.tmod_eq_emod_of_nonneg
def Yo:=@callsIn_wide
theorem Qg (blk:ByteArray)(w:World):
 Calls Tryz.prog 221 #[.string blk] w fun e w'=>e= .returned (.func (.func 227) #[] #[.pointer (some ⟨w.heap.size,0,none⟩)])/\w'=w.alloc (.cells #[.string blk] 9):=by
 go_enter Tryz.func221,Tryz.ntmps221
 go_wp2;go_ret;exact⟨rfl,rfl⟩
theorem abW (x:Nat)(w:World)(hx:x<4294967296):Calls Tryz.prog 228 #[.int .u32 x,.int .i64 7,.int .i64 18,.int .i64 3] w fun e w'=>e= .returned (.int .u32 (sg0 x))/\∃n,w'=w.drewN n:=vh x 7 18 3 w hx (by omega) (by omega) (by omega)
theorem abX (x:Nat)(w:World)(hx:x<4294967296):Calls Tryz.prog 228 #[.int .u32 x,.int .i64 17,.int .i64 19,.int .i64 10] w fun e w'=>e= .returned (.int .u32 (sg1 x))/\∃n,w'=w.drewN n:=vh x 17 19 10 w hx (by omega) (by omega) (by omega)
theorem aeB (g:Nat){i j:Nat}(h:i≠j):(⟨g,i,none⟩:Addr)≠⟨g,j,none⟩:=fun e=>h (xj Addr.off e)
def cQ (blk:ByteArray)(k:Nat):List (Nat×Nat):=(List.range k).map fun i=>(i,lY blk i)
theorem qp (blk:ByteArray)(k:Nat):cQ blk (k+1)=cQ blk k++ [(k,lY blk k)]:=by simp[cQ,List.range_succ]
theorem sO (blk:ByteArray)(k:Nat)(h:k<64):cQ blk k++ [(k,lY blk k)]<+:cQ blk 64:=by
 rw[<-qp];refine⟨((List.range 64).drop (k+1)).map fun i=>(i,lY blk i), ?_⟩;unfold cQ;rw[<-List.map_append];congr 1
 have e:List.range (k+1)=(List.range 64).take (k+1):=by rw[List.take_range];congr 1;omega
 rw[e,zL]
def TK (x:Nat×Nat):Array Value:= #[.int .i64 x.1,.int .u32 x.2]
structure I7 (blk:ByteArray)(J:List (Nat×Nat)->World->Prop)(bb:Nat)(W:World)(i:Value)(wr:World):Prop where
 ex:∃k:Nat,k<=64/\i= .int .i64 k/\J (cQ blk k) wr/\W.heap.size<wr.heap.size/\wr.cell? ⟨bb,0,none⟩=some (.string blk)/\
  (∀j,j<16->wr.cell? ⟨W.heap.size,j,none⟩=some (.int .u32 (eQ blk k j))/\wr.frozen? ⟨W.heap.size,j,none⟩=false)
theorem FT (blk:ByteArray)(k m g:Nat)(wr:World)(c:∀j,j<16->wr.cell? ⟨g,j,none⟩=some (.int .u32 (eQ blk k j))/\wr.frozen? ⟨g,j,none⟩=false):
 ∀j,j<16->((wr.drewN m).setCell ⟨g,k%16,none⟩ (.int .u32 (lY blk k))).cell? ⟨g,j,none⟩=some (.int .u32 (eQ blk (k+1) j))/\((wr.drewN m).setCell ⟨g,k%16,none⟩ (.int .u32 (lY blk k))).frozen? ⟨g,j,none⟩=false:=by
 intro j b;have hd:(wr.drewN m).cell? ⟨g,j,none⟩=some (.int .u32 (eQ blk k j)):=(c j b).1;refine⟨?_,by rw[World.frozen?_setCell];exact(c j b).2⟩;by_cases e:j=k%16
 ·subst e;rw[ui];exact World.cell?_setCell_same' _ _ _ (by rw[hd];rfl)
 rw[Cn blk k j b e];exact(World.cell?_setCell_other _ _ _ _ (by intro h;cases h;exact e rfl)).trans hd
structure oV (blk:ByteArray)(J:List (Nat×Nat)->World->Prop)(bb:Nat)(W:World)(k:Nat)(wr:World):Prop where
 j:J (cQ blk k) wr
 lt:W.heap.size<wr.heap.size
 box:wr.cell? ⟨bb,0,none⟩=some (.string blk)
 ring:∀j,j<16->wr.cell? ⟨W.heap.size,j,none⟩=some (.int .u32 (eQ blk (k+1) j))/\wr.frozen? ⟨W.heap.size,j,none⟩=false
theorem oV.of (blk:ByteArray)(J:List (Nat×Nat)->World->Prop)(b:Nat)(W:World)(k m:Nat)(wr:World)(e:∀s A B,J s A->Below W.heap.size A B->J s B)
 (i:J (cQ blk k) wr) (c:W.heap.size<wr.heap.size) (l:wr.cell? ⟨b,0,none⟩=some (.string blk)) (n:b<W.heap.size)
 (d:∀j,j<16->wr.cell? ⟨W.heap.size,j,none⟩=some (.int .u32 (eQ blk k j))/\wr.frozen? ⟨W.heap.size,j,none⟩=false):
 oV blk J b W k ((wr.drewN m).setCell ⟨W.heap.size,k%16,none⟩ (.int .u32 (lY blk k))) where
 j:=e _ _ _ i (((zq _ wr).bE m).setCell (p:=⟨W.heap.size,k%16,none⟩) (zi _) _)
 lt:=by simpa[World.setCell]using c
 box:=(World.cell?_setCell_other _ _ _ _ (by intro h;have:=xj Addr.block h;simp at this;omega)).trans l
 ring:=FT blk k m _ wr d
theorem oV.next {blk:ByteArray}{J:List (Nat×Nat)->World->Prop}{b:Nat}{W:World}{k:Nat}{wr w':World}{l:Nat}{L:List Nat}(h:oV blk J b W k wr)(x:k<64)(o:J (cQ blk k++ [(k,lY blk k)]) w')(c:ae (l::L) wr w')
 (w:l<W.heap.size) (r:l≠b) (q:∀i,i∈L->i<W.heap.size) (s:b∉L) (u:b<W.heap.size):I7 blk J b W (.int .i64 ((k+1:Nat):Int)) w':=by
 have hz:=c.size;have d:=h.lt;have m:W.heap.size∉l::L:=by
  intro h;rcases xq.1 h with h|h
  ·omega
  have:=q _ h;omega
 refine⟨k+1,by omega,rfl,by rw[qp];exact o,by omega, ?_,fun j n=>⟨?_, ?_⟩⟩
 ·exact(c.cell (p:=⟨b,0,none⟩) (by simp;omega) (by simp;exact⟨fun e=>r e.symm,s⟩)).trans h.box
 ·exact(c.cell (p:=⟨W.heap.size,j,none⟩) d m).trans (h.ring j n).1
 exact(c.frozen (p:=⟨W.heap.size,j,none⟩) d m).trans (h.ring j n).2
theorem I8 (n:Nat)(blk:ByteArray)(hb:blk.size=64)(w:World)(b:Nat)(L:List Nat)(fg:w.cell? ⟨b,0,none⟩=some (.string blk))(aD:b<w.heap.size)(aa:b∉L)(hL:∀i,i∈L->i<w.heap.size):
 KN Fence.wide n Tryz.prog 227 #[.pointer (some ⟨b,0,none⟩)] TK (cQ blk 64) L w:=by
 intro l J W S Cg B7 hJ Y h0;have G:=za hJ;have R:=za Y;clear hJ Y;have Lp:=S.size;have lN:W.cell? ⟨b,0,none⟩=some (.string blk):=(S.cell (p:=⟨b,0,none⟩) aD (by simp)).trans fg;refine callsIn_of_wp Tryz.func227 rfl trivial ?_ rfl;simp only[Tryz.ntmps227,Yf,zB,zO,Nat.reduceAdd,Nat.reduceSub,Array.replicate_succ,Array.replicate_zero,List.push_toArray,List.append_toArray,yD,ya];gi_wp2
 gi_loopw [6] (fun i wr=>I7 blk J b W i wr) (fun i _=>64-(intOf i).toNat)
 case atStart=>
  refine⟨0,by omega,rfl,G.out _ _ _ h0 ((zq _ W).alloc (zi _) _),by simp,((((zq _ W).alloc (zi _) _).cell (p:=⟨b,0,none⟩) (by simp;omega)).trans lN), ?_⟩;intro j hj;have hB:=af.new W 271 #[.int .u32 0,.int .u32 0,.int .u32 0,.int .u32 0,.int .u32 0,.int .u32 0,.int .u32 0,.int .u32 0,.int .u32 0,.int .u32 0,.int .u32 0,.int .u32 0,.int .u32 0,.int .u32 0,.int .u32 0,.int .u32 0];refine⟨(hB.cell j).trans ?_,hB.frozen j⟩;have XA:j=0\/j=1\/j=2\/j=3\/j=4\/j=5\/j=6\/j=7\/j=8\/j=9\/j=10\/j=11\/j=12\/j=13\/j=14\/j=15:=by omega
  rcases XA with rfl|rfl|rfl|rfl|rfl|rfl|rfl|rfl|rfl|rfl|rfl|rfl|rfl|rfl|rfl|rfl<;>rfl
 case round=>
  obtain⟨k,hk,rfl,E,ab,gS,s⟩:=hrel.ex;by_cases A:k<64
  ·by_cases M:k<16
   ·skip
    have ak:(k:Int)%16=k:=by omega
    have HW:=za (fun w=>Pn blk k w (by omega) (by omega));gi_wp2_with (refine⟨trivial,(fun h=>by cases h),(Yo.2 (HW.out _)).mono ?_⟩;rintro e w' ⟨rfl,m,rfl⟩)
    have d:=oV.of blk J b W k m wr G.out E ab gS (by omega) s;rw[Nat.mod_eq_of_lt M,Bb blk k M]at d;obtain⟨fn,tmps,assign,body,y,N⟩:=R.out _ (k,lY blk k) _ d.j (sO blk k A);simp only[TK,Bb blk k M]at y;rw[y];refine⟨(fun h=>by cases h),N.mono ?_⟩;rintro e W' ⟨rfl,C,z⟩;gi_wp2
    go_roundw
    case rel=>exact d.next A C z B7 (by omega) (fun i hi=>by have:=hL i hi;omega) aa (by omega)
    case measure=>simp[intOf];omega
   have B:16<=k:=by omega
   obtain⟨c,x⟩:∃c,k%16=c:=⟨_,rfl⟩
   obtain⟨q,D⟩:∃q,(k+1)%16=q:=⟨_,rfl⟩
   obtain⟨r,H⟩:∃r,(k+9)%16=r:=⟨_,rfl⟩
   obtain⟨o,O⟩:∃o,(k+14)%16=o:=⟨_,rfl⟩
   have F:c<16:=by omega
   have b1:q<16:=by omega
   have b2:r<16:=by omega
   have b3:o<16:=by omega
   have e0:(k:Int)%16=c:=by omega
   have e1:((k:Int)+1)%16=q:=by omega
   have e2:((k:Int)+9)%16=r:=by omega
   have e3:((k:Int)+14)%16=o:=by omega
   have r0:eQ blk k c=lY blk (k-16):=by rw[<-x];exact jV blk k 0 B (by omega)
   have Z:eQ blk k q=lY blk (k-15):=by rw[<-D,jV blk k 1 B (by omega)];congr 1;omega
   have r2:eQ blk k r=lY blk (k-7):=by rw[<-H,jV blk k 9 B (by omega)];congr 1;omega
   have U:eQ blk k o=lY blk (k-2):=by rw[<-O,jV blk k 14 B (by omega)];congr 1;omega
   have c0:=(s c F).1;have c1:=(s q b1).1;have c2:=(s r b2).1;have c3:=(s o b3).1;have f0:=(s c F).2;rw[r0]at c0;rw[Z]at c1;rw[r2]at c2;rw[U]at c3;have X:=za (fun m=>oV.of blk J b W k m wr G.out E ab gS (by omega) s);rw[x]at X;have x1:=Ou blk (k-15);have x3:=Ou blk (k-2);have HA:=za (fun w=>abW (lY blk (k-15)) w x1);have HB:=za (fun w=>abX (lY blk (k-2)) w x3);have HE:=za (SA blk k B A);have I:=ui blk k;rw[x]at I;have JM:=za I;clear I;have HP:=za (sO blk k A);have HN:Hid (∀u w',oV blk J b W k u->J (cQ blk k++ [(k,lY blk k)]) w'->ae (l::L) u w'->I7 blk J b W (.int .i64 ((k+1:Nat):Int)) w'):=za (fun u w' d C z=>d.next A C z B7 (by omega) (fun i hi=>by have:=hL i hi;omega) aa (by omega));generalize lY blk (k-16)=v0 at*;generalize lY blk (k-15)=v1 at*;generalize lY blk (k-7)=v2 at*;generalize lY blk (k-2)=v3 at*;generalize sg0 v1=s1 at*;generalize sg1 v3=s3 at*;generalize lY blk k=K at*;have ag:=za (And.intro x (And.intro D (And.intro H O)));clear x D H O r0 Z r2 U;have i0:(0:Int)<=(c:Int)/\(c:Int)<16:=by omega
   have i1:(0:Int)<=(q:Int)/\(q:Int)<16:=by omega
   have i2:(0:Int)<=(r:Int)/\(r:Int)<16:=by omega
   have i3:(0:Int)<=(o:Int)/\(o:Int)<16:=by omega
   obtain⟨i0,aj⟩:=i0;obtain⟨i1,ai⟩:=i1;obtain⟨i2,ad⟩:=i2;obtain⟨i3,ah⟩:=i3;have g1:IntKind.i64.wrap ((k:Int)+1)=(k:Int)+1:=yg _ (by omega);have g2:IntKind.i64.wrap ((k:Int)+9)=(k:Int)+9:=yg _ (by omega);have g3:IntKind.i64.wrap ((k:Int)+14)=(k:Int)+14:=yg _ (by omega);have t1:((k:Int)+1).tmod 16=q:=by rw[Z8 (by omega)];exact e1
   have t2:((k:Int)+9).tmod 16=r:=by rw[Z8 (by omega)];exact e2
   have t3:((k:Int)+14).tmod 16=o:=by rw[Z8 (by omega)];exact e3
   have HV:Hid (((v0:Int)+((s1:Int)+v2+s3)%4294967296)%4294967296=(K:Int)):=za (by
    have:=HE.out;omega)
   clear s;gi_upto_region 7 with(fail)
   refine wpIn_wide.2 ?_;refine cy 24 (by kernel_rfl) (by kernel_rfl) ?_;simp only[zV,yE,yh,zN];repeat(go_big_quiet_step (first|(go_at_call 228;with_reducible exact Calls.quiet_of (HA.out _))|(go_at_call 228;with_reducible exact Calls.quiet_of (HB.out _))))
   refine xN ?_;intro nq;rw[HV.out];go_wp2;have d:=X.out nq;obtain⟨u,Y5⟩:∃u,(wr.drewN nq).setCell ⟨W.heap.size,c,none⟩ (.int .u32 K)=u:=⟨_,rfl⟩
   rw[Y5]at d⊢;clear Y5;have cY:=(d.ring c F).1;rw[JM.out]at cY;gi_wp2
   obtain⟨fn,tmps,assign,body,y,N⟩:=R.out _ (k,K) _ d.j HP.out;simp only[TK]at y;rw[y];refine⟨(fun h=>by cases h),N.mono ?_⟩;rintro e W' ⟨rfl,C,z⟩;gi_wp2
   go_roundw
   case rel=>exact HN.out _ _ d C z
   case measure=>simp[intOf];omega
  obtain rfl:k=64:=by omega
  gi_wp2
  go_end0
  exact⟨⟨_,rfl⟩,E⟩
