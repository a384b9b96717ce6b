/- rlp.Put: its closure head. -/
import Derived.Test.YtimoclkoflamkaaGreatDoorKA23
import Derived.Test.YtimoclkoflamkaaGreatDoorKA15
set_option linter.all false
set_option maxRecDepth 100000
set_option maxHeartbeats 1000000
open Go.Proofs.Tryz
namespace Go.Proofs.YtimoclkoflamkaaGreatDoor
open Go.RowKit
theorem wD :(prog.info? 5).map (fun i=>(i.zero,i.size,i.bytes))=some (some (.int .u8 0),1,1):=by kernel_rfl
theorem F9 :(prog.info? 208).map (fun i=>(i.zero,i.size,i.bytes))=some (some (.agg #[nS,nS]),2,48):=by kernel_rfl
theorem Qz (b n base:Nat)(v:Value)(l:List UInt8)(w:World)(r:bP w base 5 v l)(Cu:base<=w.heap.size)(hb:b<=192)(W:n<=1099511627776)(X:l.length<=2199023255552):
 Calls prog 152 #[v,b,n] w fun e w'=>∃p,e= .returned p/\bP w' base 5 p (l++cA b n)/\lE w w' v p:=by
 obtain⟨i0,hi,s,m,o⟩:=yz wD;have B:=za r;obtain⟨A,k,cap,rfl,Z,ab,kr⟩:=r.cy;clear r;by_cases h:n<=55
 ·have j:Hid (cA b n= [ub ((b+n:Nat):Int)]):=za (by unfold cA;rw[zj h]);go_enter func152,ntmps152
  go_wp2_with
   (at_builtin;refine ch (by rfl) (.tmp 10) (.tmp 15) 75 75 (by rfl) base 5 i0 zq hi s m o (by rfl) (B.out.alloc _) _ [ub ((b+n:Nat):Int)] (by rfl) (uj zq _ 5 _ _ 1 _ (by simp only[zt]) (oZ (by omega) (by omega))) (by simp only[zt];omega) (by simp only[zz,zO];omega) ?_)
  intro U n1 S E c z;have i:=za c;have K:=za z;clear c z;go_wp2;go_ret;exact⟨_,rfl,by rw[j.out];exact i.out,K.out.ahead bO⟩
 obtain⟨T,d⟩:∃T:ByteArray,(⟨(cE n).toArray⟩:ByteArray)=T:=⟨_,rfl⟩
 have u:T.data.toList=cE n:=by rw[<-d]
 have O:T.size<=8:=by rw[<-d,bG];exact gp 8 n (by omega)
 have j:Hid (cA b n=ub ((b+55+T.size:Nat):Int)::T.data.toList):=za (by unfold cA;rw[zi h,u,<-aa,u]);have x:=za (fun w=>KP n w (by omega));rw[d]at x;clear d u;go_enter func152,ntmps152
 go_wp2_with fail
 refine(x.out _).mono ?_;rintro e E ⟨rfl,c⟩;have G:=c.size;have i:=za (B.out.below c);have M:=za c;clear c;go_wp2_with
  (at_builtin;refine ch (by rfl) (.tmp 20) (.tmp 27) 75 75 (by rfl) base 5 i0 zq hi s m o (by rfl) (i.out.alloc _) _ [ub ((b+55+T.size:Nat):Int)] (by rfl) (uj zq _ 5 _ _ 1 _ (by simp only[zt]) (oZ (by omega) (by omega))) (by simp only[zt];omega) (by simp only[zz,zO];omega) ?_)
 intro Y n2 cap2 R C q;have J:=q.size;simp only[zt]at J;have L:=za C;have H:=za q;clear C q;go_wp2_with
  (at_builtin;refine ch (by rfl) (.tmp 28) (.tmp 29) 75 9 (by rfl) base 5 i0 zq hi s m o (by rfl) L.out _ T.data.toList (by rfl) (iz zM _ T) (by omega) (by rw[aa];simp only[zk,zz,zO];omega) ?_)
 intro N n3 DD w3 y D;have I:=za y;have F:=za D;clear y D;go_wp2;go_ret;refine⟨_,rfl, ?_, ?_⟩
 ·have:=I.out;rw[j.out];simpa using this
 exact(H.out.ahead (M.out.trans (((zm _ E).alloc (zd _) _).mono G))).trans F.out
theorem qJ {w:World}{ops:Array Oper}{rest:List Oper}{o:Oper}{a:Act}{Q:Exit->Act->World->Prop}(y:o.guard=none)(s x:Operand)
 (q:o.op= .call {callee:= .builtin .append,args:= #[s,x],argTypes:= #[209,209]}) {S g cap n:Nat} {b:List (List It×List UInt8)} {h:List (Value×Value)} (i:Lay w S g cap b h) (hS:S<=w.heap.size) (D:n=b.length) (E:a.eval s= .slice (some (g,0)) n cap)
 {sub:List It} {A:Option Addr} {c:Nat} (K:sub.length<=c) (m:c<=9223372036854775807) (r:bK w S sub A 0) (B:Nat) (hx:a.eval x= .slice (some (B,0)) 1 1) (H:w.cell? (B,0)=some (.slice A sub.length c)) (I:w.cell? (B,1)=some (.slice none 0 0)) (M:b.length<=1099511627777)
 (z:∀e l d w',Hid (l=b.length+1)->Hid (Lay w' S e d ((sub,[])::b) ((.slice A sub.length c,nS)::h))->Hid (w.grownBy w' (some g))->wpList prog ops Q rest (a.put o.dst (.slice (some (e,0)) l d)) w'):wpList prog ops Q (o::rest) a w:=by
 subst D;obtain⟨i1,C,G,J,L⟩:=yz F9;refine y9 w y s x 209 q S 208 i1 _ 2 48 underlying209 C G J L rfl (by decide) _ b.length (dP h) E i.row (B,0) 1 1 [.slice A sub.length c,nS] hx rfl ?_ ?_ (by decide) (by simp only[maxLen];omega) (by omega) hS w.heap.size rfl ?_
 ·intro j u hu;have F:∀j,((B,0):Addr).add j=⟨B,j,none⟩:=by intro j;unfold Addr.add;split<;>simp_all
  rw[F];match j,hu with
  |0,hu=>simp at hu;subst hu;exact H
  |1,hu=>simp at hu;subst hu;exact I
 ·intro u hu;simp at hu;rcases hu with rfl|rfl<;>rfl
 intro e d w' p k _ _;exact z e _ d w' (za rfl) (za (i.push hS K m r p k)) (za k)
