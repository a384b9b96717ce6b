/- rlp.Put: its closure head. -/
import Derived.Test.YtdbmifjankgfpaaGreatDoorKA32
import Derived.Test.YtdbmifjankgfpaaGreatDoorKA21
set_option linter.all false
set_option maxRecDepth 100000
set_option maxHeartbeats 1000000
open Go.Proofs.Tryz
namespace Go.Proofs.YtdbmifjankgfpaaGreatDoor
open Go.RowKit
theorem wy :(prog.info? 5).map (fun i=>(i.zero,i.size,i.bytes))=some (some (.int .u8 0),1,1):=by kernel_rfl
theorem FT :(prog.info? 226).map (fun i=>(i.zero,i.size,i.bytes))=some (some (.agg #[.slice none 0 0,.slice none 0 0]),2,48):=by kernel_rfl
theorem QJ (b n base:Nat)(v:Value)(l:List UInt8)(w:World)(u:bF w base 5 v l)(S:base<=w.heap.size)(O:b<=192)(hn:n<=1099511627776)(U:l.length<=2199023255552):
 Calls prog 173 #[v,.int .i64 b,.int .i64 n] w fun e w'=>∃r,e= .returned r/\bF w' base 5 r (l++cM b n)/\lF w w' v r:=by
 obtain⟨i0,hi,i,q,o⟩:=yH wy;have z:=za u;obtain⟨A,k,cap,rfl,hk,ab,Z⟩:=u.cF;clear u;by_cases h:n<=55
 ·have s:Hid (cM b n= [ub ((b+n:Nat):Int)]):=za (by unfold cM;rw[zi h]);go_enter func173,ntmps173
  go_wp2_with
   (at_builtin;refine bW (by rfl) (.tmp 10) (.tmp 15) 31 31 (by rfl) base 5 i0 zt hi i q o (by rfl) (z.out.alloc _) _ [ub ((b+n:Nat):Int)] (by rfl) (ud zt _ 5 _ _ 1 _ (by simp only[zq]) (o5 (by omega) (by omega))) (by simp only[zq];omega) (by simp only[zx,zJ];omega) ?_)
  intro Y n1 Bh x c E;have m:=za c;have M:=za E;clear c E;go_wp2;go_ret;exact⟨_,rfl,by rw[s.out];exact m.out,M.out.ahead bT⟩
 obtain⟨T,d⟩:∃T:ByteArray,(⟨(cJ n).toArray⟩:ByteArray)=T:=⟨_,rfl⟩
 have p:T.data.toList=cJ n:=by rw[<-d]
 have W:T.size<=8:=by rw[<-d,bP];exact iU 8 n (by omega)
 have s:Hid (cM b n=ub ((b+55+T.size:Nat):Int)::T.data.toList):=za (by unfold cM;rw[zh h,p,<-aa,p]);have y:=za (fun w=>KU n w (by omega));rw[d]at y;clear d p;go_enter func173,ntmps173
 go_wp2_with fail
 refine(y.out _).mono ?_;rintro e x ⟨rfl,c⟩;have G:=c.size;have m:=za (z.out.below c);have J:=za c;clear c;go_wp2_with
  (at_builtin;refine bW (by rfl) (.tmp 20) (.tmp 27) 31 31 (by rfl) base 5 i0 zt hi i q o (by rfl) (m.out.alloc _) _ [ub ((b+55+T.size:Nat):Int)] (by rfl) (ud zt _ 5 _ _ 1 _ (by simp only[zq]) (o5 (by omega) (by omega))) (by simp only[zq];omega) (by simp only[zx,zJ];omega) ?_)
 intro N n2 X w2 B j;have I:=j.size;simp only[zq]at I;have K:=za B;have F:=za j;clear B j;go_wp2_with
  (at_builtin;refine bW (by rfl) (.tmp 28) (.tmp 29) 31 9 (by rfl) base 5 i0 zt hi i q o (by rfl) K.out _ T.data.toList (by rfl) (iN zN _ T) (by omega) (by rw[aa];simp only[zl,zx,zJ];omega) ?_)
 intro A3 n3 R w3 D C;have L:=za D;have H:=za C;clear D C;go_wp2;go_ret;refine⟨_,rfl, ?_, ?_⟩
 ·have:=L.out;rw[s.out];simpa using this
 exact(F.out.ahead (J.out.trans (((zm _ x).alloc (zg _) _).mono G))).trans H.out
theorem qG {w:World}{ops:Array Oper}{rest:List Oper}{o:Oper}{a:Act}{Q:Exit->Act->World->Prop}(z:o.guard=none)(s x:Operand)
 (H:o.op= .call {callee:= .builtin .append,args:= #[s,x],argTypes:= #[227,227]}) {S g cap n:Nat} {b:List (List It×List UInt8)} {h:List (Value×Value)} (k:Lay w S g cap b h) (hS:S<=w.heap.size) (I:n=b.length) (D:a.eval s= .slice (some ⟨g,0,none⟩) n cap)
 {sub:List It} {A:Option Addr} {c:Nat} (L:sub.length<=c) (F:c<=9223372036854775807) (y:cl w S sub A 0) (B:Nat) (hx:a.eval x= .slice (some ⟨B,0,none⟩) 1 1) (E:w.cell? ⟨B,0,none⟩=some (.slice A sub.length c)) (J:w.cell? ⟨B,1,none⟩=some (.slice none 0 0)) (M:b.length<=1099511627777)
 (p:∀d l e w',Hid (l=b.length+1)->Hid (Lay w' S d e ((sub,[])::b) ((.slice A sub.length c,.slice none 0 0)::h))->Hid (w.grownBy w' (some g))->wpList prog ops Q rest (a.put o.dst (.slice (some ⟨d,0,none⟩) l e)) w'):wpList prog ops Q (o::rest) a w:=by
 subst I;obtain⟨i1,q,K,r,C⟩:=yH FT;refine y9 w z s x 227 H S 226 i1 _ 2 48 underlying227 q K r C rfl (by decide) _ b.length (dY h) D k.row ⟨B,0,none⟩ 1 1 [.slice A sub.length c,.slice none 0 0] hx rfl ?_ ?_ (by decide) (by simp only[maxLen];omega) (by omega) hS w.heap.size rfl ?_
 ·intro j u hu;have G:∀j,(⟨B,0,none⟩:Addr).add j=⟨B,j,none⟩:=by intro j;unfold Addr.add;split<;>simp_all
  rw[G];match j,hu with
  |0,hu=>simp at hu;subst hu;exact E
  |1,hu=>simp at hu;subst hu;exact J
 ·intro u hu;simp at hu;rcases hu with rfl|rfl<;>rfl
 intro d e w' m i _ _;exact p d _ e w' (za rfl) (za (k.push hS L F y m i)) (za i)
