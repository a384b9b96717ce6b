/- rlp.Put: its closure head. -/
import Derived.Test.YtdbmifjankgfpaaGreatDoorKA30
import Derived.Test.YtdbmifjankgfpaaGreatDoorKA19
set_option linter.all false
set_option maxRecDepth 100000
set_option maxHeartbeats 1000000
open Go.Proofs.Tryz
namespace Go.Proofs.YtdbmifjankgfpaaGreatDoor
open Go.RowKit
theorem wz :(prog.info? 5).map (fun i=>(i.zero,i.size,i.bytes))=some (some (.int .u8 0),1,1):=by kernel_rfl
theorem Gc :(prog.info? 226).map (fun i=>(i.zero,i.size,i.bytes))=some (some (.agg #[.slice none 0 0,.slice none 0 0]),2,48):=by kernel_rfl
theorem QX (b n base:Nat)(v:Value)(l:List UInt8)(w:World)(p:bP w base 5 v l)(pT:base<=w.heap.size)(hb:b<=192)(N:n<=1099511627776)(O:l.length<=2199023255552):
 Calls prog 173 #[v,.int .i64 b,.int .i64 n] w fun e w'=>∃i,e= .returned i/\bP w' base 5 i (l++cJ b n)/\mH w w' v i:=by
 obtain⟨i0,hi,u,q,s⟩:=yG wz;have z:=za p;obtain⟨A,k,cap,rfl,Y,ab,W⟩:=p.cH;clear p;by_cases h:n<=55
 ·have r:Hid (cJ b n= [ub ((b+n:Nat):Int)]):=za (by unfold cJ;rw[zi h]);go_enter func173,ntmps173
  go_wp2_with
   (at_builtin;refine cz (by rfl) (.tmp 10) (.tmp 15) 31 31 (by rfl) base 5 i0 zr hi u q s (by rfl) (z.out.alloc _) _ [ub ((b+n:Nat):Int)] (by rfl) (ue zr _ 5 _ _ 1 _ (by simp only[zp]) (o6 (by omega) (by omega))) (by simp only[zp];omega) (by simp only[zy,zL];omega) ?_)
  intro A1 n1 R E c C;have m:=za c;have G:=za C;clear c C;go_wp2;go_ret;exact⟨_,rfl,by rw[r.out];exact m.out,G.out.ahead bD⟩
 obtain⟨T,d⟩:∃T:ByteArray,(⟨(cN n).toArray⟩:ByteArray)=T:=⟨_,rfl⟩
 have o:T.data.toList=cN n:=by rw[<-d]
 have ad:T.size<=8:=by rw[<-d,bI];exact gw 8 n (by omega)
 have r:Hid (cJ b n=ub ((b+55+T.size:Nat):Int)::T.data.toList):=za (by unfold cJ;rw[zh h,o,<-aa,o]);have B:=za (fun w=>Li n w (by omega));rw[d]at B;clear d o;go_enter func173,ntmps173
 go_wp2_with fail
 refine(B.out _).mono ?_;rintro e E ⟨rfl,c⟩;have F:=c.size;have m:=za (z.out.below c);have L:=za c;clear c;go_wp2_with
  (at_builtin;refine cz (by rfl) (.tmp 20) (.tmp 27) 31 31 (by rfl) base 5 i0 zr hi u q s (by rfl) (m.out.alloc _) _ [ub ((b+55+T.size:Nat):Int)] (by rfl) (ue zr _ 5 _ _ 1 _ (by simp only[zp]) (o6 (by omega) (by omega))) (by simp only[zp];omega) (by simp only[zy,zL];omega) ?_)
 intro S n2 U Z x j;have I:=j.size;simp only[zp]at I;have K:=za x;have J:=za j;clear x j;go_wp2_with
  (at_builtin;refine cz (by rfl) (.tmp 28) (.tmp 29) 31 9 (by rfl) base 5 i0 zr hi u q s (by rfl) K.out _ T.data.toList (by rfl) (ji zM _ T) (by omega) (by rw[aa];simp only[zj,zy,zL];omega) ?_)
 intro X n3 nN w3 y D;have M:=za y;have H:=za D;clear y D;go_wp2;go_ret;refine⟨_,rfl, ?_, ?_⟩
 ·have:=M.out;rw[r.out];simpa using this
 exact(J.out.ahead (L.out.trans (((zl _ E).alloc (zg _) _).mono F))).trans H.out
theorem qR {w:World}{ops:Array Oper}{rest:List Oper}{o:Oper}{a:Act}{Q:Exit->Act->World->Prop}(z:o.guard=none)(s x:Operand)
 (D:o.op= .call {callee:= .builtin .append,args:= #[s,x],argTypes:= #[227,227]}) {S g cap n:Nat} {b:List (List It×List UInt8)} {h:List (Value×Value)} (i:Lay w S g cap b h) (hS:S<=w.heap.size) (m:n=b.length) (L:a.eval s= .slice (some ⟨g,0,none⟩) n cap)
 {sub:List It} {A:Option Addr} {c:Nat} (H:sub.length<=c) (q:c<=9223372036854775807) (F:ch w S sub A 0) (B:Nat) (hx:a.eval x= .slice (some ⟨B,0,none⟩) 1 1) (C:w.cell? ⟨B,0,none⟩=some (.slice A sub.length c)) (E:w.cell? ⟨B,1,none⟩=some (.slice none 0 0)) (M:b.length<=1099511627777)
 (J:∀d k e w',Hid (k=b.length+1)->Hid (Lay w' S d e ((sub,[])::b) ((.slice A sub.length c,.slice none 0 0)::h))->Hid (w.grownBy w' (some g))->wpList prog ops Q rest (a.put o.dst (.slice (some ⟨d,0,none⟩) k e)) w'):wpList prog ops Q (o::rest) a w:=by
 subst m;obtain⟨i1,G,p,K,I⟩:=yG Gc;refine yW w z s x 227 D S 226 i1 _ 2 48 underlying227 G p K I rfl (by decide) _ b.length (ea h) L i.row ⟨B,0,none⟩ 1 1 [.slice A sub.length c,.slice none 0 0] hx rfl ?_ ?_ (by decide) (by simp only[maxLen];omega) (by omega) hS w.heap.size rfl ?_
 ·intro j u hu;have r:∀j,(⟨B,0,none⟩:Addr).add j=⟨B,j,none⟩:=by intro j;unfold Addr.add;split<;>simp_all
  rw[r];match j,hu with
  |0,hu=>simp at hu;subst hu;exact C
  |1,hu=>simp at hu;subst hu;exact E
 ·intro u hu;simp at hu;rcases hu with rfl|rfl<;>rfl
 intro d e w' y l _ _;exact J d _ e w' (za rfl) (za (i.push hS H q F y l)) (za l)
