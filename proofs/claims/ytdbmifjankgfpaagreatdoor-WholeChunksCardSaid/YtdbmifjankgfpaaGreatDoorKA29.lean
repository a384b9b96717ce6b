/- rlp.Put: its closure head. -/
import Derived.Test.YtdbmifjankgfpaaGreatDoorKA28
import Derived.Test.YtdbmifjankgfpaaGreatDoorKA17
set_option linter.all false
set_option maxRecDepth 100000
set_option maxHeartbeats 1000000
namespace Go.Proofs.YtdbmifjankgfpaaGreatDoor
open Tryz
open Go.RowKit
theorem wG :(prog.info? 5).map (fun i=>(i.zero,i.size,i.bytes))=some (some (.int .u8 0),1,1):=by kernel_rfl
theorem Gf :(prog.info? 226).map (fun i=>(i.zero,i.size,i.bytes))=some (some (.agg #[.slice none 0 0,.slice none 0 0]),2,48):=by kernel_rfl
theorem QH (b n base:Nat)(v:Value)(l:List UInt8)(w:World)(j:bL w base 5 v l)(W:base<=w.heap.size)(U:b<=192)(hn:n<=1099511627776)(N:l.length<=2199023255552):
 Calls prog 173 #[v,.int .i64 b,.int .i64 n] w fun e w'=>∃p,e= .returned p/\bL w' base 5 p (l++cK b n)/\mP w w' v p:=by
 obtain⟨i0,hi,o,u,q⟩:=yE wG;have D:=za j;obtain⟨A,k,cap,rfl,hk,Z,mR⟩:=j.bT;clear j;by_cases h:n<=55
 ·have i:Hid (cK b n= [ub ((b+n:Nat):Int)]):=za (by unfold cK;rw[zi h]);go_enter func173,ntmps173
  go_wp2_with
   (at_builtin;refine cx (by rfl) (.tmp 10) (.tmp 15) 31 31 (by rfl) base 5 i0 zr hi o u q (by rfl) (D.out.alloc _) _ [ub ((b+n:Nat):Int)] (by rfl) (ug zr _ 5 _ _ 1 _ (by simp only[zp]) (pc (by omega) (by omega))) (by simp only[zp];omega) (by simp only[zw,zL];omega) ?_)
  intro O n1 X z c x;have r:=za c;have F:=za x;clear c x;go_wp2;go_ret;exact⟨_,rfl,by rw[i.out];exact r.out,F.out.ahead bQ⟩
 obtain⟨T,d⟩:∃T:ByteArray,(⟨(cH n).toArray⟩:ByteArray)=T:=⟨_,rfl⟩
 have s:T.data.toList=cH n:=by rw[<-d]
 have ab:T.size<=8:=by rw[<-d,bB];exact iP 8 n (by omega)
 have i:Hid (cK b n=ub ((b+55+T.size:Nat):Int)::T.data.toList):=za (by unfold cK;rw[zh h,s,<-aa,s]);have E:=za (fun w=>K6 n w (by omega));rw[d]at E;clear d s;go_enter func173,ntmps173
 go_wp2_with fail
 refine(E.out _).mono ?_;rintro e z ⟨rfl,c⟩;have K:=c.size;have r:=za (D.out.below c);have J:=za c;clear c;go_wp2_with
  (at_builtin;refine cx (by rfl) (.tmp 20) (.tmp 27) 31 31 (by rfl) base 5 i0 zr hi o u q (by rfl) (r.out.alloc _) _ [ub ((b+55+T.size:Nat):Int)] (by rfl) (ug zr _ 5 _ _ 1 _ (by simp only[zp]) (pc (by omega) (by omega))) (by simp only[zp];omega) (by simp only[zw,zL];omega) ?_)
 intro R n2 S w2 C m;have M:=m.size;simp only[zp]at M;have H:=za C;have L:=za m;clear C m;go_wp2_with
  (at_builtin;refine cx (by rfl) (.tmp 28) (.tmp 29) 31 9 (by rfl) base 5 i0 zr hi o u q (by rfl) H.out _ T.data.toList (by rfl) (jt zG _ T) (by omega) (by rw[aa];simp only[zj,zw,zL];omega) ?_)
 intro A3 n3 Y w3 B y;have I:=za B;have G:=za y;clear B y;go_wp2;go_ret;refine⟨_,rfl, ?_, ?_⟩
 ·have:=I.out;rw[i.out];simpa using this
 exact(L.out.ahead (J.out.trans (((zl _ z).alloc (zd _) _).mono K))).trans G.out
theorem qR {w:World}{ops:Array Oper}{rest:List Oper}{o:Oper}{a:Act}{Q:Exit->Act->World->Prop}(D:o.guard=none)(s x:Operand)
 (L:o.op= .call {callee:= .builtin .append,args:= #[s,x],argTypes:= #[227,227]}) {S g cap n:Nat} {b:List (List It×List UInt8)} {h:List (Value×Value)} (l:Lay w S g cap b h) (hS:S<=w.heap.size) (I:n=b.length) (y:a.eval s= .slice (some ⟨g,0,none⟩) n cap)
 {sub:List It} {A:Option Addr} {c:Nat} (m:sub.length<=c) (r:c<=9223372036854775807) (G:cc w S sub A 0) (B:Nat) (hx:a.eval x= .slice (some ⟨B,0,none⟩) 1 1) (F:w.cell? ⟨B,0,none⟩=some (.slice A sub.length c)) (K:w.cell? ⟨B,1,none⟩=some (.slice none 0 0)) (M:b.length<=1099511627777)
 (C:∀d i e w',Hid (i=b.length+1)->Hid (Lay w' S d e ((sub,[])::b) ((.slice A sub.length c,.slice none 0 0)::h))->Hid (w.grownBy w' (some g))->wpList prog ops Q rest (a.put o.dst (.slice (some ⟨d,0,none⟩) i e)) w'):wpList prog ops Q (o::rest) a w:=by
 subst I;obtain⟨i1,E,q,H,z⟩:=yE Gf;refine xj w D s x 227 L S 226 i1 _ 2 48 underlying227 E q H z rfl (by decide) _ b.length (dV h) y l.row ⟨B,0,none⟩ 1 1 [.slice A sub.length c,.slice none 0 0] hx rfl ?_ ?_ (by decide) (by simp only[maxLen];omega) (by omega) hS w.heap.size rfl ?_
 ·intro j u hu;have p:∀j,(⟨B,0,none⟩:Addr).add j=⟨B,j,none⟩:=by intro j;unfold Addr.add;split<;>simp_all
  rw[p];match j,hu with
  |0,hu=>simp at hu;subst hu;exact F
  |1,hu=>simp at hu;subst hu;exact K
 ·intro u hu;simp at hu;rcases hu with rfl|rfl<;>rfl
 intro d e w' J k _ _;exact C d _ e w' (za rfl) (za (l.push hS m r G J k)) (za k)
