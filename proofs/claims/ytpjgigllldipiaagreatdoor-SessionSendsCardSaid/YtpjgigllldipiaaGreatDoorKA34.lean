/- rlp.Put: its closure head. -/
import Derived.Test.YtpjgigllldipiaaGreatDoorKA33
import Derived.Test.YtpjgigllldipiaaGreatDoorKA20
set_option linter.all false
set_option maxRecDepth 100000
set_option maxHeartbeats 1000000
namespace Go.Proofs.YtpjgigllldipiaaGreatDoor
open Go.RowKit
theorem vK :(Tryz.prog.info? 5).map (fun i=>(i.zero,i.size,i.bytes))=some (some (.int .u8 0),1,1):=by kernel_rfl
theorem FL :(Tryz.prog.info? 182).map (fun i=>(i.zero,i.size,i.bytes))=some (some (.agg #[.slice none 0 0,.slice none 0 0]),2,48):=by kernel_rfl
theorem P' (b n base:Nat)(v:Value)(l:List UInt8)(w:World)(r:bJ w base 5 v l)(tV:base<=w.heap.size)(R:b<=192)(hn:n<=1099511627776)(hl:l.length<=2199023255552):
 Calls Tryz.prog 133 #[v,.int .i64 b,.int .i64 n] w fun e w'=>∃s,e= .returned s/\bJ w' base 5 s (l++cr b n)/\l8 w w' v s:=by
 obtain⟨i0,hi,u,q,i⟩:=yQ vK;have x:=za r;obtain⟨A,k,cap,rfl,hk,ab,Z⟩:=r.df;clear r;by_cases h:n<=55
 ·have m:Hid (cr b n= [ub ((b+n:Nat):Int)]):=za (by unfold cr;rw[zl h]);go_enter Tryz.func133,Tryz.ntmps133
  go_wp2_with
   (at_builtin;refine cm (by rfl) (.tmp 10) (.tmp 15) 31 31 (by rfl) base 5 i0 zx hi u q i (by rfl) (x.out.alloc _) _ [ub ((b+n:Nat):Int)] (by rfl) (tF zx _ 5 _ _ 1 _ (by simp only[zu]) (oC (by omega) (by omega))) (by simp only[zu];omega) (by simp only[zB,zO];omega) ?_)
  intro A1 n1 W B c E;have p:=za c;have H:=za E;clear c E;go_wp2;go_ret;exact⟨_,rfl,by rw[m.out];exact p.out,H.out.ahead bM⟩
 obtain⟨T,d⟩:∃T:ByteArray,(⟨(cB n).toArray⟩:ByteArray)=T:=⟨_,rfl⟩
 have j:T.data.toList=cB n:=by rw[<-d]
 have Y:T.size<=8:=by rw[<-d,bD];exact gd 8 n (by omega)
 have m:Hid (cr b n=ub ((b+55+T.size:Nat):Int)::T.data.toList):=za (by unfold cr;rw[zj h,j,<-aa,j]);have C:=za (fun w=>KC n w (by omega));rw[d]at C;clear d j;go_enter Tryz.func133,Tryz.ntmps133
 go_wp2_with fail
 refine(C.out _).mono ?_;rintro e B ⟨rfl,c⟩;have M:=c.size;have p:=za (x.out.below c);have J:=za c;clear c;go_wp2_with
  (at_builtin;refine cm (by rfl) (.tmp 20) (.tmp 27) 31 31 (by rfl) base 5 i0 zx hi u q i (by rfl) (p.out.alloc _) _ [ub ((b+55+T.size:Nat):Int)] (by rfl) (tF zx _ 5 _ _ 1 _ (by simp only[zu]) (oC (by omega) (by omega))) (by simp only[zu];omega) (by simp only[zB,zO];omega) ?_)
 intro N n2 O w2 y o;have F:=o.size;simp only[zu]at F;have I:=za y;have K:=za o;clear y o;go_wp2_with
  (at_builtin;refine cm (by rfl) (.tmp 28) (.tmp 29) 31 9 (by rfl) base 5 i0 zx hi u q i (by rfl) I.out _ T.data.toList (by rfl) (iY zT _ T) (by omega) (by rw[aa];simp only[zo,zB,zO];omega) ?_)
 intro X U S w3 D z;have L:=za D;have G:=za z;clear D z;go_wp2;go_ret;refine⟨_,rfl, ?_, ?_⟩
 ·have:=L.out;rw[m.out];simpa using this
 exact(K.out.ahead (J.out.trans (((zq _ B).alloc (zi _) _).mono M))).trans G.out
theorem qo {w:World}{ops:Array Oper}{rest:List Oper}{o:Oper}{a:Act}{Q:Exit->Act->World->Prop}(y:o.guard=none)(s x:Operand)
 (I:o.op= .call {callee:= .builtin .append,args:= #[s,x],argTypes:= #[183,183]}) {S g cap n:Nat} {b:List (List It×List UInt8)} {h:List (Value×Value)} (l:Lay w S g cap b h) (hS:S<=w.heap.size) (K:n=b.length) (m:a.eval s= .slice (some ⟨g,0,none⟩) n cap)
 {sub:List It} {A:Option Addr} {c:Nat} (J:sub.length<=c) (z:c<=9223372036854775807) (C:bU w S sub A 0) (B:Nat) (hx:a.eval x= .slice (some ⟨B,0,none⟩) 1 1) (q:w.cell? ⟨B,0,none⟩=some (.slice A sub.length c)) (r:w.cell? ⟨B,1,none⟩=some (.slice none 0 0)) (M:b.length<=1099511627777)
 (F:∀d k e w',Hid (k=b.length+1)->Hid (Lay w' S d e ((sub,[])::b) ((.slice A sub.length c,.slice none 0 0)::h))->Hid (w.grownBy w' (some g))->wpList Tryz.prog ops Q rest (a.put o.dst (.slice (some ⟨d,0,none⟩) k e)) w'):wpList Tryz.prog ops Q (o::rest) a w:=by
 subst K;obtain⟨i1,H,D,E,p⟩:=yQ FL;refine xm w y s x 183 I S 182 i1 _ 2 48 Tryz.underlying183 H D E p rfl (by decide) _ b.length (dS h) m l.row ⟨B,0,none⟩ 1 1 [.slice A sub.length c,.slice none 0 0] hx rfl ?_ ?_ (by decide) (by simp only[maxLen];omega) (by omega) hS w.heap.size rfl ?_
 ·intro j u hu;have G:∀j,(⟨B,0,none⟩:Addr).add j=⟨B,j,none⟩:=by intro j;unfold Addr.add;split<;>simp_all
  rw[G];match j,hu with
  |0,hu=>simp at hu;subst hu;exact q
  |1,hu=>simp at hu;subst hu;exact r
 ·intro u hu;simp at hu;rcases hu with rfl|rfl<;>rfl
 intro d e w' L i _ _;exact F d _ e w' (za rfl) (za (l.push hS J z C L i)) (za i)
