/- rlp.Put: its closure head. -/
import Derived.Test.YtpjgigllldipiaaGreatDoorKA33
import Derived.Test.YtpjgigllldipiaaGreatDoorKA20
set_option linter.all false
set_option maxRecDepth 100000
set_option maxHeartbeats 1000000
namespace Go.Proofs.YtpjgigllldipiaaGreatDoor
open Tryz
open Go.RowKit
theorem vz :(prog.info? 5).map (fun i=>(i.zero,i.size,i.bytes))=some (some (.int .u8 0),1,1):=by kernel_rfl
theorem FE :(prog.info? 182).map (fun i=>(i.zero,i.size,i.bytes))=some (some (.agg #[.slice none 0 0,.slice none 0 0]),2,48):=by kernel_rfl
theorem PO (b n base:Nat)(v:Value)(l:List UInt8)(w:World)(i:bJ w base 5 v l)(tO:base<=w.heap.size)(S:b<=192)(hn:n<=1099511627776)(W:l.length<=2199023255552):
 Calls prog 133 #[v,.int .i64 b,.int .i64 n] w fun e w'=>∃p,e= .returned p/\bJ w' base 5 p (l++cw b n)/\l6 w w' v p:=by
 obtain⟨i0,hi,j,r,o⟩:=yT vz;have E:=za i;obtain⟨A,k,cap,rfl,Y,Z,lI⟩:=i.dk;clear i;by_cases h:n<=55
 ·have u:Hid (cw b n= [ub ((b+n:Nat):Int)]):=za (by unfold cw;rw[zl h]);go_enter func133,ntmps133
  go_wp2_with
   (at_builtin;refine cl (by rfl) (.tmp 10) (.tmp 15) 31 31 (by rfl) base 5 i0 zx hi j r o (by rfl) (E.out.alloc _) _ [ub ((b+n:Nat):Int)] (by rfl) (tw zx _ 5 _ _ 1 _ (by simp only[zt]) (ox (by omega) (by omega))) (by simp only[zt];omega) (by simp only[zD,zS];omega) ?_)
  intro X n1 U x c z;have q:=za c;have I:=za z;clear c z;go_wp2;go_ret;exact⟨_,rfl,by rw[u.out];exact q.out,I.out.ahead bN⟩
 obtain⟨T,d⟩:∃T:ByteArray,(⟨(cA n).toArray⟩:ByteArray)=T:=⟨_,rfl⟩
 have s:T.data.toList=cA n:=by rw[<-d]
 have ab:T.size<=8:=by rw[<-d,bH];exact fW 8 n (by omega)
 have u:Hid (cw b n=ub ((b+55+T.size:Nat):Int)::T.data.toList):=za (by unfold cw;rw[zj h,s,<-aa,s]);have y:=za (fun w=>Kh n w (by omega));rw[d]at y;clear d s;go_enter func133,ntmps133
 go_wp2_with fail
 refine(y.out _).mono ?_;rintro e x ⟨rfl,c⟩;have M:=c.size;have q:=za (E.out.below c);have K:=za c;clear c;go_wp2_with
  (at_builtin;refine cl (by rfl) (.tmp 20) (.tmp 27) 31 31 (by rfl) base 5 i0 zx hi j r o (by rfl) (q.out.alloc _) _ [ub ((b+55+T.size:Nat):Int)] (by rfl) (tw zx _ 5 _ _ 1 _ (by simp only[zt]) (ox (by omega) (by omega))) (by simp only[zt];omega) (by simp only[zD,zS];omega) ?_)
 intro A2 n2 N w2 B m;have G:=m.size;simp only[zt]at G;have F:=za B;have L:=za m;clear B m;go_wp2_with
  (at_builtin;refine cl (by rfl) (.tmp 28) (.tmp 29) 31 9 (by rfl) base 5 i0 zx hi j r o (by rfl) F.out _ T.data.toList (by rfl) (iS zO _ T) (by omega) (by rw[aa];simp only[zp,zD,zS];omega) ?_)
 intro R O nh w3 D C;have J:=za D;have H:=za C;clear D C;go_wp2;go_ret;refine⟨_,rfl, ?_, ?_⟩
 ·have:=J.out;rw[u.out];simpa using this
 exact(L.out.ahead (K.out.trans (((zq _ x).alloc (zf _) _).mono M))).trans H.out
theorem qf {w:World}{ops:Array Oper}{rest:List Oper}{o:Oper}{a:Act}{Q:Exit->Act->World->Prop}(H:o.guard=none)(s x:Operand)
 (q:o.op= .call {callee:= .builtin .append,args:= #[s,x],argTypes:= #[183,183]}) {S g cap n:Nat} {b:List (List It×List UInt8)} {h:List (Value×Value)} (l:Lay w S g cap b h) (hS:S<=w.heap.size) (F:n=b.length) (z:a.eval s= .slice (some ⟨g,0,none⟩) n cap)
 {sub:List It} {A:Option Addr} {c:Nat} (J:sub.length<=c) (m:c<=9223372036854775807) (p:bU w S sub A 0) (B:Nat) (hx:a.eval x= .slice (some ⟨B,0,none⟩) 1 1) (G:w.cell? ⟨B,0,none⟩=some (.slice A sub.length c)) (I:w.cell? ⟨B,1,none⟩=some (.slice none 0 0)) (M:b.length<=1099511627777)
 (y:∀d k e w',Hid (k=b.length+1)->Hid (Lay w' S d e ((sub,[])::b) ((.slice A sub.length c,.slice none 0 0)::h))->Hid (w.grownBy w' (some g))->wpList prog ops Q rest (a.put o.dst (.slice (some ⟨d,0,none⟩) k e)) w'):wpList prog ops Q (o::rest) a w:=by
 subst F;obtain⟨i1,C,r,D,E⟩:=yT FE;refine xB w H s x 183 q S 182 i1 _ 2 48 underlying183 C r D E rfl (by decide) _ b.length (dN h) z l.row ⟨B,0,none⟩ 1 1 [.slice A sub.length c,.slice none 0 0] hx rfl ?_ ?_ (by decide) (by simp only[maxLen];omega) (by omega) hS w.heap.size rfl ?_
 ·intro j u hu;have L:∀j,(⟨B,0,none⟩:Addr).add j=⟨B,j,none⟩:=by intro j;unfold Addr.add;split<;>simp_all
  rw[L];match j,hu with
  |0,hu=>simp at hu;subst hu;exact G
  |1,hu=>simp at hu;subst hu;exact I
 ·intro u hu;simp at hu;rcases hu with rfl|rfl<;>rfl
 intro d e w' K i _ _;exact y d _ e w' (za rfl) (za (l.push hS J m p K i)) (za i)
