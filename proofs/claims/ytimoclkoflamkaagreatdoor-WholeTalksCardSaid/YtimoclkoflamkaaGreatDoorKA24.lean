/- rlp.Put: its closure head. -/
import Derived.Test.YtimoclkoflamkaaGreatDoorKA23
import Derived.Test.YtimoclkoflamkaaGreatDoorKA15
set_option linter.all false
set_option maxRecDepth 100000
set_option maxHeartbeats 1000000
open Go.Proofs.Tryz
namespace Go.Proofs.YtimoclkoflamkaaGreatDoor
open Go.RowKit
theorem AJ :(prog.info? 5).map (fun i=>(i.zero,i.size,i.bytes))=some (some (.int .u8 0),1,1):=by kernel_rfl
theorem Hg :(prog.info? 208).map (fun i=>(i.zero,i.size,i.bytes))=some (some (.agg #[nS,nS]),2,48):=by kernel_rfl
theorem SF (b n base:Nat)(v:Value)(l:List UInt8)(w:World)(o:bR w base 5 v l)(N:base<=w.heap.size)(R:b<=192)(O:n<=1099511627776)(U:l.length<=2199023255552):
 Calls prog 152 #[v,b,n] w fun e w'=>∃q,e= .returned q/\bR w' base 5 q (l++cF b n)/\lP w w' v q:=by
 obtain⟨i0,hi,r,u,s⟩:=yv AJ;have x:=za o;obtain⟨A,k,cap,rfl,Y,ad,Z⟩:=o.bK;clear o;by_cases h:n<=55
 ·have p:Hid (cF b n= [ub ((b+n:Nat):Int)]):=za (by unfold cF;rw[zg h]);go_enter func152,ntmps152
  go_wp2_with
   (at_builtin;refine cx (by rfl) (.tmp 10) (.tmp 15) 75 75 (by rfl) base 5 i0 zm hi r u s (by rfl) (x.out.alloc _) _ [ub ((b+n:Nat):Int)] (by rfl) (vq zm _ 5 _ _ 1 _ (by simp only[zp]) (pE (by omega) (by omega))) (by simp only[zp];omega) (by simp only[zx,zM];omega) ?_)
  intro A1 n1 W C c B;have m:=za c;have G:=za B;clear c B;go_wp2;go_ret;exact⟨_,rfl,by rw[p.out];exact m.out,G.out.ahead bQ⟩
 obtain⟨T,d⟩:∃T:ByteArray,(⟨(cJ n).toArray⟩:ByteArray)=T:=⟨_,rfl⟩
 have j:T.data.toList=cJ n:=by rw[<-d]
 have ab:T.size<=8:=by rw[<-d,bJ];exact gC 8 n (by omega)
 have p:Hid (cF b n=ub ((b+55+T.size:Nat):Int)::T.data.toList):=za (by unfold cF;rw[zf h,j,<-aa,j]);have E:=za (fun w=>Mw n w (by omega));rw[d]at E;clear d j;go_enter func152,ntmps152
 go_wp2_with fail
 refine(E.out _).mono ?_;rintro e C ⟨rfl,c⟩;have H:=c.size;have m:=za (x.out.below c);have F:=za c;clear c;go_wp2_with
  (at_builtin;refine cx (by rfl) (.tmp 20) (.tmp 27) 75 75 (by rfl) base 5 i0 zm hi r u s (by rfl) (m.out.alloc _) _ [ub ((b+55+T.size:Nat):Int)] (by rfl) (vq zm _ 5 _ _ 1 _ (by simp only[zp]) (pE (by omega) (by omega))) (by simp only[zp];omega) (by simp only[zx,zM];omega) ?_)
 intro S n2 cap2 w2 y i;have J:=i.size;simp only[zp]at J;have M:=za y;have I:=za i;clear y i;go_wp2_with
  (at_builtin;refine cx (by rfl) (.tmp 28) (.tmp 29) 75 9 (by rfl) base 5 i0 zm hi r u s (by rfl) M.out _ T.data.toList (by rfl) (iE zH _ T) (by omega) (by rw[aa];simp only[zh,zx,zM];omega) ?_)
 intro X n3 Is w3 z D;have L:=za z;have K:=za D;clear z D;go_wp2;go_ret;refine⟨_,rfl, ?_, ?_⟩
 ·have:=L.out;rw[p.out];simpa using this
 exact(I.out.ahead (F.out.trans (((zi _ C).alloc (ze _) _).mono H))).trans K.out
theorem ry {w:World}{ops:Array Oper}{rest:List Oper}{o:Oper}{a:Act}{Q:Exit->Act->World->Prop}(q:o.guard=none)(s x:Operand)
 (C:o.op= .call {callee:= .builtin .append,args:= #[s,x],argTypes:= #[209,209]}) {S g cap n:Nat} {b:List (List It×List UInt8)} {h:List (Value×Value)} (l:Lay w S g cap b h) (hS:S<=w.heap.size) (m:n=b.length) (F:a.eval s= .slice (some (g,0)) n cap)
 {sub:List It} {A:Option Addr} {c:Nat} (G:sub.length<=c) (L:c<=9223372036854775807) (J:bN w S sub A 0) (B:Nat) (hx:a.eval x= .slice (some (B,0)) 1 1) (I:w.cell? (B,0)=some (.slice A sub.length c)) (y:w.cell? (B,1)=some (.slice none 0 0)) (M:b.length<=1099511627777)
 (K:∀d i e w',Hid (i=b.length+1)->Hid (Lay w' S d e ((sub,[])::b) ((.slice A sub.length c,nS)::h))->Hid (w.grownBy w' (some g))->wpList prog ops Q rest (a.put o.dst (.slice (some (d,0)) i e)) w'):wpList prog ops Q (o::rest) a w:=by
 subst m;obtain⟨i1,H,E,p,D⟩:=yv Hg;refine y7 w q s x 209 C S 208 i1 _ 2 48 underlying209 H E p D rfl (by decide) _ b.length (dV h) F l.row (B,0) 1 1 [.slice A sub.length c,nS] hx rfl ?_ ?_ (by decide) (by simp only[maxLen];omega) (by omega) hS w.heap.size rfl ?_
 ·intro j u hu;have z:∀j,((B,0):Addr).add j=⟨B,j,none⟩:=by intro j;unfold Addr.add;split<;>simp_all
  rw[z];match j,hu with
  |0,hu=>simp at hu;subst hu;exact I
  |1,hu=>simp at hu;subst hu;exact y
 ·intro u hu;simp at hu;rcases hu with rfl|rfl<;>rfl
 intro d e w' r k _ _;exact K d _ e w' (za rfl) (za (l.push hS G L J r k)) (za k)
