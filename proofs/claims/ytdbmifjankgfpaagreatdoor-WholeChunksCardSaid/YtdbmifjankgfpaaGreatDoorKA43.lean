/- Slices of strings: one that reads, one that grows. -/
import Derived.Test.YtdbmifjankgfpaaGreatDoorKA5
import Derived.Lib.MinMax
import Derived.WalkSpells
set_option linter.all false
set_option maxRecDepth 100000
set_option maxHeartbeats 3200000
namespace Go.Proofs.YtdbmifjankgfpaaGreatDoor
open Tryz
open Go.RowKit
def xk:=@wpList_append_lies
def Oq (w:World)(B:Nat)(v:Value)(l:List ByteArray):Prop:=∃A cap,v= .slice A l.length cap/\l.length<=cap/\cap<=9223372036854775807/\∀j (h:j<l.length),∃g o,A=some ⟨g,o,none⟩/\g<B/\w.cell? ⟨g,o+j,none⟩=some (.string l[j])
theorem Oq.below {w w':World}{B:Nat}{v:Value}{l:List ByteArray}(h:Oq w B v l)(c:Below B w w'):Oq w' B v l:=by
 obtain⟨A,cap,i,d,p,n⟩:=h;refine⟨A,cap,i,d,p,fun j k=> ?_⟩;obtain⟨g,o,m,b,e⟩:=n j k;exact⟨g,o,m,b,(c.cell b).trans e⟩
theorem Oq.ag {w w':World}{B:Nat}{v:Value}{l:List ByteArray}(h:Oq w B v l)(e:∀k,k<B->v.ownBlock=some k->w'.heap[k]?=w.heap[k]?):Oq w' B v l:=by
 obtain⟨A,cap,c,i,q,p⟩:=h;refine⟨A,cap,c,i,q,fun j n=> ?_⟩;obtain⟨g,o,d,b,m⟩:=p j n;exact⟨g,o,d,b,(zD (e g b (by rw[c,d];rfl))).trans m⟩
theorem Oq.bT {w:World}{B:Nat}{v:Value}{l:List ByteArray}(h:Oq w B v l):∃A n cap,v= .slice A n cap/\Hid (n=l.length)/\n<=cap/\cap<=9223372036854775807:=by
 obtain⟨A,cap,c,b,d,_⟩:=h;exact⟨A,_,cap,c,za rfl,b,d⟩
theorem Oq.at_ {w:World}{B:Nat}{A:Option Addr}{n cap:Nat}{l:List ByteArray}(h:Oq w B (.slice A n cap) l){j:Nat}(c:j<l.length):∃g o,A=some ⟨g,o,none⟩/\g<B/\w.cell? ⟨g,o+j,none⟩=some (.string l[j]):=by
 obtain⟨e,k,b,i,m,d⟩:=h;injection b with hA _ _;subst hA;exact d j c
abbrev sq (w:World)(lo:Nat)(v:Value)(l:List ByteArray):Prop:=w.ownsRow lo 9 1 v l.length (l.map .string)
theorem sq.nil (w:World)(lo:Nat):sq w lo (.slice none 0 0) []:=⟨rfl,.inl ⟨rfl,rfl⟩⟩
theorem sq.bT {w:World}{lo:Nat}{v:Value}{l:List ByteArray}(h:sq w lo v l):∃A n cap,v= .slice A n cap/\Hid (n=l.length)/\n<=cap/\cap<=9223372036854775807:=by
 rcases h.2 with⟨c,j⟩|⟨p,d,r,i,k,q,e,b,o,m⟩
 ·exact⟨none,0,0,c,za j.symm,by omega,by simp⟩
 exact⟨_,_,d,i,za rfl,e,by simpa[maxLen]using b⟩
theorem sq.read {w:World}{lo:Nat}{v:Value}{l:List ByteArray}(h:sq w lo v l):Oq w w.heap.size v l:=by
 obtain⟨o,b⟩:=h;rcases b with⟨b,q⟩|⟨g,cap,x,p,s,d,n,m,r,k⟩
 ·obtain rfl:l= []:=zo q;rw[b];exact⟨none,0,rfl,by simp,by simp,fun j c=>by simp at c⟩
 refine⟨_,cap,p,n,by simpa[maxLen]using m,fun j c=> ?_⟩;have e:(l.map Value.string)[j]?=some (.string l[j]):=by simp[c]
 have key:∀i u,(l.map Value.string)[i]?=some u->w.cell? ⟨g,i,none⟩=some u:=by
  intro i u hu;have y:i<l.length*1:=by
   have:=(xx.1 hu).1;rw[o]at this;exact this
  rw[<-k,yA (by omega)]at hu;simp only[World.cell?,d];simpa using hu
 exact⟨g,0,rfl,yG d,by rw[zM];exact key _ _ e⟩
theorem sq.ag {w w':World}{lo:Nat}{v:Value}{l:List ByteArray}(h:sq w lo v l)(b:∀k,lo<=k->k<w.heap.size->w'.heap[k]?=w.heap[k]?):sq w' lo v l:=by
 refine⟨h.1, ?_⟩;rcases h.2 with h2|⟨g,cap,cur,hv,hb,hh,r⟩
 ·exact .inl h2
 exact .inr ⟨g,cap,cur,hv,hb,(b g hb (yG hh)).trans hh,r⟩
theorem sq.below {w w':World}{lo:Nat}{v:Value}{l:List ByteArray}(h:sq w lo v l)(b:Below w.heap.size w w'):sq w' lo v l:=h.ag fun k _ c=>b.block k c
theorem sq.ge {w:World}{lo:Nat}{v:Value}{l:List ByteArray}(h:sq w lo v l):∀g,v.ownBlock=some g->lo<=g/\g<w.heap.size:=by
 intro g b;rcases h.2 with⟨i,k⟩|⟨d,cap,m,j,c,e,_⟩
 ·rw[i]at b;cases b
 rw[j]at b;have:d=g:=by simpa[Value.ownBlock]using b
 subst this;exact⟨c,yG e⟩
theorem NV :(prog.info? 9).map (fun i=>(i.zero,i.size,i.bytes))=some (some (.string ⟨#[]⟩),1,16):=by kernel_rfl
theorem X' (g j:Nat):(⟨g,0,none⟩:Addr).add j=⟨g,j,none⟩:=by unfold Addr.add;split<;>simp_all
theorem kH {w:World}{ops:Array Oper}{rest:List Oper}{o:Oper}{a:Act}{Q:Exit->Act->World->Prop}(m:o.guard=none)(s x:Operand)
 (A:o.op= .call {callee:= .builtin .append,args:= #[s,x],argTypes:= #[51,51]}) (lo:Nat) (acc:List ByteArray) {v:Value} (h:a.eval s=v) (k:sq w lo v acc) (y:ByteArray)
 (g:Nat) (hx:a.eval x= .slice (some ⟨g,0,none⟩) 1 1) (q:w.cell? ⟨g,0,none⟩=some (.string y))
 (C:acc.length<=1000000) (B:lo<=w.heap.size)
 (l:∀b c cap w',Hid (c=(acc++ [y]).length)->sq w' lo (.slice (some ⟨b,0,none⟩) c cap) (acc++ [y])->w.grownBy w' v.ownBlock->lo<=b->wpList prog ops Q rest (a.put o.dst (.slice (some ⟨b,0,none⟩) c cap)) w'):wpList prog ops Q (o::rest) a w:=by
 obtain⟨i0,hi,i,z,r⟩:=yE NV;refine xk w m s x 51 A lo 9 i0 _ 1 16 underlying51 hi i z r rfl (by decide) v acc.length (acc.map .string) h k ⟨g,0,none⟩ 1 1 [.string y] hx rfl ?_ (by simp[Value.oneCell']) (by decide) (by simp only[maxLen];omega) (by omega) B w.heap.size rfl ?_
 ·intro j u hu;rw[X'];match j,hu with
  |0,hu=>simp at hu;subst hu;exact q
 intro b cap w' n p E D;have e:(acc++ [y]).length=acc.length+1:=by simp
 have d:sq w' lo (.slice (some ⟨b,0,none⟩) (acc.length+1) cap) (acc++ [y]):=by rw[sq,Yl,e];exact n
 exact l b _ cap w' (za e.symm) (by simpa using d) p (d.ge b rfl).1
def JG :ByteArray->List Nat->List ByteArray
 |b,[]=> [b]
 |b,k::ks=>b.extract 0 (min k b.size)::JG (b.extract (min k b.size) b.size) ks
theorem wU (b:ByteArray)(c:List Nat):(JG b c).length=c.length+1:=by
 induction c generalizing b with
 |nil=>rfl
 |cons k c ih=>simp[JG,ih]
def dB :List ByteArray->ByteArray
 | []=>ByteArray.empty
 |a::l=>a++dB l
theorem JH (l:List ByteArray)(a:ByteArray):dB (l++ [a])=dB l++a:=by
 induction l with
 |nil=>apply aB;simp[dB,aP]
 |cons x l ih=>apply aB;simp only[zV,dB,ih,aP,zB]
theorem wV {l:List ByteArray}{k:Nat}(h:k<l.length):dB (l.take (k+1))=dB (l.take k)++l[k]:=by
 rw[<-JH,Z3,zA h];rfl
theorem JI {l:List ByteArray}{k:Nat}(h:k<l.length):(dB (l.take (k+1))).size=(dB (l.take k)).size+l[k].size:=by rw[wV h,bD]
theorem JJ (l:List ByteArray)(k:Nat):(dB (l.take k)).size<=(dB l).size:=by
 induction l generalizing k with
 |nil=>simp[dB]
 |cons a l ih=>
  cases k with
  |zero=>simp[dB]
  |succ k=>simp only[zP,dB,bD];have:=ih k;omega
theorem GC (b:ByteArray)(c:List Nat):dB (JG b c)=b:=by
 induction c generalizing b with
 |nil=>apply aB;simp[JG,dB,aP]
 |cons k c ih=>
  simp only[JG,dB,ih];apply aB;rw[aP,an,an,cQ];simp only[zK];exact zJ _ _
theorem GD {d:Type}{c:Nx d}(h:jK c){x:eU}{b:List ByteArray}{k:Nat}{acc:List d}(hx:jq c x (dB (b.take k)) acc)(e:k<b.length):jq c (mX c x b[k]).1 (dB (b.take (k+1))) (acc++(mX c x b[k]).2.1):=by
 rw[wV e];exact hx.mX h _
theorem DP {c:Type}{b:Nx c}(h:jK b)(e:(b ByteArray.empty).1=2)(d:List ByteArray):jq b eU.new (dB (d.take 0)) ([]:List c):=by
 rw[yz];exact jq.new h e
def Cz (w:World)(B:Nat)(v:Value)(l:List Nat):Prop:=∃A cap,v= .slice A l.length cap/\l.length<=cap/\cap<=9223372036854775807/\∀j (h:j<l.length),∃g o,A=some ⟨g,o,none⟩/\g<B/\w.cell? ⟨g,o+j,none⟩=some (.int .u8 (l[j]:Nat))
theorem Cz.ag {w w':World}{B b:Nat}{v:Value}{l:List Nat}(h:Cz w B v l)(s:B<=b)(c:∀p:Addr,p.block<B->w'.cell? p=w.cell? p):Cz w' b v l:=by
 obtain⟨A,cap,k,d,r,q⟩:=h;refine⟨A,cap,k,d,r,fun j m=> ?_⟩;obtain⟨g,o,n,i,e⟩:=q j m;exact⟨g,o,n,by omega,(c _ i).trans e⟩
theorem Cz.below {w w':World}{B:Nat}{v:Value}{l:List Nat}(h:Cz w B v l)(b:Below B w w'):Cz w' B v l:=h.ag (zd _) (fun _ c=>b.cell c)
theorem Cz.bT {w:World}{B:Nat}{v:Value}{l:List Nat}(h:Cz w B v l):∃A n cap,v= .slice A n cap/\Hid (n=l.length)/\n<=cap/\cap<=9223372036854775807:=by
 obtain⟨A,cap,c,b,d,_⟩:=h;exact⟨A,_,cap,c,za rfl,b,d⟩
theorem Cz.at_ {w:World}{B:Nat}{A:Option Addr}{n cap:Nat}{l:List Nat}(h:Cz w B (.slice A n cap) l){j:Nat}(c:j<l.length):∃g o,A=some ⟨g,o,none⟩/\g<B/\w.cell? ⟨g,o+j,none⟩=some (.int .u8 (l[j]:Nat)):=by
 obtain⟨e,k,b,i,m,d⟩:=h;injection b with hA _ _;subst hA;exact d j c
theorem Cz.nil (w:World)(B:Nat):Cz w B (.slice none 0 0) []:=⟨none,0,rfl,by simp,by simp,fun j b=>by simp at b⟩
theorem GF (w:World)(y:ByteArray):(w.alloc (.cells #[.string y] 9)).cell? ⟨w.heap.size,0,none⟩=some (.string y):=(af.new w _ _).cell 0
theorem Lt (b:ByteArray)(c:List Nat)(C:Value)(B:Nat)(w:World)(y:Cz w B C c)(L:B<=w.heap.size)(K:∀k∈c,k<256)(F:b.size<=1000000)(E:c.length<=1000):
 Calls prog 15 #[.string b,C] w fun e w'=>∃H,e= .returned H/\sq w' w.heap.size H (JG b c)/\Below w.heap.size w w':=by
 obtain⟨Ak,n,cap,rfl,z,UJ,mR⟩:=y.bT;have HK:=za y;have aa:=za K;have oC:n<=1000:=by rw[z.out];exact E
 have HB:=za L;have R:=za F;clear y K E L F;go_enter func15,ntmps15
 go_wp2_with fail
 go_loopw [0,5,6] (fun Y ov p wr=>∃(j:Nat) (r:ByteArray) (acc:List ByteArray),p= .int .i64 j/\j<=n/\Y= .string r/\Hid (r.size<=1000000)/\Hid (sq wr w.heap.size ov acc)/\acc.length=j/\Hid (acc++JG r (c.drop j)=JG b c)/\Hid (Below w.heap.size w wr)) (fun _ _ p _=>n-(intOf p).toNat)
 case atStart=>exact⟨0,b,[],rfl,by omega,rfl,R,za (sq.nil _ _),rfl,za rfl,za (zl _ _)⟩
 case round=>
  obtain⟨j,r,acc,rfl,hj,rfl,S,h,W,N,m⟩:=hrel;obtain⟨M,D,G,rfl,S6,U',Vb⟩:=h.out.bT;by_cases aD:j<n
  ·have tO:(j:Int)<n:=by omega
   have x:j<c.length:=by rw[<-z.out];exact aD
   obtain⟨gk,ok,rfl,af,X⟩:=(HK.out.below (m.out.mono HB.out)).at_ x;have hq:=aa.out _ (zN x);have s:=yX x;obtain⟨q,I⟩:∃q,c[j]=q:=⟨_,rfl⟩
   rw[I]at X hq s;have UF:=S.out;obtain⟨k2,J⟩:∃k2,min q r.size=k2:=⟨_,rfl⟩
   have ah:min (q:Int) (r.size:Int)=(k2:Int):=by omega
   have ag:(k2:Int)<=r.size:=by omega
   have ab:Hid (acc++ [r.extract 0 k2]++JG (r.extract k2 r.size) (c.drop (j+1))=JG b c):=za (by
    rw[<-N.out,s,zB];show _=acc++(r.extract 0 (min q r.size)::JG (r.extract (min q r.size) r.size) (c.drop (j+1)))
    rw[J];rfl)
   have Z:Hid ((r.extract k2 r.size).size<=1000000):=za (by rw[aj _ _ _ (zd _)];omega);clear I J s;have d:Hid (sq (wr.alloc (.cells #[.string (r.extract 0 k2)] 9)) w.heap.size (.slice M D G) acc):=za (h.out.below ((zl _ wr).alloc (zd _) _));have U:=m.out.size;go_wp2_with (at_builtin;refine Hid.out ?_)
   refine za ?_;refine kH (by rfl) (.tmp 22) (.tmp 26) (by rfl) w.heap.size acc (by rfl) d.out (r.extract 0 k2) wr.heap.size (by rfl) (GF wr (r.extract 0 k2)) (by omega) (by simp;omega) ?_;intro g' n' aq w' Oy l o ad;have u:=za l;have A:Hid (Below w.heap.size w w'):=za ((m.out.alloc (by omega) _).trans ((ae.dR o).below (by simp;omega) (fun i hi=>by have:=(d.out.ge i (cy.1 hi)).1;omega)));clear l o d h;go_wp2;go_roundw
   case rel=>exact⟨j+1,_,_,by go_num,by omega,rfl,Z,u,by simp[W],ab,A⟩
   case measure=>simp[intOf];omega
  have tO:¬(j:Int)<n:=by omega
  obtain rfl:j=n:=by omega
  have O:Hid (acc++ [r]=JG b c):=za (by
   rw[<-N.out,zI (by rw[<-z.out];exact zd _)];rfl)
  have d:Hid (sq (wr.alloc (.cells #[.string (r)] 9)) w.heap.size (.slice M D G) acc):=za (h.out.below ((zl _ wr).alloc (zd _) _));have U:=m.out.size;go_wp2_with (at_builtin;refine Hid.out ?_)
  refine za ?_;refine kH (by rfl) (.tmp 31) (.tmp 33) (by rfl) w.heap.size acc (by rfl) d.out (r) wr.heap.size (by rfl) (GF wr (r)) (by omega) (by simp;omega) ?_;intro g' n' aq w' Oy l o ad;have u:=za l;have A:Hid (Below w.heap.size w w'):=za ((m.out.alloc (by omega) _).trans ((ae.dR o).below (by simp;omega) (fun i hi=>by have:=(d.out.ge i (cy.1 hi)).1;omega)));clear l o d h;go_wp2;go_ret;exact⟨_,rfl,by rw[<-O.out];exact u.out,A.out⟩
