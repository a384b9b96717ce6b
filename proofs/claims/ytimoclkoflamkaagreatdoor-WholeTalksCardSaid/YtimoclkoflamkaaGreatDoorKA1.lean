/- Terms of memory written short: a pair for an address or a pointer, a tuple for a cell's fact, a number for its value. Coercions: what is elaborated is the plain term. Own text; no program in sight. -/
import Derived.WalkKit
set_option linter.all false
namespace Go.Proofs.YtimoclkoflamkaaGreatDoor
open Go.RowKit
variable {s:ByteArray}{d i:Type}{k a x f e:Nat}{out:List UInt8}
def ze:=@Nat.le_refl
def zf:=@if_neg
def zg:=@if_pos
def zh:=@List.length_append
def zk:=@List.eq_nil_of_length_eq_zero
def zr:=@List.getElem?_eq_getElem
def zu:=@List.getD_eq_getElem?_getD
def zv:=@Bool.and_eq_true
def zw:=@List.take_of_length_le
def zx:=@List.length_cons
def zB:=@List.append_assoc
def zE:=@List.take_append_drop
def zJ:=@Nat.lt_of_lt_of_le
def zQ:=@List.length_take
def zS:=@List.take_append_of_le_length
def zT:=@List.cons_append
def zU:=@decide_eq_true_eq
def yd:=@Nat.add_assoc
def yg:=@List.getElem?_append_right
def yi:=@congrArg
def yj:=@List.mem_cons
def yn:=@List.take_succ_eq_append_getElem
def yu:=@Nat.pow_le_pow_right
def yy:=@List.drop_append_of_le_length
def yF:=@Nat.min_eq_left
def yM:=@decide_eq_false_iff_not
def yP:=@Bool.eq_iff_iff
def yZ:=@List.getElem?_eq_none
def xd:=@Bool.eq_false_or_eq_true
def xj:=@Nat.mod_lt
def xo:=@Nat.two_pow_add_eq_or_of_lt
def xp:=@Nat.lt_or_ge
def xx:=@List.drop_drop
def xA:=@List.length_replicate
def xB:=@List.getElem?_append_left
def xC:=@List.drop_eq_getElem_cons
def xM:=@if_true
def xY:=@Nat.pow_add
def xZ:=@Nat.mul_le_mul_right
def Zc:=@List.drop_take
def Zd:=@Bool.or_eq_false_iff
def Zf:=@Nat.sub_self
def Zh:=@List.all_eq_true
def Zw:=@Nat.mul_comm
def Z0:=@List.replicate_succ
def Ys:=@dif_pos
def YF:=@List.map_append
def eS :Unit:=()
def nS :Unit:=()
instance (priority :=high) coA (g i:Nat):CoeT (Nat×Nat) (g,i) Addr:=⟨⟨g,i,none⟩⟩
instance (priority :=high) coP (g i:Nat):CoeT (Nat×Nat) (g,i) Value:=⟨.pointer (some ⟨g,i,none⟩)⟩
instance (priority :=high) coCi (w:World)(g i:Nat)(k:Int):CoeT (World×Nat×Nat×Int) (w,g,i,k) Prop:=⟨w.cell? ⟨g,i,none⟩=some (.int .i64 k)⟩
instance (priority :=high) coCs (w:World)(g i:Nat)(k:ByteArray):CoeT (World×Nat×Nat×ByteArray) (w,g,i,k) Prop:=⟨w.cell? ⟨g,i,none⟩=some (.string k)⟩
instance (priority :=high) coCb (w:World)(g i:Nat)(k:Bool):CoeT (World×Nat×Nat×Bool) (w,g,i,k) Prop:=⟨w.cell? ⟨g,i,none⟩=some (.bool k)⟩
instance (priority :=high) coCv (w:World)(g i:Nat)(k:Value):CoeT (World×Nat×Nat×Value) (w,g,i,k) Prop:=⟨w.cell? ⟨g,i,none⟩=some k⟩
instance (priority :=high) coCn (w:World)(g i:Nat)(k:Nat):CoeT (World×Nat×Nat×Nat) (w,g,i,k) Prop:=⟨w.cell? ⟨g,i,none⟩=some (.int .i64 k)⟩
instance (priority :=high) coCp (w:World)(g i a j:Nat):CoeT (World×Nat×Nat×Nat×Nat) (w,g,i,a,j) Prop:=⟨w.cell? ⟨g,i,none⟩=some (.pointer (some ⟨a,j,none⟩))⟩
instance (priority :=high) coB (w v:World):CoeT (World×World) (w,v) Prop:=⟨Below w.heap.size w v⟩
instance (priority :=high) coI (x:Int):CoeT Int x Value:=⟨.int .i64 x⟩
instance (priority :=high) coN (x:Nat):CoeT Nat x Value:=⟨.int .i64 x⟩
instance (priority :=high) coS (x:ByteArray):CoeT ByteArray x Value:=⟨.string x⟩
instance (priority :=high) coO (x:Bool):CoeT Bool x Value:=⟨.bool x⟩
instance (priority :=high) coE:CoeT Unit eS Value:=⟨.string ⟨#[]⟩⟩
instance (priority :=high) coZ:CoeT Unit nS Value:=⟨.slice none 0 0⟩
theorem aE {a b:ByteArray}(h:a.data.toList=b.data.toList):a=b:=by
 cases a;cases b;simp at h;simpa using h
theorem jD (s:ByteArray):(⟨s.data.toList.toArray⟩:ByteArray)=s:=aE (by simp)
theorem aa (s:ByteArray):s.data.toList.length=s.size:=by simp
theorem bJ (l:List UInt8):(⟨l.toArray⟩:ByteArray).size=l.length:=by simp[ByteArray.size]
theorem aX (a b:ByteArray):(a++b).data.toList=a.data.toList++b.data.toList:=by
 rw[ByteArray.data_append];simp
theorem aq (s:ByteArray)(i j:Nat):(s.extract i j).data.toList=(s.data.toList.take j).drop i:=by
 rw[ByteArray.data_extract,Array.toList_extract,List.extract_eq_take_drop,Zc]
theorem ar (s:ByteArray)(i j:Nat)(b:j<=s.size):(s.extract i j).size=j-i:=by
 rw[ByteArray.size_extract,yF b]
theorem bV (a b:ByteArray):(a++b).size=a.size+b.size:=ByteArray.size_append
theorem jw (s:ByteArray)(k:Nat)(h:k<s.size):s.data.toList.take (k+1)=s.data.toList.take k++ [s[k]]:=by
 rw[yn (by simpa using h)];rfl
theorem drop_cons (s:ByteArray)(k:Nat)(h:k<s.size):s.data.toList.drop k=s[k]::s.data.toList.drop (k+1):=by
 rw[xC (by simpa using h)];rfl
theorem length_take (s:ByteArray)(k:Nat)(h:k<=s.size):(s.data.toList.take k).length=k:=by
 rw[zQ,yF (by simpa using h)]
theorem cQ (s:ByteArray):s.data.toList.take s.size=s.data.toList:=zw (by simp)
theorem iA (s:ByteArray)(k:Nat)(h:k<s.size):s.data.toList[k]?=some s[k]:=by
 rw[zr (by simpa using h)];rfl
theorem Lx (s:ByteArray):s.extract 0 s.size=s:=aE (by rw[aq,cQ];simp)
theorem DD (s:ByteArray)(i a b:Nat)(c:i+b<=s.size):(s.extract i s.size).extract a b=s.extract (i+a) (i+b):=by
 apply aE;rw[aq,aq,aq,cQ,List.take_drop,xx]
theorem fZ (t:ByteArray):(t.size=0/\t=⟨#[]⟩)\/(t.size≠0/\t.toList.isEmpty=false/\(!t.toList.isEmpty)=true):=by
 by_cases h:t.size=0
 ·exact .inl ⟨h,aE (zk (by simpa using h))⟩
 refine .inr ⟨h, ?_, ?_⟩<;>rw[ByteArray.toList_eq]<;>cases h2:t.data.toList with
 |nil=>exact absurd (by rw[<-aa,h2];rfl) h
 |cons a b=>rfl
theorem eR (e:Int):(e=0/\(e==0)=true/\(e !=0)=false)\/(e≠0/\(e==0)=false/\(e !=0)=true):=by
 by_cases h:e=0
 ·exact .inl ⟨h,by simp[h],by simp[h]⟩
 exact .inr ⟨h,by simp[h],by simp[h]⟩
theorem qo (a b:ByteArray):(a=b/\(a.toList==b.toList)=true/\(a.toList !=b.toList)=false)\/(a≠b/\(a.toList==b.toList)=false/\(a.toList !=b.toList)=true):=by
 by_cases h:a=b
 ·subst h;exact .inl ⟨rfl,by simp,by simp⟩
 have c:a.toList≠b.toList:=by
  intro e;rw[ByteArray.toList_eq,ByteArray.toList_eq]at e;exact h (aE e)
 exact .inr ⟨h,by simp[c],by simp[c]⟩
abbrev Nx (α:Type):=ByteArray->Int×α×Nat×Nat
structure mT {α:Type}(nx:Nx α):Prop where
 pos:∀s,(nx s).1=0->0<(nx s).2.2.1/\(nx s).2.2.1<=s.size
 ext:∀s t,(nx s).1≠2->nx (s++t)=nx s
 short:∀s,(nx s).1=2->(nx s).2.2.2=0
abbrev Xp (α:Type):=List α×ByteArray×Nat×Int
def Xp.cons {α:Type}(x:α)(m:Nat)(r:Xp α):Xp α:=(x::r.1,r.2.1,m+r.2.2.1,r.2.2.2)
def Xq {α:Type}(nx:Nx α):Nat->ByteArray->Xp α
 |0,s=>([],s,0,0)
 |f+1,s=>if(nx s).1=0 then(Xq nx f (s.extract (nx s).2.2.1 s.size)).cons (nx s).2.1 (nx s).2.2.2 else([],s,(nx s).2.2.2,if(nx s).1=2 then 0 else(nx s).1)
def split {α:Type}(nx:Nx α)(s:ByteArray):Xp α:=Xq nx (s.size+1) s
theorem oo (s:ByteArray)(n:Nat)(h:0<n)(b:n<=s.size):(s.extract n s.size).size<s.size:=by rw[ar _ _ _ (ze _)];omega
theorem FE {c:Nx i}(h:mT c):∀(f g:Nat) (s:ByteArray),s.size<f->s.size<g->Xq c f s=Xq c g s
 |0,_,_,hf,_=>absurd hf (by omega)
 |_,0,_,_,hg=>absurd hg (by omega)
 |f+1,g+1,s,hf,hg=>by
  unfold Xq;by_cases b:(c s).1=0
  ·rw[zg b,zg b];obtain⟨d,e⟩:=h.pos s b;have:=oo s _ d e;rw[FE h f g _ (by omega) (by omega)]
  rw[zf b,zf b]
theorem jE {b:Nx i}(h:mT b)(s:ByteArray):split b s=if(b s).1=0 then(split b (s.extract (b s).2.2.1 s.size)).cons (b s).2.1 (b s).2.2.2 else([],s,(b s).2.2.2,if(b s).1=2 then 0 else(b s).1):=by
 rw[split,Xq];by_cases c:(b s).1=0
 ·rw[zg c,zg c];obtain⟨d,e⟩:=h.pos s c;have:=oo s _ d e;rw[split,FE h s.size _ _ (by omega) (Nat.lt_succ_self _)]
 rw[zf c,zf c]
theorem iF {b:Nx d}(h:mT b)(c:(b s).1=0):split b s=(split b (s.extract (b s).2.2.1 s.size)).cons (b s).2.1 (b s).2.2.2:=by rw[jE h s,zg c]
theorem dv {b:Nx d}(h:mT b)(c:(b s).1=2):split b s=([],s,0,0):=by
 rw[jE h s,zf (by omega),zg c,h.short s c]
theorem sr {c:Type}{b:Nx c}(h:mT b)(d:(b s).1≠0)(e:(b s).1≠2):split b s=([],s,(b s).2.2.2,(b s).1):=by
 rw[jE h s,zf d,zf e]
theorem kS {α:Type}{nx:Nx α}(h:mT nx){p:ByteArray->Prop}(stop:∀s,(nx s).1≠0->p s)(go:∀s,(nx s).1=0->p (s.extract (nx s).2.2.1 s.size)->p s)(s:ByteArray):p s:=by
 suffices H:∀n (s:ByteArray),s.size<n->p s from H (s.size+1) s (Nat.lt_succ_self _)
 intro n;induction n with
 |zero=>intro s hs;omega
 |succ n ih=>
  intro s hs;by_cases h0:(nx s).1=0
  ·obtain⟨h1,h2⟩:=h.pos s h0;have:=oo s _ h1 h2;exact go s h0 (ih _ (by omega))
  exact stop s h0
theorem Jf {b:Nx d}(h:mT b)(s:ByteArray):((split b s).2.2.2=0->(b (split b s).2.1).1=2)/\((split b s).2.2.2≠0->(b (split b s).2.1).1=(split b s).2.2.2/\(split b s).2.2.2≠2):=by
 induction s using kS h with
 |stop s h0=>
  by_cases c:(b s).1=2
  ·rw[dv h c];exact⟨fun _=>c,fun h=>absurd rfl h⟩
  rw[sr h h0 c];exact⟨fun h=>absurd h h0,fun _=>⟨rfl,c⟩⟩
 |go s h0 ih=>rw[iF h h0];exact ih
theorem uF {c:Type}{b:Nx c}(h:mT b)(s:ByteArray):∃k,k<=s.size/\(split b s).2.1=s.extract k s.size:=by
 induction s using kS h with
 |stop s h0=>
  refine⟨0,by omega, ?_⟩;rw[Lx,jE h s,zf h0]
 |go s h0 ih=>
  obtain⟨k,d,e⟩:=ih;obtain⟨i,j⟩:=h.pos s h0;have hz:(s.extract (b s).2.2.1 s.size).size=s.size-(b s).2.2.1:=ar _ _ _ (ze _);refine⟨(b s).2.2.1+k,by omega, ?_⟩;rw[iF h h0];show(split b (s.extract (b s).2.2.1 s.size)).2.1=_
  rw[e,hz,DD _ _ _ _ (by omega)];congr 1
  omega
theorem Ly (s t:ByteArray)(n:Nat)(h:n<=s.size):(s++t).extract n (s++t).size=s.extract n s.size++t:=by
 apply aE;rw[aq,aX,aX,aq,bV,cQ];rw[zw (by rw[zh,aa,aa];omega),yy (by rw[aa];exact h)]
theorem pA {e:Type}{b:Nx e}(h:mT b)(s t:ByteArray):
 split b (s++t)=if(split b s).2.2.2=0 then((split b s).1++(split b ((split b s).2.1++t)).1,(split b ((split b s).2.1++t)).2.1,(split b s).2.2.1+(split b ((split b s).2.1++t)).2.2.1,(split b ((split b s).2.1++t)).2.2.2)
  else((split b s).1,(split b s).2.1++t,(split b s).2.2.1,(split b s).2.2.2):=by
 induction s using kS h with
 |stop s h0=>
  by_cases d:(b s).1=2
  ·rw[dv h d];simp
  have c:=h.ext s t d;rw[sr h h0 d,zf h0,sr h (by rw[c];exact h0) (by rw[c];exact d),c]
 |go s h0 ih=>
  obtain⟨i,d⟩:=h.pos s h0;have c:=h.ext s t (by rw[h0];decide);rw[iF h (s:=s++t) (by rw[c];exact h0),iF h h0,c,Ly _ _ _ d,ih];unfold Xp.cons;by_cases hz:(split b (s.extract (b s).2.2.1 s.size)).2.2.2=0
  ·rw[zg hz,zg hz];simp[yd]
  rw[zf hz,zf hz]
theorem lL {b:Nx d}(h:mT b)(s t:ByteArray)(c:(split b s).2.2.2=0):split b (s++t)=((split b s).1++(split b ((split b s).2.1++t)).1,(split b ((split b s).2.1++t)).2.1,(split b s).2.2.1+(split b ((split b s).2.1++t)).2.2.1,(split b ((split b s).2.1++t)).2.2.2):=by
 rw[pA h,zg c]
structure gW where
 buf:ByteArray
 fault:Int
 laid:Nat
 told:Nat
def gW.new :gW:=⟨ByteArray.empty,0,0,0⟩
def kT {α:Type}(nx:Nx α)(x:gW)(s:ByteArray):gW×List α×Int:=
 if x.fault≠0 then({x with laid:=0},[],x.fault)
 else(⟨(split nx (x.buf++s)).2.1,(split nx (x.buf++s)).2.2.2,s.size+(split nx (x.buf++s)).2.2.1,x.told+(split nx (x.buf++s)).1.length⟩,(split nx (x.buf++s)).1,(split nx (x.buf++s)).2.2.2)
theorem jF {c:Type}{b:Nx c}{x:gW}(h:x.fault≠0)(s:ByteArray):kT b x s=({x with laid:=0},[],x.fault):=by unfold kT;rw[zg h]
theorem gA {c:Type}{b:Nx c}{x:gW}(h:x.fault=0)(s:ByteArray):kT b x s=(⟨(split b (x.buf++s)).2.1,(split b (x.buf++s)).2.2.2,s.size+(split b (x.buf++s)).2.2.1,x.told+(split b (x.buf++s)).1.length⟩,(split b (x.buf++s)).1,(split b (x.buf++s)).2.2.2):=by unfold kT;rw[zf (by simp[h])]
structure pB {α:Type}(nx:Nx α)(x:gW)(s:ByteArray)(l:List α):Prop where
 fault:x.fault=0
 err:(split nx s).2.2.2=0
 buf:x.buf=(split nx s).2.1
 told:l=(split nx s).1
theorem pB.new {c:Type}{b:Nx c}(h:mT b)(d:(b ByteArray.empty).1=2):pB b gW.new ByteArray.empty ([]:List c):=by
 have:=dv h d;exact⟨rfl,by rw[this],by rw[this];rfl,by rw[this]⟩
theorem pB.kT {b:Nx d}(h:mT b){x:gW}{l:List d}(hx:pB b x s l)(t:ByteArray):
 (kT b x t).2.2=(split b (s++t)).2.2.2/\l++(kT b x t).2.1=(split b (s++t)).1/\(kT b x t).1.buf=(split b (s++t)).2.1/\((kT b x t).2.2=0->pB b (kT b x t).1 (s++t) (l++(kT b x t).2.1)):=by
 have e:=lL h s t hx.err;rw[gA hx.fault,hx.buf,e,hx.told];refine⟨rfl,rfl,rfl,fun c=>⟨c, ?_, ?_, ?_⟩⟩
 ·rw[e];exact c
 ·rw[e]
 rw[e]
def qp {α:Type}(nx:Nx α)(x:gW):Prop:=x.fault=0->(nx x.buf).1=2
theorem qp.new {b:Nx d}(c:(b ByteArray.empty).1=2):qp b gW.new:=fun _=>c
theorem qp.kT {e:Type}{c:Nx e}(h:mT c)(x:gW)(s:ByteArray):qp c (kT c x s).1:=by
 by_cases b:x.fault=0
 ·rw[gA b];exact(Jf h _).1
 rw[jF b];exact fun d=>absurd d b
def dg :List UInt8->Nat
 | []=>0
 |b::t=>b.toNat+256*dg t
theorem jG (l:List UInt8):dg l<2^(8*l.length):=by
 induction l with
 |nil=>simp[dg]
 |cons b t ih=>
  have:=b.toNat_lt;rw[zx,show 8*(t.length+1)=8+8*t.length from by omega,xY];simp only[dg];omega
theorem Jg (l t:List UInt8):dg (l++t)=dg l+2^(8*l.length)*dg t:=by
 induction l with
 |nil=>simp[dg]
 |cons b r ih=>
  rw[zT,dg,dg,ih,zx,show 8*(r.length+1)=8+8*r.length from by omega,xY,Nat.mul_add,Nat.mul_assoc];omega
theorem QF (l:List UInt8)(b:UInt8):dg (l++ [b])=dg l+b.toNat*2^(8*l.length):=by
 rw[Jg];simp[dg,Zw]
def mL (l:List UInt8):Nat:=dg l.reverse
theorem vN (l:List UInt8)(b:UInt8):mL (l++ [b])=256*mL l+b.toNat:=by
 simp[mL,dg];omega
theorem DE (l:List UInt8):mL l<2^(8*l.length):=by
 have:=jG l.reverse;simpa[mL]using this
theorem Xr (n b i:Nat)(c:n<2^(8*i)):n|||b*2^(8*i)=n+b*2^(8*i):=by
 rw[Nat.or_comm,Zw,<-xo c];omega
theorem le_pow (i:Nat)(hi:i<=8):2^(8*i)<=18446744073709551616:=by
 have:2^(8*i)<=2^64:=yu (by omega) (by omega);simpa using this
theorem le_step (n b i:Nat)(d:b<256)(c:n<2^(8*i)):n+b*2^(8*i)<2^(8*(i+1)):=by
 have h:2^(8*(i+1))=256*2^(8*i):=by rw[show 8*(i+1)=8+8*i from by omega,xY]
 have e:b*2^(8*i)<=255*2^(8*i):=xZ _ (by omega);omega
def cl (s:ByteArray):Nat->Nat->Nat->Nat×Nat×Int
 |0,_,_=>(0,0,2)
 |f+1,i,n=>if h:i<s.size then
  if(i=9/\1<s[i].toNat)\/(0<i/\s[i].toNat=0)then(0,0,3)
  else if s[i].toNat<128 then(n+s[i].toNat%128*2^(7*i),i+1,0)
  else cl s f (i+1) (n+s[i].toNat%128*2^(7*i))
  else(0,0,2)
def ay (s:ByteArray):Nat×Nat×Int:=cl s 10 0 0
theorem jx (s:ByteArray)(f i n:Nat)(h:¬i<s.size):cl s f i n=(0,0,2):=by
 cases f<;>simp[cl,h]
theorem oq (s:ByteArray)(f i n:Nat)(h:i<s.size)(b:(i=9/\1<s[i].toNat)\/(0<i/\s[i].toNat=0)):cl s (f+1) i n=(0,0,3):=by
 rw[cl,Ys h,zg b]
theorem jH (s:ByteArray)(f i n:Nat)(h:i<s.size)(c:¬((i=9/\1<s[i].toNat)\/(0<i/\s[i].toNat=0)))(b:s[i].toNat<128):
 cl s (f+1) i n=(n+s[i].toNat%128*2^(7*i),i+1,0):=by
 rw[cl,Ys h,zf c,zg b]
theorem jI (s:ByteArray)(f i n:Nat)(h:i<s.size)(c:¬((i=9/\1<s[i].toNat)\/(0<i/\s[i].toNat=0)))(b:¬s[i].toNat<128):
 cl s (f+1) i n=cl s f (i+1) (n+s[i].toNat%128*2^(7*i)):=by
 rw[cl,Ys h,zf c,zf b]
theorem vO (n b i:Nat)(d:n<2^(7*i)):n+b%128*2^(7*i)<2^(7*(i+1)):=by
 have c:b%128<=127:=by omega
 have h:2^(7*(i+1))=128*2^(7*i):=by rw[show 7*(i+1)=7+7*i from by omega,xY]
 have e:b%128*2^(7*i)<=127*2^(7*i):=xZ _ c;omega
theorem Lz (i:Nat)(hi:i<=9):2^(7*i)<=9223372036854775808:=by
 have:2^(7*i)<=2^63:=yu (by omega) (by omega);simpa using this
theorem FF (n b i:Nat)(hi:i<=9)(c:n<2^(7*i))(j:¬((i=9/\1<b)\/(0<i/\b=0))):n+b%128*2^(7*i)<18446744073709551616:=by
 rcases xp i 9 with h|h
 ·have e:=vO n b i c;have d:=Lz (i+1) (by omega);omega
 obtain rfl:i=9:=by omega
 have d:b%128<=1:=by omega
 omega
theorem Y9 (n b i:Nat)(c:n<2^(7*i)):n|||(b%128)*2^(7*i)=n+b%128*2^(7*i):=by
 rw[Nat.or_comm,Zw,<-xo c];omega
theorem QG (s:ByteArray)(f i n:Nat)(hi:i+f=10)(d:n<2^(7*i))(h:(cl s f i n).2.2=0):
 i<(cl s f i n).2.1/\(cl s f i n).2.1<=10/\(cl s f i n).2.1<=s.size/\(cl s f i n).1<18446744073709551616:=by
 induction f generalizing i n with
 |zero=>simp[cl]at h
 |succ f ih=>
  by_cases b:i<s.size
  ·by_cases c:(i=9/\1<s[i].toNat)\/(0<i/\s[i].toNat=0)
   ·rw[oq s f i n b c]at h;simp at h
   by_cases e:s[i].toNat<128
   ·rw[jH s f i n b c e];exact⟨by simp,by simp;omega,by simp;omega,FF n _ i (by omega) d c⟩
   rw[jI s f i n b c e]at h⊢;have:=ih (i+1) _ (by omega) (vO n _ i d) h;omega
  rw[jx s _ i n b]at h;simp at h
theorem ig (s:ByteArray)(h:(ay s).2.2=0):0<(ay s).2.1/\(ay s).2.1<=10/\(ay s).2.1<=s.size/\(ay s).1<18446744073709551616:=
 QG s 10 0 0 rfl (by simp) h
theorem NI (s:ByteArray)(f i n:Nat)(h:(cl s f i n).2.2≠0):(cl s f i n).1=0/\(cl s f i n).2.1=0/\((cl s f i n).2.2=2\/(cl s f i n).2.2=3):=by
 induction f generalizing i n with
 |zero=>simp[cl]
 |succ f ih=>
  by_cases b:i<s.size
  ·by_cases c:(i=9/\1<s[i].toNat)\/(0<i/\s[i].toNat=0)
   ·rw[oq s f i n b c];simp
   by_cases d:s[i].toNat<128
   ·rw[jH s f i n b c d]at h;simp at h
   rw[jI s f i n b c d]at h⊢;exact ih _ _ h
  rw[jx s _ i n b];simp
def vj (out:List UInt8)(back:Nat):Nat->List UInt8
 |0=>out
 |n+1=>vj (out++ [out.getD (out.length-back) 0]) back n
theorem vP (out:List UInt8)(b n:Nat):(vj out b n).length=out.length+n:=by
 induction n generalizing out with
 |zero=>rfl
 |succ n ih=>rw[vj,ih];simp;omega
theorem LA (out:List UInt8)(b m n:Nat):vj out b (m+n)=vj (vj out b m) b n:=by
 induction m generalizing out with
 |zero=>simp[vj]
 |succ m ih=>rw[show m+1+n=(m+n)+1 from by omega,vj,vj,ih]
theorem FG (out:List UInt8)(b n:Nat):vj out b (n+1)=vj out b n++ [(vj out b n).getD ((vj out b n).length-b) 0]:=by
 rw[LA];rfl
theorem NJ (out:List UInt8)(b m:Nat)(d:m<=b)(e:b<=out.length):vj out b m=out++(out.drop (out.length-b)).take m:=by
 induction m with
 |zero=>simp[vj]
 |succ m ih=>
  rw[FG,ih (by omega)];have c:(out++(out.drop (out.length-b)).take m).length=out.length+m:=by simp;omega
  rw[c,zB];congr 1
  rw[yn (by simp;omega)];congr 1
  rw[zu,xB (by omega),List.getElem_drop,zr (by omega)];simp;congr 1
  omega
def bh (b:Nat):Nat:=if b%4=0 then(if 60<=b/4 then b/4-58 else 1)else if b%4=1 then 2 else if b%4=2 then 3 else 5
theorem Cp (b:Nat)(c:b<256):1<=bh b/\bh b<=5:=by
 unfold bh;split<;>(try split)<;>(try split)<;>omega
def cN (b l:Nat):Nat:=if b%4=0 then(if 60<=b/4 then l+1 else b/4+1)else if b%4=1 then 4+b/4%8 else b/4+1
def kf (b l:Nat):Nat:=if b%4=1 then b/4/8*256+l else l
def iG (s:ByteArray)(k b:Nat):Nat:=dg (s.extract (k+1) (k+bh b)).data.toList
def b8 (s:ByteArray)(size k b:Nat)(out:List UInt8):Int×Nat×List UInt8:=
 if s.size<k+bh b then(2,k,out)
 else if(b%4≠0/\(kf b (iG s k b)=0\/out.length<kf b (iG s k b)))\/size-out.length<cN b (iG s k b)then(3,k,out)
 else if b%4=0 then
  if s.size<k+bh b+cN b (iG s k b)then(2,k,out)
  else(0,k+bh b+cN b (iG s k b),out++(s.extract (k+bh b) (k+bh b+cN b (iG s k b))).data.toList)
 else(0,k+bh b,vj out (kf b (iG s k b)) (cN b (iG s k b)))
def gX (s:ByteArray)(size:Nat):Nat->Nat->List UInt8->Int×List UInt8
 |0,_,_=>(2,[])
 |f+1,k,out=>if h:k<s.size then
  if(b8 s size k s[k].toNat out).1=0 then gX s size f (b8 s size k s[k].toNat out).2.1 (b8 s size k s[k].toNat out).2.2
  else((b8 s size k s[k].toNat out).1,[])
  else if out.length<size then(2,[])else(0,out)
def iZ (s:ByteArray)(size:Nat):Int×List UInt8:=gX s size (s.size+1) 0 []
def aB (s:ByteArray):Nat×Nat×Int:=
 if(ay s).2.2=0 then(if 4294967295<(ay s).1 then(0,0,5)else ay s)else(0,0,(ay s).2.2)
def bc (s:ByteArray)(most:Int):Int×List UInt8:=
 if(aB s).2.2≠0 then((aB s).2.2,[])
 else if most<(aB s).1 then(5,[])
 else iZ (s.extract (aB s).2.1 s.size) (aB s).1
theorem QH {size b:Nat}(j:b<256)(m:k<s.size)(n:out.length<=size)(h:(b8 s size k b out).1=0):
 k<(b8 s size k b out).2.1/\(b8 s size k b out).2.1<=s.size/\(b8 s size k b out).2.2.length<=size:=by
 have l:=Cp b j;unfold b8 at h⊢;split at h<;>rename_i d
 ·simp at h
 split at h<;>rename_i e
 ·simp at h
 split at h<;>rename_i c
 ·split at h<;>rename_i i
  ·simp at h
  rw[zf d,zf e,zg c,zf i];refine⟨by simp;omega,by simp;omega, ?_⟩;rw[zh,aa,ar _ _ _ (by omega)];omega
 rw[zf d,zf e,zf c];refine⟨by simp;omega,by simp;omega, ?_⟩;rw[vP];omega
theorem NK {size:Nat}{x:Int×List UInt8}(b:k<s.size)(hx:gX s size (f+1) k out=x)(h:(b8 s size k s[k].toNat out).1=0):
 gX s size f (b8 s size k s[k].toNat out).2.1 (b8 s size k s[k].toNat out).2.2=x:=by
 rw[<-hx,gX,Ys b,zg h]
theorem QI {size:Nat}{x:Int×List UInt8}(b:k<s.size)(hx:gX s size (f+1) k out=x)(h:(b8 s size k s[k].toNat out).1≠0):
 x=((b8 s size k s[k].toNat out).1,[]):=by
 rw[<-hx,gX,Ys b,zf h]
theorem FH {size:Nat}{x:Int×List UInt8}(b:¬k<s.size)(hx:gX s size (f+1) k out=x):x=if out.length<size then(2,[])else(0,out):=by
 rw[<-hx,gX,dif_neg b]
def iH (x n:Nat):Nat:=x/2^n|||x*2^(32-n)%4294967296
def sg0 (x:Nat):Nat:=iH x 7^^^iH x 18^^^x/2^3
def sg1 (x:Nat):Nat:=iH x 17^^^iH x 19^^^x/2^10
def Sg0 (x:Nat):Nat:=iH x 2^^^iH x 13^^^iH x 22
def Sg1 (x:Nat):Nat:=iH x 6^^^iH x 11^^^iH x 25
def FI (e f g:Nat):Nat:=e&&&f|||(e^^^4294967295)&&&g
def vQ (a b c:Nat):Nat:=a&&&b|||a&&&c|||b&&&c
theorem Y' {n:Nat}:n<4294967296↔n<2^32:=by simp
theorem vl {b:Nat}(c:a<4294967296)(d:b<4294967296):a|||b<4294967296:=by
 rw[Y']at*;exact Nat.or_lt_two_pow c d
theorem eE {b:Nat}(c:a<4294967296):a&&&b<4294967296:=Nat.lt_of_le_of_lt Nat.and_le_left c
theorem dw {b:Nat}(c:a<4294967296)(d:b<4294967296):a^^^b<4294967296:=by
 rw[Y']at*;exact Nat.xor_lt_two_pow c d
theorem mU (n:Nat)(b:a<4294967296):a/2^n<4294967296:=Nat.lt_of_le_of_lt (Nat.div_le_self _ _) b
theorem eo (n:Nat)(h:x<4294967296):iH x n<4294967296:=vl (mU n h) (xj _ (by omega))
theorem aix (h:x<4294967296):sg0 x<4294967296:=dw (dw (eo _ h) (eo _ h)) (mU _ h)
theorem aiy (h:x<4294967296):sg1 x<4294967296:=dw (dw (eo _ h) (eo _ h)) (mU _ h)
theorem aiz (h:x<4294967296):Sg0 x<4294967296:=dw (dw (eo _ h) (eo _ h)) (eo _ h)
theorem aiA (h:x<4294967296):Sg1 x<4294967296:=dw (dw (eo _ h) (eo _ h)) (eo _ h)
theorem ahi {g:Nat}(b:e<4294967296):FI e f g<4294967296:=vl (eE b) (eE (dw b (by omega)))
theorem aed {b c:Nat}(d:a<4294967296)(e:b<4294967296):vQ a b c<4294967296:=vl (vl (eE d) (eE d)) (eE e)
theorem QJ (e f g:Nat)(c:e<4294967296):e&&&f^^^(e^^^4294967295)&&&g=FI e f g:=by
 apply Nat.eq_of_testBit_eq;intro i;have h:Nat.testBit 4294967295 i=decide (i<32):=by
  have:=Nat.testBit_two_pow_sub_one 32 i;simpa using this
 unfold FI;simp only[Nat.testBit_xor,Nat.testBit_and,Nat.testBit_or,h];by_cases hi:i<32
 ·simp only[hi,decide_true];cases Nat.testBit e i<;>cases Nat.testBit f i<;>cases Nat.testBit g i<;>rfl
 have b:Nat.testBit e i=false:=Nat.testBit_lt_two_pow (zJ (Y'.1 c) (yu (by omega) (by omega)));simp[hi,b]
theorem NL (a b c:Nat):(a&&&b^^^a&&&c)^^^b&&&c=vQ a b c:=by
 apply Nat.eq_of_testBit_eq;intro i;unfold vQ;simp only[Nat.testBit_xor,Nat.testBit_and,Nat.testBit_or];cases Nat.testBit a i<;>cases Nat.testBit b i<;>cases Nat.testBit c i<;>rfl
def mV (s:ByteArray)(i:Nat):Nat:=(s.data.toList.getD (4*i) 0).toNat*16777216+(s.data.toList.getD (4*i+1) 0).toNat*65536+(s.data.toList.getD (4*i+2) 0).toNat*256+(s.data.toList.getD (4*i+3) 0).toNat
theorem Cq (s:ByteArray)(i:Nat):mV s i<4294967296:=by
 have c:=(s.data.toList.getD (4*i) 0).toNat_lt;have e:=(s.data.toList.getD (4*i+1) 0).toNat_lt;have d:=(s.data.toList.getD (4*i+2) 0).toNat_lt;have b:=(s.data.toList.getD (4*i+3) 0).toNat_lt;unfold mV;omega
def Cr (s:ByteArray)(l:List Nat)(i:Nat):Nat:=
 if i<16 then mV s i else(l.getD (i-16) 0+sg0 (l.getD (i-15) 0)+l.getD (i-7) 0+sg1 (l.getD (i-2) 0))%4294967296
def sched (s:ByteArray):Nat->List Nat
 |0=> []
 |i+1=>sched s i++ [Cr s (sched s i) i]
theorem jk (s:ByteArray)(i:Nat):(sched s i).length=i:=by
 induction i with
 |zero=>rfl
 |succ i ih=>simp[sched,ih]
theorem QK (s:ByteArray)(l:List Nat)(i:Nat):Cr s l i<4294967296:=by
 unfold Cr;split
 ·exact Cq s i
 exact xj _ (by omega)
theorem dO (s:ByteArray)(i j:Nat)(h:j<i):(sched s i).getD j 0=Cr s (sched s j) j:=by
 induction i with
 |zero=>omega
 |succ i ih=>
  rw[sched,zu];by_cases b:j<i
  ·rw[xB (by rw[jk];exact b),<-zu];exact ih b
  obtain rfl:j=i:=by omega
  rw[yg (by rw[jk];exact ze _),jk,Zf];rfl
theorem QL (s:ByteArray)(i j:Nat):(sched s i).getD j 0<4294967296:=by
 by_cases h:j<i
 ·rw[dO s i j h];exact QK _ _ _
 rw[zu,yZ (by rw[jk];omega)];simp
def mD (s:ByteArray)(i:Nat):Nat:=(sched s 64).getD i 0
theorem QM (s:ByteArray)(i:Nat):mD s i<4294967296:=QL s 64 i
theorem Cs (s:ByteArray)(i:Nat)(h:i<16):mD s i=mV s i:=by
 unfold mD;rw[dO s 64 i (by omega),Cr,zg h]
theorem U0 (s:ByteArray)(i:Nat)(h:16<=i)(b:i<64):mD s i=(mD s (i-16)+sg0 (mD s (i-15))+mD s (i-7)+sg1 (mD s (i-2)))%4294967296:=by
 unfold mD;rw[dO s 64 i b,Cr,zf (by omega),dO s 64 (i-16) (by omega),dO s 64 (i-15) (by omega),dO s 64 (i-7) (by omega),dO s 64 (i-2) (by omega),
  dO s i (i-16) (by omega),dO s i (i-15) (by omega),dO s i (i-7) (by omega),dO s i (i-2) (by omega)]
structure Sh where
 a:Nat
 b:Nat
 c:Nat
 d:Nat
 e:Nat
 f:Nat
 g:Nat
 h:Nat
structure Sh.ok (s:Sh):Prop where
 a:s.a<4294967296
 b:s.b<4294967296
 c:s.c<4294967296
 d:s.d<4294967296
 e:s.e<4294967296
 f:s.f<4294967296
 g:s.g<4294967296
 h:s.h<4294967296
def shP (k w:Nat)(s:Sh):Nat:=(s.h+Sg1 s.e+k+w+FI s.e s.f s.g)%4294967296
def shQ (s:Sh):Nat:=(Sg0 s.a+vQ s.a s.b s.c)%4294967296
def DF (k w:Nat)(s:Sh):Sh:=⟨(shP k w s+shQ s)%4294967296,s.a,s.b,s.c,(s.d+shP k w s)%4294967296,s.e,s.f,s.g⟩
theorem NM (k w:Nat){s:Sh}(h:s.ok):(DF k w s).ok:=⟨xj _ (by omega),h.a,h.b,h.c,xj _ (by omega),h.e,h.f,h.g⟩
def fJ (K:List Nat)(blk:ByteArray):Nat->Sh->Sh
 |0,s=>s
 |i+1,s=>DF (K.getD i 0) (mD blk i) (fJ K blk i s)
theorem ts (K:List Nat)(blk:ByteArray)(i:Nat){s:Sh}(h:s.ok):(fJ K blk i s).ok:=by
 induction i with
 |zero=>exact h
 |succ i ih=>exact NM _ _ ih
def Xs (s t:Sh):Sh:=⟨(s.a+t.a)%4294967296,(s.b+t.b)%4294967296,(s.c+t.c)%4294967296,(s.d+t.d)%4294967296,(s.e+t.e)%4294967296,(s.f+t.f)%4294967296,(s.g+t.g)%4294967296,(s.h+t.h)%4294967296⟩
def qq (K:List Nat)(s:Sh)(blk:ByteArray):Sh:=Xs s (fJ K blk 64 s)
theorem QN (K:List Nat)(s:Sh)(blk:ByteArray):(qq K s blk).ok:=⟨xj _ (by omega),xj _ (by omega),xj _ (by omega),xj _ (by omega),xj _ (by omega),xj _ (by omega),xj _ (by omega),xj _ (by omega)⟩
def eT (blk:ByteArray)(k j:Nat):Nat:=if j<k then mD blk (j+16*((k-1-j)/16))else 0
theorem kg (blk:ByteArray)(k d:Nat)(h:16<=k)(hd:d<16):eT blk k ((k+d)%16)=mD blk (k-16+d):=by
 unfold eT;rw[zg (by omega),show(k+d)%16+16*((k-1-(k+d)%16)/16)=k-16+d from by omega]
theorem vR (blk:ByteArray)(k:Nat):eT blk (k+1) (k%16)=mD blk k:=by
 unfold eT;rw[zg (by omega),show k%16+16*((k+1-1-k%16)/16)=k from by omega]
theorem DG (blk:ByteArray)(k j:Nat)(b:j<16)(c:j≠k%16):eT blk (k+1) j=eT blk k j:=by
 unfold eT;by_cases h:j<k
 ·rw[zg (by omega),zg h,show(k+1-1-j)/16=(k-1-j)/16 from by omega]
 rw[zf (by omega),zf h]
def FJ (p d:Nat):Nat->Nat->Nat
 |0,x=>x
 |n+1,x=>FJ p d n (if(x+2^n)^d/65536^(2*d)<p then x+2^n else x)
def aee (p d:Nat):Nat:=FJ p d 36 0%4294967296
def aef (p n:Nat):Bool:=(List.range n).all fun d=>decide (d<2)||decide (0<p%d)
def vS :Nat->List Nat
 |0=> []
 |p+1=>if 2<=p/\aef p p=true then vS p++ [p]else vS p
def NN :List Nat:=vS 312
def vT :List Nat:=NN.map (aee · 3)
def Jh :List Nat:= [0x428a2f98,0x71374491,0xb5c0fbcf,0xe9b5dba5,0x3956c25b,0x59f111f1,0x923f82a4,0xab1c5ed5,0xd807aa98,0x12835b01,0x243185be,0x550c7dc3,0x72be5d74,0x80deb1fe,0x9bdc06a7,0xc19bf174,
 0xe49b69c1,0xefbe4786,0x0fc19dc6,0x240ca1cc,0x2de92c6f,0x4a7484aa,0x5cb0a9dc,0x76f988da,0x983e5152,0xa831c66d,0xb00327c8,0xbf597fc7,0xc6e00bf3,0xd5a79147,0x06ca6351,0x14292967,
 0x27b70a85,0x2e1b2138,0x4d2c6dfc,0x53380d13,0x650a7354,0x766a0abb,0x81c2c92e,0x92722c85,0xa2bfe8a1,0xa81a664b,0xc24b8b70,0xc76c51a3,0xd192e819,0xd6990624,0xf40e3585,0x106aa070,
 0x19a4c116,0x1e376c08,0x2748774c,0x34b0bcb5,0x391c0cb3,0x4ed8aa4a,0x5b9cca4f,0x682e6ff3,0x748f82ee,0x78a5636f,0x84c87814,0x8cc70208,0x90befffa,0xa4506ceb,0xbef9a3f7,0xc67178f2]
theorem DH :vT=Jh:=by decide+kernel
def fz (v:Sh)(s:ByteArray):Nat->Sh
 |0=>v
 |i+1=>qq vT (fz v s i) (s.extract (64*i) (64*i+64))
theorem FK {v:Sh}(h:v.ok)(s:ByteArray):∀i,(fz v s i).ok
 |0=>h
 |i+1=>QN _ _ _
theorem DI (s p:ByteArray)(a b:Nat)(h:b<=s.size):(s++p).extract a b=s.extract a b:=by
 apply aE;rw[aq,aq,aX,zS (by simpa using h)]
theorem vU (v:Sh)(s p:ByteArray):∀i,64*i<=s.size->fz v (s++p) i=fz v s i
 |0,_=>rfl
 |i+1,h=>by
  rw[fz,fz,vU v s p i (by omega),DI s p _ _ (by omega)]
theorem Ct (v:Sh)(t:ByteArray)(a:Nat):∀b,64*(a+b)<=t.size->fz v t (a+b)=fz (fz v t a) (t.extract (64*a) t.size) b
 |0,_=>rfl
 |b+1,h=>by
  rw[<-yd,fz,fz,Ct v t a b (by omega),DD t _ _ _ (by omega)];rw[show 64*a+64*b=64*(a+b)from by omega,show 64*a+(64*b+64)=64*(a+b)+64 from by omega]
def dP (n:Nat):Nat:=(64-(n+9)%64)%64
def fD (m:Nat):List UInt8:=(List.range 8).map fun j=>UInt8.ofNat (m/2^(56-8*j))
theorem iB (m:Nat):(fD m).length=8:=by simp[fD]
theorem FL (m i:Nat)(h:i<8):(fD m).take (i+1)=(fD m).take i++ [UInt8.ofNat (m/2^(56-8*i))]:=by
 rw[yn (by rw[iB];exact h)];congr 2
 simp[fD]
def Ji (n:Nat):List UInt8:=128::List.replicate (dP n) 0++fD (n*8)
def iI (n:Nat):ByteArray:=⟨(Ji n).toArray⟩
theorem BE (n:Nat):(Ji n).length=dP n+9:=by simp[Ji,iB]
theorem pC (n:Nat):(iI n).size=dP n+9:=by rw[iI,bJ,BE]
theorem tt (n:Nat):dP n<64:=xj _ (by omega)
theorem qs (n:Nat):(n+(dP n+9))%64=0:=by unfold dP;omega
def Fg :Sh:=⟨0x6a09e667,0xbb67ae85,0x3c6ef372,0xa54ff53a,0x510e527f,0x9b05688c,0x1f83d9ab,0x5be0cd19⟩
theorem Z' :Fg.ok:=⟨by decide,by decide,by decide,by decide,by decide,by decide,by decide,by decide⟩
def wB (x:Nat):List UInt8:= [UInt8.ofNat (x/16777216),UInt8.ofNat (x/65536),UInt8.ofNat (x/256),UInt8.ofNat x]
def Sh.list (v:Sh):List Nat:= [v.a,v.b,v.c,v.d,v.e,v.f,v.g,v.h]
def FM (v:Sh):List UInt8:=(v.list.map wB).flatten
def Jj (n:Nat)(v:Sh):List UInt8:=((v.list.take n).map wB).flatten
theorem Cu (v:Sh)(i:Nat)(h:i<8):Jj (i+1) v=Jj i v++wB (v.list.getD i 0):=by
 unfold Jj;have b:i<v.list.length:=h;rw[yn b,YF,List.flatten_append,zu,zr b];simp
theorem aaa (v:Sh):Jj 8 v=FM v:=rfl
theorem tu (v:Sh)(i:Nat)(h:i<=8):(Jj i v).length=4*i:=by
 induction i with
 |zero=>rfl
 |succ i ih=>rw[Cu v i (by omega),zh,ih (by omega)];simp[wB];omega
theorem DJ (v:Sh):(FM v).length=32:=tu v 8 (ze _)
def Jk (s:ByteArray):Sh:=fz Fg (s++iI s.size) ((s++iI s.size).size/64)
def uG (s:ByteArray):ByteArray:=⟨(FM (Jk s)).toArray⟩
theorem Cv (s:ByteArray):(uG s).size=32:=by rw[uG,bJ,DJ]
theorem Jl (s:ByteArray)(r:ByteArray)(b:r=s.extract (64*(s.size/64)) s.size++iI s.size):Jk s=fz (fz Fg s (s.size/64)) r (r.size/64):=by
 have hz:(s++iI s.size).size=s.size+(dP s.size+9):=by rw[bV,pC]
 have h:=qs s.size;have e:r.size=s.size-64*(s.size/64)+(dP s.size+9):=by rw[b,bV,pC,ar _ _ _ (ze _)]
 have d:r=(s++iI s.size).extract (64*(s.size/64)) (s++iI s.size).size:=by
  rw[b];apply aE;rw[aX,aq,aq,cQ,cQ,aX,yy (by simp;omega)]
 have c:(s++iI s.size).size/64=s.size/64+r.size/64:=by omega
 unfold Jk;rw[c,Ct _ _ _ _ (by omega),<-d,vU _ _ _ _ (by omega)]
def Jm (s:ByteArray):ByteArray:=uG (uG s)
def eU (s:ByteArray):ByteArray:=(Jm s).extract 0 4
theorem Cw (s:ByteArray):(Jm s).size=32:=Cv _
theorem lM (s:ByteArray):(eU s).size=4:=by rw[eU,ar _ _ _ (by rw[Cw];omega)]
def oW (b:Nat):Bool:=decide ((97<=b/\b<=122)\/(48<=b/\b<=57)\/b=95)
def iJ (l:List UInt8):Bool:=l.all fun b=>oW b.toNat
def ca (s:ByteArray):Bool:=iJ s.data.toList&&(decide (1<=s.size)&&decide (s.size<=12))
def eV (s:ByteArray):ByteArray:=⟨(s.data.toList++List.replicate (12-s.size) 0).toArray⟩
def ss (l:List UInt8):List UInt8:=(l.reverse.dropWhile (· ==0)).reverse
def cY (s:ByteArray):ByteArray:=⟨(ss s.data.toList).toArray⟩
def cZ (s:ByteArray):Int×ByteArray:=if s.size=12/\ca (cY s)=true then(0,cY s)else(3,ByteArray.empty)
theorem vV (l:List UInt8)(b:UInt8):iJ (l++ [b])=(iJ l&&oW b.toNat):=by simp[iJ]
theorem BF (l:List UInt8)(k:Nat)(h:iJ (l.take k)=false):iJ l=false:=by
 simp only[iJ,List.all_eq_false]at h⊢;obtain⟨x,hx,b⟩:=h;exact⟨x,List.mem_of_mem_take hx,b⟩
theorem Cx (b:Nat)(c:b<256):(oW b=false/\(b<48\/(57<b/\b<95)\/(95<b/\b<97)\/122<b)/\b≠95)\/(oW b=true/\((48<=b/\b<=57)\/(b=95)\/(97<=b/\b<=122))):=by
 rcases xd (oW b)with h|h
 ·right;refine⟨h, ?_⟩;simp only[oW,zU]at h;omega
 left;refine⟨h, ?_⟩;simp only[oW,yM]at h;omega
theorem dE (h:ca s=true):1<=s.size/\s.size<=12:=by
 simp only[ca,zv,zU]at h;exact h.2
theorem qt (h:s.size<1\/12<s.size):ca s=false:=by
 rcases xd (ca s)with h1|h1
 ·have:=dE h1;omega
 exact h1
theorem QO (b:1<=s.size)(c:s.size<=12):ca s=iJ s.data.toList:=by simp[ca,b,c]
theorem lN (s:ByteArray):(eV s).data.toList=s.data.toList++List.replicate (12-s.size) 0:=by simp[eV]
theorem ij (s:ByteArray)(h:s.size<=12):(eV s).size=12:=by
 rw[<-aa,lN];simp;omega
theorem QP (l:List UInt8)(n:Nat)(h:∀b∈l,b≠0):ss (l++List.replicate n 0)=l:=by
 unfold ss;rw[List.reverse_append,List.reverse_replicate];have c:∀m:Nat,(List.replicate m (0:UInt8)++l.reverse).dropWhile (· ==0)=l.reverse.dropWhile (· ==0):=by
  intro m;induction m with
  |zero=>simp
  |succ m ih=>simp[Z0,ih]
 rw[c];have d:l.reverse.dropWhile (· ==0)=l.reverse:=by
  cases hl:l.reverse with
  |nil=>simp
  |cons x xs=>
   have hx:x∈l:=by rw[<-List.mem_reverse,hl];simp
   have:=h x hx;simp[this]
 rw[d,List.reverse_reverse]
theorem Cy (l:List UInt8):∃n,l=ss l++List.replicate n 0:=by
 unfold ss;have h:∀m:List UInt8,∃n,m=List.replicate n 0++m.dropWhile (· ==0):=by
  intro m;induction m with
  |nil=>exact⟨0,by simp⟩
  |cons x xs ih=>
   by_cases hx:x=0
   ·obtain⟨n,b⟩:=ih;refine⟨n+1, ?_⟩;subst hx;simp only[Z0,zT];rw[List.dropWhile_cons];simp only[beq_self_eq_true,xM];rw[<-b]
   exact⟨0,by simp[hx]⟩
 obtain⟨n,b⟩:=h l.reverse;refine⟨n, ?_⟩;have:=yi List.reverse b;rw[List.reverse_reverse,List.reverse_append,List.reverse_replicate]at this;exact this
theorem U1 (s:ByteArray)(h:ca s=true):∀b∈s.data.toList,b≠0:=by
 intro b c d;simp only[ca,zv,iJ,Zh]at h;have:=h.1 b c;subst d;simp[oW]at this
theorem NO (s:ByteArray)(h:ca s=true):cY (eV s)=s:=by
 apply aE;simp only[cY];rw[lN,QP _ _ (U1 s h)]
theorem Cz (s:ByteArray)(h:ca s=true):cZ (eV s)=(0,s):=by
 have b:=ij s (dE h).2;simp[cZ,b,NO s h,h]
theorem FN (s:ByteArray)(h:s.size≠12):cZ s=(3,ByteArray.empty):=by simp[cZ,h]
theorem NP (s t:ByteArray)(h:cZ s=(0,t)):eV t=s/\ca t=true:=by
 unfold cZ at h;split at h
 ·rename_i d
  injection h with _ ht;subst ht;refine⟨?_,d.2⟩;apply aE;obtain⟨n,b⟩:=Cy s.data.toList;rw[lN];have hz:(cY s).size=(ss s.data.toList).length:=by rw[cY,bJ]
  have e:(cY s).data.toList=ss s.data.toList:=by simp[cY]
  have c:=yi List.length b;simp only[zh,xA,aa]at c;rw[hz,e,show 12-(ss s.data.toList).length=n from by omega,<-b]
 injection h with h _;omega
theorem tv (s:ByteArray):cZ s=(3,ByteArray.empty)\/∃t,cZ s=(0,t):=by
 unfold cZ;split
 ·exact .inr ⟨_,rfl⟩
 exact .inl rfl
structure aF where
 fm:Int
 mg:Nat
 fr:Int
 un:Int
 de:Int
 it:Int
structure Fr where
 id:Nat
 nm:ByteArray
 body:ByteArray
def oR :Fr:=⟨0,ByteArray.empty,ByteArray.empty⟩
def aF.right (c:aF):Bool:=decide (1<=c.fm)&&(decide (c.fm<=3)&&(decide (1<=c.fr)&&(decide (c.fr<=65536)&&(decide (1<=c.un)&&(decide (c.un<=65536)&&(decide (1<=c.de)&&(decide (c.de<=16)&&(decide (1<=c.it)&&decide (c.it<=1024)))))))))
theorem aF.ik (c:aF):c.right=true↔1<=c.fm/\c.fm<=3/\1<=c.fr/\c.fr<=65536/\1<=c.un/\c.un<=65536/\1<=c.de/\c.de<=16/\1<=c.it/\c.it<=1024:=by
 simp only[aF.right,zv,zU]
inductive It where
 |mk:ByteArray->Bool->List It->It
def It.text :It->ByteArray| .mk t _ _=>t
def It.list :It->Bool| .mk _ l _=>l
def It.sub :It->List It| .mk _ _ s=>s
@[simp] theorem It.vm (t:ByteArray)(l:Bool)(s:List It):(It.mk t l s).text=t:=rfl
@[simp] theorem It.vn (t:ByteArray)(l:Bool)(s:List It):(It.mk t l s).list=l:=rfl
@[simp] theorem It.gK (t:ByteArray)(l:Bool)(s:List It):(It.mk t l s).sub=s:=rfl
mutual
def It.count :It->Nat
 | .mk _ _ s=>1+aC s
def aC :List It->Nat
 | []=>0
 |x::xs=>x.count+aC xs
end
mutual
def It.deep :It->Nat
 | .mk _ _ s=>cK s+1
def cK :List It->Nat
 | []=>0
 |x::xs=>max x.deep (cK xs)
end
def formed (t:ByteArray)(l:Bool)(n:Nat):Bool:=if l then decide (t.size=0)else decide (n=0)
mutual
def It.right :It->Bool
 | .mk t l s=>formed t l s.length&&dj s
def dj :List It->Bool
 | []=>true
 |x::xs=>x.right&&dj xs
end
def It.may (x:It):Bool:=x.right&&decide (x.deep<=16)&&decide (x.count<=1024)
theorem It.ind {P:It->Prop}(h:∀t l s,(∀x∈s,P x)->P (.mk t l s)):∀x,P x:=by
 intro x;exact It.rec (motive_1:=P) (motive_2:=fun s=>∀x∈s,P x) (fun t l s ih=>h t l s ih) (by simp) (fun x xs hx Ir=>by
  intro y hy;rcases yj.1 hy with rfl|hy
  ·exact hx
  exact Ir y hy) x
theorem oX (a b:List It):aC (a++b)=aC a+aC b:=by
 induction a with
 |nil=>simp[aC]
 |cons x xs ih=>simp[aC,ih,yd]
theorem su (x:It):1<=x.count:=by cases x;simp[It.count]
theorem sw (s:List It):s.length<=aC s:=by
 induction s with
 |nil=>simp[aC]
 |cons x xs ih=>have:=su x;simp[aC];omega
theorem fo (s:List It)(k:Nat)(h:k<s.length):s.take (k+1)=s.take k++ [s[k]]:=yn h
mutual
def It.room :It->Int->Int
 | .mk _ _ s,left=>max (cL s (left-1)) 0
def cL :List It->Int->Int
 | [],left=>left
 |x::xs,left=>if left<=0 then left else cL xs (x.room left)
end
mutual
def It.pD :It->Nat
 | .mk t _ s=>gL s (min t.size 10000)
def gL :List It->Nat->Nat
 | [],n=>n
 |x::xs,n=>gL xs (min (n+x.pD) 10000)
end
theorem qu (a b:List It)(left:Int):cL (a++b) left=cL b (cL a left):=by
 induction a generalizing left with
 |nil=>simp[cL]
 |cons x xs ih=>
  by_cases h:left<=0
  ·simp only[zT,cL,zg h];cases b with
   |nil=>simp[cL]
   |cons y ys=>simp[cL,h]
  simp only[zT,cL,zf h,ih]
theorem DK (a b:List It)(n:Nat):gL (a++b) n=gL b (gL a n):=by
 induction a generalizing n with
 |nil=>simp[gL]
 |cons x xs ih=>simp[gL,ih]
theorem vW (s:List It)(m:Int)(h:m<=0):cL s m=m:=by
 cases s with
 |nil=>rfl
 |cons x xs=>simp[cL,h]
theorem Jn (s:List It)(k:Nat)(h:k<s.length)(left:Int)(b:0<cL (s.take k) left):cL (s.take (k+1)) left=s[k].room (cL (s.take k) left):=by
 rw[fo s k h,qu];simp[cL,show¬cL (s.take k) left<=0 from by omega]
theorem CA (s:List It)(k:Nat)(left:Int)(b:cL (s.take k) left<=0\/s.length<=k):cL s left=cL (s.take k) left:=by
 rcases b with b|b
 ·have c:=qu (s.take k) (s.drop k) left;rw[zE,vW _ _ b]at c;exact c
 rw[zw b]
theorem Jo (s:List It)(k:Nat)(h:k<s.length)(n:Nat):gL (s.take (k+1)) n=min (gL (s.take k) n+s[k].pD) 10000:=by
 rw[fo s k h,DK];simp[gL]
theorem QQ (s:List It)(n:Nat)(h:n<=10000):gL s n<=10000:=by
 induction s generalizing n with
 |nil=>simpa[gL]using h
 |cons x xs ih=>simp only[gL];exact ih _ (by omega)
theorem U2 (x:It):x.pD<=10000:=by
 cases x with
 |mk t l s=>simp only[It.pD];exact QQ s _ (by omega)
theorem FO (s:List It)(b:∀x∈s,∀m:Int,0<m->0<=x.room m/\x.room m<m):∀m:Int,0<=m->0<=cL s m/\cL s m<=m:=by
 induction s with
 |nil=>intro m d;simp only[cL];omega
 |cons x xs Ir=>
  intro m d;by_cases h:m<=0
  ·simp only[cL,zg h];omega
  have c:=b x (by simp) m (by omega);have i:=Ir (fun y e=>b y (by simp[e])) (x.room m) c.1;simp only[cL,zf h];omega
theorem DL (x:It):∀m:Int,0<m->0<=x.room m/\x.room m<m:=by
 induction x using It.ind with
 |h t l s ih=>
  intro m b;have:=FO s ih (m-1) (by omega);simp only[It.room];omega
theorem FP (s:List It)(c:∀x∈s,∀m:Int,0<x.room m->x.room m=m-x.count):∀m:Int,0<cL s m->cL s m=m-aC s:=by
 induction s with
 |nil=>intro m _;simp[cL,aC]
 |cons x xs Ir=>
  intro m b;by_cases h:m<=0
  ·simp only[cL,zg h]at b;omega
  simp only[cL,zf h]at b⊢;have j:=Ir (fun y e=>c y (by simp[e])) (x.room m) b;by_cases d:0<x.room m
  ·have i:=c x (by simp) m d;simp only[aC];omega
  rw[vW _ _ (by omega)]at b;omega
theorem Jp (x:It):∀m:Int,0<x.room m->x.room m=m-x.count:=by
 induction x using It.ind with
 |h t l s ih=>
  intro m b;simp only[It.room,It.count]at b⊢;have:=FP s ih (m-1) (by omega);omega
def It.kU (x:It):Bool:=decide (x.room 1200=0)||decide (6000<x.pD)
theorem tw (x:It)(h:x.kU=false):x.count<1200:=by
 simp only[It.kU,Zd,yM]at h;have b:=DL x 1200 (by omega);have c:=Jp x 1200 (by omega);omega
inductive Ty where
 |mk:Int->Int->List Ty->Int->Ty
def Ty.kind :Ty->Int| .mk k _ _ _=>k
def Ty.size :Ty->Int| .mk _ s _ _=>s
def Ty.sub :Ty->List Ty| .mk _ _ l _=>l
def Ty.tail :Ty->Int| .mk _ _ _ t=>t
@[simp] theorem Ty.LB (k s:Int)(l:List Ty)(t:Int):(Ty.mk k s l t).kind=k:=rfl
@[simp] theorem Ty.ahj (k s:Int)(l:List Ty)(t:Int):(Ty.mk k s l t).size=s:=rfl
@[simp] theorem Ty.gK (k s:Int)(l:List Ty)(t:Int):(Ty.mk k s l t).sub=l:=rfl
@[simp] theorem Ty.DM (k s:Int)(l:List Ty)(t:Int):(Ty.mk k s l t).tail=t:=rfl
mutual
def Ty.count :Ty->Nat
 | .mk _ _ l _=>1+ba l
def ba :List Ty->Nat
 | []=>0
 |x::xs=>x.count+ba xs
end
mutual
def Ty.deep :Ty->Nat
 | .mk _ _ l _=>dH l+1
def dH :List Ty->Nat
 | []=>0
 |x::xs=>max x.deep (dH xs)
end
def fK (k s:Int)(n:Nat)(t:Int):Bool:=
 if k=1 then decide ((s=1\/s=2\/s=4\/s=8)/\n=0/\t=0)
 else if k=2 then decide (1<=s/\s<=65536/\n=0/\t=0)
 else if k=3 then decide (0<=s/\s<=65536/\n=0/\t=0)
 else if k=4 then decide (0<=s/\s<=1024/\n=1/\t=0)
 else if k=5 then decide (s=0/\n<=16/\0<=t/\t<=n)
 else false
mutual
def Ty.right :Ty->Bool
 | .mk k s l t=>fK k s l.length t&&bS l
def bS :List Ty->Bool
 | []=>true
 |x::xs=>x.right&&bS xs
end
def Ty.may (t:Ty):Bool:=decide (t.count<=64)&&decide (t.deep<=8)&&t.right
theorem Ty.ind {P:Ty->Prop}(h:∀k s l t,(∀x∈l,P x)->P (.mk k s l t)):∀x,P x:=by
 intro x;exact Ty.rec (motive_1:=P) (motive_2:=fun s=>∀x∈s,P x) (fun k s l t ih=>h k s l t ih) (by simp) (fun x xs hx Ir=>by
  intro y hy;rcases yj.1 hy with rfl|hy
  ·exact hx
  exact Ir y hy) x
theorem gM (s:List Ty)(k:Nat)(h:k<s.length):s.take (k+1)=s.take k++ [s[k]]:=yn h
theorem fL (a b:List Ty):ba (a++b)=ba a+ba b:=by
 induction a with
 |nil=>simp[ba]
 |cons x xs ih=>simp[ba,ih,yd]
theorem qv (a b:List Ty):dH (a++b)=max (dH a) (dH b):=by
 induction a with
 |nil=>simp[dH]
 |cons x xs ih=>simp only[zT,dH,ih];omega
theorem iC (a b:List Ty):bS (a++b)=(bS a&&bS b):=by
 induction a with
 |nil=>simp[bS]
 |cons x xs ih=>simp[bS,ih,Bool.and_assoc]
theorem Jq (x:Ty):1<=x.count:=by cases x;simp[Ty.count]
theorem FQ (s:List Ty)(k:Nat)(h:k<s.length):ba (s.take (k+1))=ba (s.take k)+s[k].count:=by
 rw[gM s k h,fL];simp[ba]
theorem vX (s:List Ty)(k:Nat):ba (s.take k)<=ba s:=by
 have:=fL (s.take k) (s.drop k);rw[zE]at this;omega
theorem Jr (s:List Ty)(k:Nat)(h:k<s.length):dH (s.take (k+1))=max (dH (s.take k)) s[k].deep:=by
 rw[gM s k h,qv];simp[dH]
theorem BG (s:List Ty)(k:Nat):dH (s.take k)<=dH s:=by
 have:=qv (s.take k) (s.drop k);rw[zE]at this;omega
theorem mW (s:List Ty)(k:Nat)(h:k<s.length):bS (s.take (k+1))=(bS (s.take k)&&s[k].right):=by
 rw[gM s k h,iC];simp[bS]
theorem DN (s:List Ty)(k:Nat)(h:k<s.length)(c:s[k].right=false):bS s=false:=by
 have b:=iC (s.take (k+1)) (s.drop (k+1));rw[zE,mW s k h,c]at b;simpa using b
theorem eK {s:List Ty}(h:bS s=true)(k:Nat)(b:k<s.length):s[k].right=true:=by
 cases hr:s[k].right with
 |true=>rfl
 |false=>rw[DN s k b hr]at h;cases h
theorem QR (s:List Ty)(h:∀x∈s,x.deep<=x.count):dH s<=ba s:=by
 induction s with
 |nil=>simp[dH]
 |cons x xs ih=>
  have c:=h x (by simp);have d:=ih (fun y b=>h y (by simp[b]));simp only[dH,ba];omega
theorem NQ (x:Ty):x.deep<=x.count:=by
 induction x using Ty.ind with
 |h k s l t ih=>simp only[Ty.deep,Ty.count];have:=QR l ih;omega
mutual
def Ty.room :Ty->Int->Int
 | .mk _ _ l _,left=>max (Xt l (left-1)) 0
def Xt :List Ty->Int->Int
 | [],left=>left
 |x::xs,left=>if left<=0 then left else Xt xs (x.room left)
end
def Ty.kU (x:Ty):Bool:=decide (x.room 100=0)
mutual
def Ty.gY :Ty->Nat->Nat->Bool×Nat
 | .mk k s l t,lv,c=>if 8<lv\/c=0\/fK k s l.length t=false then(false,c)else kF l (lv+1) (c-1)
def kF :List Ty->Nat->Nat->Bool×Nat
 | [],_,c=>(true,c)
 |x::xs,lv,c=>match x.gY lv c with
  |(true,c')=>kF xs lv c'
  |(false,c')=>(false,c')
end
theorem tz (a b:List Ty)(d c:Nat):kF (a++b) d c=match kF a d c with
 |(true,e)=>kF b d e
 |(false,e)=>(false,e):=by
 induction a generalizing c with
 |nil=>simp[kF]
 |cons x xs ih=>
  simp only[zT,kF];rcases x.gY d c with⟨r,e⟩
  cases r with
  |true=>simp only[ih]
  |false=>rfl
theorem CB {s:List Ty}{b c:Nat}(h:k<s.length)(i:kF (s.take k) b c=(true,e)):kF (s.take (k+1)) b c=s[k].gY b e:=by
 rw[gM s k h,tz,i];simp only[kF];rcases s[k].gY b e with⟨r,d⟩
 cases r<;>rfl
theorem NR {s:List Ty}{b c d:Nat}(h:k<s.length)(j:kF (s.take k) b c=(true,e))(l:s[k].gY b e=(false,d)):kF s b c=(false,d):=by
 have i:=tz (s.take (k+1)) (s.drop (k+1)) b c;rw[zE,CB h j,l]at i;exact i
def CC (r:Bool×Nat)(rt:Bool)(lv d n c:Nat):Prop:=(r.1=true↔rt=true/\lv+d<=9/\n<=c)/\(r.1=true->r.2+n=c)/\r.2<=c
theorem U3 (s:List Ty)(m:∀x∈s,∀e c,e<=9->CC (x.gY e c) x.right e x.deep x.count c):∀e c,e<=9->CC (kF s e c) (bS s) e (dH s) (ba s) c:=by
 induction s with
 |nil=>intro e c h;simp[CC,kF,bS,dH,ba,h]
 |cons x xs Ir=>
  intro e c k;have i:=m x (by simp) e c k;rcases hv:x.gY e c with⟨r,o⟩
  rw[hv]at i;obtain⟨i,j,l⟩:=i;simp only at i j l;have w:=Jq x;unfold CC;simp only[kF,hv,bS,dH,ba,zv];cases r with
  |true=>
   have j:=j rfl;obtain⟨q,n,z⟩:=Ir (fun y u=>m y (by simp[u])) e o k;have i:=i.1 rfl;refine⟨?_,fun p=>by have:=n p;simp only;omega,by simp only;omega⟩;simp only[q];constructor
   ·rintro⟨a,b,d⟩;exact⟨⟨i.1,a⟩,by omega,by omega⟩
   rintro⟨a,b,d⟩;exact⟨a.2,by omega,by omega⟩
  |false=>
   refine⟨?_,by simp,l⟩;constructor
   ·intro h;cases h
   rintro⟨a,b,d⟩;exact i.2 ⟨a.1,by omega,by omega⟩
theorem FR (x:Ty):∀i c,i<=9->CC (x.gY i c) x.right i x.deep x.count c:=by
 induction x using Ty.ind with
 |h k s l t ih=>
  intro i c p;unfold CC;simp only[Ty.gY,Ty.right,Ty.deep,Ty.count,zv];by_cases e:8<i\/c=0\/fK k s l.length t=false
  ·simp only[zg e];refine⟨?_,by simp,ze _⟩;constructor
   ·intro h;cases h
   rintro⟨⟨a,_⟩,b,d⟩;rcases e with e|e|e
   ·omega
   ·omega
   rw[e]at a;cases a
  simp only[zf e];have n:i<=8/\0<c/\fK k s l.length t=true:=by
   refine⟨by omega,by omega, ?_⟩;cases h:fK k s l.length t with
   |true=>rfl
   |false=>exact absurd (.inr (.inr h)) e
  obtain⟨j,o,q⟩:=U3 l ih (i+1) (c-1) (by omega);refine⟨?_,fun m=>by have:=o m;omega,by omega⟩;rw[j];constructor
  ·rintro⟨a,b,d⟩;exact⟨⟨n.2.2,a⟩,by omega,by omega⟩
  rintro⟨a,b,d⟩;exact⟨a.2,by omega,by omega⟩
theorem NS (x:Ty):(x.gY 1 64).1=x.may:=by
 have h:=(FR x 1 64 (by omega)).1;rw[yP,h];simp only[Ty.may,zv,zU];constructor
 ·rintro⟨a,b,c⟩;exact⟨⟨by omega,by omega⟩,a⟩
 rintro⟨⟨a,b⟩,c⟩;exact⟨c,by omega,by omega⟩
