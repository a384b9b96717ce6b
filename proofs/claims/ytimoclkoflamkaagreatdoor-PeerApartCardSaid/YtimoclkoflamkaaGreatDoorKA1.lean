/- Terms of memory written short: a pair for an address or a pointer, a tuple for a cell's fact, a number for its value. Coercions: what is elaborated is the plain term. Own text; no program in sight. -/
import Derived.WalkKit
set_option linter.all false
namespace Go.Proofs.YtimoclkoflamkaaGreatDoor
open Go.RowKit
variable {s:ByteArray}{d e:Type}{k a x f:Nat}{out:List UInt8}
def zd:=@Nat.le_refl
def zi:=@if_neg
def zj:=@if_pos
def zk:=@List.length_append
def zo:=@List.eq_nil_of_length_eq_zero
def zw:=@List.getD_eq_getElem?_getD
def zx:=@List.take_of_length_le
def zy:=@Bool.and_eq_true
def zz:=@List.length_cons
def zA:=@List.getElem?_eq_getElem
def zC:=@List.append_assoc
def zH:=@List.take_append_drop
def zQ:=@Nat.lt_of_lt_of_le
def zU:=@List.length_take
def zV:=@List.take_append_of_le_length
def zW:=@List.cons_append
def zY:=@decide_eq_true_eq
def yg:=@Nat.add_assoc
def yj:=@List.getElem?_append_right
def yn:=@List.take_succ_eq_append_getElem
def yp:=@congrArg
def yq:=@Nat.pow_le_pow_right
def yw:=@List.drop_append_of_le_length
def yG:=@Nat.min_eq_left
def yI:=@List.mem_cons
def yP:=@Bool.eq_iff_iff
def yV:=@decide_eq_false_iff_not
def y8:=@List.getElem?_eq_none
def xf:=@Bool.eq_false_or_eq_true
def xj:=@Nat.mod_lt
def xo:=@Nat.two_pow_add_eq_or_of_lt
def xp:=@Nat.lt_or_ge
def xw:=@List.drop_drop
def xz:=@List.length_replicate
def xA:=@List.getElem?_append_left
def xB:=@List.drop_eq_getElem_cons
def xL:=@if_true
def xX:=@Nat.pow_add
def Za:=@List.drop_take
def Zd:=@Nat.sub_self
def Zv:=@Nat.mul_comm
def ZH:=@List.all_eq_true
def ZL:=@Bool.or_eq_false_iff
def ZQ:=@List.replicate_succ
def Yg:=@dif_pos
def eS :Unit:=()
def nS :Unit:=()
instance (priority :=high) coA (g i:Nat):CoeT (Nat×Nat) (g,i) Addr:=⟨⟨g,i,none⟩⟩
instance (priority :=high) coP (g i:Nat):CoeT (Nat×Nat) (g,i) Value:=⟨.pointer (some ⟨g,i,none⟩)⟩
instance (priority :=high) coCi (w:World)(g i:Nat)(k:Int):CoeT (World×Nat×Nat×Int) (w,g,i,k) Prop:=⟨w.cell? ⟨g,i,none⟩=some (.int .i64 k)⟩
instance (priority :=high) coCs (w:World)(g i:Nat)(k:ByteArray):CoeT (World×Nat×Nat×ByteArray) (w,g,i,k) Prop:=⟨w.cell? ⟨g,i,none⟩=some (.string k)⟩
instance (priority :=high) coCb (w:World)(g i:Nat)(k:Bool):CoeT (World×Nat×Nat×Bool) (w,g,i,k) Prop:=⟨w.cell? ⟨g,i,none⟩=some (.bool k)⟩
instance (priority :=high) coCv (w:World)(g i:Nat)(k:Value):CoeT (World×Nat×Nat×Value) (w,g,i,k) Prop:=⟨w.cell? ⟨g,i,none⟩=some k⟩
instance (priority :=high) coCn (w:World)(g i:Nat)(k:Nat):CoeT (World×Nat×Nat×Nat) (w,g,i,k) Prop:=⟨w.cell? ⟨g,i,none⟩=some (.int .i64 k)⟩
instance (priority :=high) coCp (w:World)(g i a j:Nat):CoeT (World×Nat×Nat×Nat×Nat) (w,g,i,a,j) Prop:=⟨w.cell? ⟨g,i,none⟩=some (.pointer (some ⟨a,j,none⟩))⟩
instance (priority :=high) coB (w v:World):CoeT (World×World) (w,v) Prop:=⟨Below w.heap.size w v⟩
instance (priority :=high) coI (x:Int):CoeT Int x Value:=⟨.int .i64 x⟩
instance (priority :=high) coN (x:Nat):CoeT Nat x Value:=⟨.int .i64 x⟩
instance (priority :=high) coS (x:ByteArray):CoeT ByteArray x Value:=⟨.string x⟩
instance (priority :=high) coO (x:Bool):CoeT Bool x Value:=⟨.bool x⟩
instance (priority :=high) coE:CoeT Unit eS Value:=⟨.string ⟨#[]⟩⟩
instance (priority :=high) coZ:CoeT Unit nS Value:=⟨.slice none 0 0⟩
theorem aF {a b:ByteArray}(h:a.data.toList=b.data.toList):a=b:=by
 cases a;cases b;simp at h;simpa using h
theorem jv (s:ByteArray):(⟨s.data.toList.toArray⟩:ByteArray)=s:=aF (by simp)
theorem aa (s:ByteArray):s.data.toList.length=s.size:=by simp
theorem bG (l:List UInt8):(⟨l.toArray⟩:ByteArray).size=l.length:=by simp[ByteArray.size]
theorem aW (a b:ByteArray):(a++b).data.toList=a.data.toList++b.data.toList:=by
 rw[ByteArray.data_append];simp
theorem aq (s:ByteArray)(i j:Nat):(s.extract i j).data.toList=(s.data.toList.take j).drop i:=by
 rw[ByteArray.data_extract,Array.toList_extract,List.extract_eq_take_drop,Za]
theorem ar (s:ByteArray)(i j:Nat)(b:j<=s.size):(s.extract i j).size=j-i:=by
 rw[ByteArray.size_extract,yG b]
theorem bT (a b:ByteArray):(a++b).size=a.size+b.size:=ByteArray.size_append
theorem jn (s:ByteArray)(k:Nat)(h:k<s.size):s.data.toList.take (k+1)=s.data.toList.take k++ [s[k]]:=by
 rw[yn (by simpa using h)];rfl
theorem drop_cons (s:ByteArray)(k:Nat)(h:k<s.size):s.data.toList.drop k=s[k]::s.data.toList.drop (k+1):=by
 rw[xB (by simpa using h)];rfl
theorem length_take (s:ByteArray)(k:Nat)(h:k<=s.size):(s.data.toList.take k).length=k:=by
 rw[zU,yG (by simpa using h)]
theorem cP (s:ByteArray):s.data.toList.take s.size=s.data.toList:=zx (by simp)
theorem iu (s:ByteArray)(k:Nat)(h:k<s.size):s.data.toList[k]?=some s[k]:=by
 rw[zA (by simpa using h)];rfl
theorem J5 (s:ByteArray):s.extract 0 s.size=s:=aF (by rw[aq,cP];simp)
theorem CA (s:ByteArray)(i a b:Nat)(c:i+b<=s.size):(s.extract i s.size).extract a b=s.extract (i+a) (i+b):=by
 apply aF;rw[aq,aq,aq,cP,List.take_drop,xw]
theorem fU (t:ByteArray):(t.size=0/\t=⟨#[]⟩)\/(t.size≠0/\t.toList.isEmpty=false/\(!t.toList.isEmpty)=true):=by
 by_cases h:t.size=0
 ·exact .inl ⟨h,aF (zo (by simpa using h))⟩
 refine .inr ⟨h, ?_, ?_⟩<;>rw[ByteArray.toList_eq]<;>cases h2:t.data.toList with
 |nil=>exact absurd (by rw[<-aa,h2];rfl) h
 |cons a b=>rfl
theorem eN (e:Int):(e=0/\(e==0)=true/\(e !=0)=false)\/(e≠0/\(e==0)=false/\(e !=0)=true):=by
 by_cases h:e=0
 ·exact .inl ⟨h,by simp[h],by simp[h]⟩
 exact .inr ⟨h,by simp[h],by simp[h]⟩
theorem pO (a b:ByteArray):(a=b/\(a.toList==b.toList)=true/\(a.toList !=b.toList)=false)\/(a≠b/\(a.toList==b.toList)=false/\(a.toList !=b.toList)=true):=by
 by_cases h:a=b
 ·subst h;exact .inl ⟨rfl,by simp,by simp⟩
 have c:a.toList≠b.toList:=by
  intro e;rw[ByteArray.toList_eq,ByteArray.toList_eq]at e;exact h (aF e)
 exact .inr ⟨h,by simp[c],by simp[c]⟩
abbrev Nx (α:Type):=ByteArray->Int×α×Nat×Nat
structure mG {α:Type}(nx:Nx α):Prop where
 pos:∀s,(nx s).1=0->0<(nx s).2.2.1/\(nx s).2.2.1<=s.size
 ext:∀s t,(nx s).1≠2->nx (s++t)=nx s
 short:∀s,(nx s).1=2->(nx s).2.2.2=0
abbrev Vd (α:Type):=List α×ByteArray×Nat×Int
def Vd.cons {α:Type}(x:α)(m:Nat)(r:Vd α):Vd α:=(x::r.1,r.2.1,m+r.2.2.1,r.2.2.2)
def Ve {α:Type}(nx:Nx α):Nat->ByteArray->Vd α
 |0,s=>([],s,0,0)
 |f+1,s=>if(nx s).1=0 then(Ve nx f (s.extract (nx s).2.2.1 s.size)).cons (nx s).2.1 (nx s).2.2.2 else([],s,(nx s).2.2.2,if(nx s).1=2 then 0 else(nx s).1)
def split {α:Type}(nx:Nx α)(s:ByteArray):Vd α:=Ve nx (s.size+1) s
theorem nL (s:ByteArray)(n:Nat)(h:0<n)(b:n<=s.size):(s.extract n s.size).size<s.size:=by rw[ar _ _ _ (zd _)];omega
theorem En {c:Nx e}(h:mG c):∀(f g:Nat) (s:ByteArray),s.size<f->s.size<g->Ve c f s=Ve c g s
 |0,_,_,hf,_=>absurd hf (by omega)
 |_,0,_,_,hg=>absurd hg (by omega)
 |f+1,g+1,s,hf,hg=>by
  unfold Ve;by_cases b:(c s).1=0
  ·rw[zj b,zj b];obtain⟨i,d⟩:=h.pos s b;have:=nL s _ i d;rw[En h f g _ (by omega) (by omega)]
  rw[zi b,zi b]
theorem jw {b:Nx e}(h:mG b)(s:ByteArray):split b s=if(b s).1=0 then(split b (s.extract (b s).2.2.1 s.size)).cons (b s).2.1 (b s).2.2.2 else([],s,(b s).2.2.2,if(b s).1=2 then 0 else(b s).1):=by
 rw[split,Ve];by_cases c:(b s).1=0
 ·rw[zj c,zj c];obtain⟨i,d⟩:=h.pos s c;have:=nL s _ i d;rw[split,En h s.size _ _ (by omega) (Nat.lt_succ_self _)]
 rw[zi c,zi c]
theorem iC {b:Nx d}(h:mG b)(c:(b s).1=0):split b s=(split b (s.extract (b s).2.2.1 s.size)).cons (b s).2.1 (b s).2.2.2:=by rw[jw h s,zj c]
theorem dm {b:Nx d}(h:mG b)(c:(b s).1=2):split b s=([],s,0,0):=by
 rw[jw h s,zi (by omega),zj c,h.short s c]
theorem ru {b:Nx e}(h:mG b)(d:(b s).1≠0)(c:(b s).1≠2):split b s=([],s,(b s).2.2.2,(b s).1):=by
 rw[jw h s,zi d,zi c]
theorem kJ {α:Type}{nx:Nx α}(h:mG nx){p:ByteArray->Prop}(stop:∀s,(nx s).1≠0->p s)(go:∀s,(nx s).1=0->p (s.extract (nx s).2.2.1 s.size)->p s)(s:ByteArray):p s:=by
 suffices H:∀n (s:ByteArray),s.size<n->p s from H (s.size+1) s (Nat.lt_succ_self _)
 intro n;induction n with
 |zero=>intro s hs;omega
 |succ n ih=>
  intro s hs;by_cases h0:(nx s).1=0
  ·obtain⟨h1,h2⟩:=h.pos s h0;have:=nL s _ h1 h2;exact go s h0 (ih _ (by omega))
  exact stop s h0
theorem Hf {b:Nx d}(h:mG b)(s:ByteArray):((split b s).2.2.2=0->(b (split b s).2.1).1=2)/\((split b s).2.2.2≠0->(b (split b s).2.1).1=(split b s).2.2.2/\(split b s).2.2.2≠2):=by
 induction s using kJ h with
 |stop s h0=>
  by_cases c:(b s).1=2
  ·rw[dm h c];exact⟨fun _=>c,fun h=>absurd rfl h⟩
  rw[ru h h0 c];exact⟨fun h=>absurd h h0,fun _=>⟨rfl,c⟩⟩
 |go s h0 ih=>rw[iC h h0];exact ih
theorem tD {c:Type}{b:Nx c}(h:mG b)(s:ByteArray):∃k,k<=s.size/\(split b s).2.1=s.extract k s.size:=by
 induction s using kJ h with
 |stop s h0=>
  refine⟨0,by omega, ?_⟩;rw[J5,jw h s,zi h0]
 |go s h0 ih=>
  obtain⟨k,i,e⟩:=ih;obtain⟨j,d⟩:=h.pos s h0;have hz:(s.extract (b s).2.2.1 s.size).size=s.size-(b s).2.2.1:=ar _ _ _ (zd _);refine⟨(b s).2.2.1+k,by omega, ?_⟩;rw[iC h h0];show(split b (s.extract (b s).2.2.1 s.size)).2.1=_
  rw[e,hz,CA _ _ _ _ (by omega)];congr 1
  omega
theorem J6 (s t:ByteArray)(n:Nat)(h:n<=s.size):(s++t).extract n (s++t).size=s.extract n s.size++t:=by
 apply aF;rw[aq,aW,aW,aq,bT,cP];rw[zx (by rw[zk,aa,aa];omega),yw (by rw[aa];exact h)]
theorem oV {b:Nx e}(h:mG b)(s t:ByteArray):
 split b (s++t)=if(split b s).2.2.2=0 then((split b s).1++(split b ((split b s).2.1++t)).1,(split b ((split b s).2.1++t)).2.1,(split b s).2.2.1+(split b ((split b s).2.1++t)).2.2.1,(split b ((split b s).2.1++t)).2.2.2)
  else((split b s).1,(split b s).2.1++t,(split b s).2.2.1,(split b s).2.2.2):=by
 induction s using kJ h with
 |stop s h0=>
  by_cases c:(b s).1=2
  ·rw[dm h c];simp
  have d:=h.ext s t c;rw[ru h h0 c,zi h0,ru h (by rw[d];exact h0) (by rw[d];exact c),d]
 |go s h0 ih=>
  obtain⟨i,c⟩:=h.pos s h0;have d:=h.ext s t (by rw[h0];decide);rw[iC h (s:=s++t) (by rw[d];exact h0),iC h h0,d,J6 _ _ _ c,ih];unfold Vd.cons;by_cases hz:(split b (s.extract (b s).2.2.1 s.size)).2.2.2=0
  ·rw[zj hz,zj hz];simp[yg]
  rw[zi hz,zi hz]
theorem lA {b:Nx d}(h:mG b)(s t:ByteArray)(c:(split b s).2.2.2=0):split b (s++t)=((split b s).1++(split b ((split b s).2.1++t)).1,(split b ((split b s).2.1++t)).2.1,(split b s).2.2.1+(split b ((split b s).2.1++t)).2.2.1,(split b ((split b s).2.1++t)).2.2.2):=by
 rw[oV h,zj c]
structure iZ where
 buf:ByteArray
 fault:Int
 laid:Nat
 told:Nat
def iZ.new :iZ:=⟨ByteArray.empty,0,0,0⟩
def kK {α:Type}(nx:Nx α)(x:iZ)(s:ByteArray):iZ×List α×Int:=
 if x.fault≠0 then({x with laid:=0},[],x.fault)
 else(⟨(split nx (x.buf++s)).2.1,(split nx (x.buf++s)).2.2.2,s.size+(split nx (x.buf++s)).2.2.1,x.told+(split nx (x.buf++s)).1.length⟩,(split nx (x.buf++s)).1,(split nx (x.buf++s)).2.2.2)
theorem jx {b:Type}{c:Nx b}{x:iZ}(h:x.fault≠0)(s:ByteArray):kK c x s=({x with laid:=0},[],x.fault):=by unfold kK;rw[zj h]
theorem hZ {c:Type}{b:Nx c}{x:iZ}(h:x.fault=0)(s:ByteArray):kK b x s=(⟨(split b (x.buf++s)).2.1,(split b (x.buf++s)).2.2.2,s.size+(split b (x.buf++s)).2.2.1,x.told+(split b (x.buf++s)).1.length⟩,(split b (x.buf++s)).1,(split b (x.buf++s)).2.2.2):=by unfold kK;rw[zi (by simp[h])]
structure oW {α:Type}(nx:Nx α)(x:iZ)(s:ByteArray)(l:List α):Prop where
 fault:x.fault=0
 err:(split nx s).2.2.2=0
 buf:x.buf=(split nx s).2.1
 told:l=(split nx s).1
theorem oW.new {c:Type}{b:Nx c}(h:mG b)(d:(b ByteArray.empty).1=2):oW b iZ.new ByteArray.empty ([]:List c):=by
 have:=dm h d;exact⟨rfl,by rw[this],by rw[this];rfl,by rw[this]⟩
theorem oW.kK {b:Nx d}(h:mG b){x:iZ}{l:List d}(hx:oW b x s l)(t:ByteArray):
 (kK b x t).2.2=(split b (s++t)).2.2.2/\l++(kK b x t).2.1=(split b (s++t)).1/\(kK b x t).1.buf=(split b (s++t)).2.1/\((kK b x t).2.2=0->oW b (kK b x t).1 (s++t) (l++(kK b x t).2.1)):=by
 have e:=lA h s t hx.err;rw[hZ hx.fault,hx.buf,e,hx.told];refine⟨rfl,rfl,rfl,fun c=>⟨c, ?_, ?_, ?_⟩⟩
 ·rw[e];exact c
 ·rw[e]
 rw[e]
def pP {α:Type}(nx:Nx α)(x:iZ):Prop:=x.fault=0->(nx x.buf).1=2
theorem pP.new {b:Nx d}(c:(b ByteArray.empty).1=2):pP b iZ.new:=fun _=>c
theorem pP.kK {c:Nx d}(h:mG c)(x:iZ)(s:ByteArray):pP c (kK c x s).1:=by
 by_cases b:x.fault=0
 ·rw[hZ b];exact(Hf h _).1
 rw[jx b];exact fun e=>absurd e b
def da :List UInt8->Nat
 | []=>0
 |b::t=>b.toNat+256*da t
theorem jy (l:List UInt8):da l<2^(8*l.length):=by
 induction l with
 |nil=>simp[da]
 |cons b t ih=>
  have:=b.toNat_lt;rw[zz,show 8*(t.length+1)=8+8*t.length from by omega,xX];simp only[da];omega
theorem Hg (l t:List UInt8):da (l++t)=da l+2^(8*l.length)*da t:=by
 induction l with
 |nil=>simp[da]
 |cons b r ih=>
  rw[zW,da,da,ih,zz,show 8*(r.length+1)=8+8*r.length from by omega,xX,Nat.mul_add,Nat.mul_assoc];omega
theorem OE (l:List UInt8)(b:UInt8):da (l++ [b])=da l+b.toNat*2^(8*l.length):=by
 rw[Hg];simp[da,Zv]
def mr (l:List UInt8):Nat:=da l.reverse
theorem uO (l:List UInt8)(b:UInt8):mr (l++ [b])=256*mr l+b.toNat:=by
 simp[mr,da];omega
theorem CB (l:List UInt8):mr l<2^(8*l.length):=by
 have:=jy l.reverse;simpa[mr]using this
theorem Vf (n b i:Nat)(c:n<2^(8*i)):n|||b*2^(8*i)=n+b*2^(8*i):=by
 rw[Nat.or_comm,Zv,<-xo c];omega
theorem le_pow (i:Nat)(hi:i<=8):2^(8*i)<=18446744073709551616:=by
 have:2^(8*i)<=2^64:=yq (by omega) (by omega);simpa using this
theorem le_step (n b i:Nat)(c:b<256)(e:n<2^(8*i)):n+b*2^(8*i)<2^(8*(i+1)):=by
 have d:2^(8*(i+1))=256*2^(8*i):=by rw[show 8*(i+1)=8+8*i from by omega,xX]
 have h:b*2^(8*i)<=255*2^(8*i):=Nat.mul_le_mul_right _ (by omega);omega
def cd (s:ByteArray):Nat->Nat->Nat->Nat×Nat×Int
 |0,_,_=>(0,0,2)
 |f+1,i,n=>if h:i<s.size then
  if(i=9/\1<s[i].toNat)\/(0<i/\s[i].toNat=0)then(0,0,3)
  else if s[i].toNat<128 then(n+s[i].toNat%128*2^(7*i),i+1,0)
  else cd s f (i+1) (n+s[i].toNat%128*2^(7*i))
  else(0,0,2)
def ay (s:ByteArray):Nat×Nat×Int:=cd s 10 0 0
theorem jo (s:ByteArray)(f i n:Nat)(h:¬i<s.size):cd s f i n=(0,0,2):=by
 cases f<;>simp[cd,h]
theorem nM (s:ByteArray)(f i n:Nat)(h:i<s.size)(b:(i=9/\1<s[i].toNat)\/(0<i/\s[i].toNat=0)):cd s (f+1) i n=(0,0,3):=by
 rw[cd,Yg h,zj b]
theorem jz (s:ByteArray)(f i n:Nat)(h:i<s.size)(b:¬((i=9/\1<s[i].toNat)\/(0<i/\s[i].toNat=0)))(c:s[i].toNat<128):
 cd s (f+1) i n=(n+s[i].toNat%128*2^(7*i),i+1,0):=by
 rw[cd,Yg h,zi b,zj c]
theorem jA (s:ByteArray)(f i n:Nat)(h:i<s.size)(b:¬((i=9/\1<s[i].toNat)\/(0<i/\s[i].toNat=0)))(c:¬s[i].toNat<128):
 cd s (f+1) i n=cd s f (i+1) (n+s[i].toNat%128*2^(7*i)):=by
 rw[cd,Yg h,zi b,zi c]
theorem uP (n b i:Nat)(e:n<2^(7*i)):n+b%128*2^(7*i)<2^(7*(i+1)):=by
 have c:b%128<=127:=by omega
 have d:2^(7*(i+1))=128*2^(7*i):=by rw[show 7*(i+1)=7+7*i from by omega,xX]
 have h:b%128*2^(7*i)<=127*2^(7*i):=Nat.mul_le_mul_right _ c;omega
theorem J7 (i:Nat)(hi:i<=9):2^(7*i)<=9223372036854775808:=by
 have:2^(7*i)<=2^63:=yq (by omega) (by omega);simpa using this
theorem Eo (n b i:Nat)(hi:i<=9)(d:n<2^(7*i))(e:¬((i=9/\1<b)\/(0<i/\b=0))):n+b%128*2^(7*i)<18446744073709551616:=by
 rcases xp i 9 with h|h
 ·have j:=uP n b i d;have c:=J7 (i+1) (by omega);omega
 obtain rfl:i=9:=by omega
 have c:b%128<=1:=by omega
 omega
theorem WA (n b i:Nat)(c:n<2^(7*i)):n|||(b%128)*2^(7*i)=n+b%128*2^(7*i):=by
 rw[Nat.or_comm,Zv,<-xo c];omega
theorem OF (s:ByteArray)(f i n:Nat)(hi:i+f=10)(d:n<2^(7*i))(h:(cd s f i n).2.2=0):
 i<(cd s f i n).2.1/\(cd s f i n).2.1<=10/\(cd s f i n).2.1<=s.size/\(cd s f i n).1<18446744073709551616:=by
 induction f generalizing i n with
 |zero=>simp[cd]at h
 |succ f ih=>
  by_cases c:i<s.size
  ·by_cases b:(i=9/\1<s[i].toNat)\/(0<i/\s[i].toNat=0)
   ·rw[nM s f i n c b]at h;simp at h
   by_cases e:s[i].toNat<128
   ·rw[jz s f i n c b e];exact⟨by simp,by simp;omega,by simp;omega,Eo n _ i (by omega) d b⟩
   rw[jA s f i n c b e]at h⊢;have:=ih (i+1) _ (by omega) (uP n _ i d) h;omega
  rw[jo s _ i n c]at h;simp at h
theorem ia (s:ByteArray)(h:(ay s).2.2=0):0<(ay s).2.1/\(ay s).2.1<=10/\(ay s).2.1<=s.size/\(ay s).1<18446744073709551616:=
 OF s 10 0 0 rfl (by simp) h
theorem LK (s:ByteArray)(f i n:Nat)(h:(cd s f i n).2.2≠0):(cd s f i n).1=0/\(cd s f i n).2.1=0/\((cd s f i n).2.2=2\/(cd s f i n).2.2=3):=by
 induction f generalizing i n with
 |zero=>simp[cd]
 |succ f ih=>
  by_cases b:i<s.size
  ·by_cases c:(i=9/\1<s[i].toNat)\/(0<i/\s[i].toNat=0)
   ·rw[nM s f i n b c];simp
   by_cases d:s[i].toNat<128
   ·rw[jz s f i n b c d]at h;simp at h
   rw[jA s f i n b c d]at h⊢;exact ih _ _ h
  rw[jo s _ i n b];simp
def ue (out:List UInt8)(back:Nat):Nat->List UInt8
 |0=>out
 |n+1=>ue (out++ [out.getD (out.length-back) 0]) back n
theorem uQ (out:List UInt8)(b n:Nat):(ue out b n).length=out.length+n:=by
 induction n generalizing out with
 |zero=>rfl
 |succ n ih=>rw[ue,ih];simp;omega
theorem J8 (out:List UInt8)(b m n:Nat):ue out b (m+n)=ue (ue out b m) b n:=by
 induction m generalizing out with
 |zero=>simp[ue]
 |succ m ih=>rw[show m+1+n=(m+n)+1 from by omega,ue,ue,ih]
theorem Ep (out:List UInt8)(b n:Nat):ue out b (n+1)=ue out b n++ [(ue out b n).getD ((ue out b n).length-b) 0]:=by
 rw[J8];rfl
theorem LM (out:List UInt8)(b m:Nat)(e:m<=b)(d:b<=out.length):ue out b m=out++(out.drop (out.length-b)).take m:=by
 induction m with
 |zero=>simp[ue]
 |succ m ih=>
  rw[Ep,ih (by omega)];have c:(out++(out.drop (out.length-b)).take m).length=out.length+m:=by simp;omega
  rw[c,zC];congr 1
  rw[yn (by simp;omega)];congr 1
  rw[zw,xA (by omega),List.getElem_drop,zA (by omega)];simp;congr 1
  omega
def bg (b:Nat):Nat:=if b%4=0 then(if 60<=b/4 then b/4-58 else 1)else if b%4=1 then 2 else if b%4=2 then 3 else 5
theorem Bj (b:Nat)(c:b<256):1<=bg b/\bg b<=5:=by
 unfold bg;split<;>(try split)<;>(try split)<;>omega
def cK (b l:Nat):Nat:=if b%4=0 then(if 60<=b/4 then l+1 else b/4+1)else if b%4=1 then 4+b/4%8 else b/4+1
def j4 (b l:Nat):Nat:=if b%4=1 then b/4/8*256+l else l
def iD (s:ByteArray)(k b:Nat):Nat:=da (s.extract (k+1) (k+bg b)).data.toList
def bZ (s:ByteArray)(size k b:Nat)(out:List UInt8):Int×Nat×List UInt8:=
 if s.size<k+bg b then(2,k,out)
 else if(b%4≠0/\(j4 b (iD s k b)=0\/out.length<j4 b (iD s k b)))\/size-out.length<cK b (iD s k b)then(3,k,out)
 else if b%4=0 then
  if s.size<k+bg b+cK b (iD s k b)then(2,k,out)
  else(0,k+bg b+cK b (iD s k b),out++(s.extract (k+bg b) (k+bg b+cK b (iD s k b))).data.toList)
 else(0,k+bg b,ue out (j4 b (iD s k b)) (cK b (iD s k b)))
def gP (s:ByteArray)(size:Nat):Nat->Nat->List UInt8->Int×List UInt8
 |0,_,_=>(2,[])
 |f+1,k,out=>if h:k<s.size then
  if(bZ s size k s[k].toNat out).1=0 then gP s size f (bZ s size k s[k].toNat out).2.1 (bZ s size k s[k].toNat out).2.2
  else((bZ s size k s[k].toNat out).1,[])
  else if out.length<size then(2,[])else(0,out)
def iR (s:ByteArray)(size:Nat):Int×List UInt8:=gP s size (s.size+1) 0 []
def aB (s:ByteArray):Nat×Nat×Int:=
 if(ay s).2.2=0 then(if 4294967295<(ay s).1 then(0,0,5)else ay s)else(0,0,(ay s).2.2)
def a8 (s:ByteArray)(most:Int):Int×List UInt8:=
 if(aB s).2.2≠0 then((aB s).2.2,[])
 else if most<(aB s).1 then(5,[])
 else iR (s.extract (aB s).2.1 s.size) (aB s).1
theorem OG {size b:Nat}(i:b<256)(m:k<s.size)(l:out.length<=size)(h:(bZ s size k b out).1=0):
 k<(bZ s size k b out).2.1/\(bZ s size k b out).2.1<=s.size/\(bZ s size k b out).2.2.length<=size:=by
 have n:=Bj b i;unfold bZ at h⊢;split at h<;>rename_i d
 ·simp at h
 split at h<;>rename_i c
 ·simp at h
 split at h<;>rename_i e
 ·split at h<;>rename_i j
  ·simp at h
  rw[zi d,zi c,zj e,zi j];refine⟨by simp;omega,by simp;omega, ?_⟩;rw[zk,aa,ar _ _ _ (by omega)];omega
 rw[zi d,zi c,zi e];refine⟨by simp;omega,by simp;omega, ?_⟩;rw[uQ];omega
theorem LN {size:Nat}{x:Int×List UInt8}(b:k<s.size)(hx:gP s size (f+1) k out=x)(h:(bZ s size k s[k].toNat out).1=0):
 gP s size f (bZ s size k s[k].toNat out).2.1 (bZ s size k s[k].toNat out).2.2=x:=by
 rw[<-hx,gP,Yg b,zj h]
theorem OH {size:Nat}{x:Int×List UInt8}(b:k<s.size)(hx:gP s size (f+1) k out=x)(h:(bZ s size k s[k].toNat out).1≠0):
 x=((bZ s size k s[k].toNat out).1,[]):=by
 rw[<-hx,gP,Yg b,zi h]
theorem Er {size:Nat}{x:Int×List UInt8}(b:¬k<s.size)(hx:gP s size (f+1) k out=x):x=if out.length<size then(2,[])else(0,out):=by
 rw[<-hx,gP,dif_neg b]
def iE (x n:Nat):Nat:=x/2^n|||x*2^(32-n)%4294967296
def sg0 (x:Nat):Nat:=iE x 7^^^iE x 18^^^x/2^3
def sg1 (x:Nat):Nat:=iE x 17^^^iE x 19^^^x/2^10
def Sg0 (x:Nat):Nat:=iE x 2^^^iE x 13^^^iE x 22
def Sg1 (x:Nat):Nat:=iE x 6^^^iE x 11^^^iE x 25
def Es (e f g:Nat):Nat:=e&&&f|||(e^^^4294967295)&&&g
def uR (a b c:Nat):Nat:=a&&&b|||a&&&c|||b&&&c
theorem WB {n:Nat}:n<4294967296↔n<2^32:=by simp
theorem uf {b:Nat}(d:a<4294967296)(c:b<4294967296):a|||b<4294967296:=by
 rw[WB]at*;exact Nat.or_lt_two_pow d c
theorem eB {b:Nat}(c:a<4294967296):a&&&b<4294967296:=Nat.lt_of_le_of_lt Nat.and_le_left c
theorem dq {b:Nat}(d:a<4294967296)(c:b<4294967296):a^^^b<4294967296:=by
 rw[WB]at*;exact Nat.xor_lt_two_pow d c
theorem mH (n:Nat)(b:a<4294967296):a/2^n<4294967296:=Nat.lt_of_le_of_lt (Nat.div_le_self _ _) b
theorem dY (n:Nat)(h:x<4294967296):iE x n<4294967296:=uf (mH n h) (xj _ (by omega))
theorem agj (h:x<4294967296):sg0 x<4294967296:=dq (dq (dY _ h) (dY _ h)) (mH _ h)
theorem agk (h:x<4294967296):sg1 x<4294967296:=dq (dq (dY _ h) (dY _ h)) (mH _ h)
theorem agl (h:x<4294967296):Sg0 x<4294967296:=dq (dq (dY _ h) (dY _ h)) (dY _ h)
theorem agm (h:x<4294967296):Sg1 x<4294967296:=dq (dq (dY _ h) (dY _ h)) (dY _ h)
theorem ae5 {e g:Nat}(b:e<4294967296):Es e f g<4294967296:=uf (eB b) (eB (dq b (by omega)))
theorem ab2 {b c:Nat}(d:a<4294967296)(e:b<4294967296):uR a b c<4294967296:=uf (uf (eB d) (eB d)) (eB e)
theorem OI (e f g:Nat)(b:e<4294967296):e&&&f^^^(e^^^4294967295)&&&g=Es e f g:=by
 apply Nat.eq_of_testBit_eq;intro i;have h:Nat.testBit 4294967295 i=decide (i<32):=by
  have:=Nat.testBit_two_pow_sub_one 32 i;simpa using this
 unfold Es;simp only[Nat.testBit_xor,Nat.testBit_and,Nat.testBit_or,h];by_cases hi:i<32
 ·simp only[hi,decide_true];cases Nat.testBit e i<;>cases Nat.testBit f i<;>cases Nat.testBit g i<;>rfl
 have c:Nat.testBit e i=false:=Nat.testBit_lt_two_pow (zQ (WB.1 b) (yq (by omega) (by omega)));simp[hi,c]
theorem LO (a b c:Nat):(a&&&b^^^a&&&c)^^^b&&&c=uR a b c:=by
 apply Nat.eq_of_testBit_eq;intro i;unfold uR;simp only[Nat.testBit_xor,Nat.testBit_and,Nat.testBit_or];cases Nat.testBit a i<;>cases Nat.testBit b i<;>cases Nat.testBit c i<;>rfl
def mI (s:ByteArray)(i:Nat):Nat:=(s.data.toList.getD (4*i) 0).toNat*16777216+(s.data.toList.getD (4*i+1) 0).toNat*65536+(s.data.toList.getD (4*i+2) 0).toNat*256+(s.data.toList.getD (4*i+3) 0).toNat
theorem Bk (s:ByteArray)(i:Nat):mI s i<4294967296:=by
 have d:=(s.data.toList.getD (4*i) 0).toNat_lt;have b:=(s.data.toList.getD (4*i+1) 0).toNat_lt;have e:=(s.data.toList.getD (4*i+2) 0).toNat_lt;have c:=(s.data.toList.getD (4*i+3) 0).toNat_lt;unfold mI;omega
def Bl (s:ByteArray)(l:List Nat)(i:Nat):Nat:=
 if i<16 then mI s i else(l.getD (i-16) 0+sg0 (l.getD (i-15) 0)+l.getD (i-7) 0+sg1 (l.getD (i-2) 0))%4294967296
def sched (s:ByteArray):Nat->List Nat
 |0=> []
 |i+1=>sched s i++ [Bl s (sched s i) i]
theorem jc (s:ByteArray)(i:Nat):(sched s i).length=i:=by
 induction i with
 |zero=>rfl
 |succ i ih=>simp[sched,ih]
theorem OJ (s:ByteArray)(l:List Nat)(i:Nat):Bl s l i<4294967296:=by
 unfold Bl;split
 ·exact Bk s i
 exact xj _ (by omega)
theorem dG (s:ByteArray)(i j:Nat)(h:j<i):(sched s i).getD j 0=Bl s (sched s j) j:=by
 induction i with
 |zero=>omega
 |succ i ih=>
  rw[sched,zw];by_cases b:j<i
  ·rw[xA (by rw[jc];exact b),<-zw];exact ih b
  obtain rfl:j=i:=by omega
  rw[yj (by rw[jc];exact zd _),jc,Zd];rfl
theorem OK (s:ByteArray)(i j:Nat):(sched s i).getD j 0<4294967296:=by
 by_cases h:j<i
 ·rw[dG s i j h];exact OJ _ _ _
 rw[zw,y8 (by rw[jc];omega)];simp
def mi (s:ByteArray)(i:Nat):Nat:=(sched s 64).getD i 0
theorem OL (s:ByteArray)(i:Nat):mi s i<4294967296:=OK s 64 i
theorem Bm (s:ByteArray)(i:Nat)(h:i<16):mi s i=mI s i:=by
 unfold mi;rw[dG s 64 i (by omega),Bl,zj h]
theorem SX (s:ByteArray)(i:Nat)(h:16<=i)(b:i<64):mi s i=(mi s (i-16)+sg0 (mi s (i-15))+mi s (i-7)+sg1 (mi s (i-2)))%4294967296:=by
 unfold mi;rw[dG s 64 i b,Bl,zi (by omega),dG s 64 (i-16) (by omega),dG s 64 (i-15) (by omega),dG s 64 (i-7) (by omega),dG s 64 (i-2) (by omega),
  dG s i (i-16) (by omega),dG s i (i-15) (by omega),dG s i (i-7) (by omega),dG s i (i-2) (by omega)]
structure Sh where
 a:Nat
 b:Nat
 c:Nat
 d:Nat
 e:Nat
 f:Nat
 g:Nat
 h:Nat
structure Sh.ok (s:Sh):Prop where
 a:s.a<4294967296
 b:s.b<4294967296
 c:s.c<4294967296
 d:s.d<4294967296
 e:s.e<4294967296
 f:s.f<4294967296
 g:s.g<4294967296
 h:s.h<4294967296
def shP (k w:Nat)(s:Sh):Nat:=(s.h+Sg1 s.e+k+w+Es s.e s.f s.g)%4294967296
def shQ (s:Sh):Nat:=(Sg0 s.a+uR s.a s.b s.c)%4294967296
def CC (k w:Nat)(s:Sh):Sh:=⟨(shP k w s+shQ s)%4294967296,s.a,s.b,s.c,(s.d+shP k w s)%4294967296,s.e,s.f,s.g⟩
theorem LP (k w:Nat){s:Sh}(h:s.ok):(CC k w s).ok:=⟨xj _ (by omega),h.a,h.b,h.c,xj _ (by omega),h.e,h.f,h.g⟩
def fG (K:List Nat)(blk:ByteArray):Nat->Sh->Sh
 |0,s=>s
 |i+1,s=>CC (K.getD i 0) (mi blk i) (fG K blk i s)
theorem sv (K:List Nat)(blk:ByteArray)(i:Nat){s:Sh}(h:s.ok):(fG K blk i s).ok:=by
 induction i with
 |zero=>exact h
 |succ i ih=>exact LP _ _ ih
def Vg (s t:Sh):Sh:=⟨(s.a+t.a)%4294967296,(s.b+t.b)%4294967296,(s.c+t.c)%4294967296,(s.d+t.d)%4294967296,(s.e+t.e)%4294967296,(s.f+t.f)%4294967296,(s.g+t.g)%4294967296,(s.h+t.h)%4294967296⟩
def pQ (K:List Nat)(s:Sh)(blk:ByteArray):Sh:=Vg s (fG K blk 64 s)
theorem OM (K:List Nat)(s:Sh)(blk:ByteArray):(pQ K s blk).ok:=⟨xj _ (by omega),xj _ (by omega),xj _ (by omega),xj _ (by omega),xj _ (by omega),xj _ (by omega),xj _ (by omega),xj _ (by omega)⟩
def eO (blk:ByteArray)(k j:Nat):Nat:=if j<k then mi blk (j+16*((k-1-j)/16))else 0
theorem j5 (blk:ByteArray)(k d:Nat)(h:16<=k)(hd:d<16):eO blk k ((k+d)%16)=mi blk (k-16+d):=by
 unfold eO;rw[zj (by omega),show(k+d)%16+16*((k-1-(k+d)%16)/16)=k-16+d from by omega]
theorem uS (blk:ByteArray)(k:Nat):eO blk (k+1) (k%16)=mi blk k:=by
 unfold eO;rw[zj (by omega),show k%16+16*((k+1-1-k%16)/16)=k from by omega]
theorem CD (blk:ByteArray)(k j:Nat)(c:j<16)(b:j≠k%16):eO blk (k+1) j=eO blk k j:=by
 unfold eO;by_cases h:j<k
 ·rw[zj (by omega),zj h,show(k+1-1-j)/16=(k-1-j)/16 from by omega]
 rw[zi (by omega),zi h]
def Et (p d:Nat):Nat->Nat->Nat
 |0,x=>x
 |n+1,x=>Et p d n (if(x+2^n)^d/65536^(2*d)<p then x+2^n else x)
def ab3 (p d:Nat):Nat:=Et p d 36 0%4294967296
def ab4 (p n:Nat):Bool:=(List.range n).all fun d=>decide (d<2)||decide (0<p%d)
def uT :Nat->List Nat
 |0=> []
 |p+1=>if 2<=p/\ab4 p p=true then uT p++ [p]else uT p
def LQ :List Nat:=uT 312
def uU :List Nat:=LQ.map (ab3 · 3)
def Hi :List Nat:= [0x428a2f98,0x71374491,0xb5c0fbcf,0xe9b5dba5,0x3956c25b,0x59f111f1,0x923f82a4,0xab1c5ed5,0xd807aa98,0x12835b01,0x243185be,0x550c7dc3,0x72be5d74,0x80deb1fe,0x9bdc06a7,0xc19bf174,
 0xe49b69c1,0xefbe4786,0x0fc19dc6,0x240ca1cc,0x2de92c6f,0x4a7484aa,0x5cb0a9dc,0x76f988da,0x983e5152,0xa831c66d,0xb00327c8,0xbf597fc7,0xc6e00bf3,0xd5a79147,0x06ca6351,0x14292967,
 0x27b70a85,0x2e1b2138,0x4d2c6dfc,0x53380d13,0x650a7354,0x766a0abb,0x81c2c92e,0x92722c85,0xa2bfe8a1,0xa81a664b,0xc24b8b70,0xc76c51a3,0xd192e819,0xd6990624,0xf40e3585,0x106aa070,
 0x19a4c116,0x1e376c08,0x2748774c,0x34b0bcb5,0x391c0cb3,0x4ed8aa4a,0x5b9cca4f,0x682e6ff3,0x748f82ee,0x78a5636f,0x84c87814,0x8cc70208,0x90befffa,0xa4506ceb,0xbef9a3f7,0xc67178f2]
theorem CE :uU=Hi:=by decide+kernel
def fw (v:Sh)(s:ByteArray):Nat->Sh
 |0=>v
 |i+1=>pQ uU (fw v s i) (s.extract (64*i) (64*i+64))
theorem Eu {v:Sh}(h:v.ok)(s:ByteArray):∀i,(fw v s i).ok
 |0=>h
 |i+1=>OM _ _ _
theorem CF (s p:ByteArray)(a b:Nat)(h:b<=s.size):(s++p).extract a b=s.extract a b:=by
 apply aF;rw[aq,aq,aW,zV (by simpa using h)]
theorem uV (v:Sh)(s p:ByteArray):∀i,64*i<=s.size->fw v (s++p) i=fw v s i
 |0,_=>rfl
 |i+1,h=>by
  rw[fw,fw,uV v s p i (by omega),CF s p _ _ (by omega)]
theorem Bn (v:Sh)(t:ByteArray)(a:Nat):∀b,64*(a+b)<=t.size->fw v t (a+b)=fw (fw v t a) (t.extract (64*a) t.size) b
 |0,_=>rfl
 |b+1,h=>by
  rw[<-yg,fw,fw,Bn v t a b (by omega),CA t _ _ _ (by omega)];rw[show 64*a+64*b=64*(a+b)from by omega,show 64*a+(64*b+64)=64*(a+b)+64 from by omega]
def dH (n:Nat):Nat:=(64-(n+9)%64)%64
def fz (m:Nat):List UInt8:=(List.range 8).map fun j=>UInt8.ofNat (m/2^(56-8*j))
theorem iv (m:Nat):(fz m).length=8:=by simp[fz]
theorem Ev (m i:Nat)(h:i<8):(fz m).take (i+1)=(fz m).take i++ [UInt8.ofNat (m/2^(56-8*i))]:=by
 rw[yn (by rw[iv];exact h)];congr 2
 simp[fz]
def Hj (n:Nat):List UInt8:=128::List.replicate (dH n) 0++fz (n*8)
def iF (n:Nat):ByteArray:=⟨(Hj n).toArray⟩
theorem Aq (n:Nat):(Hj n).length=dH n+9:=by simp[Hj,iv]
theorem oX (n:Nat):(iF n).size=dH n+9:=by rw[iF,bG,Aq]
theorem sw (n:Nat):dH n<64:=xj _ (by omega)
theorem pR (n:Nat):(n+(dH n+9))%64=0:=by unfold dH;omega
def DV :Sh:=⟨0x6a09e667,0xbb67ae85,0x3c6ef372,0xa54ff53a,0x510e527f,0x9b05688c,0x1f83d9ab,0x5be0cd19⟩
theorem WC :DV.ok:=⟨by decide,by decide,by decide,by decide,by decide,by decide,by decide,by decide⟩
def wB (x:Nat):List UInt8:= [UInt8.ofNat (x/16777216),UInt8.ofNat (x/65536),UInt8.ofNat (x/256),UInt8.ofNat x]
def Sh.list (v:Sh):List Nat:= [v.a,v.b,v.c,v.d,v.e,v.f,v.g,v.h]
def Ew (v:Sh):List UInt8:=(v.list.map wB).flatten
def Ho (n:Nat)(v:Sh):List UInt8:=((v.list.take n).map wB).flatten
theorem Bo (v:Sh)(i:Nat)(h:i<8):Ho (i+1) v=Ho i v++wB (v.list.getD i 0):=by
 unfold Ho;have b:i<v.list.length:=h;rw[yn b,List.map_append,List.flatten_append,zw,zA b];simp
theorem WD (v:Sh):Ho 8 v=Ew v:=rfl
theorem sx (v:Sh)(i:Nat)(h:i<=8):(Ho i v).length=4*i:=by
 induction i with
 |zero=>rfl
 |succ i ih=>rw[Bo v i (by omega),zk,ih (by omega)];simp[wB];omega
theorem CG (v:Sh):(Ew v).length=32:=sx v 8 (zd _)
def Hp (s:ByteArray):Sh:=fw DV (s++iF s.size) ((s++iF s.size).size/64)
def tE (s:ByteArray):ByteArray:=⟨(Ew (Hp s)).toArray⟩
theorem Bp (s:ByteArray):(tE s).size=32:=by rw[tE,bG,CG]
theorem Hr (s:ByteArray)(r:ByteArray)(b:r=s.extract (64*(s.size/64)) s.size++iF s.size):Hp s=fw (fw DV s (s.size/64)) r (r.size/64):=by
 have hz:(s++iF s.size).size=s.size+(dH s.size+9):=by rw[bT,oX]
 have h:=pR s.size;have e:r.size=s.size-64*(s.size/64)+(dH s.size+9):=by rw[b,bT,oX,ar _ _ _ (zd _)]
 have d:r=(s++iF s.size).extract (64*(s.size/64)) (s++iF s.size).size:=by
  rw[b];apply aF;rw[aW,aq,aq,cP,cP,aW,yw (by simp;omega)]
 have c:(s++iF s.size).size/64=s.size/64+r.size/64:=by omega
 unfold Hp;rw[c,Bn _ _ _ _ (by omega),<-d,uV _ _ _ _ (by omega)]
def Hs (s:ByteArray):ByteArray:=tE (tE s)
def eP (s:ByteArray):ByteArray:=(Hs s).extract 0 4
theorem Bq (s:ByteArray):(Hs s).size=32:=Bp _
theorem lB (s:ByteArray):(eP s).size=4:=by rw[eP,ar _ _ _ (by rw[Bq];omega)]
def ou (b:Nat):Bool:=decide ((97<=b/\b<=122)\/(48<=b/\b<=57)\/b=95)
def iG (l:List UInt8):Bool:=l.all fun b=>ou b.toNat
def b8 (s:ByteArray):Bool:=iG s.data.toList&&(decide (1<=s.size)&&decide (s.size<=12))
def eQ (s:ByteArray):ByteArray:=⟨(s.data.toList++List.replicate (12-s.size) 0).toArray⟩
def ry (l:List UInt8):List UInt8:=(l.reverse.dropWhile (· ==0)).reverse
def cW (s:ByteArray):ByteArray:=⟨(ry s.data.toList).toArray⟩
def cX (s:ByteArray):Int×ByteArray:=if s.size=12/\b8 (cW s)=true then(0,cW s)else(3,ByteArray.empty)
theorem uW (l:List UInt8)(b:UInt8):iG (l++ [b])=(iG l&&ou b.toNat):=by simp[iG]
theorem Ar (l:List UInt8)(k:Nat)(h:iG (l.take k)=false):iG l=false:=by
 simp only[iG,List.all_eq_false]at h⊢;obtain⟨x,hx,b⟩:=h;exact⟨x,List.mem_of_mem_take hx,b⟩
theorem Br (b:Nat)(c:b<256):(ou b=false/\(b<48\/(57<b/\b<95)\/(95<b/\b<97)\/122<b)/\b≠95)\/(ou b=true/\((48<=b/\b<=57)\/(b=95)\/(97<=b/\b<=122))):=by
 rcases xf (ou b)with h|h
 ·right;refine⟨h, ?_⟩;simp only[ou,zY]at h;omega
 left;refine⟨h, ?_⟩;simp only[ou,yV]at h;omega
theorem dx (h:b8 s=true):1<=s.size/\s.size<=12:=by
 simp only[b8,zy,zY]at h;exact h.2
theorem pS (h:s.size<1\/12<s.size):b8 s=false:=by
 rcases xf (b8 s)with h1|h1
 ·have:=dx h1;omega
 exact h1
theorem ON (c:1<=s.size)(b:s.size<=12):b8 s=iG s.data.toList:=by simp[b8,c,b]
theorem lC (s:ByteArray):(eQ s).data.toList=s.data.toList++List.replicate (12-s.size) 0:=by simp[eQ]
theorem ib (s:ByteArray)(h:s.size<=12):(eQ s).size=12:=by
 rw[<-aa,lC];simp;omega
theorem OO (l:List UInt8)(n:Nat)(h:∀b∈l,b≠0):ry (l++List.replicate n 0)=l:=by
 unfold ry;rw[List.reverse_append,List.reverse_replicate];have d:∀m:Nat,(List.replicate m (0:UInt8)++l.reverse).dropWhile (· ==0)=l.reverse.dropWhile (· ==0):=by
  intro m;induction m with
  |zero=>simp
  |succ m ih=>simp[ZQ,ih]
 rw[d];have c:l.reverse.dropWhile (· ==0)=l.reverse:=by
  cases hl:l.reverse with
  |nil=>simp
  |cons x xs=>
   have hx:x∈l:=by rw[<-List.mem_reverse,hl];simp
   have:=h x hx;simp[this]
 rw[c,List.reverse_reverse]
theorem Bs (l:List UInt8):∃n,l=ry l++List.replicate n 0:=by
 unfold ry;have h:∀m:List UInt8,∃n,m=List.replicate n 0++m.dropWhile (· ==0):=by
  intro m;induction m with
  |nil=>exact⟨0,by simp⟩
  |cons x xs ih=>
   by_cases hx:x=0
   ·obtain⟨n,b⟩:=ih;refine⟨n+1, ?_⟩;subst hx;simp only[ZQ,zW];rw[List.dropWhile_cons];simp only[beq_self_eq_true,xL];rw[<-b]
   exact⟨0,by simp[hx]⟩
 obtain⟨n,b⟩:=h l.reverse;refine⟨n, ?_⟩;have:=yp List.reverse b;rw[List.reverse_reverse,List.reverse_append,List.reverse_replicate]at this;exact this
theorem SY (s:ByteArray)(h:b8 s=true):∀b∈s.data.toList,b≠0:=by
 intro b c d;simp only[b8,zy,iG,ZH]at h;have:=h.1 b c;subst d;simp[ou]at this
theorem LR (s:ByteArray)(h:b8 s=true):cW (eQ s)=s:=by
 apply aF;simp only[cW];rw[lC,OO _ _ (SY s h)]
theorem Bt (s:ByteArray)(h:b8 s=true):cX (eQ s)=(0,s):=by
 have b:=ib s (dx h).2;simp[cX,b,LR s h,h]
theorem Ex (s:ByteArray)(h:s.size≠12):cX s=(3,ByteArray.empty):=by simp[cX,h]
theorem LS (s t:ByteArray)(h:cX s=(0,t)):eQ t=s/\b8 t=true:=by
 unfold cX at h;split at h
 ·rename_i c
  injection h with _ ht;subst ht;refine⟨?_,c.2⟩;apply aF;obtain⟨n,b⟩:=Bs s.data.toList;rw[lC];have hz:(cW s).size=(ry s.data.toList).length:=by rw[cW,bG]
  have d:(cW s).data.toList=ry s.data.toList:=by simp[cW]
  have e:=yp List.length b;simp only[zk,xz,aa]at e;rw[hz,d,show 12-(ry s.data.toList).length=n from by omega,<-b]
 injection h with h _;omega
theorem sA (s:ByteArray):cX s=(3,ByteArray.empty)\/∃t,cX s=(0,t):=by
 unfold cX;split
 ·exact .inr ⟨_,rfl⟩
 exact .inl rfl
structure aM where
 fm:Int
 mg:Nat
 fr:Int
 un:Int
 de:Int
 it:Int
structure Fr where
 id:Nat
 nm:ByteArray
 body:ByteArray
def om :Fr:=⟨0,ByteArray.empty,ByteArray.empty⟩
def aM.right (c:aM):Bool:=decide (1<=c.fm)&&(decide (c.fm<=3)&&(decide (1<=c.fr)&&(decide (c.fr<=65536)&&(decide (1<=c.un)&&(decide (c.un<=65536)&&(decide (1<=c.de)&&(decide (c.de<=16)&&(decide (1<=c.it)&&decide (c.it<=1024)))))))))
theorem aM.ic (c:aM):c.right=true↔1<=c.fm/\c.fm<=3/\1<=c.fr/\c.fr<=65536/\1<=c.un/\c.un<=65536/\1<=c.de/\c.de<=16/\1<=c.it/\c.it<=1024:=by
 simp only[aM.right,zy,zY]
inductive It where
 |mk:ByteArray->Bool->List It->It
def It.text :It->ByteArray| .mk t _ _=>t
def It.list :It->Bool| .mk _ l _=>l
def It.sub :It->List It| .mk _ _ s=>s
@[simp] theorem It.ug (t:ByteArray)(l:Bool)(s:List It):(It.mk t l s).text=t:=rfl
@[simp] theorem It.uh (t:ByteArray)(l:Bool)(s:List It):(It.mk t l s).list=l:=rfl
@[simp] theorem It.gE (t:ByteArray)(l:Bool)(s:List It):(It.mk t l s).sub=s:=rfl
mutual
def It.count :It->Nat
 | .mk _ _ s=>1+aC s
def aC :List It->Nat
 | []=>0
 |x::xs=>x.count+aC xs
end
mutual
def It.deep :It->Nat
 | .mk _ _ s=>cH s+1
def cH :List It->Nat
 | []=>0
 |x::xs=>max x.deep (cH xs)
end
def formed (t:ByteArray)(l:Bool)(n:Nat):Bool:=if l then decide (t.size=0)else decide (n=0)
mutual
def It.right :It->Bool
 | .mk t l s=>formed t l s.length&&dg s
def dg :List It->Bool
 | []=>true
 |x::xs=>x.right&&dg xs
end
def It.may (x:It):Bool:=x.right&&decide (x.deep<=16)&&decide (x.count<=1024)
theorem It.ind {P:It->Prop}(h:∀t l s,(∀x∈s,P x)->P (.mk t l s)):∀x,P x:=by
 intro x;exact It.rec (motive_1:=P) (motive_2:=fun s=>∀x∈s,P x) (fun t l s ih=>h t l s ih) (by simp) (fun x xs hx Gw=>by
  intro y hy;rcases yI.1 hy with rfl|hy
  ·exact hx
  exact Gw y hy) x
theorem ov (a b:List It):aC (a++b)=aC a+aC b:=by
 induction a with
 |nil=>simp[aC]
 |cons x xs ih=>simp[aC,ih,yg]
theorem rz (x:It):1<=x.count:=by cases x;simp[It.count]
theorem rA (s:List It):s.length<=aC s:=by
 induction s with
 |nil=>simp[aC]
 |cons x xs ih=>have:=rz x;simp[aC];omega
theorem fh (s:List It)(k:Nat)(h:k<s.length):s.take (k+1)=s.take k++ [s[k]]:=yn h
mutual
def It.room :It->Int->Int
 | .mk _ _ s,left=>max (cI s (left-1)) 0
def cI :List It->Int->Int
 | [],left=>left
 |x::xs,left=>if left<=0 then left else cI xs (x.room left)
end
mutual
def It.oY :It->Nat
 | .mk t _ s=>gF s (min t.size 10000)
def gF :List It->Nat->Nat
 | [],n=>n
 |x::xs,n=>gF xs (min (n+x.oY) 10000)
end
theorem pT (a b:List It)(left:Int):cI (a++b) left=cI b (cI a left):=by
 induction a generalizing left with
 |nil=>simp[cI]
 |cons x xs ih=>
  by_cases h:left<=0
  ·simp only[zW,cI,zj h];cases b with
   |nil=>simp[cI]
   |cons y ys=>simp[cI,h]
  simp only[zW,cI,zi h,ih]
theorem CH (a b:List It)(n:Nat):gF (a++b) n=gF b (gF a n):=by
 induction a generalizing n with
 |nil=>simp[gF]
 |cons x xs ih=>simp[gF,ih]
theorem uX (s:List It)(m:Int)(h:m<=0):cI s m=m:=by
 cases s with
 |nil=>rfl
 |cons x xs=>simp[cI,h]
theorem Hu (s:List It)(k:Nat)(h:k<s.length)(left:Int)(b:0<cI (s.take k) left):cI (s.take (k+1)) left=s[k].room (cI (s.take k) left):=by
 rw[fh s k h,pT];simp[cI,show¬cI (s.take k) left<=0 from by omega]
theorem Bu (s:List It)(k:Nat)(left:Int)(b:cI (s.take k) left<=0\/s.length<=k):cI s left=cI (s.take k) left:=by
 rcases b with b|b
 ·have c:=pT (s.take k) (s.drop k) left;rw[zH,uX _ _ b]at c;exact c
 rw[zx b]
theorem Hv (s:List It)(k:Nat)(h:k<s.length)(n:Nat):gF (s.take (k+1)) n=min (gF (s.take k) n+s[k].oY) 10000:=by
 rw[fh s k h,CH];simp[gF]
theorem OP (s:List It)(n:Nat)(h:n<=10000):gF s n<=10000:=by
 induction s generalizing n with
 |nil=>simpa[gF]using h
 |cons x xs ih=>simp only[gF];exact ih _ (by omega)
theorem SZ (x:It):x.oY<=10000:=by
 cases x with
 |mk t l s=>simp only[It.oY];exact OP s _ (by omega)
theorem Ey (s:List It)(b:∀x∈s,∀m:Int,0<m->0<=x.room m/\x.room m<m):∀m:Int,0<=m->0<=cI s m/\cI s m<=m:=by
 induction s with
 |nil=>intro m d;simp only[cI];omega
 |cons x xs Gw=>
  intro m d;by_cases h:m<=0
  ·simp only[cI,zj h];omega
  have e:=b x (by simp) m (by omega);have i:=Gw (fun y c=>b y (by simp[c])) (x.room m) e.1;simp only[cI,zi h];omega
theorem CI (x:It):∀m:Int,0<m->0<=x.room m/\x.room m<m:=by
 induction x using It.ind with
 |h t l s ih=>
  intro m b;have:=Ey s ih (m-1) (by omega);simp only[It.room];omega
theorem Ez (s:List It)(c:∀x∈s,∀m:Int,0<x.room m->x.room m=m-x.count):∀m:Int,0<cI s m->cI s m=m-aC s:=by
 induction s with
 |nil=>intro m _;simp[cI,aC]
 |cons x xs Gw=>
  intro m b;by_cases h:m<=0
  ·simp only[cI,zj h]at b;omega
  simp only[cI,zi h]at b⊢;have i:=Gw (fun y d=>c y (by simp[d])) (x.room m) b;by_cases e:0<x.room m
  ·have j:=c x (by simp) m e;simp only[aC];omega
  rw[uX _ _ (by omega)]at b;omega
theorem Hw (x:It):∀m:Int,0<x.room m->x.room m=m-x.count:=by
 induction x using It.ind with
 |h t l s ih=>
  intro m b;simp only[It.room,It.count]at b⊢;have:=Ez s ih (m-1) (by omega);omega
def It.pU (x:It):Bool:=decide (x.room 1200=0)||decide (6000<x.oY)
theorem sB (x:It)(h:x.pU=false):x.count<1200:=by
 simp only[It.pU,ZL,yV]at h;have c:=CI x 1200 (by omega);have b:=Hw x 1200 (by omega);omega
inductive Ty where
 |mk:Int->Int->List Ty->Int->Ty
def Ty.kind :Ty->Int| .mk k _ _ _=>k
def Ty.size :Ty->Int| .mk _ s _ _=>s
def Ty.sub :Ty->List Ty| .mk _ _ l _=>l
def Ty.tail :Ty->Int| .mk _ _ _ t=>t
@[simp] theorem Ty.J9 (k s:Int)(l:List Ty)(t:Int):(Ty.mk k s l t).kind=k:=rfl
@[simp] theorem Ty.ae6 (k s:Int)(l:List Ty)(t:Int):(Ty.mk k s l t).size=s:=rfl
@[simp] theorem Ty.gE (k s:Int)(l:List Ty)(t:Int):(Ty.mk k s l t).sub=l:=rfl
@[simp] theorem Ty.CJ (k s:Int)(l:List Ty)(t:Int):(Ty.mk k s l t).tail=t:=rfl
mutual
def Ty.count :Ty->Nat
 | .mk _ _ l _=>1+aZ l
def aZ :List Ty->Nat
 | []=>0
 |x::xs=>x.count+aZ xs
end
mutual
def Ty.deep :Ty->Nat
 | .mk _ _ l _=>dD l+1
def dD :List Ty->Nat
 | []=>0
 |x::xs=>max x.deep (dD xs)
end
def fH (k s:Int)(n:Nat)(t:Int):Bool:=
 if k=1 then decide ((s=1\/s=2\/s=4\/s=8)/\n=0/\t=0)
 else if k=2 then decide (1<=s/\s<=65536/\n=0/\t=0)
 else if k=3 then decide (0<=s/\s<=65536/\n=0/\t=0)
 else if k=4 then decide (0<=s/\s<=1024/\n=1/\t=0)
 else if k=5 then decide (s=0/\n<=16/\0<=t/\t<=n)
 else false
mutual
def Ty.right :Ty->Bool
 | .mk k s l t=>fH k s l.length t&&bQ l
def bQ :List Ty->Bool
 | []=>true
 |x::xs=>x.right&&bQ xs
end
def Ty.may (t:Ty):Bool:=decide (t.count<=64)&&decide (t.deep<=8)&&t.right
theorem Ty.ind {P:Ty->Prop}(h:∀k s l t,(∀x∈l,P x)->P (.mk k s l t)):∀x,P x:=by
 intro x;exact Ty.rec (motive_1:=P) (motive_2:=fun s=>∀x∈s,P x) (fun k s l t ih=>h k s l t ih) (by simp) (fun x xs hx Gw=>by
  intro y hy;rcases yI.1 hy with rfl|hy
  ·exact hx
  exact Gw y hy) x
theorem gG (s:List Ty)(k:Nat)(h:k<s.length):s.take (k+1)=s.take k++ [s[k]]:=yn h
theorem fI (a b:List Ty):aZ (a++b)=aZ a+aZ b:=by
 induction a with
 |nil=>simp[aZ]
 |cons x xs ih=>simp[aZ,ih,yg]
theorem pV (a b:List Ty):dD (a++b)=max (dD a) (dD b):=by
 induction a with
 |nil=>simp[dD]
 |cons x xs ih=>simp only[zW,dD,ih];omega
theorem iw (a b:List Ty):bQ (a++b)=(bQ a&&bQ b):=by
 induction a with
 |nil=>simp[bQ]
 |cons x xs ih=>simp[bQ,ih,Bool.and_assoc]
theorem Hx (x:Ty):1<=x.count:=by cases x;simp[Ty.count]
theorem EA (s:List Ty)(k:Nat)(h:k<s.length):aZ (s.take (k+1))=aZ (s.take k)+s[k].count:=by
 rw[gG s k h,fI];simp[aZ]
theorem uY (s:List Ty)(k:Nat):aZ (s.take k)<=aZ s:=by
 have:=fI (s.take k) (s.drop k);rw[zH]at this;omega
theorem H6 (s:List Ty)(k:Nat)(h:k<s.length):dD (s.take (k+1))=max (dD (s.take k)) s[k].deep:=by
 rw[gG s k h,pV];simp[dD]
theorem As (s:List Ty)(k:Nat):dD (s.take k)<=dD s:=by
 have:=pV (s.take k) (s.drop k);rw[zH]at this;omega
theorem mJ (s:List Ty)(k:Nat)(h:k<s.length):bQ (s.take (k+1))=(bQ (s.take k)&&s[k].right):=by
 rw[gG s k h,iw];simp[bQ]
theorem CK (s:List Ty)(k:Nat)(h:k<s.length)(c:s[k].right=false):bQ s=false:=by
 have b:=iw (s.take (k+1)) (s.drop (k+1));rw[zH,mJ s k h,c]at b;simpa using b
theorem eF {s:List Ty}(h:bQ s=true)(k:Nat)(b:k<s.length):s[k].right=true:=by
 cases hr:s[k].right with
 |true=>rfl
 |false=>rw[CK s k b hr]at h;cases h
theorem OQ (s:List Ty)(h:∀x∈s,x.deep<=x.count):dD s<=aZ s:=by
 induction s with
 |nil=>simp[dD]
 |cons x xs ih=>
  have d:=h x (by simp);have c:=ih (fun y b=>h y (by simp[b]));simp only[dD,aZ];omega
theorem LU (x:Ty):x.deep<=x.count:=by
 induction x using Ty.ind with
 |h k s l t ih=>simp only[Ty.deep,Ty.count];have:=OQ l ih;omega
mutual
def Ty.room :Ty->Int->Int
 | .mk _ _ l _,left=>max (Vh l (left-1)) 0
def Vh :List Ty->Int->Int
 | [],left=>left
 |x::xs,left=>if left<=0 then left else Vh xs (x.room left)
end
def Ty.pU (x:Ty):Bool:=decide (x.room 100=0)
mutual
def Ty.gQ :Ty->Nat->Nat->Bool×Nat
 | .mk k s l t,lv,c=>if 8<lv\/c=0\/fH k s l.length t=false then(false,c)else kv l (lv+1) (c-1)
def kv :List Ty->Nat->Nat->Bool×Nat
 | [],_,c=>(true,c)
 |x::xs,lv,c=>match x.gQ lv c with
  |(true,c')=>kv xs lv c'
  |(false,c')=>(false,c')
end
theorem sC (a b:List Ty)(d c:Nat):kv (a++b) d c=match kv a d c with
 |(true,e)=>kv b d e
 |(false,e)=>(false,e):=by
 induction a generalizing c with
 |nil=>simp[kv]
 |cons x xs ih=>
  simp only[zW,kv];rcases x.gQ d c with⟨r,e⟩
  cases r with
  |true=>simp only[ih]
  |false=>rfl
theorem Bv {s:List Ty}{b c e:Nat}(h:k<s.length)(i:kv (s.take k) b c=(true,e)):kv (s.take (k+1)) b c=s[k].gQ b e:=by
 rw[gG s k h,sC,i];simp only[kv];rcases s[k].gQ b e with⟨r,d⟩
 cases r<;>rfl
theorem LV {s:List Ty}{b c e d:Nat}(h:k<s.length)(l:kv (s.take k) b c=(true,e))(j:s[k].gQ b e=(false,d)):kv s b c=(false,d):=by
 have i:=sC (s.take (k+1)) (s.drop (k+1)) b c;rw[zH,Bv h l,j]at i;exact i
def Bw (r:Bool×Nat)(rt:Bool)(lv d n c:Nat):Prop:=(r.1=true↔rt=true/\lv+d<=9/\n<=c)/\(r.1=true->r.2+n=c)/\r.2<=c
theorem S3 (s:List Ty)(k:∀x∈s,∀e c,e<=9->Bw (x.gQ e c) x.right e x.deep x.count c):∀e c,e<=9->Bw (kv s e c) (bQ s) e (dD s) (aZ s) c:=by
 induction s with
 |nil=>intro e c h;simp[Bw,kv,bQ,dD,aZ,h]
 |cons x xs Gw=>
  intro e c l;have i:=k x (by simp) e c l;rcases hv:x.gQ e c with⟨r,n⟩
  rw[hv]at i;obtain⟨i,j,m⟩:=i;simp only at i j m;have z:=Hx x;unfold Bw;simp only[kv,hv,bQ,dD,aZ,zy];cases r with
  |true=>
   have j:=j rfl;obtain⟨u,q,w⟩:=Gw (fun y p=>k y (by simp[p])) e n l;have i:=i.1 rfl;refine⟨?_,fun o=>by have:=q o;simp only;omega,by simp only;omega⟩;simp only[u];constructor
   ·rintro⟨a,b,d⟩;exact⟨⟨i.1,a⟩,by omega,by omega⟩
   rintro⟨a,b,d⟩;exact⟨a.2,by omega,by omega⟩
  |false=>
   refine⟨?_,by simp,m⟩;constructor
   ·intro h;cases h
   rintro⟨a,b,d⟩;exact i.2 ⟨a.1,by omega,by omega⟩
theorem EB (x:Ty):∀i c,i<=9->Bw (x.gQ i c) x.right i x.deep x.count c:=by
 induction x using Ty.ind with
 |h k s l t ih=>
  intro i c p;unfold Bw;simp only[Ty.gQ,Ty.right,Ty.deep,Ty.count,zy];by_cases e:8<i\/c=0\/fH k s l.length t=false
  ·simp only[zj e];refine⟨?_,by simp,zd _⟩;constructor
   ·intro h;cases h
   rintro⟨⟨a,_⟩,b,d⟩;rcases e with e|e|e
   ·omega
   ·omega
   rw[e]at a;cases a
  simp only[zi e];have j:i<=8/\0<c/\fH k s l.length t=true:=by
   refine⟨by omega,by omega, ?_⟩;cases h:fH k s l.length t with
   |true=>rfl
   |false=>exact absurd (.inr (.inr h)) e
  obtain⟨n,o,q⟩:=S3 l ih (i+1) (c-1) (by omega);refine⟨?_,fun m=>by have:=o m;omega,by omega⟩;rw[n];constructor
  ·rintro⟨a,b,d⟩;exact⟨⟨j.2.2,a⟩,by omega,by omega⟩
  rintro⟨a,b,d⟩;exact⟨a.2,by omega,by omega⟩
theorem LW (x:Ty):(x.gQ 1 64).1=x.may:=by
 have h:=(EB x 1 64 (by omega)).1;rw[yP,h];simp only[Ty.may,zy,zY];constructor
 ·rintro⟨a,b,c⟩;exact⟨⟨by omega,by omega⟩,a⟩
 rintro⟨⟨a,b⟩,c⟩;exact⟨c,by omega,by omega⟩
