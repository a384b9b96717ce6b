/- Texts and the lists of their bytes: small plain laws. No program in sight. -/
import Derived.Below
import Derived.Laws.Strings
import Derived.StillTail
set_option linter.all false
namespace Go.Proofs.YtdbmifjankgfpaaGreatDoor
variable {s:ByteArray}{k a x i f e:Nat}{out:List UInt8}{listed:Array Bool}{d:Type}{Q:Exit->Act->World->Prop}{w:World}
def zg:=@Nat.le_refl
def zh:=@if_neg
def zi:=@if_pos
def zj:=@List.length_append
def zo:=@List.eq_nil_of_length_eq_zero
def zv:=@List.take_of_length_le
def zw:=@List.getD_eq_getElem?_getD
def zx:=@List.getElem?_eq_getElem
def zy:=@List.length_cons
def zz:=@Bool.and_eq_true
def zB:=@List.append_assoc
def zC:=@List.take_append_drop
def zP:=@List.cons_append
def zU:=@Nat.lt_of_lt_of_le
def zV:=@List.length_take
def zW:=@List.take_append_of_le_length
def zY:=@decide_eq_true_eq
def yd:=@Array.getElem?_eq_some_iff
def yi:=@Nat.add_assoc
def yl:=@List.getElem?_append_right
def yp:=@Nat.pow_le_pow_right
def yt:=@List.take_succ_eq_append_getElem
def yD:=@Nat.min_eq_left
def yE:=@Bool.eq_iff_iff
def yK:=@List.drop_append_of_le_length
def yX:=@decide_eq_false_iff_not
def y9:=@List.drop_eq_getElem_cons
def xa:=@List.getElem?_eq_none
def xf:=@List.mem_cons
def xg:=@Bool.eq_false_or_eq_true
def xo:=@Nat.mod_lt
def xr:=@Nat.two_pow_add_eq_or_of_lt
def xu:=@congrArg
def xA:=@List.length_replicate
def xC:=@List.getElem?_append_left
def xG:=@Nat.lt_or_ge
def xK:=@if_true
def xO:=@List.drop_drop
def xR:=@Ne.symm
def xY:=@Nat.pow_add
def Zn:=@Nat.mul_comm
def Zp:=@List.mem_range
def Zu:=@mem_ready
def Zx:=@List.all_eq_true
def ZC:=@Bool.or_eq_false_iff
def ZI:=@List.replicate_succ
def ZM:=@Nat.sub_self
def ZS:=@List.drop_take
def ZW:=@Array.getElem?_eq_getElem
def Yb:=@dif_pos
def Ym:=@List.map_append
theorem aF {a b:ByteArray}(h:a.data.toList=b.data.toList):a=b:=by
 cases a;cases b;simp at h;simpa using h
theorem iC (s:ByteArray):(⟨s.data.toList.toArray⟩:ByteArray)=s:=aF (by simp)
theorem aa (s:ByteArray):s.data.toList.length=s.size:=by simp
theorem bI (l:List UInt8):(⟨l.toArray⟩:ByteArray).size=l.length:=by simp[ByteArray.size]
theorem aU (a b:ByteArray):(a++b).data.toList=a.data.toList++b.data.toList:=by
 rw[ByteArray.data_append];simp
theorem ar (s:ByteArray)(i j:Nat):(s.extract i j).data.toList=(s.data.toList.take j).drop i:=by
 rw[ByteArray.data_extract,Array.toList_extract,List.extract_eq_take_drop,ZS]
theorem aq (s:ByteArray)(i j:Nat)(b:j<=s.size):(s.extract i j).size=j-i:=by
 rw[ByteArray.size_extract,yD b]
theorem bW (a b:ByteArray):(a++b).size=a.size+b.size:=ByteArray.size_append
theorem jt (s:ByteArray)(k:Nat)(h:k<s.size):s.data.toList.take (k+1)=s.data.toList.take k++ [s[k]]:=by
 rw[yt (by simpa using h)];rfl
theorem drop_cons (s:ByteArray)(k:Nat)(h:k<s.size):s.data.toList.drop k=s[k]::s.data.toList.drop (k+1):=by
 rw[y9 (by simpa using h)];rfl
theorem length_take (s:ByteArray)(k:Nat)(h:k<=s.size):(s.data.toList.take k).length=k:=by
 rw[zV,yD (by simpa using h)]
theorem dq (s:ByteArray):s.data.toList.take s.size=s.data.toList:=zv (by simp)
theorem gH (s:ByteArray)(k:Nat)(h:k<s.size):s.data.toList[k]?=some s[k]:=by
 rw[zx (by simpa using h)];rfl
theorem Kn (s:ByteArray):s.extract 0 s.size=s:=aF (by rw[ar,dq];simp)
theorem CA (s:ByteArray)(i a b:Nat)(c:i+b<=s.size):(s.extract i s.size).extract a b=s.extract (i+a) (i+b):=by
 apply aF;rw[ar,ar,ar,dq,List.take_drop,xO]
theorem eu (t:ByteArray):(t.size=0/\t=⟨#[]⟩)\/(t.size≠0/\t.toList.isEmpty=false/\(!t.toList.isEmpty)=true):=by
 by_cases h:t.size=0
 ·exact .inl ⟨h,aF (zo (by simpa using h))⟩
 refine .inr ⟨h, ?_, ?_⟩<;>rw[ByteArray.toList_eq]<;>cases h2:t.data.toList with
 |nil=>exact absurd (by rw[<-aa,h2];rfl) h
 |cons a b=>rfl
theorem eP (e:Int):(e=0/\(e==0)=true/\(e !=0)=false)\/(e≠0/\(e==0)=false/\(e !=0)=true):=by
 by_cases h:e=0
 ·exact .inl ⟨h,by simp[h],by simp[h]⟩
 exact .inr ⟨h,by simp[h],by simp[h]⟩
theorem pW (a b:ByteArray):(a=b/\(a.toList==b.toList)=true/\(a.toList !=b.toList)=false)\/(a≠b/\(a.toList==b.toList)=false/\(a.toList !=b.toList)=true):=by
 by_cases h:a=b
 ·subst h;exact .inl ⟨rfl,by simp,by simp⟩
 have c:a.toList≠b.toList:=by
  intro e;rw[ByteArray.toList_eq,ByteArray.toList_eq]at e;exact h (aF e)
 exact .inr ⟨h,by simp[c],by simp[c]⟩
abbrev Nx (α:Type):=ByteArray->Int×α×Nat×Nat
structure kF {α:Type}(nx:Nx α):Prop where
 pos:∀s,(nx s).1=0->0<(nx s).2.2.1/\(nx s).2.2.1<=s.size
 ext:∀s t,(nx s).1≠2->nx (s++t)=nx s
 short:∀s,(nx s).1=2->(nx s).2.2.2=0
abbrev WK (α:Type):=List α×ByteArray×Nat×Int
def WK.cons {α:Type}(x:α)(m:Nat)(r:WK α):WK α:=(x::r.1,r.2.1,m+r.2.2.1,r.2.2.2)
def spl {α:Type}(nx:Nx α):Nat->ByteArray->WK α
 |0,s=>([],s,0,0)
 |f+1,s=>if(nx s).1=0 then(spl nx f (s.extract (nx s).2.2.1 s.size)).cons (nx s).2.1 (nx s).2.2.2 else([],s,(nx s).2.2.2,if(nx s).1=2 then 0 else(nx s).1)
def split {α:Type}(nx:Nx α)(s:ByteArray):WK α:=spl nx (s.size+1) s
theorem nQ (s:ByteArray)(n:Nat)(h:0<n)(b:n<=s.size):(s.extract n s.size).size<s.size:=by rw[aq _ _ _ (zg _)];omega
theorem Er {nx:Nx d}(h:kF nx):∀(f g:Nat) (s:ByteArray),s.size<f->s.size<g->spl nx f s=spl nx g s
 |0,_,_,hf,_=>absurd hf (by omega)
 |_,0,_,_,hg=>absurd hg (by omega)
 |f+1,g+1,s,hf,hg=>by
  unfold spl;by_cases b:(nx s).1=0
  ·rw[zi b,zi b];obtain⟨e,c⟩:=h.pos s b;have:=nQ s _ e c;rw[Er h f g _ (by omega) (by omega)]
  rw[zh b,zh b]
theorem jB {nx:Nx d}(h:kF nx)(s:ByteArray):split nx s=if(nx s).1=0 then(split nx (s.extract (nx s).2.2.1 s.size)).cons (nx s).2.1 (nx s).2.2.2 else([],s,(nx s).2.2.2,if(nx s).1=2 then 0 else(nx s).1):=by
 rw[split,spl];by_cases b:(nx s).1=0
 ·rw[zi b,zi b];obtain⟨e,c⟩:=h.pos s b;have:=nQ s _ e c;rw[split,Er h s.size _ _ (by omega) (Nat.lt_succ_self _)]
 rw[zh b,zh b]
theorem iD {b:Type}{nx:Nx b}(h:kF nx)(c:(nx s).1=0):split nx s=(split nx (s.extract (nx s).2.2.1 s.size)).cons (nx s).2.1 (nx s).2.2.2:=by rw[jB h s,zi c]
theorem gh {c:Type}{nx:Nx c}(h:kF nx)(b:(nx s).1=2):split nx s=([],s,0,0):=by
 rw[jB h s,zh (by omega),zi b,h.short s b]
theorem ru {c:Type}{nx:Nx c}(h:kF nx)(d:(nx s).1≠0)(b:(nx s).1≠2):split nx s=([],s,(nx s).2.2.2,(nx s).1):=by
 rw[jB h s,zh d,zh b]
theorem kX {α:Type}{nx:Nx α}(h:kF nx){p:ByteArray->Prop}(stop:∀s,(nx s).1≠0->p s)(go:∀s,(nx s).1=0->p (s.extract (nx s).2.2.1 s.size)->p s)(s:ByteArray):p s:=by
 suffices H:∀n (s:ByteArray),s.size<n->p s from H (s.size+1) s (Nat.lt_succ_self _)
 intro n;induction n with
 |zero=>intro s hs;omega
 |succ n ih=>
  intro s hs;by_cases h0:(nx s).1=0
  ·obtain⟨h1,h2⟩:=h.pos s h0;have:=nQ s _ h1 h2;exact go s h0 (ih _ (by omega))
  exact stop s h0
theorem Hi {c:Type}{nx:Nx c}(h:kF nx)(s:ByteArray):((split nx s).2.2.2=0->(nx (split nx s).2.1).1=2)/\((split nx s).2.2.2≠0->(nx (split nx s).2.1).1=(split nx s).2.2.2/\(split nx s).2.2.2≠2):=by
 induction s using kX h with
 |stop s h0=>
  by_cases b:(nx s).1=2
  ·rw[gh h b];exact⟨fun _=>b,fun h=>absurd rfl h⟩
  rw[ru h h0 b];exact⟨fun h=>absurd h h0,fun _=>⟨rfl,b⟩⟩
 |go s h0 ih=>rw[iD h h0];exact ih
theorem tB {b:Type}{nx:Nx b}(h:kF nx)(s:ByteArray):∃k,k<=s.size/\(split nx s).2.1=s.extract k s.size:=by
 induction s using kX h with
 |stop s h0=>
  refine⟨0,by omega, ?_⟩;rw[Kn,jB h s,zh h0]
 |go s h0 ih=>
  obtain⟨k,d,e⟩:=ih;obtain⟨i,c⟩:=h.pos s h0;have hz:(s.extract (nx s).2.2.1 s.size).size=s.size-(nx s).2.2.1:=aq _ _ _ (zg _);refine⟨(nx s).2.2.1+k,by omega, ?_⟩;rw[iD h h0];show(split nx (s.extract (nx s).2.2.1 s.size)).2.1=_
  rw[e,hz,CA _ _ _ _ (by omega)];congr 1
  omega
theorem Ko (s t:ByteArray)(n:Nat)(h:n<=s.size):(s++t).extract n (s++t).size=s.extract n s.size++t:=by
 apply aF;rw[ar,aU,aU,ar,bW,dq];rw[zv (by rw[zj,aa,aa];omega),yK (by rw[aa];exact h)]
theorem oZ {nx:Nx d}(h:kF nx)(s t:ByteArray):
 split nx (s++t)=if(split nx s).2.2.2=0 then((split nx s).1++(split nx ((split nx s).2.1++t)).1,(split nx ((split nx s).2.1++t)).2.1,(split nx s).2.2.1+(split nx ((split nx s).2.1++t)).2.2.1,(split nx ((split nx s).2.1++t)).2.2.2)
  else((split nx s).1,(split nx s).2.1++t,(split nx s).2.2.1,(split nx s).2.2.2):=by
 induction s using kX h with
 |stop s h0=>
  by_cases b:(nx s).1=2
  ·rw[gh h b];simp
  have c:=h.ext s t b;rw[ru h h0 b,zh h0,ru h (by rw[c];exact h0) (by rw[c];exact b),c]
 |go s h0 ih=>
  obtain⟨e,b⟩:=h.pos s h0;have c:=h.ext s t (by rw[h0];decide);rw[iD h (s:=s++t) (by rw[c];exact h0),iD h h0,c,Ko _ _ _ b,ih];unfold WK.cons;by_cases hz:(split nx (s.extract (nx s).2.2.1 s.size)).2.2.2=0
  ·rw[zi hz,zi hz];simp[yi]
  rw[zh hz,zh hz]
theorem uG {b:Type}{nx:Nx b}(h:kF nx)(s t:ByteArray)(c:(split nx s).2.2.2=0):split nx (s++t)=((split nx s).1++(split nx ((split nx s).2.1++t)).1,(split nx ((split nx s).2.1++t)).2.1,(split nx s).2.2.1+(split nx ((split nx s).2.1++t)).2.2.1,(split nx ((split nx s).2.1++t)).2.2.2):=by
 rw[oZ h,zi c]
structure gE where
 buf:ByteArray
 fault:Int
 laid:Nat
 told:Nat
def gE.new :gE:=⟨ByteArray.empty,0,0,0⟩
def mN {α:Type}(nx:Nx α)(x:gE)(s:ByteArray):gE×List α×Int:=
 if x.fault≠0 then({x with laid:=0},[],x.fault)
 else(⟨(split nx (x.buf++s)).2.1,(split nx (x.buf++s)).2.2.2,s.size+(split nx (x.buf++s)).2.2.1,x.told+(split nx (x.buf++s)).1.length⟩,(split nx (x.buf++s)).1,(split nx (x.buf++s)).2.2.2)
theorem eX {b:Type}{nx:Nx b}{x:gE}(h:x.fault≠0)(s:ByteArray):mN nx x s=({x with laid:=0},[],x.fault):=by unfold mN;rw[zi h]
theorem gj {b:Type}{nx:Nx b}{x:gE}(h:x.fault=0)(s:ByteArray):mN nx x s=(⟨(split nx (x.buf++s)).2.1,(split nx (x.buf++s)).2.2.2,s.size+(split nx (x.buf++s)).2.2.1,x.told+(split nx (x.buf++s)).1.length⟩,(split nx (x.buf++s)).1,(split nx (x.buf++s)).2.2.2):=by unfold mN;rw[zh (by simp[h])]
theorem Ml {b:Type}{nx:Nx b}(x:gE)(s:ByteArray):(mN nx x s).1.fault=(mN nx x s).2.2:=by
 by_cases h:x.fault=0
 ·rw[gj h]
 rw[eX h]
structure uH {α:Type}(nx:Nx α)(x:gE)(s:ByteArray)(l:List α):Prop where
 fault:x.fault=0
 err:(split nx s).2.2.2=0
 buf:x.buf=(split nx s).2.1
 told:l=(split nx s).1
theorem uH.new {b:Type}{nx:Nx b}(h:kF nx)(c:(nx ByteArray.empty).1=2):uH nx gE.new ByteArray.empty ([]:List b):=by
 have:=gh h c;exact⟨rfl,by rw[this],by rw[this];rfl,by rw[this]⟩
theorem uH.mN {b:Type}{nx:Nx b}(h:kF nx){x:gE}{l:List b}(hx:uH nx x s l)(t:ByteArray):
 (mN nx x t).2.2=(split nx (s++t)).2.2.2/\l++(mN nx x t).2.1=(split nx (s++t)).1/\(mN nx x t).1.buf=(split nx (s++t)).2.1/\((mN nx x t).2.2=0->uH nx (mN nx x t).1 (s++t) (l++(mN nx x t).2.1)):=by
 have e:=uG h s t hx.err;rw[gj hx.fault,hx.buf,e,hx.told];refine⟨rfl,rfl,rfl,fun c=>⟨c, ?_, ?_, ?_⟩⟩
 ·rw[e];exact c
 ·rw[e]
 rw[e]
def pX {α:Type}(nx:Nx α)(x:gE):Prop:=x.fault=0->(nx x.buf).1=2
theorem pX.new {b:Type}{nx:Nx b}(c:(nx ByteArray.empty).1=2):pX nx gE.new:=fun _=>c
theorem pX.mN {c:Type}{nx:Nx c}(h:kF nx)(x:gE)(s:ByteArray):pX nx (mN nx x s).1:=by
 by_cases b:x.fault=0
 ·rw[gj b];exact(Hi h _).1
 rw[eX b];exact fun d=>absurd d b
def du :List UInt8->Nat
 | []=>0
 |b::t=>b.toNat+256*du t
theorem jC (l:List UInt8):du l<2^(8*l.length):=by
 induction l with
 |nil=>simp[du]
 |cons b t ih=>
  have:=b.toNat_lt;rw[zy,show 8*(t.length+1)=8+8*t.length from by omega,xY];simp only[du];omega
theorem Hj (l t:List UInt8):du (l++t)=du l+2^(8*l.length)*du t:=by
 induction l with
 |nil=>simp[du]
 |cons b r ih=>
  rw[zP,du,du,ih,zy,show 8*(r.length+1)=8+8*r.length from by omega,xY,Nat.mul_add,Nat.mul_assoc];omega
theorem O6 (l:List UInt8)(b:UInt8):du (l++ [b])=du l+b.toNat*2^(8*l.length):=by
 rw[Hj];simp[du,Zn]
def lK (l:List UInt8):Nat:=du l.reverse
theorem uI (l:List UInt8)(b:UInt8):lK (l++ [b])=256*lK l+b.toNat:=by
 simp[lK,du];omega
theorem uJ (l:List UInt8):lK l<2^(8*l.length):=by
 have:=jC l.reverse;simpa[lK]using this
theorem Vm (n b i:Nat)(c:n<2^(8*i)):n|||b*2^(8*i)=n+b*2^(8*i):=by
 rw[Nat.or_comm,Zn,<-xr c];omega
theorem le_pow (i:Nat)(hi:i<=8):2^(8*i)<=18446744073709551616:=by
 have:2^(8*i)<=2^64:=yp (by omega) (by omega);simpa using this
theorem le_step (n b i:Nat)(h:b<256)(e:n<2^(8*i)):n+b*2^(8*i)<2^(8*(i+1)):=by
 have d:2^(8*(i+1))=256*2^(8*i):=by rw[show 8*(i+1)=8+8*i from by omega,xY]
 have c:b*2^(8*i)<=255*2^(8*i):=Nat.mul_le_mul_right _ (by omega);omega
def cw (s:ByteArray):Nat->Nat->Nat->Nat×Nat×Int
 |0,_,_=>(0,0,2)
 |f+1,i,n=>if h:i<s.size then
  if(i=9/\1<s[i].toNat)\/(0<i/\s[i].toNat=0)then(0,0,3)
  else if s[i].toNat<128 then(n+s[i].toNat%128*2^(7*i),i+1,0)
  else cw s f (i+1) (n+s[i].toNat%128*2^(7*i))
  else(0,0,2)
def aA (s:ByteArray):Nat×Nat×Int:=cw s 10 0 0
theorem ju (s:ByteArray)(f i n:Nat)(h:¬i<s.size):cw s f i n=(0,0,2):=by
 cases f<;>simp[cw,h]
theorem nR (s:ByteArray)(f i n:Nat)(h:i<s.size)(b:(i=9/\1<s[i].toNat)\/(0<i/\s[i].toNat=0)):cw s (f+1) i n=(0,0,3):=by
 rw[cw,Yb h,zi b]
theorem jD (s:ByteArray)(f i n:Nat)(h:i<s.size)(b:¬((i=9/\1<s[i].toNat)\/(0<i/\s[i].toNat=0)))(c:s[i].toNat<128):
 cw s (f+1) i n=(n+s[i].toNat%128*2^(7*i),i+1,0):=by
 rw[cw,Yb h,zh b,zi c]
theorem jE (s:ByteArray)(f i n:Nat)(h:i<s.size)(b:¬((i=9/\1<s[i].toNat)\/(0<i/\s[i].toNat=0)))(c:¬s[i].toNat<128):
 cw s (f+1) i n=cw s f (i+1) (n+s[i].toNat%128*2^(7*i)):=by
 rw[cw,Yb h,zh b,zh c]
theorem uK (n b i:Nat)(h:n<2^(7*i)):n+b%128*2^(7*i)<2^(7*(i+1)):=by
 have c:b%128<=127:=by omega
 have e:2^(7*(i+1))=128*2^(7*i):=by rw[show 7*(i+1)=7+7*i from by omega,xY]
 have d:b%128*2^(7*i)<=127*2^(7*i):=Nat.mul_le_mul_right _ c;omega
theorem Kp (i:Nat)(hi:i<=9):2^(7*i)<=9223372036854775808:=by
 have:2^(7*i)<=2^63:=yp (by omega) (by omega);simpa using this
theorem Es (n b i:Nat)(hi:i<=9)(d:n<2^(7*i))(j:¬((i=9/\1<b)\/(0<i/\b=0))):n+b%128*2^(7*i)<18446744073709551616:=by
 rcases xG i 9 with h|h
 ·have e:=uK n b i d;have c:=Kp (i+1) (by omega);omega
 obtain rfl:i=9:=by omega
 have c:b%128<=1:=by omega
 omega
theorem WL (n b i:Nat)(c:n<2^(7*i)):n|||(b%128)*2^(7*i)=n+b%128*2^(7*i):=by
 rw[Nat.or_comm,Zn,<-xr c];omega
theorem O7 (s:ByteArray)(f i n:Nat)(hi:i+f=10)(e:n<2^(7*i))(h:(cw s f i n).2.2=0):
 i<(cw s f i n).2.1/\(cw s f i n).2.1<=10/\(cw s f i n).2.1<=s.size/\(cw s f i n).1<18446744073709551616:=by
 induction f generalizing i n with
 |zero=>simp[cw]at h
 |succ f ih=>
  by_cases b:i<s.size
  ·by_cases c:(i=9/\1<s[i].toNat)\/(0<i/\s[i].toNat=0)
   ·rw[nR s f i n b c]at h;simp at h
   by_cases d:s[i].toNat<128
   ·rw[jD s f i n b c d];exact⟨by simp,by simp;omega,by simp;omega,Es n _ i (by omega) e c⟩
   rw[jE s f i n b c d]at h⊢;have:=ih (i+1) _ (by omega) (uK n _ i e) h;omega
  rw[ju s _ i n b]at h;simp at h
theorem ib (s:ByteArray)(h:(aA s).2.2=0):0<(aA s).2.1/\(aA s).2.1<=10/\(aA s).2.1<=s.size/\(aA s).1<18446744073709551616:=
 O7 s 10 0 0 rfl (by simp) h
theorem Mm (s:ByteArray)(f i n:Nat)(h:(cw s f i n).2.2≠0):(cw s f i n).1=0/\(cw s f i n).2.1=0/\((cw s f i n).2.2=2\/(cw s f i n).2.2=3):=by
 induction f generalizing i n with
 |zero=>simp[cw]
 |succ f ih=>
  by_cases b:i<s.size
  ·by_cases c:(i=9/\1<s[i].toNat)\/(0<i/\s[i].toNat=0)
   ·rw[nR s f i n b c];simp
   by_cases d:s[i].toNat<128
   ·rw[jD s f i n b c d]at h;simp at h
   rw[jE s f i n b c d]at h⊢;exact ih _ _ h
  rw[ju s _ i n b];simp
def tZ (out:List UInt8)(back:Nat):Nat->List UInt8
 |0=>out
 |n+1=>tZ (out++ [out.getD (out.length-back) 0]) back n
theorem uL (out:List UInt8)(b n:Nat):(tZ out b n).length=out.length+n:=by
 induction n generalizing out with
 |zero=>rfl
 |succ n ih=>rw[tZ,ih];simp;omega
theorem Kq (out:List UInt8)(b m n:Nat):tZ out b (m+n)=tZ (tZ out b m) b n:=by
 induction m generalizing out with
 |zero=>simp[tZ]
 |succ m ih=>rw[show m+1+n=(m+n)+1 from by omega,tZ,tZ,ih]
theorem Et (out:List UInt8)(b n:Nat):tZ out b (n+1)=tZ out b n++ [(tZ out b n).getD ((tZ out b n).length-b) 0]:=by
 rw[Kq];rfl
theorem Mn (out:List UInt8)(b m:Nat)(d:m<=b)(e:b<=out.length):tZ out b m=out++(out.drop (out.length-b)).take m:=by
 induction m with
 |zero=>simp[tZ]
 |succ m ih=>
  rw[Et,ih (by omega)];have c:(out++(out.drop (out.length-b)).take m).length=out.length+m:=by simp;omega
  rw[c,zB];congr 1
  rw[yt (by simp;omega)];congr 1
  rw[zw,xC (by omega),List.getElem_drop,zx (by omega)];simp;congr 1
  omega
def bh (b:Nat):Nat:=if b%4=0 then(if 60<=b/4 then b/4-58 else 1)else if b%4=1 then 2 else if b%4=2 then 3 else 5
theorem Br (b:Nat)(c:b<256):1<=bh b/\bh b<=5:=by
 unfold bh;split<;>(try split)<;>(try split)<;>omega
def cS (b l:Nat):Nat:=if b%4=0 then(if 60<=b/4 then l+1 else b/4+1)else if b%4=1 then 4+b/4%8 else b/4+1
def j8 (b l:Nat):Nat:=if b%4=1 then b/4/8*256+l else l
def iE (s:ByteArray)(k b:Nat):Nat:=du (s.extract (k+1) (k+bh b)).data.toList
def cd (s:ByteArray)(size k b:Nat)(out:List UInt8):Int×Nat×List UInt8:=
 if s.size<k+bh b then(2,k,out)
 else if(b%4≠0/\(j8 b (iE s k b)=0\/out.length<j8 b (iE s k b)))\/size-out.length<cS b (iE s k b)then(3,k,out)
 else if b%4=0 then
  if s.size<k+bh b+cS b (iE s k b)then(2,k,out)
  else(0,k+bh b+cS b (iE s k b),out++(s.extract (k+bh b) (k+bh b+cS b (iE s k b))).data.toList)
 else(0,k+bh b,tZ out (j8 b (iE s k b)) (cS b (iE s k b)))
def gX (s:ByteArray)(size:Nat):Nat->Nat->List UInt8->Int×List UInt8
 |0,_,_=>(2,[])
 |f+1,k,out=>if h:k<s.size then
  if(cd s size k s[k].toNat out).1=0 then gX s size f (cd s size k s[k].toNat out).2.1 (cd s size k s[k].toNat out).2.2
  else((cd s size k s[k].toNat out).1,[])
  else if out.length<size then(2,[])else(0,out)
def iW (s:ByteArray)(size:Nat):Int×List UInt8:=gX s size (s.size+1) 0 []
def aE (s:ByteArray):Nat×Nat×Int:=
 if(aA s).2.2=0 then(if 4294967295<(aA s).1 then(0,0,5)else aA s)else(0,0,(aA s).2.2)
def bd (s:ByteArray)(most:Int):Int×List UInt8:=
 if(aE s).2.2≠0 then((aE s).2.2,[])
 else if most<(aE s).1 then(5,[])
 else iW (s.extract (aE s).2.1 s.size) (aE s).1
theorem O8 {size b:Nat}(j:b<256)(n:k<s.size)(l:out.length<=size)(h:(cd s size k b out).1=0):
 k<(cd s size k b out).2.1/\(cd s size k b out).2.1<=s.size/\(cd s size k b out).2.2.length<=size:=by
 have m:=Br b j;unfold cd at h⊢;split at h<;>rename_i c
 ·simp at h
 split at h<;>rename_i d
 ·simp at h
 split at h<;>rename_i e
 ·split at h<;>rename_i i
  ·simp at h
  rw[zh c,zh d,zi e,zh i];refine⟨by simp;omega,by simp;omega, ?_⟩;rw[zj,aa,aq _ _ _ (by omega)];omega
 rw[zh c,zh d,zh e];refine⟨by simp;omega,by simp;omega, ?_⟩;rw[uL];omega
theorem Mo {size:Nat}{x:Int×List UInt8}(b:k<s.size)(hx:gX s size (f+1) k out=x)(h:(cd s size k s[k].toNat out).1=0):
 gX s size f (cd s size k s[k].toNat out).2.1 (cd s size k s[k].toNat out).2.2=x:=by
 rw[<-hx,gX,Yb b,zi h]
theorem O9 {size:Nat}{x:Int×List UInt8}(b:k<s.size)(hx:gX s size (f+1) k out=x)(h:(cd s size k s[k].toNat out).1≠0):
 x=((cd s size k s[k].toNat out).1,[]):=by
 rw[<-hx,gX,Yb b,zh h]
theorem Eu {size:Nat}{x:Int×List UInt8}(b:¬k<s.size)(hx:gX s size (f+1) k out=x):x=if out.length<size then(2,[])else(0,out):=by
 rw[<-hx,gX,dif_neg b]
def iF (x n:Nat):Nat:=x/2^n|||x*2^(32-n)%4294967296
def sg0 (x:Nat):Nat:=iF x 7^^^iF x 18^^^x/2^3
def sg1 (x:Nat):Nat:=iF x 17^^^iF x 19^^^x/2^10
def Sg0 (x:Nat):Nat:=iF x 2^^^iF x 13^^^iF x 22
def Sg1 (x:Nat):Nat:=iF x 6^^^iF x 11^^^iF x 25
def Ev (e f g:Nat):Nat:=e&&&f|||(e^^^4294967295)&&&g
def uM (a b c:Nat):Nat:=a&&&b|||a&&&c|||b&&&c
theorem WM {n:Nat}:n<4294967296↔n<2^32:=by simp
theorem ua {b:Nat}(c:a<4294967296)(d:b<4294967296):a|||b<4294967296:=by
 rw[WM]at*;exact Nat.or_lt_two_pow c d
theorem eH {b:Nat}(c:a<4294967296):a&&&b<4294967296:=Nat.lt_of_le_of_lt Nat.and_le_left c
theorem dC {b:Nat}(c:a<4294967296)(d:b<4294967296):a^^^b<4294967296:=by
 rw[WM]at*;exact Nat.xor_lt_two_pow c d
theorem mO (n:Nat)(b:a<4294967296):a/2^n<4294967296:=Nat.lt_of_le_of_lt (Nat.div_le_self _ _) b
theorem ey (n:Nat)(h:x<4294967296):iF x n<4294967296:=ua (mO n h) (xo _ (by omega))
theorem agf (h:x<4294967296):sg0 x<4294967296:=dC (dC (ey _ h) (ey _ h)) (mO _ h)
theorem agh (h:x<4294967296):sg1 x<4294967296:=dC (dC (ey _ h) (ey _ h)) (mO _ h)
theorem agi (h:x<4294967296):Sg0 x<4294967296:=dC (dC (ey _ h) (ey _ h)) (ey _ h)
theorem agj (h:x<4294967296):Sg1 x<4294967296:=dC (dC (ey _ h) (ey _ h)) (ey _ h)
theorem aff {g:Nat}(b:e<4294967296):Ev e f g<4294967296:=ua (eH b) (eH (dC b (by omega)))
theorem ab3 {b c:Nat}(d:a<4294967296)(e:b<4294967296):uM a b c<4294967296:=ua (ua (eH d) (eH d)) (eH e)
theorem O' (e f g:Nat)(b:e<4294967296):e&&&f^^^(e^^^4294967295)&&&g=Ev e f g:=by
 apply Nat.eq_of_testBit_eq;intro i;have h:Nat.testBit 4294967295 i=decide (i<32):=by
  have:=Nat.testBit_two_pow_sub_one 32 i;simpa using this
 unfold Ev;simp only[Nat.testBit_xor,Nat.testBit_and,Nat.testBit_or,h];by_cases hi:i<32
 ·simp only[hi,decide_true];cases Nat.testBit e i<;>cases Nat.testBit f i<;>cases Nat.testBit g i<;>rfl
 have c:Nat.testBit e i=false:=Nat.testBit_lt_two_pow (zU (WM.1 b) (yp (by omega) (by omega)));simp[hi,c]
theorem Mp (a b c:Nat):(a&&&b^^^a&&&c)^^^b&&&c=uM a b c:=by
 apply Nat.eq_of_testBit_eq;intro i;unfold uM;simp only[Nat.testBit_xor,Nat.testBit_and,Nat.testBit_or];cases Nat.testBit a i<;>cases Nat.testBit b i<;>cases Nat.testBit c i<;>rfl
def mP (s:ByteArray)(i:Nat):Nat:=(s.data.toList.getD (4*i) 0).toNat*16777216+(s.data.toList.getD (4*i+1) 0).toNat*65536+(s.data.toList.getD (4*i+2) 0).toNat*256+(s.data.toList.getD (4*i+3) 0).toNat
theorem Bs (s:ByteArray)(i:Nat):mP s i<4294967296:=by
 have d:=(s.data.toList.getD (4*i) 0).toNat_lt;have c:=(s.data.toList.getD (4*i+1) 0).toNat_lt;have e:=(s.data.toList.getD (4*i+2) 0).toNat_lt;have b:=(s.data.toList.getD (4*i+3) 0).toNat_lt;unfold mP;omega
def Bt (s:ByteArray)(l:List Nat)(i:Nat):Nat:=
 if i<16 then mP s i else(l.getD (i-16) 0+sg0 (l.getD (i-15) 0)+l.getD (i-7) 0+sg1 (l.getD (i-2) 0))%4294967296
def sched (s:ByteArray):Nat->List Nat
 |0=> []
 |i+1=>sched s i++ [Bt s (sched s i) i]
theorem jg (s:ByteArray)(i:Nat):(sched s i).length=i:=by
 induction i with
 |zero=>rfl
 |succ i ih=>simp[sched,ih]
theorem Pa (s:ByteArray)(l:List Nat)(i:Nat):Bt s l i<4294967296:=by
 unfold Bt;split
 ·exact Bs s i
 exact xo _ (by omega)
theorem dU (s:ByteArray)(i j:Nat)(h:j<i):(sched s i).getD j 0=Bt s (sched s j) j:=by
 induction i with
 |zero=>omega
 |succ i ih=>
  rw[sched,zw];by_cases b:j<i
  ·rw[xC (by rw[jg];exact b),<-zw];exact ih b
  obtain rfl:j=i:=by omega
  rw[yl (by rw[jg];exact zg _),jg,ZM];rfl
theorem Pb (s:ByteArray)(i j:Nat):(sched s i).getD j 0<4294967296:=by
 by_cases h:j<i
 ·rw[dU s i j h];exact Pa _ _ _
 rw[zw,xa (by rw[jg];omega)];simp
def mA (s:ByteArray)(i:Nat):Nat:=(sched s 64).getD i 0
theorem Pc (s:ByteArray)(i:Nat):mA s i<4294967296:=Pb s 64 i
theorem Bu (s:ByteArray)(i:Nat)(h:i<16):mA s i=mP s i:=by
 unfold mA;rw[dU s 64 i (by omega),Bt,zi h]
theorem Ti (s:ByteArray)(i:Nat)(h:16<=i)(b:i<64):mA s i=(mA s (i-16)+sg0 (mA s (i-15))+mA s (i-7)+sg1 (mA s (i-2)))%4294967296:=by
 unfold mA;rw[dU s 64 i b,Bt,zh (by omega),dU s 64 (i-16) (by omega),dU s 64 (i-15) (by omega),dU s 64 (i-7) (by omega),dU s 64 (i-2) (by omega),
  dU s i (i-16) (by omega),dU s i (i-15) (by omega),dU s i (i-7) (by omega),dU s i (i-2) (by omega)]
structure Sh where
 a:Nat
 b:Nat
 c:Nat
 d:Nat
 e:Nat
 f:Nat
 g:Nat
 h:Nat
structure Sh.ok (s:Sh):Prop where
 a:s.a<4294967296
 b:s.b<4294967296
 c:s.c<4294967296
 d:s.d<4294967296
 e:s.e<4294967296
 f:s.f<4294967296
 g:s.g<4294967296
 h:s.h<4294967296
def shP (k w:Nat)(s:Sh):Nat:=(s.h+Sg1 s.e+k+w+Ev s.e s.f s.g)%4294967296
def shQ (s:Sh):Nat:=(Sg0 s.a+uM s.a s.b s.c)%4294967296
def CB (k w:Nat)(s:Sh):Sh:=⟨(shP k w s+shQ s)%4294967296,s.a,s.b,s.c,(s.d+shP k w s)%4294967296,s.e,s.f,s.g⟩
theorem Mq (k w:Nat){s:Sh}(h:s.ok):(CB k w s).ok:=⟨xo _ (by omega),h.a,h.b,h.c,xo _ (by omega),h.e,h.f,h.g⟩
def fM (K:List Nat)(blk:ByteArray):Nat->Sh->Sh
 |0,s=>s
 |i+1,s=>CB (K.getD i 0) (mA blk i) (fM K blk i s)
theorem sB (K:List Nat)(blk:ByteArray)(i:Nat){s:Sh}(h:s.ok):(fM K blk i s).ok:=by
 induction i with
 |zero=>exact h
 |succ i ih=>exact Mq _ _ ih
def Vn (s t:Sh):Sh:=⟨(s.a+t.a)%4294967296,(s.b+t.b)%4294967296,(s.c+t.c)%4294967296,(s.d+t.d)%4294967296,(s.e+t.e)%4294967296,(s.f+t.f)%4294967296,(s.g+t.g)%4294967296,(s.h+t.h)%4294967296⟩
def pY (K:List Nat)(s:Sh)(blk:ByteArray):Sh:=Vn s (fM K blk 64 s)
theorem Pd (K:List Nat)(s:Sh)(blk:ByteArray):(pY K s blk).ok:=⟨xo _ (by omega),xo _ (by omega),xo _ (by omega),xo _ (by omega),xo _ (by omega),xo _ (by omega),xo _ (by omega),xo _ (by omega)⟩
def eY (blk:ByteArray)(k j:Nat):Nat:=if j<k then mA blk (j+16*((k-1-j)/16))else 0
theorem j9 (blk:ByteArray)(k d:Nat)(h:16<=k)(hd:d<16):eY blk k ((k+d)%16)=mA blk (k-16+d):=by
 unfold eY;rw[zi (by omega),show(k+d)%16+16*((k-1-(k+d)%16)/16)=k-16+d from by omega]
theorem uN (blk:ByteArray)(k:Nat):eY blk (k+1) (k%16)=mA blk k:=by
 unfold eY;rw[zi (by omega),show k%16+16*((k+1-1-k%16)/16)=k from by omega]
theorem CC (blk:ByteArray)(k j:Nat)(b:j<16)(c:j≠k%16):eY blk (k+1) j=eY blk k j:=by
 unfold eY;by_cases h:j<k
 ·rw[zi (by omega),zi h,show(k+1-1-j)/16=(k-1-j)/16 from by omega]
 rw[zh (by omega),zh h]
def Ew (p d:Nat):Nat->Nat->Nat
 |0,x=>x
 |n+1,x=>Ew p d n (if(x+2^n)^d/65536^(2*d)<p then x+2^n else x)
def ab4 (p d:Nat):Nat:=Ew p d 36 0%4294967296
def ab5 (p n:Nat):Bool:=(List.range n).all fun d=>decide (d<2)||decide (0<p%d)
def uO :Nat->List Nat
 |0=> []
 |p+1=>if 2<=p/\ab5 p p=true then uO p++ [p]else uO p
def Mr :List Nat:=uO 312
def uP :List Nat:=Mr.map (ab4 · 3)
def Ho :List Nat:= [0x428a2f98,0x71374491,0xb5c0fbcf,0xe9b5dba5,0x3956c25b,0x59f111f1,0x923f82a4,0xab1c5ed5,0xd807aa98,0x12835b01,0x243185be,0x550c7dc3,0x72be5d74,0x80deb1fe,0x9bdc06a7,0xc19bf174,
 0xe49b69c1,0xefbe4786,0x0fc19dc6,0x240ca1cc,0x2de92c6f,0x4a7484aa,0x5cb0a9dc,0x76f988da,0x983e5152,0xa831c66d,0xb00327c8,0xbf597fc7,0xc6e00bf3,0xd5a79147,0x06ca6351,0x14292967,
 0x27b70a85,0x2e1b2138,0x4d2c6dfc,0x53380d13,0x650a7354,0x766a0abb,0x81c2c92e,0x92722c85,0xa2bfe8a1,0xa81a664b,0xc24b8b70,0xc76c51a3,0xd192e819,0xd6990624,0xf40e3585,0x106aa070,
 0x19a4c116,0x1e376c08,0x2748774c,0x34b0bcb5,0x391c0cb3,0x4ed8aa4a,0x5b9cca4f,0x682e6ff3,0x748f82ee,0x78a5636f,0x84c87814,0x8cc70208,0x90befffa,0xa4506ceb,0xbef9a3f7,0xc67178f2]
theorem CD :uP=Ho:=by decide+kernel
def fA (v:Sh)(s:ByteArray):Nat->Sh
 |0=>v
 |i+1=>pY uP (fA v s i) (s.extract (64*i) (64*i+64))
theorem Ex {v:Sh}(h:v.ok)(s:ByteArray):∀i,(fA v s i).ok
 |0=>h
 |i+1=>Pd _ _ _
theorem CE (s p:ByteArray)(a b:Nat)(h:b<=s.size):(s++p).extract a b=s.extract a b:=by
 apply aF;rw[ar,ar,aU,zW (by simpa using h)]
theorem uQ (v:Sh)(s p:ByteArray):∀i,64*i<=s.size->fA v (s++p) i=fA v s i
 |0,_=>rfl
 |i+1,h=>by
  rw[fA,fA,uQ v s p i (by omega),CE s p _ _ (by omega)]
theorem Bv (v:Sh)(t:ByteArray)(a:Nat):∀b,64*(a+b)<=t.size->fA v t (a+b)=fA (fA v t a) (t.extract (64*a) t.size) b
 |0,_=>rfl
 |b+1,h=>by
  rw[<-yi,fA,fA,Bv v t a b (by omega),CA t _ _ _ (by omega)];rw[show 64*a+64*b=64*(a+b)from by omega,show 64*a+(64*b+64)=64*(a+b)+64 from by omega]
def dV (n:Nat):Nat:=(64-(n+9)%64)%64
def fH (m:Nat):List UInt8:=(List.range 8).map fun j=>UInt8.ofNat (m/2^(56-8*j))
theorem iw (m:Nat):(fH m).length=8:=by simp[fH]
theorem Ey (m i:Nat)(h:i<8):(fH m).take (i+1)=(fH m).take i++ [UInt8.ofNat (m/2^(56-8*i))]:=by
 rw[yt (by rw[iw];exact h)];congr 2
 simp[fH]
def Hp (n:Nat):List UInt8:=128::List.replicate (dV n) 0++fH (n*8)
def iG (n:Nat):ByteArray:=⟨(Hp n).toArray⟩
theorem AB (n:Nat):(Hp n).length=dV n+9:=by simp[Hp,iw]
theorem o4 (n:Nat):(iG n).size=dV n+9:=by rw[iG,bI,AB]
theorem sC (n:Nat):dV n<64:=xo _ (by omega)
theorem pZ (n:Nat):(n+(dV n+9))%64=0:=by unfold dV;omega
def D4 :Sh:=⟨0x6a09e667,0xbb67ae85,0x3c6ef372,0xa54ff53a,0x510e527f,0x9b05688c,0x1f83d9ab,0x5be0cd19⟩
theorem WN :D4.ok:=⟨by decide,by decide,by decide,by decide,by decide,by decide,by decide,by decide⟩
def wB (x:Nat):List UInt8:= [UInt8.ofNat (x/16777216),UInt8.ofNat (x/65536),UInt8.ofNat (x/256),UInt8.ofNat x]
def Sh.list (v:Sh):List Nat:= [v.a,v.b,v.c,v.d,v.e,v.f,v.g,v.h]
def Ez (v:Sh):List UInt8:=(v.list.map wB).flatten
def Hr (n:Nat)(v:Sh):List UInt8:=((v.list.take n).map wB).flatten
theorem Bw (v:Sh)(i:Nat)(h:i<8):Hr (i+1) v=Hr i v++wB (v.list.getD i 0):=by
 unfold Hr;have b:i<v.list.length:=h;rw[yt b,Ym,List.flatten_append,zw,zx b];simp
theorem WO (v:Sh):Hr 8 v=Ez v:=rfl
theorem sD (v:Sh)(i:Nat)(h:i<=8):(Hr i v).length=4*i:=by
 induction i with
 |zero=>rfl
 |succ i ih=>rw[Bw v i (by omega),zj,ih (by omega)];simp[wB];omega
theorem CF (v:Sh):(Ez v).length=32:=sD v 8 (zg _)
def Hs (s:ByteArray):Sh:=fA D4 (s++iG s.size) ((s++iG s.size).size/64)
def tC (s:ByteArray):ByteArray:=⟨(Ez (Hs s)).toArray⟩
theorem Bx (s:ByteArray):(tC s).size=32:=by rw[tC,bI,CF]
theorem Hu (s:ByteArray)(r:ByteArray)(b:r=s.extract (64*(s.size/64)) s.size++iG s.size):Hs s=fA (fA D4 s (s.size/64)) r (r.size/64):=by
 have hz:(s++iG s.size).size=s.size+(dV s.size+9):=by rw[bW,o4]
 have h:=pZ s.size;have e:r.size=s.size-64*(s.size/64)+(dV s.size+9):=by rw[b,bW,o4,aq _ _ _ (zg _)]
 have d:r=(s++iG s.size).extract (64*(s.size/64)) (s++iG s.size).size:=by
  rw[b];apply aF;rw[aU,ar,ar,dq,dq,aU,yK (by simp;omega)]
 have c:(s++iG s.size).size/64=s.size/64+r.size/64:=by omega
 unfold Hs;rw[c,Bv _ _ _ _ (by omega),<-d,uQ _ _ _ _ (by omega)]
def Hv (s:ByteArray):ByteArray:=tC (tC s)
def eZ (s:ByteArray):ByteArray:=(Hv s).extract 0 4
theorem By (s:ByteArray):(Hv s).size=32:=Bx _
theorem lL (s:ByteArray):(eZ s).size=4:=by rw[eZ,aq _ _ _ (by rw[By];omega)]
def oD (b:Nat):Bool:=decide ((97<=b/\b<=122)\/(48<=b/\b<=57)\/b=95)
def iH (l:List UInt8):Bool:=l.all fun b=>oD b.toNat
def bZ (s:ByteArray):Bool:=iH s.data.toList&&(decide (1<=s.size)&&decide (s.size<=12))
def fa (s:ByteArray):ByteArray:=⟨(s.data.toList++List.replicate (12-s.size) 0).toArray⟩
def ry (l:List UInt8):List UInt8:=(l.reverse.dropWhile (· ==0)).reverse
def dr (s:ByteArray):ByteArray:=⟨(ry s.data.toList).toArray⟩
def dt (s:ByteArray):Int×ByteArray:=if s.size=12/\bZ (dr s)=true then(0,dr s)else(3,ByteArray.empty)
theorem uR (l:List UInt8)(b:UInt8):iH (l++ [b])=(iH l&&oD b.toNat):=by simp[iH]
theorem AD (l:List UInt8)(k:Nat)(h:iH (l.take k)=false):iH l=false:=by
 simp only[iH,List.all_eq_false]at h⊢;obtain⟨x,hx,b⟩:=h;exact⟨x,List.mem_of_mem_take hx,b⟩
theorem Bz (b:Nat)(c:b<256):(oD b=false/\(b<48\/(57<b/\b<95)\/(95<b/\b<97)\/122<b)/\b≠95)\/(oD b=true/\((48<=b/\b<=57)\/(b=95)\/(97<=b/\b<=122))):=by
 rcases xg (oD b)with h|h
 ·right;refine⟨h, ?_⟩;simp only[oD,zY]at h;omega
 left;refine⟨h, ?_⟩;simp only[oD,yX]at h;omega
theorem dH (h:bZ s=true):1<=s.size/\s.size<=12:=by
 simp only[bZ,zz,zY]at h;exact h.2
theorem qa (h:s.size<1\/12<s.size):bZ s=false:=by
 rcases xg (bZ s)with h1|h1
 ·have:=dH h1;omega
 exact h1
theorem Pe (c:1<=s.size)(b:s.size<=12):bZ s=iH s.data.toList:=by simp[bZ,c,b]
theorem lM (s:ByteArray):(fa s).data.toList=s.data.toList++List.replicate (12-s.size) 0:=by simp[fa]
theorem ic (s:ByteArray)(h:s.size<=12):(fa s).size=12:=by
 rw[<-aa,lM];simp;omega
theorem Pf (l:List UInt8)(n:Nat)(h:∀b∈l,b≠0):ry (l++List.replicate n 0)=l:=by
 unfold ry;rw[List.reverse_append,List.reverse_replicate];have d:∀m:Nat,(List.replicate m (0:UInt8)++l.reverse).dropWhile (· ==0)=l.reverse.dropWhile (· ==0):=by
  intro m;induction m with
  |zero=>simp
  |succ m ih=>simp[ZI,ih]
 rw[d];have c:l.reverse.dropWhile (· ==0)=l.reverse:=by
  cases hl:l.reverse with
  |nil=>simp
  |cons x xs=>
   have hx:x∈l:=by rw[<-List.mem_reverse,hl];simp
   have:=h x hx;simp[this]
 rw[c,List.reverse_reverse]
theorem BA (l:List UInt8):∃n,l=ry l++List.replicate n 0:=by
 unfold ry;have h:∀m:List UInt8,∃n,m=List.replicate n 0++m.dropWhile (· ==0):=by
  intro m;induction m with
  |nil=>exact⟨0,by simp⟩
  |cons x xs ih=>
   by_cases hx:x=0
   ·obtain⟨n,b⟩:=ih;refine⟨n+1, ?_⟩;subst hx;simp only[ZI,zP];rw[List.dropWhile_cons];simp only[beq_self_eq_true,xK];rw[<-b]
   exact⟨0,by simp[hx]⟩
 obtain⟨n,b⟩:=h l.reverse;refine⟨n, ?_⟩;have:=xu List.reverse b;rw[List.reverse_reverse,List.reverse_append,List.reverse_replicate]at this;exact this
theorem Tj (s:ByteArray)(h:bZ s=true):∀b∈s.data.toList,b≠0:=by
 intro b d c;simp only[bZ,zz,iH,Zx]at h;have:=h.1 b d;subst c;simp[oD]at this
theorem Mt (s:ByteArray)(h:bZ s=true):dr (fa s)=s:=by
 apply aF;simp only[dr];rw[lM,Pf _ _ (Tj s h)]
theorem BB (s:ByteArray)(h:bZ s=true):dt (fa s)=(0,s):=by
 have b:=ic s (dH h).2;simp[dt,b,Mt s h,h]
theorem EA (s:ByteArray)(h:s.size≠12):dt s=(3,ByteArray.empty):=by simp[dt,h]
theorem Mu (s t:ByteArray)(h:dt s=(0,t)):fa t=s/\bZ t=true:=by
 unfold dt at h;split at h
 ·rename_i c
  injection h with _ ht;subst ht;refine⟨?_,c.2⟩;apply aF;obtain⟨n,b⟩:=BA s.data.toList;rw[lM];have hz:(dr s).size=(ry s.data.toList).length:=by rw[dr,bI]
  have d:(dr s).data.toList=ry s.data.toList:=by simp[dr]
  have e:=xu List.length b;simp only[zj,xA,aa]at e;rw[hz,d,show 12-(ry s.data.toList).length=n from by omega,<-b]
 injection h with h _;omega
theorem sE (s:ByteArray):dt s=(3,ByteArray.empty)\/∃t,dt s=(0,t):=by
 unfold dt;split
 ·exact .inr ⟨_,rfl⟩
 exact .inl rfl
structure aP where
 fm:Int
 mg:Nat
 fr:Int
 un:Int
 de:Int
 it:Int
structure Fr where
 id:Nat
 nm:ByteArray
 body:ByteArray
def mQ :Fr:=⟨0,ByteArray.empty,ByteArray.empty⟩
def aP.right (c:aP):Bool:=decide (1<=c.fm)&&(decide (c.fm<=3)&&(decide (1<=c.fr)&&(decide (c.fr<=65536)&&(decide (1<=c.un)&&(decide (c.un<=65536)&&(decide (1<=c.de)&&(decide (c.de<=16)&&(decide (1<=c.it)&&decide (c.it<=1024)))))))))
theorem aP.dj (c:aP):c.right=true↔1<=c.fm/\c.fm<=3/\1<=c.fr/\c.fr<=65536/\1<=c.un/\c.un<=65536/\1<=c.de/\c.de<=16/\1<=c.it/\c.it<=1024:=by
 simp only[aP.right,zz,zY]
inductive It where
 |mk:ByteArray->Bool->List It->It
def It.text :It->ByteArray| .mk t _ _=>t
def It.list :It->Bool| .mk _ l _=>l
def It.sub :It->List It| .mk _ _ s=>s
@[simp] theorem It.uc (t:ByteArray)(l:Bool)(s:List It):(It.mk t l s).text=t:=rfl
@[simp] theorem It.ud (t:ByteArray)(l:Bool)(s:List It):(It.mk t l s).list=l:=rfl
@[simp] theorem It.gI (t:ByteArray)(l:Bool)(s:List It):(It.mk t l s).sub=s:=rfl
mutual
def It.count :It->Nat
 | .mk _ _ s=>1+ay s
def ay :List It->Nat
 | []=>0
 |x::xs=>x.count+ay xs
end
mutual
def It.deep :It->Nat
 | .mk _ _ s=>bA s+1
def bA :List It->Nat
 | []=>0
 |x::xs=>max x.deep (bA xs)
end
def formed (t:ByteArray)(l:Bool)(n:Nat):Bool:=if l then decide (t.size=0)else decide (n=0)
mutual
def It.right :It->Bool
 | .mk t l s=>formed t l s.length&&bH s
def bH :List It->Bool
 | []=>true
 |x::xs=>x.right&&bH xs
end
def It.may (x:It):Bool:=x.right&&decide (x.deep<=16)&&decide (x.count<=1024)
theorem It.ind {P:It->Prop}(h:∀t l s,(∀x∈s,P x)->P (.mk t l s)):∀x,P x:=by
 intro x;exact It.rec (motive_1:=P) (motive_2:=fun s=>∀x∈s,P x) (fun t l s ih=>h t l s ih) (by simp) (fun x xs hx GC=>by
  intro y hy;rcases xf.1 hy with rfl|hy
  ·exact hx
  exact GC y hy) x
theorem oE (a b:List It):ay (a++b)=ay a+ay b:=by
 induction a with
 |nil=>simp[ay]
 |cons x xs ih=>simp[ay,ih,yi]
theorem qb (a b:List It):bA (a++b)=max (bA a) (bA b):=by
 induction a with
 |nil=>simp[bA]
 |cons x xs ih=>simp only[zP,bA,ih];omega
theorem oF (a b:List It):bH (a++b)=(bH a&&bH b):=by
 induction a with
 |nil=>simp[bH]
 |cons x xs ih=>simp[bH,ih,Bool.and_assoc]
theorem BC (x:It):1<=x.count:=by cases x;simp[It.count]
theorem dD (s:List It)(k:Nat)(h:k<s.length):s.take (k+1)=s.take k++ [s[k]]:=yt h
mutual
def It.room :It->Int->Int
 | .mk _ _ s,left=>max (cO s (left-1)) 0
def cO :List It->Int->Int
 | [],left=>left
 |x::xs,left=>if left<=0 then left else cO xs (x.room left)
end
mutual
def It.o5 :It->Nat
 | .mk t _ s=>gJ s (min t.size 10000)
def gJ :List It->Nat->Nat
 | [],n=>n
 |x::xs,n=>gJ xs (min (n+x.o5) 10000)
end
theorem qc (a b:List It)(left:Int):cO (a++b) left=cO b (cO a left):=by
 induction a generalizing left with
 |nil=>simp[cO]
 |cons x xs ih=>
  by_cases h:left<=0
  ·simp only[zP,cO,zi h];cases b with
   |nil=>simp[cO]
   |cons y ys=>simp[cO,h]
  simp only[zP,cO,zh h,ih]
theorem CG (a b:List It)(n:Nat):gJ (a++b) n=gJ b (gJ a n):=by
 induction a generalizing n with
 |nil=>simp[gJ]
 |cons x xs ih=>simp[gJ,ih]
theorem Pg (s:List It)(h:∀x∈s,x.deep<=x.count):bA s<=ay s:=by
 induction s with
 |nil=>simp[bA]
 |cons x xs ih=>
  have d:=h x (by simp);have c:=ih (fun y b=>h y (by simp[b]));simp only[bA,ay];omega
theorem Tk (x:It):x.deep<=x.count:=by
 induction x using It.ind with
 |h t l s ih=>simp only[It.deep,It.count];have:=Pg s ih;omega
theorem uS (s:List It)(m:Int)(h:m<=0):cO s m=m:=by
 cases s with
 |nil=>rfl
 |cons x xs=>simp[cO,h]
theorem Hw (s:List It)(k:Nat)(h:k<s.length)(left:Int)(b:0<cO (s.take k) left):cO (s.take (k+1)) left=s[k].room (cO (s.take k) left):=by
 rw[dD s k h,qc];simp[cO,show¬cO (s.take k) left<=0 from by omega]
theorem BD (s:List It)(k:Nat)(left:Int)(b:cO (s.take k) left<=0\/s.length<=k):cO s left=cO (s.take k) left:=by
 rcases b with b|b
 ·have c:=qc (s.take k) (s.drop k) left;rw[zC,uS _ _ b]at c;exact c
 rw[zv b]
theorem Hx (s:List It)(k:Nat)(h:k<s.length)(n:Nat):gJ (s.take (k+1)) n=min (gJ (s.take k) n+s[k].o5) 10000:=by
 rw[dD s k h,CG];simp[gJ]
theorem Ph (s:List It)(n:Nat)(h:n<=10000):gJ s n<=10000:=by
 induction s generalizing n with
 |nil=>simpa[gJ]using h
 |cons x xs ih=>simp only[gJ];exact ih _ (by omega)
theorem Tl (x:It):x.o5<=10000:=by
 cases x with
 |mk t l s=>simp only[It.o5];exact Ph s _ (by omega)
theorem EB (s:List It)(b:∀x∈s,∀m:Int,0<m->0<=x.room m/\x.room m<m):∀m:Int,0<=m->0<=cO s m/\cO s m<=m:=by
 induction s with
 |nil=>intro m e;simp only[cO];omega
 |cons x xs GC=>
  intro m e;by_cases h:m<=0
  ·simp only[cO,zi h];omega
  have c:=b x (by simp) m (by omega);have i:=GC (fun y d=>b y (by simp[d])) (x.room m) c.1;simp only[cO,zh h];omega
theorem CH (x:It):∀m:Int,0<m->0<=x.room m/\x.room m<m:=by
 induction x using It.ind with
 |h t l s ih=>
  intro m b;have:=EB s ih (m-1) (by omega);simp only[It.room];omega
theorem EC (s:List It)(c:∀x∈s,∀m:Int,0<x.room m->x.room m=m-x.count):∀m:Int,0<cO s m->cO s m=m-ay s:=by
 induction s with
 |nil=>intro m _;simp[cO,ay]
 |cons x xs GC=>
  intro m b;by_cases h:m<=0
  ·simp only[cO,zi h]at b;omega
  simp only[cO,zh h]at b⊢;have j:=GC (fun y d=>c y (by simp[d])) (x.room m) b;by_cases e:0<x.room m
  ·have i:=c x (by simp) m e;simp only[ay];omega
  rw[uS _ _ (by omega)]at b;omega
theorem H6 (x:It):∀m:Int,0<x.room m->x.room m=m-x.count:=by
 induction x using It.ind with
 |h t l s ih=>
  intro m b;simp only[It.room,It.count]at b⊢;have:=EC s ih (m-1) (by omega);omega
def It.qd (x:It):Bool:=decide (x.room 1200=0)||decide (6000<x.o5)
theorem sF (x:It)(h:x.qd=false):x.count<1200:=by
 simp only[It.qd,ZC,yX]at h;have c:=CH x 1200 (by omega);have b:=H6 x 1200 (by omega);omega
inductive Ty where
 |mk:Int->Int->List Ty->Int->Ty
def Ty.kind :Ty->Int| .mk k _ _ _=>k
def Ty.size :Ty->Int| .mk _ s _ _=>s
def Ty.sub :Ty->List Ty| .mk _ _ l _=>l
def Ty.tail :Ty->Int| .mk _ _ _ t=>t
@[simp] theorem Ty.Kr (k s:Int)(l:List Ty)(t:Int):(Ty.mk k s l t).kind=k:=rfl
@[simp] theorem Ty.afg (k s:Int)(l:List Ty)(t:Int):(Ty.mk k s l t).size=s:=rfl
@[simp] theorem Ty.gI (k s:Int)(l:List Ty)(t:Int):(Ty.mk k s l t).sub=l:=rfl
@[simp] theorem Ty.CI (k s:Int)(l:List Ty)(t:Int):(Ty.mk k s l t).tail=t:=rfl
mutual
def Ty.count :Ty->Nat
 | .mk _ _ l _=>1+ba l
def ba :List Ty->Nat
 | []=>0
 |x::xs=>x.count+ba xs
end
mutual
def Ty.deep :Ty->Nat
 | .mk _ _ l _=>dR l+1
def dR :List Ty->Nat
 | []=>0
 |x::xs=>max x.deep (dR xs)
end
def fW (k s:Int)(n:Nat)(t:Int):Bool:=
 if k=1 then decide ((s=1\/s=2\/s=4\/s=8)/\n=0/\t=0)
 else if k=2 then decide (1<=s/\s<=65536/\n=0/\t=0)
 else if k=3 then decide (0<=s/\s<=65536/\n=0/\t=0)
 else if k=4 then decide (0<=s/\s<=1024/\n=1/\t=0)
 else if k=5 then decide (s=0/\n<=16/\0<=t/\t<=n)
 else false
mutual
def Ty.right :Ty->Bool
 | .mk k s l t=>fW k s l.length t&&bR l
def bR :List Ty->Bool
 | []=>true
 |x::xs=>x.right&&bR xs
end
def Ty.may (t:Ty):Bool:=decide (t.count<=64)&&decide (t.deep<=8)&&t.right
theorem Ty.ind {P:Ty->Prop}(h:∀k s l t,(∀x∈l,P x)->P (.mk k s l t)):∀x,P x:=by
 intro x;exact Ty.rec (motive_1:=P) (motive_2:=fun s=>∀x∈s,P x) (fun k s l t ih=>h k s l t ih) (by simp) (fun x xs hx GC=>by
  intro y hy;rcases xf.1 hy with rfl|hy
  ·exact hx
  exact GC y hy) x
theorem gK (s:List Ty)(k:Nat)(h:k<s.length):s.take (k+1)=s.take k++ [s[k]]:=yt h
theorem fN (a b:List Ty):ba (a++b)=ba a+ba b:=by
 induction a with
 |nil=>simp[ba]
 |cons x xs ih=>simp[ba,ih,yi]
theorem qe (a b:List Ty):dR (a++b)=max (dR a) (dR b):=by
 induction a with
 |nil=>simp[dR]
 |cons x xs ih=>simp only[zP,dR,ih];omega
theorem iy (a b:List Ty):bR (a++b)=(bR a&&bR b):=by
 induction a with
 |nil=>simp[bR]
 |cons x xs ih=>simp[bR,ih,Bool.and_assoc]
theorem H7 (x:Ty):1<=x.count:=by cases x;simp[Ty.count]
theorem ED (s:List Ty)(k:Nat)(h:k<s.length):ba (s.take (k+1))=ba (s.take k)+s[k].count:=by
 rw[gK s k h,fN];simp[ba]
theorem uT (s:List Ty)(k:Nat):ba (s.take k)<=ba s:=by
 have:=fN (s.take k) (s.drop k);rw[zC]at this;omega
theorem H' (s:List Ty)(k:Nat)(h:k<s.length):dR (s.take (k+1))=max (dR (s.take k)) s[k].deep:=by
 rw[gK s k h,qe];simp[dR]
theorem AE (s:List Ty)(k:Nat):dR (s.take k)<=dR s:=by
 have:=qe (s.take k) (s.drop k);rw[zC]at this;omega
theorem mR (s:List Ty)(k:Nat)(h:k<s.length):bR (s.take (k+1))=(bR (s.take k)&&s[k].right):=by
 rw[gK s k h,iy];simp[bR]
theorem CJ (s:List Ty)(k:Nat)(h:k<s.length)(c:s[k].right=false):bR s=false:=by
 have b:=iy (s.take (k+1)) (s.drop (k+1));rw[zC,mR s k h,c]at b;simpa using b
theorem dk {s:List Ty}(h:bR s=true)(k:Nat)(b:k<s.length):s[k].right=true:=by
 cases hr:s[k].right with
 |true=>rfl
 |false=>rw[CJ s k b hr]at h;cases h
theorem Pj (s:List Ty)(h:∀x∈s,x.deep<=x.count):dR s<=ba s:=by
 induction s with
 |nil=>simp[dR]
 |cons x xs ih=>
  have d:=h x (by simp);have c:=ih (fun y b=>h y (by simp[b]));simp only[dR,ba];omega
theorem Mv (x:Ty):x.deep<=x.count:=by
 induction x using Ty.ind with
 |h k s l t ih=>simp only[Ty.deep,Ty.count];have:=Pj l ih;omega
mutual
def Ty.room :Ty->Int->Int
 | .mk _ _ l _,left=>max (Vo l (left-1)) 0
def Vo :List Ty->Int->Int
 | [],left=>left
 |x::xs,left=>if left<=0 then left else Vo xs (x.room left)
end
def Ty.qd (x:Ty):Bool:=decide (x.room 100=0)
mutual
def Ty.gY :Ty->Nat->Nat->Bool×Nat
 | .mk k s l t,lv,c=>if 8<lv\/c=0\/fW k s l.length t=false then(false,c)else kG l (lv+1) (c-1)
def kG :List Ty->Nat->Nat->Bool×Nat
 | [],_,c=>(true,c)
 |x::xs,lv,c=>match x.gY lv c with
  |(true,c')=>kG xs lv c'
  |(false,c')=>(false,c')
end
theorem sG (a b:List Ty)(d c:Nat):kG (a++b) d c=match kG a d c with
 |(true,e)=>kG b d e
 |(false,e)=>(false,e):=by
 induction a generalizing c with
 |nil=>simp[kG]
 |cons x xs ih=>
  simp only[zP,kG];rcases x.gY d c with⟨r,e⟩
  cases r with
  |true=>simp only[ih]
  |false=>rfl
theorem BE {s:List Ty}{b c:Nat}(h:k<s.length)(i:kG (s.take k) b c=(true,e)):kG (s.take (k+1)) b c=s[k].gY b e:=by
 rw[gK s k h,sG,i];simp only[kG];rcases s[k].gY b e with⟨r,d⟩
 cases r<;>rfl
theorem Mw {s:List Ty}{b c d:Nat}(h:k<s.length)(j:kG (s.take k) b c=(true,i))(l:s[k].gY b i=(false,d)):kG s b c=(false,d):=by
 have e:=sG (s.take (k+1)) (s.drop (k+1)) b c;rw[zC,BE h j,l]at e;exact e
def BF (r:Bool×Nat)(rt:Bool)(lv d n c:Nat):Prop:=(r.1=true↔rt=true/\lv+d<=9/\n<=c)/\(r.1=true->r.2+n=c)/\r.2<=c
theorem Tm (s:List Ty)(k:∀x∈s,∀e c,e<=9->BF (x.gY e c) x.right e x.deep x.count c):∀e c,e<=9->BF (kG s e c) (bR s) e (dR s) (ba s) c:=by
 induction s with
 |nil=>intro e c h;simp[BF,kG,bR,dR,ba,h]
 |cons x xs GC=>
  intro e c l;have i:=k x (by simp) e c l;rcases hv:x.gY e c with⟨r,q⟩
  rw[hv]at i;obtain⟨i,j,m⟩:=i;simp only at i j m;have z:=H7 x;unfold BF;simp only[kG,hv,bR,dR,ba,zz];cases r with
  |true=>
   have j:=j rfl;obtain⟨n,o,w⟩:=GC (fun y u=>k y (by simp[u])) e q l;have i:=i.1 rfl;refine⟨?_,fun p=>by have:=o p;simp only;omega,by simp only;omega⟩;simp only[n];constructor
   ·rintro⟨a,b,d⟩;exact⟨⟨i.1,a⟩,by omega,by omega⟩
   rintro⟨a,b,d⟩;exact⟨a.2,by omega,by omega⟩
  |false=>
   refine⟨?_,by simp,m⟩;constructor
   ·intro h;cases h
   rintro⟨a,b,d⟩;exact i.2 ⟨a.1,by omega,by omega⟩
theorem EF (x:Ty):∀i c,i<=9->BF (x.gY i c) x.right i x.deep x.count c:=by
 induction x using Ty.ind with
 |h k s l t ih=>
  intro i c q;unfold BF;simp only[Ty.gY,Ty.right,Ty.deep,Ty.count,zz];by_cases e:8<i\/c=0\/fW k s l.length t=false
  ·simp only[zi e];refine⟨?_,by simp,zg _⟩;constructor
   ·intro h;cases h
   rintro⟨⟨a,_⟩,b,d⟩;rcases e with e|e|e
   ·omega
   ·omega
   rw[e]at a;cases a
  simp only[zh e];have n:i<=8/\0<c/\fW k s l.length t=true:=by
   refine⟨by omega,by omega, ?_⟩;cases h:fW k s l.length t with
   |true=>rfl
   |false=>exact absurd (.inr (.inr h)) e
  obtain⟨o,j,p⟩:=Tm l ih (i+1) (c-1) (by omega);refine⟨?_,fun m=>by have:=j m;omega,by omega⟩;rw[o];constructor
  ·rintro⟨a,b,d⟩;exact⟨⟨n.2.2,a⟩,by omega,by omega⟩
  rintro⟨a,b,d⟩;exact⟨a.2,by omega,by omega⟩
theorem Mx (x:Ty):(x.gY 1 64).1=x.may:=by
 have h:=(EF x 1 64 (by omega)).1;rw[yE,h];simp only[Ty.may,zz,zY];constructor
 ·rintro⟨a,b,c⟩;exact⟨⟨by omega,by omega⟩,a⟩
 rintro⟨⟨a,b⟩,c⟩;exact⟨c,by omega,by omega⟩
open Go
theorem EG :∀(n i:Nat) (p p':Nat->Bool),i<n->p i=true->p' i=false->(∀j,j≠i->p' j=p j)->(List.range n).countP p=(List.range n).countP p'+1
 |0,i,p,p',hi,_,_,_=>by omega
 |n+1,i,p,p',hi,h1,h2,h3=>by
  rw[List.range_succ,List.countP_append,List.countP_append];by_cases e:i=n
  ·subst e;have:(List.range i).countP p=(List.range i).countP p':=List.countP_congr fun x hx=>by rw[h3 x (by have:=Zp.1 hx;omega)]
   simp[this,h1,h2]
  rw[EG n i p p' (by omega) h1 h2 h3];have:p' n=p n:=h3 n (xR e);simp[this];omega
section
variable {P:Program} {ops:Array Oper} {md:Region.Mode}
def Region.Pk (md:Region.Mode)(ops:Array Oper):Bool:=
 (List.range ops.size).all fun i=>match ops[i]? with
  |some o=>o.after.all fun e=> !Region.binds md e||decide (e.on<i)
  |none=>false
theorem Ia (p:Region.Pk md ops=true)(u:listed.size=ops.size):∀(i:Nat),i<ops.size->listed.getD i true=false->∃j,j<ops.size/\j∈Region.ready md ops listed:=by
 intro i;induction i using Nat.strongRecOn with
 |ind i ih=>
  intro hi q;by_cases d:∃j,j<i/\listed.getD j true=false
  ·obtain⟨j,m,r⟩:=d;exact ih j m (by omega) r
  refine⟨i,hi, ?_⟩;have c:=Zx.1 p i (Zp.2 hi);have k:ops[i]?=some ops[i]:=ZW hi;rw[k]at c;refine Zu.2 ⟨q,ops[i],k,fun e o n=> ?_⟩;have l:=Array.all_eq_true'.1 c e o;rw[n]at l;have s:e.on<i:=by simpa using l
  have b:listed.getD e.on true=true:=by
   rcases xg (listed.getD e.on true)with h|h
   ·exact h
   exact absurd ⟨e.on,s,h⟩ d
  have:e.on<listed.size:=by omega
  simp[this]at b⊢;exact b
theorem qf {I:Array Bool->Act->World->Prop}{Q':Exit->Act->World->Prop}(p:Region.Pk md ops=true)
 (r:∀b a w i,i<ops.size->I b a w->i∈Region.ready md ops b->wpOp P ops Q' i (I (b.setIfInBounds i true)) a w)
 (q:∀b a w,(∀i,i<ops.size->b.getD i false=true)->I b a w->Q' .normal a w):
 ∀(f:Nat) (b:Array Bool) (a:Act) (w:World),(List.range ops.size).countP (fun i=> !b.getD i true)=f->b.size=ops.size->I b a w->wpAny P md ops Q' f b a w
 |0,b,a,w,DD,fG,hI=>by
  have m:∀i,i<ops.size->b.getD i true=true:=fun i hi=>by
   have:=List.countP_eq_zero.1 DD i (Zp.2 hi);simpa using this
  refine⟨?_,q _ _ _ (fun i hi=> ?_) hI⟩
  ·cases hr:Region.ready md ops b with
   |nil=>rfl
   |cons j l=>
    have d:j∈Region.ready md ops b:=by rw[hr];simp
    obtain⟨c,o,e,_⟩:=Zu.1 d;rw[m j (yd.1 e).1]at c;cases c
  have:=m i hi;have y:i<b.size:=by omega
  simp[y]at this⊢;exact this
 |f+1,b,a,w,DD,fG,hI=>by
  have s:∃i,i<ops.size/\b.getD i true=false:=by
   have:0<(List.range ops.size).countP (fun i=> !b.getD i true):=by omega
   obtain⟨i,hi,x⟩:=List.countP_pos_iff.1 this;exact⟨i,Zp.1 hi,by simpa using x⟩
  obtain⟨i0,z,A⟩:=s;obtain⟨D,C,k⟩:=Ia p fG i0 z A;refine⟨fun h=>(by rw[h]at k;cases k),fun i hi=> ?_⟩;obtain⟨c,o,e,_⟩:=Zu.1 hi;have n:i<ops.size:=(yd.1 e).1;refine wpOp_mono (fun u w' B=>qf p r q f _ u w' ?_ (by simp[fG]) B) (r b a w i n hI hi);have:=EG ops.size i (fun i=> !b.getD i true) (fun j=> !(b.setIfInBounds i true).getD j true) n (by simp[c]) (by
   have:i<b.size:=by omega
   simp[this]) (fun j d=>by simp[Array.getElem?_setIfInBounds_ne (xR d)])
  omega
theorem AF {id:Nat}{a:Act}{l:List Oper}(j:P.follows .mixedOrders=true)(c:Region.Pk .any l.toArray=true)(I:Array Bool->Act->World->Prop)
 (e:I (Array.replicate l.toArray.size false) a w.drew)
 (h:∀b a w i,i<l.toArray.size->I b a w->i∈Region.ready .any l.toArray b->wpOp P l.toArray Q i (I (b.setIfInBounds i true)) a w)
 (k:∀b a w,(∀i,i<l.toArray.size->b.getD i false=true)->I b a w->Q .normal a w):(Code.region id l.toArray true).wp P Q a w:=by
 have d:(List.range l.toArray.size).countP (fun i=> !(Array.replicate l.toArray.size false).getD i true)=l.toArray.size:=by
  have:(List.range l.toArray.size).countP (fun i=> !(Array.replicate l.toArray.size false).getD i true)=(List.range l.toArray.size).length:=by
   rw[List.countP_eq_length];intro i hi;have:=Zp.1 hi;simp[show i<l.length by simpa using this]
  simpa using this
 exact wp_region_any j (qf c h k _ _ a _ d (by simp) e)
end
theorem aS {P:Program}{ops:Array Oper}{K:Act->World->Prop}{a:Act}{o:Oper}(hi:ops[i]?=some o)(b:o.guard=none)(h:o.wp P a w K Q):wpOp P ops Q i K a w:=by
 unfold wpOp;simp only[hi];have c:Region.wanted o (yielded ops a.tmps)=true:=by simp[Region.wanted,b]
 rw[zi c];exact .inl h
theorem dx (h:(listed.setIfInBounds i true).getD k false=true):k=i\/listed.getD k false=true:=by
 by_cases e:i=k
 ·exact .inl e.symm
 rw[getD_set_ne false e]at h;exact .inr h
theorem Ib (h:i<listed.size):(listed.setIfInBounds i true).getD i false=true:=by simp[h]
theorem bS (h:i≠k):(listed.setIfInBounds i true).getD k false=listed.getD k false:=getD_set_ne false h
