/- Texts and the lists of their bytes: small plain laws. No program in sight. -/
import Derived.Below
import Derived.Laws.Strings
set_option linter.all false
namespace Go.Proofs.YtpjgigllldipiaaGreatDoor
def zf:=@Nat.le_refl
def zj:=@if_neg
def zl:=@if_pos
def zp:=@List.length_append
def zw:=@List.eq_nil_of_length_eq_zero
def zA:=@List.getD_eq_getElem?_getD
def zB:=@List.getElem?_eq_getElem
def zC:=@List.take_of_length_le
def zD:=@List.length_cons
def zF:=@Bool.and_eq_true
def zI:=@List.append_assoc
def zN:=@List.take_append_drop
def ya:=@List.cons_append
def yc:=@List.length_take
def ye:=@List.take_append_of_le_length
def yg:=@Nat.lt_of_lt_of_le
def yj:=@decide_eq_true_eq
def yr:=@List.getElem?_append_right
def yw:=@Nat.add_assoc
def yy:=@Nat.pow_le_pow_right
def yA:=@List.take_succ_eq_append_getElem
def yK:=@Nat.min_eq_left
def yN:=@List.drop_append_of_le_length
def yV:=@decide_eq_false_iff_not
def yX:=@Bool.eq_iff_iff
def xh:=@List.getElem?_eq_none
def xk:=@Bool.eq_false_or_eq_true
def xw:=@Nat.mod_lt
def xz:=@Nat.two_pow_add_eq_or_of_lt
def xA:=@List.mem_cons
def xC:=@congrArg
def xG:=@List.length_replicate
def xH:=@List.getElem?_append_left
def xI:=@List.drop_eq_getElem_cons
def xO:=@if_true
def xR:=@List.drop_drop
def Zd:=@Nat.pow_add
def Zi:=@Bool.or_eq_false_iff
def Zl:=@Nat.lt_or_ge
def Zz:=@Nat.mul_comm
def ZK:=@List.all_eq_true
def ZT:=@List.replicate_succ
def ZX:=@Nat.sub_self
def Z6:=@List.drop_take
def Ym:=@dif_pos
theorem aL {a b:ByteArray}(h:a.data.toList=b.data.toList):a=b:=by
 cases a;cases b;simp at h;simpa using h
theorem ig (s:ByteArray):(⟨s.data.toList.toArray⟩:ByteArray)=s:=aL (by simp)
theorem aa (s:ByteArray):s.data.toList.length=s.size:=by simp
theorem bH (l:List UInt8):(⟨l.toArray⟩:ByteArray).size=l.length:=by simp[ByteArray.size]
theorem bn (a b:ByteArray):(a++b).data.toList=a.data.toList++b.data.toList:=by
 rw[ByteArray.data_append];simp
theorem aq (s:ByteArray)(i j:Nat):(s.extract i j).data.toList=(s.data.toList.take j).drop i:=by
 rw[ByteArray.data_extract,Array.toList_extract,List.extract_eq_take_drop,Z6]
theorem an (s:ByteArray)(i j:Nat)(b:j<=s.size):(s.extract i j).size=j-i:=by
 rw[ByteArray.size_extract,yK b]
theorem bW (a b:ByteArray):(a++b).size=a.size+b.size:=ByteArray.size_append
theorem ja (s:ByteArray)(k:Nat)(h:k<s.size):s.data.toList.take (k+1)=s.data.toList.take k++ [s[k]]:=by
 rw[yA (by simpa using h)];rfl
theorem drop_cons (s:ByteArray)(k:Nat)(h:k<s.size):s.data.toList.drop k=s[k]::s.data.toList.drop (k+1):=by
 rw[xI (by simpa using h)];rfl
theorem length_take (s:ByteArray)(k:Nat)(h:k<=s.size):(s.data.toList.take k).length=k:=by
 rw[yc,yK (by simpa using h)]
theorem dh (s:ByteArray):s.data.toList.take s.size=s.data.toList:=zC (by simp)
theorem gq (s:ByteArray)(k:Nat)(h:k<s.size):s.data.toList[k]?=some s[k]:=by
 rw[zB (by simpa using h)];rfl
theorem Jt (s:ByteArray):s.extract 0 s.size=s:=aL (by rw[aq,dh];simp)
theorem Cf (s:ByteArray)(i a b:Nat)(c:i+b<=s.size):(s.extract i s.size).extract a b=s.extract (i+a) (i+b):=by
 apply aL;rw[aq,aq,aq,dh,List.take_drop,xR]
theorem fJ (t:ByteArray):(t.size=0/\t=⟨#[]⟩)\/(t.size≠0/\t.toList.isEmpty=false/\(!t.toList.isEmpty)=true):=by
 by_cases h:t.size=0
 ·exact .inl ⟨h,aL (zw (by simpa using h))⟩
 refine .inr ⟨h, ?_, ?_⟩<;>rw[ByteArray.toList_eq]<;>cases h2:t.data.toList with
 |nil=>exact absurd (by rw[<-aa,h2];rfl) h
 |cons a b=>rfl
theorem eF (e:Int):(e=0/\(e==0)=true/\(e !=0)=false)\/(e≠0/\(e==0)=false/\(e !=0)=true):=by
 by_cases h:e=0
 ·exact .inl ⟨h,by simp[h],by simp[h]⟩
 exact .inr ⟨h,by simp[h],by simp[h]⟩
theorem ph (a b:ByteArray):(a=b/\(a.toList==b.toList)=true/\(a.toList !=b.toList)=false)\/(a≠b/\(a.toList==b.toList)=false/\(a.toList !=b.toList)=true):=by
 by_cases h:a=b
 ·subst h;exact .inl ⟨rfl,by simp,by simp⟩
 have c:a.toList≠b.toList:=by
  intro e;rw[ByteArray.toList_eq,ByteArray.toList_eq]at e;exact h (aL e)
 exact .inr ⟨h,by simp[c],by simp[c]⟩
abbrev Nx (α:Type):=ByteArray->Int×α×Nat×Nat
structure wO {α:Type}(nx:Nx α):Prop where
 pos:∀s,(nx s).1=0->0<(nx s).2.2.1/\(nx s).2.2.1<=s.size
 ext:∀s t,(nx s).1≠2->nx (s++t)=nx s
 short:∀s,(nx s).1=2->(nx s).2.2.2=0
abbrev VF (α:Type):=List α×ByteArray×Nat×Int
def VF.cons {α:Type}(x:α)(m:Nat)(r:VF α):VF α:=(x::r.1,r.2.1,m+r.2.2.1,r.2.2.2)
def spl {α:Type}(nx:Nx α):Nat->ByteArray->VF α
 |0,s=>([],s,0,0)
 |f+1,s=>if(nx s).1=0 then(spl nx f (s.extract (nx s).2.2.1 s.size)).cons (nx s).2.1 (nx s).2.2.2 else([],s,(nx s).2.2.2,if(nx s).1=2 then 0 else(nx s).1)
def split {α:Type}(nx:Nx α)(s:ByteArray):VF α:=spl nx (s.size+1) s
theorem np (s:ByteArray)(n:Nat)(h:0<n)(b:n<=s.size):(s.extract n s.size).size<s.size:=by rw[an _ _ _ (zf _)];omega
theorem DV {d:Type}{c:Nx d}(h:wO c):∀(f g:Nat) (s:ByteArray),s.size<f->s.size<g->spl c f s=spl c g s
 |0,_,_,hf,_=>absurd hf (by omega)
 |_,0,_,_,hg=>absurd hg (by omega)
 |f+1,g+1,s,hf,hg=>by
  unfold spl;by_cases b:(c s).1=0
  ·rw[zl b,zl b];obtain⟨e,i⟩:=h.pos s b;have:=np s _ e i;rw[DV h f g _ (by omega) (by omega)]
  rw[zj b,zj b]
theorem kD {d:Type}{b:Nx d}(h:wO b)(s:ByteArray):split b s=if(b s).1=0 then(split b (s.extract (b s).2.2.1 s.size)).cons (b s).2.1 (b s).2.2.2 else([],s,(b s).2.2.2,if(b s).1=2 then 0 else(b s).1):=by
 rw[split,spl];by_cases c:(b s).1=0
 ·rw[zl c,zl c];obtain⟨e,i⟩:=h.pos s c;have:=np s _ e i;rw[split,DV h s.size _ _ (by omega) (Nat.lt_succ_self _)]
 rw[zj c,zj c]
theorem mh {c:Type}{b:Nx c}(h:wO b){s:ByteArray}(d:(b s).1=0):split b s=(split b (s.extract (b s).2.2.1 s.size)).cons (b s).2.1 (b s).2.2.2:=by rw[kD h s,zl d]
theorem fU {d:Type}{b:Nx d}(h:wO b){s:ByteArray}(c:(b s).1=2):split b s=([],s,0,0):=by
 rw[kD h s,zj (by omega),zl c,h.short s c]
theorem qM {α:Type}{nx:Nx α}(h:wO nx){p:ByteArray->Prop}(stop:∀s,(nx s).1≠0->p s)(go:∀s,(nx s).1=0->p (s.extract (nx s).2.2.1 s.size)->p s)(s:ByteArray):p s:=by
 suffices H:∀n (s:ByteArray),s.size<n->p s from H (s.size+1) s (Nat.lt_succ_self _)
 intro n;induction n with
 |zero=>intro s hs;omega
 |succ n ih=>
  intro s hs;by_cases h0:(nx s).1=0
  ·obtain⟨h1,h2⟩:=h.pos s h0;have:=np s _ h1 h2;exact go s h0 (ih _ (by omega))
  exact stop s h0
theorem sU {c:Type}{b:Nx c}(h:wO b)(s:ByteArray):∃k,k<=s.size/\(split b s).2.1=s.extract k s.size:=by
 induction s using qM h with
 |stop s h0=>
  refine⟨0,by omega, ?_⟩;rw[Jt,kD h s,zj h0]
 |go s h0 ih=>
  obtain⟨k,i,e⟩:=ih;obtain⟨d,j⟩:=h.pos s h0;have hz:(s.extract (b s).2.2.1 s.size).size=s.size-(b s).2.2.1:=an _ _ _ (zf _);refine⟨(b s).2.2.1+k,by omega, ?_⟩;rw[mh h h0];show(split b (s.extract (b s).2.2.1 s.size)).2.1=_
  rw[e,hz,Cf _ _ _ _ (by omega)];congr 1
  omega
theorem Sj (s t:ByteArray)(n:Nat)(h:n<=s.size):(s++t).extract n (s++t).size=s.extract n s.size++t:=by
 apply aL;rw[aq,bn,bn,aq,bW,dh];rw[zC (by rw[zp,aa,aa];omega),yN (by rw[aa];exact h)]
structure jb where
 buf:ByteArray
 fault:Int
 laid:Nat
 told:Nat
def jb.new :jb:=⟨ByteArray.empty,0,0,0⟩
def DW {α:Type}(nx:Nx α)(x:jb)(s:ByteArray):jb×List α×Int:=
 if x.fault≠0 then({x with laid:=0},[],x.fault)
 else(⟨(split nx (x.buf++s)).2.1,(split nx (x.buf++s)).2.2.2,s.size+(split nx (x.buf++s)).2.2.1,x.told+(split nx (x.buf++s)).1.length⟩,(split nx (x.buf++s)).1,(split nx (x.buf++s)).2.2.2)
theorem jl {c:Type}{b:Nx c}{x:jb}(h:x.fault≠0)(s:ByteArray):DW b x s=({x with laid:=0},[],x.fault):=by unfold DW;rw[zl h]
theorem kE {c:Type}{b:Nx c}{x:jb}(h:x.fault=0)(s:ByteArray):DW b x s=(⟨(split b (x.buf++s)).2.1,(split b (x.buf++s)).2.2.2,s.size+(split b (x.buf++s)).2.2.1,x.told+(split b (x.buf++s)).1.length⟩,(split b (x.buf++s)).1,(split b (x.buf++s)).2.2.2):=by unfold DW;rw[zj (by simp[h])]
structure NY {α:Type}(nx:Nx α)(x:jb)(s:ByteArray)(l:List α):Prop where
 fault:x.fault=0
 err:(split nx s).2.2.2=0
 buf:x.buf=(split nx s).2.1
 told:l=(split nx s).1
theorem NY.new {c:Type}{b:Nx c}(h:wO b)(d:(b ByteArray.empty).1=2):NY b jb.new ByteArray.empty ([]:List c):=by
 have:=fU h d;exact⟨rfl,by rw[this],by rw[this];rfl,by rw[this]⟩
def DX {α:Type}(nx:Nx α)(x:jb):Prop:=x.fault=0->(nx x.buf).1=2
theorem DX.new {d:Type}{b:Nx d}(c:(b ByteArray.empty).1=2):DX b jb.new:=fun _=>c
def cV :List UInt8->Nat
 | []=>0
 |b::t=>b.toNat+256*cV t
theorem jm (l:List UInt8):cV l<2^(8*l.length):=by
 induction l with
 |nil=>simp[cV]
 |cons b t ih=>
  have:=b.toNat_lt;rw[zD,show 8*(t.length+1)=8+8*t.length from by omega,Zd];simp only[cV];omega
theorem GJ (l t:List UInt8):cV (l++t)=cV l+2^(8*l.length)*cV t:=by
 induction l with
 |nil=>simp[cV]
 |cons b r ih=>
  rw[ya,cV,cV,ih,zD,show 8*(r.length+1)=8+8*r.length from by omega,Zd,Nat.mul_add,Nat.mul_assoc];omega
theorem NZ (l:List UInt8)(b:UInt8):cV (l++ [b])=cV l+b.toNat*2^(8*l.length):=by
 rw[GJ];simp[cV,Zz]
def la (l:List UInt8):Nat:=cV l.reverse
theorem tS (l:List UInt8)(b:UInt8):la (l++ [b])=256*la l+b.toNat:=by
 simp[la,cV];omega
theorem tT (l:List UInt8):la l<2^(8*l.length):=by
 have:=jm l.reverse;simpa[la]using this
theorem Uk (n b i:Nat)(c:n<2^(8*i)):n|||b*2^(8*i)=n+b*2^(8*i):=by
 rw[Nat.or_comm,Zz,<-xz c];omega
theorem le_pow (i:Nat)(hi:i<=8):2^(8*i)<=18446744073709551616:=by
 have:2^(8*i)<=2^64:=yy (by omega) (by omega);simpa using this
theorem le_step (n b i:Nat)(d:b<256)(c:n<2^(8*i)):n+b*2^(8*i)<2^(8*(i+1)):=by
 have h:2^(8*(i+1))=256*2^(8*i):=by rw[show 8*(i+1)=8+8*i from by omega,Zd]
 have e:b*2^(8*i)<=255*2^(8*i):=Nat.mul_le_mul_right _ (by omega);omega
def ca (s:ByteArray):Nat->Nat->Nat->Nat×Nat×Int
 |0,_,_=>(0,0,2)
 |f+1,i,n=>if h:i<s.size then
  if(i=9/\1<s[i].toNat)\/(0<i/\s[i].toNat=0)then(0,0,3)
  else if s[i].toNat<128 then(n+s[i].toNat%128*2^(7*i),i+1,0)
  else ca s f (i+1) (n+s[i].toNat%128*2^(7*i))
  else(0,0,2)
def aw (s:ByteArray):Nat×Nat×Int:=ca s 10 0 0
theorem jc (s:ByteArray)(f i n:Nat)(h:¬i<s.size):ca s f i n=(0,0,2):=by
 cases f<;>simp[ca,h]
theorem nr (s:ByteArray)(f i n:Nat)(h:i<s.size)(b:(i=9/\1<s[i].toNat)\/(0<i/\s[i].toNat=0)):ca s (f+1) i n=(0,0,3):=by
 rw[ca,Ym h,zl b]
theorem jn (s:ByteArray)(f i n:Nat)(h:i<s.size)(b:¬((i=9/\1<s[i].toNat)\/(0<i/\s[i].toNat=0)))(c:s[i].toNat<128):
 ca s (f+1) i n=(n+s[i].toNat%128*2^(7*i),i+1,0):=by
 rw[ca,Ym h,zj b,zl c]
theorem jo (s:ByteArray)(f i n:Nat)(h:i<s.size)(b:¬((i=9/\1<s[i].toNat)\/(0<i/\s[i].toNat=0)))(c:¬s[i].toNat<128):
 ca s (f+1) i n=ca s f (i+1) (n+s[i].toNat%128*2^(7*i)):=by
 rw[ca,Ym h,zj b,zj c]
theorem tU (n b i:Nat)(d:n<2^(7*i)):n+b%128*2^(7*i)<2^(7*(i+1)):=by
 have c:b%128<=127:=by omega
 have h:2^(7*(i+1))=128*2^(7*i):=by rw[show 7*(i+1)=7+7*i from by omega,Zd]
 have e:b%128*2^(7*i)<=127*2^(7*i):=Nat.mul_le_mul_right _ c;omega
theorem Ju (i:Nat)(hi:i<=9):2^(7*i)<=9223372036854775808:=by
 have:2^(7*i)<=2^63:=yy (by omega) (by omega);simpa using this
theorem DY (n b i:Nat)(hi:i<=9)(c:n<2^(7*i))(j:¬((i=9/\1<b)\/(0<i/\b=0))):n+b%128*2^(7*i)<18446744073709551616:=by
 rcases Zl i 9 with h|h
 ·have e:=tU n b i c;have d:=Ju (i+1) (by omega);omega
 obtain rfl:i=9:=by omega
 have d:b%128<=1:=by omega
 omega
theorem VG (n b i:Nat)(c:n<2^(7*i)):n|||(b%128)*2^(7*i)=n+b%128*2^(7*i):=by
 rw[Nat.or_comm,Zz,<-xz c];omega
theorem N0 (s:ByteArray)(f i n:Nat)(hi:i+f=10)(d:n<2^(7*i))(h:(ca s f i n).2.2=0):
 i<(ca s f i n).2.1/\(ca s f i n).2.1<=10/\(ca s f i n).2.1<=s.size/\(ca s f i n).1<18446744073709551616:=by
 induction f generalizing i n with
 |zero=>simp[ca]at h
 |succ f ih=>
  by_cases c:i<s.size
  ·by_cases b:(i=9/\1<s[i].toNat)\/(0<i/\s[i].toNat=0)
   ·rw[nr s f i n c b]at h;simp at h
   by_cases e:s[i].toNat<128
   ·rw[jn s f i n c b e];exact⟨by simp,by simp;omega,by simp;omega,DY n _ i (by omega) d b⟩
   rw[jo s f i n c b e]at h⊢;have:=ih (i+1) _ (by omega) (tU n _ i d) h;omega
  rw[jc s _ i n c]at h;simp at h
theorem gQ (s:ByteArray)(h:(aw s).2.2=0):0<(aw s).2.1/\(aw s).2.1<=10/\(aw s).2.1<=s.size/\(aw s).1<18446744073709551616:=
 N0 s 10 0 0 rfl (by simp) h
theorem Ld (s:ByteArray)(f i n:Nat)(h:(ca s f i n).2.2≠0):(ca s f i n).1=0/\(ca s f i n).2.1=0/\((ca s f i n).2.2=2\/(ca s f i n).2.2=3):=by
 induction f generalizing i n with
 |zero=>simp[ca]
 |succ f ih=>
  by_cases b:i<s.size
  ·by_cases c:(i=9/\1<s[i].toNat)\/(0<i/\s[i].toNat=0)
   ·rw[nr s f i n b c];simp
   by_cases d:s[i].toNat<128
   ·rw[jn s f i n b c d]at h;simp at h
   rw[jo s f i n b c d]at h⊢;exact ih _ _ h
  rw[jc s _ i n b];simp
def ts (out:List UInt8)(back:Nat):Nat->List UInt8
 |0=>out
 |n+1=>ts (out++ [out.getD (out.length-back) 0]) back n
theorem tV (out:List UInt8)(b n:Nat):(ts out b n).length=out.length+n:=by
 induction n generalizing out with
 |zero=>rfl
 |succ n ih=>rw[ts,ih];simp;omega
theorem Jv (out:List UInt8)(b m n:Nat):ts out b (m+n)=ts (ts out b m) b n:=by
 induction m generalizing out with
 |zero=>simp[ts]
 |succ m ih=>rw[show m+1+n=(m+n)+1 from by omega,ts,ts,ih]
theorem DZ (out:List UInt8)(b n:Nat):ts out b (n+1)=ts out b n++ [(ts out b n).getD ((ts out b n).length-b) 0]:=by
 rw[Jv];rfl
theorem Le (out:List UInt8)(b m:Nat)(d:m<=b)(e:b<=out.length):ts out b m=out++(out.drop (out.length-b)).take m:=by
 induction m with
 |zero=>simp[ts]
 |succ m ih=>
  rw[DZ,ih (by omega)];have c:(out++(out.drop (out.length-b)).take m).length=out.length+m:=by simp;omega
  rw[c,zI];congr 1
  rw[yA (by simp;omega)];congr 1
  rw[zA,xH (by omega),List.getElem_drop,zB (by omega)];simp;congr 1
  omega
def bd (b:Nat):Nat:=if b%4=0 then(if 60<=b/4 then b/4-58 else 1)else if b%4=1 then 2 else if b%4=2 then 3 else 5
theorem AU (b:Nat)(c:b<256):1<=bd b/\bd b<=5:=by
 unfold bd;split<;>(try split)<;>(try split)<;>omega
def cH (b l:Nat):Nat:=if b%4=0 then(if 60<=b/4 then l+1 else b/4+1)else if b%4=1 then 4+b/4%8 else b/4+1
def jP (b l:Nat):Nat:=if b%4=1 then b/4/8*256+l else l
def ij (s:ByteArray)(k b:Nat):Nat:=cV (s.extract (k+1) (k+bd b)).data.toList
def bT (s:ByteArray)(size k b:Nat)(out:List UInt8):Int×Nat×List UInt8:=
 if s.size<k+bd b then(2,k,out)
 else if(b%4≠0/\(jP b (ij s k b)=0\/out.length<jP b (ij s k b)))\/size-out.length<cH b (ij s k b)then(3,k,out)
 else if b%4=0 then
  if s.size<k+bd b+cH b (ij s k b)then(2,k,out)
  else(0,k+bd b+cH b (ij s k b),out++(s.extract (k+bd b) (k+bd b+cH b (ij s k b))).data.toList)
 else(0,k+bd b,ts out (jP b (ij s k b)) (cH b (ij s k b)))
def gK (s:ByteArray)(size:Nat):Nat->Nat->List UInt8->Int×List UInt8
 |0,_,_=>(2,[])
 |f+1,k,out=>if h:k<s.size then
  if(bT s size k s[k].toNat out).1=0 then gK s size f (bT s size k s[k].toNat out).2.1 (bT s size k s[k].toNat out).2.2
  else((bT s size k s[k].toNat out).1,[])
  else if out.length<size then(2,[])else(0,out)
def iD (s:ByteArray)(size:Nat):Int×List UInt8:=gK s size (s.size+1) 0 []
def aB (s:ByteArray):Nat×Nat×Int:=
 if(aw s).2.2=0 then(if 4294967295<(aw s).1 then(0,0,5)else aw s)else(0,0,(aw s).2.2)
def ba (s:ByteArray)(most:Int):Int×List UInt8:=
 if(aB s).2.2≠0 then((aB s).2.2,[])
 else if most<(aB s).1 then(5,[])
 else iD (s.extract (aB s).2.1 s.size) (aB s).1
theorem N1 {s:ByteArray}{size k b:Nat}{out:List UInt8}(i:b<256)(m:k<s.size)(l:out.length<=size)(h:(bT s size k b out).1=0):
 k<(bT s size k b out).2.1/\(bT s size k b out).2.1<=s.size/\(bT s size k b out).2.2.length<=size:=by
 have n:=AU b i;unfold bT at h⊢;split at h<;>rename_i c
 ·simp at h
 split at h<;>rename_i e
 ·simp at h
 split at h<;>rename_i d
 ·split at h<;>rename_i j
  ·simp at h
  rw[zj c,zj e,zl d,zj j];refine⟨by simp;omega,by simp;omega, ?_⟩;rw[zp,aa,an _ _ _ (by omega)];omega
 rw[zj c,zj e,zj d];refine⟨by simp;omega,by simp;omega, ?_⟩;rw[tV];omega
theorem Lf {s:ByteArray}{size f k:Nat}{out:List UInt8}{x:Int×List UInt8}(b:k<s.size)(hx:gK s size (f+1) k out=x)(h:(bT s size k s[k].toNat out).1=0):
 gK s size f (bT s size k s[k].toNat out).2.1 (bT s size k s[k].toNat out).2.2=x:=by
 rw[<-hx,gK,Ym b,zl h]
theorem N2 {s:ByteArray}{size f k:Nat}{out:List UInt8}{x:Int×List UInt8}(b:k<s.size)(hx:gK s size (f+1) k out=x)(h:(bT s size k s[k].toNat out).1≠0):
 x=((bT s size k s[k].toNat out).1,[]):=by
 rw[<-hx,gK,Ym b,zj h]
theorem D0 {s:ByteArray}{size f k:Nat}{out:List UInt8}{x:Int×List UInt8}(b:¬k<s.size)(hx:gK s size (f+1) k out=x):x=if out.length<size then(2,[])else(0,out):=by
 rw[<-hx,gK,dif_neg b]
def ik (x n:Nat):Nat:=x/2^n|||x*2^(32-n)%4294967296
def sg0 (x:Nat):Nat:=ik x 7^^^ik x 18^^^x/2^3
def sg1 (x:Nat):Nat:=ik x 17^^^ik x 19^^^x/2^10
def Sg0 (x:Nat):Nat:=ik x 2^^^ik x 13^^^ik x 22
def Sg1 (x:Nat):Nat:=ik x 6^^^ik x 11^^^ik x 25
def D3 (e f g:Nat):Nat:=e&&&f|||(e^^^4294967295)&&&g
def tW (a b c:Nat):Nat:=a&&&b|||a&&&c|||b&&&c
theorem VH {n:Nat}:n<4294967296↔n<2^32:=by simp
theorem tt {a b:Nat}(d:a<4294967296)(c:b<4294967296):a|||b<4294967296:=by
 rw[VH]at*;exact Nat.or_lt_two_pow d c
theorem eh {a b:Nat}(c:a<4294967296):a&&&b<4294967296:=Nat.lt_of_le_of_lt Nat.and_le_left c
theorem dj {a b:Nat}(d:a<4294967296)(c:b<4294967296):a^^^b<4294967296:=by
 rw[VH]at*;exact Nat.xor_lt_two_pow d c
theorem mi {a:Nat}(n:Nat)(b:a<4294967296):a/2^n<4294967296:=Nat.lt_of_le_of_lt (Nat.div_le_self _ _) b
theorem dV {x:Nat}(n:Nat)(h:x<4294967296):ik x n<4294967296:=tt (mi n h) (xw _ (by omega))
theorem ae' {x:Nat}(h:x<4294967296):sg0 x<4294967296:=dj (dj (dV _ h) (dV _ h)) (mi _ h)
theorem afa {x:Nat}(h:x<4294967296):sg1 x<4294967296:=dj (dj (dV _ h) (dV _ h)) (mi _ h)
theorem afb {x:Nat}(h:x<4294967296):Sg0 x<4294967296:=dj (dj (dV _ h) (dV _ h)) (dV _ h)
theorem afc {x:Nat}(h:x<4294967296):Sg1 x<4294967296:=dj (dj (dV _ h) (dV _ h)) (dV _ h)
theorem ad8 {e f g:Nat}(b:e<4294967296):D3 e f g<4294967296:=tt (eh b) (eh (dj b (by omega)))
theorem aaX {a b c:Nat}(d:a<4294967296)(e:b<4294967296):tW a b c<4294967296:=tt (tt (eh d) (eh d)) (eh e)
theorem N3 (e f g:Nat)(c:e<4294967296):e&&&f^^^(e^^^4294967295)&&&g=D3 e f g:=by
 apply Nat.eq_of_testBit_eq;intro i;have h:Nat.testBit 4294967295 i=decide (i<32):=by
  have:=Nat.testBit_two_pow_sub_one 32 i;simpa using this
 unfold D3;simp only[Nat.testBit_xor,Nat.testBit_and,Nat.testBit_or,h];by_cases hi:i<32
 ·simp only[hi,decide_true];cases Nat.testBit e i<;>cases Nat.testBit f i<;>cases Nat.testBit g i<;>rfl
 have b:Nat.testBit e i=false:=Nat.testBit_lt_two_pow (yg (VH.1 c) (yy (by omega) (by omega)));simp[hi,b]
theorem Lg (a b c:Nat):(a&&&b^^^a&&&c)^^^b&&&c=tW a b c:=by
 apply Nat.eq_of_testBit_eq;intro i;unfold tW;simp only[Nat.testBit_xor,Nat.testBit_and,Nat.testBit_or];cases Nat.testBit a i<;>cases Nat.testBit b i<;>cases Nat.testBit c i<;>rfl
def mm (s:ByteArray)(i:Nat):Nat:=(s.data.toList.getD (4*i) 0).toNat*16777216+(s.data.toList.getD (4*i+1) 0).toNat*65536+(s.data.toList.getD (4*i+2) 0).toNat*256+(s.data.toList.getD (4*i+3) 0).toNat
theorem AV (s:ByteArray)(i:Nat):mm s i<4294967296:=by
 have b:=(s.data.toList.getD (4*i) 0).toNat_lt;have e:=(s.data.toList.getD (4*i+1) 0).toNat_lt;have c:=(s.data.toList.getD (4*i+2) 0).toNat_lt;have d:=(s.data.toList.getD (4*i+3) 0).toNat_lt;unfold mm;omega
def AW (s:ByteArray)(l:List Nat)(i:Nat):Nat:=
 if i<16 then mm s i else(l.getD (i-16) 0+sg0 (l.getD (i-15) 0)+l.getD (i-7) 0+sg1 (l.getD (i-2) 0))%4294967296
def sched (s:ByteArray):Nat->List Nat
 |0=> []
 |i+1=>sched s i++ [AW s (sched s i) i]
theorem iQ (s:ByteArray)(i:Nat):(sched s i).length=i:=by
 induction i with
 |zero=>rfl
 |succ i ih=>simp[sched,ih]
theorem N4 (s:ByteArray)(l:List Nat)(i:Nat):AW s l i<4294967296:=by
 unfold AW;split
 ·exact AV s i
 exact xw _ (by omega)
theorem dG (s:ByteArray)(i j:Nat)(h:j<i):(sched s i).getD j 0=AW s (sched s j) j:=by
 induction i with
 |zero=>omega
 |succ i ih=>
  rw[sched,zA];by_cases b:j<i
  ·rw[xH (by rw[iQ];exact b),<-zA];exact ih b
  obtain rfl:j=i:=by omega
  rw[yr (by rw[iQ];exact zf _),iQ,ZX];rfl
theorem N5 (s:ByteArray)(i j:Nat):(sched s i).getD j 0<4294967296:=by
 by_cases h:j<i
 ·rw[dG s i j h];exact N4 _ _ _
 rw[zA,xh (by rw[iQ];omega)];simp
def lV (s:ByteArray)(i:Nat):Nat:=(sched s 64).getD i 0
theorem N6 (s:ByteArray)(i:Nat):lV s i<4294967296:=N5 s 64 i
theorem AX (s:ByteArray)(i:Nat)(h:i<16):lV s i=mm s i:=by
 unfold lV;rw[dG s 64 i (by omega),AW,zl h]
theorem Sk (s:ByteArray)(i:Nat)(h:16<=i)(b:i<64):lV s i=(lV s (i-16)+sg0 (lV s (i-15))+lV s (i-7)+sg1 (lV s (i-2)))%4294967296:=by
 unfold lV;rw[dG s 64 i b,AW,zj (by omega),dG s 64 (i-16) (by omega),dG s 64 (i-15) (by omega),dG s 64 (i-7) (by omega),dG s 64 (i-2) (by omega),
  dG s i (i-16) (by omega),dG s i (i-15) (by omega),dG s i (i-7) (by omega),dG s i (i-2) (by omega)]
structure Sh where
 a:Nat
 b:Nat
 c:Nat
 d:Nat
 e:Nat
 f:Nat
 g:Nat
 h:Nat
structure Sh.ok (s:Sh):Prop where
 a:s.a<4294967296
 b:s.b<4294967296
 c:s.c<4294967296
 d:s.d<4294967296
 e:s.e<4294967296
 f:s.f<4294967296
 g:s.g<4294967296
 h:s.h<4294967296
def shP (k w:Nat)(s:Sh):Nat:=(s.h+Sg1 s.e+k+w+D3 s.e s.f s.g)%4294967296
def shQ (s:Sh):Nat:=(Sg0 s.a+tW s.a s.b s.c)%4294967296
def Cg (k w:Nat)(s:Sh):Sh:=⟨(shP k w s+shQ s)%4294967296,s.a,s.b,s.c,(s.d+shP k w s)%4294967296,s.e,s.f,s.g⟩
theorem Lh (k w:Nat){s:Sh}(h:s.ok):(Cg k w s).ok:=⟨xw _ (by omega),h.a,h.b,h.c,xw _ (by omega),h.e,h.f,h.g⟩
def fx (K:List Nat)(blk:ByteArray):Nat->Sh->Sh
 |0,s=>s
 |i+1,s=>Cg (K.getD i 0) (lV blk i) (fx K blk i s)
theorem rP (K:List Nat)(blk:ByteArray)(i:Nat){s:Sh}(h:s.ok):(fx K blk i s).ok:=by
 induction i with
 |zero=>exact h
 |succ i ih=>exact Lh _ _ ih
def Ul (s t:Sh):Sh:=⟨(s.a+t.a)%4294967296,(s.b+t.b)%4294967296,(s.c+t.c)%4294967296,(s.d+t.d)%4294967296,(s.e+t.e)%4294967296,(s.f+t.f)%4294967296,(s.g+t.g)%4294967296,(s.h+t.h)%4294967296⟩
def pj (K:List Nat)(s:Sh)(blk:ByteArray):Sh:=Ul s (fx K blk 64 s)
theorem N7 (K:List Nat)(s:Sh)(blk:ByteArray):(pj K s blk).ok:=⟨xw _ (by omega),xw _ (by omega),xw _ (by omega),xw _ (by omega),xw _ (by omega),xw _ (by omega),xw _ (by omega),xw _ (by omega)⟩
def eI (blk:ByteArray)(k j:Nat):Nat:=if j<k then lV blk (j+16*((k-1-j)/16))else 0
theorem jQ (blk:ByteArray)(k d:Nat)(h:16<=k)(hd:d<16):eI blk k ((k+d)%16)=lV blk (k-16+d):=by
 unfold eI;rw[zl (by omega),show(k+d)%16+16*((k-1-(k+d)%16)/16)=k-16+d from by omega]
theorem tX (blk:ByteArray)(k:Nat):eI blk (k+1) (k%16)=lV blk k:=by
 unfold eI;rw[zl (by omega),show k%16+16*((k+1-1-k%16)/16)=k from by omega]
theorem Ch (blk:ByteArray)(k j:Nat)(c:j<16)(b:j≠k%16):eI blk (k+1) j=eI blk k j:=by
 unfold eI;by_cases h:j<k
 ·rw[zl (by omega),zl h,show(k+1-1-j)/16=(k-1-j)/16 from by omega]
 rw[zj (by omega),zj h]
def D4 (p d:Nat):Nat->Nat->Nat
 |0,x=>x
 |n+1,x=>D4 p d n (if(x+2^n)^d/65536^(2*d)<p then x+2^n else x)
def aaY (p d:Nat):Nat:=D4 p d 36 0%4294967296
def aaZ (p n:Nat):Bool:=(List.range n).all fun d=>decide (d<2)||decide (0<p%d)
def tY :Nat->List Nat
 |0=> []
 |p+1=>if 2<=p/\aaZ p p=true then tY p++ [p]else tY p
def Li :List Nat:=tY 312
def tZ :List Nat:=Li.map (aaY · 3)
def GK :List Nat:= [0x428a2f98,0x71374491,0xb5c0fbcf,0xe9b5dba5,0x3956c25b,0x59f111f1,0x923f82a4,0xab1c5ed5,0xd807aa98,0x12835b01,0x243185be,0x550c7dc3,0x72be5d74,0x80deb1fe,0x9bdc06a7,0xc19bf174,
 0xe49b69c1,0xefbe4786,0x0fc19dc6,0x240ca1cc,0x2de92c6f,0x4a7484aa,0x5cb0a9dc,0x76f988da,0x983e5152,0xa831c66d,0xb00327c8,0xbf597fc7,0xc6e00bf3,0xd5a79147,0x06ca6351,0x14292967,
 0x27b70a85,0x2e1b2138,0x4d2c6dfc,0x53380d13,0x650a7354,0x766a0abb,0x81c2c92e,0x92722c85,0xa2bfe8a1,0xa81a664b,0xc24b8b70,0xc76c51a3,0xd192e819,0xd6990624,0xf40e3585,0x106aa070,
 0x19a4c116,0x1e376c08,0x2748774c,0x34b0bcb5,0x391c0cb3,0x4ed8aa4a,0x5b9cca4f,0x682e6ff3,0x748f82ee,0x78a5636f,0x84c87814,0x8cc70208,0x90befffa,0xa4506ceb,0xbef9a3f7,0xc67178f2]
theorem Ci :tZ=GK:=by decide+kernel
def ff (v:Sh)(s:ByteArray):Nat->Sh
 |0=>v
 |i+1=>pj tZ (ff v s i) (s.extract (64*i) (64*i+64))
theorem D5 {v:Sh}(h:v.ok)(s:ByteArray):∀i,(ff v s i).ok
 |0=>h
 |i+1=>N7 _ _ _
theorem Cj (s p:ByteArray)(a b:Nat)(h:b<=s.size):(s++p).extract a b=s.extract a b:=by
 apply aL;rw[aq,aq,bn,ye (by simpa using h)]
theorem ua (v:Sh)(s p:ByteArray):∀i,64*i<=s.size->ff v (s++p) i=ff v s i
 |0,_=>rfl
 |i+1,h=>by
  rw[ff,ff,ua v s p i (by omega),Cj s p _ _ (by omega)]
theorem AY (v:Sh)(t:ByteArray)(a:Nat):∀b,64*(a+b)<=t.size->ff v t (a+b)=ff (ff v t a) (t.extract (64*a) t.size) b
 |0,_=>rfl
 |b+1,h=>by
  rw[<-yw,ff,ff,AY v t a b (by omega),Cf t _ _ _ (by omega)];rw[show 64*a+64*b=64*(a+b)from by omega,show 64*a+(64*b+64)=64*(a+b)+64 from by omega]
def dH (n:Nat):Nat:=(64-(n+9)%64)%64
def fo (m:Nat):List UInt8:=(List.range 8).map fun j=>UInt8.ofNat (m/2^(56-8*j))
theorem hZ (m:Nat):(fo m).length=8:=by simp[fo]
theorem D6 (m i:Nat)(h:i<8):(fo m).take (i+1)=(fo m).take i++ [UInt8.ofNat (m/2^(56-8*i))]:=by
 rw[yA (by rw[hZ];exact h)];congr 2
 simp[fo]
def GL (n:Nat):List UInt8:=128::List.replicate (dH n) 0++fo (n*8)
def il (n:Nat):ByteArray:=⟨(GL n).toArray⟩
theorem wP (n:Nat):(GL n).length=dH n+9:=by simp[GL,hZ]
theorem ou (n:Nat):(il n).size=dH n+9:=by rw[il,bH,wP]
theorem rQ (n:Nat):dH n<64:=xw _ (by omega)
theorem pn (n:Nat):(n+(dH n+9))%64=0:=by unfold dH;omega
def DB :Sh:=⟨0x6a09e667,0xbb67ae85,0x3c6ef372,0xa54ff53a,0x510e527f,0x9b05688c,0x1f83d9ab,0x5be0cd19⟩
theorem VI :DB.ok:=⟨by decide,by decide,by decide,by decide,by decide,by decide,by decide,by decide⟩
def wB (x:Nat):List UInt8:= [UInt8.ofNat (x/16777216),UInt8.ofNat (x/65536),UInt8.ofNat (x/256),UInt8.ofNat x]
def Sh.list (v:Sh):List Nat:= [v.a,v.b,v.c,v.d,v.e,v.f,v.g,v.h]
def D7 (v:Sh):List UInt8:=(v.list.map wB).flatten
def GM (n:Nat)(v:Sh):List UInt8:=((v.list.take n).map wB).flatten
theorem AZ (v:Sh)(i:Nat)(h:i<8):GM (i+1) v=GM i v++wB (v.list.getD i 0):=by
 unfold GM;have b:i<v.list.length:=h;rw[yA b,List.map_append,List.flatten_append,zA,zB b];simp
theorem VJ (v:Sh):GM 8 v=D7 v:=rfl
theorem rR (v:Sh)(i:Nat)(h:i<=8):(GM i v).length=4*i:=by
 induction i with
 |zero=>rfl
 |succ i ih=>rw[AZ v i (by omega),zp,ih (by omega)];simp[wB];omega
theorem Ck (v:Sh):(D7 v).length=32:=rR v 8 (zf _)
def GN (s:ByteArray):Sh:=ff DB (s++il s.size) ((s++il s.size).size/64)
def sV (s:ByteArray):ByteArray:=⟨(D7 (GN s)).toArray⟩
theorem A7 (s:ByteArray):(sV s).size=32:=by rw[sV,bH,Ck]
theorem GO (s:ByteArray)(r:ByteArray)(b:r=s.extract (64*(s.size/64)) s.size++il s.size):GN s=ff (ff DB s (s.size/64)) r (r.size/64):=by
 have hz:(s++il s.size).size=s.size+(dH s.size+9):=by rw[bW,ou]
 have e:=pn s.size;have h:r.size=s.size-64*(s.size/64)+(dH s.size+9):=by rw[b,bW,ou,an _ _ _ (zf _)]
 have c:r=(s++il s.size).extract (64*(s.size/64)) (s++il s.size).size:=by
  rw[b];apply aL;rw[bn,aq,aq,dh,dh,bn,yN (by simp;omega)]
 have d:(s++il s.size).size/64=s.size/64+r.size/64:=by omega
 unfold GN;rw[d,AY _ _ _ _ (by omega),<-c,ua _ _ _ _ (by omega)]
def GP (s:ByteArray):ByteArray:=sV (sV s)
def eJ (s:ByteArray):ByteArray:=(GP s).extract 0 4
theorem A8 (s:ByteArray):(GP s).size=32:=A7 _
theorem lf (s:ByteArray):(eJ s).size=4:=by rw[eJ,an _ _ _ (by rw[A8];omega)]
def nT (b:Nat):Bool:=decide ((97<=b/\b<=122)\/(48<=b/\b<=57)\/b=95)
def im (l:List UInt8):Bool:=l.all fun b=>nT b.toNat
def b8 (s:ByteArray):Bool:=im s.data.toList&&(decide (1<=s.size)&&decide (s.size<=12))
def eK (s:ByteArray):ByteArray:=⟨(s.data.toList++List.replicate (12-s.size) 0).toArray⟩
def qN (l:List UInt8):List UInt8:=(l.reverse.dropWhile (· ==0)).reverse
def cR (s:ByteArray):ByteArray:=⟨(qN s.data.toList).toArray⟩
def cS (s:ByteArray):Int×ByteArray:=if s.size=12/\b8 (cR s)=true then(0,cR s)else(3,ByteArray.empty)
theorem uc (l:List UInt8)(b:UInt8):im (l++ [b])=(im l&&nT b.toNat):=by simp[im]
theorem wQ (l:List UInt8)(k:Nat)(h:im (l.take k)=false):im l=false:=by
 simp only[im,List.all_eq_false]at h⊢;obtain⟨x,hx,b⟩:=h;exact⟨x,List.mem_of_mem_take hx,b⟩
theorem A9 (b:Nat)(c:b<256):(nT b=false/\(b<48\/(57<b/\b<95)\/(95<b/\b<97)\/122<b)/\b≠95)\/(nT b=true/\((48<=b/\b<=57)\/(b=95)\/(97<=b/\b<=122))):=by
 rcases xk (nT b)with h|h
 ·right;refine⟨h, ?_⟩;simp only[nT,yj]at h;omega
 left;refine⟨h, ?_⟩;simp only[nT,yV]at h;omega
theorem dW {s:ByteArray}(h:b8 s=true):1<=s.size/\s.size<=12:=by
 simp only[b8,zF,yj]at h;exact h.2
theorem po {s:ByteArray}(h:s.size<1\/12<s.size):b8 s=false:=by
 rcases xk (b8 s)with h1|h1
 ·have:=dW h1;omega
 exact h1
theorem N8 {s:ByteArray}(b:1<=s.size)(c:s.size<=12):b8 s=im s.data.toList:=by simp[b8,b,c]
theorem lg (s:ByteArray):(eK s).data.toList=s.data.toList++List.replicate (12-s.size) 0:=by simp[eK]
theorem gR (s:ByteArray)(h:s.size<=12):(eK s).size=12:=by
 rw[<-aa,lg];simp;omega
theorem N9 (l:List UInt8)(n:Nat)(h:∀b∈l,b≠0):qN (l++List.replicate n 0)=l:=by
 unfold qN;rw[List.reverse_append,List.reverse_replicate];have c:∀m:Nat,(List.replicate m (0:UInt8)++l.reverse).dropWhile (· ==0)=l.reverse.dropWhile (· ==0):=by
  intro m;induction m with
  |zero=>simp
  |succ m ih=>simp[ZT,ih]
 rw[c];have d:l.reverse.dropWhile (· ==0)=l.reverse:=by
  cases hl:l.reverse with
  |nil=>simp
  |cons x xs=>
   have hx:x∈l:=by rw[<-List.mem_reverse,hl];simp
   have:=h x hx;simp[this]
 rw[d,List.reverse_reverse]
theorem Ba (l:List UInt8):∃n,l=qN l++List.replicate n 0:=by
 unfold qN;have h:∀m:List UInt8,∃n,m=List.replicate n 0++m.dropWhile (· ==0):=by
  intro m;induction m with
  |nil=>exact⟨0,by simp⟩
  |cons x xs ih=>
   by_cases hx:x=0
   ·obtain⟨n,b⟩:=ih;refine⟨n+1, ?_⟩;subst hx;simp only[ZT,ya];rw[List.dropWhile_cons];simp only[beq_self_eq_true,xO];rw[<-b]
   exact⟨0,by simp[hx]⟩
 obtain⟨n,b⟩:=h l.reverse;refine⟨n, ?_⟩;have:=xC List.reverse b;rw[List.reverse_reverse,List.reverse_append,List.reverse_replicate]at this;exact this
theorem Sl (s:ByteArray)(h:b8 s=true):∀b∈s.data.toList,b≠0:=by
 intro b c d;simp only[b8,zF,im,ZK]at h;have:=h.1 b c;subst d;simp[nT]at this
theorem Lj (s:ByteArray)(h:b8 s=true):cR (eK s)=s:=by
 apply aL;simp only[cR];rw[lg,N9 _ _ (Sl s h)]
theorem Bb (s:ByteArray)(h:b8 s=true):cS (eK s)=(0,s):=by
 have b:=gR s (dW h).2;simp[cS,b,Lj s h,h]
theorem D8 (s:ByteArray)(h:s.size≠12):cS s=(3,ByteArray.empty):=by simp[cS,h]
theorem Lk (s t:ByteArray)(h:cS s=(0,t)):eK t=s/\b8 t=true:=by
 unfold cS at h;split at h
 ·rename_i d
  injection h with _ ht;subst ht;refine⟨?_,d.2⟩;apply aL;obtain⟨n,b⟩:=Ba s.data.toList;rw[lg];have hz:(cR s).size=(qN s.data.toList).length:=by rw[cR,bH]
  have c:(cR s).data.toList=qN s.data.toList:=by simp[cR]
  have e:=xC List.length b;simp only[zp,xG,aa]at e;rw[hz,c,show 12-(qN s.data.toList).length=n from by omega,<-b]
 injection h with h _;omega
theorem rS (s:ByteArray):cS s=(3,ByteArray.empty)\/∃t,cS s=(0,t):=by
 unfold cS;split
 ·exact .inr ⟨_,rfl⟩
 exact .inl rfl
structure aR where
 fm:Int
 mg:Nat
 fr:Int
 un:Int
 de:Int
 it:Int
structure Fr where
 id:Nat
 nm:ByteArray
 body:ByteArray
def nM :Fr:=⟨0,ByteArray.empty,ByteArray.empty⟩
def aR.right (c:aR):Bool:=decide (1<=c.fm)&&(decide (c.fm<=3)&&(decide (1<=c.fr)&&(decide (c.fr<=65536)&&(decide (1<=c.un)&&(decide (c.un<=65536)&&(decide (1<=c.de)&&(decide (c.de<=16)&&(decide (1<=c.it)&&decide (c.it<=1024)))))))))
theorem aR.cQ (c:aR):c.right=true↔1<=c.fm/\c.fm<=3/\1<=c.fr/\c.fr<=65536/\1<=c.un/\c.un<=65536/\1<=c.de/\c.de<=16/\1<=c.it/\c.it<=1024:=by
 simp only[aR.right,zF,yj]
inductive It where
 |mk:ByteArray->Bool->List It->It
def It.text :It->ByteArray| .mk t _ _=>t
def It.list :It->Bool| .mk _ l _=>l
def It.sub :It->List It| .mk _ _ s=>s
@[simp] theorem It.tu (t:ByteArray)(l:Bool)(s:List It):(It.mk t l s).text=t:=rfl
@[simp] theorem It.tv (t:ByteArray)(l:Bool)(s:List It):(It.mk t l s).list=l:=rfl
@[simp] theorem It.gu (t:ByteArray)(l:Bool)(s:List It):(It.mk t l s).sub=s:=rfl
mutual
def It.count :It->Nat
 | .mk _ _ s=>1+aG s
def aG :List It->Nat
 | []=>0
 |x::xs=>x.count+aG xs
end
mutual
def It.deep :It->Nat
 | .mk _ _ s=>cC s+1
def cC :List It->Nat
 | []=>0
 |x::xs=>max x.deep (cC xs)
end
def formed (t:ByteArray)(l:Bool)(n:Nat):Bool:=if l then decide (t.size=0)else decide (n=0)
mutual
def It.right :It->Bool
 | .mk t l s=>formed t l s.length&&cW s
def cW :List It->Bool
 | []=>true
 |x::xs=>x.right&&cW xs
end
def It.may (x:It):Bool:=x.right&&decide (x.deep<=16)&&decide (x.count<=1024)
theorem It.ind {P:It->Prop}(h:∀t l s,(∀x∈s,P x)->P (.mk t l s)):∀x,P x:=by
 intro x;exact It.rec (motive_1:=P) (motive_2:=fun s=>∀x∈s,P x) (fun t l s ih=>h t l s ih) (by simp) (fun x xs hx F1=>by
  intro y hy;rcases xA.1 hy with rfl|hy
  ·exact hx
  exact F1 y hy) x
theorem Bc (x:It):1<=x.count:=by cases x;simp[It.count]
theorem gw (s:List It)(k:Nat)(h:k<s.length):s.take (k+1)=s.take k++ [s[k]]:=yA h
mutual
def It.room :It->Int->Int
 | .mk _ _ s,left=>max (cD s (left-1)) 0
def cD :List It->Int->Int
 | [],left=>left
 |x::xs,left=>if left<=0 then left else cD xs (x.room left)
end
mutual
def It.ow :It->Nat
 | .mk t _ s=>gx s (min t.size 10000)
def gx :List It->Nat->Nat
 | [],n=>n
 |x::xs,n=>gx xs (min (n+x.ow) 10000)
end
theorem pr (a b:List It)(left:Int):cD (a++b) left=cD b (cD a left):=by
 induction a generalizing left with
 |nil=>simp[cD]
 |cons x xs ih=>
  by_cases h:left<=0
  ·simp only[ya,cD,zl h];cases b with
   |nil=>simp[cD]
   |cons y ys=>simp[cD,h]
  simp only[ya,cD,zj h,ih]
theorem Cl (a b:List It)(n:Nat):gx (a++b) n=gx b (gx a n):=by
 induction a generalizing n with
 |nil=>simp[gx]
 |cons x xs ih=>simp[gx,ih]
theorem ud (s:List It)(m:Int)(h:m<=0):cD s m=m:=by
 cases s with
 |nil=>rfl
 |cons x xs=>simp[cD,h]
theorem GQ (s:List It)(k:Nat)(h:k<s.length)(left:Int)(b:0<cD (s.take k) left):cD (s.take (k+1)) left=s[k].room (cD (s.take k) left):=by
 rw[gw s k h,pr];simp[cD,show¬cD (s.take k) left<=0 from by omega]
theorem Bd (s:List It)(k:Nat)(left:Int)(b:cD (s.take k) left<=0\/s.length<=k):cD s left=cD (s.take k) left:=by
 rcases b with b|b
 ·have c:=pr (s.take k) (s.drop k) left;rw[zN,ud _ _ b]at c;exact c
 rw[zC b]
theorem GR (s:List It)(k:Nat)(h:k<s.length)(n:Nat):gx (s.take (k+1)) n=min (gx (s.take k) n+s[k].ow) 10000:=by
 rw[gw s k h,Cl];simp[gx]
theorem N' (s:List It)(n:Nat)(h:n<=10000):gx s n<=10000:=by
 induction s generalizing n with
 |nil=>simpa[gx]using h
 |cons x xs ih=>simp only[gx];exact ih _ (by omega)
theorem Sm (x:It):x.ow<=10000:=by
 cases x with
 |mk t l s=>simp only[It.ow];exact N' s _ (by omega)
theorem D9 (s:List It)(b:∀x∈s,∀m:Int,0<m->0<=x.room m/\x.room m<m):∀m:Int,0<=m->0<=cD s m/\cD s m<=m:=by
 induction s with
 |nil=>intro m c;simp only[cD];omega
 |cons x xs F1=>
  intro m c;by_cases h:m<=0
  ·simp only[cD,zl h];omega
  have e:=b x (by simp) m (by omega);have i:=F1 (fun y d=>b y (by simp[d])) (x.room m) e.1;simp only[cD,zj h];omega
theorem Cm (x:It):∀m:Int,0<m->0<=x.room m/\x.room m<m:=by
 induction x using It.ind with
 |h t l s ih=>
  intro m b;have:=D9 s ih (m-1) (by omega);simp only[It.room];omega
theorem Ea (s:List It)(c:∀x∈s,∀m:Int,0<x.room m->x.room m=m-x.count):∀m:Int,0<cD s m->cD s m=m-aG s:=by
 induction s with
 |nil=>intro m _;simp[cD,aG]
 |cons x xs F1=>
  intro m b;by_cases h:m<=0
  ·simp only[cD,zl h]at b;omega
  simp only[cD,zj h]at b⊢;have j:=F1 (fun y d=>c y (by simp[d])) (x.room m) b;by_cases e:0<x.room m
  ·have i:=c x (by simp) m e;simp only[aG];omega
  rw[ud _ _ (by omega)]at b;omega
theorem GS (x:It):∀m:Int,0<x.room m->x.room m=m-x.count:=by
 induction x using It.ind with
 |h t l s ih=>
  intro m b;simp only[It.room,It.count]at b⊢;have:=Ea s ih (m-1) (by omega);omega
def It.mn (x:It):Bool:=decide (x.room 1200=0)||decide (6000<x.ow)
theorem rT (x:It)(h:x.mn=false):x.count<1200:=by
 simp only[It.mn,Zi,yV]at h;have b:=Cm x 1200 (by omega);have c:=GS x 1200 (by omega);omega
inductive Ty where
 |mk:Int->Int->List Ty->Int->Ty
def Ty.kind :Ty->Int| .mk k _ _ _=>k
def Ty.size :Ty->Int| .mk _ s _ _=>s
def Ty.sub :Ty->List Ty| .mk _ _ l _=>l
def Ty.tail :Ty->Int| .mk _ _ _ t=>t
@[simp] theorem Ty.Jw (k s:Int)(l:List Ty)(t:Int):(Ty.mk k s l t).kind=k:=rfl
@[simp] theorem Ty.ad9 (k s:Int)(l:List Ty)(t:Int):(Ty.mk k s l t).size=s:=rfl
@[simp] theorem Ty.gu (k s:Int)(l:List Ty)(t:Int):(Ty.mk k s l t).sub=l:=rfl
@[simp] theorem Ty.Cn (k s:Int)(l:List Ty)(t:Int):(Ty.mk k s l t).tail=t:=rfl
mutual
def Ty.count :Ty->Nat
 | .mk _ _ l _=>1+aZ l
def aZ :List Ty->Nat
 | []=>0
 |x::xs=>x.count+aZ xs
end
mutual
def Ty.deep :Ty->Nat
 | .mk _ _ l _=>dD l+1
def dD :List Ty->Nat
 | []=>0
 |x::xs=>max x.deep (dD xs)
end
def fK (k s:Int)(n:Nat)(t:Int):Bool:=
 if k=1 then decide ((s=1\/s=2\/s=4\/s=8)/\n=0/\t=0)
 else if k=2 then decide (1<=s/\s<=65536/\n=0/\t=0)
 else if k=3 then decide (0<=s/\s<=65536/\n=0/\t=0)
 else if k=4 then decide (0<=s/\s<=1024/\n=1/\t=0)
 else if k=5 then decide (s=0/\n<=16/\0<=t/\t<=n)
 else false
mutual
def Ty.right :Ty->Bool
 | .mk k s l t=>fK k s l.length t&&bL l
def bL :List Ty->Bool
 | []=>true
 |x::xs=>x.right&&bL xs
end
def Ty.may (t:Ty):Bool:=decide (t.count<=64)&&decide (t.deep<=8)&&t.right
theorem Ty.ind {P:Ty->Prop}(h:∀k s l t,(∀x∈l,P x)->P (.mk k s l t)):∀x,P x:=by
 intro x;exact Ty.rec (motive_1:=P) (motive_2:=fun s=>∀x∈s,P x) (fun k s l t ih=>h k s l t ih) (by simp) (fun x xs hx F1=>by
  intro y hy;rcases xA.1 hy with rfl|hy
  ·exact hx
  exact F1 y hy) x
theorem gy (s:List Ty)(k:Nat)(h:k<s.length):s.take (k+1)=s.take k++ [s[k]]:=yA h
theorem fy (a b:List Ty):aZ (a++b)=aZ a+aZ b:=by
 induction a with
 |nil=>simp[aZ]
 |cons x xs ih=>simp[aZ,ih,yw]
theorem pt (a b:List Ty):dD (a++b)=max (dD a) (dD b):=by
 induction a with
 |nil=>simp[dD]
 |cons x xs ih=>simp only[ya,dD,ih];omega
theorem ia (a b:List Ty):bL (a++b)=(bL a&&bL b):=by
 induction a with
 |nil=>simp[bL]
 |cons x xs ih=>simp[bL,ih,Bool.and_assoc]
theorem GU (x:Ty):1<=x.count:=by cases x;simp[Ty.count]
theorem Eb (s:List Ty)(k:Nat)(h:k<s.length):aZ (s.take (k+1))=aZ (s.take k)+s[k].count:=by
 rw[gy s k h,fy];simp[aZ]
theorem ue (s:List Ty)(k:Nat):aZ (s.take k)<=aZ s:=by
 have:=fy (s.take k) (s.drop k);rw[zN]at this;omega
theorem GV (s:List Ty)(k:Nat)(h:k<s.length):dD (s.take (k+1))=max (dD (s.take k)) s[k].deep:=by
 rw[gy s k h,pt];simp[dD]
theorem wR (s:List Ty)(k:Nat):dD (s.take k)<=dD s:=by
 have:=pt (s.take k) (s.drop k);rw[zN]at this;omega
theorem mq (s:List Ty)(k:Nat)(h:k<s.length):bL (s.take (k+1))=(bL (s.take k)&&s[k].right):=by
 rw[gy s k h,ia];simp[bL]
theorem Co (s:List Ty)(k:Nat)(h:k<s.length)(c:s[k].right=false):bL s=false:=by
 have b:=ia (s.take (k+1)) (s.drop (k+1));rw[zN,mq s k h,c]at b;simpa using b
theorem dI {s:List Ty}(h:bL s=true)(k:Nat)(b:k<s.length):s[k].right=true:=by
 cases hr:s[k].right with
 |true=>rfl
 |false=>rw[Co s k b hr]at h;cases h
theorem Oa (s:List Ty)(h:∀x∈s,x.deep<=x.count):dD s<=aZ s:=by
 induction s with
 |nil=>simp[dD]
 |cons x xs ih=>
  have c:=h x (by simp);have d:=ih (fun y b=>h y (by simp[b]));simp only[dD,aZ];omega
theorem Ll (x:Ty):x.deep<=x.count:=by
 induction x using Ty.ind with
 |h k s l t ih=>simp only[Ty.deep,Ty.count];have:=Oa l ih;omega
mutual
def Ty.room :Ty->Int->Int
 | .mk _ _ l _,left=>max (Um l (left-1)) 0
def Um :List Ty->Int->Int
 | [],left=>left
 |x::xs,left=>if left<=0 then left else Um xs (x.room left)
end
def Ty.mn (x:Ty):Bool:=decide (x.room 100=0)
mutual
def Ty.gL :Ty->Nat->Nat->Bool×Nat
 | .mk k s l t,lv,c=>if 8<lv\/c=0\/fK k s l.length t=false then(false,c)else ke l (lv+1) (c-1)
def ke :List Ty->Nat->Nat->Bool×Nat
 | [],_,c=>(true,c)
 |x::xs,lv,c=>match x.gL lv c with
  |(true,c')=>ke xs lv c'
  |(false,c')=>(false,c')
end
theorem rU (a b:List Ty)(d c:Nat):ke (a++b) d c=match ke a d c with
 |(true,e)=>ke b d e
 |(false,e)=>(false,e):=by
 induction a generalizing c with
 |nil=>simp[ke]
 |cons x xs ih=>
  simp only[ya,ke];rcases x.gL d c with⟨r,e⟩
  cases r with
  |true=>simp only[ih]
  |false=>rfl
theorem Be {s:List Ty}{k b c e:Nat}(h:k<s.length)(i:ke (s.take k) b c=(true,e)):ke (s.take (k+1)) b c=s[k].gL b e:=by
 rw[gy s k h,rU,i];simp only[ke];rcases s[k].gL b e with⟨r,d⟩
 cases r<;>rfl
theorem Lm {s:List Ty}{k b c e d:Nat}(h:k<s.length)(l:ke (s.take k) b c=(true,e))(j:s[k].gL b e=(false,d)):ke s b c=(false,d):=by
 have i:=rU (s.take (k+1)) (s.drop (k+1)) b c;rw[zN,Be h l,j]at i;exact i
def Bf (r:Bool×Nat)(rt:Bool)(lv d n c:Nat):Prop:=(r.1=true↔rt=true/\lv+d<=9/\n<=c)/\(r.1=true->r.2+n=c)/\r.2<=c
theorem Sn (s:List Ty)(k:∀x∈s,∀e c,e<=9->Bf (x.gL e c) x.right e x.deep x.count c):∀e c,e<=9->Bf (ke s e c) (bL s) e (dD s) (aZ s) c:=by
 induction s with
 |nil=>intro e c h;simp[Bf,ke,bL,dD,aZ,h]
 |cons x xs F1=>
  intro e c l;have i:=k x (by simp) e c l;rcases hv:x.gL e c with⟨r,n⟩
  rw[hv]at i;obtain⟨i,j,m⟩:=i;simp only at i j m;have z:=GU x;unfold Bf;simp only[ke,hv,bL,dD,aZ,zF];cases r with
  |true=>
   have j:=j rfl;obtain⟨u,o,w⟩:=F1 (fun y p=>k y (by simp[p])) e n l;have i:=i.1 rfl;refine⟨?_,fun q=>by have:=o q;simp only;omega,by simp only;omega⟩;simp only[u];constructor
   ·rintro⟨a,b,d⟩;exact⟨⟨i.1,a⟩,by omega,by omega⟩
   rintro⟨a,b,d⟩;exact⟨a.2,by omega,by omega⟩
  |false=>
   refine⟨?_,by simp,m⟩;constructor
   ·intro h;cases h
   rintro⟨a,b,d⟩;exact i.2 ⟨a.1,by omega,by omega⟩
theorem Ec (x:Ty):∀i c,i<=9->Bf (x.gL i c) x.right i x.deep x.count c:=by
 induction x using Ty.ind with
 |h k s l t ih=>
  intro i c q;unfold Bf;simp only[Ty.gL,Ty.right,Ty.deep,Ty.count,zF];by_cases e:8<i\/c=0\/fK k s l.length t=false
  ·simp only[zl e];refine⟨?_,by simp,zf _⟩;constructor
   ·intro h;cases h
   rintro⟨⟨a,_⟩,b,d⟩;rcases e with e|e|e
   ·omega
   ·omega
   rw[e]at a;cases a
  simp only[zj e];have o:i<=8/\0<c/\fK k s l.length t=true:=by
   refine⟨by omega,by omega, ?_⟩;cases h:fK k s l.length t with
   |true=>rfl
   |false=>exact absurd (.inr (.inr h)) e
  obtain⟨n,m,p⟩:=Sn l ih (i+1) (c-1) (by omega);refine⟨?_,fun j=>by have:=m j;omega,by omega⟩;rw[n];constructor
  ·rintro⟨a,b,d⟩;exact⟨⟨o.2.2,a⟩,by omega,by omega⟩
  rintro⟨a,b,d⟩;exact⟨a.2,by omega,by omega⟩
theorem Ln (x:Ty):(x.gL 1 64).1=x.may:=by
 have h:=(Ec x 1 64 (by omega)).1;rw[yX,h];simp only[Ty.may,zF,yj];constructor
 ·rintro⟨a,b,c⟩;exact⟨⟨by omega,by omega⟩,a⟩
 rintro⟨⟨a,b⟩,c⟩;exact⟨c,by omega,by omega⟩
