/- Texts and the lists of their bytes: small plain laws. No program in sight. -/
import Derived.Below
import Derived.Laws.Strings
set_option linter.all false
namespace Go.Proofs.YtpjgigllldipiaaGreatDoor
def zi:=@Nat.le_refl
def zj:=@if_neg
def zl:=@if_pos
def zo:=@List.length_append
def zt:=@List.eq_nil_of_length_eq_zero
def zA:=@List.getD_eq_getElem?_getD
def zB:=@List.length_cons
def zC:=@List.take_of_length_le
def zD:=@List.getElem?_eq_getElem
def zF:=@Bool.and_eq_true
def zI:=@List.append_assoc
def zL:=@List.take_append_drop
def ya:=@List.cons_append
def yc:=@List.length_take
def ye:=@List.take_append_of_le_length
def yf:=@Nat.lt_of_lt_of_le
def yk:=@decide_eq_true_eq
def yr:=@List.getElem?_append_right
def yv:=@Nat.add_assoc
def yy:=@Nat.pow_le_pow_right
def yA:=@List.take_succ_eq_append_getElem
def yK:=@Nat.min_eq_left
def yO:=@List.drop_append_of_le_length
def yY:=@Bool.eq_iff_iff
def xa:=@decide_eq_false_iff_not
def xj:=@congrArg
def xk:=@List.getElem?_eq_none
def xq:=@List.mem_cons
def xr:=@Bool.eq_false_or_eq_true
def xB:=@Nat.mod_lt
def xE:=@Nat.two_pow_add_eq_or_of_lt
def xJ:=@List.length_replicate
def xK:=@List.getElem?_append_left
def xL:=@List.drop_eq_getElem_cons
def xS:=@if_true
def xV:=@List.drop_drop
def Zg:=@Nat.pow_add
def Zl:=@Nat.lt_or_ge
def ZA:=@Nat.mul_comm
def ZK:=@List.all_eq_true
def ZO:=@Bool.or_eq_false_iff
def ZU:=@List.replicate_succ
def ZY:=@Nat.sub_self
def Z7:=@List.drop_take
def Yn:=@dif_pos
theorem aG {a b:ByteArray}(h:a.data.toList=b.data.toList):a=b:=by
 cases a;cases b;simp at h;simpa using h
theorem jo (s:ByteArray):(⟨s.data.toList.toArray⟩:ByteArray)=s:=aG (by simp)
theorem aa (s:ByteArray):s.data.toList.length=s.size:=by simp
theorem bD (l:List UInt8):(⟨l.toArray⟩:ByteArray).size=l.length:=by simp[ByteArray.size]
theorem ba (a b:ByteArray):(a++b).data.toList=a.data.toList++b.data.toList:=by
 rw[ByteArray.data_append];simp
theorem aj (s:ByteArray)(i j:Nat):(s.extract i j).data.toList=(s.data.toList.take j).drop i:=by
 rw[ByteArray.data_extract,Array.toList_extract,List.extract_eq_take_drop,Z7]
theorem an (s:ByteArray)(i j:Nat)(b:j<=s.size):(s.extract i j).size=j-i:=by
 rw[ByteArray.size_extract,yK b]
theorem bX (a b:ByteArray):(a++b).size=a.size+b.size:=ByteArray.size_append
theorem jh (s:ByteArray)(k:Nat)(h:k<s.size):s.data.toList.take (k+1)=s.data.toList.take k++ [s[k]]:=by
 rw[yA (by simpa using h)];rfl
theorem drop_cons (s:ByteArray)(k:Nat)(h:k<s.size):s.data.toList.drop k=s[k]::s.data.toList.drop (k+1):=by
 rw[xL (by simpa using h)];rfl
theorem length_take (s:ByteArray)(k:Nat)(h:k<=s.size):(s.data.toList.take k).length=k:=by
 rw[yc,yK (by simpa using h)]
theorem cM (s:ByteArray):s.data.toList.take s.size=s.data.toList:=zC (by simp)
theorem gz (s:ByteArray)(k:Nat)(h:k<s.size):s.data.toList[k]?=some s[k]:=by
 rw[zD (by simpa using h)];rfl
theorem pr (s:ByteArray):s.extract 0 s.size=s:=aG (by rw[aj,cM];simp)
theorem tA (s:ByteArray)(i a b:Nat)(c:i+b<=s.size):(s.extract i s.size).extract a b=s.extract (i+a) (i+b):=by
 apply aG;rw[aj,aj,aj,cM,List.take_drop,xV]
theorem fR (t:ByteArray):(t.size=0/\t=⟨#[]⟩)\/(t.size≠0/\t.toList.isEmpty=false/\(!t.toList.isEmpty)=true):=by
 by_cases h:t.size=0
 ·exact .inl ⟨h,aG (zt (by simpa using h))⟩
 refine .inr ⟨h, ?_, ?_⟩<;>rw[ByteArray.toList_eq]<;>cases h2:t.data.toList with
 |nil=>exact absurd (by rw[<-aa,h2];rfl) h
 |cons a b=>rfl
theorem eH (e:Int):(e=0/\(e==0)=true/\(e !=0)=false)\/(e≠0/\(e==0)=false/\(e !=0)=true):=by
 by_cases h:e=0
 ·exact .inl ⟨h,by simp[h],by simp[h]⟩
 exact .inr ⟨h,by simp[h],by simp[h]⟩
theorem pt (a b:ByteArray):(a=b/\(a.toList==b.toList)=true/\(a.toList !=b.toList)=false)\/(a≠b/\(a.toList==b.toList)=false/\(a.toList !=b.toList)=true):=by
 by_cases h:a=b
 ·subst h;exact .inl ⟨rfl,by simp,by simp⟩
 have c:a.toList≠b.toList:=by
  intro e;rw[ByteArray.toList_eq,ByteArray.toList_eq]at e;exact h (aG e)
 exact .inr ⟨h,by simp[c],by simp[c]⟩
abbrev Nx (α:Type):=ByteArray->Int×α×Nat×Nat
structure mq {α:Type}(nx:Nx α):Prop where
 pos:∀s,(nx s).1=0->0<(nx s).2.2.1/\(nx s).2.2.1<=s.size
 ext:∀s t,(nx s).1≠2->nx (s++t)=nx s
 short:∀s,(nx s).1=2->(nx s).2.2.2=0
abbrev Sz (α:Type):=List α×ByteArray×Nat×Int
def Sz.cons {α:Type}(x:α)(m:Nat)(r:Sz α):Sz α:=(x::r.1,r.2.1,m+r.2.2.1,r.2.2.2)
def spl {α:Type}(nx:Nx α):Nat->ByteArray->Sz α
 |0,s=>([],s,0,0)
 |f+1,s=>if(nx s).1=0 then(spl nx f (s.extract (nx s).2.2.1 s.size)).cons (nx s).2.1 (nx s).2.2.2 else([],s,(nx s).2.2.2,if(nx s).1=2 then 0 else(nx s).1)
def split {α:Type}(nx:Nx α)(s:ByteArray):Sz α:=spl nx (s.size+1) s
theorem nz (s:ByteArray)(n:Nat)(h:0<n)(b:n<=s.size):(s.extract n s.size).size<s.size:=by rw[an _ _ _ (zi _)];omega
theorem D7 {e:Type}{c:Nx e}(h:mq c):∀(f g:Nat) (s:ByteArray),s.size<f->s.size<g->spl c f s=spl c g s
 |0,_,_,hf,_=>absurd hf (by omega)
 |_,0,_,_,hg=>absurd hg (by omega)
 |f+1,g+1,s,hf,hg=>by
  unfold spl;by_cases b:(c s).1=0
  ·rw[zl b,zl b];obtain⟨i,d⟩:=h.pos s b;have:=nz s _ i d;rw[D7 h f g _ (by omega) (by omega)]
  rw[zj b,zj b]
theorem ik {e:Type}{b:Nx e}(h:mq b)(s:ByteArray):split b s=if(b s).1=0 then(split b (s.extract (b s).2.2.1 s.size)).cons (b s).2.1 (b s).2.2.2 else([],s,(b s).2.2.2,if(b s).1=2 then 0 else(b s).1):=by
 rw[split,spl];by_cases c:(b s).1=0
 ·rw[zl c,zl c];obtain⟨i,d⟩:=h.pos s c;have:=nz s _ i d;rw[split,D7 h s.size _ _ (by omega) (Nat.lt_succ_self _)]
 rw[zj c,zj c]
theorem il {c:Type}{b:Nx c}(h:mq b){s:ByteArray}(d:(b s).1=0):split b s=(split b (s.extract (b s).2.2.1 s.size)).cons (b s).2.1 (b s).2.2.2:=by rw[ik h s,zl d]
theorem dX {d:Type}{b:Nx d}(h:mq b){s:ByteArray}(c:(b s).1=2):split b s=([],s,0,0):=by
 rw[ik h s,zj (by omega),zl c,h.short s c]
theorem qS {c:Type}{b:Nx c}(h:mq b){s:ByteArray}(e:(b s).1≠0)(d:(b s).1≠2):split b s=([],s,(b s).2.2.2,(b s).1):=by
 rw[ik h s,zj e,zj d]
theorem kK {α:Type}{nx:Nx α}(h:mq nx){p:ByteArray->Prop}(stop:∀s,(nx s).1≠0->p s)(go:∀s,(nx s).1=0->p (s.extract (nx s).2.2.1 s.size)->p s)(s:ByteArray):p s:=by
 suffices H:∀n (s:ByteArray),s.size<n->p s from H (s.size+1) s (Nat.lt_succ_self _)
 intro n;induction n with
 |zero=>intro s hs;omega
 |succ n ih=>
  intro s hs;by_cases h0:(nx s).1=0
  ·obtain⟨h1,h2⟩:=h.pos s h0;have:=nz s _ h1 h2;exact go s h0 (ih _ (by omega))
  exact stop s h0
theorem GX {d:Type}{b:Nx d}(h:mq b)(s:ByteArray):((split b s).2.2.2=0->(b (split b s).2.1).1=2)/\((split b s).2.2.2≠0->(b (split b s).2.1).1=(split b s).2.2.2/\(split b s).2.2.2≠2):=by
 induction s using kK h with
 |stop s h0=>
  by_cases c:(b s).1=2
  ·rw[dX h c];exact⟨fun _=>c,fun h=>absurd rfl h⟩
  rw[qS h h0 c];exact⟨fun h=>absurd h h0,fun _=>⟨rfl,c⟩⟩
 |go s h0 ih=>rw[il h h0];exact ih
theorem s5 {c:Type}{b:Nx c}(h:mq b)(s:ByteArray):∃k,k<=s.size/\(split b s).2.1=s.extract k s.size:=by
 induction s using kK h with
 |stop s h0=>
  refine⟨0,by omega, ?_⟩;rw[pr,ik h s,zj h0]
 |go s h0 ih=>
  obtain⟨k,j,e⟩:=ih;obtain⟨i,d⟩:=h.pos s h0;have hz:(s.extract (b s).2.2.1 s.size).size=s.size-(b s).2.2.1:=an _ _ _ (zi _);refine⟨(b s).2.2.1+k,by omega, ?_⟩;rw[il h h0];show(split b (s.extract (b s).2.2.1 s.size)).2.1=_
  rw[e,hz,tA _ _ _ _ (by omega)];congr 1
  omega
theorem JQ (s t:ByteArray)(n:Nat)(h:n<=s.size):(s++t).extract n (s++t).size=s.extract n s.size++t:=by
 apply aG;rw[aj,ba,ba,aj,bX,cM];rw[zC (by rw[zo,aa,aa];omega),yO (by rw[aa];exact h)]
theorem oz {e:Type}{b:Nx e}(h:mq b)(s t:ByteArray):
 split b (s++t)=if(split b s).2.2.2=0 then((split b s).1++(split b ((split b s).2.1++t)).1,(split b ((split b s).2.1++t)).2.1,(split b s).2.2.1+(split b ((split b s).2.1++t)).2.2.1,(split b ((split b s).2.1++t)).2.2.2)
  else((split b s).1,(split b s).2.1++t,(split b s).2.2.1,(split b s).2.2.2):=by
 induction s using kK h with
 |stop s h0=>
  by_cases c:(b s).1=2
  ·rw[dX h c];simp
  have d:=h.ext s t c;rw[qS h h0 c,zj h0,qS h (by rw[d];exact h0) (by rw[d];exact c),d]
 |go s h0 ih=>
  obtain⟨i,c⟩:=h.pos s h0;have d:=h.ext s t (by rw[h0];decide);rw[il h (s:=s++t) (by rw[d];exact h0),il h h0,d,JQ _ _ _ c,ih];unfold Sz.cons;by_cases hz:(split b (s.extract (b s).2.2.1 s.size)).2.2.2=0
  ·rw[zl hz,zl hz];simp[yv]
  rw[zj hz,zj hz]
theorem ua {c:Type}{b:Nx c}(h:mq b)(s t:ByteArray)(d:(split b s).2.2.2=0):split b (s++t)=((split b s).1++(split b ((split b s).2.1++t)).1,(split b ((split b s).2.1++t)).2.1,(split b s).2.2.1+(split b ((split b s).2.1++t)).2.2.1,(split b ((split b s).2.1++t)).2.2.2):=by
 rw[oz h,zl d]
structure iI where
 buf:ByteArray
 fault:Int
 laid:Nat
 told:Nat
def iI.new :iI:=⟨ByteArray.empty,0,0,0⟩
def l7 {α:Type}(nx:Nx α)(x:iI)(s:ByteArray):iI×List α×Int:=
 if x.fault≠0 then({x with laid:=0},[],x.fault)
 else(⟨(split nx (x.buf++s)).2.1,(split nx (x.buf++s)).2.2.2,s.size+(split nx (x.buf++s)).2.2.1,x.told+(split nx (x.buf++s)).1.length⟩,(split nx (x.buf++s)).1,(split nx (x.buf++s)).2.2.2)
theorem eP {b:Type}{c:Nx b}{x:iI}(h:x.fault≠0)(s:ByteArray):l7 c x s=({x with laid:=0},[],x.fault):=by unfold l7;rw[zl h]
theorem fh {c:Type}{b:Nx c}{x:iI}(h:x.fault=0)(s:ByteArray):l7 b x s=(⟨(split b (x.buf++s)).2.1,(split b (x.buf++s)).2.2.2,s.size+(split b (x.buf++s)).2.2.1,x.told+(split b (x.buf++s)).1.length⟩,(split b (x.buf++s)).1,(split b (x.buf++s)).2.2.2):=by unfold l7;rw[zj (by simp[h])]
theorem A7 {c:Type}{b:Nx c}(x:iI)(s:ByteArray):(l7 b x s).1.fault=(l7 b x s).2.2:=by
 by_cases h:x.fault=0
 ·rw[fh h]
 rw[eP h]
structure uc {α:Type}(nx:Nx α)(x:iI)(s:ByteArray)(l:List α):Prop where
 fault:x.fault=0
 err:(split nx s).2.2.2=0
 buf:x.buf=(split nx s).2.1
 told:l=(split nx s).1
theorem uc.new {c:Type}{b:Nx c}(h:mq b)(d:(b ByteArray.empty).1=2):uc b iI.new ByteArray.empty ([]:List c):=by
 have:=dX h d;exact⟨rfl,by rw[this],by rw[this];rfl,by rw[this]⟩
theorem uc.l7 {c:Type}{b:Nx c}(h:mq b){x:iI}{s:ByteArray}{l:List c}(hx:uc b x s l)(t:ByteArray):
 (l7 b x t).2.2=(split b (s++t)).2.2.2/\l++(l7 b x t).2.1=(split b (s++t)).1/\(l7 b x t).1.buf=(split b (s++t)).2.1/\((l7 b x t).2.2=0->uc b (l7 b x t).1 (s++t) (l++(l7 b x t).2.1)):=by
 have e:=ua h s t hx.err;rw[fh hx.fault,hx.buf,e,hx.told];refine⟨rfl,rfl,rfl,fun d=>⟨d, ?_, ?_, ?_⟩⟩
 ·rw[e];exact d
 ·rw[e]
 rw[e]
def pw {α:Type}(nx:Nx α)(x:iI):Prop:=x.fault=0->(nx x.buf).1=2
theorem pw.new {c:Type}{b:Nx c}(d:(b ByteArray.empty).1=2):pw b iI.new:=fun _=>d
theorem pw.l7 {d:Type}{c:Nx d}(h:mq c)(x:iI)(s:ByteArray):pw c (l7 c x s).1:=by
 by_cases b:x.fault=0
 ·rw[fh b];exact(GX h _).1
 rw[eP b];exact fun e=>absurd e b
def cZ :List UInt8->Nat
 | []=>0
 |b::t=>b.toNat+256*cZ t
theorem jq (l:List UInt8):cZ l<2^(8*l.length):=by
 induction l with
 |nil=>simp[cZ]
 |cons b t ih=>
  have:=b.toNat_lt;rw[zB,show 8*(t.length+1)=8+8*t.length from by omega,Zg];simp only[cZ];omega
theorem GY (l t:List UInt8):cZ (l++t)=cZ l+2^(8*l.length)*cZ t:=by
 induction l with
 |nil=>simp[cZ]
 |cons b r ih=>
  rw[ya,cZ,cZ,ih,zB,show 8*(r.length+1)=8+8*r.length from by omega,Zg,Nat.mul_add,Nat.mul_assoc];omega
theorem Ok (l:List UInt8)(b:UInt8):cZ (l++ [b])=cZ l+b.toNat*2^(8*l.length):=by
 rw[GY];simp[cZ,ZA]
def lk (l:List UInt8):Nat:=cZ l.reverse
theorem ud (l:List UInt8)(b:UInt8):lk (l++ [b])=256*lk l+b.toNat:=by
 simp[lk,cZ];omega
theorem ue (l:List UInt8):lk l<2^(8*l.length):=by
 have:=jq l.reverse;simpa[lk]using this
theorem UF (n b i:Nat)(c:n<2^(8*i)):n|||b*2^(8*i)=n+b*2^(8*i):=by
 rw[Nat.or_comm,ZA,<-xE c];omega
theorem le_pow (i:Nat)(hi:i<=8):2^(8*i)<=18446744073709551616:=by
 have:2^(8*i)<=2^64:=yy (by omega) (by omega);simpa using this
theorem le_step (n b i:Nat)(c:b<256)(e:n<2^(8*i)):n+b*2^(8*i)<2^(8*(i+1)):=by
 have d:2^(8*(i+1))=256*2^(8*i):=by rw[show 8*(i+1)=8+8*i from by omega,Zg]
 have h:b*2^(8*i)<=255*2^(8*i):=Nat.mul_le_mul_right _ (by omega);omega
def cd (s:ByteArray):Nat->Nat->Nat->Nat×Nat×Int
 |0,_,_=>(0,0,2)
 |f+1,i,n=>if h:i<s.size then
  if(i=9/\1<s[i].toNat)\/(0<i/\s[i].toNat=0)then(0,0,3)
  else if s[i].toNat<128 then(n+s[i].toNat%128*2^(7*i),i+1,0)
  else cd s f (i+1) (n+s[i].toNat%128*2^(7*i))
  else(0,0,2)
def ay (s:ByteArray):Nat×Nat×Int:=cd s 10 0 0
theorem ji (s:ByteArray)(f i n:Nat)(h:¬i<s.size):cd s f i n=(0,0,2):=by
 cases f<;>simp[cd,h]
theorem nB (s:ByteArray)(f i n:Nat)(h:i<s.size)(b:(i=9/\1<s[i].toNat)\/(0<i/\s[i].toNat=0)):cd s (f+1) i n=(0,0,3):=by
 rw[cd,Yn h,zl b]
theorem jr (s:ByteArray)(f i n:Nat)(h:i<s.size)(b:¬((i=9/\1<s[i].toNat)\/(0<i/\s[i].toNat=0)))(c:s[i].toNat<128):
 cd s (f+1) i n=(n+s[i].toNat%128*2^(7*i),i+1,0):=by
 rw[cd,Yn h,zj b,zl c]
theorem js (s:ByteArray)(f i n:Nat)(h:i<s.size)(b:¬((i=9/\1<s[i].toNat)\/(0<i/\s[i].toNat=0)))(c:¬s[i].toNat<128):
 cd s (f+1) i n=cd s f (i+1) (n+s[i].toNat%128*2^(7*i)):=by
 rw[cd,Yn h,zj b,zj c]
theorem uf (n b i:Nat)(h:n<2^(7*i)):n+b%128*2^(7*i)<2^(7*(i+1)):=by
 have c:b%128<=127:=by omega
 have e:2^(7*(i+1))=128*2^(7*i):=by rw[show 7*(i+1)=7+7*i from by omega,Zg]
 have d:b%128*2^(7*i)<=127*2^(7*i):=Nat.mul_le_mul_right _ c;omega
theorem JR (i:Nat)(hi:i<=9):2^(7*i)<=9223372036854775808:=by
 have:2^(7*i)<=2^63:=yy (by omega) (by omega);simpa using this
theorem D8 (n b i:Nat)(hi:i<=9)(d:n<2^(7*i))(e:¬((i=9/\1<b)\/(0<i/\b=0))):n+b%128*2^(7*i)<18446744073709551616:=by
 rcases Zl i 9 with h|h
 ·have j:=uf n b i d;have c:=JR (i+1) (by omega);omega
 obtain rfl:i=9:=by omega
 have c:b%128<=1:=by omega
 omega
theorem V4 (n b i:Nat)(c:n<2^(7*i)):n|||(b%128)*2^(7*i)=n+b%128*2^(7*i):=by
 rw[Nat.or_comm,ZA,<-xE c];omega
theorem Ol (s:ByteArray)(f i n:Nat)(hi:i+f=10)(d:n<2^(7*i))(h:(cd s f i n).2.2=0):
 i<(cd s f i n).2.1/\(cd s f i n).2.1<=10/\(cd s f i n).2.1<=s.size/\(cd s f i n).1<18446744073709551616:=by
 induction f generalizing i n with
 |zero=>simp[cd]at h
 |succ f ih=>
  by_cases b:i<s.size
  ·by_cases c:(i=9/\1<s[i].toNat)\/(0<i/\s[i].toNat=0)
   ·rw[nB s f i n b c]at h;simp at h
   by_cases e:s[i].toNat<128
   ·rw[jr s f i n b c e];exact⟨by simp,by simp;omega,by simp;omega,D8 n _ i (by omega) d c⟩
   rw[js s f i n b c e]at h⊢;have:=ih (i+1) _ (by omega) (uf n _ i d) h;omega
  rw[ji s _ i n b]at h;simp at h
theorem gU (s:ByteArray)(h:(ay s).2.2=0):0<(ay s).2.1/\(ay s).2.1<=10/\(ay s).2.1<=s.size/\(ay s).1<18446744073709551616:=
 Ol s 10 0 0 rfl (by simp) h
theorem Lz (s:ByteArray)(f i n:Nat)(h:(cd s f i n).2.2≠0):(cd s f i n).1=0/\(cd s f i n).2.1=0/\((cd s f i n).2.2=2\/(cd s f i n).2.2=3):=by
 induction f generalizing i n with
 |zero=>simp[cd]
 |succ f ih=>
  by_cases b:i<s.size
  ·by_cases c:(i=9/\1<s[i].toNat)\/(0<i/\s[i].toNat=0)
   ·rw[nB s f i n b c];simp
   by_cases d:s[i].toNat<128
   ·rw[jr s f i n b c d]at h;simp at h
   rw[js s f i n b c d]at h⊢;exact ih _ _ h
  rw[ji s _ i n b];simp
def tB (out:List UInt8)(back:Nat):Nat->List UInt8
 |0=>out
 |n+1=>tB (out++ [out.getD (out.length-back) 0]) back n
theorem ug (out:List UInt8)(b n:Nat):(tB out b n).length=out.length+n:=by
 induction n generalizing out with
 |zero=>rfl
 |succ n ih=>rw[tB,ih];simp;omega
theorem JS (out:List UInt8)(b m n:Nat):tB out b (m+n)=tB (tB out b m) b n:=by
 induction m generalizing out with
 |zero=>simp[tB]
 |succ m ih=>rw[show m+1+n=(m+n)+1 from by omega,tB,tB,ih]
theorem D9 (out:List UInt8)(b n:Nat):tB out b (n+1)=tB out b n++ [(tB out b n).getD ((tB out b n).length-b) 0]:=by
 rw[JS];rfl
theorem LA (out:List UInt8)(b m:Nat)(d:m<=b)(e:b<=out.length):tB out b m=out++(out.drop (out.length-b)).take m:=by
 induction m with
 |zero=>simp[tB]
 |succ m ih=>
  rw[D9,ih (by omega)];have c:(out++(out.drop (out.length-b)).take m).length=out.length+m:=by simp;omega
  rw[c,zI];congr 1
  rw[yA (by simp;omega)];congr 1
  rw[zA,xK (by omega),List.getElem_drop,zD (by omega)];simp;congr 1
  omega
def bg (b:Nat):Nat:=if b%4=0 then(if 60<=b/4 then b/4-58 else 1)else if b%4=1 then 2 else if b%4=2 then 3 else 5
theorem A8 (b:Nat)(c:b<256):1<=bg b/\bg b<=5:=by
 unfold bg;split<;>(try split)<;>(try split)<;>omega
def cH (b l:Nat):Nat:=if b%4=0 then(if 60<=b/4 then l+1 else b/4+1)else if b%4=1 then 4+b/4%8 else b/4+1
def jU (b l:Nat):Nat:=if b%4=1 then b/4/8*256+l else l
def im (s:ByteArray)(k b:Nat):Nat:=cZ (s.extract (k+1) (k+bg b)).data.toList
def bT (s:ByteArray)(size k b:Nat)(out:List UInt8):Int×Nat×List UInt8:=
 if s.size<k+bg b then(2,k,out)
 else if(b%4≠0/\(jU b (im s k b)=0\/out.length<jU b (im s k b)))\/size-out.length<cH b (im s k b)then(3,k,out)
 else if b%4=0 then
  if s.size<k+bg b+cH b (im s k b)then(2,k,out)
  else(0,k+bg b+cH b (im s k b),out++(s.extract (k+bg b) (k+bg b+cH b (im s k b))).data.toList)
 else(0,k+bg b,tB out (jU b (im s k b)) (cH b (im s k b)))
def gN (s:ByteArray)(size:Nat):Nat->Nat->List UInt8->Int×List UInt8
 |0,_,_=>(2,[])
 |f+1,k,out=>if h:k<s.size then
  if(bT s size k s[k].toNat out).1=0 then gN s size f (bT s size k s[k].toNat out).2.1 (bT s size k s[k].toNat out).2.2
  else((bT s size k s[k].toNat out).1,[])
  else if out.length<size then(2,[])else(0,out)
def iJ (s:ByteArray)(size:Nat):Int×List UInt8:=gN s size (s.size+1) 0 []
def aC (s:ByteArray):Nat×Nat×Int:=
 if(ay s).2.2=0 then(if 4294967295<(ay s).1 then(0,0,5)else ay s)else(0,0,(ay s).2.2)
def bc (s:ByteArray)(most:Int):Int×List UInt8:=
 if(aC s).2.2≠0 then((aC s).2.2,[])
 else if most<(aC s).1 then(5,[])
 else iJ (s.extract (aC s).2.1 s.size) (aC s).1
theorem Om {s:ByteArray}{size k b:Nat}{out:List UInt8}(j:b<256)(m:k<s.size)(l:out.length<=size)(h:(bT s size k b out).1=0):
 k<(bT s size k b out).2.1/\(bT s size k b out).2.1<=s.size/\(bT s size k b out).2.2.length<=size:=by
 have n:=A8 b j;unfold bT at h⊢;split at h<;>rename_i d
 ·simp at h
 split at h<;>rename_i c
 ·simp at h
 split at h<;>rename_i e
 ·split at h<;>rename_i i
  ·simp at h
  rw[zj d,zj c,zl e,zj i];refine⟨by simp;omega,by simp;omega, ?_⟩;rw[zo,aa,an _ _ _ (by omega)];omega
 rw[zj d,zj c,zj e];refine⟨by simp;omega,by simp;omega, ?_⟩;rw[ug];omega
theorem LB {s:ByteArray}{size f k:Nat}{out:List UInt8}{x:Int×List UInt8}(b:k<s.size)(hx:gN s size (f+1) k out=x)(h:(bT s size k s[k].toNat out).1=0):
 gN s size f (bT s size k s[k].toNat out).2.1 (bT s size k s[k].toNat out).2.2=x:=by
 rw[<-hx,gN,Yn b,zl h]
theorem On {s:ByteArray}{size f k:Nat}{out:List UInt8}{x:Int×List UInt8}(b:k<s.size)(hx:gN s size (f+1) k out=x)(h:(bT s size k s[k].toNat out).1≠0):
 x=((bT s size k s[k].toNat out).1,[]):=by
 rw[<-hx,gN,Yn b,zj h]
theorem Ea {s:ByteArray}{size f k:Nat}{out:List UInt8}{x:Int×List UInt8}(b:¬k<s.size)(hx:gN s size (f+1) k out=x):x=if out.length<size then(2,[])else(0,out):=by
 rw[<-hx,gN,dif_neg b]
def iq (x n:Nat):Nat:=x/2^n|||x*2^(32-n)%4294967296
def sg0 (x:Nat):Nat:=iq x 7^^^iq x 18^^^x/2^3
def sg1 (x:Nat):Nat:=iq x 17^^^iq x 19^^^x/2^10
def Sg0 (x:Nat):Nat:=iq x 2^^^iq x 13^^^iq x 22
def Sg1 (x:Nat):Nat:=iq x 6^^^iq x 11^^^iq x 25
def Eb (e f g:Nat):Nat:=e&&&f|||(e^^^4294967295)&&&g
def uh (a b c:Nat):Nat:=a&&&b|||a&&&c|||b&&&c
theorem V5 {n:Nat}:n<4294967296↔n<2^32:=by simp
theorem tC {a b:Nat}(d:a<4294967296)(c:b<4294967296):a|||b<4294967296:=by
 rw[V5]at*;exact Nat.or_lt_two_pow d c
theorem eu {a b:Nat}(c:a<4294967296):a&&&b<4294967296:=Nat.lt_of_le_of_lt Nat.and_le_left c
theorem dt {a b:Nat}(d:a<4294967296)(c:b<4294967296):a^^^b<4294967296:=by
 rw[V5]at*;exact Nat.xor_lt_two_pow d c
theorem mr {a:Nat}(n:Nat)(b:a<4294967296):a/2^n<4294967296:=Nat.lt_of_le_of_lt (Nat.div_le_self _ _) b
theorem ea {x:Nat}(n:Nat)(h:x<4294967296):iq x n<4294967296:=tC (mr n h) (xB _ (by omega))
theorem afv {x:Nat}(h:x<4294967296):sg0 x<4294967296:=dt (dt (ea _ h) (ea _ h)) (mr _ h)
theorem afw {x:Nat}(h:x<4294967296):sg1 x<4294967296:=dt (dt (ea _ h) (ea _ h)) (mr _ h)
theorem afx {x:Nat}(h:x<4294967296):Sg0 x<4294967296:=dt (dt (ea _ h) (ea _ h)) (ea _ h)
theorem afy {x:Nat}(h:x<4294967296):Sg1 x<4294967296:=dt (dt (ea _ h) (ea _ h)) (ea _ h)
theorem aey {e f g:Nat}(b:e<4294967296):Eb e f g<4294967296:=tC (eu b) (eu (dt b (by omega)))
theorem abp {a b c:Nat}(d:a<4294967296)(e:b<4294967296):uh a b c<4294967296:=tC (tC (eu d) (eu d)) (eu e)
theorem Oo (e f g:Nat)(b:e<4294967296):e&&&f^^^(e^^^4294967295)&&&g=Eb e f g:=by
 apply Nat.eq_of_testBit_eq;intro i;have h:Nat.testBit 4294967295 i=decide (i<32):=by
  have:=Nat.testBit_two_pow_sub_one 32 i;simpa using this
 unfold Eb;simp only[Nat.testBit_xor,Nat.testBit_and,Nat.testBit_or,h];by_cases hi:i<32
 ·simp only[hi,decide_true];cases Nat.testBit e i<;>cases Nat.testBit f i<;>cases Nat.testBit g i<;>rfl
 have c:Nat.testBit e i=false:=Nat.testBit_lt_two_pow (yf (V5.1 b) (yy (by omega) (by omega)));simp[hi,c]
theorem LC (a b c:Nat):(a&&&b^^^a&&&c)^^^b&&&c=uh a b c:=by
 apply Nat.eq_of_testBit_eq;intro i;unfold uh;simp only[Nat.testBit_xor,Nat.testBit_and,Nat.testBit_or];cases Nat.testBit a i<;>cases Nat.testBit b i<;>cases Nat.testBit c i<;>rfl
def mu (s:ByteArray)(i:Nat):Nat:=(s.data.toList.getD (4*i) 0).toNat*16777216+(s.data.toList.getD (4*i+1) 0).toNat*65536+(s.data.toList.getD (4*i+2) 0).toNat*256+(s.data.toList.getD (4*i+3) 0).toNat
theorem A9 (s:ByteArray)(i:Nat):mu s i<4294967296:=by
 have d:=(s.data.toList.getD (4*i) 0).toNat_lt;have c:=(s.data.toList.getD (4*i+1) 0).toNat_lt;have e:=(s.data.toList.getD (4*i+2) 0).toNat_lt;have b:=(s.data.toList.getD (4*i+3) 0).toNat_lt;unfold mu;omega
def Ba (s:ByteArray)(l:List Nat)(i:Nat):Nat:=
 if i<16 then mu s i else(l.getD (i-16) 0+sg0 (l.getD (i-15) 0)+l.getD (i-7) 0+sg1 (l.getD (i-2) 0))%4294967296
def sched (s:ByteArray):Nat->List Nat
 |0=> []
 |i+1=>sched s i++ [Ba s (sched s i) i]
theorem iW (s:ByteArray)(i:Nat):(sched s i).length=i:=by
 induction i with
 |zero=>rfl
 |succ i ih=>simp[sched,ih]
theorem Oq (s:ByteArray)(l:List Nat)(i:Nat):Ba s l i<4294967296:=by
 unfold Ba;split
 ·exact A9 s i
 exact xB _ (by omega)
theorem dN (s:ByteArray)(i j:Nat)(h:j<i):(sched s i).getD j 0=Ba s (sched s j) j:=by
 induction i with
 |zero=>omega
 |succ i ih=>
  rw[sched,zA];by_cases b:j<i
  ·rw[xK (by rw[iW];exact b),<-zA];exact ih b
  obtain rfl:j=i:=by omega
  rw[yr (by rw[iW];exact zi _),iW,ZY];rfl
theorem Ot (s:ByteArray)(i j:Nat):(sched s i).getD j 0<4294967296:=by
 by_cases h:j<i
 ·rw[dN s i j h];exact Oq _ _ _
 rw[zA,xk (by rw[iW];omega)];simp
def lY (s:ByteArray)(i:Nat):Nat:=(sched s 64).getD i 0
theorem Ou (s:ByteArray)(i:Nat):lY s i<4294967296:=Ot s 64 i
theorem Bb (s:ByteArray)(i:Nat)(h:i<16):lY s i=mu s i:=by
 unfold lY;rw[dN s 64 i (by omega),Ba,zl h]
theorem SA (s:ByteArray)(i:Nat)(h:16<=i)(b:i<64):lY s i=(lY s (i-16)+sg0 (lY s (i-15))+lY s (i-7)+sg1 (lY s (i-2)))%4294967296:=by
 unfold lY;rw[dN s 64 i b,Ba,zj (by omega),dN s 64 (i-16) (by omega),dN s 64 (i-15) (by omega),dN s 64 (i-7) (by omega),dN s 64 (i-2) (by omega),
  dN s i (i-16) (by omega),dN s i (i-15) (by omega),dN s i (i-7) (by omega),dN s i (i-2) (by omega)]
structure Sh where
 a:Nat
 b:Nat
 c:Nat
 d:Nat
 e:Nat
 f:Nat
 g:Nat
 h:Nat
structure Sh.ok (s:Sh):Prop where
 a:s.a<4294967296
 b:s.b<4294967296
 c:s.c<4294967296
 d:s.d<4294967296
 e:s.e<4294967296
 f:s.f<4294967296
 g:s.g<4294967296
 h:s.h<4294967296
def shP (k w:Nat)(s:Sh):Nat:=(s.h+Sg1 s.e+k+w+Eb s.e s.f s.g)%4294967296
def shQ (s:Sh):Nat:=(Sg0 s.a+uh s.a s.b s.c)%4294967296
def Cm (k w:Nat)(s:Sh):Sh:=⟨(shP k w s+shQ s)%4294967296,s.a,s.b,s.c,(s.d+shP k w s)%4294967296,s.e,s.f,s.g⟩
theorem LD (k w:Nat){s:Sh}(h:s.ok):(Cm k w s).ok:=⟨xB _ (by omega),h.a,h.b,h.c,xB _ (by omega),h.e,h.f,h.g⟩
def fG (K:List Nat)(blk:ByteArray):Nat->Sh->Sh
 |0,s=>s
 |i+1,s=>Cm (K.getD i 0) (lY blk i) (fG K blk i s)
theorem rV (K:List Nat)(blk:ByteArray)(i:Nat){s:Sh}(h:s.ok):(fG K blk i s).ok:=by
 induction i with
 |zero=>exact h
 |succ i ih=>exact LD _ _ ih
def UG (s t:Sh):Sh:=⟨(s.a+t.a)%4294967296,(s.b+t.b)%4294967296,(s.c+t.c)%4294967296,(s.d+t.d)%4294967296,(s.e+t.e)%4294967296,(s.f+t.f)%4294967296,(s.g+t.g)%4294967296,(s.h+t.h)%4294967296⟩
def px (K:List Nat)(s:Sh)(blk:ByteArray):Sh:=UG s (fG K blk 64 s)
theorem Ov (K:List Nat)(s:Sh)(blk:ByteArray):(px K s blk).ok:=⟨xB _ (by omega),xB _ (by omega),xB _ (by omega),xB _ (by omega),xB _ (by omega),xB _ (by omega),xB _ (by omega),xB _ (by omega)⟩
def eQ (blk:ByteArray)(k j:Nat):Nat:=if j<k then lY blk (j+16*((k-1-j)/16))else 0
theorem jV (blk:ByteArray)(k d:Nat)(h:16<=k)(hd:d<16):eQ blk k ((k+d)%16)=lY blk (k-16+d):=by
 unfold eQ;rw[zl (by omega),show(k+d)%16+16*((k-1-(k+d)%16)/16)=k-16+d from by omega]
theorem ui (blk:ByteArray)(k:Nat):eQ blk (k+1) (k%16)=lY blk k:=by
 unfold eQ;rw[zl (by omega),show k%16+16*((k+1-1-k%16)/16)=k from by omega]
theorem Cn (blk:ByteArray)(k j:Nat)(c:j<16)(b:j≠k%16):eQ blk (k+1) j=eQ blk k j:=by
 unfold eQ;by_cases h:j<k
 ·rw[zl (by omega),zl h,show(k+1-1-j)/16=(k-1-j)/16 from by omega]
 rw[zj (by omega),zj h]
def Ec (p d:Nat):Nat->Nat->Nat
 |0,x=>x
 |n+1,x=>Ec p d n (if(x+2^n)^d/65536^(2*d)<p then x+2^n else x)
def abq (p d:Nat):Nat:=Ec p d 36 0%4294967296
def abr (p n:Nat):Bool:=(List.range n).all fun d=>decide (d<2)||decide (0<p%d)
def uj :Nat->List Nat
 |0=> []
 |p+1=>if 2<=p/\abr p p=true then uj p++ [p]else uj p
def LF :List Nat:=uj 312
def uk :List Nat:=LF.map (abq · 3)
def GZ :List Nat:= [0x428a2f98,0x71374491,0xb5c0fbcf,0xe9b5dba5,0x3956c25b,0x59f111f1,0x923f82a4,0xab1c5ed5,0xd807aa98,0x12835b01,0x243185be,0x550c7dc3,0x72be5d74,0x80deb1fe,0x9bdc06a7,0xc19bf174,
 0xe49b69c1,0xefbe4786,0x0fc19dc6,0x240ca1cc,0x2de92c6f,0x4a7484aa,0x5cb0a9dc,0x76f988da,0x983e5152,0xa831c66d,0xb00327c8,0xbf597fc7,0xc6e00bf3,0xd5a79147,0x06ca6351,0x14292967,
 0x27b70a85,0x2e1b2138,0x4d2c6dfc,0x53380d13,0x650a7354,0x766a0abb,0x81c2c92e,0x92722c85,0xa2bfe8a1,0xa81a664b,0xc24b8b70,0xc76c51a3,0xd192e819,0xd6990624,0xf40e3585,0x106aa070,
 0x19a4c116,0x1e376c08,0x2748774c,0x34b0bcb5,0x391c0cb3,0x4ed8aa4a,0x5b9cca4f,0x682e6ff3,0x748f82ee,0x78a5636f,0x84c87814,0x8cc70208,0x90befffa,0xa4506ceb,0xbef9a3f7,0xc67178f2]
theorem Co :uk=GZ:=by decide+kernel
def fw (v:Sh)(s:ByteArray):Nat->Sh
 |0=>v
 |i+1=>px uk (fw v s i) (s.extract (64*i) (64*i+64))
theorem Ed {v:Sh}(h:v.ok)(s:ByteArray):∀i,(fw v s i).ok
 |0=>h
 |i+1=>Ov _ _ _
theorem Cp (s p:ByteArray)(a b:Nat)(h:b<=s.size):(s++p).extract a b=s.extract a b:=by
 apply aG;rw[aj,aj,ba,ye (by simpa using h)]
theorem uq (v:Sh)(s p:ByteArray):∀i,64*i<=s.size->fw v (s++p) i=fw v s i
 |0,_=>rfl
 |i+1,h=>by
  rw[fw,fw,uq v s p i (by omega),Cp s p _ _ (by omega)]
theorem Bc (v:Sh)(t:ByteArray)(a:Nat):∀b,64*(a+b)<=t.size->fw v t (a+b)=fw (fw v t a) (t.extract (64*a) t.size) b
 |0,_=>rfl
 |b+1,h=>by
  rw[<-yv,fw,fw,Bc v t a b (by omega),tA t _ _ _ (by omega)];rw[show 64*a+64*b=64*(a+b)from by omega,show 64*a+(64*b+64)=64*(a+b)+64 from by omega]
def dO (n:Nat):Nat:=(64-(n+9)%64)%64
def fA (m:Nat):List UInt8:=(List.range 8).map fun j=>UInt8.ofNat (m/2^(56-8*j))
theorem ib (m:Nat):(fA m).length=8:=by simp[fA]
theorem Ee (m i:Nat)(h:i<8):(fA m).take (i+1)=(fA m).take i++ [UInt8.ofNat (m/2^(56-8*i))]:=by
 rw[yA (by rw[ib];exact h)];congr 2
 simp[fA]
def G0 (n:Nat):List UInt8:=128::List.replicate (dO n) 0++fA (n*8)
def ir (n:Nat):ByteArray:=⟨(G0 n).toArray⟩
theorem x' (n:Nat):(G0 n).length=dO n+9:=by simp[G0,ib]
theorem oA (n:Nat):(ir n).size=dO n+9:=by rw[ir,bD,x']
theorem rW (n:Nat):dO n<64:=xB _ (by omega)
theorem py (n:Nat):(n+(dO n+9))%64=0:=by unfold dO;omega
def DK :Sh:=⟨0x6a09e667,0xbb67ae85,0x3c6ef372,0xa54ff53a,0x510e527f,0x9b05688c,0x1f83d9ab,0x5be0cd19⟩
theorem V6 :DK.ok:=⟨by decide,by decide,by decide,by decide,by decide,by decide,by decide,by decide⟩
def wB (x:Nat):List UInt8:= [UInt8.ofNat (x/16777216),UInt8.ofNat (x/65536),UInt8.ofNat (x/256),UInt8.ofNat x]
def Sh.list (v:Sh):List Nat:= [v.a,v.b,v.c,v.d,v.e,v.f,v.g,v.h]
def Ef (v:Sh):List UInt8:=(v.list.map wB).flatten
def G1 (n:Nat)(v:Sh):List UInt8:=((v.list.take n).map wB).flatten
theorem Bd (v:Sh)(i:Nat)(h:i<8):G1 (i+1) v=G1 i v++wB (v.list.getD i 0):=by
 unfold G1;have b:i<v.list.length:=h;rw[yA b,List.map_append,List.flatten_append,zA,zD b];simp
theorem V7 (v:Sh):G1 8 v=Ef v:=rfl
theorem rX (v:Sh)(i:Nat)(h:i<=8):(G1 i v).length=4*i:=by
 induction i with
 |zero=>rfl
 |succ i ih=>rw[Bd v i (by omega),zo,ih (by omega)];simp[wB];omega
theorem Cq (v:Sh):(Ef v).length=32:=rX v 8 (zi _)
def G2 (s:ByteArray):Sh:=fw DK (s++ir s.size) ((s++ir s.size).size/64)
def s6 (s:ByteArray):ByteArray:=⟨(Ef (G2 s)).toArray⟩
theorem Be (s:ByteArray):(s6 s).size=32:=by rw[s6,bD,Cq]
theorem G3 (s:ByteArray)(r:ByteArray)(b:r=s.extract (64*(s.size/64)) s.size++ir s.size):G2 s=fw (fw DK s (s.size/64)) r (r.size/64):=by
 have hz:(s++ir s.size).size=s.size+(dO s.size+9):=by rw[bX,oA]
 have e:=py s.size;have h:r.size=s.size-64*(s.size/64)+(dO s.size+9):=by rw[b,bX,oA,an _ _ _ (zi _)]
 have c:r=(s++ir s.size).extract (64*(s.size/64)) (s++ir s.size).size:=by
  rw[b];apply aG;rw[ba,aj,aj,cM,cM,ba,yO (by simp;omega)]
 have d:(s++ir s.size).size/64=s.size/64+r.size/64:=by omega
 unfold G2;rw[d,Bc _ _ _ _ (by omega),<-c,uq _ _ _ _ (by omega)]
def G4 (s:ByteArray):ByteArray:=s6 (s6 s)
def eR (s:ByteArray):ByteArray:=(G4 s).extract 0 4
theorem Bf (s:ByteArray):(G4 s).size=32:=Be _
theorem ll (s:ByteArray):(eR s).size=4:=by rw[eR,an _ _ _ (by rw[Bf];omega)]
def nY (b:Nat):Bool:=decide ((97<=b/\b<=122)\/(48<=b/\b<=57)\/b=95)
def iu (l:List UInt8):Bool:=l.all fun b=>nY b.toNat
def bY (s:ByteArray):Bool:=iu s.data.toList&&(decide (1<=s.size)&&decide (s.size<=12))
def eS (s:ByteArray):ByteArray:=⟨(s.data.toList++List.replicate (12-s.size) 0).toArray⟩
def qT (l:List UInt8):List UInt8:=(l.reverse.dropWhile (· ==0)).reverse
def cV (s:ByteArray):ByteArray:=⟨(qT s.data.toList).toArray⟩
def cW (s:ByteArray):Int×ByteArray:=if s.size=12/\bY (cV s)=true then(0,cV s)else(3,ByteArray.empty)
theorem ur (l:List UInt8)(b:UInt8):iu (l++ [b])=(iu l&&nY b.toNat):=by simp[iu]
theorem Ab (l:List UInt8)(k:Nat)(h:iu (l.take k)=false):iu l=false:=by
 simp only[iu,List.all_eq_false]at h⊢;obtain⟨x,hx,b⟩:=h;exact⟨x,List.mem_of_mem_take hx,b⟩
theorem Bg (b:Nat)(c:b<256):(nY b=false/\(b<48\/(57<b/\b<95)\/(95<b/\b<97)\/122<b)/\b≠95)\/(nY b=true/\((48<=b/\b<=57)\/(b=95)\/(97<=b/\b<=122))):=by
 rcases xr (nY b)with h|h
 ·right;refine⟨h, ?_⟩;simp only[nY,yk]at h;omega
 left;refine⟨h, ?_⟩;simp only[nY,xa]at h;omega
theorem dy {s:ByteArray}(h:bY s=true):1<=s.size/\s.size<=12:=by
 simp only[bY,zF,yk]at h;exact h.2
theorem pz {s:ByteArray}(h:s.size<1\/12<s.size):bY s=false:=by
 rcases xr (bY s)with h1|h1
 ·have:=dy h1;omega
 exact h1
theorem Ow {s:ByteArray}(c:1<=s.size)(b:s.size<=12):bY s=iu s.data.toList:=by simp[bY,c,b]
theorem lp (s:ByteArray):(eS s).data.toList=s.data.toList++List.replicate (12-s.size) 0:=by simp[eS]
theorem gV (s:ByteArray)(h:s.size<=12):(eS s).size=12:=by
 rw[<-aa,lp];simp;omega
theorem Ox (l:List UInt8)(n:Nat)(h:∀b∈l,b≠0):qT (l++List.replicate n 0)=l:=by
 unfold qT;rw[List.reverse_append,List.reverse_replicate];have d:∀m:Nat,(List.replicate m (0:UInt8)++l.reverse).dropWhile (· ==0)=l.reverse.dropWhile (· ==0):=by
  intro m;induction m with
  |zero=>simp
  |succ m ih=>simp[ZU,ih]
 rw[d];have c:l.reverse.dropWhile (· ==0)=l.reverse:=by
  cases hl:l.reverse with
  |nil=>simp
  |cons x xs=>
   have hx:x∈l:=by rw[<-List.mem_reverse,hl];simp
   have:=h x hx;simp[this]
 rw[c,List.reverse_reverse]
theorem Bh (l:List UInt8):∃n,l=qT l++List.replicate n 0:=by
 unfold qT;have h:∀m:List UInt8,∃n,m=List.replicate n 0++m.dropWhile (· ==0):=by
  intro m;induction m with
  |nil=>exact⟨0,by simp⟩
  |cons x xs ih=>
   by_cases hx:x=0
   ·obtain⟨n,b⟩:=ih;refine⟨n+1, ?_⟩;subst hx;simp only[ZU,ya];rw[List.dropWhile_cons];simp only[beq_self_eq_true,xS];rw[<-b]
   exact⟨0,by simp[hx]⟩
 obtain⟨n,b⟩:=h l.reverse;refine⟨n, ?_⟩;have:=xj List.reverse b;rw[List.reverse_reverse,List.reverse_append,List.reverse_replicate]at this;exact this
theorem SB (s:ByteArray)(h:bY s=true):∀b∈s.data.toList,b≠0:=by
 intro b c d;simp only[bY,zF,iu,ZK]at h;have:=h.1 b c;subst d;simp[nY]at this
theorem LG (s:ByteArray)(h:bY s=true):cV (eS s)=s:=by
 apply aG;simp only[cV];rw[lp,Ox _ _ (SB s h)]
theorem Bi (s:ByteArray)(h:bY s=true):cW (eS s)=(0,s):=by
 have b:=gV s (dy h).2;simp[cW,b,LG s h,h]
theorem Eg (s:ByteArray)(h:s.size≠12):cW s=(3,ByteArray.empty):=by simp[cW,h]
theorem LH (s t:ByteArray)(h:cW s=(0,t)):eS t=s/\bY t=true:=by
 unfold cW at h;split at h
 ·rename_i e
  injection h with _ ht;subst ht;refine⟨?_,e.2⟩;apply aG;obtain⟨n,b⟩:=Bh s.data.toList;rw[lp];have hz:(cV s).size=(qT s.data.toList).length:=by rw[cV,bD]
  have c:(cV s).data.toList=qT s.data.toList:=by simp[cV]
  have d:=xj List.length b;simp only[zo,xJ,aa]at d;rw[hz,c,show 12-(qT s.data.toList).length=n from by omega,<-b]
 injection h with h _;omega
theorem rY (s:ByteArray):cW s=(3,ByteArray.empty)\/∃t,cW s=(0,t):=by
 unfold cW;split
 ·exact .inr ⟨_,rfl⟩
 exact .inl rfl
structure aS where
 fm:Int
 mg:Nat
 fr:Int
 un:Int
 de:Int
 it:Int
structure Fr where
 id:Nat
 nm:ByteArray
 body:ByteArray
def mw :Fr:=⟨0,ByteArray.empty,ByteArray.empty⟩
def aS.right (c:aS):Bool:=decide (1<=c.fm)&&(decide (c.fm<=3)&&(decide (1<=c.fr)&&(decide (c.fr<=65536)&&(decide (1<=c.un)&&(decide (c.un<=65536)&&(decide (1<=c.de)&&(decide (c.de<=16)&&(decide (1<=c.it)&&decide (c.it<=1024)))))))))
theorem aS.cT (c:aS):c.right=true↔1<=c.fm/\c.fm<=3/\1<=c.fr/\c.fr<=65536/\1<=c.un/\c.un<=65536/\1<=c.de/\c.de<=16/\1<=c.it/\c.it<=1024:=by
 simp only[aS.right,zF,yk]
inductive It where
 |mk:ByteArray->Bool->List It->It
def It.text :It->ByteArray| .mk t _ _=>t
def It.list :It->Bool| .mk _ l _=>l
def It.sub :It->List It| .mk _ _ s=>s
@[simp] theorem It.tD (t:ByteArray)(l:Bool)(s:List It):(It.mk t l s).text=t:=rfl
@[simp] theorem It.tE (t:ByteArray)(l:Bool)(s:List It):(It.mk t l s).list=l:=rfl
@[simp] theorem It.gA (t:ByteArray)(l:Bool)(s:List It):(It.mk t l s).sub=s:=rfl
mutual
def It.count :It->Nat
 | .mk _ _ s=>1+aH s
def aH :List It->Nat
 | []=>0
 |x::xs=>x.count+aH xs
end
mutual
def It.deep :It->Nat
 | .mk _ _ s=>cD s+1
def cD :List It->Nat
 | []=>0
 |x::xs=>max x.deep (cD xs)
end
def formed (t:ByteArray)(l:Bool)(n:Nat):Bool:=if l then decide (t.size=0)else decide (n=0)
mutual
def It.right :It->Bool
 | .mk t l s=>formed t l s.length&&dg s
def dg :List It->Bool
 | []=>true
 |x::xs=>x.right&&dg xs
end
def It.may (x:It):Bool:=x.right&&decide (x.deep<=16)&&decide (x.count<=1024)
theorem It.ind {P:It->Prop}(h:∀t l s,(∀x∈s,P x)->P (.mk t l s)):∀x,P x:=by
 intro x;exact It.rec (motive_1:=P) (motive_2:=fun s=>∀x∈s,P x) (fun t l s ih=>h t l s ih) (by simp) (fun x xs hx F9=>by
  intro y hy;rcases xq.1 hy with rfl|hy
  ·exact hx
  exact F9 y hy) x
theorem Bj (x:It):1<=x.count:=by cases x;simp[It.count]
theorem gB (s:List It)(k:Nat)(h:k<s.length):s.take (k+1)=s.take k++ [s[k]]:=yA h
mutual
def It.room :It->Int->Int
 | .mk _ _ s,left=>max (cE s (left-1)) 0
def cE :List It->Int->Int
 | [],left=>left
 |x::xs,left=>if left<=0 then left else cE xs (x.room left)
end
mutual
def It.oB :It->Nat
 | .mk t _ s=>gC s (min t.size 10000)
def gC :List It->Nat->Nat
 | [],n=>n
 |x::xs,n=>gC xs (min (n+x.oB) 10000)
end
theorem pA (a b:List It)(left:Int):cE (a++b) left=cE b (cE a left):=by
 induction a generalizing left with
 |nil=>simp[cE]
 |cons x xs ih=>
  by_cases h:left<=0
  ·simp only[ya,cE,zl h];cases b with
   |nil=>simp[cE]
   |cons y ys=>simp[cE,h]
  simp only[ya,cE,zj h,ih]
theorem Cr (a b:List It)(n:Nat):gC (a++b) n=gC b (gC a n):=by
 induction a generalizing n with
 |nil=>simp[gC]
 |cons x xs ih=>simp[gC,ih]
theorem uu (s:List It)(m:Int)(h:m<=0):cE s m=m:=by
 cases s with
 |nil=>rfl
 |cons x xs=>simp[cE,h]
theorem G5 (s:List It)(k:Nat)(h:k<s.length)(left:Int)(b:0<cE (s.take k) left):cE (s.take (k+1)) left=s[k].room (cE (s.take k) left):=by
 rw[gB s k h,pA];simp[cE,show¬cE (s.take k) left<=0 from by omega]
theorem Bk (s:List It)(k:Nat)(left:Int)(b:cE (s.take k) left<=0\/s.length<=k):cE s left=cE (s.take k) left:=by
 rcases b with b|b
 ·have c:=pA (s.take k) (s.drop k) left;rw[zL,uu _ _ b]at c;exact c
 rw[zC b]
theorem G6 (s:List It)(k:Nat)(h:k<s.length)(n:Nat):gC (s.take (k+1)) n=min (gC (s.take k) n+s[k].oB) 10000:=by
 rw[gB s k h,Cr];simp[gC]
theorem Oy (s:List It)(n:Nat)(h:n<=10000):gC s n<=10000:=by
 induction s generalizing n with
 |nil=>simpa[gC]using h
 |cons x xs ih=>simp only[gC];exact ih _ (by omega)
theorem SC (x:It):x.oB<=10000:=by
 cases x with
 |mk t l s=>simp only[It.oB];exact Oy s _ (by omega)
theorem Eh (s:List It)(b:∀x∈s,∀m:Int,0<m->0<=x.room m/\x.room m<m):∀m:Int,0<=m->0<=cE s m/\cE s m<=m:=by
 induction s with
 |nil=>intro m c;simp only[cE];omega
 |cons x xs F9=>
  intro m c;by_cases h:m<=0
  ·simp only[cE,zl h];omega
  have d:=b x (by simp) m (by omega);have i:=F9 (fun y e=>b y (by simp[e])) (x.room m) d.1;simp only[cE,zj h];omega
theorem Cs (x:It):∀m:Int,0<m->0<=x.room m/\x.room m<m:=by
 induction x using It.ind with
 |h t l s ih=>
  intro m b;have:=Eh s ih (m-1) (by omega);simp only[It.room];omega
theorem Ei (s:List It)(c:∀x∈s,∀m:Int,0<x.room m->x.room m=m-x.count):∀m:Int,0<cE s m->cE s m=m-aH s:=by
 induction s with
 |nil=>intro m _;simp[cE,aH]
 |cons x xs F9=>
  intro m b;by_cases h:m<=0
  ·simp only[cE,zl h]at b;omega
  simp only[cE,zj h]at b⊢;have i:=F9 (fun y d=>c y (by simp[d])) (x.room m) b;by_cases e:0<x.room m
  ·have j:=c x (by simp) m e;simp only[aH];omega
  rw[uu _ _ (by omega)]at b;omega
theorem G7 (x:It):∀m:Int,0<x.room m->x.room m=m-x.count:=by
 induction x using It.ind with
 |h t l s ih=>
  intro m b;simp only[It.room,It.count]at b⊢;have:=Ei s ih (m-1) (by omega);omega
def It.pB (x:It):Bool:=decide (x.room 1200=0)||decide (6000<x.oB)
theorem rZ (x:It)(h:x.pB=false):x.count<1200:=by
 simp only[It.pB,ZO,xa]at h;have c:=Cs x 1200 (by omega);have b:=G7 x 1200 (by omega);omega
inductive Ty where
 |mk:Int->Int->List Ty->Int->Ty
def Ty.kind :Ty->Int| .mk k _ _ _=>k
def Ty.size :Ty->Int| .mk _ s _ _=>s
def Ty.sub :Ty->List Ty| .mk _ _ l _=>l
def Ty.tail :Ty->Int| .mk _ _ _ t=>t
@[simp] theorem Ty.JT (k s:Int)(l:List Ty)(t:Int):(Ty.mk k s l t).kind=k:=rfl
@[simp] theorem Ty.aez (k s:Int)(l:List Ty)(t:Int):(Ty.mk k s l t).size=s:=rfl
@[simp] theorem Ty.gA (k s:Int)(l:List Ty)(t:Int):(Ty.mk k s l t).sub=l:=rfl
@[simp] theorem Ty.Ct (k s:Int)(l:List Ty)(t:Int):(Ty.mk k s l t).tail=t:=rfl
mutual
def Ty.count :Ty->Nat
 | .mk _ _ l _=>1+aZ l
def aZ :List Ty->Nat
 | []=>0
 |x::xs=>x.count+aZ xs
end
mutual
def Ty.deep :Ty->Nat
 | .mk _ _ l _=>dI l+1
def dI :List Ty->Nat
 | []=>0
 |x::xs=>max x.deep (dI xs)
end
def fS (k s:Int)(n:Nat)(t:Int):Bool:=
 if k=1 then decide ((s=1\/s=2\/s=4\/s=8)/\n=0/\t=0)
 else if k=2 then decide (1<=s/\s<=65536/\n=0/\t=0)
 else if k=3 then decide (0<=s/\s<=65536/\n=0/\t=0)
 else if k=4 then decide (0<=s/\s<=1024/\n=1/\t=0)
 else if k=5 then decide (s=0/\n<=16/\0<=t/\t<=n)
 else false
mutual
def Ty.right :Ty->Bool
 | .mk k s l t=>fS k s l.length t&&bK l
def bK :List Ty->Bool
 | []=>true
 |x::xs=>x.right&&bK xs
end
def Ty.may (t:Ty):Bool:=decide (t.count<=64)&&decide (t.deep<=8)&&t.right
theorem Ty.ind {P:Ty->Prop}(h:∀k s l t,(∀x∈l,P x)->P (.mk k s l t)):∀x,P x:=by
 intro x;exact Ty.rec (motive_1:=P) (motive_2:=fun s=>∀x∈s,P x) (fun k s l t ih=>h k s l t ih) (by simp) (fun x xs hx F9=>by
  intro y hy;rcases xq.1 hy with rfl|hy
  ·exact hx
  exact F9 y hy) x
theorem gD (s:List Ty)(k:Nat)(h:k<s.length):s.take (k+1)=s.take k++ [s[k]]:=yA h
theorem fH (a b:List Ty):aZ (a++b)=aZ a+aZ b:=by
 induction a with
 |nil=>simp[aZ]
 |cons x xs ih=>simp[aZ,ih,yv]
theorem pC (a b:List Ty):dI (a++b)=max (dI a) (dI b):=by
 induction a with
 |nil=>simp[dI]
 |cons x xs ih=>simp only[ya,dI,ih];omega
theorem ic (a b:List Ty):bK (a++b)=(bK a&&bK b):=by
 induction a with
 |nil=>simp[bK]
 |cons x xs ih=>simp[bK,ih,Bool.and_assoc]
theorem G8 (x:Ty):1<=x.count:=by cases x;simp[Ty.count]
theorem Ej (s:List Ty)(k:Nat)(h:k<s.length):aZ (s.take (k+1))=aZ (s.take k)+s[k].count:=by
 rw[gD s k h,fH];simp[aZ]
theorem uv (s:List Ty)(k:Nat):aZ (s.take k)<=aZ s:=by
 have:=fH (s.take k) (s.drop k);rw[zL]at this;omega
theorem G9 (s:List Ty)(k:Nat)(h:k<s.length):dI (s.take (k+1))=max (dI (s.take k)) s[k].deep:=by
 rw[gD s k h,pC];simp[dI]
theorem Ac (s:List Ty)(k:Nat):dI (s.take k)<=dI s:=by
 have:=pC (s.take k) (s.drop k);rw[zL]at this;omega
theorem my (s:List Ty)(k:Nat)(h:k<s.length):bK (s.take (k+1))=(bK (s.take k)&&s[k].right):=by
 rw[gD s k h,ic];simp[bK]
theorem Cu (s:List Ty)(k:Nat)(h:k<s.length)(c:s[k].right=false):bK s=false:=by
 have b:=ic (s.take (k+1)) (s.drop (k+1));rw[zL,my s k h,c]at b;simpa using b
theorem dP {s:List Ty}(h:bK s=true)(k:Nat)(b:k<s.length):s[k].right=true:=by
 cases hr:s[k].right with
 |true=>rfl
 |false=>rw[Cu s k b hr]at h;cases h
theorem Oz (s:List Ty)(h:∀x∈s,x.deep<=x.count):dI s<=aZ s:=by
 induction s with
 |nil=>simp[dI]
 |cons x xs ih=>
  have d:=h x (by simp);have c:=ih (fun y b=>h y (by simp[b]));simp only[dI,aZ];omega
theorem LI (x:Ty):x.deep<=x.count:=by
 induction x using Ty.ind with
 |h k s l t ih=>simp only[Ty.deep,Ty.count];have:=Oz l ih;omega
mutual
def Ty.room :Ty->Int->Int
 | .mk _ _ l _,left=>max (UH l (left-1)) 0
def UH :List Ty->Int->Int
 | [],left=>left
 |x::xs,left=>if left<=0 then left else UH xs (x.room left)
end
def Ty.pB (x:Ty):Bool:=decide (x.room 100=0)
mutual
def Ty.gP :Ty->Nat->Nat->Bool×Nat
 | .mk k s l t,lv,c=>if 8<lv\/c=0\/fS k s l.length t=false then(false,c)else ko l (lv+1) (c-1)
def ko :List Ty->Nat->Nat->Bool×Nat
 | [],_,c=>(true,c)
 |x::xs,lv,c=>match x.gP lv c with
  |(true,c')=>ko xs lv c'
  |(false,c')=>(false,c')
end
theorem r8 (a b:List Ty)(e c:Nat):ko (a++b) e c=match ko a e c with
 |(true,d)=>ko b e d
 |(false,d)=>(false,d):=by
 induction a generalizing c with
 |nil=>simp[ko]
 |cons x xs ih=>
  simp only[ya,ko];rcases x.gP e c with⟨r,d⟩
  cases r with
  |true=>simp only[ih]
  |false=>rfl
theorem Bl {s:List Ty}{k b c e:Nat}(h:k<s.length)(i:ko (s.take k) b c=(true,e)):ko (s.take (k+1)) b c=s[k].gP b e:=by
 rw[gD s k h,r8,i];simp only[ko];rcases s[k].gP b e with⟨r,d⟩
 cases r<;>rfl
theorem LJ {s:List Ty}{k b c e d:Nat}(h:k<s.length)(l:ko (s.take k) b c=(true,e))(j:s[k].gP b e=(false,d)):ko s b c=(false,d):=by
 have i:=r8 (s.take (k+1)) (s.drop (k+1)) b c;rw[zL,Bl h l,j]at i;exact i
def Bm (r:Bool×Nat)(rt:Bool)(lv d n c:Nat):Prop:=(r.1=true↔rt=true/\lv+d<=9/\n<=c)/\(r.1=true->r.2+n=c)/\r.2<=c
theorem SD (s:List Ty)(l:∀x∈s,∀e c,e<=9->Bm (x.gP e c) x.right e x.deep x.count c):∀e c,e<=9->Bm (ko s e c) (bK s) e (dI s) (aZ s) c:=by
 induction s with
 |nil=>intro e c h;simp[Bm,ko,bK,dI,aZ,h]
 |cons x xs F9=>
  intro e c k;have i:=l x (by simp) e c k;rcases hv:x.gP e c with⟨r,o⟩
  rw[hv]at i;obtain⟨i,j,m⟩:=i;simp only at i j m;have z:=G8 x;unfold Bm;simp only[ko,hv,bK,dI,aZ,zF];cases r with
  |true=>
   have j:=j rfl;obtain⟨n,u,w⟩:=F9 (fun y q=>l y (by simp[q])) e o k;have i:=i.1 rfl;refine⟨?_,fun p=>by have:=u p;simp only;omega,by simp only;omega⟩;simp only[n];constructor
   ·rintro⟨a,b,d⟩;exact⟨⟨i.1,a⟩,by omega,by omega⟩
   rintro⟨a,b,d⟩;exact⟨a.2,by omega,by omega⟩
  |false=>
   refine⟨?_,by simp,m⟩;constructor
   ·intro h;cases h
   rintro⟨a,b,d⟩;exact i.2 ⟨a.1,by omega,by omega⟩
theorem Ek (x:Ty):∀i c,i<=9->Bm (x.gP i c) x.right i x.deep x.count c:=by
 induction x using Ty.ind with
 |h k s l t ih=>
  intro i c p;unfold Bm;simp only[Ty.gP,Ty.right,Ty.deep,Ty.count,zF];by_cases e:8<i\/c=0\/fS k s l.length t=false
  ·simp only[zl e];refine⟨?_,by simp,zi _⟩;constructor
   ·intro h;cases h
   rintro⟨⟨a,_⟩,b,d⟩;rcases e with e|e|e
   ·omega
   ·omega
   rw[e]at a;cases a
  simp only[zj e];have m:i<=8/\0<c/\fS k s l.length t=true:=by
   refine⟨by omega,by omega, ?_⟩;cases h:fS k s l.length t with
   |true=>rfl
   |false=>exact absurd (.inr (.inr h)) e
  obtain⟨o,j,q⟩:=SD l ih (i+1) (c-1) (by omega);refine⟨?_,fun n=>by have:=j n;omega,by omega⟩;rw[o];constructor
  ·rintro⟨a,b,d⟩;exact⟨⟨m.2.2,a⟩,by omega,by omega⟩
  rintro⟨a,b,d⟩;exact⟨a.2,by omega,by omega⟩
theorem LK (x:Ty):(x.gP 1 64).1=x.may:=by
 have h:=(Ek x 1 64 (by omega)).1;rw[yY,h];simp only[Ty.may,zF,yk];constructor
 ·rintro⟨a,b,c⟩;exact⟨⟨by omega,by omega⟩,a⟩
 rintro⟨⟨a,b⟩,c⟩;exact⟨c,by omega,by omega⟩
