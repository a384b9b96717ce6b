/- Texts and the lists of their bytes: small plain laws. No program in sight. -/
import Derived.Below
import Derived.Laws.Strings
set_option linter.all false
namespace Go.Proofs.YtdbmifjankgfpaaGreatDoor
def zd:=@Nat.le_refl
def zh:=@if_neg
def zi:=@if_pos
def zj:=@List.length_append
def zo:=@List.eq_nil_of_length_eq_zero
def zv:=@List.getD_eq_getElem?_getD
def zw:=@List.length_cons
def zx:=@Bool.and_eq_true
def zy:=@List.take_of_length_le
def zA:=@List.getElem?_eq_getElem
def zB:=@List.append_assoc
def zI:=@List.drop_eq_nil_of_le
def zJ:=@List.take_append_drop
def zO:=@UInt8.toNat_inj
def zR:=@List.length_drop
def zT:=@Nat.lt_of_lt_of_le
def zU:=@List.length_take
def zV:=@List.cons_append
def zX:=@List.take_append_of_le_length
def zY:=@decide_eq_true_eq
def yk:=@List.getElem?_append_right
def ym:=@Nat.add_assoc
def yp:=@Nat.pow_le_pow_right
def yr:=@List.take_succ_eq_append_getElem
def yw:=@Nat.min_eq_left
def yI:=@List.drop_append_of_le_length
def yP:=@Bool.eq_iff_iff
def yT:=@List.suffix_cons
def yX:=@List.drop_eq_getElem_cons
def yY:=@List.getElem?_eq_none
def yZ:=@Nat.mod_lt
def y9:=@List.mem_cons
def xa:=@Bool.eq_false_or_eq_true
def xi:=@congrArg
def xp:=@Nat.two_pow_add_eq_or_of_lt
def xw:=@List.length_replicate
def xy:=@List.getElem?_append_left
def xA:=@if_true
def xC:=@Nat.lt_or_ge
def xH:=@decide_eq_false_iff_not
def xJ:=@List.drop_drop
def xV:=@Nat.pow_add
def Za:=@List.all_eq_true
def Zr:=@Nat.mul_comm
def ZC:=@List.suffix_refl
def ZN:=@List.replicate_succ
def ZR:=@Nat.sub_self
def ZW:=@List.drop_take
def Z1:=@dif_pos
def Yh:=@Nat.le_of_lt
def Yl:=@List.map_append
theorem aB {a b:ByteArray}(h:a.data.toList=b.data.toList):a=b:=by
 cases a;cases b;simp at h;simpa using h
theorem iJ (s:ByteArray):(⟨s.data.toList.toArray⟩:ByteArray)=s:=aB (by simp)
theorem aa (s:ByteArray):s.data.toList.length=s.size:=by simp
theorem bB (l:List UInt8):(⟨l.toArray⟩:ByteArray).size=l.length:=by simp[ByteArray.size]
theorem aP (a b:ByteArray):(a++b).data.toList=a.data.toList++b.data.toList:=by
 rw[ByteArray.data_append];simp
theorem an (s:ByteArray)(i j:Nat):(s.extract i j).data.toList=(s.data.toList.take j).drop i:=by
 rw[ByteArray.data_extract,Array.toList_extract,List.extract_eq_take_drop,ZW]
theorem aj (s:ByteArray)(i j:Nat)(b:j<=s.size):(s.extract i j).size=j-i:=by
 rw[ByteArray.size_extract,yw b]
theorem bD (a b:ByteArray):(a++b).size=a.size+b.size:=ByteArray.size_append
theorem jC (s:ByteArray)(k:Nat)(h:k<s.size):s.data.toList.take (k+1)=s.data.toList.take k++ [s[k]]:=by
 rw[yr (by simpa using h)];rfl
theorem drop_cons (s:ByteArray)(k:Nat)(h:k<s.size):s.data.toList.drop k=s[k]::s.data.toList.drop (k+1):=by
 rw[yX (by simpa using h)];rfl
theorem length_take (s:ByteArray)(k:Nat)(h:k<=s.size):(s.data.toList.take k).length=k:=by
 rw[zU,yw (by simpa using h)]
theorem cQ (s:ByteArray):s.data.toList.take s.size=s.data.toList:=zy (by simp)
theorem gL (s:ByteArray)(k:Nat)(h:k<s.size):s.data.toList[k]?=some s[k]:=by
 rw[zA (by simpa using h)];rfl
theorem CS (s:ByteArray):s.extract 0 s.size=s:=aB (by rw[an,cQ];simp)
theorem ua (s:ByteArray)(i a b:Nat)(c:i+b<=s.size):(s.extract i s.size).extract a b=s.extract (i+a) (i+b):=by
 apply aB;rw[an,an,an,cQ,List.take_drop,xJ]
theorem fX (t:ByteArray):(t.size=0/\t=⟨#[]⟩)\/(t.size≠0/\t.toList.isEmpty=false/\(!t.toList.isEmpty)=true):=by
 by_cases h:t.size=0
 ·exact .inl ⟨h,aB (zo (by simpa using h))⟩
 refine .inr ⟨h, ?_, ?_⟩<;>rw[ByteArray.toList_eq]<;>cases h2:t.data.toList with
 |nil=>exact absurd (by rw[<-aa,h2];rfl) h
 |cons a b=>rfl
theorem eT (e:Int):(e=0/\(e==0)=true/\(e !=0)=false)\/(e≠0/\(e==0)=false/\(e !=0)=true):=by
 by_cases h:e=0
 ·exact .inl ⟨h,by simp[h],by simp[h]⟩
 exact .inr ⟨h,by simp[h],by simp[h]⟩
theorem pZ (a b:ByteArray):(a=b/\(a.toList==b.toList)=true/\(a.toList !=b.toList)=false)\/(a≠b/\(a.toList==b.toList)=false/\(a.toList !=b.toList)=true):=by
 by_cases h:a=b
 ·subst h;exact .inl ⟨rfl,by simp,by simp⟩
 have c:a.toList≠b.toList:=by
  intro e;rw[ByteArray.toList_eq,ByteArray.toList_eq]at e;exact h (aB e)
 exact .inr ⟨h,by simp[c],by simp[c]⟩
abbrev Nx (α:Type):=ByteArray->Int×α×Nat×Nat
structure jK {α:Type}(nx:Nx α):Prop where
 pos:∀s,(nx s).1=0->0<(nx s).2.2.1/\(nx s).2.2.1<=s.size
 ext:∀s t,(nx s).1≠2->nx (s++t)=nx s
 short:∀s,(nx s).1=2->(nx s).2.2.2=0
abbrev WK (α:Type):=List α×ByteArray×Nat×Int
def WK.cons {α:Type}(x:α)(m:Nat)(r:WK α):WK α:=(x::r.1,r.2.1,m+r.2.2.1,r.2.2.2)
def spl {α:Type}(nx:Nx α):Nat->ByteArray->WK α
 |0,s=>([],s,0,0)
 |f+1,s=>if(nx s).1=0 then(spl nx f (s.extract (nx s).2.2.1 s.size)).cons (nx s).2.1 (nx s).2.2.2 else([],s,(nx s).2.2.2,if(nx s).1=2 then 0 else(nx s).1)
def split {α:Type}(nx:Nx α)(s:ByteArray):WK α:=spl nx (s.size+1) s
theorem ie (s:ByteArray)(n:Nat)(h:0<n)(b:n<=s.size):(s.extract n s.size).size<s.size:=by rw[aj _ _ _ (zd _)];omega
theorem EB {d:Type}{c:Nx d}(h:jK c):∀(f g:Nat) (s:ByteArray),s.size<f->s.size<g->spl c f s=spl c g s
 |0,_,_,hf,_=>absurd hf (by omega)
 |_,0,_,_,hg=>absurd hg (by omega)
 |f+1,g+1,s,hf,hg=>by
  unfold spl;by_cases b:(c s).1=0
  ·rw[zi b,zi b];obtain⟨i,e⟩:=h.pos s b;have:=ie s _ i e;rw[EB h f g _ (by omega) (by omega)]
  rw[zh b,zh b]
theorem eB {d:Type}{b:Nx d}(h:jK b)(s:ByteArray):split b s=if(b s).1=0 then(split b (s.extract (b s).2.2.1 s.size)).cons (b s).2.1 (b s).2.2.2 else([],s,(b s).2.2.2,if(b s).1=2 then 0 else(b s).1):=by
 rw[split,spl];by_cases c:(b s).1=0
 ·rw[zi c,zi c];obtain⟨i,e⟩:=h.pos s c;have:=ie s _ i e;rw[split,EB h s.size _ _ (by omega) (Nat.lt_succ_self _)]
 rw[zh c,zh c]
theorem cY {c:Type}{b:Nx c}(h:jK b){s:ByteArray}(d:(b s).1=0):split b s=(split b (s.extract (b s).2.2.1 s.size)).cons (b s).2.1 (b s).2.2.2:=by rw[eB h s,zi d]
theorem dv {d:Type}{b:Nx d}(h:jK b){s:ByteArray}(c:(b s).1=2):split b s=([],s,0,0):=by
 rw[eB h s,zh (by omega),zi c,h.short s c]
theorem k8 {c:Type}{b:Nx c}(h:jK b){s:ByteArray}(d:(b s).1≠0)(e:(b s).1≠2):split b s=([],s,(b s).2.2.2,(b s).1):=by
 rw[eB h s,zh d,zh e]
theorem dN {α:Type}{nx:Nx α}(h:jK nx){p:ByteArray->Prop}(stop:∀s,(nx s).1≠0->p s)(go:∀s,(nx s).1=0->p (s.extract (nx s).2.2.1 s.size)->p s)(s:ByteArray):p s:=by
 suffices H:∀n (s:ByteArray),s.size<n->p s from H (s.size+1) s (Nat.lt_succ_self _)
 intro n;induction n with
 |zero=>intro s hs;omega
 |succ n ih=>
  intro s hs;by_cases h0:(nx s).1=0
  ·obtain⟨h1,h2⟩:=h.pos s h0;have:=ie s _ h1 h2;exact go s h0 (ih _ (by omega))
  exact stop s h0
theorem uL {d:Type}{b:Nx d}(h:jK b)(s:ByteArray):((split b s).2.2.2=0->(b (split b s).2.1).1=2)/\((split b s).2.2.2≠0->(b (split b s).2.1).1=(split b s).2.2.2/\(split b s).2.2.2≠2):=by
 induction s using dN h with
 |stop s h0=>
  by_cases c:(b s).1=2
  ·rw[dv h c];exact⟨fun _=>c,fun h=>absurd rfl h⟩
  rw[k8 h h0 c];exact⟨fun h=>absurd h h0,fun _=>⟨rfl,c⟩⟩
 |go s h0 ih=>rw[cY h h0];exact ih
theorem mr {c:Type}{b:Nx c}(h:jK b)(s:ByteArray):∃k,k<=s.size/\(split b s).2.1=s.extract k s.size:=by
 induction s using dN h with
 |stop s h0=>
  refine⟨0,by omega, ?_⟩;rw[CS,eB h s,zh h0]
 |go s h0 ih=>
  obtain⟨k,d,e⟩:=ih;obtain⟨j,i⟩:=h.pos s h0;have hz:(s.extract (b s).2.2.1 s.size).size=s.size-(b s).2.2.1:=aj _ _ _ (zd _);refine⟨(b s).2.2.1+k,by omega, ?_⟩;rw[cY h h0];show(split b (s.extract (b s).2.2.1 s.size)).2.1=_
  rw[e,hz,ua _ _ _ _ (by omega)];congr 1
  omega
theorem Kh (s t:ByteArray)(n:Nat)(h:n<=s.size):(s++t).extract n (s++t).size=s.extract n s.size++t:=by
 apply aB;rw[an,aP,aP,an,bD,cQ];rw[zy (by rw[zj,aa,aa];omega),yI (by rw[aa];exact h)]
theorem uM {e:Type}{b:Nx e}(h:jK b)(s t:ByteArray):
 split b (s++t)=if(split b s).2.2.2=0 then((split b s).1++(split b ((split b s).2.1++t)).1,(split b ((split b s).2.1++t)).2.1,(split b s).2.2.1+(split b ((split b s).2.1++t)).2.2.1,(split b ((split b s).2.1++t)).2.2.2)
  else((split b s).1,(split b s).2.1++t,(split b s).2.2.1,(split b s).2.2.2):=by
 induction s using dN h with
 |stop s h0=>
  by_cases d:(b s).1=2
  ·rw[dv h d];simp
  have c:=h.ext s t d;rw[k8 h h0 d,zh h0,k8 h (by rw[c];exact h0) (by rw[c];exact d),c]
 |go s h0 ih=>
  obtain⟨i,d⟩:=h.pos s h0;have c:=h.ext s t (by rw[h0];decide);rw[cY h (s:=s++t) (by rw[c];exact h0),cY h h0,c,Kh _ _ _ d,ih];unfold WK.cons;by_cases hz:(split b (s.extract (b s).2.2.1 s.size)).2.2.2=0
  ·rw[zi hz,zi hz];simp[ym]
  rw[zh hz,zh hz]
theorem uN {c:Type}{b:Nx c}(h:jK b)(s t:ByteArray)(d:(split b s).2.2.2=0):split b (s++t)=((split b s).1++(split b ((split b s).2.1++t)).1,(split b ((split b s).2.1++t)).2.1,(split b s).2.2.1+(split b ((split b s).2.1++t)).2.2.1,(split b ((split b s).2.1++t)).2.2.2):=by
 rw[uM h,zi d]
structure eU where
 buf:ByteArray
 fault:Int
 laid:Nat
 told:Nat
def eU.new :eU:=⟨ByteArray.empty,0,0,0⟩
def mX {α:Type}(nx:Nx α)(x:eU)(s:ByteArray):eU×List α×Int:=
 if x.fault≠0 then({x with laid:=0},[],x.fault)
 else(⟨(split nx (x.buf++s)).2.1,(split nx (x.buf++s)).2.2.2,s.size+(split nx (x.buf++s)).2.2.1,x.told+(split nx (x.buf++s)).1.length⟩,(split nx (x.buf++s)).1,(split nx (x.buf++s)).2.2.2)
theorem fY {b:Type}{c:Nx b}{x:eU}(h:x.fault≠0)(s:ByteArray):mX c x s=({x with laid:=0},[],x.fault):=by unfold mX;rw[zi h]
theorem fq {c:Type}{b:Nx c}{x:eU}(h:x.fault=0)(s:ByteArray):mX b x s=(⟨(split b (x.buf++s)).2.1,(split b (x.buf++s)).2.2.2,s.size+(split b (x.buf++s)).2.2.1,x.told+(split b (x.buf++s)).1.length⟩,(split b (x.buf++s)).1,(split b (x.buf++s)).2.2.2):=by unfold mX;rw[zh (by simp[h])]
structure uO {α:Type}(nx:Nx α)(x:eU)(s:ByteArray)(l:List α):Prop where
 fault:x.fault=0
 err:(split nx s).2.2.2=0
 buf:x.buf=(split nx s).2.1
 told:l=(split nx s).1
theorem uO.new {c:Type}{b:Nx c}(h:jK b)(d:(b ByteArray.empty).1=2):uO b eU.new ByteArray.empty ([]:List c):=by
 have:=dv h d;exact⟨rfl,by rw[this],by rw[this];rfl,by rw[this]⟩
theorem uO.mX {c:Type}{b:Nx c}(h:jK b){x:eU}{s:ByteArray}{l:List c}(hx:uO b x s l)(t:ByteArray):
 (mX b x t).2.2=(split b (s++t)).2.2.2/\l++(mX b x t).2.1=(split b (s++t)).1/\(mX b x t).1.buf=(split b (s++t)).2.1/\((mX b x t).2.2=0->uO b (mX b x t).1 (s++t) (l++(mX b x t).2.1)):=by
 have e:=uN h s t hx.err;rw[fq hx.fault,hx.buf,e,hx.told];refine⟨rfl,rfl,rfl,fun d=>⟨d, ?_, ?_, ?_⟩⟩
 ·rw[e];exact d
 ·rw[e]
 rw[e]
def qa {α:Type}(nx:Nx α)(x:eU):Prop:=x.fault=0->(nx x.buf).1=2
theorem qa.new {c:Type}{b:Nx c}(d:(b ByteArray.empty).1=2):qa b eU.new:=fun _=>d
theorem qa.mX {d:Type}{b:Nx d}(h:jK b)(x:eU)(s:ByteArray):qa b (mX b x s).1:=by
 by_cases c:x.fault=0
 ·rw[fq c];exact(uL h _).1
 rw[fY c];exact fun e=>absurd e c
def WL {α:Type}(nx:Nx α):Nat->ByteArray->List (α×Nat)
 |0,_=> []
 |f+1,s=>if(nx s).1=0 then((nx s).2.1,(nx s).2.2.1)::WL nx f (s.extract (nx s).2.2.1 s.size)else []
def SN {α:Type}(nx:Nx α)(s:ByteArray):List (α×Nat):=WL nx (s.size+1) s
theorem EC {d:Type}{c:Nx d}(h:jK c):∀(f g:Nat) (s:ByteArray),s.size<f->s.size<g->WL c f s=WL c g s
 |0,_,_,hf,_=>absurd hf (by omega)
 |_,0,_,_,hg=>absurd hg (by omega)
 |f+1,g+1,s,hf,hg=>by
  unfold WL;by_cases b:(c s).1=0
  ·rw[zi b,zi b];obtain⟨i,e⟩:=h.pos s b;have:=ie s _ i e;rw[EC h f g _ (by omega) (by omega)]
  rw[zh b,zh b]
theorem OO {d:Type}{b:Nx d}(h:jK b){s:ByteArray}(c:(b s).1=0):SN b s=((b s).2.1,(b s).2.2.1)::SN b (s.extract (b s).2.2.1 s.size):=by
 rw[SN,WL,zi c];obtain⟨i,e⟩:=h.pos s c;have:=ie s _ i e;rw[SN,EC h s.size _ _ (by omega) (Nat.lt_succ_self _)]
theorem ED {c:Type}{b:Nx c}{s:ByteArray}(d:(b s).1≠0):SN b s= []:=by rw[SN,WL,zh d]
theorem Tk {c:Type}{b:Nx c}(h:jK b)(s:ByteArray):(SN b s).map Prod.fst=(split b s).1:=by
 induction s using dN h with
 |stop s h0=>rw[ED h0,eB h s,zh h0];rfl
 |go s h0 ih=>rw[OO h h0,cY h h0,List.map_cons,ih];rfl
def atL {α:Type}(l:List (α×Nat)):Nat:=(l.map Prod.snd).sum
theorem OP {b:Type}(l:List (b×Nat))(x:b×Nat):atL (x::l)=x.2+atL l:=by simp[atL]
theorem OQ {c:Type}{b:Nx c}(h:jK b)(s:ByteArray):atL (SN b s)<=s.size/\(split b s).2.1=s.extract (atL (SN b s)) s.size/\(SN b s).length<=s.size:=by
 induction s using dN h with
 |stop s h0=>
  rw[ED h0,eB h s,zh h0];refine⟨by simp[atL], ?_,by simp⟩;show s=s.extract 0 s.size
  rw[CS]
 |go s h0 ih=>
  obtain⟨i,d⟩:=h.pos s h0;obtain⟨k1,k2,e⟩:=ih;have hz:(s.extract (b s).2.2.1 s.size).size=s.size-(b s).2.2.1:=aj _ _ _ (zd _);rw[OO h h0,OP,cY h h0];refine⟨by simp only;omega, ?_,by rw[zw];omega⟩;show(split b (s.extract (b s).2.2.1 s.size)).2.1=_
  rw[k2,hz,ua _ _ _ _ (by omega)];congr 1
  omega
def cZ :List UInt8->Nat
 | []=>0
 |b::t=>b.toNat+256*cZ t
theorem jL (l:List UInt8):cZ l<2^(8*l.length):=by
 induction l with
 |nil=>simp[cZ]
 |cons b t ih=>
  have:=b.toNat_lt;rw[zw,show 8*(t.length+1)=8+8*t.length from by omega,xV];simp only[cZ];omega
theorem Hp (l t:List UInt8):cZ (l++t)=cZ l+2^(8*l.length)*cZ t:=by
 induction l with
 |nil=>simp[cZ]
 |cons b r ih=>
  rw[zV,cZ,cZ,ih,zw,show 8*(r.length+1)=8+8*r.length from by omega,xV,Nat.mul_add,Nat.mul_assoc];omega
theorem OR (l:List UInt8)(b:UInt8):cZ (l++ [b])=cZ l+b.toNat*2^(8*l.length):=by
 rw[Hp];simp[cZ,Zr]
def lP (l:List UInt8):Nat:=cZ l.reverse
theorem uP (l:List UInt8)(b:UInt8):lP (l++ [b])=256*lP l+b.toNat:=by
 simp[lP,cZ];omega
theorem uQ (l:List UInt8):lP l<2^(8*l.length):=by
 have:=jL l.reverse;simpa[lP]using this
theorem Vl (n b i:Nat)(c:n<2^(8*i)):n|||b*2^(8*i)=n+b*2^(8*i):=by
 rw[Nat.or_comm,Zr,<-xp c];omega
theorem le_pow (i:Nat)(hi:i<=8):2^(8*i)<=18446744073709551616:=by
 have:2^(8*i)<=2^64:=yp (by omega) (by omega);simpa using this
theorem le_step (n b i:Nat)(c:b<256)(e:n<2^(8*i)):n+b*2^(8*i)<2^(8*(i+1)):=by
 have d:2^(8*(i+1))=256*2^(8*i):=by rw[show 8*(i+1)=8+8*i from by omega,xV]
 have h:b*2^(8*i)<=255*2^(8*i):=Nat.mul_le_mul_right _ (by omega);omega
def cq (s:ByteArray):Nat->Nat->Nat->Nat×Nat×Int
 |0,_,_=>(0,0,2)
 |f+1,i,n=>if h:i<s.size then
  if(i=9/\1<s[i].toNat)\/(0<i/\s[i].toNat=0)then(0,0,3)
  else if s[i].toNat<128 then(n+s[i].toNat%128*2^(7*i),i+1,0)
  else cq s f (i+1) (n+s[i].toNat%128*2^(7*i))
  else(0,0,2)
def au (s:ByteArray):Nat×Nat×Int:=cq s 10 0 0
theorem jD (s:ByteArray)(f i n:Nat)(h:¬i<s.size):cq s f i n=(0,0,2):=by
 cases f<;>simp[cq,h]
theorem k9 (s:ByteArray)(f i n:Nat)(h:i<s.size)(b:(i=9/\1<s[i].toNat)\/(0<i/\s[i].toNat=0)):cq s (f+1) i n=(0,0,3):=by
 rw[cq,Z1 h,zi b]
theorem ig (s:ByteArray)(f i n:Nat)(h:i<s.size)(b:¬((i=9/\1<s[i].toNat)\/(0<i/\s[i].toNat=0)))(c:s[i].toNat<128):
 cq s (f+1) i n=(n+s[i].toNat%128*2^(7*i),i+1,0):=by
 rw[cq,Z1 h,zh b,zi c]
theorem ij (s:ByteArray)(f i n:Nat)(h:i<s.size)(b:¬((i=9/\1<s[i].toNat)\/(0<i/\s[i].toNat=0)))(c:¬s[i].toNat<128):
 cq s (f+1) i n=cq s f (i+1) (n+s[i].toNat%128*2^(7*i)):=by
 rw[cq,Z1 h,zh b,zh c]
theorem uR (n b i:Nat)(d:n<2^(7*i)):n+b%128*2^(7*i)<2^(7*(i+1)):=by
 have c:b%128<=127:=by omega
 have e:2^(7*(i+1))=128*2^(7*i):=by rw[show 7*(i+1)=7+7*i from by omega,xV]
 have h:b%128*2^(7*i)<=127*2^(7*i):=Nat.mul_le_mul_right _ c;omega
theorem Ki (i:Nat)(hi:i<=9):2^(7*i)<=9223372036854775808:=by
 have:2^(7*i)<=2^63:=yp (by omega) (by omega);simpa using this
theorem EF (n b i:Nat)(hi:i<=9)(d:n<2^(7*i))(e:¬((i=9/\1<b)\/(0<i/\b=0))):n+b%128*2^(7*i)<18446744073709551616:=by
 rcases xC i 9 with h|h
 ·have j:=uR n b i d;have c:=Ki (i+1) (by omega);omega
 obtain rfl:i=9:=by omega
 have c:b%128<=1:=by omega
 omega
theorem WM (n b i:Nat)(c:n<2^(7*i)):n|||(b%128)*2^(7*i)=n+b%128*2^(7*i):=by
 rw[Nat.or_comm,Zr,<-xp c];omega
theorem OS (s:ByteArray)(f i n:Nat)(hi:i+f=10)(e:n<2^(7*i))(h:(cq s f i n).2.2=0):
 i<(cq s f i n).2.1/\(cq s f i n).2.1<=10/\(cq s f i n).2.1<=s.size/\(cq s f i n).1<18446744073709551616:=by
 induction f generalizing i n with
 |zero=>simp[cq]at h
 |succ f ih=>
  by_cases c:i<s.size
  ·by_cases b:(i=9/\1<s[i].toNat)\/(0<i/\s[i].toNat=0)
   ·rw[k9 s f i n c b]at h;simp at h
   by_cases d:s[i].toNat<128
   ·rw[ig s f i n c b d];exact⟨by simp,by simp;omega,by simp;omega,EF n _ i (by omega) e b⟩
   rw[ij s f i n c b d]at h⊢;have:=ih (i+1) _ (by omega) (uR n _ i e) h;omega
  rw[jD s _ i n c]at h;simp at h
theorem fZ (s:ByteArray)(h:(au s).2.2=0):0<(au s).2.1/\(au s).2.1<=10/\(au s).2.1<=s.size/\(au s).1<18446744073709551616:=
 OS s 10 0 0 rfl (by simp) h
theorem Mc (s:ByteArray)(f i n:Nat)(h:(cq s f i n).2.2≠0):(cq s f i n).1=0/\(cq s f i n).2.1=0/\((cq s f i n).2.2=2\/(cq s f i n).2.2=3):=by
 induction f generalizing i n with
 |zero=>simp[cq]
 |succ f ih=>
  by_cases b:i<s.size
  ·by_cases c:(i=9/\1<s[i].toNat)\/(0<i/\s[i].toNat=0)
   ·rw[k9 s f i n b c];simp
   by_cases d:s[i].toNat<128
   ·rw[ig s f i n b c d]at h;simp at h
   rw[ij s f i n b c d]at h⊢;exact ih _ _ h
  rw[jD s _ i n b];simp
def uc (out:List UInt8)(back:Nat):Nat->List UInt8
 |0=>out
 |n+1=>uc (out++ [out.getD (out.length-back) 0]) back n
theorem uS (out:List UInt8)(b n:Nat):(uc out b n).length=out.length+n:=by
 induction n generalizing out with
 |zero=>rfl
 |succ n ih=>rw[uc,ih];simp;omega
theorem Kj (out:List UInt8)(b m n:Nat):uc out b (m+n)=uc (uc out b m) b n:=by
 induction m generalizing out with
 |zero=>simp[uc]
 |succ m ih=>rw[show m+1+n=(m+n)+1 from by omega,uc,uc,ih]
theorem EG (out:List UInt8)(b n:Nat):uc out b (n+1)=uc out b n++ [(uc out b n).getD ((uc out b n).length-b) 0]:=by
 rw[Kj];rfl
theorem Md (out:List UInt8)(b m:Nat)(e:m<=b)(d:b<=out.length):uc out b m=out++(out.drop (out.length-b)).take m:=by
 induction m with
 |zero=>simp[uc]
 |succ m ih=>
  rw[EG,ih (by omega)];have c:(out++(out.drop (out.length-b)).take m).length=out.length+m:=by simp;omega
  rw[c,zB];congr 1
  rw[yr (by simp;omega)];congr 1
  rw[zv,xy (by omega),List.getElem_drop,zA (by omega)];simp;congr 1
  omega
def bj (b:Nat):Nat:=if b%4=0 then(if 60<=b/4 then b/4-58 else 1)else if b%4=1 then 2 else if b%4=2 then 3 else 5
theorem BG (b:Nat)(c:b<256):1<=bj b/\bj b<=5:=by
 unfold bj;split<;>(try split)<;>(try split)<;>omega
def cO (b l:Nat):Nat:=if b%4=0 then(if 60<=b/4 then l+1 else b/4+1)else if b%4=1 then 4+b/4%8 else b/4+1
def kn (b l:Nat):Nat:=if b%4=1 then b/4/8*256+l else l
def iK (s:ByteArray)(k b:Nat):Nat:=cZ (s.extract (k+1) (k+bj b)).data.toList
def bV (s:ByteArray)(size k b:Nat)(out:List UInt8):Int×Nat×List UInt8:=
 if s.size<k+bj b then(2,k,out)
 else if(b%4≠0/\(kn b (iK s k b)=0\/out.length<kn b (iK s k b)))\/size-out.length<cO b (iK s k b)then(3,k,out)
 else if b%4=0 then
  if s.size<k+bj b+cO b (iK s k b)then(2,k,out)
  else(0,k+bj b+cO b (iK s k b),out++(s.extract (k+bj b) (k+bj b+cO b (iK s k b))).data.toList)
 else(0,k+bj b,uc out (kn b (iK s k b)) (cO b (iK s k b)))
def fL (s:ByteArray)(size:Nat):Nat->Nat->List UInt8->Int×List UInt8
 |0,_,_=>(2,[])
 |f+1,k,out=>if h:k<s.size then
  if(bV s size k s[k].toNat out).1=0 then fL s size f (bV s size k s[k].toNat out).2.1 (bV s size k s[k].toNat out).2.2
  else((bV s size k s[k].toNat out).1,[])
  else if out.length<size then(2,[])else(0,out)
def jd (s:ByteArray)(size:Nat):Int×List UInt8:=fL s size (s.size+1) 0 []
def ay (s:ByteArray):Nat×Nat×Int:=
 if(au s).2.2=0 then(if 4294967295<(au s).1 then(0,0,5)else au s)else(0,0,(au s).2.2)
def aZ (s:ByteArray)(most:Int):Int×List UInt8:=
 if(ay s).2.2≠0 then((ay s).2.2,[])
 else if most<(ay s).1 then(5,[])
 else jd (s.extract (ay s).2.1 s.size) (ay s).1
theorem OT {s:ByteArray}{size k b:Nat}{out:List UInt8}(i:b<256)(l:k<s.size)(n:out.length<=size)(h:(bV s size k b out).1=0):
 k<(bV s size k b out).2.1/\(bV s size k b out).2.1<=s.size/\(bV s size k b out).2.2.length<=size:=by
 have m:=BG b i;unfold bV at h⊢;split at h<;>rename_i d
 ·simp at h
 split at h<;>rename_i c
 ·simp at h
 split at h<;>rename_i e
 ·split at h<;>rename_i j
  ·simp at h
  rw[zh d,zh c,zi e,zh j];refine⟨by simp;omega,by simp;omega, ?_⟩;rw[zj,aa,aj _ _ _ (by omega)];omega
 rw[zh d,zh c,zh e];refine⟨by simp;omega,by simp;omega, ?_⟩;rw[uS];omega
theorem Me {s:ByteArray}{size f k:Nat}{out:List UInt8}{x:Int×List UInt8}(b:k<s.size)(hx:fL s size (f+1) k out=x)(h:(bV s size k s[k].toNat out).1=0):
 fL s size f (bV s size k s[k].toNat out).2.1 (bV s size k s[k].toNat out).2.2=x:=by
 rw[<-hx,fL,Z1 b,zi h]
theorem OU {s:ByteArray}{size f k:Nat}{out:List UInt8}{x:Int×List UInt8}(b:k<s.size)(hx:fL s size (f+1) k out=x)(h:(bV s size k s[k].toNat out).1≠0):
 x=((bV s size k s[k].toNat out).1,[]):=by
 rw[<-hx,fL,Z1 b,zh h]
theorem EH {s:ByteArray}{size f k:Nat}{out:List UInt8}{x:Int×List UInt8}(b:¬k<s.size)(hx:fL s size (f+1) k out=x):x=if out.length<size then(2,[])else(0,out):=by
 rw[<-hx,fL,dif_neg b]
def iL (x n:Nat):Nat:=x/2^n|||x*2^(32-n)%4294967296
def sg0 (x:Nat):Nat:=iL x 7^^^iL x 18^^^x/2^3
def sg1 (x:Nat):Nat:=iL x 17^^^iL x 19^^^x/2^10
def Sg0 (x:Nat):Nat:=iL x 2^^^iL x 13^^^iL x 22
def Sg1 (x:Nat):Nat:=iL x 6^^^iL x 11^^^iL x 25
def EI (e f g:Nat):Nat:=e&&&f|||(e^^^4294967295)&&&g
def uT (a b c:Nat):Nat:=a&&&b|||a&&&c|||b&&&c
theorem WN {n:Nat}:n<4294967296↔n<2^32:=by simp
theorem ud {a b:Nat}(d:a<4294967296)(c:b<4294967296):a|||b<4294967296:=by
 rw[WN]at*;exact Nat.or_lt_two_pow d c
theorem eC {a b:Nat}(c:a<4294967296):a&&&b<4294967296:=Nat.lt_of_le_of_lt Nat.and_le_left c
theorem dw {a b:Nat}(d:a<4294967296)(c:b<4294967296):a^^^b<4294967296:=by
 rw[WN]at*;exact Nat.xor_lt_two_pow d c
theorem mY {a:Nat}(n:Nat)(b:a<4294967296):a/2^n<4294967296:=Nat.lt_of_le_of_lt (Nat.div_le_self _ _) b
theorem eo {x:Nat}(n:Nat)(h:x<4294967296):iL x n<4294967296:=ud (mY n h) (yZ _ (by omega))
theorem agw {x:Nat}(h:x<4294967296):sg0 x<4294967296:=dw (dw (eo _ h) (eo _ h)) (mY _ h)
theorem agx {x:Nat}(h:x<4294967296):sg1 x<4294967296:=dw (dw (eo _ h) (eo _ h)) (mY _ h)
theorem agy {x:Nat}(h:x<4294967296):Sg0 x<4294967296:=dw (dw (eo _ h) (eo _ h)) (eo _ h)
theorem agz {x:Nat}(h:x<4294967296):Sg1 x<4294967296:=dw (dw (eo _ h) (eo _ h)) (eo _ h)
theorem afq {e f g:Nat}(b:e<4294967296):EI e f g<4294967296:=ud (eC b) (eC (dw b (by omega)))
theorem ab7 {a b c:Nat}(d:a<4294967296)(e:b<4294967296):uT a b c<4294967296:=ud (ud (eC d) (eC d)) (eC e)
theorem OV (e f g:Nat)(b:e<4294967296):e&&&f^^^(e^^^4294967295)&&&g=EI e f g:=by
 apply Nat.eq_of_testBit_eq;intro i;have h:Nat.testBit 4294967295 i=decide (i<32):=by
  have:=Nat.testBit_two_pow_sub_one 32 i;simpa using this
 unfold EI;simp only[Nat.testBit_xor,Nat.testBit_and,Nat.testBit_or,h];by_cases hi:i<32
 ·simp only[hi,decide_true];cases Nat.testBit e i<;>cases Nat.testBit f i<;>cases Nat.testBit g i<;>rfl
 have c:Nat.testBit e i=false:=Nat.testBit_lt_two_pow (zT (WN.1 b) (yp (by omega) (by omega)));simp[hi,c]
theorem Mf (a b c:Nat):(a&&&b^^^a&&&c)^^^b&&&c=uT a b c:=by
 apply Nat.eq_of_testBit_eq;intro i;unfold uT;simp only[Nat.testBit_xor,Nat.testBit_and,Nat.testBit_or];cases Nat.testBit a i<;>cases Nat.testBit b i<;>cases Nat.testBit c i<;>rfl
def mZ (s:ByteArray)(i:Nat):Nat:=(s.data.toList.getD (4*i) 0).toNat*16777216+(s.data.toList.getD (4*i+1) 0).toNat*65536+(s.data.toList.getD (4*i+2) 0).toNat*256+(s.data.toList.getD (4*i+3) 0).toNat
theorem BH (s:ByteArray)(i:Nat):mZ s i<4294967296:=by
 have c:=(s.data.toList.getD (4*i) 0).toNat_lt;have b:=(s.data.toList.getD (4*i+1) 0).toNat_lt;have e:=(s.data.toList.getD (4*i+2) 0).toNat_lt;have d:=(s.data.toList.getD (4*i+3) 0).toNat_lt;unfold mZ;omega
def BI (s:ByteArray)(l:List Nat)(i:Nat):Nat:=
 if i<16 then mZ s i else(l.getD (i-16) 0+sg0 (l.getD (i-15) 0)+l.getD (i-7) 0+sg1 (l.getD (i-2) 0))%4294967296
def sched (s:ByteArray):Nat->List Nat
 |0=> []
 |i+1=>sched s i++ [BI s (sched s i) i]
theorem jr (s:ByteArray)(i:Nat):(sched s i).length=i:=by
 induction i with
 |zero=>rfl
 |succ i ih=>simp[sched,ih]
theorem OW (s:ByteArray)(l:List Nat)(i:Nat):BI s l i<4294967296:=by
 unfold BI;split
 ·exact BH s i
 exact yZ _ (by omega)
theorem dO (s:ByteArray)(i j:Nat)(h:j<i):(sched s i).getD j 0=BI s (sched s j) j:=by
 induction i with
 |zero=>omega
 |succ i ih=>
  rw[sched,zv];by_cases b:j<i
  ·rw[xy (by rw[jr];exact b),<-zv];exact ih b
  obtain rfl:j=i:=by omega
  rw[yk (by rw[jr];exact zd _),jr,ZR];rfl
theorem OX (s:ByteArray)(i j:Nat):(sched s i).getD j 0<4294967296:=by
 by_cases h:j<i
 ·rw[dO s i j h];exact OW _ _ _
 rw[zv,yY (by rw[jr];omega)];simp
def mG (s:ByteArray)(i:Nat):Nat:=(sched s 64).getD i 0
theorem OY (s:ByteArray)(i:Nat):mG s i<4294967296:=OX s 64 i
theorem BJ (s:ByteArray)(i:Nat)(h:i<16):mG s i=mZ s i:=by
 unfold mG;rw[dO s 64 i (by omega),BI,zi h]
theorem Tl (s:ByteArray)(i:Nat)(h:16<=i)(b:i<64):mG s i=(mG s (i-16)+sg0 (mG s (i-15))+mG s (i-7)+sg1 (mG s (i-2)))%4294967296:=by
 unfold mG;rw[dO s 64 i b,BI,zh (by omega),dO s 64 (i-16) (by omega),dO s 64 (i-15) (by omega),dO s 64 (i-7) (by omega),dO s 64 (i-2) (by omega),
  dO s i (i-16) (by omega),dO s i (i-15) (by omega),dO s i (i-7) (by omega),dO s i (i-2) (by omega)]
structure Sh where
 a:Nat
 b:Nat
 c:Nat
 d:Nat
 e:Nat
 f:Nat
 g:Nat
 h:Nat
structure Sh.ok (s:Sh):Prop where
 a:s.a<4294967296
 b:s.b<4294967296
 c:s.c<4294967296
 d:s.d<4294967296
 e:s.e<4294967296
 f:s.f<4294967296
 g:s.g<4294967296
 h:s.h<4294967296
def shP (k w:Nat)(s:Sh):Nat:=(s.h+Sg1 s.e+k+w+EI s.e s.f s.g)%4294967296
def shQ (s:Sh):Nat:=(Sg0 s.a+uT s.a s.b s.c)%4294967296
def CT (k w:Nat)(s:Sh):Sh:=⟨(shP k w s+shQ s)%4294967296,s.a,s.b,s.c,(s.d+shP k w s)%4294967296,s.e,s.f,s.g⟩
theorem Mg (k w:Nat){s:Sh}(h:s.ok):(CT k w s).ok:=⟨yZ _ (by omega),h.a,h.b,h.c,yZ _ (by omega),h.e,h.f,h.g⟩
def fM (K:List Nat)(blk:ByteArray):Nat->Sh->Sh
 |0,s=>s
 |i+1,s=>CT (K.getD i 0) (mG blk i) (fM K blk i s)
theorem sI (K:List Nat)(blk:ByteArray)(i:Nat){s:Sh}(h:s.ok):(fM K blk i s).ok:=by
 induction i with
 |zero=>exact h
 |succ i ih=>exact Mg _ _ ih
def Vm (s t:Sh):Sh:=⟨(s.a+t.a)%4294967296,(s.b+t.b)%4294967296,(s.c+t.c)%4294967296,(s.d+t.d)%4294967296,(s.e+t.e)%4294967296,(s.f+t.f)%4294967296,(s.g+t.g)%4294967296,(s.h+t.h)%4294967296⟩
def qb (K:List Nat)(s:Sh)(blk:ByteArray):Sh:=Vm s (fM K blk 64 s)
theorem OZ (K:List Nat)(s:Sh)(blk:ByteArray):(qb K s blk).ok:=⟨yZ _ (by omega),yZ _ (by omega),yZ _ (by omega),yZ _ (by omega),yZ _ (by omega),yZ _ (by omega),yZ _ (by omega),yZ _ (by omega)⟩
def eX (blk:ByteArray)(k j:Nat):Nat:=if j<k then mG blk (j+16*((k-1-j)/16))else 0
theorem ko (blk:ByteArray)(k d:Nat)(h:16<=k)(hd:d<16):eX blk k ((k+d)%16)=mG blk (k-16+d):=by
 unfold eX;rw[zi (by omega),show(k+d)%16+16*((k-1-(k+d)%16)/16)=k-16+d from by omega]
theorem uU (blk:ByteArray)(k:Nat):eX blk (k+1) (k%16)=mG blk k:=by
 unfold eX;rw[zi (by omega),show k%16+16*((k+1-1-k%16)/16)=k from by omega]
theorem CU (blk:ByteArray)(k j:Nat)(c:j<16)(b:j≠k%16):eX blk (k+1) j=eX blk k j:=by
 unfold eX;by_cases h:j<k
 ·rw[zi (by omega),zi h,show(k+1-1-j)/16=(k-1-j)/16 from by omega]
 rw[zh (by omega),zh h]
def EJ (p d:Nat):Nat->Nat->Nat
 |0,x=>x
 |n+1,x=>EJ p d n (if(x+2^n)^d/65536^(2*d)<p then x+2^n else x)
def ab8 (p d:Nat):Nat:=EJ p d 36 0%4294967296
def ab9 (p n:Nat):Bool:=(List.range n).all fun d=>decide (d<2)||decide (0<p%d)
def uV :Nat->List Nat
 |0=> []
 |p+1=>if 2<=p/\ab9 p p=true then uV p++ [p]else uV p
def Mh :List Nat:=uV 312
def uW :List Nat:=Mh.map (ab8 · 3)
def Hr :List Nat:= [0x428a2f98,0x71374491,0xb5c0fbcf,0xe9b5dba5,0x3956c25b,0x59f111f1,0x923f82a4,0xab1c5ed5,0xd807aa98,0x12835b01,0x243185be,0x550c7dc3,0x72be5d74,0x80deb1fe,0x9bdc06a7,0xc19bf174,
 0xe49b69c1,0xefbe4786,0x0fc19dc6,0x240ca1cc,0x2de92c6f,0x4a7484aa,0x5cb0a9dc,0x76f988da,0x983e5152,0xa831c66d,0xb00327c8,0xbf597fc7,0xc6e00bf3,0xd5a79147,0x06ca6351,0x14292967,
 0x27b70a85,0x2e1b2138,0x4d2c6dfc,0x53380d13,0x650a7354,0x766a0abb,0x81c2c92e,0x92722c85,0xa2bfe8a1,0xa81a664b,0xc24b8b70,0xc76c51a3,0xd192e819,0xd6990624,0xf40e3585,0x106aa070,
 0x19a4c116,0x1e376c08,0x2748774c,0x34b0bcb5,0x391c0cb3,0x4ed8aa4a,0x5b9cca4f,0x682e6ff3,0x748f82ee,0x78a5636f,0x84c87814,0x8cc70208,0x90befffa,0xa4506ceb,0xbef9a3f7,0xc67178f2]
theorem CV :uW=Hr:=by decide+kernel
def fB (v:Sh)(s:ByteArray):Nat->Sh
 |0=>v
 |i+1=>qb uW (fB v s i) (s.extract (64*i) (64*i+64))
theorem EK {v:Sh}(h:v.ok)(s:ByteArray):∀i,(fB v s i).ok
 |0=>h
 |i+1=>OZ _ _ _
theorem CW (s p:ByteArray)(a b:Nat)(h:b<=s.size):(s++p).extract a b=s.extract a b:=by
 apply aB;rw[an,an,aP,zX (by simpa using h)]
theorem uX (v:Sh)(s p:ByteArray):∀i,64*i<=s.size->fB v (s++p) i=fB v s i
 |0,_=>rfl
 |i+1,h=>by
  rw[fB,fB,uX v s p i (by omega),CW s p _ _ (by omega)]
theorem BK (v:Sh)(t:ByteArray)(a:Nat):∀b,64*(a+b)<=t.size->fB v t (a+b)=fB (fB v t a) (t.extract (64*a) t.size) b
 |0,_=>rfl
 |b+1,h=>by
  rw[<-ym,fB,fB,BK v t a b (by omega),ua t _ _ _ (by omega)];rw[show 64*a+64*b=64*(a+b)from by omega,show 64*a+(64*b+64)=64*(a+b)+64 from by omega]
def dP (n:Nat):Nat:=(64-(n+9)%64)%64
def fF (m:Nat):List UInt8:=(List.range 8).map fun j=>UInt8.ofNat (m/2^(56-8*j))
theorem iC (m:Nat):(fF m).length=8:=by simp[fF]
theorem EL (m i:Nat)(h:i<8):(fF m).take (i+1)=(fF m).take i++ [UInt8.ofNat (m/2^(56-8*i))]:=by
 rw[yr (by rw[iC];exact h)];congr 2
 simp[fF]
def Hs (n:Nat):List UInt8:=128::List.replicate (dP n) 0++fF (n*8)
def iM (n:Nat):ByteArray:=⟨(Hs n).toArray⟩
theorem AP (n:Nat):(Hs n).length=dP n+9:=by simp[Hs,iC]
theorem pa (n:Nat):(iM n).size=dP n+9:=by rw[iM,bB,AP]
theorem sJ (n:Nat):dP n<64:=yZ _ (by omega)
theorem qc (n:Nat):(n+(dP n+9))%64=0:=by unfold dP;omega
def Eg :Sh:=⟨0x6a09e667,0xbb67ae85,0x3c6ef372,0xa54ff53a,0x510e527f,0x9b05688c,0x1f83d9ab,0x5be0cd19⟩
theorem WO :Eg.ok:=⟨by decide,by decide,by decide,by decide,by decide,by decide,by decide,by decide⟩
def wB (x:Nat):List UInt8:= [UInt8.ofNat (x/16777216),UInt8.ofNat (x/65536),UInt8.ofNat (x/256),UInt8.ofNat x]
def Sh.list (v:Sh):List Nat:= [v.a,v.b,v.c,v.d,v.e,v.f,v.g,v.h]
def EM (v:Sh):List UInt8:=(v.list.map wB).flatten
def Hu (n:Nat)(v:Sh):List UInt8:=((v.list.take n).map wB).flatten
theorem BL (v:Sh)(i:Nat)(h:i<8):Hu (i+1) v=Hu i v++wB (v.list.getD i 0):=by
 unfold Hu;have b:i<v.list.length:=h;rw[yr b,Yl,List.flatten_append,zv,zA b];simp
theorem WQ (v:Sh):Hu 8 v=EM v:=rfl
theorem sK (v:Sh)(i:Nat)(h:i<=8):(Hu i v).length=4*i:=by
 induction i with
 |zero=>rfl
 |succ i ih=>rw[BL v i (by omega),zj,ih (by omega)];simp[wB];omega
theorem CX (v:Sh):(EM v).length=32:=sK v 8 (zd _)
def Hv (s:ByteArray):Sh:=fB Eg (s++iM s.size) ((s++iM s.size).size/64)
def tD (s:ByteArray):ByteArray:=⟨(EM (Hv s)).toArray⟩
theorem BM (s:ByteArray):(tD s).size=32:=by rw[tD,bB,CX]
theorem Hw (s:ByteArray)(r:ByteArray)(b:r=s.extract (64*(s.size/64)) s.size++iM s.size):Hv s=fB (fB Eg s (s.size/64)) r (r.size/64):=by
 have hz:(s++iM s.size).size=s.size+(dP s.size+9):=by rw[bD,pa]
 have e:=qc s.size;have h:r.size=s.size-64*(s.size/64)+(dP s.size+9):=by rw[b,bD,pa,aj _ _ _ (zd _)]
 have d:r=(s++iM s.size).extract (64*(s.size/64)) (s++iM s.size).size:=by
  rw[b];apply aB;rw[aP,an,an,cQ,cQ,aP,yI (by simp;omega)]
 have c:(s++iM s.size).size/64=s.size/64+r.size/64:=by omega
 unfold Hv;rw[c,BK _ _ _ _ (by omega),<-d,uX _ _ _ _ (by omega)]
def Hx (s:ByteArray):ByteArray:=tD (tD s)
def eQ (s:ByteArray):ByteArray:=(Hx s).extract 0 4
theorem BN (s:ByteArray):(Hx s).size=32:=BM _
theorem lQ (s:ByteArray):(eQ s).size=4:=by rw[eQ,aj _ _ _ (by rw[BN];omega)]
def oP (b:Nat):Bool:=decide ((97<=b/\b<=122)\/(48<=b/\b<=57)\/b=95)
def iN (l:List UInt8):Bool:=l.all fun b=>oP b.toNat
def b8 (s:ByteArray):Bool:=iN s.data.toList&&(decide (1<=s.size)&&decide (s.size<=12))
def eY (s:ByteArray):ByteArray:=⟨(s.data.toList++List.replicate (12-s.size) 0).toArray⟩
def rF (l:List UInt8):List UInt8:=(l.reverse.dropWhile (· ==0)).reverse
def da (s:ByteArray):ByteArray:=⟨(rF s.data.toList).toArray⟩
def cI (s:ByteArray):Int×ByteArray:=if s.size=12/\b8 (da s)=true then(0,da s)else(3,ByteArray.empty)
theorem uY (l:List UInt8)(b:UInt8):iN (l++ [b])=(iN l&&oP b.toNat):=by simp[iN]
theorem AQ (l:List UInt8)(k:Nat)(h:iN (l.take k)=false):iN l=false:=by
 simp only[iN,List.all_eq_false]at h⊢;obtain⟨x,hx,b⟩:=h;exact⟨x,List.mem_of_mem_take hx,b⟩
theorem BO (b:Nat)(c:b<256):(oP b=false/\(b<48\/(57<b/\b<95)\/(95<b/\b<97)\/122<b)/\b≠95)\/(oP b=true/\((48<=b/\b<=57)\/(b=95)\/(97<=b/\b<=122))):=by
 rcases xa (oP b)with h|h
 ·right;refine⟨h, ?_⟩;simp only[oP,zY]at h;omega
 left;refine⟨h, ?_⟩;simp only[oP,xH]at h;omega
theorem dC {s:ByteArray}(h:b8 s=true):1<=s.size/\s.size<=12:=by
 simp only[b8,zx,zY]at h;exact h.2
theorem qd {s:ByteArray}(h:s.size<1\/12<s.size):b8 s=false:=by
 rcases xa (b8 s)with h1|h1
 ·have:=dC h1;omega
 exact h1
theorem O0 {s:ByteArray}(c:1<=s.size)(b:s.size<=12):b8 s=iN s.data.toList:=by simp[b8,c,b]
theorem lR (s:ByteArray):(eY s).data.toList=s.data.toList++List.replicate (12-s.size) 0:=by simp[eY]
theorem ik (s:ByteArray)(h:s.size<=12):(eY s).size=12:=by
 rw[<-aa,lR];simp;omega
theorem O1 (l:List UInt8)(n:Nat)(h:∀b∈l,b≠0):rF (l++List.replicate n 0)=l:=by
 unfold rF;rw[List.reverse_append,List.reverse_replicate];have d:∀m:Nat,(List.replicate m (0:UInt8)++l.reverse).dropWhile (· ==0)=l.reverse.dropWhile (· ==0):=by
  intro m;induction m with
  |zero=>simp
  |succ m ih=>simp[ZN,ih]
 rw[d];have c:l.reverse.dropWhile (· ==0)=l.reverse:=by
  cases hl:l.reverse with
  |nil=>simp
  |cons x xs=>
   have hx:x∈l:=by rw[<-List.mem_reverse,hl];simp
   have:=h x hx;simp[this]
 rw[c,List.reverse_reverse]
theorem BP (l:List UInt8):∃n,l=rF l++List.replicate n 0:=by
 unfold rF;have h:∀m:List UInt8,∃n,m=List.replicate n 0++m.dropWhile (· ==0):=by
  intro m;induction m with
  |nil=>exact⟨0,by simp⟩
  |cons x xs ih=>
   by_cases hx:x=0
   ·obtain⟨n,b⟩:=ih;refine⟨n+1, ?_⟩;subst hx;simp only[ZN,zV];rw[List.dropWhile_cons];simp only[beq_self_eq_true,xA];rw[<-b]
   exact⟨0,by simp[hx]⟩
 obtain⟨n,b⟩:=h l.reverse;refine⟨n, ?_⟩;have:=xi List.reverse b;rw[List.reverse_reverse,List.reverse_append,List.reverse_replicate]at this;exact this
theorem Tm (s:ByteArray)(h:b8 s=true):∀b∈s.data.toList,b≠0:=by
 intro b c d;simp only[b8,zx,iN,Za]at h;have:=h.1 b c;subst d;simp[oP]at this
theorem Mi (s:ByteArray)(h:b8 s=true):da (eY s)=s:=by
 apply aB;simp only[da];rw[lR,O1 _ _ (Tm s h)]
theorem BQ (s:ByteArray)(h:b8 s=true):cI (eY s)=(0,s):=by
 have b:=ik s (dC h).2;simp[cI,b,Mi s h,h]
theorem EN (s:ByteArray)(h:s.size≠12):cI s=(3,ByteArray.empty):=by simp[cI,h]
theorem Mj (s t:ByteArray)(h:cI s=(0,t)):eY t=s/\b8 t=true:=by
 unfold cI at h;split at h
 ·rename_i d
  injection h with _ ht;subst ht;refine⟨?_,d.2⟩;apply aB;obtain⟨n,b⟩:=BP s.data.toList;rw[lR];have hz:(da s).size=(rF s.data.toList).length:=by rw[da,bB]
  have e:(da s).data.toList=rF s.data.toList:=by simp[da]
  have c:=xi List.length b;simp only[zj,xw,aa]at c;rw[hz,e,show 12-(rF s.data.toList).length=n from by omega,<-b]
 injection h with h _;omega
theorem sL (s:ByteArray):cI s=(3,ByteArray.empty)\/∃t,cI s=(0,t):=by
 unfold cI;split
 ·exact .inr ⟨_,rfl⟩
 exact .inl rfl
structure aN where
 fm:Int
 mg:Nat
 fr:Int
 un:Int
 de:Int
 it:Int
structure Fr where
 id:Nat
 nm:ByteArray
 body:ByteArray
def rG :Fr:=⟨0,ByteArray.empty,ByteArray.empty⟩
def aN.right (c:aN):Bool:=decide (1<=c.fm)&&(decide (c.fm<=3)&&(decide (1<=c.fr)&&(decide (c.fr<=65536)&&(decide (1<=c.un)&&(decide (c.un<=65536)&&(decide (1<=c.de)&&(decide (c.de<=16)&&(decide (1<=c.it)&&decide (c.it<=1024)))))))))
theorem aN.bW (c:aN):c.right=true↔1<=c.fm/\c.fm<=3/\1<=c.fr/\c.fr<=65536/\1<=c.un/\c.un<=65536/\1<=c.de/\c.de<=16/\1<=c.it/\c.it<=1024:=by
 simp only[aN.right,zx,zY]
inductive It where
 |mk:ByteArray->Bool->List It->It
def It.text :It->ByteArray| .mk t _ _=>t
def It.list :It->Bool| .mk _ l _=>l
def It.sub :It->List It| .mk _ _ s=>s
@[simp] theorem It.ue (t:ByteArray)(l:Bool)(s:List It):(It.mk t l s).text=t:=rfl
@[simp] theorem It.uf (t:ByteArray)(l:Bool)(s:List It):(It.mk t l s).list=l:=rfl
@[simp] theorem It.gM (t:ByteArray)(l:Bool)(s:List It):(It.mk t l s).sub=s:=rfl
mutual
def It.count :It->Nat
 | .mk _ _ s=>1+aM s
def aM :List It->Nat
 | []=>0
 |x::xs=>x.count+aM xs
end
mutual
def It.deep :It->Nat
 | .mk _ _ s=>cJ s+1
def cJ :List It->Nat
 | []=>0
 |x::xs=>max x.deep (cJ xs)
end
def formed (t:ByteArray)(l:Bool)(n:Nat):Bool:=if l then decide (t.size=0)else decide (n=0)
mutual
def It.right :It->Bool
 | .mk t l s=>formed t l s.length&&dh s
def dh :List It->Bool
 | []=>true
 |x::xs=>x.right&&dh xs
end
def It.may (x:It):Bool:=x.right&&decide (x.deep<=16)&&decide (x.count<=1024)
theorem It.ind {P:It->Prop}(h:∀t l s,(∀x∈s,P x)->P (.mk t l s)):∀x,P x:=by
 intro x;exact It.rec (motive_1:=P) (motive_2:=fun s=>∀x∈s,P x) (fun t l s ih=>h t l s ih) (by simp) (fun x xs hx Ly=>by
  intro y hy;rcases y9.1 hy with rfl|hy
  ·exact hx
  exact Ly y hy) x
theorem BR (x:It):1<=x.count:=by cases x;simp[It.count]
theorem lS (s:List It)(k:Nat)(h:k<s.length):s.take (k+1)=s.take k++ [s[k]]:=yr h
inductive Ty where
 |mk:Int->Int->List Ty->Int->Ty
def Ty.kind :Ty->Int| .mk k _ _ _=>k
def Ty.size :Ty->Int| .mk _ s _ _=>s
def Ty.sub :Ty->List Ty| .mk _ _ l _=>l
def Ty.tail :Ty->Int| .mk _ _ _ t=>t
@[simp] theorem Ty.Kk (k s:Int)(l:List Ty)(t:Int):(Ty.mk k s l t).kind=k:=rfl
@[simp] theorem Ty.afr (k s:Int)(l:List Ty)(t:Int):(Ty.mk k s l t).size=s:=rfl
@[simp] theorem Ty.gM (k s:Int)(l:List Ty)(t:Int):(Ty.mk k s l t).sub=l:=rfl
@[simp] theorem Ty.CY (k s:Int)(l:List Ty)(t:Int):(Ty.mk k s l t).tail=t:=rfl
mutual
def Ty.count :Ty->Nat
 | .mk _ _ l _=>1+bc l
def bc :List Ty->Nat
 | []=>0
 |x::xs=>x.count+bc xs
end
mutual
def Ty.deep :Ty->Nat
 | .mk _ _ l _=>dI l+1
def dI :List Ty->Nat
 | []=>0
 |x::xs=>max x.deep (dI xs)
end
def ga (k s:Int)(n:Nat)(t:Int):Bool:=
 if k=1 then decide ((s=1\/s=2\/s=4\/s=8)/\n=0/\t=0)
 else if k=2 then decide (1<=s/\s<=65536/\n=0/\t=0)
 else if k=3 then decide (0<=s/\s<=65536/\n=0/\t=0)
 else if k=4 then decide (0<=s/\s<=1024/\n=1/\t=0)
 else if k=5 then decide (s=0/\n<=16/\0<=t/\t<=n)
 else false
mutual
def Ty.right :Ty->Bool
 | .mk k s l t=>ga k s l.length t&&bM l
def bM :List Ty->Bool
 | []=>true
 |x::xs=>x.right&&bM xs
end
def Ty.may (t:Ty):Bool:=decide (t.count<=64)&&decide (t.deep<=8)&&t.right
theorem Ty.ind {P:Ty->Prop}(h:∀k s l t,(∀x∈l,P x)->P (.mk k s l t)):∀x,P x:=by
 intro x;exact Ty.rec (motive_1:=P) (motive_2:=fun s=>∀x∈s,P x) (fun k s l t ih=>h k s l t ih) (by simp) (fun x xs hx Ly=>by
  intro y hy;rcases y9.1 hy with rfl|hy
  ·exact hx
  exact Ly y hy) x
theorem gN (s:List Ty)(k:Nat)(h:k<s.length):s.take (k+1)=s.take k++ [s[k]]:=yr h
theorem fN (a b:List Ty):bc (a++b)=bc a+bc b:=by
 induction a with
 |nil=>simp[bc]
 |cons x xs ih=>simp[bc,ih,ym]
theorem qe (a b:List Ty):dI (a++b)=max (dI a) (dI b):=by
 induction a with
 |nil=>simp[dI]
 |cons x xs ih=>simp only[zV,dI,ih];omega
theorem iD (a b:List Ty):bM (a++b)=(bM a&&bM b):=by
 induction a with
 |nil=>simp[bM]
 |cons x xs ih=>simp[bM,ih,Bool.and_assoc]
theorem H6 (x:Ty):1<=x.count:=by cases x;simp[Ty.count]
theorem EO (s:List Ty)(k:Nat)(h:k<s.length):bc (s.take (k+1))=bc (s.take k)+s[k].count:=by
 rw[gN s k h,fN];simp[bc]
theorem uZ (s:List Ty)(k:Nat):bc (s.take k)<=bc s:=by
 have:=fN (s.take k) (s.drop k);rw[zJ]at this;omega
theorem H7 (s:List Ty)(k:Nat)(h:k<s.length):dI (s.take (k+1))=max (dI (s.take k)) s[k].deep:=by
 rw[gN s k h,qe];simp[dI]
theorem AR (s:List Ty)(k:Nat):dI (s.take k)<=dI s:=by
 have:=qe (s.take k) (s.drop k);rw[zJ]at this;omega
theorem nf (s:List Ty)(k:Nat)(h:k<s.length):bM (s.take (k+1))=(bM (s.take k)&&s[k].right):=by
 rw[gN s k h,iD];simp[bM]
theorem CZ (s:List Ty)(k:Nat)(h:k<s.length)(c:s[k].right=false):bM s=false:=by
 have b:=iD (s.take (k+1)) (s.drop (k+1));rw[zJ,nf s k h,c]at b;simpa using b
theorem dQ {s:List Ty}(h:bM s=true)(k:Nat)(b:k<s.length):s[k].right=true:=by
 cases hr:s[k].right with
 |true=>rfl
 |false=>rw[CZ s k b hr]at h;cases h
theorem O2 (s:List Ty)(h:∀x∈s,x.deep<=x.count):dI s<=bc s:=by
 induction s with
 |nil=>simp[dI]
 |cons x xs ih=>
  have d:=h x (by simp);have c:=ih (fun y b=>h y (by simp[b]));simp only[dI,bc];omega
theorem Mk (x:Ty):x.deep<=x.count:=by
 induction x using Ty.ind with
 |h k s l t ih=>simp only[Ty.deep,Ty.count];have:=O2 l ih;omega
mutual
def Ty.gZ :Ty->Nat->Nat->Bool×Nat
 | .mk k s l t,lv,c=>if 8<lv\/c=0\/ga k s l.length t=false then(false,c)else kK l (lv+1) (c-1)
def kK :List Ty->Nat->Nat->Bool×Nat
 | [],_,c=>(true,c)
 |x::xs,lv,c=>match x.gZ lv c with
  |(true,c')=>kK xs lv c'
  |(false,c')=>(false,c')
end
theorem sM (a b:List Ty)(e c:Nat):kK (a++b) e c=match kK a e c with
 |(true,d)=>kK b e d
 |(false,d)=>(false,d):=by
 induction a generalizing c with
 |nil=>simp[kK]
 |cons x xs ih=>
  simp only[zV,kK];rcases x.gZ e c with⟨r,d⟩
  cases r with
  |true=>simp only[ih]
  |false=>rfl
theorem BS {s:List Ty}{k b c e:Nat}(h:k<s.length)(i:kK (s.take k) b c=(true,e)):kK (s.take (k+1)) b c=s[k].gZ b e:=by
 rw[gN s k h,sM,i];simp only[kK];rcases s[k].gZ b e with⟨r,d⟩
 cases r<;>rfl
theorem Ml {s:List Ty}{k b c e d:Nat}(h:k<s.length)(l:kK (s.take k) b c=(true,e))(j:s[k].gZ b e=(false,d)):kK s b c=(false,d):=by
 have i:=sM (s.take (k+1)) (s.drop (k+1)) b c;rw[zJ,BS h l,j]at i;exact i
def BT (r:Bool×Nat)(rt:Bool)(lv d n c:Nat):Prop:=(r.1=true↔rt=true/\lv+d<=9/\n<=c)/\(r.1=true->r.2+n=c)/\r.2<=c
theorem Tn (s:List Ty)(k:∀x∈s,∀e c,e<=9->BT (x.gZ e c) x.right e x.deep x.count c):∀e c,e<=9->BT (kK s e c) (bM s) e (dI s) (bc s) c:=by
 induction s with
 |nil=>intro e c h;simp[BT,kK,bM,dI,bc,h]
 |cons x xs Ly=>
  intro e c l;have i:=k x (by simp) e c l;rcases hv:x.gZ e c with⟨r,p⟩
  rw[hv]at i;obtain⟨i,j,m⟩:=i;simp only at i j m;have z:=H6 x;unfold BT;simp only[kK,hv,bM,dI,bc,zx];cases r with
  |true=>
   have j:=j rfl;obtain⟨u,n,w⟩:=Ly (fun y q=>k y (by simp[q])) e p l;have i:=i.1 rfl;refine⟨?_,fun o=>by have:=n o;simp only;omega,by simp only;omega⟩;simp only[u];constructor
   ·rintro⟨a,b,d⟩;exact⟨⟨i.1,a⟩,by omega,by omega⟩
   rintro⟨a,b,d⟩;exact⟨a.2,by omega,by omega⟩
  |false=>
   refine⟨?_,by simp,m⟩;constructor
   ·intro h;cases h
   rintro⟨a,b,d⟩;exact i.2 ⟨a.1,by omega,by omega⟩
theorem EP (x:Ty):∀i c,i<=9->BT (x.gZ i c) x.right i x.deep x.count c:=by
 induction x using Ty.ind with
 |h k s l t ih=>
  intro i c q;unfold BT;simp only[Ty.gZ,Ty.right,Ty.deep,Ty.count,zx];by_cases e:8<i\/c=0\/ga k s l.length t=false
  ·simp only[zi e];refine⟨?_,by simp,zd _⟩;constructor
   ·intro h;cases h
   rintro⟨⟨a,_⟩,b,d⟩;rcases e with e|e|e
   ·omega
   ·omega
   rw[e]at a;cases a
  simp only[zh e];have j:i<=8/\0<c/\ga k s l.length t=true:=by
   refine⟨by omega,by omega, ?_⟩;cases h:ga k s l.length t with
   |true=>rfl
   |false=>exact absurd (.inr (.inr h)) e
  obtain⟨o,n,p⟩:=Tn l ih (i+1) (c-1) (by omega);refine⟨?_,fun m=>by have:=n m;omega,by omega⟩;rw[o];constructor
  ·rintro⟨a,b,d⟩;exact⟨⟨j.2.2,a⟩,by omega,by omega⟩
  rintro⟨a,b,d⟩;exact⟨a.2,by omega,by omega⟩
theorem Mm (x:Ty):(x.gZ 1 64).1=x.may:=by
 have h:=(EP x 1 64 (by omega)).1;rw[yP,h];simp only[Ty.may,zx,zY];constructor
 ·rintro⟨a,b,c⟩;exact⟨⟨by omega,by omega⟩,a⟩
 rintro⟨⟨a,b⟩,c⟩;exact⟨c,by omega,by omega⟩
def jn (b:UInt8):Bool:=decide (48<=b.toNat)&&decide (b.toNat<=57)
def fu (n:Nat)(b:UInt8):Nat:=if n<1000000 then 10*n+(b.toNat-48)else n
def hZ :List UInt8->Nat->Nat×List UInt8
 | [],n=>(n,[])
 |b::r,n=>if jn b then hZ r (fu n b)else(n,b::r)
def ng :List UInt8->Bool
 | []=>false
 |b::_=>jn b
def cw :List UInt8->Option (Nat×List UInt8)
 | []=>none
 |b::r=>if jn b=false then none else if b=48/\ng r=true then none else some (hZ (b::r) 0)
theorem rH (b:UInt8)(r:List UInt8):cw (b::r)=if jn b=false then none else if b=48/\ng r=true then none else some (hZ (b::r) 0):=rfl
def AS (acc:List Ty)(l:List UInt8):Option (List UInt8):=
 if acc= []then some l else match l with
  | []=>none
  |c::r=>if c=44 then some r else none
def tQ (l:List UInt8)(tl:Nat):Option (List UInt8×Nat):=match l with
 | []=>if 0<tl then none else some ([],tl)
 |c::r=>if c=63 then some (r,tl+1)else if 0<tl then none else some (c::r,tl)
def fC (p:List UInt8->Option (Ty×List UInt8)):Nat->List UInt8->List Ty->Nat->Option (Ty×List UInt8)
 |0,_,_,_=>none
 |_+1,[],_,_=>none
 |n+1,c::r,acc,tl=>
  if c=125 then some (.mk 5 0 acc tl,r)
  else match AS acc (c::r)with
   |none=>none
   |some l1=>match tQ l1 tl with
    |none=>none
    |some (l2,Lz)=>match p l2 with
     |none=>none
     |some (y,r')=>fC p n r' (acc++ [y]) Lz
def gP (x:Ty):List UInt8->Option (Ty×List UInt8)
 | []=>none
 |c::r=>if c=58 then(match cw r with
  |none=>none
  |some (_,[])=>none
  |some (n,d::r')=>if d=93 then some (.mk 4 n [x] 0,r')else none)else none
def aJ :Nat->List UInt8->Option (Ty×List UInt8)
 |0,_=>none
 |_+1,[]=>none
 |f+1,c::r=>
  if c=117 then(match cw r with|none=>none|some (n,r')=>if n%8=0 then some (.mk 1 ((n/8:Nat):Int) [] 0,r')else none)
  else if c=98 then(match cw r with|none=>none|some (n,r')=>some (.mk 2 n [] 0,r'))
  else if c=115 then(match cw r with|none=>none|some (n,r')=>some (.mk 3 n [] 0,r'))
  else if c=91 then(match aJ f r with|none=>none|some (x,r')=>gP x r')
  else if c=123 then fC (aJ f) (r.length+1) r [] 0
  else none
def AT :Option (Nat×List UInt8)->Option (Ty×List UInt8)
 |none=>none
 |some (n,r)=>if n%8=0 then some (.mk 1 ((n/8:Nat):Int) [] 0,r)else none
def tE (k:Int):Option (Nat×List UInt8)->Option (Ty×List UInt8)
 |none=>none
 |some (n,r)=>some (.mk k n [] 0,r)
def u9 (o:Option (Ty×List UInt8)):Option (Ty×List UInt8):=match o with
 |none=>none
 |some (x,r)=>gP x r
theorem Kl (f:Nat)(r:List UInt8):aJ (f+1) (117::r)=AT (cw r):=by
 simp only[aJ,xA];cases cw r<;>rfl
theorem Km (f:Nat)(r:List UInt8):aJ (f+1) (98::r)=tE 2 (cw r):=by
 simp only[aJ,zh (show¬(98:UInt8)=117 by decide),xA];cases cw r<;>rfl
theorem Kn (f:Nat)(r:List UInt8):aJ (f+1) (115::r)=tE 3 (cw r):=by
 simp only[aJ,zh (show¬(115:UInt8)=117 by decide),zh (show¬(115:UInt8)=98 by decide),xA];cases cw r<;>rfl
theorem Ko (f:Nat)(r:List UInt8):aJ (f+1) (91::r)=u9 (aJ f r):=by
 simp only[aJ,zh (show¬(91:UInt8)=117 by decide),zh (show¬(91:UInt8)=98 by decide),zh (show¬(91:UInt8)=115 by decide),xA];cases aJ f r<;>rfl
theorem Kp (f:Nat)(r:List UInt8):aJ (f+1) (123::r)=fC (aJ f) (r.length+1) r [] 0:=by
 simp only[aJ,zh (show¬(123:UInt8)=117 by decide),zh (show¬(123:UInt8)=98 by decide),zh (show¬(123:UInt8)=115 by decide),zh (show¬(123:UInt8)=91 by decide),xA]
theorem ER (f:Nat)(c:UInt8)(r:List UInt8)(i:c.toNat≠117)(d:c.toNat≠98)(l:c.toNat≠115)(j:c.toNat≠91)(b:c.toNat≠123):aJ (f+1) (c::r)=none:=by
 have k:∀n:UInt8,c.toNat≠n.toNat->¬c=n:=fun n h e=>h (by rw[e])
 simp only[aJ,zh (k 117 i),zh (k 98 d),zh (k 115 l),zh (k 91 j),zh (k 123 b)]
def je (x:Ty):Option (Nat×List UInt8)->Option (Ty×List UInt8)
 |none=>none
 |some (_,[])=>none
 |some (n,d::r')=>if d.toNat=93 then some (.mk 4 n [x] 0,r')else none
theorem nh (x:Ty)(r:List UInt8):gP x (58::r)=je x (cw r):=by
 simp only[gP,xA];cases cw r with
 |none=>rfl
 |some z=>
  obtain⟨n,b⟩:=z;cases b with
  |nil=>rfl
  |cons d b=>
   simp only[je];by_cases h:d=93
   ·subst h;rfl
   have c:¬d.toNat=93:=fun e=>h (zO.1 e)
   simp[h,c]
theorem u' (x:Ty)(c:UInt8)(r:List UInt8)(h:c.toNat≠58):gP x (c::r)=none:=by
 simp only[gP,zh (fun e:c=58=>h (by rw[e];rfl))]
def cP (l:List UInt8):Option Ty:=match aJ 8 l with
 |some (x,[])=>if x.may then some x else none
 |_=>none
theorem qf :∀(l:List UInt8) (n m:Nat) (r:List UInt8),hZ l n=(m,r)->r<:+l
 | [],n,m,r,h=>by simp[hZ]at h;rw[<-h.2];exact ZC _
 |b::l,n,m,r,h=>by
  unfold hZ at h;split at h
  ·exact(qf l _ m r h).trans (yT b l)
  injection h with h1 h2;rw[<-h2];exact ZC _
theorem vc (n:Nat)(b:UInt8)(h:n<=10000100)(c:b.toNat<=57):fu n b<=10000100:=by unfold fu;split<;>omega
theorem la (b:UInt8):jn b=true↔48<=b.toNat/\b.toNat<=57:=by simp[jn]
theorem ES :∀(l:List UInt8) (n m:Nat) (r:List UInt8),hZ l n=(m,r)->n<=10000100->m<=10000100
 | [],n,m,r,h,hn=>by simp[hZ]at h;omega
 |b::l,n,m,r,h,hn=>by
  unfold hZ at h;split at h
  ·rename_i hd
   exact ES l _ m r h (vc n b hn ((la b).1 hd).2)
  injection h with h1 h2;omega
theorem rI {l:List UInt8}{n:Nat}{r:List UInt8}(h:cw l=some (n,r)):r<:+l/\r.length<l.length/\n<=10000100:=by
 match l,h with
 | [],h=>simp[cw]at h
 |b::l,h=>
  rw[rH]at h;split at h
  ·cases h
  rename_i d
  split at h
  ·cases h
  injection h with h;have e:=ES _ _ _ _ h (by omega);unfold hZ at h;rw[zi (by simpa using d)]at h;have c:=qf _ _ _ _ h;refine⟨c.trans (yT b l), ?_,e⟩;have:=c.length_le;simp;omega
theorem BU {acc:List Ty}{l r:List UInt8}(h:AS acc l=some r):r<:+l:=by
 unfold AS at h;split at h
 ·injection h with h;rw[h];exact ZC _
 match l,h with
 |c::l,h=>
  simp only at h;split at h
  ·injection h with h;rw[<-h];exact yT c l
  cases h
theorem Kq {l r:List UInt8}{b d:Nat}(h:tQ l b=some (r,d)):r<:+l:=by
 unfold tQ at h;match l,h with
 | [],h=>
  simp only at h;split at h
  ·cases h
  injection h with h;injection h with h _;rw[<-h];exact ZC _
 |c::l,h=>
  simp only at h;split at h
  ·injection h with h;injection h with h _;rw[<-h];exact yT c l
  split at h
  ·cases h
  injection h with h;injection h with h _;rw[<-h];exact ZC _
theorem BV {p:List UInt8->Option (Ty×List UInt8)}(b:∀l y r,p l=some (y,r)->r<:+l/\r.length<l.length):∀n l acc d y r,fC p n l acc d=some (y,r)->r<:+l/\r.length<l.length
 |0,_,_,_,_,_,h=>by simp[fC]at h
 |n+1,[],_,_,_,_,h=>by simp[fC]at h
 |n+1,c::l,acc,d,y,r,h=>by
  unfold fC at h;split at h
  ·injection h with h;injection h with _ h;rw[<-h];exact⟨yT c l,by simp⟩
  split at h
  ·cases h
  rename_i w m
  split at h
  ·cases h
  rename_i u s i
  split at h
  ·cases h
  rename_i q x o
  have k1:=BU m;have k2:=Kq i;have k:=b _ _ _ o;have e:=BV b n _ _ _ _ _ h;have j:=(e.1.trans k.1).trans (k2.trans k1);refine⟨j, ?_⟩;have:=(k2.trans k1).length_le;omega
theorem BW {x y:Ty}{l r:List UInt8}(h:gP x l=some (y,r)):r<:+l/\r.length<l.length:=by
 unfold gP at h;match l,h with
 |c::l,h=>
  simp only at h;split at h
  ·split at h
   ·cases h
   ·cases h
   rename_i n d b e
   split at h
   ·injection h with h;injection h with _ h;subst h;have k1:=(rI e)
    refine⟨((yT d b).trans k1.1).trans (yT c l), ?_⟩;have:=k1.2.1;simp at this⊢;omega
   cases h
  cases h
theorem gA :∀(f:Nat) (l:List UInt8) (y:Ty) (r:List UInt8),aJ f l=some (y,r)->r<:+l/\r.length<l.length
 |0,_,_,_,h=>by simp[aJ]at h
 |f+1,[],_,_,h=>by simp[aJ]at h
 |f+1,c::l,y,r,h=>by
  have key:∀{m:Nat} {d:List UInt8},cw l=some (m,d)->d<:+c::l/\d.length<(c::l).length:=fun b=>by
   have k:=rI b;exact⟨k.1.trans (yT c l),by have:=k.2.1;simp;omega⟩
  unfold aJ at h;split at h
  ·split at h
   ·cases h
   rename_i b
   split at h
   ·injection h with h;injection h with _ h;subst h;exact key b
   cases h
  split at h
  ·split at h
   ·cases h
   rename_i b
   injection h with h;injection h with _ h;subst h;exact key b
  split at h
  ·split at h
   ·cases h
   rename_i b
   injection h with h;injection h with _ h;subst h;exact key b
  split at h
  ·split at h
   ·cases h
   rename_i x d b
   have k1:=gA f _ _ _ b;have k2:=BW h;exact⟨(k2.1.trans k1.1).trans (yT c l),by have:=k1.2;have:=k2.2;simp;omega⟩
  split at h
  ·have k:=BV (gA f) _ _ _ _ _ _ h;exact⟨k.1.trans (yT c l),by have:=k.2;simp;omega⟩
  cases h
theorem vd {s:ByteArray}{q:Nat}{r:List UInt8}(e:q<=s.size)(h:r<:+s.data.toList.drop q):s.data.toList.drop (s.size-r.length)=r/\q<=s.size-r.length:=by
 obtain⟨pre,b⟩:=h;have d:=xi List.length b;simp only[zj,zR,aa]at d;have c:r=(s.data.toList.drop q).drop pre.length:=by rw[<-b,List.drop_left]
 rw[xJ]at c;refine⟨?_,by omega⟩;rw[c];congr 1
 rw[zR,aa];omega
def eR (f:Nat)(s:ByteArray)(R:Option (Ty×List UInt8))(p:Nat)(acc:List Ty)(tl:Nat):Prop:=∃n,fC (aJ f) n (s.data.toList.drop p) acc tl=R/\(s.data.toList.drop p).length<n
def O3 (f:Nat)(s:ByteArray)(R:Option (Ty×List UInt8))(q:Nat)(acc:List Ty)(tl:Nat):Prop:=∃n,(match aJ f (s.data.toList.drop q)with|none=>none|some (y,r')=>fC (aJ f) n r' (acc++ [y]) tl)=R/\(s.data.toList.drop q).length<=n
theorem eR.stop {f:Nat}{s:ByteArray}{R:Option (Ty×List UInt8)}{p:Nat}{acc:List Ty}{d:Nat}(h:eR f s R p acc d)(c:s.size<=p):R=none:=by
 obtain⟨n,b,_⟩:=h;rw[zI (by simpa using c)]at b;cases n<;>simp[fC]at b<;>exact b.symm
theorem eR.ends {f:Nat}{s:ByteArray}{R:Option (Ty×List UInt8)}{p:Nat}{acc:List Ty}{c:Nat}(h:eR f s R p acc c)(e:p<s.size)(d:s[p].toNat=125):R=some (.mk 5 0 acc c,s.data.toList.drop (p+1)):=by
 obtain⟨n,b,i⟩:=h;rw[drop_cons s p e,show s[p]=125 from zO.1 d]at b;cases n with
 |zero=>omega
 |succ n=>simp[fC]at b;exact b.symm
theorem eR.open_ {f:Nat}{s:ByteArray}{R:Option (Ty×List UInt8)}{p:Nat}{acc:List Ty}{d:Nat}(h:eR f s R p acc d)(k:p<s.size)(i:s[p].toNat≠125):
 ∃n,(match AS acc (s.data.toList.drop p)with
  |none=>none
  |some l1=>match tQ l1 d with
   |none=>none
   |some (l2,Lz)=>match aJ f l2 with
    |none=>none
    |some (y,r')=>fC (aJ f) n r' (acc++ [y]) Lz)=R/\(s.data.toList.drop p).length<=n:=by
 obtain⟨n,b,c⟩:=h;have j:s[p]≠125:=fun e=>i (by rw[e];rfl)
 match n,b,c with
 |n+1,b,c=>
  refine⟨n, ?_,by omega⟩;rw[drop_cons s p k]at b⊢;simpa only[fC,zh j]using b
theorem eR.bad {f:Nat}{s:ByteArray}{R:Option (Ty×List UInt8)}{p:Nat}{acc:List Ty}{i:Nat}(h:eR f s R p acc i)(b:p<s.size)(d:s[p].toNat≠125)(k:s[p].toNat≠44)(j:acc≠ []):R=none:=by
 obtain⟨n,c,_⟩:=h.open_ b d;have l:s[p]≠44:=fun e=>k (by rw[e];rfl)
 rw[show AS acc (s.data.toList.drop p)=none by rw[drop_cons s p b];simp[AS,j,l]]at c;exact c.symm
def rJ (f:Nat)(s:ByteArray)(R:Option (Ty×List UInt8))(q:Nat)(acc:List Ty)(tl:Nat):Prop:=
 ∃n,(match tQ (s.data.toList.drop q) tl with
  |none=>none
  |some (l2,Lz)=>match aJ f l2 with
   |none=>none
   |some (y,r')=>fC (aJ f) n r' (acc++ [y]) Lz)=R/\(s.data.toList.drop q).length<=n
theorem eR.first {f:Nat}{s:ByteArray}{R:Option (Ty×List UInt8)}{p:Nat}{b:Nat}(h:eR f s R p [] b)(e:p<s.size)(d:s[p].toNat≠125):rJ f s R p [] b:=by
 obtain⟨n,c,i⟩:=h.open_ e d;rw[show AS [] (s.data.toList.drop p)=some (s.data.toList.drop p)by simp[AS]]at c;exact⟨n,c,i⟩
theorem eR.more {f:Nat}{s:ByteArray}{R:Option (Ty×List UInt8)}{p:Nat}{acc:List Ty}{d:Nat}(h:eR f s R p acc d)(b:p<s.size)(i:s[p].toNat=44)(j:acc≠ []):rJ f s R (p+1) acc d:=by
 obtain⟨n,e,c⟩:=h.open_ b (by omega);have k:s[p]=44:=zO.1 i;rw[show AS acc (s.data.toList.drop p)=some (s.data.toList.drop (p+1))by rw[drop_cons s p b];simp[AS,j,k]]at e;rw[drop_cons s p b]at c;exact⟨n,e,by simp at c⊢;omega⟩
theorem rJ.mark {f:Nat}{s:ByteArray}{R:Option (Ty×List UInt8)}{q:Nat}{acc:List Ty}{b:Nat}(h:rJ f s R q acc b)(d:q<s.size)(i:s[q].toNat=63):O3 f s R (q+1) acc (b+1):=by
 obtain⟨n,e,c⟩:=h;have j:s[q]=63:=zO.1 i;rw[show tQ (s.data.toList.drop q) b=some (s.data.toList.drop (q+1),b+1)by rw[drop_cons s q d];simp[tQ,j]]at e;rw[drop_cons s q d]at c;exact⟨n,e,by simp at c⊢;omega⟩
theorem rJ.none_ {f:Nat}{s:ByteArray}{R:Option (Ty×List UInt8)}{q:Nat}{acc:List Ty}{b:Nat}(h:rJ f s R q acc b)(j:∀c:q<s.size,s[q].toNat≠63)(d:0<b):R=none:=by
 obtain⟨n,i,l⟩:=h;rw[show tQ (s.data.toList.drop q) b=none by
  by_cases c:q<s.size
  ·have k:s[q]≠63:=fun e=>j c (by rw[e];rfl)
   rw[drop_cons s q c];simp[tQ,k,d]
  rw[zI (by simp;omega)];simp[tQ,d]]at i
 exact i.symm
theorem rJ.plain {f:Nat}{s:ByteArray}{R:Option (Ty×List UInt8)}{q:Nat}{acc:List Ty}(h:rJ f s R q acc 0)(d:∀b:q<s.size,s[q].toNat≠63):O3 f s R q acc 0:=by
 obtain⟨n,c,i⟩:=h;rw[show tQ (s.data.toList.drop q) 0=some (s.data.toList.drop q,0)by
  by_cases b:q<s.size
  ·have j:s[q]≠63:=fun e=>d b (by rw[e];rfl)
   rw[drop_cons s q b];simp[tQ,j]
  rw[zI (by simp;omega)];simp[tQ]]at c
 exact⟨n,c,i⟩
theorem O3.none {f:Nat}{s:ByteArray}{R:Option (Ty×List UInt8)}{q:Nat}{acc:List Ty}{d:Nat}(h:O3 f s R q acc d)(c:aJ f (s.data.toList.drop q)=none):R=none:=by
 obtain⟨n,b,_⟩:=h;rw[c]at b;exact b.symm
theorem O3.some {f:Nat}{s:ByteArray}{R:Option (Ty×List UInt8)}{q:Nat}{acc:List Ty}{b:Nat}{y:Ty}{r:List UInt8}(h:O3 f s R q acc b)(k:q<=s.size)(c:aJ f (s.data.toList.drop q)=some (y,r)):
 eR f s R (s.size-r.length) (acc++ [y]) b/\q<s.size-r.length/\s.size-r.length<=s.size:=by
 obtain⟨n,d,j⟩:=h;obtain⟨k1,k2⟩:=gA _ _ _ _ c;have i:(s.data.toList.drop q).length=s.size-q:=by simp
 rw[i]at j k2;rw[c]at d;have e:=(vd k k1).1;exact⟨⟨n,by rw[e];exact d,by rw[e];omega⟩,by omega,by omega⟩
def lf (s:ByteArray)(at_ k m:Nat):Prop:=hZ (s.data.toList.drop at_) 0=hZ (s.data.toList.drop k) m/\∀j,at_<=j->j<k->∃h:j<s.size,jn s[j]=true
theorem lf.start (s:ByteArray)(at_:Nat):lf s at_ at_ 0:=⟨rfl,by omega⟩
theorem lf.next {s:ByteArray}{at_ k m:Nat}(h:lf s at_ k m)(b:k<s.size)(hd:jn s[k]=true):lf s at_ (k+1) (fu m s[k]):=by
 refine⟨?_,fun j c d=> ?_⟩
 ·rw[h.1,drop_cons s k b,hZ,zi hd]
 by_cases e:j=k
 ·subst e;exact⟨b,hd⟩
 exact h.2 j c (by omega)
theorem od {s:ByteArray}{at_:Nat}(b:∀h:at_<s.size,jn s[at_]=false):cw (s.data.toList.drop at_)=none:=by
 by_cases h:at_<s.size
 ·rw[drop_cons s at_ h];simp[cw,b h]
 rw[zI (by simp;omega)];rfl
theorem oe {s:ByteArray}{at_ k m:Nat}(h:lf s at_ k m)(e:at_+1<k)(hz:∀h:at_<s.size,s[at_].toNat=48):cw (s.data.toList.drop at_)=none:=by
 obtain⟨b,d1⟩:=h.2 at_ (by omega) (by omega);obtain⟨c,d2⟩:=h.2 (at_+1) (by omega) e;have d:s[at_]=48:=zO.1 (hz b);rw[drop_cons s at_ b,drop_cons s (at_+1) c];simp[cw,d,ng,d2]
theorem kq {s:ByteArray}{at_ k m:Nat}(h:lf s at_ k m)(n:at_<k)(j:∀h:k<s.size,jn s[k]=false)(hz:at_+1<k->∀h:at_<s.size,s[at_].toNat≠48):cw (s.data.toList.drop at_)=some (m,s.data.toList.drop k):=by
 obtain⟨l,d1⟩:=h.2 at_ (by omega) n;have e:hZ (s.data.toList.drop k) m=(m,s.data.toList.drop k):=by
  by_cases b:k<s.size
  ·rw[drop_cons s k b,hZ,zh (by rw[j b];simp)]
  rw[zI (by simp;omega)];rfl
 have i:=h.1;rw[e]at i;rw[drop_cons s at_ l]at i⊢;rw[rH,zh (by simp[d1]),zh,i];rintro⟨c,hd⟩;have d:at_+1<k\/k=at_+1:=by omega
 rcases d with d|d
 ·exact hz d l (by rw[c];rfl)
 subst d;by_cases b:at_+1<s.size
 ·rw[drop_cons s (at_+1) b]at hd;simp[ng,j b]at hd
 rw[zI (by simp;omega)]at hd;simp[ng]at hd
theorem qg {s:ByteArray}{q n:Nat}{r:List UInt8}(c:q<=s.size)(h:cw (s.data.toList.drop q)=some (n,r)):s.data.toList.drop (s.size-r.length)=r/\q<s.size-r.length/\s.size-r.length<=s.size/\n<=10000100:=by
 obtain⟨d,b,e⟩:=rI h;obtain⟨k1,k2⟩:=vd c d;simp at b;exact⟨k1,by omega,by omega,e⟩
def gB :List UInt8->Bool
 | []=>false
 |b::_=>b==0
def Ty.at (t:Ty)(i:Nat):Ty:=(t.sub[if t.kind=4 then 0 else i]?).getD (.mk 0 0 [] 0)
def oJ (t:Ty)(tx:ByteArray)(l:Bool)(m:Nat):Bool:=
 if t.kind=1 then !l&&decide ((tx.size:Int)<=t.size)&& !gB tx.data.toList
 else if t.kind=2 then !l&&decide ((tx.size:Int)=t.size)
 else if t.kind=3 then !l&&decide ((tx.size:Int)<=t.size)
 else if t.kind=4 then l&&decide ((m:Int)<=t.size)
 else l&&decide (m<=t.sub.length)&&decide ((t.sub.length:Int)-t.tail<=m)
mutual
def It.dj :It->Ty->Bool
 | .mk tx l s,t=>oJ t tx l s.length&&cV s t 0
def cV :List It->Ty->Nat->Bool
 | [],_,_=>true
 |x::xs,t,i=>x.dj (t.at i)&&cV xs t (i+1)
end
theorem qh (a b:List It)(t:Ty)(i:Nat):cV (a++b) t i=(cV a t i&&cV b t (i+a.length)):=by
 induction a generalizing i with
 |nil=>simp[cV]
 |cons x xs ih=>simp only[zV,cV,ih,zw,Bool.and_assoc];rw[show i+1+xs.length=i+(xs.length+1)from by omega]
theorem pb {s:List It}{k:Nat}{t:Ty}(h:k<s.length):cV (s.take (k+1)) t 0=(cV (s.take k) t 0&&s[k].dj (t.at k)):=by
 rw[lS s k h,qh];simp[cV,yw (Yh h)]
theorem sN {s:List It}{k:Nat}{t:Ty}(h:k<s.length)(c:s[k].dj (t.at k)=false):cV s t 0=false:=by
 have b:=qh (s.take (k+1)) (s.drop (k+1)) t 0;rw[zJ,pb h,c]at b;simpa using b
def To (n:Nat):ByteArray:=⟨(List.replicate n 0).toArray⟩
mutual
def Ty.zero :Ty->It
 | .mk k s l t=>if k=2 then .mk (To s.toNat) false []else if k=4 then .mk ⟨#[]⟩ true []else if k=5 then .mk ⟨#[]⟩ true (Vn l ((l.length:Int)-t).toNat)else .mk ⟨#[]⟩ false []
def Vn :List Ty->Nat->List It
 | [],_=> []
 |_::_,0=> []
 |x::xs,n+1=>x.zero::Vn xs n
end
def Ty.kept (t:Ty):Nat:=if t.kind=5 then((t.sub.length:Int)-t.tail).toNat else 0
theorem O4 {t:Ty}(h:t.may=true):t.count<=64/\t.deep<=8/\t.right=true:=by
 unfold Ty.may at h;simp only[zx,zY]at h;exact⟨h.1.1,h.1.2,h.2⟩
theorem jM {k s:Int}{l:List Ty}{t:Int}(h:(Ty.mk k s l t).right=true):ga k s l.length t=true/\bM l=true:=by
 simpa only[Ty.right,zx]using h
theorem lT {k s:Int}{n:Nat}{t:Int}(h:ga k s n t=true):
 (k=1/\(s=1\/s=2\/s=4\/s=8)/\n=0/\t=0)\/(k=2/\1<=s/\s<=65536/\n=0/\t=0)\/(k=3/\0<=s/\s<=65536/\n=0/\t=0)\/(k=4/\0<=s/\s<=1024/\n=1/\t=0)\/(k=5/\s=0/\n<=16/\0<=t/\t<=n):=by
 unfold ga at h;split at h
 ·exact .inl ⟨by assumption,by simpa using h⟩
 split at h
 ·exact .inr (.inl ⟨by assumption,by simpa using h⟩)
 split at h
 ·exact .inr (.inr (.inl ⟨by assumption,by simpa using h⟩))
 split at h
 ·exact .inr (.inr (.inr (.inl ⟨by assumption,by simpa using h⟩)))
 split at h
 ·exact .inr (.inr (.inr (.inr ⟨by assumption,by simpa using h⟩)))
 cases h
mutual
def Ty.wide :Ty->Bool
 | .mk k s l _=>(decide (k=2)&&decide (3000<s))||Vo l
def Vo :List Ty->Bool
 | []=>false
 |x::xs=>x.wide||Vo xs
end
def eO (ty:Ty)(x:It):Int:=if ty.may&&x.may then(if x.dj ty then 0 else 12)else 1
