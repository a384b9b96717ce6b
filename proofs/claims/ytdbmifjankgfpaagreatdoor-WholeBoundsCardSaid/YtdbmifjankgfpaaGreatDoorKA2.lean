/- Texts and the lists of their bytes: small plain laws. No program in sight. -/
import Derived.Below
import Derived.Laws.Strings
import Derived.StillTail
set_option linter.all false
namespace Go.Proofs.YtdbmifjankgfpaaGreatDoor
variable {s:ByteArray}{k a x i f:Nat}{e d:Type}{out:List UInt8}{listed:Array Bool}{Q:Exit->Act->World->Prop}{w:World}
def zg:=@Nat.le_refl
def zh:=@if_neg
def zi:=@if_pos
def zl:=@List.length_append
def zp:=@List.eq_nil_of_length_eq_zero
def zw:=@List.getD_eq_getElem?_getD
def zx:=@List.length_cons
def zy:=@Bool.and_eq_true
def zz:=@List.take_of_length_le
def zB:=@List.getElem?_eq_getElem
def zE:=@List.append_assoc
def zI:=@List.take_append_drop
def zU:=@Nat.lt_of_lt_of_le
def zV:=@List.length_take
def zZ:=@List.take_append_of_le_length
def ya:=@List.cons_append
def yb:=@decide_eq_true_eq
def yg:=@Array.getElem?_eq_some_iff
def yh:=@Nat.add_assoc
def yn:=@List.take_succ_eq_append_getElem
def yo:=@List.getElem?_append_right
def yu:=@Nat.pow_le_pow_right
def yF:=@Nat.min_eq_left
def yK:=@List.drop_append_of_le_length
def yT:=@Bool.eq_iff_iff
def y8:=@List.getElem?_eq_none
def xe:=@List.mem_cons
def xf:=@Bool.eq_false_or_eq_true
def xj:=@decide_eq_false_iff_not
def xm:=@Nat.mod_lt
def xo:=@congrArg
def xr:=@Nat.two_pow_add_eq_or_of_lt
def xA:=@List.length_replicate
def xB:=@List.getElem?_append_left
def xC:=@List.drop_eq_getElem_cons
def xF:=@Ne.symm
def xG:=@Nat.lt_or_ge
def xJ:=@if_true
def xN:=@List.drop_drop
def xV:=@Nat.pow_add
def Zm:=@Nat.mul_comm
def Zo:=@List.mem_range
def Zt:=@mem_ready
def Zw:=@List.all_eq_true
def ZG:=@List.replicate_succ
def ZK:=@Nat.sub_self
def ZP:=@List.drop_take
def ZT:=@Array.getElem?_eq_getElem
def ZU:=@dif_pos
theorem aM {a b:ByteArray}(h:a.data.toList=b.data.toList):a=b:=by
 cases a;cases b;simp at h;simpa using h
theorem iP (s:ByteArray):(⟨s.data.toList.toArray⟩:ByteArray)=s:=aM (by simp)
theorem aa (s:ByteArray):s.data.toList.length=s.size:=by simp
theorem bP (l:List UInt8):(⟨l.toArray⟩:ByteArray).size=l.length:=by simp[ByteArray.size]
theorem bc (a b:ByteArray):(a++b).data.toList=a.data.toList++b.data.toList:=by
 rw[ByteArray.data_append];simp
theorem ar (s:ByteArray)(i j:Nat):(s.extract i j).data.toList=(s.data.toList.take j).drop i:=by
 rw[ByteArray.data_extract,Array.toList_extract,List.extract_eq_take_drop,ZP]
theorem an (s:ByteArray)(i j:Nat)(b:j<=s.size):(s.extract i j).size=j-i:=by
 rw[ByteArray.size_extract,yF b]
theorem bK (a b:ByteArray):(a++b).size=a.size+b.size:=ByteArray.size_append
theorem jC (s:ByteArray)(k:Nat)(h:k<s.size):s.data.toList.take (k+1)=s.data.toList.take k++ [s[k]]:=by
 rw[yn (by simpa using h)];rfl
theorem drop_cons (s:ByteArray)(k:Nat)(h:k<s.size):s.data.toList.drop k=s[k]::s.data.toList.drop (k+1):=by
 rw[xC (by simpa using h)];rfl
theorem length_take (s:ByteArray)(k:Nat)(h:k<=s.size):(s.data.toList.take k).length=k:=by
 rw[zV,yF (by simpa using h)]
theorem cT (s:ByteArray):s.data.toList.take s.size=s.data.toList:=zz (by simp)
theorem gR (s:ByteArray)(k:Nat)(h:k<s.size):s.data.toList[k]?=some s[k]:=by
 rw[zB (by simpa using h)];rfl
theorem tX (s:ByteArray):s.extract 0 s.size=s:=aM (by rw[ar,cT];simp)
theorem pL (s:ByteArray)(i a b:Nat)(c:i+b<=s.size):(s.extract i s.size).extract a b=s.extract (i+a) (i+b):=by
 apply aM;rw[ar,ar,ar,cT,List.take_drop,xN]
theorem gq (t:ByteArray):(t.size=0/\t=⟨#[]⟩)\/(t.size≠0/\t.toList.isEmpty=false/\(!t.toList.isEmpty)=true):=by
 by_cases h:t.size=0
 ·exact .inl ⟨h,aM (zp (by simpa using h))⟩
 refine .inr ⟨h, ?_, ?_⟩<;>rw[ByteArray.toList_eq]<;>cases h2:t.data.toList with
 |nil=>exact absurd (by rw[<-aa,h2];rfl) h
 |cons a b=>rfl
theorem eY (e:Int):(e=0/\(e==0)=true/\(e !=0)=false)\/(e≠0/\(e==0)=false/\(e !=0)=true):=by
 by_cases h:e=0
 ·exact .inl ⟨h,by simp[h],by simp[h]⟩
 exact .inr ⟨h,by simp[h],by simp[h]⟩
theorem Ee (a b:ByteArray):(a=b/\(a.toList==b.toList)=true/\(a.toList !=b.toList)=false)\/(a≠b/\(a.toList==b.toList)=false/\(a.toList !=b.toList)=true):=by
 by_cases h:a=b
 ·subst h;exact .inl ⟨rfl,by simp,by simp⟩
 have c:a.toList≠b.toList:=by
  intro e;rw[ByteArray.toList_eq,ByteArray.toList_eq]at e;exact h (aM e)
 exact .inr ⟨h,by simp[c],by simp[c]⟩
abbrev Nx (α:Type):=ByteArray->Int×α×Nat×Nat
structure kG {α:Type}(nx:Nx α):Prop where
 pos:∀s,(nx s).1=0->0<(nx s).2.2.1/\(nx s).2.2.1<=s.size
 ext:∀s t,(nx s).1≠2->nx (s++t)=nx s
 short:∀s,(nx s).1=2->(nx s).2.2.2=0
abbrev Va (α:Type):=List α×ByteArray×Nat×Int
def Va.cons {α:Type}(x:α)(m:Nat)(r:Va α):Va α:=(x::r.1,r.2.1,m+r.2.2.1,r.2.2.2)
def spl {α:Type}(nx:Nx α):Nat->ByteArray->Va α
 |0,s=>([],s,0,0)
 |f+1,s=>if(nx s).1=0 then(spl nx f (s.extract (nx s).2.2.1 s.size)).cons (nx s).2.1 (nx s).2.2.2 else([],s,(nx s).2.2.2,if(nx s).1=2 then 0 else(nx s).1)
def split {α:Type}(nx:Nx α)(s:ByteArray):Va α:=spl nx (s.size+1) s
theorem ig (s:ByteArray)(n:Nat)(h:0<n)(b:n<=s.size):(s.extract n s.size).size<s.size:=by rw[an _ _ _ (zg _)];omega
theorem Ef {c:Nx e}(h:kG c):∀(f g:Nat) (s:ByteArray),s.size<f->s.size<g->spl c f s=spl c g s
 |0,_,_,hf,_=>absurd hf (by omega)
 |_,0,_,_,hg=>absurd hg (by omega)
 |f+1,g+1,s,hf,hg=>by
  unfold spl;by_cases b:(c s).1=0
  ·rw[zi b,zi b];obtain⟨d,i⟩:=h.pos s b;have:=ig s _ d i;rw[Ef h f g _ (by omega) (by omega)]
  rw[zh b,zh b]
theorem dP {b:Nx e}(h:kG b)(s:ByteArray):split b s=if(b s).1=0 then(split b (s.extract (b s).2.2.1 s.size)).cons (b s).2.1 (b s).2.2.2 else([],s,(b s).2.2.2,if(b s).1=2 then 0 else(b s).1):=by
 rw[split,spl];by_cases c:(b s).1=0
 ·rw[zi c,zi c];obtain⟨d,i⟩:=h.pos s c;have:=ig s _ d i;rw[split,Ef h s.size _ _ (by omega) (Nat.lt_succ_self _)]
 rw[zh c,zh c]
theorem cU {c:Type}{b:Nx c}(h:kG b)(d:(b s).1=0):split b s=(split b (s.extract (b s).2.2.1 s.size)).cons (b s).2.1 (b s).2.2.2:=by rw[dP h s,zi d]
theorem dz {b:Nx d}(h:kG b)(c:(b s).1=2):split b s=([],s,0,0):=by
 rw[dP h s,zh (by omega),zi c,h.short s c]
theorem nT {b:Nx e}(h:kG b)(d:(b s).1≠0)(c:(b s).1≠2):split b s=([],s,(b s).2.2.2,(b s).1):=by
 rw[dP h s,zh d,zh c]
theorem dQ {α:Type}{nx:Nx α}(h:kG nx){p:ByteArray->Prop}(stop:∀s,(nx s).1≠0->p s)(go:∀s,(nx s).1=0->p (s.extract (nx s).2.2.1 s.size)->p s)(s:ByteArray):p s:=by
 suffices H:∀n (s:ByteArray),s.size<n->p s from H (s.size+1) s (Nat.lt_succ_self _)
 intro n;induction n with
 |zero=>intro s hs;omega
 |succ n ih=>
  intro s hs;by_cases h0:(nx s).1=0
  ·obtain⟨h1,h2⟩:=h.pos s h0;have:=ig s _ h1 h2;exact go s h0 (ih _ (by omega))
  exact stop s h0
theorem uB {b:Nx d}(h:kG b)(s:ByteArray):((split b s).2.2.2=0->(b (split b s).2.1).1=2)/\((split b s).2.2.2≠0->(b (split b s).2.1).1=(split b s).2.2.2/\(split b s).2.2.2≠2):=by
 induction s using dQ h with
 |stop s h0=>
  by_cases c:(b s).1=2
  ·rw[dz h c];exact⟨fun _=>c,fun h=>absurd rfl h⟩
  rw[nT h h0 c];exact⟨fun h=>absurd h h0,fun _=>⟨rfl,c⟩⟩
 |go s h0 ih=>rw[cU h h0];exact ih
theorem mn {c:Type}{b:Nx c}(h:kG b)(s:ByteArray):∃k,k<=s.size/\(split b s).2.1=s.extract k s.size:=by
 induction s using dQ h with
 |stop s h0=>
  refine⟨0,by omega, ?_⟩;rw[tX,dP h s,zh h0]
 |go s h0 ih=>
  obtain⟨k,j,e⟩:=ih;obtain⟨d,i⟩:=h.pos s h0;have hz:(s.extract (b s).2.2.1 s.size).size=s.size-(b s).2.2.1:=an _ _ _ (zg _);refine⟨(b s).2.2.1+k,by omega, ?_⟩;rw[cU h h0];show(split b (s.extract (b s).2.2.1 s.size)).2.1=_
  rw[e,hz,pL _ _ _ _ (by omega)];congr 1
  omega
theorem J4 (s t:ByteArray)(n:Nat)(h:n<=s.size):(s++t).extract n (s++t).size=s.extract n s.size++t:=by
 apply aM;rw[ar,bc,bc,ar,bK,cT];rw[zz (by rw[zl,aa,aa];omega),yK (by rw[aa];exact h)]
theorem uC {b:Nx e}(h:kG b)(s t:ByteArray):
 split b (s++t)=if(split b s).2.2.2=0 then((split b s).1++(split b ((split b s).2.1++t)).1,(split b ((split b s).2.1++t)).2.1,(split b s).2.2.1+(split b ((split b s).2.1++t)).2.2.1,(split b ((split b s).2.1++t)).2.2.2)
  else((split b s).1,(split b s).2.1++t,(split b s).2.2.1,(split b s).2.2.2):=by
 induction s using dQ h with
 |stop s h0=>
  by_cases c:(b s).1=2
  ·rw[dz h c];simp
  have d:=h.ext s t c;rw[nT h h0 c,zh h0,nT h (by rw[d];exact h0) (by rw[d];exact c),d]
 |go s h0 ih=>
  obtain⟨i,c⟩:=h.pos s h0;have d:=h.ext s t (by rw[h0];decide);rw[cU h (s:=s++t) (by rw[d];exact h0),cU h h0,d,J4 _ _ _ c,ih];unfold Va.cons;by_cases hz:(split b (s.extract (b s).2.2.1 s.size)).2.2.2=0
  ·rw[zi hz,zi hz];simp[yh]
  rw[zh hz,zh hz]
theorem uD {c:Type}{b:Nx c}(h:kG b)(s t:ByteArray)(d:(split b s).2.2.2=0):split b (s++t)=((split b s).1++(split b ((split b s).2.1++t)).1,(split b ((split b s).2.1++t)).2.1,(split b s).2.2.1+(split b ((split b s).2.1++t)).2.2.1,(split b ((split b s).2.1++t)).2.2.2):=by
 rw[uC h,zi d]
structure eZ where
 buf:ByteArray
 fault:Int
 laid:Nat
 told:Nat
def eZ.new :eZ:=⟨ByteArray.empty,0,0,0⟩
def iI {α:Type}(nx:Nx α)(x:eZ)(s:ByteArray):eZ×List α×Int:=
 if x.fault≠0 then({x with laid:=0},[],x.fault)
 else(⟨(split nx (x.buf++s)).2.1,(split nx (x.buf++s)).2.2.2,s.size+(split nx (x.buf++s)).2.2.1,x.told+(split nx (x.buf++s)).1.length⟩,(split nx (x.buf++s)).1,(split nx (x.buf++s)).2.2.2)
theorem cc {b:Type}{c:Nx b}{x:eZ}(h:x.fault≠0)(s:ByteArray):iI c x s=({x with laid:=0},[],x.fault):=by unfold iI;rw[zi h]
theorem dw {c:Type}{b:Nx c}{x:eZ}(h:x.fault=0)(s:ByteArray):iI b x s=(⟨(split b (x.buf++s)).2.1,(split b (x.buf++s)).2.2.2,s.size+(split b (x.buf++s)).2.2.1,x.told+(split b (x.buf++s)).1.length⟩,(split b (x.buf++s)).1,(split b (x.buf++s)).2.2.2):=by unfold iI;rw[zh (by simp[h])]
structure uE {α:Type}(nx:Nx α)(x:eZ)(s:ByteArray)(l:List α):Prop where
 fault:x.fault=0
 err:(split nx s).2.2.2=0
 buf:x.buf=(split nx s).2.1
 told:l=(split nx s).1
theorem uE.new {c:Type}{b:Nx c}(h:kG b)(d:(b ByteArray.empty).1=2):uE b eZ.new ByteArray.empty ([]:List c):=by
 have:=dz h d;exact⟨rfl,by rw[this],by rw[this];rfl,by rw[this]⟩
theorem uE.iI {c:Type}{b:Nx c}(h:kG b){x:eZ}{l:List c}(hx:uE b x s l)(t:ByteArray):
 (iI b x t).2.2=(split b (s++t)).2.2.2/\l++(iI b x t).2.1=(split b (s++t)).1/\(iI b x t).1.buf=(split b (s++t)).2.1/\((iI b x t).2.2=0->uE b (iI b x t).1 (s++t) (l++(iI b x t).2.1)):=by
 have e:=uD h s t hx.err;rw[dw hx.fault,hx.buf,e,hx.told];refine⟨rfl,rfl,rfl,fun d=>⟨d, ?_, ?_, ?_⟩⟩
 ·rw[e];exact d
 ·rw[e]
 rw[e]
def pM {α:Type}(nx:Nx α)(x:eZ):Prop:=x.fault=0->(nx x.buf).1=2
theorem pM.new {c:Type}{b:Nx c}(d:(b ByteArray.empty).1=2):pM b eZ.new:=fun _=>d
theorem pM.iI {c:Nx e}(h:kG c)(x:eZ)(s:ByteArray):pM c (iI c x s).1:=by
 by_cases b:x.fault=0
 ·rw[dw b];exact(uB h _).1
 rw[cc b];exact fun d=>absurd d b
def Wx {α:Type}(nx:Nx α):Nat->ByteArray->List (α×Nat)
 |0,_=> []
 |f+1,s=>if(nx s).1=0 then((nx s).2.1,(nx s).2.2.1)::Wx nx f (s.extract (nx s).2.2.1 s.size)else []
def SK {α:Type}(nx:Nx α)(s:ByteArray):List (α×Nat):=Wx nx (s.size+1) s
theorem Eg {c:Nx e}(h:kG c):∀(f g:Nat) (s:ByteArray),s.size<f->s.size<g->Wx c f s=Wx c g s
 |0,_,_,hf,_=>absurd hf (by omega)
 |_,0,_,_,hg=>absurd hg (by omega)
 |f+1,g+1,s,hf,hg=>by
  unfold Wx;by_cases b:(c s).1=0
  ·rw[zi b,zi b];obtain⟨d,i⟩:=h.pos s b;have:=ig s _ d i;rw[Eg h f g _ (by omega) (by omega)]
  rw[zh b,zh b]
theorem OM {b:Nx e}(h:kG b)(c:(b s).1=0):SK b s=((b s).2.1,(b s).2.2.1)::SK b (s.extract (b s).2.2.1 s.size):=by
 rw[SK,Wx,zi c];obtain⟨d,i⟩:=h.pos s c;have:=ig s _ d i;rw[SK,Eg h s.size _ _ (by omega) (Nat.lt_succ_self _)]
theorem Eh {c:Type}{b:Nx c}(d:(b s).1≠0):SK b s= []:=by rw[SK,Wx,zh d]
theorem Tf {c:Type}{b:Nx c}(h:kG b)(s:ByteArray):(SK b s).map Prod.fst=(split b s).1:=by
 induction s using dQ h with
 |stop s h0=>rw[Eh h0,dP h s,zh h0];rfl
 |go s h0 ih=>rw[OM h h0,cU h h0,List.map_cons,ih];rfl
def atL {α:Type}(l:List (α×Nat)):Nat:=(l.map Prod.snd).sum
theorem ON {b:Type}(l:List (b×Nat))(x:b×Nat):atL (x::l)=x.2+atL l:=by simp[atL]
theorem OO {c:Type}{b:Nx c}(h:kG b)(s:ByteArray):atL (SK b s)<=s.size/\(split b s).2.1=s.extract (atL (SK b s)) s.size/\(SK b s).length<=s.size:=by
 induction s using dQ h with
 |stop s h0=>
  rw[Eh h0,dP h s,zh h0];refine⟨by simp[atL], ?_,by simp⟩;show s=s.extract 0 s.size
  rw[tX]
 |go s h0 ih=>
  obtain⟨e,i⟩:=h.pos s h0;obtain⟨k1,k2,d⟩:=ih;have hz:(s.extract (b s).2.2.1 s.size).size=s.size-(b s).2.2.1:=an _ _ _ (zg _);rw[OM h h0,ON,cU h h0];refine⟨by simp only;omega, ?_,by rw[zx];omega⟩;show(split b (s.extract (b s).2.2.1 s.size)).2.1=_
  rw[k2,hz,pL _ _ _ _ (by omega)];congr 1
  omega
def dh :List UInt8->Nat
 | []=>0
 |b::t=>b.toNat+256*dh t
theorem jK (l:List UInt8):dh l<2^(8*l.length):=by
 induction l with
 |nil=>simp[dh]
 |cons b t ih=>
  have:=b.toNat_lt;rw[zx,show 8*(t.length+1)=8+8*t.length from by omega,xV];simp only[dh];omega
theorem G7 (l t:List UInt8):dh (l++t)=dh l+2^(8*l.length)*dh t:=by
 induction l with
 |nil=>simp[dh]
 |cons b r ih=>
  rw[ya,dh,dh,ih,zx,show 8*(r.length+1)=8+8*r.length from by omega,xV,Nat.mul_add,Nat.mul_assoc];omega
theorem OP (l:List UInt8)(b:UInt8):dh (l++ [b])=dh l+b.toNat*2^(8*l.length):=by
 rw[G7];simp[dh,Zm]
def lI (l:List UInt8):Nat:=dh l.reverse
theorem uF (l:List UInt8)(b:UInt8):lI (l++ [b])=256*lI l+b.toNat:=by
 simp[lI,dh];omega
theorem uG (l:List UInt8):lI l<2^(8*l.length):=by
 have:=jK l.reverse;simpa[lI]using this
theorem Vb (n b i:Nat)(c:n<2^(8*i)):n|||b*2^(8*i)=n+b*2^(8*i):=by
 rw[Nat.or_comm,Zm,<-xr c];omega
theorem le_pow (i:Nat)(hi:i<=8):2^(8*i)<=18446744073709551616:=by
 have:2^(8*i)<=2^64:=yu (by omega) (by omega);simpa using this
theorem le_step (n b i:Nat)(e:b<256)(h:n<2^(8*i)):n+b*2^(8*i)<2^(8*(i+1)):=by
 have d:2^(8*(i+1))=256*2^(8*i):=by rw[show 8*(i+1)=8+8*i from by omega,xV]
 have c:b*2^(8*i)<=255*2^(8*i):=Nat.mul_le_mul_right _ (by omega);omega
def cq (s:ByteArray):Nat->Nat->Nat->Nat×Nat×Int
 |0,_,_=>(0,0,2)
 |f+1,i,n=>if h:i<s.size then
  if(i=9/\1<s[i].toNat)\/(0<i/\s[i].toNat=0)then(0,0,3)
  else if s[i].toNat<128 then(n+s[i].toNat%128*2^(7*i),i+1,0)
  else cq s f (i+1) (n+s[i].toNat%128*2^(7*i))
  else(0,0,2)
def ay (s:ByteArray):Nat×Nat×Int:=cq s 10 0 0
theorem jD (s:ByteArray)(f i n:Nat)(h:¬i<s.size):cq s f i n=(0,0,2):=by
 cases f<;>simp[cq,h]
theorem kW (s:ByteArray)(f i n:Nat)(h:i<s.size)(b:(i=9/\1<s[i].toNat)\/(0<i/\s[i].toNat=0)):cq s (f+1) i n=(0,0,3):=by
 rw[cq,ZU h,zi b]
theorem ij (s:ByteArray)(f i n:Nat)(h:i<s.size)(b:¬((i=9/\1<s[i].toNat)\/(0<i/\s[i].toNat=0)))(c:s[i].toNat<128):
 cq s (f+1) i n=(n+s[i].toNat%128*2^(7*i),i+1,0):=by
 rw[cq,ZU h,zh b,zi c]
theorem ik (s:ByteArray)(f i n:Nat)(h:i<s.size)(b:¬((i=9/\1<s[i].toNat)\/(0<i/\s[i].toNat=0)))(c:¬s[i].toNat<128):
 cq s (f+1) i n=cq s f (i+1) (n+s[i].toNat%128*2^(7*i)):=by
 rw[cq,ZU h,zh b,zh c]
theorem uH (n b i:Nat)(h:n<2^(7*i)):n+b%128*2^(7*i)<2^(7*(i+1)):=by
 have c:b%128<=127:=by omega
 have d:2^(7*(i+1))=128*2^(7*i):=by rw[show 7*(i+1)=7+7*i from by omega,xV]
 have e:b%128*2^(7*i)<=127*2^(7*i):=Nat.mul_le_mul_right _ c;omega
theorem J5 (i:Nat)(hi:i<=9):2^(7*i)<=9223372036854775808:=by
 have:2^(7*i)<=2^63:=yu (by omega) (by omega);simpa using this
theorem Ei (n b i:Nat)(hi:i<=9)(d:n<2^(7*i))(j:¬((i=9/\1<b)\/(0<i/\b=0))):n+b%128*2^(7*i)<18446744073709551616:=by
 rcases xG i 9 with h|h
 ·have e:=uH n b i d;have c:=J5 (i+1) (by omega);omega
 obtain rfl:i=9:=by omega
 have c:b%128<=1:=by omega
 omega
theorem Wy (n b i:Nat)(c:n<2^(7*i)):n|||(b%128)*2^(7*i)=n+b%128*2^(7*i):=by
 rw[Nat.or_comm,Zm,<-xr c];omega
theorem OQ (s:ByteArray)(f i n:Nat)(hi:i+f=10)(e:n<2^(7*i))(h:(cq s f i n).2.2=0):
 i<(cq s f i n).2.1/\(cq s f i n).2.1<=10/\(cq s f i n).2.1<=s.size/\(cq s f i n).1<18446744073709551616:=by
 induction f generalizing i n with
 |zero=>simp[cq]at h
 |succ f ih=>
  by_cases c:i<s.size
  ·by_cases b:(i=9/\1<s[i].toNat)\/(0<i/\s[i].toNat=0)
   ·rw[kW s f i n c b]at h;simp at h
   by_cases d:s[i].toNat<128
   ·rw[ij s f i n c b d];exact⟨by simp,by simp;omega,by simp;omega,Ei n _ i (by omega) e b⟩
   rw[ik s f i n c b d]at h⊢;have:=ih (i+1) _ (by omega) (uH n _ i e) h;omega
  rw[jD s _ i n c]at h;simp at h
theorem il (s:ByteArray)(h:(ay s).2.2=0):0<(ay s).2.1/\(ay s).2.1<=10/\(ay s).2.1<=s.size/\(ay s).1<18446744073709551616:=
 OQ s 10 0 0 rfl (by simp) h
theorem LS (s:ByteArray)(f i n:Nat)(h:(cq s f i n).2.2≠0):(cq s f i n).1=0/\(cq s f i n).2.1=0/\((cq s f i n).2.2=2\/(cq s f i n).2.2=3):=by
 induction f generalizing i n with
 |zero=>simp[cq]
 |succ f ih=>
  by_cases b:i<s.size
  ·by_cases c:(i=9/\1<s[i].toNat)\/(0<i/\s[i].toNat=0)
   ·rw[kW s f i n b c];simp
   by_cases d:s[i].toNat<128
   ·rw[ij s f i n b c d]at h;simp at h
   rw[ik s f i n b c d]at h⊢;exact ih _ _ h
  rw[jD s _ i n b];simp
def tY (out:List UInt8)(back:Nat):Nat->List UInt8
 |0=>out
 |n+1=>tY (out++ [out.getD (out.length-back) 0]) back n
theorem uI (out:List UInt8)(b n:Nat):(tY out b n).length=out.length+n:=by
 induction n generalizing out with
 |zero=>rfl
 |succ n ih=>rw[tY,ih];simp;omega
theorem J6 (out:List UInt8)(b m n:Nat):tY out b (m+n)=tY (tY out b m) b n:=by
 induction m generalizing out with
 |zero=>simp[tY]
 |succ m ih=>rw[show m+1+n=(m+n)+1 from by omega,tY,tY,ih]
theorem Ej (out:List UInt8)(b n:Nat):tY out b (n+1)=tY out b n++ [(tY out b n).getD ((tY out b n).length-b) 0]:=by
 rw[J6];rfl
theorem LU (out:List UInt8)(b m:Nat)(d:m<=b)(e:b<=out.length):tY out b m=out++(out.drop (out.length-b)).take m:=by
 induction m with
 |zero=>simp[tY]
 |succ m ih=>
  rw[Ej,ih (by omega)];have c:(out++(out.drop (out.length-b)).take m).length=out.length+m:=by simp;omega
  rw[c,zE];congr 1
  rw[yn (by simp;omega)];congr 1
  rw[zw,xB (by omega),List.getElem_drop,zB (by omega)];simp;congr 1
  omega
def bh (b:Nat):Nat:=if b%4=0 then(if 60<=b/4 then b/4-58 else 1)else if b%4=1 then 2 else if b%4=2 then 3 else 5
theorem Bw (b:Nat)(c:b<256):1<=bh b/\bh b<=5:=by
 unfold bh;split<;>(try split)<;>(try split)<;>omega
def cR (b l:Nat):Nat:=if b%4=0 then(if 60<=b/4 then l+1 else b/4+1)else if b%4=1 then 4+b/4%8 else b/4+1
def kh (b l:Nat):Nat:=if b%4=1 then b/4/8*256+l else l
def iQ (s:ByteArray)(k b:Nat):Nat:=dh (s.extract (k+1) (k+bh b)).data.toList
def bX (s:ByteArray)(size k b:Nat)(out:List UInt8):Int×Nat×List UInt8:=
 if s.size<k+bh b then(2,k,out)
 else if(b%4≠0/\(kh b (iQ s k b)=0\/out.length<kh b (iQ s k b)))\/size-out.length<cR b (iQ s k b)then(3,k,out)
 else if b%4=0 then
  if s.size<k+bh b+cR b (iQ s k b)then(2,k,out)
  else(0,k+bh b+cR b (iQ s k b),out++(s.extract (k+bh b) (k+bh b+cR b (iQ s k b))).data.toList)
 else(0,k+bh b,tY out (kh b (iQ s k b)) (cR b (iQ s k b)))
def fR (s:ByteArray)(size:Nat):Nat->Nat->List UInt8->Int×List UInt8
 |0,_,_=>(2,[])
 |f+1,k,out=>if h:k<s.size then
  if(bX s size k s[k].toNat out).1=0 then fR s size f (bX s size k s[k].toNat out).2.1 (bX s size k s[k].toNat out).2.2
  else((bX s size k s[k].toNat out).1,[])
  else if out.length<size then(2,[])else(0,out)
def jf (s:ByteArray)(size:Nat):Int×List UInt8:=fR s size (s.size+1) 0 []
def aB (s:ByteArray):Nat×Nat×Int:=
 if(ay s).2.2=0 then(if 4294967295<(ay s).1 then(0,0,5)else ay s)else(0,0,(ay s).2.2)
def aY (s:ByteArray)(most:Int):Int×List UInt8:=
 if(aB s).2.2≠0 then((aB s).2.2,[])
 else if most<(aB s).1 then(5,[])
 else jf (s.extract (aB s).2.1 s.size) (aB s).1
theorem OR {size b:Nat}(j:b<256)(n:k<s.size)(l:out.length<=size)(h:(bX s size k b out).1=0):
 k<(bX s size k b out).2.1/\(bX s size k b out).2.1<=s.size/\(bX s size k b out).2.2.length<=size:=by
 have m:=Bw b j;unfold bX at h⊢;split at h<;>rename_i c
 ·simp at h
 split at h<;>rename_i d
 ·simp at h
 split at h<;>rename_i e
 ·split at h<;>rename_i i
  ·simp at h
  rw[zh c,zh d,zi e,zh i];refine⟨by simp;omega,by simp;omega, ?_⟩;rw[zl,aa,an _ _ _ (by omega)];omega
 rw[zh c,zh d,zh e];refine⟨by simp;omega,by simp;omega, ?_⟩;rw[uI];omega
theorem LV {size:Nat}{x:Int×List UInt8}(b:k<s.size)(hx:fR s size (f+1) k out=x)(h:(bX s size k s[k].toNat out).1=0):
 fR s size f (bX s size k s[k].toNat out).2.1 (bX s size k s[k].toNat out).2.2=x:=by
 rw[<-hx,fR,ZU b,zi h]
theorem OS {size:Nat}{x:Int×List UInt8}(b:k<s.size)(hx:fR s size (f+1) k out=x)(h:(bX s size k s[k].toNat out).1≠0):
 x=((bX s size k s[k].toNat out).1,[]):=by
 rw[<-hx,fR,ZU b,zh h]
theorem Ek {size:Nat}{x:Int×List UInt8}(b:¬k<s.size)(hx:fR s size (f+1) k out=x):x=if out.length<size then(2,[])else(0,out):=by
 rw[<-hx,fR,dif_neg b]
def iR (x n:Nat):Nat:=x/2^n|||x*2^(32-n)%4294967296
def sg0 (x:Nat):Nat:=iR x 7^^^iR x 18^^^x/2^3
def sg1 (x:Nat):Nat:=iR x 17^^^iR x 19^^^x/2^10
def Sg0 (x:Nat):Nat:=iR x 2^^^iR x 13^^^iR x 22
def Sg1 (x:Nat):Nat:=iR x 6^^^iR x 11^^^iR x 25
def El (e f g:Nat):Nat:=e&&&f|||(e^^^4294967295)&&&g
def uJ (a b c:Nat):Nat:=a&&&b|||a&&&c|||b&&&c
theorem Wz {n:Nat}:n<4294967296↔n<2^32:=by simp
theorem tZ {b:Nat}(d:a<4294967296)(c:b<4294967296):a|||b<4294967296:=by
 rw[Wz]at*;exact Nat.or_lt_two_pow d c
theorem eE {b:Nat}(c:a<4294967296):a&&&b<4294967296:=Nat.lt_of_le_of_lt Nat.and_le_left c
theorem dB {b:Nat}(d:a<4294967296)(c:b<4294967296):a^^^b<4294967296:=by
 rw[Wz]at*;exact Nat.xor_lt_two_pow d c
theorem mT (n:Nat)(b:a<4294967296):a/2^n<4294967296:=Nat.lt_of_le_of_lt (Nat.div_le_self _ _) b
theorem ey (n:Nat)(h:x<4294967296):iR x n<4294967296:=tZ (mT n h) (xm _ (by omega))
theorem afv (h:x<4294967296):sg0 x<4294967296:=dB (dB (ey _ h) (ey _ h)) (mT _ h)
theorem afw (h:x<4294967296):sg1 x<4294967296:=dB (dB (ey _ h) (ey _ h)) (mT _ h)
theorem afx (h:x<4294967296):Sg0 x<4294967296:=dB (dB (ey _ h) (ey _ h)) (ey _ h)
theorem afy (h:x<4294967296):Sg1 x<4294967296:=dB (dB (ey _ h) (ey _ h)) (ey _ h)
theorem aeA {e g:Nat}(b:e<4294967296):El e f g<4294967296:=tZ (eE b) (eE (dB b (by omega)))
theorem abB {b c:Nat}(d:a<4294967296)(e:b<4294967296):uJ a b c<4294967296:=tZ (tZ (eE d) (eE d)) (eE e)
theorem OT (e f g:Nat)(b:e<4294967296):e&&&f^^^(e^^^4294967295)&&&g=El e f g:=by
 apply Nat.eq_of_testBit_eq;intro i;have h:Nat.testBit 4294967295 i=decide (i<32):=by
  have:=Nat.testBit_two_pow_sub_one 32 i;simpa using this
 unfold El;simp only[Nat.testBit_xor,Nat.testBit_and,Nat.testBit_or,h];by_cases hi:i<32
 ·simp only[hi,decide_true];cases Nat.testBit e i<;>cases Nat.testBit f i<;>cases Nat.testBit g i<;>rfl
 have c:Nat.testBit e i=false:=Nat.testBit_lt_two_pow (zU (Wz.1 b) (yu (by omega) (by omega)));simp[hi,c]
theorem LW (a b c:Nat):(a&&&b^^^a&&&c)^^^b&&&c=uJ a b c:=by
 apply Nat.eq_of_testBit_eq;intro i;unfold uJ;simp only[Nat.testBit_xor,Nat.testBit_and,Nat.testBit_or];cases Nat.testBit a i<;>cases Nat.testBit b i<;>cases Nat.testBit c i<;>rfl
def mU (s:ByteArray)(i:Nat):Nat:=(s.data.toList.getD (4*i) 0).toNat*16777216+(s.data.toList.getD (4*i+1) 0).toNat*65536+(s.data.toList.getD (4*i+2) 0).toNat*256+(s.data.toList.getD (4*i+3) 0).toNat
theorem Bx (s:ByteArray)(i:Nat):mU s i<4294967296:=by
 have c:=(s.data.toList.getD (4*i) 0).toNat_lt;have d:=(s.data.toList.getD (4*i+1) 0).toNat_lt;have e:=(s.data.toList.getD (4*i+2) 0).toNat_lt;have b:=(s.data.toList.getD (4*i+3) 0).toNat_lt;unfold mU;omega
def By (s:ByteArray)(l:List Nat)(i:Nat):Nat:=
 if i<16 then mU s i else(l.getD (i-16) 0+sg0 (l.getD (i-15) 0)+l.getD (i-7) 0+sg1 (l.getD (i-2) 0))%4294967296
def sched (s:ByteArray):Nat->List Nat
 |0=> []
 |i+1=>sched s i++ [By s (sched s i) i]
theorem jq (s:ByteArray)(i:Nat):(sched s i).length=i:=by
 induction i with
 |zero=>rfl
 |succ i ih=>simp[sched,ih]
theorem OU (s:ByteArray)(l:List Nat)(i:Nat):By s l i<4294967296:=by
 unfold By;split
 ·exact Bx s i
 exact xm _ (by omega)
theorem dR (s:ByteArray)(i j:Nat)(h:j<i):(sched s i).getD j 0=By s (sched s j) j:=by
 induction i with
 |zero=>omega
 |succ i ih=>
  rw[sched,zw];by_cases b:j<i
  ·rw[xB (by rw[jq];exact b),<-zw];exact ih b
  obtain rfl:j=i:=by omega
  rw[yo (by rw[jq];exact zg _),jq,ZK];rfl
theorem OV (s:ByteArray)(i j:Nat):(sched s i).getD j 0<4294967296:=by
 by_cases h:j<i
 ·rw[dR s i j h];exact OU _ _ _
 rw[zw,y8 (by rw[jq];omega)];simp
def mF (s:ByteArray)(i:Nat):Nat:=(sched s 64).getD i 0
theorem OW (s:ByteArray)(i:Nat):mF s i<4294967296:=OV s 64 i
theorem Bz (s:ByteArray)(i:Nat)(h:i<16):mF s i=mU s i:=by
 unfold mF;rw[dR s 64 i (by omega),By,zi h]
theorem Tg (s:ByteArray)(i:Nat)(h:16<=i)(b:i<64):mF s i=(mF s (i-16)+sg0 (mF s (i-15))+mF s (i-7)+sg1 (mF s (i-2)))%4294967296:=by
 unfold mF;rw[dR s 64 i b,By,zh (by omega),dR s 64 (i-16) (by omega),dR s 64 (i-15) (by omega),dR s 64 (i-7) (by omega),dR s 64 (i-2) (by omega),
  dR s i (i-16) (by omega),dR s i (i-15) (by omega),dR s i (i-7) (by omega),dR s i (i-2) (by omega)]
structure Sh where
 a:Nat
 b:Nat
 c:Nat
 d:Nat
 e:Nat
 f:Nat
 g:Nat
 h:Nat
structure Sh.ok (s:Sh):Prop where
 a:s.a<4294967296
 b:s.b<4294967296
 c:s.c<4294967296
 d:s.d<4294967296
 e:s.e<4294967296
 f:s.f<4294967296
 g:s.g<4294967296
 h:s.h<4294967296
def shP (k w:Nat)(s:Sh):Nat:=(s.h+Sg1 s.e+k+w+El s.e s.f s.g)%4294967296
def shQ (s:Sh):Nat:=(Sg0 s.a+uJ s.a s.b s.c)%4294967296
def CC (k w:Nat)(s:Sh):Sh:=⟨(shP k w s+shQ s)%4294967296,s.a,s.b,s.c,(s.d+shP k w s)%4294967296,s.e,s.f,s.g⟩
theorem LY (k w:Nat){s:Sh}(h:s.ok):(CC k w s).ok:=⟨xm _ (by omega),h.a,h.b,h.c,xm _ (by omega),h.e,h.f,h.g⟩
def fS (K:List Nat)(blk:ByteArray):Nat->Sh->Sh
 |0,s=>s
 |i+1,s=>CC (K.getD i 0) (mF blk i) (fS K blk i s)
theorem sH (K:List Nat)(blk:ByteArray)(i:Nat){s:Sh}(h:s.ok):(fS K blk i s).ok:=by
 induction i with
 |zero=>exact h
 |succ i ih=>exact LY _ _ ih
def Vc (s t:Sh):Sh:=⟨(s.a+t.a)%4294967296,(s.b+t.b)%4294967296,(s.c+t.c)%4294967296,(s.d+t.d)%4294967296,(s.e+t.e)%4294967296,(s.f+t.f)%4294967296,(s.g+t.g)%4294967296,(s.h+t.h)%4294967296⟩
def pN (K:List Nat)(s:Sh)(blk:ByteArray):Sh:=Vc s (fS K blk 64 s)
theorem OX (K:List Nat)(s:Sh)(blk:ByteArray):(pN K s blk).ok:=⟨xm _ (by omega),xm _ (by omega),xm _ (by omega),xm _ (by omega),xm _ (by omega),xm _ (by omega),xm _ (by omega),xm _ (by omega)⟩
def fa (blk:ByteArray)(k j:Nat):Nat:=if j<k then mF blk (j+16*((k-1-j)/16))else 0
theorem km (blk:ByteArray)(k d:Nat)(h:16<=k)(hd:d<16):fa blk k ((k+d)%16)=mF blk (k-16+d):=by
 unfold fa;rw[zi (by omega),show(k+d)%16+16*((k-1-(k+d)%16)/16)=k-16+d from by omega]
theorem uK (blk:ByteArray)(k:Nat):fa blk (k+1) (k%16)=mF blk k:=by
 unfold fa;rw[zi (by omega),show k%16+16*((k+1-1-k%16)/16)=k from by omega]
theorem CD (blk:ByteArray)(k j:Nat)(c:j<16)(b:j≠k%16):fa blk (k+1) j=fa blk k j:=by
 unfold fa;by_cases h:j<k
 ·rw[zi (by omega),zi h,show(k+1-1-j)/16=(k-1-j)/16 from by omega]
 rw[zh (by omega),zh h]
def Em (p d:Nat):Nat->Nat->Nat
 |0,x=>x
 |n+1,x=>Em p d n (if(x+2^n)^d/65536^(2*d)<p then x+2^n else x)
def abC (p d:Nat):Nat:=Em p d 36 0%4294967296
def abD (p n:Nat):Bool:=(List.range n).all fun d=>decide (d<2)||decide (0<p%d)
def uL :Nat->List Nat
 |0=> []
 |p+1=>if 2<=p/\abD p p=true then uL p++ [p]else uL p
def LZ :List Nat:=uL 312
def uM :List Nat:=LZ.map (abC · 3)
def G8 :List Nat:= [0x428a2f98,0x71374491,0xb5c0fbcf,0xe9b5dba5,0x3956c25b,0x59f111f1,0x923f82a4,0xab1c5ed5,0xd807aa98,0x12835b01,0x243185be,0x550c7dc3,0x72be5d74,0x80deb1fe,0x9bdc06a7,0xc19bf174,
 0xe49b69c1,0xefbe4786,0x0fc19dc6,0x240ca1cc,0x2de92c6f,0x4a7484aa,0x5cb0a9dc,0x76f988da,0x983e5152,0xa831c66d,0xb00327c8,0xbf597fc7,0xc6e00bf3,0xd5a79147,0x06ca6351,0x14292967,
 0x27b70a85,0x2e1b2138,0x4d2c6dfc,0x53380d13,0x650a7354,0x766a0abb,0x81c2c92e,0x92722c85,0xa2bfe8a1,0xa81a664b,0xc24b8b70,0xc76c51a3,0xd192e819,0xd6990624,0xf40e3585,0x106aa070,
 0x19a4c116,0x1e376c08,0x2748774c,0x34b0bcb5,0x391c0cb3,0x4ed8aa4a,0x5b9cca4f,0x682e6ff3,0x748f82ee,0x78a5636f,0x84c87814,0x8cc70208,0x90befffa,0xa4506ceb,0xbef9a3f7,0xc67178f2]
theorem CE :uM=G8:=by decide+kernel
def fH (v:Sh)(s:ByteArray):Nat->Sh
 |0=>v
 |i+1=>pN uM (fH v s i) (s.extract (64*i) (64*i+64))
theorem En {v:Sh}(h:v.ok)(s:ByteArray):∀i,(fH v s i).ok
 |0=>h
 |i+1=>OX _ _ _
theorem CF (s p:ByteArray)(a b:Nat)(h:b<=s.size):(s++p).extract a b=s.extract a b:=by
 apply aM;rw[ar,ar,bc,zZ (by simpa using h)]
theorem uN (v:Sh)(s p:ByteArray):∀i,64*i<=s.size->fH v (s++p) i=fH v s i
 |0,_=>rfl
 |i+1,h=>by
  rw[fH,fH,uN v s p i (by omega),CF s p _ _ (by omega)]
theorem BA (v:Sh)(t:ByteArray)(a:Nat):∀b,64*(a+b)<=t.size->fH v t (a+b)=fH (fH v t a) (t.extract (64*a) t.size) b
 |0,_=>rfl
 |b+1,h=>by
  rw[<-yh,fH,fH,BA v t a b (by omega),pL t _ _ _ (by omega)];rw[show 64*a+64*b=64*(a+b)from by omega,show 64*a+(64*b+64)=64*(a+b)+64 from by omega]
def dS (n:Nat):Nat:=(64-(n+9)%64)%64
def fM (m:Nat):List UInt8:=(List.range 8).map fun j=>UInt8.ofNat (m/2^(56-8*j))
theorem iJ (m:Nat):(fM m).length=8:=by simp[fM]
theorem Eo (m i:Nat)(h:i<8):(fM m).take (i+1)=(fM m).take i++ [UInt8.ofNat (m/2^(56-8*i))]:=by
 rw[yn (by rw[iJ];exact h)];congr 2
 simp[fM]
def G9 (n:Nat):List UInt8:=128::List.replicate (dS n) 0++fM (n*8)
def iS (n:Nat):ByteArray:=⟨(G9 n).toArray⟩
theorem As (n:Nat):(G9 n).length=dS n+9:=by simp[G9,iJ]
theorem o4 (n:Nat):(iS n).size=dS n+9:=by rw[iS,bP,As]
theorem sI (n:Nat):dS n<64:=xm _ (by omega)
theorem pO (n:Nat):(n+(dS n+9))%64=0:=by unfold dS;omega
def DX :Sh:=⟨0x6a09e667,0xbb67ae85,0x3c6ef372,0xa54ff53a,0x510e527f,0x9b05688c,0x1f83d9ab,0x5be0cd19⟩
theorem WA :DX.ok:=⟨by decide,by decide,by decide,by decide,by decide,by decide,by decide,by decide⟩
def wB (x:Nat):List UInt8:= [UInt8.ofNat (x/16777216),UInt8.ofNat (x/65536),UInt8.ofNat (x/256),UInt8.ofNat x]
def Sh.list (v:Sh):List Nat:= [v.a,v.b,v.c,v.d,v.e,v.f,v.g,v.h]
def Ep (v:Sh):List UInt8:=(v.list.map wB).flatten
def G' (n:Nat)(v:Sh):List UInt8:=((v.list.take n).map wB).flatten
theorem BB (v:Sh)(i:Nat)(h:i<8):G' (i+1) v=G' i v++wB (v.list.getD i 0):=by
 unfold G';have b:i<v.list.length:=h;rw[yn b,List.map_append,List.flatten_append,zw,zB b];simp
theorem WB (v:Sh):G' 8 v=Ep v:=rfl
theorem sJ (v:Sh)(i:Nat)(h:i<=8):(G' i v).length=4*i:=by
 induction i with
 |zero=>rfl
 |succ i ih=>rw[BB v i (by omega),zl,ih (by omega)];simp[wB];omega
theorem CG (v:Sh):(Ep v).length=32:=sJ v 8 (zg _)
def Ha (s:ByteArray):Sh:=fH DX (s++iS s.size) ((s++iS s.size).size/64)
def tD (s:ByteArray):ByteArray:=⟨(Ep (Ha s)).toArray⟩
theorem BC (s:ByteArray):(tD s).size=32:=by rw[tD,bP,CG]
theorem Hb (s:ByteArray)(r:ByteArray)(b:r=s.extract (64*(s.size/64)) s.size++iS s.size):Ha s=fH (fH DX s (s.size/64)) r (r.size/64):=by
 have hz:(s++iS s.size).size=s.size+(dS s.size+9):=by rw[bK,o4]
 have e:=pO s.size;have h:r.size=s.size-64*(s.size/64)+(dS s.size+9):=by rw[b,bK,o4,an _ _ _ (zg _)]
 have c:r=(s++iS s.size).extract (64*(s.size/64)) (s++iS s.size).size:=by
  rw[b];apply aM;rw[bc,ar,ar,cT,cT,bc,yK (by simp;omega)]
 have d:(s++iS s.size).size/64=s.size/64+r.size/64:=by omega
 unfold Ha;rw[d,BA _ _ _ _ (by omega),<-c,uN _ _ _ _ (by omega)]
def Hd (s:ByteArray):ByteArray:=tD (tD s)
def eT (s:ByteArray):ByteArray:=(Hd s).extract 0 4
theorem BD (s:ByteArray):(Hd s).size=32:=BC _
theorem lJ (s:ByteArray):(eT s).size=4:=by rw[eT,an _ _ _ (by rw[BD];omega)]
def oG (b:Nat):Bool:=decide ((97<=b/\b<=122)\/(48<=b/\b<=57)\/b=95)
def iT (l:List UInt8):Bool:=l.all fun b=>oG b.toNat
def cd (s:ByteArray):Bool:=iT s.data.toList&&(decide (1<=s.size)&&decide (s.size<=12))
def fc (s:ByteArray):ByteArray:=⟨(s.data.toList++List.replicate (12-s.size) 0).toArray⟩
def rC (l:List UInt8):List UInt8:=(l.reverse.dropWhile (· ==0)).reverse
def dj (s:ByteArray):ByteArray:=⟨(rC s.data.toList).toArray⟩
def da (s:ByteArray):Int×ByteArray:=if s.size=12/\cd (dj s)=true then(0,dj s)else(3,ByteArray.empty)
theorem uO (l:List UInt8)(b:UInt8):iT (l++ [b])=(iT l&&oG b.toNat):=by simp[iT]
theorem At (l:List UInt8)(k:Nat)(h:iT (l.take k)=false):iT l=false:=by
 simp only[iT,List.all_eq_false]at h⊢;obtain⟨x,hx,b⟩:=h;exact⟨x,List.mem_of_mem_take hx,b⟩
theorem BE (b:Nat)(c:b<256):(oG b=false/\(b<48\/(57<b/\b<95)\/(95<b/\b<97)\/122<b)/\b≠95)\/(oG b=true/\((48<=b/\b<=57)\/(b=95)\/(97<=b/\b<=122))):=by
 rcases xf (oG b)with h|h
 ·right;refine⟨h, ?_⟩;simp only[oG,yb]at h;omega
 left;refine⟨h, ?_⟩;simp only[oG,xj]at h;omega
theorem dE (h:cd s=true):1<=s.size/\s.size<=12:=by
 simp only[cd,zy,yb]at h;exact h.2
theorem pP (h:s.size<1\/12<s.size):cd s=false:=by
 rcases xf (cd s)with h1|h1
 ·have:=dE h1;omega
 exact h1
theorem OY (b:1<=s.size)(c:s.size<=12):cd s=iT s.data.toList:=by simp[cd,b,c]
theorem lK (s:ByteArray):(fc s).data.toList=s.data.toList++List.replicate (12-s.size) 0:=by simp[fc]
theorem im (s:ByteArray)(h:s.size<=12):(fc s).size=12:=by
 rw[<-aa,lK];simp;omega
theorem OZ (l:List UInt8)(n:Nat)(h:∀b∈l,b≠0):rC (l++List.replicate n 0)=l:=by
 unfold rC;rw[List.reverse_append,List.reverse_replicate];have c:∀m:Nat,(List.replicate m (0:UInt8)++l.reverse).dropWhile (· ==0)=l.reverse.dropWhile (· ==0):=by
  intro m;induction m with
  |zero=>simp
  |succ m ih=>simp[ZG,ih]
 rw[c];have d:l.reverse.dropWhile (· ==0)=l.reverse:=by
  cases hl:l.reverse with
  |nil=>simp
  |cons x xs=>
   have hx:x∈l:=by rw[<-List.mem_reverse,hl];simp
   have:=h x hx;simp[this]
 rw[d,List.reverse_reverse]
theorem BF (l:List UInt8):∃n,l=rC l++List.replicate n 0:=by
 unfold rC;have h:∀m:List UInt8,∃n,m=List.replicate n 0++m.dropWhile (· ==0):=by
  intro m;induction m with
  |nil=>exact⟨0,by simp⟩
  |cons x xs ih=>
   by_cases hx:x=0
   ·obtain⟨n,b⟩:=ih;refine⟨n+1, ?_⟩;subst hx;simp only[ZG,ya];rw[List.dropWhile_cons];simp only[beq_self_eq_true,xJ];rw[<-b]
   exact⟨0,by simp[hx]⟩
 obtain⟨n,b⟩:=h l.reverse;refine⟨n, ?_⟩;have:=xo List.reverse b;rw[List.reverse_reverse,List.reverse_append,List.reverse_replicate]at this;exact this
theorem Th (s:ByteArray)(h:cd s=true):∀b∈s.data.toList,b≠0:=by
 intro b c d;simp only[cd,zy,iT,Zw]at h;have:=h.1 b c;subst d;simp[oG]at this
theorem L3 (s:ByteArray)(h:cd s=true):dj (fc s)=s:=by
 apply aM;simp only[dj];rw[lK,OZ _ _ (Th s h)]
theorem BG (s:ByteArray)(h:cd s=true):da (fc s)=(0,s):=by
 have b:=im s (dE h).2;simp[da,b,L3 s h,h]
theorem Er (s:ByteArray)(h:s.size≠12):da s=(3,ByteArray.empty):=by simp[da,h]
theorem L5 (s t:ByteArray)(h:da s=(0,t)):fc t=s/\cd t=true:=by
 unfold da at h;split at h
 ·rename_i d
  injection h with _ ht;subst ht;refine⟨?_,d.2⟩;apply aM;obtain⟨n,b⟩:=BF s.data.toList;rw[lK];have hz:(dj s).size=(rC s.data.toList).length:=by rw[dj,bP]
  have e:(dj s).data.toList=rC s.data.toList:=by simp[dj]
  have c:=xo List.length b;simp only[zl,xA,aa]at c;rw[hz,e,show 12-(rC s.data.toList).length=n from by omega,<-b]
 injection h with h _;omega
theorem sK (s:ByteArray):da s=(3,ByteArray.empty)\/∃t,da s=(0,t):=by
 unfold da;split
 ·exact .inr ⟨_,rfl⟩
 exact .inl rfl
structure aI where
 fm:Int
 mg:Nat
 fr:Int
 un:Int
 de:Int
 it:Int
structure Fr where
 id:Nat
 nm:ByteArray
 body:ByteArray
def rD :Fr:=⟨0,ByteArray.empty,ByteArray.empty⟩
def aI.right (c:aI):Bool:=decide (1<=c.fm)&&(decide (c.fm<=3)&&(decide (1<=c.fr)&&(decide (c.fr<=65536)&&(decide (1<=c.un)&&(decide (c.un<=65536)&&(decide (1<=c.de)&&(decide (c.de<=16)&&(decide (1<=c.it)&&decide (c.it<=1024)))))))))
theorem aI.bB (c:aI):c.right=true↔1<=c.fm/\c.fm<=3/\1<=c.fr/\c.fr<=65536/\1<=c.un/\c.un<=65536/\1<=c.de/\c.de<=16/\1<=c.it/\c.it<=1024:=by
 simp only[aI.right,zy,yb]
inductive It where
 |mk:ByteArray->Bool->List It->It
def It.text :It->ByteArray| .mk t _ _=>t
def It.list :It->Bool| .mk _ l _=>l
def It.sub :It->List It| .mk _ _ s=>s
@[simp] theorem It.ua (t:ByteArray)(l:Bool)(s:List It):(It.mk t l s).text=t:=rfl
@[simp] theorem It.uc (t:ByteArray)(l:Bool)(s:List It):(It.mk t l s).list=l:=rfl
@[simp] theorem It.gS (t:ByteArray)(l:Bool)(s:List It):(It.mk t l s).sub=s:=rfl
mutual
def It.count :It->Nat
 | .mk _ _ s=>1+aN s
def aN :List It->Nat
 | []=>0
 |x::xs=>x.count+aN xs
end
mutual
def It.deep :It->Nat
 | .mk _ _ s=>cK s+1
def cK :List It->Nat
 | []=>0
 |x::xs=>max x.deep (cK xs)
end
def formed (t:ByteArray)(l:Bool)(n:Nat):Bool:=if l then decide (t.size=0)else decide (n=0)
mutual
def It.right :It->Bool
 | .mk t l s=>formed t l s.length&&dq s
def dq :List It->Bool
 | []=>true
 |x::xs=>x.right&&dq xs
end
def It.may (x:It):Bool:=x.right&&decide (x.deep<=16)&&decide (x.count<=1024)
theorem It.ind {P:It->Prop}(h:∀t l s,(∀x∈s,P x)->P (.mk t l s)):∀x,P x:=by
 intro x;exact It.rec (motive_1:=P) (motive_2:=fun s=>∀x∈s,P x) (fun t l s ih=>h t l s ih) (by simp) (fun x xs hx UC=>by
  intro y hy;rcases xe.1 hy with rfl|hy
  ·exact hx
  exact UC y hy) x
theorem BH (x:It):1<=x.count:=by cases x;simp[It.count]
theorem lL (s:List It)(k:Nat)(h:k<s.length):s.take (k+1)=s.take k++ [s[k]]:=yn h
inductive Ty where
 |mk:Int->Int->List Ty->Int->Ty
def Ty.kind :Ty->Int| .mk k _ _ _=>k
def Ty.size :Ty->Int| .mk _ s _ _=>s
def Ty.sub :Ty->List Ty| .mk _ _ l _=>l
def Ty.tail :Ty->Int| .mk _ _ _ t=>t
@[simp] theorem Ty.J7 (k s:Int)(l:List Ty)(t:Int):(Ty.mk k s l t).kind=k:=rfl
@[simp] theorem Ty.aeB (k s:Int)(l:List Ty)(t:Int):(Ty.mk k s l t).size=s:=rfl
@[simp] theorem Ty.gS (k s:Int)(l:List Ty)(t:Int):(Ty.mk k s l t).sub=l:=rfl
@[simp] theorem Ty.CH (k s:Int)(l:List Ty)(t:Int):(Ty.mk k s l t).tail=t:=rfl
mutual
def Ty.count :Ty->Nat
 | .mk _ _ l _=>1+ba l
def ba :List Ty->Nat
 | []=>0
 |x::xs=>x.count+ba xs
end
mutual
def Ty.deep :Ty->Nat
 | .mk _ _ l _=>dJ l+1
def dJ :List Ty->Nat
 | []=>0
 |x::xs=>max x.deep (dJ xs)
end
def gu (k s:Int)(n:Nat)(t:Int):Bool:=
 if k=1 then decide ((s=1\/s=2\/s=4\/s=8)/\n=0/\t=0)
 else if k=2 then decide (1<=s/\s<=65536/\n=0/\t=0)
 else if k=3 then decide (0<=s/\s<=65536/\n=0/\t=0)
 else if k=4 then decide (0<=s/\s<=1024/\n=1/\t=0)
 else if k=5 then decide (s=0/\n<=16/\0<=t/\t<=n)
 else false
mutual
def Ty.right :Ty->Bool
 | .mk k s l t=>gu k s l.length t&&bR l
def bR :List Ty->Bool
 | []=>true
 |x::xs=>x.right&&bR xs
end
def Ty.may (t:Ty):Bool:=decide (t.count<=64)&&decide (t.deep<=8)&&t.right
theorem Ty.ind {P:Ty->Prop}(h:∀k s l t,(∀x∈l,P x)->P (.mk k s l t)):∀x,P x:=by
 intro x;exact Ty.rec (motive_1:=P) (motive_2:=fun s=>∀x∈s,P x) (fun k s l t ih=>h k s l t ih) (by simp) (fun x xs hx UC=>by
  intro y hy;rcases xe.1 hy with rfl|hy
  ·exact hx
  exact UC y hy) x
theorem gT (s:List Ty)(k:Nat)(h:k<s.length):s.take (k+1)=s.take k++ [s[k]]:=yn h
theorem fT (a b:List Ty):ba (a++b)=ba a+ba b:=by
 induction a with
 |nil=>simp[ba]
 |cons x xs ih=>simp[ba,ih,yh]
theorem pQ (a b:List Ty):dJ (a++b)=max (dJ a) (dJ b):=by
 induction a with
 |nil=>simp[dJ]
 |cons x xs ih=>simp only[ya,dJ,ih];omega
theorem iK (a b:List Ty):bR (a++b)=(bR a&&bR b):=by
 induction a with
 |nil=>simp[bR]
 |cons x xs ih=>simp[bR,ih,Bool.and_assoc]
theorem He (x:Ty):1<=x.count:=by cases x;simp[Ty.count]
theorem Es (s:List Ty)(k:Nat)(h:k<s.length):ba (s.take (k+1))=ba (s.take k)+s[k].count:=by
 rw[gT s k h,fT];simp[ba]
theorem uP (s:List Ty)(k:Nat):ba (s.take k)<=ba s:=by
 have:=fT (s.take k) (s.drop k);rw[zI]at this;omega
theorem Hf (s:List Ty)(k:Nat)(h:k<s.length):dJ (s.take (k+1))=max (dJ (s.take k)) s[k].deep:=by
 rw[gT s k h,pQ];simp[dJ]
theorem Au (s:List Ty)(k:Nat):dJ (s.take k)<=dJ s:=by
 have:=pQ (s.take k) (s.drop k);rw[zI]at this;omega
theorem mV (s:List Ty)(k:Nat)(h:k<s.length):bR (s.take (k+1))=(bR (s.take k)&&s[k].right):=by
 rw[gT s k h,iK];simp[bR]
theorem CI (s:List Ty)(k:Nat)(h:k<s.length)(c:s[k].right=false):bR s=false:=by
 have b:=iK (s.take (k+1)) (s.drop (k+1));rw[zI,mV s k h,c]at b;simpa using b
theorem dT {s:List Ty}(h:bR s=true)(k:Nat)(b:k<s.length):s[k].right=true:=by
 cases hr:s[k].right with
 |true=>rfl
 |false=>rw[CI s k b hr]at h;cases h
theorem O0 (s:List Ty)(h:∀x∈s,x.deep<=x.count):dJ s<=ba s:=by
 induction s with
 |nil=>simp[dJ]
 |cons x xs ih=>
  have c:=h x (by simp);have d:=ih (fun y b=>h y (by simp[b]));simp only[dJ,ba];omega
theorem L6 (x:Ty):x.deep<=x.count:=by
 induction x using Ty.ind with
 |h k s l t ih=>simp only[Ty.deep,Ty.count];have:=O0 l ih;omega
mutual
def Ty.hU :Ty->Nat->Nat->Bool×Nat
 | .mk k s l t,lv,c=>if 8<lv\/c=0\/gu k s l.length t=false then(false,c)else kH l (lv+1) (c-1)
def kH :List Ty->Nat->Nat->Bool×Nat
 | [],_,c=>(true,c)
 |x::xs,lv,c=>match x.hU lv c with
  |(true,c')=>kH xs lv c'
  |(false,c')=>(false,c')
end
theorem sL (a b:List Ty)(d c:Nat):kH (a++b) d c=match kH a d c with
 |(true,e)=>kH b d e
 |(false,e)=>(false,e):=by
 induction a generalizing c with
 |nil=>simp[kH]
 |cons x xs ih=>
  simp only[ya,kH];rcases x.hU d c with⟨r,e⟩
  cases r with
  |true=>simp only[ih]
  |false=>rfl
theorem BI {s:List Ty}{b c e:Nat}(h:k<s.length)(i:kH (s.take k) b c=(true,e)):kH (s.take (k+1)) b c=s[k].hU b e:=by
 rw[gT s k h,sL,i];simp only[kH];rcases s[k].hU b e with⟨r,d⟩
 cases r<;>rfl
theorem L7 {s:List Ty}{b c d:Nat}(h:k<s.length)(l:kH (s.take k) b c=(true,i))(j:s[k].hU b i=(false,d)):kH s b c=(false,d):=by
 have e:=sL (s.take (k+1)) (s.drop (k+1)) b c;rw[zI,BI h l,j]at e;exact e
def BJ (r:Bool×Nat)(rt:Bool)(lv d n c:Nat):Prop:=(r.1=true↔rt=true/\lv+d<=9/\n<=c)/\(r.1=true->r.2+n=c)/\r.2<=c
theorem Ti (s:List Ty)(l:∀x∈s,∀e c,e<=9->BJ (x.hU e c) x.right e x.deep x.count c):∀e c,e<=9->BJ (kH s e c) (bR s) e (dJ s) (ba s) c:=by
 induction s with
 |nil=>intro e c h;simp[BJ,kH,bR,dJ,ba,h]
 |cons x xs UC=>
  intro e c k;have i:=l x (by simp) e c k;rcases hv:x.hU e c with⟨r,q⟩
  rw[hv]at i;obtain⟨i,j,m⟩:=i;simp only at i j m;have z:=He x;unfold BJ;simp only[kH,hv,bR,dJ,ba,zy];cases r with
  |true=>
   have j:=j rfl;obtain⟨n,o,w⟩:=UC (fun y p=>l y (by simp[p])) e q k;have i:=i.1 rfl;refine⟨?_,fun u=>by have:=o u;simp only;omega,by simp only;omega⟩;simp only[n];constructor
   ·rintro⟨a,b,d⟩;exact⟨⟨i.1,a⟩,by omega,by omega⟩
   rintro⟨a,b,d⟩;exact⟨a.2,by omega,by omega⟩
  |false=>
   refine⟨?_,by simp,m⟩;constructor
   ·intro h;cases h
   rintro⟨a,b,d⟩;exact i.2 ⟨a.1,by omega,by omega⟩
theorem Et (x:Ty):∀i c,i<=9->BJ (x.hU i c) x.right i x.deep x.count c:=by
 induction x using Ty.ind with
 |h k s l t ih=>
  intro i c p;unfold BJ;simp only[Ty.hU,Ty.right,Ty.deep,Ty.count,zy];by_cases e:8<i\/c=0\/gu k s l.length t=false
  ·simp only[zi e];refine⟨?_,by simp,zg _⟩;constructor
   ·intro h;cases h
   rintro⟨⟨a,_⟩,b,d⟩;rcases e with e|e|e
   ·omega
   ·omega
   rw[e]at a;cases a
  simp only[zh e];have m:i<=8/\0<c/\gu k s l.length t=true:=by
   refine⟨by omega,by omega, ?_⟩;cases h:gu k s l.length t with
   |true=>rfl
   |false=>exact absurd (.inr (.inr h)) e
  obtain⟨n,j,q⟩:=Ti l ih (i+1) (c-1) (by omega);refine⟨?_,fun o=>by have:=j o;omega,by omega⟩;rw[n];constructor
  ·rintro⟨a,b,d⟩;exact⟨⟨m.2.2,a⟩,by omega,by omega⟩
  rintro⟨a,b,d⟩;exact⟨a.2,by omega,by omega⟩
theorem L8 (x:Ty):(x.hU 1 64).1=x.may:=by
 have h:=(Et x 1 64 (by omega)).1;rw[yT,h];simp only[Ty.may,zy,yb];constructor
 ·rintro⟨a,b,c⟩;exact⟨⟨by omega,by omega⟩,a⟩
 rintro⟨⟨a,b⟩,c⟩;exact⟨c,by omega,by omega⟩
open Go
theorem Eu :∀(n i:Nat) (p p':Nat->Bool),i<n->p i=true->p' i=false->(∀j,j≠i->p' j=p j)->(List.range n).countP p=(List.range n).countP p'+1
 |0,i,p,p',hi,_,_,_=>by omega
 |n+1,i,p,p',hi,h1,h2,h3=>by
  rw[List.range_succ,List.countP_append,List.countP_append];by_cases e:i=n
  ·subst e;have:(List.range i).countP p=(List.range i).countP p':=List.countP_congr fun x hx=>by rw[h3 x (by have:=Zo.1 hx;omega)]
   simp[this,h1,h2]
  rw[Eu n i p p' (by omega) h1 h2 h3];have:p' n=p n:=h3 n (xF e);simp[this];omega
section
variable {P:Program} {ops:Array Oper} {md:Region.Mode}
def Region.O1 (md:Region.Mode)(ops:Array Oper):Bool:=
 (List.range ops.size).all fun i=>match ops[i]? with
  |some o=>o.after.all fun e=> !Region.binds md e||decide (e.on<i)
  |none=>false
theorem Hg (n:Region.O1 md ops=true)(u:listed.size=ops.size):∀(i:Nat),i<ops.size->listed.getD i true=false->∃j,j<ops.size/\j∈Region.ready md ops listed:=by
 intro i;induction i using Nat.strongRecOn with
 |ind i ih=>
  intro hi m;by_cases c:∃j,j<i/\listed.getD j true=false
  ·obtain⟨j,p,o⟩:=c;exact ih j p (by omega) o
  refine⟨i,hi, ?_⟩;have k:=Zw.1 n i (Zo.2 hi);have d:ops[i]?=some ops[i]:=ZT hi;rw[d]at k;refine Zt.2 ⟨m,ops[i],d,fun e r q=> ?_⟩;have l:=Array.all_eq_true'.1 k e r;rw[q]at l;have s:e.on<i:=by simpa using l
  have b:listed.getD e.on true=true:=by
   rcases xf (listed.getD e.on true)with h|h
   ·exact h
   exact absurd ⟨e.on,s,h⟩ c
  have:e.on<listed.size:=by omega
  simp[this]at b⊢;exact b
theorem pR {I:Array Bool->Act->World->Prop}{Q':Exit->Act->World->Prop}(n:Region.O1 md ops=true)
 (k:∀b a w i,i<ops.size->I b a w->i∈Region.ready md ops b->wpOp P ops Q' i (I (b.setIfInBounds i true)) a w)
 (m:∀b a w,(∀i,i<ops.size->b.getD i false=true)->I b a w->Q' .normal a w):
 ∀(f:Nat) (b:Array Bool) (a:Act) (w:World),(List.range ops.size).countP (fun i=> !b.getD i true)=f->b.size=ops.size->I b a w->wpAny P md ops Q' f b a w
 |0,b,a,w,Dw,eX,hI=>by
  have p:∀i,i<ops.size->b.getD i true=true:=fun i hi=>by
   have:=List.countP_eq_zero.1 Dw i (Zo.2 hi);simpa using this
  refine⟨?_,m _ _ _ (fun i hi=> ?_) hI⟩
  ·cases hr:Region.ready md ops b with
   |nil=>rfl
   |cons j l=>
    have d:j∈Region.ready md ops b:=by rw[hr];simp
    obtain⟨c,o,e,_⟩:=Zt.1 d;rw[p j (yg.1 e).1]at c;cases c
  have:=p i hi;have x:i<b.size:=by omega
  simp[x]at this⊢;exact this
 |f+1,b,a,w,Dw,eX,hI=>by
  have u:∃i,i<ops.size/\b.getD i true=false:=by
   have:0<(List.range ops.size).countP (fun i=> !b.getD i true):=by omega
   obtain⟨i,hi,y⟩:=List.countP_pos_iff.1 this;exact⟨i,Zo.1 hi,by simpa using y⟩
  obtain⟨i0,B,z⟩:=u;obtain⟨C,D,q⟩:=Hg n eX i0 B z;refine⟨fun h=>(by rw[h]at q;cases q),fun i hi=> ?_⟩;obtain⟨c,o,e,_⟩:=Zt.1 hi;have r:i<ops.size:=(yg.1 e).1;refine wpOp_mono (fun A w' s=>pR n k m f _ A w' ?_ (by simp[eX]) s) (k b a w i r hI hi);have:=Eu ops.size i (fun i=> !b.getD i true) (fun j=> !(b.setIfInBounds i true).getD j true) r (by simp[c]) (by
   have:i<b.size:=by omega
   simp[this]) (fun j d=>by simp[Array.getElem?_setIfInBounds_ne (xF d)])
  omega
theorem Aw {id:Nat}{a:Act}{l:List Oper}(c:P.follows .mixedOrders=true)(j:Region.O1 .any l.toArray=true)(I:Array Bool->Act->World->Prop)
 (k:I (Array.replicate l.toArray.size false) a w.drew)
 (e:∀b a w i,i<l.toArray.size->I b a w->i∈Region.ready .any l.toArray b->wpOp P l.toArray Q i (I (b.setIfInBounds i true)) a w)
 (d:∀b a w,(∀i,i<l.toArray.size->b.getD i false=true)->I b a w->Q .normal a w):(Code.region id l.toArray true).wp P Q a w:=by
 have h:(List.range l.toArray.size).countP (fun i=> !(Array.replicate l.toArray.size false).getD i true)=l.toArray.size:=by
  have:(List.range l.toArray.size).countP (fun i=> !(Array.replicate l.toArray.size false).getD i true)=(List.range l.toArray.size).length:=by
   rw[List.countP_eq_length];intro i hi;have:=Zo.1 hi;simp[show i<l.length by simpa using this]
  simpa using this
 exact wp_region_any c (pR j e d _ _ a _ h (by simp) k)
end
theorem aT {P:Program}{ops:Array Oper}{K:Act->World->Prop}{a:Act}{o:Oper}(hi:ops[i]?=some o)(b:o.guard=none)(h:o.wp P a w K Q):wpOp P ops Q i K a w:=by
 unfold wpOp;simp only[hi];have c:Region.wanted o (yielded ops a.tmps)=true:=by simp[Region.wanted,b]
 rw[zi c];exact .inl h
theorem dx (h:(listed.setIfInBounds i true).getD k false=true):k=i\/listed.getD k false=true:=by
 by_cases e:i=k
 ·exact .inl e.symm
 rw[getD_set_ne false e]at h;exact .inr h
theorem Hi (h:i<listed.size):(listed.setIfInBounds i true).getD i false=true:=by simp[h]
theorem bS (h:i≠k):(listed.setIfInBounds i true).getD k false=listed.getD k false:=getD_set_ne false h
