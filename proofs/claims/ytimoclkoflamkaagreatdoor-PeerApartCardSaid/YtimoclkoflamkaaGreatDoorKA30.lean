/- package schema: a List is read beside the document's reader (plain). -/
import Derived.Test.YtimoclkoflamkaaGreatDoorKA21
import Derived.DeepKeys5
set_option linter.all false
set_option maxRecDepth 100000
set_option maxHeartbeats 3200000
open Go.Proofs.Tryz
namespace Go.Proofs.YtimoclkoflamkaaGreatDoor
variable {s out:ByteArray}{q f p L n i L' j d e:Nat}{acc:List Ty}{y x t:Ty}{w wr:World}{D:DataW Unit}
def ye:=@results43
def yl:=@Option.some.inj
def yC:=@ntmps43
def yK:=@func43
def ZW:=@underlying237
theorem IT {o:Option (Ty×List UInt8)}{r:List UInt8}(h:u' o=some (t,r)):∃x b,o=some (x,b)/\gH x b=some (t,r):=by
 match o,h with
 |some (x,b),h=>exact⟨x,b,rfl,h⟩
theorem IU {c:Nat}{b:Nat}(m:0<L)(j:aN (f+1) (s.data.toList.drop p)=u' (aN f (s.data.toList.drop (p+1))))(h:tG f (L-1) s (p+1) x false q c)(i:b<=s.size):tG (f+1) L s p y false b c:=by
 refine⟨(by intro h;cases h),fun _ o r d=> ?_,i⟩;rw[j]at d;obtain⟨z,k,l,e⟩:=IT d;obtain⟨n,rfl⟩:=L8 e;have:=(h.2.1 rfl z k l).list n;rwa [show 1+(L-1)=L from by omega]at this
theorem pn {l:Nat}{c:Nat}(k:aN (f+1) (s.data.toList.drop p)=u' (aN f (s.data.toList.drop (p+1))))(h:tG f (L-1) s (p+1) x true q l)(e:∀b r,gH x (s.data.toList.drop q)=some (b,r)->dW L b)(i:c<=s.size):tG (f+1) L s p y false c j:=by
 refine⟨(by intro h;cases h),fun _ b r d=> ?_,i⟩;rw[k,(h.1 rfl).1]at d;exact e b r d
theorem IV {c:Nat}{b:Nat}(l:0<L)(i:aN (f+1) (s.data.toList.drop p)=u' (aN f (s.data.toList.drop (p+1))))(h:tG f (L-1) s (p+1) x true q c)(d:gH x (s.data.toList.drop q)=some (.mk 4 n [x] 0,s.data.toList.drop b))(o:q<b)(e:b<=s.size):tG (f+1) L s p (.mk 4 n [x] 0) true b c:=by
 obtain⟨j,k,m⟩:=h.1 rfl;refine⟨fun _=>⟨by rw[i,j];exact d, ?_,by omega⟩,(by intro h;cases h),e⟩;simp only[Ty.count,aZ];omega
theorem P7 (x:Ty)(h:∀b:q<s.size,s[q].toNat≠58)(L:Nat):∀d r,gH x (s.data.toList.drop q)=some (d,r)->dW L d:=by
 intro d r c;by_cases b:q<s.size
 ·rw[drop_cons s q b,va x _ _ (h b)]at c;cases c
 rw[zK (by simpa using b)]at c;cases c
theorem tail_at (x:Ty)(b:q<s.size)(h:s[q].toNat=58):gH x (s.data.toList.drop q)=iS x (cg (s.data.toList.drop (q+1))):=by
 rw[drop_cons s q b,show s[q]=58 from zT.1 h,mO]
theorem P8 (x:Ty)(e:q<s.size)(h:s[q].toNat=58)(i:ox 1024 s (q+1) n false d)(L:Nat):∀b r,gH x (s.data.toList.drop q)=some (b,r)->dW L b:=by
 intro b r c;rw[tail_at x e h]at c;exact L7 (i.2.1 rfl) L x b r c
theorem MU {c:Nat}(x:Ty)(j:q<s.size)(h:s[q].toNat=58)(l:ox 1024 s (q+1) n true c)(k:∀j:c<s.size,s[c].toNat≠93)(L:Nat):∀e r,gH x (s.data.toList.drop q)=some (e,r)->dW L e:=by
 intro e r b;rw[tail_at x j h,(l.1 rfl).1]at b;by_cases d:c<s.size
 ·rw[drop_cons s c d,iS]at b;split at b
  ·rename_i i
   exact absurd (by first|exact i|simpa using i|(rw[i];rfl)) (k d)
  cases b
 rw[zK (by simpa using d)]at b;cases b
theorem P9 {b:Nat}(x:Ty)(e:q<s.size)(h:s[q].toNat=58)(i:ox 1024 s (q+1) n true b)(d:b<s.size)(c:s[b].toNat=93):gH x (s.data.toList.drop q)=some (.mk 4 n [x] 0,s.data.toList.drop (b+1)):=by
 rw[tail_at x e h,(i.1 rfl).1,drop_cons s b d,iS,zj (by first|exact c|exact zT.1 c)]
theorem B0 (f:Nat)(h:s.size<=q):aN f (s.data.toList.drop q)=none:=by
 rw[zK (by simpa using h)];cases f<;>rfl
theorem pY.gone {R:Option (Ty×List UInt8)}{c:Nat}(d:R=none)(h:s.size<=q):pY f s R q acc c:=by
 refine⟨0, ?_,by rw[zK (by simpa using h)];simp⟩;subst d;have hi:=B0 f h;rw[zK (by simpa using h)]at hi⊢;by_cases b:0<c
 ·simp[tQ,b]
 simp[tQ,b,hi]
theorem IW {R:Option (Ty×List UInt8)}(h:fL f s R p [] 0)(c:∀b:p<s.size,s[p].toNat≠125):pY f s R p [] 0:=by
 by_cases b:p<s.size
 ·exact h.first b (c b)
 exact pY.gone (h.stop (by omega)) (by omega)
theorem B3 {R:Option (Ty×List UInt8)}(h:fL f s R p acc i)(d:acc≠ [])(e:∀b:p<s.size,s[p].toNat≠125)(c:∀b:p<s.size,s[p].toNat≠44):R=none:=by
 by_cases b:p<s.size
 ·exact h.bad b (e b) (c b) d
 exact h.stop (by omega)
theorem KF {R:Option (Ty×List UInt8)}{b:Nat}(h:Oh f s R q acc e)(i:q<=s.size)(d:tG f L s q y true b L'):fL f s R b (acc++ [y]) e:=by
 obtain⟨j,_,_⟩:=d.1 rfl;have c:=(h.some i j).1;rw[zP,aa,show s.size-(s.size-b)=b from by have:=d.2.2;omega]at c;exact c
theorem sY (acc:List Ty)(y:Ty):aZ (acc++ [y])=aZ acc+y.count:=by simp[fI,aZ]
theorem IX {b:Nat}{R:Option (Ty×List UInt8)}{c:Nat}(e:R=some (.mk 5 0 acc c,s.data.toList.drop q))(i:L+aZ acc=b)(d:q<=s.size):OW (1+b) s R (.mk 5 0 acc c) true q L:=
 ⟨fun _=>⟨e,by simp[Ty.count];omega⟩,(by intro h;cases h),d⟩
theorem Dd {c:Nat}{R:Option (Ty×List UInt8)}(t:Ty)(d:R=none)(b:q<=s.size):OW c s R t false q L:=
 ⟨(by intro h;cases h),(by intro _ e r h;rw[d]at h;cases h),b⟩
theorem P' {b:Nat}{R:Option (Ty×List UInt8)}{k:Nat}(t:Ty)(h:Oh f s R q acc k)(c:tG f L s q y false d L')(l:L+aZ acc=b):OW (1+b) s R t false d e:=by
 refine⟨(by intro h;cases h),fun _ i r j=> ?_,c.2.2⟩;have:=Tb h (c.2.1 rfl) i r j;rwa [show 1+aZ acc+L=1+b from by omega]at this
theorem Qa (b:p<s.size)(d:s[p].toNat=123):fL f s (aN (f+1) (s.data.toList.drop p)) (p+1) [] 0:=
 ⟨_,by rw[qw (c:=123) b d,Kf],by omega⟩
theorem acg {ok:Bool}(h:OW L s (aN f (s.data.toList.drop p)) t ok q L'):tG f L s p t ok q L':=by
 refine⟨fun e=> ?_,h.2.1,h.2.2⟩;obtain⟨b,c⟩:=h.1 e;have d:=(gj _ _ _ _ b).2;simp only[zP,aa]at d;exact⟨b,c,by have:=h.2.2;omega⟩
open Go.RowKit
def nc (l:List Nat):Array Value:=(l.map fun n=>Value.int .u64 (n:Nat)).toArray
theorem ach (l:List Nat)(i:Nat)(h:i<l.length):(nc l)[i]?=some (.int .u64 (l.getD i 0:Nat)):=by
 simp[nc,zw,zA h]
theorem ag.num {g:Nat}{t:TypeId}{l:List Nat}(h:ag w g t (nc l))(hi:i<l.length):w.cell? (g,i)=some (.int .u64 (l.getD i 0:Nat)):=(h.cell i).trans (ach l i hi)
theorem TP (s:ByteArray)(j i:Nat)(w:World)(d:j<i)(hi:i<=s.size)(h:s.size<=65536):
 Calls prog 178 #[s,j,i] w fun e w'=>e= .returned (.int .i64 (mt s.data.toList j i 64))/\(w,w'):=
 (TN s j i w d hi (by omega)).mono fun e w' ⟨c,m,b⟩=>⟨c,by rw[b];exact(zm _ _).bF m⟩
def B4 (s:ByteArray)(w:World)(i p f:Nat)(out JP:ByteArray)(wr:World):Prop:=
 p<=i/\i<=s.size/\JP.data.toList=(s.data.toList.take i).drop p/\out.data.toList++pk s.data.toList f p i=pack s.data.toList/\s.size-i<f/\(w,wr)
theorem B4.none {c:ByteArray}(h:B4 s w i p f out c wr)(hi:i<s.size)(m:Ia s.data.toList i i=none)(x:ByteArray)(hx:x.data.toList= [s[i]])(d:World)(j:Below w.heap.size w d):B4 s w (i+1) p (f-1) out (c++x) d:=by
 obtain⟨k,e,l,b,o,n⟩:=h;obtain⟨g,rfl⟩:∃g,f=g+1:=⟨f-1,by omega⟩
 unfold pk at b;rw[zj (by simpa using hi),m]at b;refine⟨by omega,by omega, ?_,b,by omega,j⟩;rw[aW,l,hx,jn s i hi,yw (by rw[length_take s i e];exact k)]
theorem B4.some {d a b:ByteArray}(h:B4 s w i p f out d wr)(hi:i<s.size)(m:Ia s.data.toList i i=some j)(r:a.data.toList=ig d.data.toList)(o:b.data.toList=kM (mt s.data.toList j i 64) (i-j))(k:World)(q:Below w.heap.size w k)(e:ByteArray)(u:e.data.toList= []):
 B4 s w (i+mt s.data.toList j i 64) (i+mt s.data.toList j i 64) (f-1) (out++a++b) e k:=by
 obtain⟨B,n,x,c,A,z⟩:=h;obtain⟨g,rfl⟩:∃g,f=g+1:=⟨f-1,by omega⟩
 unfold pk at c;rw[zj (by simpa using hi),m]at c;simp only at c;have l:=(By s.data.toList 64 j i).2 (by simpa using n);have y:=(pW _ _ _ _ m).2;rw[aa]at l;refine⟨zd _,l, ?_, ?_,by simp;omega,q⟩
 ·rw[u,zK];rw[zU];omega
 rw[<-c,aW,aW,r,o,x];simp
open Go.RowKit Go.Maps
theorem laidOut :laidOutB prog=true:=by kernel_rfl
theorem rT :Keyed prog 237:=Keyed.of_law (deep_law_gate laidOut (yf (by kernel_rfl)) (yf (by kernel_rfl)) (by kernel_rfl) (by kernel_rfl))
theorem KG (w:World):(zeroValue 3).run prog w= .ok (0:Int) w:=by kernel_rfl
theorem agB (a b c d:UInt8):∃l,keyOf prog 237 (.agg #[.int .u8 a.toNat,.int .u8 b.toNat,.int .u8 c.toNat,.int .u8 d.toNat])=some l:=by
 have h:∀x:UInt8,(Lit.int .u8 (x.toNat:Int)).wf=true:=by
  intro x;have:=x.toNat_lt;simp[Lit.wf,IntKind.min,IntKind.max,IntKind.signed,IntKind.bits];omega
 have i:(prog.keyType 237)=true:=by kernel_rfl
 have e:prog.cellsOf 237=4:=by kernel_rfl
 have n:prog.cellsOf 5=1:=by kernel_rfl
 obtain⟨m,k⟩:∃m,prog.types.size+1=m+2:=⟨prog.types.size-1,by have:1<=prog.types.size:=yf (by kernel_rfl);omega⟩
 refine⟨.string (keyBytes [.int .u8 a.toNat,.int .u8 b.toNat,.int .u8 c.toNat,.int .u8 d.toNat]), ?_⟩;have p:List.range 4= [0,1,2,3]:=rfl;have o:Value.formed prog 237 (.agg #[.int .u8 a.toNat,.int .u8 b.toNat,.int .u8 c.toNat,.int .u8 d.toNat])=true:=by
  simp[Value.formed,ZW,e]
 have j:prog.keyLits (m+2) 237 [.int .u8 a.toNat,.int .u8 b.toNat,.int .u8 c.toNat,.int .u8 d.toNat]=some [.int .u8 a.toNat,.int .u8 b.toNat,.int .u8 c.toNat,.int .u8 d.toNat]:=by
  simp[Program.keyLits,ZW,yt,e,n,p,h]
 simp only[keyOf,ZW,i,o,k];have:(Value.agg #[.int .u8 a.toNat,.int .u8 b.toNat,.int .u8 c.toNat,.int .u8 d.toNat]).cells.toList= [.int .u8 a.toNat,.int .u8 b.toNat,.int .u8 c.toNat,.int .u8 d.toNat]:=rfl;rw[this,j];rfl
def gv (L:List UInt8)(i:Nat):Value:= .agg #[.int .u8 (L.getD i 0).toNat,.int .u8 (L.getD (i+1) 0).toNat,.int .u8 (L.getD (i+2) 0).toNat,.int .u8 (L.getD (i+3) 0).toNat]
theorem Qb (L:List UInt8)(i:Nat):∃l,keyOf prog 237 (gv L i)=some l:=agB _ _ _ _
noncomputable def gl (L:List UInt8)(i:Nat):Lit:=(Qb L i).choose
theorem rU (L:List UInt8)(i:Nat):keyOf prog 237 (gv L i)=some (gl L i):=(Qb L i).choose_spec
theorem kn (L:List UInt8)(a b:Nat)(d:a<L.length)(c:b<L.length):(L.getD a 0).toNat=(L.getD b 0).toNat↔L[a]?=L[b]?:=by
 rw[zw,zw,zA d,zA c];simp[zT]
theorem Vq (L:List UInt8)(a b:Nat)(j:a+4<=L.length)(i:b+4<=L.length):gl L a=gl L b↔fB L a b:=by
 constructor
 ·intro h;have d:=rU L a;rw[h]at d;have c:=rT.inj d (rU L b);unfold gv at c;injection c with c;simp only[Array.mk.injEq,List.cons.injEq,Value.int.injEq,true_and,and_true,Int.natCast_inj]at c;exact⟨(kn L _ _ (by omega) (by omega)).1 c.1,(kn L _ _ (by omega) (by omega)).1 c.2.1,(kn L _ _ (by omega) (by omega)).1 c.2.2.1,(kn L _ _ (by omega) (by omega)).1 c.2.2.2⟩
 intro h;have e:gv L a=gv L b:=by
  unfold gv;rw[(kn L _ _ (by omega) (by omega)).2 h.1,(kn L _ _ (by omega) (by omega)).2 h.2.1,(kn L _ _ (by omega) (by omega)).2 h.2.2.1,(kn L _ _ (by omega) (by omega)).2 h.2.2.2]
 have d:=rU L a;rw[e,rU L b]at d;exact(yl d).symm
def MI (L:List UInt8)(D:DataW Unit)(n:Nat):Prop:=IsMap D/\∀a,a+4<=L.length->
 (∀j,jF L a n=some j->Maps.has D (gl L a)=true/\D.atKey (gl L a) (.lit (.int .i64 0))= .lit (.int .i64 j))/\(jF L a n=none->Maps.has D (gl L a)=false)
theorem MI.start (L:List UInt8):MI L (.map []) 0:=⟨⟨[],rfl⟩,fun a _=>⟨fun j h=>by simp[jF]at h,fun _=>rfl⟩⟩
theorem MI.skip {L:List UInt8}(h:MI L D n)(c:¬n+4<=L.length):MI L D (n+1):=by
 refine⟨h.1,fun a d=> ?_⟩;rw[sQ L a n (fun b=>c b.1)];exact h.2 a d
theorem MI.put {L:List UInt8}(h:MI L D n)(i:n+4<=L.length):MI L (D.put (gl L n) (.lit (.int .i64 n))) (n+1):=by
 have l:WideAt.IsKeyLit (gl L n):=rT.key (rU L n);refine⟨h.1.put _ _,fun a k=> ?_⟩;by_cases b:fB L n a
 ·have e:gl L a=gl L n:=((Vq L n a i k).2 b).symm;rw[ID L a n i b,e];refine⟨fun j d=> ?_,fun c=>by cases c⟩;injection d with d;subst d;exact⟨has_put_same h.1 l _,atKey_put_same h.1 l _ _⟩
 rw[sQ L a n (fun c=>b c.2)];have m:gl L a≠gl L n:=fun e=>b ((Vq L n a i k).1 e.symm)
 rw[has_put_other m,atKey_put_other m];exact h.2 a k
def sZ (s:ByteArray)(w:World)(R:Option (Ty×List UInt8))(e:Ending)(w':World):Prop:=
 (w,w')/\match R with
  |none=>∃v0 v1:Int,e= .returned (.tuple #[.agg #[v0,v1,nS,(0:Int)],.int .i64 (-1)])
  |some (x,r)=>∃c0 c1 c2 c3,e= .returned (.tuple #[.agg #[c0,c1,c2,c3],(s.size-r.length:Nat)])/\fX w' (w.heap.size<= ·) x c0 c1 c2 c3
theorem MV (f:Nat):aN f []=none:=by cases f<;>rfl
theorem De (X:World)(t:TypeId)(b:Array Value)(n:Nat)(h:X.heap.size=n):ag (X.alloc (.cells b t)) n t b:=by subst h;exact ag.new X t b
def cr (v0 v1:Int):Value:= .tuple #[.agg #[v0,v1,nS,(0:Int)],.int .i64 (-1)]
theorem FH (f deep:Nat)(S:deep<=8)(M:Hid (∀(s:ByteArray) (at_:Nat) (w:World),at_<=s.size->s.size<=100000->
 Calls prog 43 #[s,at_,((deep+1:Nat):Int)] w fun e w'=>sZ s w (aN f (s.data.toList.drop at_)) e w')) (s:ByteArray) (at_:Nat) (w:World) (W:at_<=s.size) (H:s.size<=100000)
 (R:Option (Ty×List UInt8)) (A:Hid (aN (f+1) (s.data.toList.drop at_)=R)) (K:at_<s.size) (C:s[at_].toNat≠91) (B:s[at_].toNat≠123):
 Calls prog 43 #[s,at_,deep] w fun e w'=>sZ s w R e w':=by
 have L:decide (s.size<=at_)=false:=by simp;omega
 have O:decide ((8:Int)<(deep:Int))=false:=by simp;omega
 have h:Hid (aN (f+1) (s[at_]::s.data.toList.drop (at_+1))=R):=za (by rw[<-drop_cons s at_ K];exact A.out);have j:=za (fun w=>pj s (at_+1) w (by omega) H);have G:Hid (((at_+1:Nat):Int)=(at_:Int)+1):=za (by omega);obtain⟨N,k⟩:∃N,Hid (cg (s.data.toList.drop (at_+1))=N):=⟨_,za rfl⟩
 rw[k.out,G.out]at j;clear A;by_cases hu:s[at_].toNat=117
 ·have J:((s[at_].toNat:Int)==117)=true:=by simp[hu]
  have b:Hid (Au N=R):=za (by rw[<-h.out,show s[at_]=117 from zT.1 hu,Kb,k.out]);clear hu h;cases N with
  |none=>
   have c:Hid (R=none):=za b.out.symm;clear b;go_enter yK,yC
   go_wp2_with fail
   refine(j.out _).mono ?_;rintro e w' ⟨rfl,rfl⟩;simp only[eh];go_wp2;refine zl (v:=cr 1 0) (by simp[cr,results,ye,go_sem]) rfl ?_;rw[c.out];exact⟨bO,1,0,rfl⟩
  |some z=>
   obtain⟨n,r⟩:=z;obtain⟨m,x,u,D⟩:=pZ (by omega) k.out;by_cases i:n%8=0
   ·have c:Hid (R=some (Ty.mk 1 ((n/8:Nat):Int) [] 0,r)):=za (by rw[<-b.out];simp[Au,i]);have E:((n:Int)%8 !=0)=false:=by simp;omega
    have p:Hid (((n/8:Nat):Int)=(n:Int)/8):=za (by omega);clear b i m;obtain⟨q,d⟩:∃q,s.size-r.length=q:=⟨_,rfl⟩
    have o:=za d;rw[d]at x u;go_enter yK,yC
    go_wp2_with fail
    refine(j.out _).mono ?_;rintro e w' ⟨rfl,rfl⟩;simp only[eh,d];clear d;go_wp2;refine zl (v:= .tuple #[.agg #[.int .i64 1,.int .i64 ((n:Int)/8),nS,(0:Int)],(q:Int)]) (by simp[results,ye,go_sem]) rfl ?_;rw[c.out];refine⟨bO,_,_,_,_,by rw[o.out], ?_⟩;first|exact fX.leaf (aA (by omega) (by omega)) (aA (by omega) (by omega)) (aA (by omega) (by omega))|(rw[p.out];exact fX.leaf (aA (by omega) (by omega)) (aA (by omega) (by omega)) (aA (by omega) (by omega)))
   have c:Hid (R=none):=za (by rw[<-b.out];simp[Au,i]);have E:((n:Int)%8 !=0)=true:=by simp;omega
   clear b i m;go_enter yK,yC
   go_wp2_with fail
   refine(j.out _).mono ?_;rintro e w' ⟨rfl,rfl⟩;simp only[eh];go_wp2;refine zl (v:=cr 0 0) (by simp[cr,results,ye,go_sem,]) rfl ?_;rw[c.out];exact⟨bO,0,0,rfl⟩
 have J:((s[at_].toNat:Int)==117)=false:=zp.2 (by omega);have E:True:=trivial;by_cases l:s[at_].toNat=98
 ·have F:((s[at_].toNat:Int)==98)=true:=by simp[l]
  have b:Hid (tF 2 N=R):=za (by rw[<-h.out,show s[at_]=98 from zT.1 l,Kc,k.out]);clear hu l h;cases N with
  |none=>
   have c:Hid (R=none):=za b.out.symm;clear b;go_enter yK,yC
   go_wp2_with fail
   refine(j.out _).mono ?_;rintro e w' ⟨rfl,rfl⟩;simp only[eh];go_wp2;refine zl (v:=cr 2 0) (by simp[cr,results,ye,go_sem]) rfl ?_;rw[c.out];exact⟨bO,2,0,rfl⟩
  |some z=>
   obtain⟨n,r⟩:=z;obtain⟨m,x,u,D⟩:=pZ (by omega) k.out;have c:Hid (R=some (Ty.mk 2 (n:Int) [] 0,r)):=za b.out.symm;have i:True:=trivial;have p:Hid (((n/8:Nat):Int)=(n:Int)/8):=za (by omega);clear b i m;obtain⟨q,d⟩:∃q,s.size-r.length=q:=⟨_,rfl⟩
   have o:=za d;rw[d]at x u;go_enter yK,yC
   go_wp2_with fail
   refine(j.out _).mono ?_;rintro e w' ⟨rfl,rfl⟩;simp only[eh,d];clear d;go_wp2;refine zl (v:= .tuple #[.agg #[.int .i64 2,.int .i64 (n:Int),nS,(0:Int)],(q:Int)]) (by simp[results,ye,go_sem]) rfl ?_;rw[c.out];refine⟨bO,_,_,_,_,by rw[o.out], ?_⟩;first|exact fX.leaf (aA (by omega) (by omega)) (aA (by omega) (by omega)) (aA (by omega) (by omega))|(rw[p.out];exact fX.leaf (aA (by omega) (by omega)) (aA (by omega) (by omega)) (aA (by omega) (by omega)))
 have F:((s[at_].toNat:Int)==98)=false:=zp.2 (by omega);by_cases y:s[at_].toNat=115
 ·have I:((s[at_].toNat:Int)==115)=true:=by simp[y]
  have b:Hid (tF 3 N=R):=za (by rw[<-h.out,show s[at_]=115 from zT.1 y,Kd,k.out]);clear hu l y h;cases N with
  |none=>
   have c:Hid (R=none):=za b.out.symm;clear b;go_enter yK,yC
   go_wp2_with fail
   refine(j.out _).mono ?_;rintro e w' ⟨rfl,rfl⟩;simp only[eh];go_wp2;refine zl (v:=cr 3 0) (by simp[cr,results,ye,go_sem]) rfl ?_;rw[c.out];exact⟨bO,3,0,rfl⟩
  |some z=>
   obtain⟨n,r⟩:=z;obtain⟨m,x,u,D⟩:=pZ (by omega) k.out;have c:Hid (R=some (Ty.mk 3 (n:Int) [] 0,r)):=za b.out.symm;have i:True:=trivial;have p:Hid (((n/8:Nat):Int)=(n:Int)/8):=za (by omega);clear b i m;obtain⟨q,d⟩:∃q,s.size-r.length=q:=⟨_,rfl⟩
   have o:=za d;rw[d]at x u;go_enter yK,yC
   go_wp2_with fail
   refine(j.out _).mono ?_;rintro e w' ⟨rfl,rfl⟩;simp only[eh,d];clear d;go_wp2;refine zl (v:= .tuple #[.agg #[.int .i64 3,.int .i64 (n:Int),nS,(0:Int)],(q:Int)]) (by simp[results,ye,go_sem]) rfl ?_;rw[c.out];refine⟨bO,_,_,_,_,by rw[o.out], ?_⟩;first|exact fX.leaf (aA (by omega) (by omega)) (aA (by omega) (by omega)) (aA (by omega) (by omega))|(rw[p.out];exact fX.leaf (aA (by omega) (by omega)) (aA (by omega) (by omega)) (aA (by omega) (by omega)))
 have I:((s[at_].toNat:Int)==115)=false:=zp.2 (by omega);have X:((s[at_].toNat:Int)==91)=false:=zp.2 (by omega);have U:((s[at_].toNat:Int) !=123)=true:=by simp;omega
 have c:Hid (R=none):=za (by rw[<-h.out,EK _ _ _ hu l y C B]);clear hu l y C B h;go_enter yK,yC
 go_wp2;refine zl (v:=cr 0 0) (by simp[cr,results,ye,go_sem,]) rfl ?_;rw[c.out];exact⟨bO,0,0,rfl⟩
theorem Df (f deep:Nat)(YL:deep<=8)(IH:Hid (∀(s:ByteArray) (at_:Nat) (w:World),at_<=s.size->s.size<=100000->
 Calls prog 43 #[s,at_,((deep+1:Nat):Int)] w fun e w'=>sZ s w (aN f (s.data.toList.drop at_)) e w')) (s:ByteArray) (at_:Nat) (w:World) (cG:at_<=s.size) (E:s.size<=100000)
 (R:Option (Ty×List UInt8)) (HR:Hid (aN (f+1) (s.data.toList.drop at_)=R)) (aD:at_<s.size) (Q6:s[at_].toNat=91):
 Calls prog 43 #[s,at_,deep] w fun e w'=>sZ s w R e w':=by
 have d1:decide (s.size<=at_)=false:=by simp;omega
 have d2:decide ((8:Int)<(deep:Int))=false:=by simp;omega
 have HC:Hid (aN (f+1) (s[at_]::s.data.toList.drop (at_+1))=R):=za (by rw[<-drop_cons s at_ aD];exact HR.out);have I:=za (fun w=>pj s (at_+1) w (by omega) E);have E8:Hid (((at_+1:Nat):Int)=(at_:Int)+1):=za (by omega);obtain⟨N,Y⟩:∃N,Hid (cg (s.data.toList.drop (at_+1))=N):=⟨_,za rfl⟩
 rw[Y.out,E8.out]at I;clear HR;have e1:((s[at_].toNat:Int)==117)=false:=zp.2 (by omega);have e2:((s[at_].toNat:Int)==98)=false:=zp.2 (by omega);have e3:((s[at_].toNat:Int)==115)=false:=zp.2 (by omega);have e4:((s[at_].toNat:Int)==91)=true:=by simp[Q6]
 have pM:Hid (u' (aN f (s.data.toList.drop (at_+1)))=R):=za (by rw[<-HC.out,show s[at_]=91 from zT.1 Q6,Ke]);have D:=za (IH.out s (at_+1) (w.alloc (.cells #[(0:Int),(0:Int),nS,(0:Int)] 70)) (by omega) E);have K:Hid ((deep:Int)+1=((deep+1:Nat):Int)):=za (by omega);obtain⟨T,HT⟩:∃T,Hid (aN f (s.data.toList.drop (at_+1))=T):=⟨_,za rfl⟩
 rw[HT.out]at pM D;rw[E8.out]at D;clear Q6 HC I Y;cases T with
 |none=>
  have r:Hid (R=none):=za pM.out.symm;clear pM;go_enter yK,yC
  go_wp2_with fail
  rw[K.out];refine D.out.mono ?_;rintro e b ⟨c,v0,v1,rfl⟩;have h:=(ag.new w 70 #[(0:Int),(0:Int),nS,(0:Int)]).ah c (by simp);obtain⟨o,i,l,j,O,W,X,S⟩:=aU h;have hz:=c.size;simp only[zt]at hz;have p:w.heap.size<b.heap.size:=by omega
  have J:w.heap.size<b.heap.size+1:=by omega
  have m:Hid (w,b):=za (((zm w.heap.size w).alloc (zd _) _).trans (c.mono (by simp)));clear c h;go_wp2;refine zl (v:=cr 0 0) (by simp[cr,results,ye,go_sem,o,i,l,j,zI,p]) rfl ?_;rw[r.out];refine⟨?_,0,0,rfl⟩;exact(((((m.out.setCell (by simp) _).setCell (by simp) _).setCell (by simp) _).setCell (by simp) _).alloc (by simp[World.setCell];omega) _)
 |some z=>
  obtain⟨x,aa⟩:=z;obtain⟨k1,k2⟩:=gj _ _ _ _ HT.out;obtain⟨k3,k4⟩:=vd (by omega) k1;have k5:s.size-aa.length<=s.size:=by omega
  have pN:=za k3;obtain⟨q,hq⟩:∃q,s.size-aa.length=q:=⟨_,rfl⟩
  rw[hq]at k4 k5 pN;have U:=za hq;have M:Hid (gH x (s.data.toList.drop q)=R):=za (by rw[pN.out];exact pM.out);clear pM k1 k2 k3;by_cases DK:q<s.size
  ·by_cases SH:s[q].toNat=58
   ·have f1:((s[q].toNat:Int) !=58)=false:=by simp[SH]
    obtain⟨N,Y⟩:∃N,Hid (cg (s.data.toList.drop (q+1))=N):=⟨_,za rfl⟩
    have H:Hid (iS x N=R):=za (by rw[<-Y.out,<-mO,<-M.out,drop_cons s q DK,show s[q]=58 from zT.1 SH]);have I:=za (fun w=>pj s (q+1) w (by omega) E);have E7:Hid (((q+1:Nat):Int)=(q:Int)+1):=za (by omega);rw[Y.out,E7.out]at I;clear M SH;cases N with
    |none=>
     have r:Hid (R=none):=za H.out.symm;clear H;go_enter yK,yC
     go_wp2_with fail
     rw[K.out];refine D.out.mono ?_;rintro e b ⟨c,c0,c1,c2,c3,rfl,d⟩;rw[U.out];have h:=(ag.new w 70 #[(0:Int),(0:Int),nS,(0:Int)]).ah c (by simp);obtain⟨o,i,l,j,O,W,X,S⟩:=aU h;have hz:=c.size;simp only[zt]at hz;have p:w.heap.size<b.heap.size:=by omega
     have J:w.heap.size<b.heap.size+1:=by omega
     have m:Hid (w,b):=za (((zm w.heap.size w).alloc (zd _) _).trans (c.mono (by simp)));have y:=za d;simp only[zt]at y;obtain⟨F,G,rfl,rfl,rfl,rfl,B,C,A,_⟩:=d.open_;clear c h d B C A;go_wp2_with fail
     refine(I.out _).mono ?_;rintro e w' ⟨rfl,rfl⟩;simp only[eh];go_wp2;refine zl (v:=cr 0 0) (by simp[cr,results,ye,go_sem,o,i,l,j,zI,p]) rfl ?_;rw[r.out];refine⟨?_,0,0,rfl⟩;exact(((((m.out.setCell (by simp) _).setCell (by simp) _).setCell (by simp) _).setCell (by simp) _).alloc (by simp[World.setCell];omega) _)
    |some z2=>
     obtain⟨n,r2⟩:=z2;obtain⟨jm,jZ,DJ,DI⟩:=pZ (by omega) Y.out;obtain⟨u,ad⟩:∃u,s.size-r2.length=u:=⟨_,rfl⟩
     rw[ad]at jm jZ DJ;have NW:=za ad;have ab:=za jm;clear jm;by_cases ah:u<s.size
     ·have ri:Hid (r2=s[u]::s.data.toList.drop (u+1)):=za (by rw[<-ab.out,drop_cons s u ah]);by_cases Z:s[u].toNat=93
      ·have f2:((s[u].toNat:Int) !=93)=false:=by simp[Z]
       have r:Hid (R=some (.mk 4 n [x] 0,s.data.toList.drop (u+1))):=za (by rw[<-H.out,ri.out];simp[iS,Z]);have af:=za (sX s (u+1) (by omega));clear H Z;go_enter yK,yC
       go_wp2_with fail
       rw[K.out];refine D.out.mono ?_;rintro e b ⟨c,c0,c1,c2,c3,rfl,d⟩;rw[U.out];have h:=(ag.new w 70 #[(0:Int),(0:Int),nS,(0:Int)]).ah c (by simp);obtain⟨o,i,l,j,O,W,X,S⟩:=aU h;have hz:=c.size;simp only[zt]at hz;have p:w.heap.size<b.heap.size:=by omega
       have J:w.heap.size<b.heap.size+1:=by omega
       have m:Hid (w,b):=za (((zm w.heap.size w).alloc (zd _) _).trans (c.mono (by simp)));have y:=za d;simp only[zt]at y;obtain⟨F,G,rfl,rfl,rfl,rfl,B,C,A,_⟩:=d.open_;clear c h d B C A;go_wp2_with fail
       refine(I.out _).mono ?_;rintro e w' ⟨rfl,rfl⟩;simp only[eh,NW.out];go_wp2;refine zl (v:= .tuple #[.agg #[(4:Int),n,.slice (some (b.heap.size+1,0)) 1 1,(0:Int)],.int .i64 ((u:Int)+1)]) (by simp[results,ye,go_sem,o,i,l,j,zI,p,J]) rfl ?_;rw[r.out];refine⟨((((((m.out.setCell (by simp) _).setCell (by simp) _).setCell (by simp) _).setCell (by simp) _).alloc (by simp[World.setCell];omega) _).alloc (by simp[World.setCell];omega) _),_,_,_,_,by rw[af.out];go_num, ?_⟩;have kD:ae [w.heap.size] b ((((((b.setCell (w.heap.size,0) (4:Int)).setCell (w.heap.size,1) n).setCell (w.heap.size,2) (.slice (some (b.heap.size+1,0)) 1 1)).setCell (w.heap.size,3) (0:Int)).alloc (.cells #[x.kind,x.size,.slice F x.sub.length G,x.tail] 70)).alloc (.cells #[x.kind,x.size,.slice F x.sub.length G,x.tail] 70)):=CM;refine⟨rfl,rfl,rfl,aA (by omega) (by omega),aA (by omega) (by omega),aA (by omega) (by omega),by simp,_,1,rfl,by simp,by simp,⟨⟨b.heap.size+1,0,x.kind,x.size,.slice F x.sub.length G,x.tail,rfl, ?_, ?_, ?_, ?_, ?_, ?_⟩,trivial⟩⟩
       ·show w.heap.size<=b.heap.size+1
        omega
       ·exact(De _ _ _ (b.heap.size+1) (by simp[World.setCell])).cell 0
       ·exact(De _ _ _ (b.heap.size+1) (by simp[World.setCell])).cell 1
       ·exact(De _ _ _ (b.heap.size+1) (by simp[World.setCell])).cell 2
       ·exact(De _ _ _ (b.heap.size+1) (by simp[World.setCell])).cell 3
       refine y.out.only (L:= [w.heap.size]) kD ?_ ?_
       ·intro k hk E;have hk:k=w.heap.size:=by simpa using hk
        have E:w.heap.size+1<=k:=E;omega
       intro k _ E;have E:w.heap.size+1<=k:=E;show w.heap.size<=k
       omega
      have f2:((s[u].toNat:Int) !=93)=true:=by simp;omega
      have r:Hid (R=none):=za (by rw[<-H.out,ri.out];simp[iS,Z]);clear H Z;go_enter yK,yC
      go_wp2_with fail
      rw[K.out];refine D.out.mono ?_;rintro e b ⟨c,c0,c1,c2,c3,rfl,d⟩;rw[U.out];have h:=(ag.new w 70 #[(0:Int),(0:Int),nS,(0:Int)]).ah c (by simp);obtain⟨o,i,l,j,O,W,X,S⟩:=aU h;have hz:=c.size;simp only[zt]at hz;have p:w.heap.size<b.heap.size:=by omega
      have J:w.heap.size<b.heap.size+1:=by omega
      have m:Hid (w,b):=za (((zm w.heap.size w).alloc (zd _) _).trans (c.mono (by simp)));have y:=za d;simp only[zt]at y;obtain⟨F,G,rfl,rfl,rfl,rfl,B,C,A,_⟩:=d.open_;clear c h d B C A;go_wp2_with fail
      refine(I.out _).mono ?_;rintro e w' ⟨rfl,rfl⟩;simp only[eh,NW.out];go_wp2;refine zl (v:=cr 0 0) (by simp[cr,results,ye,go_sem,o,i,l,j,zI,p]) rfl ?_;rw[r.out];refine⟨?_,0,0,rfl⟩;exact(((((m.out.setCell (by simp) _).setCell (by simp) _).setCell (by simp) _).setCell (by simp) _).alloc (by simp[World.setCell];omega) _)
     have r:Hid (R=none):=za (by rw[<-H.out,<-ab.out,zK (by simp;omega)];rfl);clear H;go_enter yK,yC
     go_wp2_with fail
     rw[K.out];refine D.out.mono ?_;rintro e b ⟨c,c0,c1,c2,c3,rfl,d⟩;rw[U.out];have h:=(ag.new w 70 #[(0:Int),(0:Int),nS,(0:Int)]).ah c (by simp);obtain⟨o,i,l,j,O,W,X,S⟩:=aU h;have hz:=c.size;simp only[zt]at hz;have p:w.heap.size<b.heap.size:=by omega
     have J:w.heap.size<b.heap.size+1:=by omega
     have m:Hid (w,b):=za (((zm w.heap.size w).alloc (zd _) _).trans (c.mono (by simp)));have y:=za d;simp only[zt]at y;obtain⟨F,G,rfl,rfl,rfl,rfl,B,C,A,_⟩:=d.open_;clear c h d B C A;go_wp2_with fail
     refine(I.out _).mono ?_;rintro e w' ⟨rfl,rfl⟩;simp only[eh,NW.out];go_wp2;refine zl (v:=cr 0 0) (by simp[cr,results,ye,go_sem,o,i,l,j,zI,p]) rfl ?_;rw[r.out];refine⟨?_,0,0,rfl⟩;exact(((((m.out.setCell (by simp) _).setCell (by simp) _).setCell (by simp) _).setCell (by simp) _).alloc (by simp[World.setCell];omega) _)
   have f1:((s[q].toNat:Int) !=58)=true:=by simp;omega
   have r:Hid (R=none):=za (by rw[<-M.out,drop_cons s q DK,va _ _ _ SH]);clear M SH;go_enter yK,yC
   go_wp2_with fail
   rw[K.out];refine D.out.mono ?_;rintro e b ⟨c,c0,c1,c2,c3,rfl,d⟩;rw[U.out];have h:=(ag.new w 70 #[(0:Int),(0:Int),nS,(0:Int)]).ah c (by simp);obtain⟨o,i,l,j,O,W,X,S⟩:=aU h;have hz:=c.size;simp only[zt]at hz;have p:w.heap.size<b.heap.size:=by omega
   have J:w.heap.size<b.heap.size+1:=by omega
   have m:Hid (w,b):=za (((zm w.heap.size w).alloc (zd _) _).trans (c.mono (by simp)));have y:=za d;simp only[zt]at y;obtain⟨F,G,rfl,rfl,rfl,rfl,B,C,A,_⟩:=d.open_;clear c h d B C A;go_wp2;refine zl (v:=cr 0 0) (by simp[cr,results,ye,go_sem,o,i,l,j,zI,p]) rfl ?_;rw[r.out];refine⟨?_,0,0,rfl⟩;exact(((((m.out.setCell (by simp) _).setCell (by simp) _).setCell (by simp) _).setCell (by simp) _).alloc (by simp[World.setCell];omega) _)
  have r:Hid (R=none):=za (by rw[<-M.out,zK (by simp;omega)];rfl);clear M;go_enter yK,yC
  go_wp2_with fail
  rw[K.out];refine D.out.mono ?_;rintro e b ⟨c,c0,c1,c2,c3,rfl,d⟩;rw[U.out];have h:=(ag.new w 70 #[(0:Int),(0:Int),nS,(0:Int)]).ah c (by simp);obtain⟨o,i,l,j,O,W,X,S⟩:=aU h;have hz:=c.size;simp only[zt]at hz;have p:w.heap.size<b.heap.size:=by omega
  have J:w.heap.size<b.heap.size+1:=by omega
  have m:Hid (w,b):=za (((zm w.heap.size w).alloc (zd _) _).trans (c.mono (by simp)));have y:=za d;simp only[zt]at y;obtain⟨F,G,rfl,rfl,rfl,rfl,B,C,A,_⟩:=d.open_;clear c h d B C A;go_wp2;refine zl (v:=cr 0 0) (by simp[cr,results,ye,go_sem,o,i,l,j,zI,p]) rfl ?_;rw[r.out];refine⟨?_,0,0,rfl⟩;exact(((((m.out.setCell (by simp) _).setCell (by simp) _).setCell (by simp) _).setCell (by simp) _).alloc (by simp[World.setCell];omega) _)
theorem vR (f deep:Nat)(YL:deep<=8)(IH:Hid (∀(s:ByteArray) (at_:Nat) (w:World),at_<=s.size->s.size<=100000->
 Calls prog 43 #[s,at_,((deep+1:Nat):Int)] w fun e w'=>sZ s w (aN f (s.data.toList.drop at_)) e w')) (s:ByteArray) (at_:Nat) (w:World) (cG:at_<=s.size) (hs:s.size<=100000)
 (R:Option (Ty×List UInt8)) (HR:Hid (aN (f+1) (s.data.toList.drop at_)=R)) (aD:at_<s.size) (YO:s[at_].toNat=123):
 Calls prog 43 #[s,at_,deep] w fun e w'=>sZ s w R e w':=by
 have d1:decide (s.size<=at_)=false:=by simp;omega
 have d2:decide ((8:Int)<(deep:Int))=false:=by simp;omega
 have HC:Hid (aN (f+1) (s[at_]::s.data.toList.drop (at_+1))=R):=za (by rw[<-drop_cons s at_ aD];exact HR.out);obtain⟨ai,D⟩:∃ai,Hid (cg (s.data.toList.drop (at_+1))=ai):=⟨_,za rfl⟩
 clear HR;have e1:((s[at_].toNat:Int)==117)=false:=zp.2 (by omega);have e2:((s[at_].toNat:Int)==98)=false:=zp.2 (by omega);have e3:((s[at_].toNat:Int)==115)=false:=zp.2 (by omega);have e4:((s[at_].toNat:Int)==91)=false:=zp.2 (by omega);have e5:((s[at_].toNat:Int) !=123)=false:=by simp[YO]
 have Y:Hid (fL f s R (at_+1) [] 0):=za ⟨_,by
  have h1:=HC.out;rw[show s[at_]=123 from zT.1 YO,Kf]at h1;exact h1,by omega⟩
 clear YO HC D;go_enter yK,yC
 go_wp2_with fail
 go_loopw [1] (fun i wr=>∃(p:Nat) (acc:List Ty) (c:Nat) (K:Value),p<=s.size/\i= .int .i64 p/\Hid (fL f s R p acc c)/\acc.length<=p/\c<=p/\ag wr w.heap.size 70 #[(0:Int),(0:Int),nS,(0:Int)]/\ag wr (w.heap.size+1) 70 #[(5:Int),(0:Int),K,c]/\gA wr (w.heap.size+2) acc K/\(w,wr)/\w.heap.size+2<=wr.heap.size) (fun i _=>s.size-(intOf i).toNat)
 case atStart=>
  have aL:=ag.new (w.alloc (.cells #[(0:Int),(0:Int),nS,(0:Int)] 70)) 70 #[(5:Int),(0:Int),nS,(0:Int)];exact⟨at_+1,[],0,nS,by omega,by go_num,Y,by simp,by omega,(ag.new _ _ _).alloc _,by simpa using aL,gA.nil _ _,bO,by simp⟩
 case round=>
  obtain⟨p,acc,c,K,hp,rfl,hrel,aw,uC,Ln,A7,ll,aj,Sw⟩:=hrel;have SJ:=za Ln;have rk:=za A7;have ss:=za ll;have C:=za aj;obtain⟨A,n2,cap2,rfl,G1,aE,aC⟩:=ll.cy;obtain⟨y,n,u,r,lY,lX,lW,od⟩:=aU Ln;obtain⟨U,b1,Z,b3,tu,tw,tv,tz⟩:=aU A7;clear Ln A7 ll aj Y;by_cases S:p<s.size
  ·by_cases F:s[p].toNat=125
   ·have e6:((s[p].toNat:Int) !=125)=false:=by simp[F]
    have l:=za (hrel.out.ends S F);have al:=za (sX s (p+1) (by omega));clear F;go_wp2;refine zl (v:= .tuple #[.agg #[(5:Int),(0:Int),.slice A n2 cap2,c],.int .i64 ((p:Int)+1)]) (by simp[results,ye,go_sem,y,n,u,r]) rfl ?_;rw[l.out];refine⟨(((C.out.setCell (by simp) _).setCell (by simp) _).setCell (by simp) _).setCell (by simp) _,_,_,_,_,by rw[al.out];go_num, ?_⟩;have aB:gA _ (w.heap.size+2) acc (.slice A n2 cap2):=ss.out.only (L:= [w.heap.size]) (w':=(((wr.setCell (w.heap.size,0) (5:Int)).setCell (w.heap.size,1) (0:Int)).setCell (w.heap.size,2) (.slice A n2 cap2)).setCell (w.heap.size,3) c) (((((ae.refl _ _).setCell (by simp) _).setCell (by simp) _).setCell (by simp) _).setCell (by simp) _) (by simp);refine fX.ef (aB.ty (by omega) (aA (by omega) (by omega)) (aA (by omega) (by omega)) (aA (by omega) (by omega))) fun k _ I=> ?_
    have I:w.heap.size+2<=k:=I;show w.heap.size<=k
    omega
   have e6:((s[p].toNat:Int) !=125)=true:=by simp;omega
   go_upto_if 141 with fail
   go_cut [1] (fun i wx=>∃q:Nat,i= .int .i64 q/\wr=wx/\p<=q/\q<=s.size/\Hid (pY f s R q acc c))
   case first=>
    by_cases ha:acc= []
    ·subst ha;have m:=za (hrel.out.first S F);obtain rfl:n2=0:=G1.out;go_wp2_with fail
     go_meet;case rel=>exact⟨p,rfl,rfl,zd _,hp,m⟩
    have oP:0<n2:=by
     rw[G1.out];cases acc with
     |nil=>exact absurd rfl ha
     |cons a b=>simp
    by_cases X:s[p].toNat=44
    ·have e7:((s[p].toNat:Int) !=44)=false:=by simp[X]
     have m:=za (hrel.out.more S X ha);clear X;go_wp2_with fail
     go_meet;case rel=>exact⟨p+1,by go_num,rfl,by omega,by omega,m⟩
    have e7:((s[p].toNat:Int) !=44)=true:=by simp;omega
    have l:=za (hrel.out.bad S F X ha);go_wp2;refine zl (v:=cr 0 0) (by simp[cr,results,ye,go_sem,y,n,u,r]) rfl ?_;rw[l.out];exact⟨(((C.out.setCell (by simp) _).setCell (by simp) _).setCell (by simp) _).setCell (by simp) _,0,0,rfl⟩
   case rest=>
    obtain⟨q,rfl,rfl,af,DK,m⟩:=hcut;obtain⟨B,H⟩:∃B:Bool,Hid (B=true↔∃h:q<s.size,s[q].toNat=63):=⟨decide (∃h:q<s.size,s[q].toNat=63),za decide_eq_true_iff⟩
    clear e6 F S;go_upto_region 31 with fail
    go_cut [158] (fun v wx=>v= .bool B/\wr=wx)
    case first=>
     by_cases j:q<s.size
     ·by_cases N:s[q].toNat=63
      ·obtain rfl:B=true:=H.out.2 ⟨j,N⟩;have e8:((s[q].toNat:Int)==63)=true:=by simp[N]
       go_wp2_with fail
       go_meet;case rel=>exact⟨rfl,rfl⟩
      obtain rfl:B=false:=xI.2 fun h=>N (H.out.1 h).2
      have e8:((s[q].toNat:Int)==63)=false:=zp.2 (by omega);go_wp2_with fail
      go_meet;case rel=>exact⟨rfl,rfl⟩
     obtain rfl:B=false:=xI.2 fun h=>j (H.out.1 h).1
     go_wp2_with fail
     go_meet;case rel=>exact⟨rfl,rfl⟩
    case rest=>
     obtain⟨rfl,rfl⟩:=hcut;go_upto_if 158 with fail
     go_cut [1] (fun i W=>∃q c:Nat,i= .int .i64 q/\q<=s.size/\p<=q/\c<=q/\Hid (Oh f s R q acc c)/\Hid (ag W (w.heap.size+1) 70 #[(5:Int),(0:Int),.slice A n2 cap2,c])/\Hid (ag W w.heap.size 70 #[(0:Int),(0:Int),nS,(0:Int)])/\Hid (gA W (w.heap.size+2) acc (.slice A n2 cap2))/\Hid (w,W)/\w.heap.size+2<=W.heap.size)
     case first=>
      cases B with
      |true=>
       obtain⟨j,N⟩:=H.out.1 rfl;have M:=za (m.out.mark j N);clear N;go_wp2_with fail
       go_meet;case rel=>exact⟨q+1,c+1,by go_num,j,by omega,by omega,M,rk.out.store rfl,SJ.out.dE (by simp) _,ss.out.only ((ae.refl [w.heap.size+1] wr).setCell (by simp) _) (by simp),C.out.setCell (by simp) _,by simpa[World.setCell]using Sw⟩
      |false=>
       have D:Hid (∀h:q<s.size,s[q].toNat≠63):=za fun h e=>Bool.noConfusion (H.out.2 ⟨h,e⟩)
       by_cases ay:0<c
       ·have l:=za (m.out.none_ D.out ay);go_wp2;refine zl (v:=cr 0 0) (by simp[cr,results,ye,go_sem,y,n,u,r]) rfl ?_;rw[l.out];exact⟨(((C.out.setCell (by simp) _).setCell (by simp) _).setCell (by simp) _).setCell (by simp) _,0,0,rfl⟩
       obtain rfl:c=0:=by omega
       have M:=za (m.out.plain D.out);go_wp2_with fail
       go_meet;case rel=>exact⟨q,0,rfl,DK,af,by omega,M,rk,SJ,ss,C,Sw⟩
     case rest=>
      clear y n u r lY lX lW od U b1 Z b3 tu tw tv tz af DK m H rk SJ ss C uC Sw;obtain⟨q,c,rfl,j,af,uC,M,ak,ad,ab,YM,ao⟩:=hcut;obtain⟨W,hW⟩:=gL wc;rw[hW]at ak ad ab YM ao⊢;clear hW;have HI:Hid (∀(V:World) (i:Int),i=((q:Nat):Int)->Calls prog 43 #[s,i,((deep+1:Nat):Int)] V fun e w'=>sZ s V (aN f (s.data.toList.drop q)) e w'):=za (fun V i hi=>by subst hi;exact IH.out s q V j hs);have E9:Hid ((deep:Int)+1=((deep+1:Nat):Int)):=za (by omega);go_wp2_with fail
      rw[E9.out];refine(HI.out _ _ (by first|rfl|omega)).mono ?_;rintro e w4 kC;obtain⟨T,HT⟩:∃T,Hid (aN f (s.data.toList.drop q)=T):=⟨_,za rfl⟩
      rw[HT.out]at kC;cases T with
      |none=>
       obtain⟨d,v0,v1,rfl⟩:=kC;have l:=za (M.out.none HT.out);have SI:=d.size;have pA:w.heap.size<w4.heap.size:=by omega
       have ey:=za (YM.out.trans (d.mono (by omega)));obtain⟨y,n,u,r,lY,lX,lW,od⟩:=aU (ad.out.ah d (by omega));clear d;go_wp2;refine zl (v:=cr 0 0) (by simp[cr,results,ye,go_sem,y,n,u,r,zI,pA]) rfl ?_;rw[l.out];refine⟨?_,0,0,rfl⟩;exact(((((ey.out.setCell (by simp) _).setCell (by simp) _).setCell (by simp) _).setCell (by simp) _).alloc (by simp[World.setCell];omega) _)
      |some z=>
       obtain⟨aa,aq⟩:=z;obtain⟨d,c0,c1,c2,c3,rfl,hy⟩:=kC;obtain⟨D,pG,av⟩:=M.out.some j HT.out;have Y:=za D;have SI:=d.size;have ah:=za (ak.out.ah d (by omega));have ax:=za (ad.out.ah d (by omega));have ar:=za (ab.out.below d);have ey:=za (YM.out.trans (d.mono (by omega)));have ma:=ab.out.ge;have HY:Hid (∀o o',fX ((w4.alloc o).alloc o') (fun k=>w.heap.size+2<=k/\(Value.slice A n2 cap2).ownBlock≠some k) aa c0 c1 c2 c3):=za (by
        intro o o';refine fX.ah ?_ ?_ aa hy
        ·intro k I hS;have hS:W.heap.size<=k:=hS;exact⟨by omega,fun e=>by have:=(ma k e).2;omega⟩
        intro q j _;rw[zI _ _ _ (by rw[zt];omega),zI _ _ _ j])
       have pA:w.heap.size<w4.heap.size:=by omega
       have AX:w.heap.size+1<w4.heap.size:=by omega
       have Rt:=za ma;obtain⟨AA,nK,rfl,rfl,rfl,rfl,_⟩:=hy.open_;clear hy D ma d;obtain⟨U,b1,Z,b3,tu,tw,tv,tz⟩:=aU ah.out;generalize s.size-aq.length=pq at*;go_wp2_with (at_builtin;refine fY (by rfl) (.tmp 181) (.tmp 183) (by rfl) (w.heap.size+2) acc (by rfl) ((ar.out.below ((zm _ _).alloc (zd _) _)).below ((zm _ _).alloc (zd _) _)) aa (HY.out _ _) _ (by rfl) (by simp) (by simp) (by simp) (by simp) (by first|omega|simp) (by simp only[zt];omega) ?_)
       intro G J E x Uz GF O jV;have Re:∀k,k<w.heap.size+2->(Value.slice A n2 cap2).ownBlock≠some k:=fun k I e=>by
        have:=(Rt.out k e).1;omega
       have YN:=za (((ah.out.alloc _).alloc _).grown O (Re _ (by omega)));have az:=za (((ax.out.alloc _).alloc _).grown O (Re _ (by omega)));have fD:Hid (w,x):=za (((ey.out.alloc (by omega) _).alloc (by simp;omega) _).grown O (by simp;omega) (fun k I=>by have:=(Rt.out k I).1;omega));have NX:=O.size;simp only[zt]at NX;have au:=za GF;clear U b1 Z b3 tu tw tv tz O GF Re;obtain⟨U,b1,Z,b3,tu,tw,tv,tz⟩:=aU YN.out;go_wp2;go_roundw
       case rel=>
        have key:∃(p:Nat) (acc:List Ty) (c:Nat) (K:Value),p<=s.size/\Value.int .i64 (pq:Int)= .int .i64 p/\Hid (fL f s R p acc c)/\acc.length<=p/\c<=p/\ag (x.setCell (w.heap.size+1,2) (.slice (some (G,0)) J E)) w.heap.size 70 #[(0:Int),(0:Int),nS,(0:Int)]/\ag (x.setCell (w.heap.size+1,2) (.slice (some (G,0)) J E)) (w.heap.size+1) 70 #[(5:Int),(0:Int),K,c]/\gA (x.setCell (w.heap.size+1,2) (.slice (some (G,0)) J E)) (w.heap.size+2) acc K/\(w,x.setCell (w.heap.size+1,2) (.slice (some (G,0)) J E))/\w.heap.size+2<=(x.setCell (w.heap.size+1,2) (.slice (some (G,0)) J E)).heap.size:=by
         refine⟨pq,acc++ [aa],c,.slice (some (G,0)) J E,av,rfl,Y, ?_,by omega,az.out.dE (by simp) _, ?_, ?_,fD.out.setCell (by simp) _, ?_⟩
         ·simp only[zk,zz,zO]at aw⊢;omega
         ·exact YN.out.store rfl
         ·exact au.out.only ((ae.refl [w.heap.size+1] x).setCell (p:=(w.heap.size+1,2)) (by simp) _) (by simp)
         simp[World.setCell];omega
        first|exact key|((repeat apply Exists.intro);exact⟨key,rfl⟩)
       case measure=>simp[intOf];omega
  have l:=za (hrel.out.stop (by omega));go_wp2;refine zl (v:=cr 0 0) (by simp[cr,results,ye,go_sem,y,n,u,r]) rfl ?_;rw[l.out];exact⟨(((C.out.setCell (by simp) _).setCell (by simp) _).setCell (by simp) _).setCell (by simp) _,0,0,rfl⟩
theorem MW :∀(f deep:Nat),deep+f=9->∀(s:ByteArray) (at_:Nat) (w:World),at_<=s.size->s.size<=100000->
 Calls prog 43 #[s,at_,deep] w fun e w'=>sZ s w (aN f (s.data.toList.drop at_)) e w':=by
 intro f;induction f with
 |zero=>
  intro deep k s at_ w i h;have b:Hid (aN 0 (s.data.toList.drop at_)=none):=za rfl;generalize aN 0 (s.data.toList.drop at_)=R at*;have d:8<deep:=by omega
  clear k;by_cases j:at_<s.size
  ·go_enter yK,yC
   go_wp2;refine zl (v:=cr 0 0) (by simp[cr,results,ye,go_sem,b]) rfl ?_;rw[b.out];exact⟨bO,0,0,rfl⟩
  go_enter yK,yC
  go_wp2;refine zl (v:=cr 0 0) (by simp[cr,results,ye,go_sem,b]) rfl ?_;rw[b.out];exact⟨bO,0,0,rfl⟩
 |succ f ih=>
  intro deep k s at_ w i h;have l:=za (fun s at_ w=>ih (deep+1) (by omega) s at_ w);have d:deep<=8:=by omega
  clear ih k;obtain⟨R,c⟩:∃R,Hid (aN (f+1) (s.data.toList.drop at_)=R):=⟨_,za rfl⟩
  rw[c.out];by_cases j:at_<s.size
  ·by_cases n:s[at_].toNat=91
   ·exact Df f deep d l s at_ w i h R c j n
   by_cases m:s[at_].toNat=123
   ·exact vR f deep d l s at_ w i h R c j m
   exact FH f deep d l s at_ w i h R c j n m
  have b:Hid (R=none):=za (by rw[<-c.out,zK (by simp;omega),MV]);clear c;go_enter yK,yC
  go_wp2;refine zl (v:=cr 0 0) (by simp[cr,results,ye,go_sem,b]) rfl ?_;rw[b.out];exact⟨bO,0,0,rfl⟩
theorem s0 {p:List UInt8->Option (Ty×List UInt8)}(j:∀l y r,p l=some (y,r)->y.count+r.length<=l.length):∀n l acc e y r,fx p n l acc e=some (y,r)->y.count+r.length<=aZ acc+l.length
 |0,_,_,_,_,_,h=>by simp[fx]at h
 |n+1,[],_,_,_,_,h=>by simp[fx]at h
 |n+1,c::l,acc,e,y,r,h=>by
  unfold fx at h;split at h
  ·injection h with h;injection h with d b;rw[<-d,<-b];simp[Ty.count];omega
  split at h
  ·cases h
  rename_i m d
  split at h
  ·cases h
  rename_i o s b
  split at h
  ·cases h
  rename_i q w k
  have k1:=(BA d).length_le;have k2:=(Kg b).length_le;have u:=j _ _ _ k;have i:=s0 j n _ _ _ _ _ h;rw[fI]at i;simp only[aZ]at i;omega
theorem ny :∀(f:Nat) (l:List UInt8) (y:Ty) (r:List UInt8),aN f l=some (y,r)->y.count+r.length<=l.length
 |0,_,_,_,h=>by simp[aN]at h
 |f+1,[],_,_,h=>by simp[aN]at h
 |f+1,c::l,y,r,h=>by
  have e:=(gj _ _ _ _ h).2;have j:=gj _ _ _ _ h;unfold aN at h;split at h
  ·split at h
   ·cases h
   split at h
   ·injection h with h;injection h with b h2;subst b;simp[Ty.count,aZ]at e⊢;omega
   cases h
  split at h
  ·split at h
   ·cases h
   injection h with h;injection h with b h2;subst b;simp[Ty.count,aZ]at e⊢;omega
  split at h
  ·split at h
   ·cases h
   injection h with h;injection h with b h2;subst b;simp[Ty.count,aZ]at e⊢;omega
  split at h
  ·split at h
   ·cases h
   rename_i x i b
   have k1:=ny f _ _ _ b;have k2:=BD h;have m:y.count=1+x.count:=by
    unfold gH at h;match i,h with
    |d::i,h=>
     simp only at h;split at h
     ·split at h
      ·cases h
      ·cases h
      split at h
      ·injection h with h;injection h with h3 h4;rw[<-h3];simp[Ty.count,aZ]
      cases h
     cases h
   have:=k2.2;simp;omega
  split at h
  ·have k:=s0 (ny f) _ _ _ _ _ _ h;simp[aZ]at k⊢;omega
  cases h
def Vr :Option (Ty×List UInt8)->Option Ty
 |none=>none
 |some (x,[])=>if x.may then some x else none
 |some (_,_::_)=>none
theorem MX (l:List UInt8):cL l=Vr (aN 8 l):=by
 unfold cL;rcases aN 8 l with _|⟨x,r⟩
 ·rfl
 cases r<;>rfl
theorem IY (s:ByteArray)(w:World)(i:s.size<=100000):
 Calls prog 26 #[s] w fun e w'=>Fw w (cL s.data.toList) e w':=by
 have F:=za (MW 8 1 rfl s 0 (w.alloc (.cells #[(0:Int),(0:Int),nS,(0:Int)] 70)) (yb _) i);obtain⟨T,H⟩:∃T,Hid (aN 8 s.data.toList=T):=⟨_,za rfl⟩
 rw[zL,H.out]at F;obtain⟨R,N⟩:∃R,Hid (cL s.data.toList=R):=⟨_,za rfl⟩
 rw[N.out];have O:Hid (Vr T=R):=za (by rw[<-N.out,MX,H.out]);clear N;cases T with
 |none=>
  have y:Hid (R=none):=za O.out.symm;go_enter func26,ntmps26
  go_wp2_with fail
  refine F.out.mono ?_;rintro e h ⟨b,v0,v1,rfl⟩;have d:=(ag.new w 70 #[(0:Int),(0:Int),nS,(0:Int)]).ah b (by simp);have U:=za d;obtain⟨j,n,l,o,I,M,G,K⟩:=aU d;have hz:=b.size;simp only[zt]at hz;have B:w.heap.size<h.heap.size:=by omega
  have C:Hid (w,h):=za (((zm w.heap.size w).alloc (zd _) _).trans (b.mono (by simp)));clear b d;have n1:((-1:Int) !=(s.size:Int))=true:=by simp
  go_wp2;refine zl (v:= .tuple #[.agg #[(0:Int),(0:Int),nS,(0:Int)],(3:Int)]) (by simp[results,results26,go_sem,j,n,l,o,zI,B]) rfl ?_;rw[y.out];exact⟨(((((C.out.setCell (by simp) _).setCell (by simp) _).setCell (by simp) _).setCell (by simp) _).alloc (by simp[World.setCell];omega) _),rfl⟩
 |some z=>
  obtain⟨x,r⟩:=z;have S:=ny _ _ _ _ H.out;have J:=(gj _ _ _ _ H.out).2;rw[aa]at S J;cases r with
  |cons c r=>
   have y:Hid (R=none):=za O.out.symm;have n1:(((s.size-(c::r).length:Nat):Int) !=(s.size:Int))=true:=by simp at J⊢;omega
   have n2:((s.size-(c::r).length) !=s.size)=true:=by simp at J⊢;omega
   generalize s.size-(c::r).length=q at*;go_enter func26,ntmps26
   go_wp2_with fail
   refine F.out.mono ?_;rintro e h ⟨b,c0,c1,c2,c3,rfl,D⟩;obtain⟨p,u,rfl,rfl,rfl,rfl,_⟩:=D.open_;have d:=(ag.new w 70 #[(0:Int),(0:Int),nS,(0:Int)]).ah b (by simp);have U:=za d;obtain⟨j,n,l,o,I,M,G,K⟩:=aU d;have hz:=b.size;simp only[zt]at hz;have B:w.heap.size<h.heap.size:=by omega
   have C:Hid (w,h):=za (((zm w.heap.size w).alloc (zd _) _).trans (b.mono (by simp)));clear b d;go_wp2;refine zl (v:= .tuple #[.agg #[(0:Int),(0:Int),nS,(0:Int)],(3:Int)]) (by simp[results,results26,go_sem,j,n,l,o,zI,B]) rfl ?_;rw[y.out];exact⟨(((((C.out.setCell (by simp) _).setCell (by simp) _).setCell (by simp) _).setCell (by simp) _).alloc (by simp[World.setCell];omega) _),rfl⟩
  |nil=>
   have n1:((s.size:Int) !=(s.size:Int))=false:=by simp
   have n2:(s.size !=s.size)=false:=by simp
   have ad:=za S;obtain⟨m,E⟩:∃m,x.may=m:=⟨_,rfl⟩
   have y:Hid (R=if m then some x else none):=za (by rw[<-E];exact O.out.symm);clear S J;go_enter func26,ntmps26
   go_wp2_with fail
   refine F.out.mono ?_;rintro e h ⟨b,c0,c1,c2,c3,rfl,D⟩;have Y:=za D;obtain⟨p,u,rfl,rfl,rfl,rfl,_⟩:=D.open_;have d:=(ag.new w 70 #[(0:Int),(0:Int),nS,(0:Int)]).ah b (by simp);have U:=za d;obtain⟨j,n,l,o,I,M,G,K⟩:=aU d;have hz:=b.size;simp only[zt]at hz;have B:w.heap.size<h.heap.size:=by omega
   have C:Hid (w,h):=za (((zm w.heap.size w).alloc (zd _) _).trans (b.mono (by simp)));clear b d;have W:=fX.tJ x (Y.out.below ((zm _ _).alloc (zd _) (.cells #[x.kind,x.size,.slice p x.sub.length u,x.tail] 70)));have HM:=za (KB x _ (h.alloc (.cells #[x.kind,x.size,.slice p x.sub.length u,x.tail] 70)) _ _ _ _ W (zd _) (by have:=ad.out;omega));rw[E]at HM;have ae:=za E;clear W E D;go_wp2_with fail
   refine HM.out.mono ?_;rintro e w5 ⟨rfl,A⟩;clear j n l o I M G K;obtain⟨j,n,l,o,I,M,G,K⟩:=aU ((U.out.alloc _).ah A (by simp;omega));obtain⟨b0,b1,b2,b3,tu,tw,tv,tz⟩:=aU ((ag.new h 70 #[x.kind,x.size,.slice p x.sub.length u,x.tail]).ah A (by simp));have X:Hid (w,w5):=za ((C.out.alloc (by omega) _).trans (A.mono (by simp;omega)));have ab:=za ((Y.out.below ((zm _ _).alloc (zd _) (.cells #[x.kind,x.size,.slice p x.sub.length u,x.tail] 70))).below A);clear A;cases m with
   |true=>
    go_wp2;refine zl (v:= .tuple #[.agg #[x.kind,x.size,.slice p x.sub.length u,x.tail],(0:Int)]) (by simp[results,results26,go_sem,j,n,l,o]) rfl ?_;rw[y.out];refine⟨(((X.out.setCell (by simp) _).setCell (by simp) _).setCell (by simp) _).setCell (by simp) _,_,_,_,_,rfl, ?_⟩;refine ab.out.only (L:= [w.heap.size]) CM ?_ ?_
    ·intro k Z i;have Z:k=w.heap.size:=by simpa using Z
     have i:(w.alloc (.cells #[(0:Int),(0:Int),nS,(0:Int)] 70)).heap.size<=k:=i;simp at i;omega
    intro k _ i;have i:(w.alloc (.cells #[(0:Int),(0:Int),nS,(0:Int)] 70)).heap.size<=k:=i;simp at i;show w.heap.size<=k
    omega
   |false=>
    go_wp2;refine zl (v:= .tuple #[.agg #[(0:Int),(0:Int),nS,(0:Int)],(3:Int)]) (by simp[results,results26,go_sem,j,n,l,o,zI,B]) rfl ?_;rw[y.out];exact⟨(((X.out.setCell (by simp) _).setCell (by simp) _).setCell (by simp) _).setCell (by simp) _,rfl⟩
