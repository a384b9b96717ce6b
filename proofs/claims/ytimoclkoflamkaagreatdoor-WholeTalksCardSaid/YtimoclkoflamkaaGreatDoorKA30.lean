/- package schema: a List is read beside the document's reader (plain). -/
import Derived.Test.YtimoclkoflamkaaGreatDoorKA21
import Derived.DeepKeys5
set_option linter.all false
set_option maxRecDepth 100000
set_option maxHeartbeats 3200000
open Go.Proofs.Tryz
namespace Go.Proofs.YtimoclkoflamkaaGreatDoor
variable {s out:ByteArray}{q f p L n i d L' k:Nat}{acc:List Ty}{y x t:Ty}{w wr:World}{D:DataW Unit}
def yc:=@results43
def yC:=@ntmps43
def yH:=@func43
def xR:=@Option.some.inj
def Z7:=@underlying237
theorem J6 {o:Option (Ty×List UInt8)}{r:List UInt8}(h:wa o=some (t,r)):∃x b,o=some (x,b)/\gN x b=some (t,r):=by
 match o,h with
 |some (x,b),h=>exact⟨x,b,rfl,h⟩
theorem J7 {c:Nat}(m:0<L)(e:aN (f+1) (s.data.toList.drop p)=wa (aN f (s.data.toList.drop (p+1))))(h:uI f (L-1) s (p+1) x false q d)(l:c<=s.size):uI (f+1) L s p y false c d:=by
 refine⟨(by intro h;cases h),fun _ o r b=> ?_,l⟩;rw[e]at b;obtain⟨z,i,j,k⟩:=J6 b;obtain⟨n,rfl⟩:=NZ k;have:=(h.2.1 rfl z i j).list n;rwa [show 1+(L-1)=L from by omega]at this
theorem pS {l:Nat}(e:aN (f+1) (s.data.toList.drop p)=wa (aN f (s.data.toList.drop (p+1))))(h:uI f (L-1) s (p+1) x true q k)(j:∀b r,gN x (s.data.toList.drop q)=some (b,r)->ef L b)(i:d<=s.size):uI (f+1) L s p y false d l:=by
 refine⟨(by intro h;cases h),fun _ b r c=> ?_,i⟩;rw[e,(h.1 rfl).1]at c;exact j b r c
theorem J8 {c:Nat}{b:Nat}(m:0<L)(d:aN (f+1) (s.data.toList.drop p)=wa (aN f (s.data.toList.drop (p+1))))(h:uI f (L-1) s (p+1) x true q c)(j:gN x (s.data.toList.drop q)=some (.mk 4 n [x] 0,s.data.toList.drop b))(o:q<b)(i:b<=s.size):uI (f+1) L s p (.mk 4 n [x] 0) true b c:=by
 obtain⟨e,l,k⟩:=h.1 rfl;refine⟨fun _=>⟨by rw[d,e];exact j, ?_,by omega⟩,(by intro h;cases h),i⟩;simp only[Ty.count,ba];omega
theorem Sa (x:Ty)(h:∀b:q<s.size,s[q].toNat≠58)(L:Nat):∀d r,gN x (s.data.toList.drop q)=some (d,r)->ef L d:=by
 intro d r c;by_cases b:q<s.size
 ·rw[drop_cons s q b,we x _ _ (h b)]at c;cases c
 rw[zL (by simpa using b)]at c;cases c
theorem tail_at (x:Ty)(b:q<s.size)(h:s[q].toNat=58):gN x (s.data.toList.drop q)=i' x (cq (s.data.toList.drop (q+1))):=by
 rw[drop_cons s q b,show s[q]=58 from zP.1 h,nh]
theorem Sb (x:Ty)(d:q<s.size)(h:s[q].toNat=58)(e:oZ 1024 s (q+1) n false i)(L:Nat):∀b r,gN x (s.data.toList.drop q)=some (b,r)->ef L b:=by
 intro b r c;rw[tail_at x d h]at c;exact NY (e.2.1 rfl) L x b r c
theorem OJ {c:Nat}(x:Ty)(j:q<s.size)(h:s[q].toNat=58)(k:oZ 1024 s (q+1) n true c)(l:∀j:c<s.size,s[c].toNat≠93)(L:Nat):∀i r,gN x (s.data.toList.drop q)=some (i,r)->ef L i:=by
 intro i r b;rw[tail_at x j h,(k.1 rfl).1]at b;by_cases e:c<s.size
 ·rw[drop_cons s c e,i']at b;split at b
  ·rename_i d
   exact absurd (by first|exact d|simpa using d|(rw[d];rfl)) (l e)
  cases b
 rw[zL (by simpa using e)]at b;cases b
theorem Sc {b:Nat}(x:Ty)(e:q<s.size)(h:s[q].toNat=58)(i:oZ 1024 s (q+1) n true b)(d:b<s.size)(c:s[b].toNat=93):gN x (s.data.toList.drop q)=some (.mk 4 n [x] 0,s.data.toList.drop (b+1)):=by
 rw[tail_at x e h,(i.1 rfl).1,drop_cons s b d,i',zg (by first|exact c|exact zP.1 c)]
theorem C7 (f:Nat)(h:s.size<=q):aN f (s.data.toList.drop q)=none:=by
 rw[zL (by simpa using h)];cases f<;>rfl
theorem qy.gone {R:Option (Ty×List UInt8)}{b:Nat}(d:R=none)(h:s.size<=q):qy f s R q acc b:=by
 refine⟨0, ?_,by rw[zL (by simpa using h)];simp⟩;subst d;have hi:=C7 f h;rw[zL (by simpa using h)]at hi⊢;by_cases c:0<b
 ·simp[tQ,c]
 simp[tQ,c,hi]
theorem J9 {R:Option (Ty×List UInt8)}(h:fO f s R p [] 0)(c:∀b:p<s.size,s[p].toNat≠125):qy f s R p [] 0:=by
 by_cases b:p<s.size
 ·exact h.first b (c b)
 exact qy.gone (h.stop (by omega)) (by omega)
theorem C8 {R:Option (Ty×List UInt8)}(h:fO f s R p acc i)(d:acc≠ [])(c:∀b:p<s.size,s[p].toNat≠125)(e:∀b:p<s.size,s[p].toNat≠44):R=none:=by
 by_cases b:p<s.size
 ·exact h.bad b (c b) (e b) d
 exact h.stop (by omega)
theorem Mm {R:Option (Ty×List UInt8)}{b:Nat}(h:Qc f s R q acc d)(j:q<=s.size)(e:uI f L s q y true b L'):fO f s R b (acc++ [y]) d:=by
 obtain⟨i,_,_⟩:=e.1 rfl;have c:=(h.some j i).1;rw[zN,aa,show s.size-(s.size-b)=b from by have:=e.2.2;omega]at c;exact c
theorem tX (acc:List Ty)(y:Ty):ba (acc++ [y])=ba acc+y.count:=by simp[fL,ba]
theorem J' {c:Nat}{R:Option (Ty×List UInt8)}{b:Nat}(e:R=some (.mk 5 0 acc b,s.data.toList.drop q))(i:L+ba acc=c)(d:q<=s.size):QX (1+c) s R (.mk 5 0 acc b) true q L:=
 ⟨fun _=>⟨e,by simp[Ty.count];omega⟩,(by intro h;cases h),d⟩
theorem Ej {R:Option (Ty×List UInt8)}(t:Ty)(c:R=none)(b:q<=s.size):QX d s R t false q L:=
 ⟨(by intro h;cases h),(by intro _ e r h;rw[c]at h;cases h),b⟩
theorem Sd {b:Nat}{R:Option (Ty×List UInt8)}{c:Nat}{e:Nat}(t:Ty)(h:Qc f s R q acc e)(d:uI f L s q y false c L')(l:L+ba acc=b):QX (1+b) s R t false c k:=by
 refine⟨(by intro h;cases h),fun _ j r i=> ?_,d.2.2⟩;have:=Va h (d.2.1 rfl) j r i;rwa [show 1+ba acc+L=1+b from by omega]at this
theorem Se (b:p<s.size)(d:s[p].toNat=123):fO f s (aN (f+1) (s.data.toList.drop p)) (p+1) [] 0:=
 ⟨_,by rw[qW (c:=123) b d,LJ],by omega⟩
theorem aes {ok:Bool}(h:QX L s (aN f (s.data.toList.drop p)) t ok q L'):uI f L s p t ok q L':=by
 refine⟨fun d=> ?_,h.2.1,h.2.2⟩;obtain⟨b,e⟩:=h.1 d;have c:=(gB _ _ _ _ b).2;simp only[zN,aa]at c;exact⟨b,e,by have:=h.2.2;omega⟩
open Go.RowKit
def nc (l:List Nat):Array Value:=(l.map fun n=>Value.int .u64 (n:Nat)).toArray
theorem aet (l:List Nat)(i:Nat)(h:i<l.length):(nc l)[i]?=some (.int .u64 (l.getD i 0:Nat)):=by
 simp[nc,zu,zr h]
theorem af.num {g:Nat}{t:TypeId}{l:List Nat}(h:af w g t (nc l))(hi:i<l.length):w.cell? (g,i)=some (.int .u64 (l.getD i 0:Nat)):=(h.cell i).trans (aet l i hi)
theorem VK (s:ByteArray)(j i:Nat)(w:World)(b:j<i)(hi:i<=s.size)(h:s.size<=65536):
 Calls prog 178 #[s,j,i] w fun e w'=>e= .returned (.int .i64 (mt s.data.toList j i 64))/\(w,w'):=
 (VH s j i w b hi (by omega)).mono fun e w' ⟨c,m,d⟩=>⟨c,by rw[d];exact(zi _ _).bI m⟩
def C9 (s:ByteArray)(w:World)(i p f:Nat)(out K7:ByteArray)(wr:World):Prop:=
 p<=i/\i<=s.size/\K7.data.toList=(s.data.toList.take i).drop p/\out.data.toList++pk s.data.toList f p i=pack s.data.toList/\s.size-i<f/\(w,wr)
theorem C9.none {d:ByteArray}(h:C9 s w i p f out d wr)(hi:i<s.size)(m:Ju s.data.toList i i=none)(x:ByteArray)(hx:x.data.toList= [s[i]])(c:World)(j:Below w.heap.size w c):C9 s w (i+1) p (f-1) out (d++x) c:=by
 obtain⟨k,l,e,b,o,n⟩:=h;obtain⟨g,rfl⟩:∃g,f=g+1:=⟨f-1,by omega⟩
 unfold pk at b;rw[zg (by simpa using hi),m]at b;refine⟨by omega,by omega, ?_,b,by omega,j⟩;rw[aX,e,hx,jw s i hi,yy (by rw[length_take s i l];exact k)]
theorem C9.some {j:Nat}{k a b:ByteArray}(h:C9 s w i p f out k wr)(hi:i<s.size)(m:Ju s.data.toList i i=some j)(r:a.data.toList=im k.data.toList)(u:b.data.toList=kW (mt s.data.toList j i 64) (i-j))(d:World)(o:Below w.heap.size w d)(e:ByteArray)(q:e.data.toList= []):
 C9 s w (i+mt s.data.toList j i 64) (i+mt s.data.toList j i 64) (f-1) (out++a++b) e d:=by
 obtain⟨A,x,n,c,z,y⟩:=h;obtain⟨g,rfl⟩:∃g,f=g+1:=⟨f-1,by omega⟩
 unfold pk at c;rw[zg (by simpa using hi),m]at c;simp only at c;have l:=(CD s.data.toList 64 j i).2 (by simpa using x);have B:=(qw _ _ _ _ m).2;rw[aa]at l;refine⟨ze _,l, ?_, ?_,by simp;omega,o⟩
 ·rw[q,zL];rw[zQ];omega
 rw[<-c,aX,aX,r,u,n];simp
open Go.RowKit Go.Maps
theorem laidOut :laidOutB prog=true:=by kernel_rfl
theorem sP :Keyed prog 237:=Keyed.of_law (deep_law_gate laidOut (zX (by kernel_rfl)) (zX (by kernel_rfl)) (by kernel_rfl) (by kernel_rfl))
theorem Mn (w:World):(zeroValue 3).run prog w= .ok (0:Int) w:=by kernel_rfl
theorem aiP (a b c d:UInt8):∃l,keyOf prog 237 (.agg #[.int .u8 a.toNat,.int .u8 b.toNat,.int .u8 c.toNat,.int .u8 d.toNat])=some l:=by
 have o:∀x:UInt8,(Lit.int .u8 (x.toNat:Int)).wf=true:=by
  intro x;have:=x.toNat_lt;simp[Lit.wf,IntKind.min,IntKind.max,IntKind.signed,IntKind.bits];omega
 have h:(prog.keyType 237)=true:=by kernel_rfl
 have e:prog.cellsOf 237=4:=by kernel_rfl
 have p:prog.cellsOf 5=1:=by kernel_rfl
 obtain⟨m,j⟩:∃m,prog.types.size+1=m+2:=⟨prog.types.size-1,by have:1<=prog.types.size:=zX (by kernel_rfl);omega⟩
 refine⟨.string (keyBytes [.int .u8 a.toNat,.int .u8 b.toNat,.int .u8 c.toNat,.int .u8 d.toNat]), ?_⟩;have i:List.range 4= [0,1,2,3]:=rfl;have n:Value.formed prog 237 (.agg #[.int .u8 a.toNat,.int .u8 b.toNat,.int .u8 c.toNat,.int .u8 d.toNat])=true:=by
  simp[Value.formed,Z7,e]
 have k:prog.keyLits (m+2) 237 [.int .u8 a.toNat,.int .u8 b.toNat,.int .u8 c.toNat,.int .u8 d.toNat]=some [.int .u8 a.toNat,.int .u8 b.toNat,.int .u8 c.toNat,.int .u8 d.toNat]:=by
  simp[Program.keyLits,Z7,ym,e,p,i,o]
 simp only[keyOf,Z7,h,n,j];have:(Value.agg #[.int .u8 a.toNat,.int .u8 b.toNat,.int .u8 c.toNat,.int .u8 d.toNat]).cells.toList= [.int .u8 a.toNat,.int .u8 b.toNat,.int .u8 c.toNat,.int .u8 d.toNat]:=rfl;rw[this,k];rfl
def gv (L:List UInt8)(i:Nat):Value:= .agg #[.int .u8 (L.getD i 0).toNat,.int .u8 (L.getD (i+1) 0).toNat,.int .u8 (L.getD (i+2) 0).toNat,.int .u8 (L.getD (i+3) 0).toNat]
theorem Sf (L:List UInt8)(i:Nat):∃l,keyOf prog 237 (gv L i)=some l:=aiP _ _ _ _
noncomputable def gl (L:List UInt8)(i:Nat):Lit:=(Sf L i).choose
theorem sQ (L:List UInt8)(i:Nat):keyOf prog 237 (gv L i)=some (gl L i):=(Sf L i).choose_spec
theorem kz (L:List UInt8)(a b:Nat)(c:a<L.length)(d:b<L.length):(L.getD a 0).toNat=(L.getD b 0).toNat↔L[a]?=L[b]?:=by
 rw[zu,zu,zr c,zr d];simp[zP]
theorem XC (L:List UInt8)(a b:Nat)(i:a+4<=L.length)(j:b+4<=L.length):gl L a=gl L b↔fF L a b:=by
 constructor
 ·intro h;have d:=sQ L a;rw[h]at d;have c:=sP.inj d (sQ L b);unfold gv at c;injection c with c;simp only[Array.mk.injEq,List.cons.injEq,Value.int.injEq,true_and,and_true,Int.natCast_inj]at c;exact⟨(kz L _ _ (by omega) (by omega)).1 c.1,(kz L _ _ (by omega) (by omega)).1 c.2.1,(kz L _ _ (by omega) (by omega)).1 c.2.2.1,(kz L _ _ (by omega) (by omega)).1 c.2.2.2⟩
 intro h;have e:gv L a=gv L b:=by
  unfold gv;rw[(kz L _ _ (by omega) (by omega)).2 h.1,(kz L _ _ (by omega) (by omega)).2 h.2.1,(kz L _ _ (by omega) (by omega)).2 h.2.2.1,(kz L _ _ (by omega) (by omega)).2 h.2.2.2]
 have d:=sQ L a;rw[e,sQ L b]at d;exact(xR d).symm
def MI (L:List UInt8)(D:DataW Unit)(n:Nat):Prop:=IsMap D/\∀a,a+4<=L.length->
 (∀j,jN L a n=some j->Maps.has D (gl L a)=true/\D.atKey (gl L a) (.lit (.int .i64 0))= .lit (.int .i64 j))/\(jN L a n=none->Maps.has D (gl L a)=false)
theorem MI.start (L:List UInt8):MI L (.map []) 0:=⟨⟨[],rfl⟩,fun a _=>⟨fun j h=>by simp[jN]at h,fun _=>rfl⟩⟩
theorem MI.skip {L:List UInt8}(h:MI L D n)(b:¬n+4<=L.length):MI L D (n+1):=by
 refine⟨h.1,fun a c=> ?_⟩;rw[tN L a n (fun d=>b d.1)];exact h.2 a c
theorem MI.put {L:List UInt8}(h:MI L D n)(k:n+4<=L.length):MI L (D.put (gl L n) (.lit (.int .i64 n))) (n+1):=by
 have m:WideAt.IsKeyLit (gl L n):=sP.key (sQ L n);refine⟨h.1.put _ _,fun a i=> ?_⟩;by_cases b:fF L n a
 ·have e:gl L a=gl L n:=((XC L n a k i).2 b).symm;rw[JT L a n k b,e];refine⟨fun j d=> ?_,fun c=>by cases c⟩;injection d with d;subst d;exact⟨has_put_same h.1 m _,atKey_put_same h.1 m _ _⟩
 rw[tN L a n (fun c=>b c.2)];have l:gl L a≠gl L n:=fun e=>b ((XC L n a k i).1 e.symm)
 rw[has_put_other l,atKey_put_other l];exact h.2 a i
def tY (s:ByteArray)(w:World)(R:Option (Ty×List UInt8))(e:Ending)(w':World):Prop:=
 (w,w')/\match R with
  |none=>∃v0 v1:Int,e= .returned (.tuple #[.agg #[v0,v1,nS,(0:Int)],.int .i64 (-1)])
  |some (x,r)=>∃c0 c1 c2 c3,e= .returned (.tuple #[.agg #[c0,c1,c2,c3],(s.size-r.length:Nat)])/\gd w' (w.heap.size<= ·) x c0 c1 c2 c3
theorem OK (f:Nat):aN f []=none:=by cases f<;>rfl
theorem Ek (X:World)(t:TypeId)(b:Array Value)(n:Nat)(h:X.heap.size=n):af (X.alloc (.cells b t)) n t b:=by subst h;exact af.new X t b
def cD (v0 v1:Int):Value:= .tuple #[.agg #[v0,v1,nS,(0:Int)],.int .i64 (-1)]
theorem GO (f deep:Nat)(M:deep<=8)(S:Hid (∀(s:ByteArray) (at_:Nat) (w:World),at_<=s.size->s.size<=100000->
 Calls prog 43 #[s,at_,((deep+1:Nat):Int)] w fun e w'=>tY s w (aN f (s.data.toList.drop at_)) e w')) (s:ByteArray) (at_:Nat) (w:World) (W:at_<=s.size) (I:s.size<=100000)
 (R:Option (Ty×List UInt8)) (B:Hid (aN (f+1) (s.data.toList.drop at_)=R)) (G:at_<s.size) (C:s[at_].toNat≠91) (D:s[at_].toNat≠123):
 Calls prog 43 #[s,at_,deep] w fun e w'=>tY s w R e w':=by
 have U:decide (s.size<=at_)=false:=by simp;omega
 have X:decide ((8:Int)<(deep:Int))=false:=by simp;omega
 have h:Hid (aN (f+1) (s[at_]::s.data.toList.drop (at_+1))=R):=za (by rw[<-drop_cons s at_ G];exact B.out);have i:=za (fun w=>pR s (at_+1) w (by omega) I);have K:Hid (((at_+1:Nat):Int)=(at_:Int)+1):=za (by omega);obtain⟨N,k⟩:∃N,Hid (cq (s.data.toList.drop (at_+1))=N):=⟨_,za rfl⟩
 rw[k.out,K.out]at i;clear B;by_cases hu:s[at_].toNat=117
 ·have H:((s[at_].toNat:Int)==117)=true:=by simp[hu]
  have b:Hid (BI N=R):=za (by rw[<-h.out,show s[at_]=117 from zP.1 hu,LF,k.out]);clear hu h;cases N with
  |none=>
   have c:Hid (R=none):=za b.out.symm;clear b;go_enter yH,yC
   go_wp2_with fail
   refine(i.out _).mono ?_;rintro e w' ⟨rfl,rfl⟩;simp only[eA];go_wp2;refine zj (v:=cD 1 0) (by simp[cD,results,yc,go_sem]) rfl ?_;rw[c.out];exact⟨bQ,1,0,rfl⟩
  |some z=>
   obtain⟨n,r⟩:=z;obtain⟨m,o,y,A⟩:=qz (by omega) k.out;by_cases j:n%8=0
   ·have c:Hid (R=some (Ty.mk 1 ((n/8:Nat):Int) [] 0,r)):=za (by rw[<-b.out];simp[BI,j]);have E:((n:Int)%8 !=0)=false:=by simp;omega
    have u:Hid (((n/8:Nat):Int)=(n:Int)/8):=za (by omega);clear b j m;obtain⟨q,d⟩:∃q,s.size-r.length=q:=⟨_,rfl⟩
    have x:=za d;rw[d]at o y;go_enter yH,yC
    go_wp2_with fail
    refine(i.out _).mono ?_;rintro e w' ⟨rfl,rfl⟩;simp only[eA,d];clear d;go_wp2;refine zj (v:= .tuple #[.agg #[.int .i64 1,.int .i64 ((n:Int)/8),nS,(0:Int)],(q:Int)]) (by simp[results,yc,go_sem]) rfl ?_;rw[c.out];refine⟨bQ,_,_,_,_,by rw[x.out], ?_⟩;first|exact gd.leaf (aA (by omega) (by omega)) (aA (by omega) (by omega)) (aA (by omega) (by omega))|(rw[u.out];exact gd.leaf (aA (by omega) (by omega)) (aA (by omega) (by omega)) (aA (by omega) (by omega)))
   have c:Hid (R=none):=za (by rw[<-b.out];simp[BI,j]);have E:((n:Int)%8 !=0)=true:=by simp;omega
   clear b j m;go_enter yH,yC
   go_wp2_with fail
   refine(i.out _).mono ?_;rintro e w' ⟨rfl,rfl⟩;simp only[eA];go_wp2;refine zj (v:=cD 0 0) (by simp[cD,results,yc,go_sem,]) rfl ?_;rw[c.out];exact⟨bQ,0,0,rfl⟩
 have H:((s[at_].toNat:Int)==117)=false:=zl.2 (by omega);have E:True:=trivial;by_cases l:s[at_].toNat=98
 ·have J:((s[at_].toNat:Int)==98)=true:=by simp[l]
  have b:Hid (uH 2 N=R):=za (by rw[<-h.out,show s[at_]=98 from zP.1 l,LG,k.out]);clear hu l h;cases N with
  |none=>
   have c:Hid (R=none):=za b.out.symm;clear b;go_enter yH,yC
   go_wp2_with fail
   refine(i.out _).mono ?_;rintro e w' ⟨rfl,rfl⟩;simp only[eA];go_wp2;refine zj (v:=cD 2 0) (by simp[cD,results,yc,go_sem]) rfl ?_;rw[c.out];exact⟨bQ,2,0,rfl⟩
  |some z=>
   obtain⟨n,r⟩:=z;obtain⟨m,o,y,A⟩:=qz (by omega) k.out;have c:Hid (R=some (Ty.mk 2 (n:Int) [] 0,r)):=za b.out.symm;have j:True:=trivial;have u:Hid (((n/8:Nat):Int)=(n:Int)/8):=za (by omega);clear b j m;obtain⟨q,d⟩:∃q,s.size-r.length=q:=⟨_,rfl⟩
   have x:=za d;rw[d]at o y;go_enter yH,yC
   go_wp2_with fail
   refine(i.out _).mono ?_;rintro e w' ⟨rfl,rfl⟩;simp only[eA,d];clear d;go_wp2;refine zj (v:= .tuple #[.agg #[.int .i64 2,.int .i64 (n:Int),nS,(0:Int)],(q:Int)]) (by simp[results,yc,go_sem]) rfl ?_;rw[c.out];refine⟨bQ,_,_,_,_,by rw[x.out], ?_⟩;first|exact gd.leaf (aA (by omega) (by omega)) (aA (by omega) (by omega)) (aA (by omega) (by omega))|(rw[u.out];exact gd.leaf (aA (by omega) (by omega)) (aA (by omega) (by omega)) (aA (by omega) (by omega)))
 have J:((s[at_].toNat:Int)==98)=false:=zl.2 (by omega);by_cases p:s[at_].toNat=115
 ·have F:((s[at_].toNat:Int)==115)=true:=by simp[p]
  have b:Hid (uH 3 N=R):=za (by rw[<-h.out,show s[at_]=115 from zP.1 p,LH,k.out]);clear hu l p h;cases N with
  |none=>
   have c:Hid (R=none):=za b.out.symm;clear b;go_enter yH,yC
   go_wp2_with fail
   refine(i.out _).mono ?_;rintro e w' ⟨rfl,rfl⟩;simp only[eA];go_wp2;refine zj (v:=cD 3 0) (by simp[cD,results,yc,go_sem]) rfl ?_;rw[c.out];exact⟨bQ,3,0,rfl⟩
  |some z=>
   obtain⟨n,r⟩:=z;obtain⟨m,o,y,A⟩:=qz (by omega) k.out;have c:Hid (R=some (Ty.mk 3 (n:Int) [] 0,r)):=za b.out.symm;have j:True:=trivial;have u:Hid (((n/8:Nat):Int)=(n:Int)/8):=za (by omega);clear b j m;obtain⟨q,d⟩:∃q,s.size-r.length=q:=⟨_,rfl⟩
   have x:=za d;rw[d]at o y;go_enter yH,yC
   go_wp2_with fail
   refine(i.out _).mono ?_;rintro e w' ⟨rfl,rfl⟩;simp only[eA,d];clear d;go_wp2;refine zj (v:= .tuple #[.agg #[.int .i64 3,.int .i64 (n:Int),nS,(0:Int)],(q:Int)]) (by simp[results,yc,go_sem]) rfl ?_;rw[c.out];refine⟨bQ,_,_,_,_,by rw[x.out], ?_⟩;first|exact gd.leaf (aA (by omega) (by omega)) (aA (by omega) (by omega)) (aA (by omega) (by omega))|(rw[u.out];exact gd.leaf (aA (by omega) (by omega)) (aA (by omega) (by omega)) (aA (by omega) (by omega)))
 have F:((s[at_].toNat:Int)==115)=false:=zl.2 (by omega);have O:((s[at_].toNat:Int)==91)=false:=zl.2 (by omega);have L:((s[at_].toNat:Int) !=123)=true:=by simp;omega
 have c:Hid (R=none):=za (by rw[<-h.out,F1 _ _ _ hu l p C D]);clear hu l p C D h;go_enter yH,yC
 go_wp2;refine zj (v:=cD 0 0) (by simp[cD,results,yc,go_sem,]) rfl ?_;rw[c.out];exact⟨bQ,0,0,rfl⟩
theorem El (f deep:Nat)(ag:deep<=8)(IH:Hid (∀(s:ByteArray) (at_:Nat) (w:World),at_<=s.size->s.size<=100000->
 Calls prog 43 #[s,at_,((deep+1:Nat):Int)] w fun e w'=>tY s w (aN f (s.data.toList.drop at_)) e w')) (s:ByteArray) (at_:Nat) (w:World) (bZ:at_<=s.size) (E:s.size<=100000)
 (R:Option (Ty×List UInt8)) (HR:Hid (aN (f+1) (s.data.toList.drop at_)=R)) (aD:at_<s.size) (Tc:s[at_].toNat=91):
 Calls prog 43 #[s,at_,deep] w fun e w'=>tY s w R e w':=by
 have d1:decide (s.size<=at_)=false:=by simp;omega
 have d2:decide ((8:Int)<(deep:Int))=false:=by simp;omega
 have HC:Hid (aN (f+1) (s[at_]::s.data.toList.drop (at_+1))=R):=za (by rw[<-drop_cons s at_ aD];exact HR.out);have G:=za (fun w=>pR s (at_+1) w (by omega) E);have E8:Hid (((at_+1:Nat):Int)=(at_:Int)+1):=za (by omega);obtain⟨N,U⟩:∃N,Hid (cq (s.data.toList.drop (at_+1))=N):=⟨_,za rfl⟩
 rw[U.out,E8.out]at G;clear HR;have e1:((s[at_].toNat:Int)==117)=false:=zl.2 (by omega);have e2:((s[at_].toNat:Int)==98)=false:=zl.2 (by omega);have e3:((s[at_].toNat:Int)==115)=false:=zl.2 (by omega);have e4:((s[at_].toNat:Int)==91)=true:=by simp[Tc]
 have u9:Hid (wa (aN f (s.data.toList.drop (at_+1)))=R):=za (by rw[<-HC.out,show s[at_]=91 from zP.1 Tc,LI]);have F:=za (IH.out s (at_+1) (w.alloc (.cells #[(0:Int),(0:Int),nS,(0:Int)] 70)) (by omega) E);have M:Hid ((deep:Int)+1=((deep+1:Nat):Int)):=za (by omega);obtain⟨T,HT⟩:∃T,Hid (aN f (s.data.toList.drop (at_+1))=T):=⟨_,za rfl⟩
 rw[HT.out]at u9 F;rw[E8.out]at F;clear Tc HC G U;cases T with
 |none=>
  have i:Hid (R=none):=za u9.out.symm;clear u9;go_enter yH,yC
  go_wp2_with fail
  rw[M.out];refine F.out.mono ?_;rintro e b ⟨c,v0,v1,rfl⟩;have h:=(af.new w 70 #[(0:Int),(0:Int),nS,(0:Int)]).ah c (by simp);obtain⟨p,u,o,m,W,O,Z,X⟩:=aY h;have hz:=c.size;simp only[zp]at hz;have j:w.heap.size<b.heap.size:=by omega
  have K:w.heap.size<b.heap.size+1:=by omega
  have l:Hid (w,b):=za (((zi w.heap.size w).alloc (ze _) _).trans (c.mono (by simp)));clear c h;go_wp2;refine zj (v:=cD 0 0) (by simp[cD,results,yc,go_sem,p,u,o,m,zF,j]) rfl ?_;rw[i.out];refine⟨?_,0,0,rfl⟩;exact(((((l.out.setCell (by simp) _).setCell (by simp) _).setCell (by simp) _).setCell (by simp) _).alloc (by simp[World.setCell];omega) _)
 |some z=>
  obtain⟨x,r⟩:=z;obtain⟨k1,k2⟩:=gB _ _ _ _ HT.out;obtain⟨k3,k4⟩:=wh (by omega) k1;have k5:s.size-r.length<=s.size:=by omega
  have ql:=za k3;obtain⟨q,hq⟩:∃q,s.size-r.length=q:=⟨_,rfl⟩
  rw[hq]at k4 k5 ql;have S:=za hq;have Y:Hid (gN x (s.data.toList.drop q)=R):=za (by rw[ql.out];exact u9.out);clear u9 k1 k2 k3;by_cases u':q<s.size
  ·by_cases UI:s[q].toNat=58
   ·have f1:((s[q].toNat:Int) !=58)=false:=by simp[UI]
    obtain⟨N,U⟩:∃N,Hid (cq (s.data.toList.drop (q+1))=N):=⟨_,za rfl⟩
    have H:Hid (i' x N=R):=za (by rw[<-U.out,<-nh,<-Y.out,drop_cons s q u',show s[q]=58 from zP.1 UI]);have G:=za (fun w=>pR s (q+1) w (by omega) E);have E7:Hid (((q+1:Nat):Int)=(q:Int)+1):=za (by omega);rw[U.out,E7.out]at G;clear Y UI;cases N with
    |none=>
     have i:Hid (R=none):=za H.out.symm;clear H;go_enter yH,yC
     go_wp2_with fail
     rw[M.out];refine F.out.mono ?_;rintro e b ⟨c,c0,c1,c2,c3,rfl,d⟩;rw[S.out];have h:=(af.new w 70 #[(0:Int),(0:Int),nS,(0:Int)]).ah c (by simp);obtain⟨p,u,o,m,W,O,Z,X⟩:=aY h;have hz:=c.size;simp only[zp]at hz;have j:w.heap.size<b.heap.size:=by omega
     have K:w.heap.size<b.heap.size+1:=by omega
     have l:Hid (w,b):=za (((zi w.heap.size w).alloc (ze _) _).trans (c.mono (by simp)));have y:=za d;simp only[zp]at y;obtain⟨I,J,rfl,rfl,rfl,rfl,C,D,B,_⟩:=d.open_;clear c h d C D B;go_wp2_with fail
     refine(G.out _).mono ?_;rintro e w' ⟨rfl,rfl⟩;simp only[eA];go_wp2;refine zj (v:=cD 0 0) (by simp[cD,results,yc,go_sem,p,u,o,m,zF,j]) rfl ?_;rw[i.out];refine⟨?_,0,0,rfl⟩;exact(((((l.out.setCell (by simp) _).setCell (by simp) _).setCell (by simp) _).setCell (by simp) _).alloc (by simp[World.setCell];omega) _)
    |some z2=>
     obtain⟨n,r2⟩:=z2;obtain⟨jv,kd,EU,Bv⟩:=qz (by omega) U.out;obtain⟨A,aa⟩:∃A,s.size-r2.length=A:=⟨_,rfl⟩
     rw[aa]at jv kd EU;have PH:=za aa;have Bd:=za jv;clear jv;by_cases ab:A<s.size
     ·have rZ:Hid (r2=s[A]::s.data.toList.drop (A+1)):=za (by rw[<-Bd.out,drop_cons s A ab]);by_cases X4:s[A].toNat=93
      ·have f2:((s[A].toNat:Int) !=93)=false:=by simp[X4]
       have i:Hid (R=some (.mk 4 n [x] 0,s.data.toList.drop (A+1))):=za (by rw[<-H.out,rZ.out];simp[i',X4]);have ad:=za (tW s (A+1) (by omega));clear H X4;go_enter yH,yC
       go_wp2_with fail
       rw[M.out];refine F.out.mono ?_;rintro e b ⟨c,c0,c1,c2,c3,rfl,d⟩;rw[S.out];have h:=(af.new w 70 #[(0:Int),(0:Int),nS,(0:Int)]).ah c (by simp);obtain⟨p,u,o,m,W,O,Z,X⟩:=aY h;have hz:=c.size;simp only[zp]at hz;have j:w.heap.size<b.heap.size:=by omega
       have K:w.heap.size<b.heap.size+1:=by omega
       have l:Hid (w,b):=za (((zi w.heap.size w).alloc (ze _) _).trans (c.mono (by simp)));have y:=za d;simp only[zp]at y;obtain⟨I,J,rfl,rfl,rfl,rfl,C,D,B,_⟩:=d.open_;clear c h d C D B;go_wp2_with fail
       refine(G.out _).mono ?_;rintro e w' ⟨rfl,rfl⟩;simp only[eA,PH.out];go_wp2;refine zj (v:= .tuple #[.agg #[(4:Int),n,.slice (some (b.heap.size+1,0)) 1 1,(0:Int)],.int .i64 ((A:Int)+1)]) (by simp[results,yc,go_sem,p,u,o,m,zF,j,K]) rfl ?_;rw[i.out];refine⟨((((((l.out.setCell (by simp) _).setCell (by simp) _).setCell (by simp) _).setCell (by simp) _).alloc (by simp[World.setCell];omega) _).alloc (by simp[World.setCell];omega) _),_,_,_,_,by rw[ad.out];go_num, ?_⟩;have kM:ae [w.heap.size] b ((((((b.setCell (w.heap.size,0) (4:Int)).setCell (w.heap.size,1) n).setCell (w.heap.size,2) (.slice (some (b.heap.size+1,0)) 1 1)).setCell (w.heap.size,3) (0:Int)).alloc (.cells #[x.kind,x.size,.slice I x.sub.length J,x.tail] 70)).alloc (.cells #[x.kind,x.size,.slice I x.sub.length J,x.tail] 70)):=DP;refine⟨rfl,rfl,rfl,aA (by omega) (by omega),aA (by omega) (by omega),aA (by omega) (by omega),by simp,_,1,rfl,by simp,by simp,⟨⟨b.heap.size+1,0,x.kind,x.size,.slice I x.sub.length J,x.tail,rfl, ?_, ?_, ?_, ?_, ?_, ?_⟩,trivial⟩⟩
       ·show w.heap.size<=b.heap.size+1
        omega
       ·exact(Ek _ _ _ (b.heap.size+1) (by simp[World.setCell])).cell 0
       ·exact(Ek _ _ _ (b.heap.size+1) (by simp[World.setCell])).cell 1
       ·exact(Ek _ _ _ (b.heap.size+1) (by simp[World.setCell])).cell 2
       ·exact(Ek _ _ _ (b.heap.size+1) (by simp[World.setCell])).cell 3
       refine y.out.only (L:= [w.heap.size]) kM ?_ ?_
       ·intro k hk E;have hk:k=w.heap.size:=by simpa using hk
        have E:w.heap.size+1<=k:=E;omega
       intro k _ E;have E:w.heap.size+1<=k:=E;show w.heap.size<=k
       omega
      have f2:((s[A].toNat:Int) !=93)=true:=by simp;omega
      have i:Hid (R=none):=za (by rw[<-H.out,rZ.out];simp[i',X4]);clear H X4;go_enter yH,yC
      go_wp2_with fail
      rw[M.out];refine F.out.mono ?_;rintro e b ⟨c,c0,c1,c2,c3,rfl,d⟩;rw[S.out];have h:=(af.new w 70 #[(0:Int),(0:Int),nS,(0:Int)]).ah c (by simp);obtain⟨p,u,o,m,W,O,Z,X⟩:=aY h;have hz:=c.size;simp only[zp]at hz;have j:w.heap.size<b.heap.size:=by omega
      have K:w.heap.size<b.heap.size+1:=by omega
      have l:Hid (w,b):=za (((zi w.heap.size w).alloc (ze _) _).trans (c.mono (by simp)));have y:=za d;simp only[zp]at y;obtain⟨I,J,rfl,rfl,rfl,rfl,C,D,B,_⟩:=d.open_;clear c h d C D B;go_wp2_with fail
      refine(G.out _).mono ?_;rintro e w' ⟨rfl,rfl⟩;simp only[eA,PH.out];go_wp2;refine zj (v:=cD 0 0) (by simp[cD,results,yc,go_sem,p,u,o,m,zF,j]) rfl ?_;rw[i.out];refine⟨?_,0,0,rfl⟩;exact(((((l.out.setCell (by simp) _).setCell (by simp) _).setCell (by simp) _).setCell (by simp) _).alloc (by simp[World.setCell];omega) _)
     have i:Hid (R=none):=za (by rw[<-H.out,<-Bd.out,zL (by simp;omega)];rfl);clear H;go_enter yH,yC
     go_wp2_with fail
     rw[M.out];refine F.out.mono ?_;rintro e b ⟨c,c0,c1,c2,c3,rfl,d⟩;rw[S.out];have h:=(af.new w 70 #[(0:Int),(0:Int),nS,(0:Int)]).ah c (by simp);obtain⟨p,u,o,m,W,O,Z,X⟩:=aY h;have hz:=c.size;simp only[zp]at hz;have j:w.heap.size<b.heap.size:=by omega
     have K:w.heap.size<b.heap.size+1:=by omega
     have l:Hid (w,b):=za (((zi w.heap.size w).alloc (ze _) _).trans (c.mono (by simp)));have y:=za d;simp only[zp]at y;obtain⟨I,J,rfl,rfl,rfl,rfl,C,D,B,_⟩:=d.open_;clear c h d C D B;go_wp2_with fail
     refine(G.out _).mono ?_;rintro e w' ⟨rfl,rfl⟩;simp only[eA,PH.out];go_wp2;refine zj (v:=cD 0 0) (by simp[cD,results,yc,go_sem,p,u,o,m,zF,j]) rfl ?_;rw[i.out];refine⟨?_,0,0,rfl⟩;exact(((((l.out.setCell (by simp) _).setCell (by simp) _).setCell (by simp) _).setCell (by simp) _).alloc (by simp[World.setCell];omega) _)
   have f1:((s[q].toNat:Int) !=58)=true:=by simp;omega
   have i:Hid (R=none):=za (by rw[<-Y.out,drop_cons s q u',we _ _ _ UI]);clear Y UI;go_enter yH,yC
   go_wp2_with fail
   rw[M.out];refine F.out.mono ?_;rintro e b ⟨c,c0,c1,c2,c3,rfl,d⟩;rw[S.out];have h:=(af.new w 70 #[(0:Int),(0:Int),nS,(0:Int)]).ah c (by simp);obtain⟨p,u,o,m,W,O,Z,X⟩:=aY h;have hz:=c.size;simp only[zp]at hz;have j:w.heap.size<b.heap.size:=by omega
   have K:w.heap.size<b.heap.size+1:=by omega
   have l:Hid (w,b):=za (((zi w.heap.size w).alloc (ze _) _).trans (c.mono (by simp)));have y:=za d;simp only[zp]at y;obtain⟨I,J,rfl,rfl,rfl,rfl,C,D,B,_⟩:=d.open_;clear c h d C D B;go_wp2;refine zj (v:=cD 0 0) (by simp[cD,results,yc,go_sem,p,u,o,m,zF,j]) rfl ?_;rw[i.out];refine⟨?_,0,0,rfl⟩;exact(((((l.out.setCell (by simp) _).setCell (by simp) _).setCell (by simp) _).setCell (by simp) _).alloc (by simp[World.setCell];omega) _)
  have i:Hid (R=none):=za (by rw[<-Y.out,zL (by simp;omega)];rfl);clear Y;go_enter yH,yC
  go_wp2_with fail
  rw[M.out];refine F.out.mono ?_;rintro e b ⟨c,c0,c1,c2,c3,rfl,d⟩;rw[S.out];have h:=(af.new w 70 #[(0:Int),(0:Int),nS,(0:Int)]).ah c (by simp);obtain⟨p,u,o,m,W,O,Z,X⟩:=aY h;have hz:=c.size;simp only[zp]at hz;have j:w.heap.size<b.heap.size:=by omega
  have K:w.heap.size<b.heap.size+1:=by omega
  have l:Hid (w,b):=za (((zi w.heap.size w).alloc (ze _) _).trans (c.mono (by simp)));have y:=za d;simp only[zp]at y;obtain⟨I,J,rfl,rfl,rfl,rfl,C,D,B,_⟩:=d.open_;clear c h d C D B;go_wp2;refine zj (v:=cD 0 0) (by simp[cD,results,yc,go_sem,p,u,o,m,zF,j]) rfl ?_;rw[i.out];refine⟨?_,0,0,rfl⟩;exact(((((l.out.setCell (by simp) _).setCell (by simp) _).setCell (by simp) _).setCell (by simp) _).alloc (by simp[World.setCell];omega) _)
theorem Af (f deep:Nat)(aG:deep<=8)(IH:Hid (∀(s:ByteArray) (at_:Nat) (w:World),at_<=s.size->s.size<=100000->
 Calls prog 43 #[s,at_,((deep+1:Nat):Int)] w fun e w'=>tY s w (aN f (s.data.toList.drop at_)) e w')) (s:ByteArray) (at_:Nat) (w:World) (bZ:at_<=s.size) (hs:s.size<=100000)
 (R:Option (Ty×List UInt8)) (HR:Hid (aN (f+1) (s.data.toList.drop at_)=R)) (aD:at_<s.size) (ab:s[at_].toNat=123):
 Calls prog 43 #[s,at_,deep] w fun e w'=>tY s w R e w':=by
 have d1:decide (s.size<=at_)=false:=by simp;omega
 have d2:decide ((8:Int)<(deep:Int))=false:=by simp;omega
 have HC:Hid (aN (f+1) (s[at_]::s.data.toList.drop (at_+1))=R):=za (by rw[<-drop_cons s at_ aD];exact HR.out);obtain⟨ak,y⟩:∃ak,Hid (cq (s.data.toList.drop (at_+1))=ak):=⟨_,za rfl⟩
 clear HR;have e1:((s[at_].toNat:Int)==117)=false:=zl.2 (by omega);have e2:((s[at_].toNat:Int)==98)=false:=zl.2 (by omega);have e3:((s[at_].toNat:Int)==115)=false:=zl.2 (by omega);have e4:((s[at_].toNat:Int)==91)=false:=zl.2 (by omega);have e5:((s[at_].toNat:Int) !=123)=false:=by simp[ab]
 have WE:Hid (fO f s R (at_+1) [] 0):=za ⟨_,by
  have h1:=HC.out;rw[show s[at_]=123 from zP.1 ab,LJ]at h1;exact h1,by omega⟩
 clear ab HC y;go_enter yH,yC
 go_wp2_with fail
 go_loopw [1] (fun i wr=>∃(p:Nat) (acc:List Ty) (c:Nat) (H:Value),p<=s.size/\i= .int .i64 p/\Hid (fO f s R p acc c)/\acc.length<=p/\c<=p/\af wr w.heap.size 70 #[(0:Int),(0:Int),nS,(0:Int)]/\af wr (w.heap.size+1) 70 #[(5:Int),(0:Int),H,c]/\gG wr (w.heap.size+2) acc H/\(w,wr)/\w.heap.size+2<=wr.heap.size) (fun i _=>s.size-(intOf i).toNat)
 case atStart=>
  have aK:=af.new (w.alloc (.cells #[(0:Int),(0:Int),nS,(0:Int)] 70)) 70 #[(5:Int),(0:Int),nS,(0:Int)];exact⟨at_+1,[],0,nS,by omega,by go_num,WE,by simp,by omega,(af.new _ _ _).alloc _,by simpa using aK,gG.nil _ _,bQ,by simp⟩
 case round=>
  obtain⟨p,acc,c,H,hp,rfl,hrel,ax,vD,M7,Ca,ju,al,Uw⟩:=hrel;have UK:=za M7;have sj:=za Ca;have Z:=za ju;have n:=za al;obtain⟨x,n2,cap2,rfl,IY,aF,aE⟩:=ju.bK;obtain⟨D,E,C,A,mf,mi,mh,oP⟩:=aY M7;obtain⟨X,b1,b2,b3,uA,uz,uB,uy⟩:=aY Ca;clear M7 Ca ju al WE;by_cases S:p<s.size
  ·by_cases G:s[p].toNat=125
   ·have e6:((s[p].toNat:Int) !=125)=false:=by simp[G]
    have l:=za (hrel.out.ends S G);have ay:=za (tW s (p+1) (by omega));clear G;go_wp2;refine zj (v:= .tuple #[.agg #[(5:Int),(0:Int),.slice x n2 cap2,c],.int .i64 ((p:Int)+1)]) (by simp[results,yc,go_sem,D,E,C,A]) rfl ?_;rw[l.out];refine⟨(((n.out.setCell (by simp) _).setCell (by simp) _).setCell (by simp) _).setCell (by simp) _,_,_,_,_,by rw[ay.out];go_num, ?_⟩;have aC:gG _ (w.heap.size+2) acc (.slice x n2 cap2):=Z.out.only (L:= [w.heap.size]) (w':=(((wr.setCell (w.heap.size,0) (5:Int)).setCell (w.heap.size,1) (0:Int)).setCell (w.heap.size,2) (.slice x n2 cap2)).setCell (w.heap.size,3) c) (((((ae.refl _ _).setCell (by simp) _).setCell (by simp) _).setCell (by simp) _).setCell (by simp) _) (by simp);refine gd.eG (aC.ty (by omega) (aA (by omega) (by omega)) (aA (by omega) (by omega)) (aA (by omega) (by omega))) fun k _ O=> ?_
    have O:w.heap.size+2<=k:=O;show w.heap.size<=k
    omega
   have e6:((s[p].toNat:Int) !=125)=true:=by simp;omega
   go_upto_if 141 with fail
   go_cut [1] (fun i wx=>∃q:Nat,i= .int .i64 q/\wr=wx/\p<=q/\q<=s.size/\Hid (qy f s R q acc c))
   case first=>
    by_cases Y:acc= []
    ·subst Y;have m:=za (hrel.out.first S G);obtain rfl:n2=0:=IY.out;go_wp2_with fail
     go_meet;case rel=>exact⟨p,rfl,rfl,ze _,hp,m⟩
    have po:0<n2:=by
     rw[IY.out];cases acc with
     |nil=>exact absurd rfl Y
     |cons a b=>simp
    by_cases vI:s[p].toNat=44
    ·have e7:((s[p].toNat:Int) !=44)=false:=by simp[vI]
     have m:=za (hrel.out.more S vI Y);clear vI;go_wp2_with fail
     go_meet;case rel=>exact⟨p+1,by go_num,rfl,by omega,by omega,m⟩
    have e7:((s[p].toNat:Int) !=44)=true:=by simp;omega
    have l:=za (hrel.out.bad S G vI Y);go_wp2;refine zj (v:=cD 0 0) (by simp[cD,results,yc,go_sem,D,E,C,A]) rfl ?_;rw[l.out];exact⟨(((n.out.setCell (by simp) _).setCell (by simp) _).setCell (by simp) _).setCell (by simp) _,0,0,rfl⟩
   case rest=>
    obtain⟨q,rfl,rfl,ai,u',m⟩:=hcut;obtain⟨B,J⟩:∃B:Bool,Hid (B=true↔∃h:q<s.size,s[q].toNat=63):=⟨decide (∃h:q<s.size,s[q].toNat=63),za decide_eq_true_iff⟩
    clear e6 G S;go_upto_region 31 with fail
    go_cut [158] (fun v wx=>v= .bool B/\wr=wx)
    case first=>
     by_cases j:q<s.size
     ·by_cases N:s[q].toNat=63
      ·obtain rfl:B=true:=J.out.2 ⟨j,N⟩;have e8:((s[q].toNat:Int)==63)=true:=by simp[N]
       go_wp2_with fail
       go_meet;case rel=>exact⟨rfl,rfl⟩
      obtain rfl:B=false:=xJ.2 fun h=>N (J.out.1 h).2
      have e8:((s[q].toNat:Int)==63)=false:=zl.2 (by omega);go_wp2_with fail
      go_meet;case rel=>exact⟨rfl,rfl⟩
     obtain rfl:B=false:=xJ.2 fun h=>j (J.out.1 h).1
     go_wp2_with fail
     go_meet;case rel=>exact⟨rfl,rfl⟩
    case rest=>
     obtain⟨rfl,rfl⟩:=hcut;go_upto_if 158 with fail
     go_cut [1] (fun i W=>∃q c:Nat,i= .int .i64 q/\q<=s.size/\p<=q/\c<=q/\Hid (Qc f s R q acc c)/\Hid (af W (w.heap.size+1) 70 #[(5:Int),(0:Int),.slice x n2 cap2,c])/\Hid (af W w.heap.size 70 #[(0:Int),(0:Int),nS,(0:Int)])/\Hid (gG W (w.heap.size+2) acc (.slice x n2 cap2))/\Hid (w,W)/\w.heap.size+2<=W.heap.size)
     case first=>
      cases B with
      |true=>
       obtain⟨j,N⟩:=J.out.1 rfl;have I:=za (m.out.mark j N);clear N;go_wp2_with fail
       go_meet;case rel=>exact⟨q+1,c+1,by go_num,j,by omega,by omega,I,sj.out.store rfl,UK.out.dI (by simp) _,Z.out.only ((ae.refl [w.heap.size+1] wr).setCell (by simp) _) (by simp),n.out.setCell (by simp) _,by simpa[World.setCell]using Uw⟩
      |false=>
       have y:Hid (∀h:q<s.size,s[q].toNat≠63):=za fun h e=>Bool.noConfusion (J.out.2 ⟨h,e⟩)
       by_cases aq:0<c
       ·have l:=za (m.out.none_ y.out aq);go_wp2;refine zj (v:=cD 0 0) (by simp[cD,results,yc,go_sem,D,E,C,A]) rfl ?_;rw[l.out];exact⟨(((n.out.setCell (by simp) _).setCell (by simp) _).setCell (by simp) _).setCell (by simp) _,0,0,rfl⟩
       obtain rfl:c=0:=by omega
       have I:=za (m.out.plain y.out);go_wp2_with fail
       go_meet;case rel=>exact⟨q,0,rfl,u',ai,by omega,I,sj,UK,Z,n,Uw⟩
     case rest=>
      clear D E C A mf mi mh oP X b1 b2 b3 uA uz uB uy ai u' m J sj UK Z n vD Uw;obtain⟨q,c,rfl,j,ai,vD,I,ao,ag,ad,ah,ar⟩:=hcut;obtain⟨W,hW⟩:=dY wc;rw[hW]at ao ag ad ah ar⊢;clear hW;have HI:Hid (∀(V:World) (i:Int),i=((q:Nat):Int)->Calls prog 43 #[s,i,((deep+1:Nat):Int)] V fun e w'=>tY s V (aN f (s.data.toList.drop q)) e w'):=za (fun V i hi=>by subst hi;exact IH.out s q V j hs);have E9:Hid ((deep:Int)+1=((deep+1:Nat):Int)):=za (by omega);go_wp2_with fail
      rw[E9.out];refine(HI.out _ _ (by first|rfl|omega)).mono ?_;rintro e w4 jZ;obtain⟨T,HT⟩:∃T,Hid (aN f (s.data.toList.drop q)=T):=⟨_,za rfl⟩
      rw[HT.out]at jZ;cases T with
      |none=>
       obtain⟨d,v0,v1,rfl⟩:=jZ;have l:=za (I.out.none HT.out);have UL:=d.size;have qb:w.heap.size<w4.heap.size:=by omega
       have dK:=za (ah.out.trans (d.mono (by omega)));obtain⟨D,E,C,A,mf,mi,mh,oP⟩:=aY (ag.out.ah d (by omega));clear d;go_wp2;refine zj (v:=cD 0 0) (by simp[cD,results,yc,go_sem,D,E,C,A,zF,qb]) rfl ?_;rw[l.out];refine⟨?_,0,0,rfl⟩;exact(((((dK.out.setCell (by simp) _).setCell (by simp) _).setCell (by simp) _).setCell (by simp) _).alloc (by simp[World.setCell];omega) _)
      |some z=>
       obtain⟨aa,r⟩:=z;obtain⟨d,c0,c1,c2,c3,rfl,hy⟩:=jZ;obtain⟨y,rG,au⟩:=I.out.some j HT.out;have WE:=za y;have UL:=d.size;have an:=za (ao.out.ah d (by omega));have aw:=za (ag.out.ah d (by omega));have az:=za (ad.out.below d);have dK:=za (ah.out.trans (d.mono (by omega)));have lK:=ad.out.ge;have HY:Hid (∀o o',gd ((w4.alloc o).alloc o') (fun k=>w.heap.size+2<=k/\(Value.slice x n2 cap2).ownBlock≠some k) aa c0 c1 c2 c3):=za (by
        intro o o';refine gd.ah ?_ ?_ aa hy
        ·intro k O hS;have hS:W.heap.size<=k:=hS;exact⟨by omega,fun e=>by have:=(lK k e).2;omega⟩
        intro q j _;rw[zF _ _ _ (by rw[zp];omega),zF _ _ _ j])
       have qb:w.heap.size<w4.heap.size:=by omega
       have B8:w.heap.size+1<w4.heap.size:=by omega
       have Tu:=za lK;obtain⟨AA,oh,rfl,rfl,rfl,rfl,_⟩:=hy.open_;clear hy y lK d;obtain⟨X,b1,b2,b3,uA,uz,uB,uy⟩:=aY an.out;generalize s.size-r.length=pq at*;go_wp2_with (at_builtin;refine gh (by rfl) (.tmp 181) (.tmp 183) (by rfl) (w.heap.size+2) acc (by rfl) ((az.out.below ((zi _ _).alloc (ze _) _)).below ((zi _ _).alloc (ze _) _)) aa (HY.out _ _) _ (by rfl) (by simp) (by simp) (by simp) (by simp) (by first|omega|simp) (by simp only[zp];omega) ?_)
       intro K F M u Tn IA U jh;have Tm:∀k,k<w.heap.size+2->(Value.slice x n2 cap2).ownBlock≠some k:=fun k O e=>by
        have:=(Tu.out k e).1;omega
       have UJ:=za (((an.out.alloc _).alloc _).grown U (Tm _ (by omega)));have aB:=za (((aw.out.alloc _).alloc _).grown U (Tm _ (by omega)));have fC:Hid (w,u):=za (((dK.out.alloc (by omega) _).alloc (by simp;omega) _).grown U (by simp;omega) (fun k O=>by have:=(Tu.out k O).1;omega));have K9:=U.size;simp only[zp]at K9;have av:=za IA;clear X b1 b2 b3 uA uz uB uy U IA Tm;obtain⟨X,b1,b2,b3,uA,uz,uB,uy⟩:=aY UJ.out;go_wp2;go_roundw
       case rel=>
        have key:∃(p:Nat) (acc:List Ty) (c:Nat) (H:Value),p<=s.size/\Value.int .i64 (pq:Int)= .int .i64 p/\Hid (fO f s R p acc c)/\acc.length<=p/\c<=p/\af (u.setCell (w.heap.size+1,2) (.slice (some (K,0)) F M)) w.heap.size 70 #[(0:Int),(0:Int),nS,(0:Int)]/\af (u.setCell (w.heap.size+1,2) (.slice (some (K,0)) F M)) (w.heap.size+1) 70 #[(5:Int),(0:Int),H,c]/\gG (u.setCell (w.heap.size+1,2) (.slice (some (K,0)) F M)) (w.heap.size+2) acc H/\(w,u.setCell (w.heap.size+1,2) (.slice (some (K,0)) F M))/\w.heap.size+2<=(u.setCell (w.heap.size+1,2) (.slice (some (K,0)) F M)).heap.size:=by
         refine⟨pq,acc++ [aa],c,.slice (some (K,0)) F M,au,rfl,WE, ?_,by omega,aB.out.dI (by simp) _, ?_, ?_,fC.out.setCell (by simp) _, ?_⟩
         ·simp only[zh,zx,zM]at ax⊢;omega
         ·exact UJ.out.store rfl
         ·exact av.out.only ((ae.refl [w.heap.size+1] u).setCell (p:=(w.heap.size+1,2)) (by simp) _) (by simp)
         simp[World.setCell];omega
        first|exact key|((repeat apply Exists.intro);exact⟨key,rfl⟩)
       case measure=>simp[intOf];omega
  have l:=za (hrel.out.stop (by omega));go_wp2;refine zj (v:=cD 0 0) (by simp[cD,results,yc,go_sem,D,E,C,A]) rfl ?_;rw[l.out];exact⟨(((n.out.setCell (by simp) _).setCell (by simp) _).setCell (by simp) _).setCell (by simp) _,0,0,rfl⟩
theorem OL :∀(f deep:Nat),deep+f=9->∀(s:ByteArray) (at_:Nat) (w:World),at_<=s.size->s.size<=100000->
 Calls prog 43 #[s,at_,deep] w fun e w'=>tY s w (aN f (s.data.toList.drop at_)) e w':=by
 intro f;induction f with
 |zero=>
  intro deep k s at_ w d i;have b:Hid (aN 0 (s.data.toList.drop at_)=none):=za rfl;generalize aN 0 (s.data.toList.drop at_)=R at*;have h:8<deep:=by omega
  clear k;by_cases j:at_<s.size
  ·go_enter yH,yC
   go_wp2;refine zj (v:=cD 0 0) (by simp[cD,results,yc,go_sem,b]) rfl ?_;rw[b.out];exact⟨bQ,0,0,rfl⟩
  go_enter yH,yC
  go_wp2;refine zj (v:=cD 0 0) (by simp[cD,results,yc,go_sem,b]) rfl ?_;rw[b.out];exact⟨bQ,0,0,rfl⟩
 |succ f ih=>
  intro deep k s at_ w d i;have l:=za (fun s at_ w=>ih (deep+1) (by omega) s at_ w);have h:deep<=8:=by omega
  clear ih k;obtain⟨R,c⟩:∃R,Hid (aN (f+1) (s.data.toList.drop at_)=R):=⟨_,za rfl⟩
  rw[c.out];by_cases j:at_<s.size
  ·by_cases n:s[at_].toNat=91
   ·exact El f deep h l s at_ w d i R c j n
   by_cases m:s[at_].toNat=123
   ·exact Af f deep h l s at_ w d i R c j m
   exact GO f deep h l s at_ w d i R c j n m
  have b:Hid (R=none):=za (by rw[<-c.out,zL (by simp;omega),OK]);clear c;go_enter yH,yC
  go_wp2;refine zj (v:=cD 0 0) (by simp[cD,results,yc,go_sem,b]) rfl ?_;rw[b.out];exact⟨bQ,0,0,rfl⟩
theorem tZ {p:List UInt8->Option (Ty×List UInt8)}(e:∀l y r,p l=some (y,r)->y.count+r.length<=l.length):∀n l acc j y r,fA p n l acc j=some (y,r)->y.count+r.length<=ba acc+l.length
 |0,_,_,_,_,_,h=>by simp[fA]at h
 |n+1,[],_,_,_,_,h=>by simp[fA]at h
 |n+1,c::l,acc,j,y,r,h=>by
  unfold fA at h;split at h
  ·injection h with h;injection h with b d;rw[<-b,<-d];simp[Ty.count];omega
  split at h
  ·cases h
  rename_i q b
  split at h
  ·cases h
  rename_i m u d
  split at h
  ·cases h
  rename_i o w k
  have k1:=(CF b).length_le;have k2:=(LK d).length_le;have s:=e _ _ _ k;have i:=tZ e n _ _ _ _ _ h;rw[fL]at i;simp only[ba]at i;omega
theorem nR :∀(f:Nat) (l:List UInt8) (y:Ty) (r:List UInt8),aN f l=some (y,r)->y.count+r.length<=l.length
 |0,_,_,_,h=>by simp[aN]at h
 |f+1,[],_,_,h=>by simp[aN]at h
 |f+1,c::l,y,r,h=>by
  have e:=(gB _ _ _ _ h).2;have m:=gB _ _ _ _ h;unfold aN at h;split at h
  ·split at h
   ·cases h
   split at h
   ·injection h with h;injection h with b h2;subst b;simp[Ty.count,ba]at e⊢;omega
   cases h
  split at h
  ·split at h
   ·cases h
   injection h with h;injection h with b h2;subst b;simp[Ty.count,ba]at e⊢;omega
  split at h
  ·split at h
   ·cases h
   injection h with h;injection h with b h2;subst b;simp[Ty.count,ba]at e⊢;omega
  split at h
  ·split at h
   ·cases h
   rename_i x i b
   have k1:=nR f _ _ _ b;have k2:=CH h;have j:y.count=1+x.count:=by
    unfold gN at h;match i,h with
    |d::i,h=>
     simp only at h;split at h
     ·split at h
      ·cases h
      ·cases h
      split at h
      ·injection h with h;injection h with h3 h4;rw[<-h3];simp[Ty.count,ba]
      cases h
     cases h
   have:=k2.2;simp;omega
  split at h
  ·have k:=tZ (nR f) _ _ _ _ _ _ h;simp[ba]at k⊢;omega
  cases h
def XD :Option (Ty×List UInt8)->Option Ty
 |none=>none
 |some (x,[])=>if x.may then some x else none
 |some (_,_::_)=>none
theorem OM (l:List UInt8):cO l=XD (aN 8 l):=by
 unfold cO;rcases aN 8 l with _|⟨x,r⟩
 ·rfl
 cases r<;>rfl
theorem Ka (s:ByteArray)(w:World)(i:s.size<=100000):
 Calls prog 26 #[s] w fun e w'=>GD w (cO s.data.toList) e w':=by
 have F:=za (OL 8 1 rfl s 0 (w.alloc (.cells #[(0:Int),(0:Int),nS,(0:Int)] 70)) (ya _) i);obtain⟨T,G⟩:∃T,Hid (aN 8 s.data.toList=T):=⟨_,za rfl⟩
 rw[zG,G.out]at F;obtain⟨R,N⟩:∃R,Hid (cO s.data.toList=R):=⟨_,za rfl⟩
 rw[N.out];have O:Hid (XD T=R):=za (by rw[<-N.out,OM,G.out]);clear N;cases T with
 |none=>
  have p:Hid (R=none):=za O.out.symm;go_enter func26,ntmps26
  go_wp2_with fail
  refine F.out.mono ?_;rintro e h ⟨b,v0,v1,rfl⟩;have d:=(af.new w 70 #[(0:Int),(0:Int),nS,(0:Int)]).ah b (by simp);have U:=za d;obtain⟨l,o,j,n,J,I,H,M⟩:=aY d;have hz:=b.size;simp only[zp]at hz;have B:w.heap.size<h.heap.size:=by omega
  have C:Hid (w,h):=za (((zi w.heap.size w).alloc (ze _) _).trans (b.mono (by simp)));clear b d;have n1:((-1:Int) !=(s.size:Int))=true:=by simp
  go_wp2;refine zj (v:= .tuple #[.agg #[(0:Int),(0:Int),nS,(0:Int)],(3:Int)]) (by simp[results,results26,go_sem,l,o,j,n,zF,B]) rfl ?_;rw[p.out];exact⟨(((((C.out.setCell (by simp) _).setCell (by simp) _).setCell (by simp) _).setCell (by simp) _).alloc (by simp[World.setCell];omega) _),rfl⟩
 |some z=>
  obtain⟨x,r⟩:=z;have S:=nR _ _ _ _ G.out;have K:=(gB _ _ _ _ G.out).2;rw[aa]at S K;cases r with
  |cons c r=>
   have p:Hid (R=none):=za O.out.symm;have n1:(((s.size-(c::r).length:Nat):Int) !=(s.size:Int))=true:=by simp at K⊢;omega
   have n2:((s.size-(c::r).length) !=s.size)=true:=by simp at K⊢;omega
   generalize s.size-(c::r).length=q at*;go_enter func26,ntmps26
   go_wp2_with fail
   refine F.out.mono ?_;rintro e h ⟨b,c0,c1,c2,c3,rfl,D⟩;obtain⟨u,y,rfl,rfl,rfl,rfl,_⟩:=D.open_;have d:=(af.new w 70 #[(0:Int),(0:Int),nS,(0:Int)]).ah b (by simp);have U:=za d;obtain⟨l,o,j,n,J,I,H,M⟩:=aY d;have hz:=b.size;simp only[zp]at hz;have B:w.heap.size<h.heap.size:=by omega
   have C:Hid (w,h):=za (((zi w.heap.size w).alloc (ze _) _).trans (b.mono (by simp)));clear b d;go_wp2;refine zj (v:= .tuple #[.agg #[(0:Int),(0:Int),nS,(0:Int)],(3:Int)]) (by simp[results,results26,go_sem,l,o,j,n,zF,B]) rfl ?_;rw[p.out];exact⟨(((((C.out.setCell (by simp) _).setCell (by simp) _).setCell (by simp) _).setCell (by simp) _).alloc (by simp[World.setCell];omega) _),rfl⟩
  |nil=>
   have n1:((s.size:Int) !=(s.size:Int))=false:=by simp
   have n2:(s.size !=s.size)=false:=by simp
   have ab:=za S;obtain⟨m,E⟩:∃m,x.may=m:=⟨_,rfl⟩
   have p:Hid (R=if m then some x else none):=za (by rw[<-E];exact O.out.symm);clear S K;go_enter func26,ntmps26
   go_wp2_with fail
   refine F.out.mono ?_;rintro e h ⟨b,c0,c1,c2,c3,rfl,D⟩;have X:=za D;obtain⟨u,y,rfl,rfl,rfl,rfl,_⟩:=D.open_;have d:=(af.new w 70 #[(0:Int),(0:Int),nS,(0:Int)]).ah b (by simp);have U:=za d;obtain⟨l,o,j,n,J,I,H,M⟩:=aY d;have hz:=b.size;simp only[zp]at hz;have B:w.heap.size<h.heap.size:=by omega
   have C:Hid (w,h):=za (((zi w.heap.size w).alloc (ze _) _).trans (b.mono (by simp)));clear b d;have Y:=gd.uL x (X.out.below ((zi _ _).alloc (ze _) (.cells #[x.kind,x.size,.slice u x.sub.length y,x.tail] 70)));have HM:=za (Mh x _ (h.alloc (.cells #[x.kind,x.size,.slice u x.sub.length y,x.tail] 70)) _ _ _ _ Y (ze _) (by have:=ab.out;omega));rw[E]at HM;have ae:=za E;clear Y E D;go_wp2_with fail
   refine HM.out.mono ?_;rintro e w5 ⟨rfl,A⟩;clear l o j n J I H M;obtain⟨l,o,j,n,J,I,H,M⟩:=aY ((U.out.alloc _).ah A (by simp;omega));obtain⟨b0,b1,b2,b3,uA,uz,uB,uy⟩:=aY ((af.new h 70 #[x.kind,x.size,.slice u x.sub.length y,x.tail]).ah A (by simp));have Z:Hid (w,w5):=za ((C.out.alloc (by omega) _).trans (A.mono (by simp;omega)));have ad:=za ((X.out.below ((zi _ _).alloc (ze _) (.cells #[x.kind,x.size,.slice u x.sub.length y,x.tail] 70))).below A);clear A;cases m with
   |true=>
    go_wp2;refine zj (v:= .tuple #[.agg #[x.kind,x.size,.slice u x.sub.length y,x.tail],(0:Int)]) (by simp[results,results26,go_sem,l,o,j,n]) rfl ?_;rw[p.out];refine⟨(((Z.out.setCell (by simp) _).setCell (by simp) _).setCell (by simp) _).setCell (by simp) _,_,_,_,_,rfl, ?_⟩;refine ad.out.only (L:= [w.heap.size]) DP ?_ ?_
    ·intro k W i;have W:k=w.heap.size:=by simpa using W
     have i:(w.alloc (.cells #[(0:Int),(0:Int),nS,(0:Int)] 70)).heap.size<=k:=i;simp at i;omega
    intro k _ i;have i:(w.alloc (.cells #[(0:Int),(0:Int),nS,(0:Int)] 70)).heap.size<=k:=i;simp at i;show w.heap.size<=k
    omega
   |false=>
    go_wp2;refine zj (v:= .tuple #[.agg #[(0:Int),(0:Int),nS,(0:Int)],(3:Int)]) (by simp[results,results26,go_sem,l,o,j,n,zF,B]) rfl ?_;rw[p.out];exact⟨(((Z.out.setCell (by simp) _).setCell (by simp) _).setCell (by simp) _).setCell (by simp) _,rfl⟩
