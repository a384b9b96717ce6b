/- The keys of the map of places. -/
import Derived.DeepKeys5
import Derived.Test.YtpjgigllldipiaaGreatDoorKA37
set_option linter.all false
namespace Go.Proofs.YtpjgigllldipiaaGreatDoor
open Tryz
open Go.RowKit
def yt:=@Option.some.inj
def ZZ:=@underlying211
def nc (l:List Nat):Array Value:=(l.map fun n=>Value.int .u64 (n:Nat)).toArray
theorem aba (l:List Nat)(i:Nat)(h:i<l.length):(nc l)[i]?=some (.int .u64 (l.getD i 0:Nat)):=by
 simp[nc,zA,zB h]
theorem af.num {w:World}{g:Nat}{t:TypeId}{l:List Nat}(h:af w g t (nc l)){i:Nat}(hi:i<l.length):w.cell? ⟨g,i,none⟩=some (.int .u64 (l.getD i 0:Nat)):=(h.cell i).trans (aba l i hi)
theorem Td (s:ByteArray)(j i:Nat)(w:World)(b:j<i)(hi:i<=s.size)(h:s.size<=65536):
 Calls prog 159 #[.string s,.int .i64 j,.int .i64 i] w fun e w'=>e= .returned (.int .i64 (mt s.data.toList j i 64))/\Below w.heap.size w w':=
 (SZ s j i w b hi (by omega)).mono fun e w' ⟨d,m,c⟩=>⟨d,by rw[c];exact(zq _ _).bB m⟩
def BJ (s:ByteArray)(w:World)(i p f:Nat)(out Jc:ByteArray)(wr:World):Prop:=
 p<=i/\i<=s.size/\Jc.data.toList=(s.data.toList.take i).drop p/\out.data.toList++pk s.data.toList f p i=pack s.data.toList/\s.size-i<f/\Below w.heap.size w wr
theorem BJ.none {s:ByteArray}{w:World}{i p f:Nat}{out d:ByteArray}{wr:World}(h:BJ s w i p f out d wr)(hi:i<s.size)(e:GX s.data.toList i i=none)(x:ByteArray)(hx:x.data.toList= [s[i]])(c:World)(k:Below w.heap.size w c):BJ s w (i+1) p (f-1) out (d++x) c:=by
 obtain⟨j,m,l,b,n,o⟩:=h;obtain⟨g,rfl⟩:∃g,f=g+1:=⟨f-1,by omega⟩
 unfold pk at b;rw[zl (by simpa using hi),e]at b;refine⟨by omega,by omega, ?_,b,by omega,k⟩;rw[bn,l,hx,ja s i hi,yN (by rw[length_take s i m];exact j)]
theorem BJ.some {s:ByteArray}{w:World}{i p f j:Nat}{out m a b:ByteArray}{wr:World}(h:BJ s w i p f out m wr)(hi:i<s.size)(d:GX s.data.toList i i=some j)(q:a.data.toList=gT m.data.toList)(n:b.data.toList=kG (mt s.data.toList j i 64) (i-j))(l:World)(r:Below w.heap.size w l)(e:ByteArray)(o:e.data.toList= []):
 BJ s w (i+mt s.data.toList j i 64) (i+mt s.data.toList j i 64) (f-1) (out++a++b) e l:=by
 obtain⟨B,x,u,c,z,A⟩:=h;obtain⟨g,rfl⟩:∃g,f=g+1:=⟨f-1,by omega⟩
 unfold pk at c;rw[zl (by simpa using hi),d]at c;simp only at c;have k:=(Bh s.data.toList 64 j i).2 (by simpa using x);have y:=(px _ _ _ _ d).2;rw[aa]at k;refine⟨zf _,k, ?_, ?_,by simp;omega,r⟩
 ·rw[o,zU];rw[yc];omega
 rw[<-c,bn,bn,q,n,u];simp
open Go.RowKit Go.Maps
theorem laidOut :laidOutB prog=true:=by kernel_rfl
theorem rl :Keyed prog 211:=Keyed.of_law (deep_law_gate laidOut (yo (by kernel_rfl)) (yo (by kernel_rfl)) (by kernel_rfl) (by kernel_rfl))
theorem Ka (w:World):(zeroValue 3).run prog w= .ok (.int .i64 0) w:=by kernel_rfl
theorem afp (a b c d:UInt8):∃l,keyOf prog 211 (.agg #[.int .u8 a.toNat,.int .u8 b.toNat,.int .u8 c.toNat,.int .u8 d.toNat])=some l:=by
 have p:∀x:UInt8,(Lit.int .u8 (x.toNat:Int)).wf=true:=by
  intro x;have:=x.toNat_lt;simp[Lit.wf,IntKind.min,IntKind.max,IntKind.signed,IntKind.bits];omega
 have n:(prog.keyType 211)=true:=by kernel_rfl
 have e:prog.cellsOf 211=4:=by kernel_rfl
 have o:prog.cellsOf 5=1:=by kernel_rfl
 obtain⟨m,i⟩:∃m,prog.types.size+1=m+2:=⟨prog.types.size-1,by have:1<=prog.types.size:=yo (by kernel_rfl);omega⟩
 refine⟨.string (keyBytes [.int .u8 a.toNat,.int .u8 b.toNat,.int .u8 c.toNat,.int .u8 d.toNat]), ?_⟩;have k:List.range 4= [0,1,2,3]:=rfl;have h:Value.formed prog 211 (.agg #[.int .u8 a.toNat,.int .u8 b.toNat,.int .u8 c.toNat,.int .u8 d.toNat])=true:=by
  simp[Value.formed,ZZ,e]
 have j:prog.keyLits (m+2) 211 [.int .u8 a.toNat,.int .u8 b.toNat,.int .u8 c.toNat,.int .u8 d.toNat]=some [.int .u8 a.toNat,.int .u8 b.toNat,.int .u8 c.toNat,.int .u8 d.toNat]:=by
  simp[Program.keyLits,ZZ,yC,e,o,k,p]
 simp only[keyOf,ZZ,n,h,i];have:(Value.agg #[.int .u8 a.toNat,.int .u8 b.toNat,.int .u8 c.toNat,.int .u8 d.toNat]).cells.toList= [.int .u8 a.toNat,.int .u8 b.toNat,.int .u8 c.toNat,.int .u8 d.toNat]:=rfl;rw[this,j];rfl
def gv (L:List UInt8)(i:Nat):Value:= .agg #[.int .u8 (L.getD i 0).toNat,.int .u8 (L.getD (i+1) 0).toNat,.int .u8 (L.getD (i+2) 0).toNat,.int .u8 (L.getD (i+3) 0).toNat]
theorem Po (L:List UInt8)(i:Nat):∃l,keyOf prog 211 (gv L i)=some l:=afp _ _ _ _
noncomputable def gl (L:List UInt8)(i:Nat):Lit:=(Po L i).choose
theorem rm (L:List UInt8)(i:Nat):keyOf prog 211 (gv L i)=some (gl L i):=(Po L i).choose_spec
theorem j6 (L:List UInt8)(a b:Nat)(d:a<L.length)(c:b<L.length):(L.getD a 0).toNat=(L.getD b 0).toNat↔L[a]?=L[b]?:=by
 rw[zA,zA,zB d,zB c];simp[zW]
theorem Ux (L:List UInt8)(a b:Nat)(j:a+4<=L.length)(i:b+4<=L.length):gl L a=gl L b↔fq L a b:=by
 constructor
 ·intro h;have d:=rm L a;rw[h]at d;have c:=rl.inj d (rm L b);unfold gv at c;injection c with c;simp only[Array.mk.injEq,List.cons.injEq,Value.int.injEq,true_and,and_true,Int.natCast_inj]at c;exact⟨(j6 L _ _ (by omega) (by omega)).1 c.1,(j6 L _ _ (by omega) (by omega)).1 c.2.1,(j6 L _ _ (by omega) (by omega)).1 c.2.2.1,(j6 L _ _ (by omega) (by omega)).1 c.2.2.2⟩
 intro h;have e:gv L a=gv L b:=by
  unfold gv;rw[(j6 L _ _ (by omega) (by omega)).2 h.1,(j6 L _ _ (by omega) (by omega)).2 h.2.1,(j6 L _ _ (by omega) (by omega)).2 h.2.2.1,(j6 L _ _ (by omega) (by omega)).2 h.2.2.2]
 have d:=rm L a;rw[e,rm L b]at d;exact(yt d).symm
def MI (L:List UInt8)(D:DataW Unit)(n:Nat):Prop:=IsMap D/\∀a,a+4<=L.length->
 (∀j,jx L a n=some j->Maps.has D (gl L a)=true/\D.atKey (gl L a) (.lit (.int .i64 0))= .lit (.int .i64 j))/\(jx L a n=none->Maps.has D (gl L a)=false)
theorem MI.start (L:List UInt8):MI L (.map []) 0:=⟨⟨[],rfl⟩,fun a _=>⟨fun j h=>by simp[jx]at h,fun _=>rfl⟩⟩
theorem MI.skip {L:List UInt8}{D:DataW Unit}{n:Nat}(h:MI L D n)(b:¬n+4<=L.length):MI L D (n+1):=by
 refine⟨h.1,fun a d=> ?_⟩;rw[sr L a n (fun c=>b c.1)];exact h.2 a d
theorem MI.put {L:List UInt8}{D:DataW Unit}{n:Nat}(h:MI L D n)(c:n+4<=L.length):MI L (D.put (gl L n) (.lit (.int .i64 n))) (n+1):=by
 have l:WideAt.IsKeyLit (gl L n):=rl.key (rm L n);refine⟨h.1.put _ _,fun a d=> ?_⟩;by_cases b:fq L n a
 ·have e:gl L a=gl L n:=((Ux L n a c d).2 b).symm;rw[Hu L a n c b,e];refine⟨fun j i=> ?_,fun k=>by cases k⟩;injection i with i;subst i;exact⟨has_put_same h.1 l _,atKey_put_same h.1 l _ _⟩
 rw[sr L a n (fun k=>b k.2)];have m:gl L a≠gl L n:=fun e=>b ((Ux L n a c d).1 e.symm)
 rw[has_put_other m,atKey_put_other m];exact h.2 a d
theorem Ih {o:Option (Ty×List UInt8)}{t:Ty}{r:List UInt8}(h:uA o=some (t,r)):∃x b,o=some (x,b)/\gC x b=some (t,r):=by
 match o,h with
 |some (x,b),h=>exact⟨x,b,rfl,h⟩
theorem Ii {f L b:Nat}{s:ByteArray}{p q d:Nat}{x y:Ty}(m:0<L)(k:aK (f+1) (s.data.toList.drop p)=uA (aK f (s.data.toList.drop (p+1))))(h:sX f (L-1) s (p+1) x false q b)(i:d<=s.size):sX (f+1) L s p y false d b:=by
 refine⟨(by intro h;cases h),fun _ o r c=> ?_,i⟩;rw[k]at c;obtain⟨z,e,j,l⟩:=Ih c;obtain⟨n,rfl⟩:=Lz l;have:=(h.2.1 rfl z e j).list n;rwa [show 1+(L-1)=L from by omega]at this
theorem oO {f L k e:Nat}{s:ByteArray}{p q c:Nat}{x y:Ty}(l:aK (f+1) (s.data.toList.drop p)=uA (aK f (s.data.toList.drop (p+1))))(h:sX f (L-1) s (p+1) x true q k)(i:∀b r,gC x (s.data.toList.drop q)=some (b,r)->dR L b)(j:c<=s.size):sX (f+1) L s p y false c e:=by
 refine⟨(by intro h;cases h),fun _ b r d=> ?_,j⟩;rw[l,(h.1 rfl).1]at d;exact i b r d
theorem Ij {f L c:Nat}{s:ByteArray}{p q b n:Nat}{x:Ty}(k:0<L)(j:aK (f+1) (s.data.toList.drop p)=uA (aK f (s.data.toList.drop (p+1))))(h:sX f (L-1) s (p+1) x true q c)(d:gC x (s.data.toList.drop q)=some (.mk 4 n [x] 0,s.data.toList.drop b))(l:q<b)(e:b<=s.size):sX (f+1) L s p (.mk 4 n [x] 0) true b c:=by
 obtain⟨i,o,m⟩:=h.1 rfl;refine⟨fun _=>⟨by rw[j,i];exact d, ?_,by omega⟩,(by intro h;cases h),e⟩;simp only[Ty.count,aZ];omega
theorem Pp {s:ByteArray}{q:Nat}(x:Ty)(h:∀b:q<s.size,s[q].toNat≠58)(L:Nat):∀d r,gC x (s.data.toList.drop q)=some (d,r)->dR L d:=by
 intro d r c;by_cases b:q<s.size
 ·rw[drop_cons s q b,uB x _ _ (h b)]at c;cases c
 rw[zU (by simpa using b)]at c;cases c
theorem tail_at {s:ByteArray}{q:Nat}(x:Ty)(b:q<s.size)(h:s[q].toNat=58):gC x (s.data.toList.drop q)=iE x (cc (s.data.toList.drop (q+1))):=by
 rw[drop_cons s q b,show s[q]=58 from zW.1 h,my]
theorem Pq {s:ByteArray}{q n e:Nat}(x:Ty)(i:q<s.size)(h:s[q].toNat=58)(d:nV 1024 s (q+1) n false e)(L:Nat):∀b r,gC x (s.data.toList.drop q)=some (b,r)->dR L b:=by
 intro b r c;rw[tail_at x i h]at c;exact Ly (d.2.1 rfl) L x b r c
theorem Mi {s:ByteArray}{q n c:Nat}(x:Ty)(j:q<s.size)(h:s[q].toNat=58)(l:nV 1024 s (q+1) n true c)(k:∀j:c<s.size,s[c].toNat≠93)(L:Nat):∀d r,gC x (s.data.toList.drop q)=some (d,r)->dR L d:=by
 intro d r b;rw[tail_at x j h,(l.1 rfl).1]at b;by_cases i:c<s.size
 ·rw[drop_cons s c i,iE]at b;split at b
  ·rename_i e
   exact absurd (by first|exact e|simpa using e|(rw[e];rfl)) (k i)
  cases b
 rw[zU (by simpa using i)]at b;cases b
theorem Pr {s:ByteArray}{q n b:Nat}(x:Ty)(e:q<s.size)(h:s[q].toNat=58)(d:nV 1024 s (q+1) n true b)(i:b<s.size)(c:s[b].toNat=93):gC x (s.data.toList.drop q)=some (.mk 4 n [x] 0,s.data.toList.drop (b+1)):=by
 rw[tail_at x e h,(d.1 rfl).1,drop_cons s b i,iE,zl (by first|exact c|exact zW.1 c)]
theorem BK (f:Nat){s:ByteArray}{q:Nat}(h:s.size<=q):aK f (s.data.toList.drop q)=none:=by
 rw[zU (by simpa using h)];cases f<;>rfl
theorem qT.gone {f:Nat}{s:ByteArray}{R:Option (Ty×List UInt8)}{q:Nat}{acc:List Ty}{b:Nat}(d:R=none)(h:s.size<=q):qT f s R q acc b:=by
 refine⟨0, ?_,by rw[zU (by simpa using h)];simp⟩;subst d;have hi:=BK f h;rw[zU (by simpa using h)]at hi⊢;by_cases c:0<b
 ·simp[tQ,c]
 simp[tQ,c,hi]
theorem Ik {f:Nat}{s:ByteArray}{R:Option (Ty×List UInt8)}{p:Nat}(h:eD f s R p [] 0)(c:∀b:p<s.size,s[p].toNat≠125):qT f s R p [] 0:=by
 by_cases b:p<s.size
 ·exact h.first b (c b)
 exact qT.gone (h.stop (by omega)) (by omega)
theorem BL {f:Nat}{s:ByteArray}{R:Option (Ty×List UInt8)}{p:Nat}{acc:List Ty}{c:Nat}(h:eD f s R p acc c)(d:acc≠ [])(e:∀b:p<s.size,s[p].toNat≠125)(i:∀b:p<s.size,s[p].toNat≠44):R=none:=by
 by_cases b:p<s.size
 ·exact h.bad b (e b) (i b) d
 exact h.stop (by omega)
theorem Kb {f L L':Nat}{s:ByteArray}{R:Option (Ty×List UInt8)}{q b:Nat}{acc:List Ty}{c:Nat}{y:Ty}(h:Oq f s R q acc c)(i:q<=s.size)(d:sX f L s q y true b L'):eD f s R b (acc++ [y]) c:=by
 obtain⟨j,_,_⟩:=d.1 rfl;have e:=(h.some i j).1;rw[zZ,aa,show s.size-(s.size-b)=b from by have:=d.2.2;omega]at e;exact e
theorem sE (acc:List Ty)(y:Ty):aZ (acc++ [y])=aZ acc+y.count:=by simp[fy,aZ]
theorem Il {L c:Nat}{s:ByteArray}{R:Option (Ty×List UInt8)}{q:Nat}{acc:List Ty}{b:Nat}(d:R=some (.mk 5 0 acc b,s.data.toList.drop q))(i:L+aZ acc=c)(e:q<=s.size):Ov (1+c) s R (.mk 5 0 acc b) true q L:=
 ⟨fun _=>⟨d,by simp[Ty.count];omega⟩,(by intro h;cases h),e⟩
theorem CT {L d:Nat}{s:ByteArray}{R:Option (Ty×List UInt8)}{q:Nat}(t:Ty)(b:R=none)(c:q<=s.size):Ov d s R t false q L:=
 ⟨(by intro h;cases h),(by intro _ e r h;rw[b]at h;cases h),c⟩
theorem Ps {f L b e:Nat}{s:ByteArray}{R:Option (Ty×List UInt8)}{q d L':Nat}{acc:List Ty}{i:Nat}{y:Ty}(t:Ty)(h:Oq f s R q acc i)(c:sX f L s q y false d L')(l:L+aZ acc=b):Ov (1+b) s R t false d e:=by
 refine⟨(by intro h;cases h),fun _ j r k=> ?_,c.2.2⟩;have:=SB h (c.2.1 rfl) j r k;rwa [show 1+aZ acc+L=1+b from by omega]at this
theorem Pt {f:Nat}{s:ByteArray}{p:Nat}(b:p<s.size)(d:s[p].toNat=123):eD f s (aK (f+1) (s.data.toList.drop p)) (p+1) [] 0:=
 ⟨_,by rw[pV (c:=123) b d,JE],by omega⟩
theorem abb {f L L':Nat}{s:ByteArray}{p q:Nat}{t:Ty}{ok:Bool}(h:Ov L s (aK f (s.data.toList.drop p)) t ok q L'):sX f L s p t ok q L':=by
 refine⟨fun c=> ?_,h.2.1,h.2.2⟩;obtain⟨b,e⟩:=h.1 c;have d:=(fX _ _ _ _ b).2;simp only[zZ,aa]at d;exact⟨b,e,by have:=h.2.2;omega⟩
def lQ (s:ByteArray)(w:World)(R:Option (Ty×List UInt8))(e:Ending)(w':World):Prop:=
 Below w.heap.size w w'/\match R with
  |none=>∃v0 v1:Int,e= .returned (.tuple #[.agg #[.int .i64 v0,.int .i64 v1,.slice none 0 0,.int .i64 0],.int .i64 (-1)])
  |some (x,r)=>∃c0 c1 c2 c3,e= .returned (.tuple #[.agg #[c0,c1,c2,c3],.int .i64 (s.size-r.length:Nat)])/\fh w' (w.heap.size<= ·) x c0 c1 c2 c3
theorem BM (f:Nat):aK f []=none:=by cases f<;>rfl
theorem CU (X:World)(t:TypeId)(b:Array Value)(n:Nat)(h:X.heap.size=n):af (X.alloc (.cells b t)) n t b:=by subst h;exact af.new X t b
def bE (v0 v1:Int):Value:= .tuple #[.agg #[.int .i64 v0,.int .i64 v1,.slice none 0 0,.int .i64 0],.int .i64 (-1)]
