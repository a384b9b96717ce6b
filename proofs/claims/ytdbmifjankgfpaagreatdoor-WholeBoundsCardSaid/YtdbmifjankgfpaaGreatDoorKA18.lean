/- The keys of the map of places. -/
import Derived.Test.YtdbmifjankgfpaaGreatDoorKA12
import Derived.DeepKeys5
set_option linter.all false
open Go.Proofs.Tryz
namespace Go.Proofs.YtdbmifjankgfpaaGreatDoor
open Go.RowKit
variable {w wr:World}{i p f n:Nat}{s out:ByteArray}{L:List UInt8}{D:DataW Unit}
def yp:=@Option.some.inj
def ZM:=@underlying184
def nc (l:List Nat):Array Value:=(l.map fun n=>Value.int .u64 (n:Nat)).toArray
theorem abP (l:List Nat)(i:Nat)(h:i<l.length):(nc l)[i]?=some (.int .u64 (l.getD i 0:Nat)):=by
 simp[nc,zw,zB h]
theorem af.num {g:Nat}{t:TypeId}{l:List Nat}(h:af w g t (nc l))(hi:i<l.length):w.cell? ⟨g,i,none⟩=some (.int .u64 (l.getD i 0:Nat)):=(h.cell i).trans (abP l i hi)
theorem TX (s:ByteArray)(j i:Nat)(w:World)(d:j<i)(hi:i<=s.size)(h:s.size<=65536):
 Calls prog 135 #[.string s,.int .i64 j,.int .i64 i] w fun e w'=>e= .returned (.int .i64 (mt s.data.toList j i 64))/\Below w.heap.size w w':=
 (TT s j i w d hi (by omega)).mono fun e w' ⟨c,m,b⟩=>⟨c,by rw[b];exact(zm _ _).bs m⟩
def Cc (s:ByteArray)(w:World)(i p f:Nat)(out JE:ByteArray)(wr:World):Prop:=
 p<=i/\i<=s.size/\JE.data.toList=(s.data.toList.take i).drop p/\out.data.toList++pk s.data.toList f p i=pack s.data.toList/\s.size-i<f/\Below w.heap.size w wr
theorem Cc.none {d:ByteArray}(h:Cc s w i p f out d wr)(hi:i<s.size)(e:Ho s.data.toList i i=none)(x:ByteArray)(hx:x.data.toList= [s[i]])(c:World)(j:Below w.heap.size w c):Cc s w (i+1) p (f-1) out (d++x) c:=by
 obtain⟨k,l,m,b,o,n⟩:=h;obtain⟨g,rfl⟩:∃g,f=g+1:=⟨f-1,by omega⟩
 unfold pk at b;rw[zi (by simpa using hi),e]at b;refine⟨by omega,by omega, ?_,b,by omega,j⟩;rw[bc,m,hx,jC s i hi,yK (by rw[length_take s i l];exact k)]
theorem Cc.some {j:Nat}{m a b:ByteArray}(h:Cc s w i p f out m wr)(hi:i<s.size)(l:Ho s.data.toList i i=some j)(n:a.data.toList=ir m.data.toList)(u:b.data.toList=kY (mt s.data.toList j i 64) (i-j))(k:World)(o:Below w.heap.size w k)(e:ByteArray)(x:e.data.toList= []):
 Cc s w (i+mt s.data.toList j i 64) (i+mt s.data.toList j i 64) (f-1) (out++a++b) e k:=by
 obtain⟨B,q,r,c,z,y⟩:=h;obtain⟨g,rfl⟩:∃g,f=g+1:=⟨f-1,by omega⟩
 unfold pk at c;rw[zi (by simpa using hi),l]at c;simp only at c;have d:=(BK s.data.toList 64 j i).2 (by simpa using q);have A:=(pT _ _ _ _ l).2;rw[aa]at d;refine⟨zg _,d, ?_, ?_,by simp;omega,o⟩
 ·rw[x,zH];rw[zV];omega
 rw[<-c,bc,bc,n,u,r];simp
open Go.RowKit Go.Maps
theorem laidOut :laidOutB prog=true:=by kernel_rfl
theorem rS :Keyed prog 184:=Keyed.of_law (deep_law_gate laidOut (yj (by kernel_rfl)) (yj (by kernel_rfl)) (by kernel_rfl) (by kernel_rfl))
theorem KG (w:World):(zeroValue 3).run prog w= .ok (.int .i64 0) w:=by kernel_rfl
theorem afG (a b c d:UInt8):∃l,keyOf prog 184 (.agg #[.int .u8 a.toNat,.int .u8 b.toNat,.int .u8 c.toNat,.int .u8 d.toNat])=some l:=by
 have o:∀x:UInt8,(Lit.int .u8 (x.toNat:Int)).wf=true:=by
  intro x;have:=x.toNat_lt;simp[Lit.wf,IntKind.min,IntKind.max,IntKind.signed,IntKind.bits];omega
 have n:(prog.keyType 184)=true:=by kernel_rfl
 have e:prog.cellsOf 184=4:=by kernel_rfl
 have j:prog.cellsOf 5=1:=by kernel_rfl
 obtain⟨m,h⟩:∃m,prog.types.size+1=m+2:=⟨prog.types.size-1,by have:1<=prog.types.size:=yj (by kernel_rfl);omega⟩
 refine⟨.string (keyBytes [.int .u8 a.toNat,.int .u8 b.toNat,.int .u8 c.toNat,.int .u8 d.toNat]), ?_⟩;have p:List.range 4= [0,1,2,3]:=rfl;have k:Value.formed prog 184 (.agg #[.int .u8 a.toNat,.int .u8 b.toNat,.int .u8 c.toNat,.int .u8 d.toNat])=true:=by
  simp[Value.formed,ZM,e]
 have i:prog.keyLits (m+2) 184 [.int .u8 a.toNat,.int .u8 b.toNat,.int .u8 c.toNat,.int .u8 d.toNat]=some [.int .u8 a.toNat,.int .u8 b.toNat,.int .u8 c.toNat,.int .u8 d.toNat]:=by
  simp[Program.keyLits,ZM,yw,e,j,p,o]
 simp only[keyOf,ZM,n,k,h];have:(Value.agg #[.int .u8 a.toNat,.int .u8 b.toNat,.int .u8 c.toNat,.int .u8 d.toNat]).cells.toList= [.int .u8 a.toNat,.int .u8 b.toNat,.int .u8 c.toNat,.int .u8 d.toNat]:=rfl;rw[this,i];rfl
def gv (L:List UInt8)(i:Nat):Value:= .agg #[.int .u8 (L.getD i 0).toNat,.int .u8 (L.getD (i+1) 0).toNat,.int .u8 (L.getD (i+2) 0).toNat,.int .u8 (L.getD (i+3) 0).toNat]
theorem P' (L:List UInt8)(i:Nat):∃l,keyOf prog 184 (gv L i)=some l:=afG _ _ _ _
noncomputable def gl (L:List UInt8)(i:Nat):Lit:=(P' L i).choose
theorem rT (L:List UInt8)(i:Nat):keyOf prog 184 (gv L i)=some (gl L i):=(P' L i).choose_spec
theorem kx (L:List UInt8)(a b:Nat)(d:a<L.length)(c:b<L.length):(L.getD a 0).toNat=(L.getD b 0).toNat↔L[a]?=L[b]?:=by
 rw[zw,zw,zB d,zB c];simp[zS]
theorem Vj (L:List UInt8)(a b:Nat)(j:a+4<=L.length)(i:b+4<=L.length):gl L a=gl L b↔fO L a b:=by
 constructor
 ·intro h;have d:=rT L a;rw[h]at d;have c:=rS.inj d (rT L b);unfold gv at c;injection c with c;simp only[Array.mk.injEq,List.cons.injEq,Value.int.injEq,true_and,and_true,Int.natCast_inj]at c;exact⟨(kx L _ _ (by omega) (by omega)).1 c.1,(kx L _ _ (by omega) (by omega)).1 c.2.1,(kx L _ _ (by omega) (by omega)).1 c.2.2.1,(kx L _ _ (by omega) (by omega)).1 c.2.2.2⟩
 intro h;have e:gv L a=gv L b:=by
  unfold gv;rw[(kx L _ _ (by omega) (by omega)).2 h.1,(kx L _ _ (by omega) (by omega)).2 h.2.1,(kx L _ _ (by omega) (by omega)).2 h.2.2.1,(kx L _ _ (by omega) (by omega)).2 h.2.2.2]
 have d:=rT L a;rw[e,rT L b]at d;exact(yp d).symm
def MI (L:List UInt8)(D:DataW Unit)(n:Nat):Prop:=IsMap D/\∀a,a+4<=L.length->
 (∀j,jR L a n=some j->Maps.has D (gl L a)=true/\D.atKey (gl L a) (.lit (.int .i64 0))= .lit (.int .i64 j))/\(jR L a n=none->Maps.has D (gl L a)=false)
theorem MI.start (L:List UInt8):MI L (.map []) 0:=⟨⟨[],rfl⟩,fun a _=>⟨fun j h=>by simp[jR]at h,fun _=>rfl⟩⟩
theorem MI.skip (h:MI L D n)(b:¬n+4<=L.length):MI L D (n+1):=by
 refine⟨h.1,fun a d=> ?_⟩;rw[s5 L a n (fun c=>b c.1)];exact h.2 a d
theorem MI.put (h:MI L D n)(k:n+4<=L.length):MI L (D.put (gl L n) (.lit (.int .i64 n))) (n+1):=by
 have m:WideAt.IsKeyLit (gl L n):=rS.key (rT L n);refine⟨h.1.put _ _,fun a c=> ?_⟩;by_cases b:fO L n a
 ·have e:gl L a=gl L n:=((Vj L n a k c).2 b).symm;rw[Iw L a n k b,e];refine⟨fun j i=> ?_,fun d=>by cases d⟩;injection i with i;subst i;exact⟨has_put_same h.1 m _,atKey_put_same h.1 m _ _⟩
 rw[s5 L a n (fun d=>b d.2)];have l:gl L a≠gl L n:=fun e=>b ((Vj L n a k c).1 e.symm)
 rw[has_put_other l,atKey_put_other l];exact h.2 a c
