/- The keys of the map of places. -/
import Derived.Test.YtdbmifjankgfpaaGreatDoorKA11
import Derived.DeepKeys5
set_option linter.all false
open Go.Proofs.Tryz
namespace Go.Proofs.YtdbmifjankgfpaaGreatDoor
open Go.RowKit
variable {w wr:World}{i p f n:Nat}{s out:ByteArray}{L:List UInt8}{D:DataW Unit}
def ZO:=@underlying184
def nc (l:List Nat):Array Value:=(l.map fun n=>Value.int .u64 (n:Nat)).toArray
theorem acf (l:List Nat)(i:Nat)(h:i<l.length):(nc l)[i]?=some (.int .u64 (l.getD i 0:Nat)):=by
 simp[nc,zw,zx h]
theorem af.num {g:Nat}{t:TypeId}{l:List Nat}(h:af w g t (nc l))(hi:i<l.length):w.cell? ⟨g,i,none⟩=some (.int .u64 (l.getD i 0:Nat)):=(h.cell i).trans (acf l i hi)
theorem T3 (s:ByteArray)(j i:Nat)(w:World)(b:j<i)(hi:i<=s.size)(h:s.size<=65536):
 Calls prog 135 #[.string s,.int .i64 j,.int .i64 i] w fun e w'=>e= .returned (.int .i64 (mt s.data.toList j i 64))/\Below w.heap.size w w':=
 (TY s j i w b hi (by omega)).mono fun e w' ⟨c,m,d⟩=>⟨c,by rw[d];exact(zl _ _).bJ m⟩
def B9 (s:ByteArray)(w:World)(i p f:Nat)(out JY:ByteArray)(wr:World):Prop:=
 p<=i/\i<=s.size/\JY.data.toList=(s.data.toList.take i).drop p/\out.data.toList++pk s.data.toList f p i=pack s.data.toList/\s.size-i<f/\Below w.heap.size w wr
theorem B9.none {d:ByteArray}(h:B9 s w i p f out d wr)(hi:i<s.size)(l:Ie s.data.toList i i=none)(x:ByteArray)(hx:x.data.toList= [s[i]])(c:World)(j:Below w.heap.size w c):B9 s w (i+1) p (f-1) out (d++x) c:=by
 obtain⟨e,k,m,b,n,o⟩:=h;obtain⟨g,rfl⟩:∃g,f=g+1:=⟨f-1,by omega⟩
 unfold pk at b;rw[zi (by simpa using hi),l]at b;refine⟨by omega,by omega, ?_,b,by omega,j⟩;rw[aU,m,hx,jt s i hi,yK (by rw[length_take s i k];exact e)]
theorem B9.some {j:Nat}{k a b:ByteArray}(h:B9 s w i p f out k wr)(hi:i<s.size)(m:Ie s.data.toList i i=some j)(u:a.data.toList=ig k.data.toList)(n:b.data.toList=kZ (mt s.data.toList j i 64) (i-j))(d:World)(o:Below w.heap.size w d)(e:ByteArray)(r:e.data.toList= []):
 B9 s w (i+mt s.data.toList j i 64) (i+mt s.data.toList j i 64) (f-1) (out++a++b) e d:=by
 obtain⟨z,q,x,c,y,B⟩:=h;obtain⟨g,rfl⟩:∃g,f=g+1:=⟨f-1,by omega⟩
 unfold pk at c;rw[zi (by simpa using hi),m]at c;simp only at c;have l:=(BG s.data.toList 64 j i).2 (by simpa using q);have A:=(qh _ _ _ _ m).2;rw[aa]at l;refine⟨zg _,l, ?_, ?_,by simp;omega,o⟩
 ·rw[r,zI];rw[zV];omega
 rw[<-c,aU,aU,u,n,x];simp
open Go.RowKit Go.Maps
theorem laidOut :laidOutB prog=true:=by kernel_rfl
theorem rP :Keyed prog 184:=Keyed.of_law (deep_law_gate laidOut (yf (by kernel_rfl)) (yf (by kernel_rfl)) (by kernel_rfl) (by kernel_rfl))
theorem K5 (w:World):(zeroValue 3).run prog w= .ok (.int .i64 0) w:=by kernel_rfl
theorem ags (a b c d:UInt8):∃l,keyOf prog 184 (.agg #[.int .u8 a.toNat,.int .u8 b.toNat,.int .u8 c.toNat,.int .u8 d.toNat])=some l:=by
 have n:∀x:UInt8,(Lit.int .u8 (x.toNat:Int)).wf=true:=by
  intro x;have:=x.toNat_lt;simp[Lit.wf,IntKind.min,IntKind.max,IntKind.signed,IntKind.bits];omega
 have p:(prog.keyType 184)=true:=by kernel_rfl
 have e:prog.cellsOf 184=4:=by kernel_rfl
 have o:prog.cellsOf 5=1:=by kernel_rfl
 obtain⟨m,j⟩:∃m,prog.types.size+1=m+2:=⟨prog.types.size-1,by have:1<=prog.types.size:=yf (by kernel_rfl);omega⟩
 refine⟨.string (keyBytes [.int .u8 a.toNat,.int .u8 b.toNat,.int .u8 c.toNat,.int .u8 d.toNat]), ?_⟩;have h:List.range 4= [0,1,2,3]:=rfl;have k:Value.formed prog 184 (.agg #[.int .u8 a.toNat,.int .u8 b.toNat,.int .u8 c.toNat,.int .u8 d.toNat])=true:=by
  simp[Value.formed,ZO,e]
 have i:prog.keyLits (m+2) 184 [.int .u8 a.toNat,.int .u8 b.toNat,.int .u8 c.toNat,.int .u8 d.toNat]=some [.int .u8 a.toNat,.int .u8 b.toNat,.int .u8 c.toNat,.int .u8 d.toNat]:=by
  simp[Program.keyLits,ZO,yq,e,o,h,n]
 simp only[keyOf,ZO,p,k,j];have:(Value.agg #[.int .u8 a.toNat,.int .u8 b.toNat,.int .u8 c.toNat,.int .u8 d.toNat]).cells.toList= [.int .u8 a.toNat,.int .u8 b.toNat,.int .u8 c.toNat,.int .u8 d.toNat]:=rfl;rw[this,i];rfl
def gv (L:List UInt8)(i:Nat):Value:= .agg #[.int .u8 (L.getD i 0).toNat,.int .u8 (L.getD (i+1) 0).toNat,.int .u8 (L.getD (i+2) 0).toNat,.int .u8 (L.getD (i+3) 0).toNat]
theorem Qo (L:List UInt8)(i:Nat):∃l,keyOf prog 184 (gv L i)=some l:=ags _ _ _ _
noncomputable def gl (L:List UInt8)(i:Nat):Lit:=(Qo L i).choose
theorem rQ (L:List UInt8)(i:Nat):keyOf prog 184 (gv L i)=some (gl L i):=(Qo L i).choose_spec
theorem ku (L:List UInt8)(a b:Nat)(c:a<L.length)(d:b<L.length):(L.getD a 0).toNat=(L.getD b 0).toNat↔L[a]?=L[b]?:=by
 rw[zw,zw,zx c,zx d];simp[zQ]
theorem Vw (L:List UInt8)(a b:Nat)(i:a+4<=L.length)(j:b+4<=L.length):gl L a=gl L b↔fJ L a b:=by
 constructor
 ·intro h;have d:=rQ L a;rw[h]at d;have c:=rP.inj d (rQ L b);unfold gv at c;injection c with c;simp only[Array.mk.injEq,List.cons.injEq,Value.int.injEq,true_and,and_true,Int.natCast_inj]at c;exact⟨(ku L _ _ (by omega) (by omega)).1 c.1,(ku L _ _ (by omega) (by omega)).1 c.2.1,(ku L _ _ (by omega) (by omega)).1 c.2.2.1,(ku L _ _ (by omega) (by omega)).1 c.2.2.2⟩
 intro h;have e:gv L a=gv L b:=by
  unfold gv;rw[(ku L _ _ (by omega) (by omega)).2 h.1,(ku L _ _ (by omega) (by omega)).2 h.2.1,(ku L _ _ (by omega) (by omega)).2 h.2.2.1,(ku L _ _ (by omega) (by omega)).2 h.2.2.2]
 have d:=rQ L a;rw[e,rQ L b]at d;exact(yg d).symm
def MI (L:List UInt8)(D:DataW Unit)(n:Nat):Prop:=IsMap D/\∀a,a+4<=L.length->
 (∀j,jJ L a n=some j->Maps.has D (gl L a)=true/\D.atKey (gl L a) (.lit (.int .i64 0))= .lit (.int .i64 j))/\(jJ L a n=none->Maps.has D (gl L a)=false)
theorem MI.start (L:List UInt8):MI L (.map []) 0:=⟨⟨[],rfl⟩,fun a _=>⟨fun j h=>by simp[jJ]at h,fun _=>rfl⟩⟩
theorem MI.skip (h:MI L D n)(d:¬n+4<=L.length):MI L D (n+1):=by
 refine⟨h.1,fun a c=> ?_⟩;rw[sT L a n (fun b=>d b.1)];exact h.2 a c
theorem MI.put (h:MI L D n)(d:n+4<=L.length):MI L (D.put (gl L n) (.lit (.int .i64 n))) (n+1):=by
 have m:WideAt.IsKeyLit (gl L n):=rP.key (rQ L n);refine⟨h.1.put _ _,fun a k=> ?_⟩;by_cases b:fJ L n a
 ·have e:gl L a=gl L n:=((Vw L n a d k).2 b).symm;rw[IK L a n d b,e];refine⟨fun j c=> ?_,fun i=>by cases i⟩;injection c with c;subst c;exact⟨has_put_same h.1 m _,atKey_put_same h.1 m _ _⟩
 rw[sT L a n (fun i=>b i.2)];have l:gl L a≠gl L n:=fun e=>b ((Vw L n a d k).1 e.symm)
 rw[has_put_other l,atKey_put_other l];exact h.2 a k
