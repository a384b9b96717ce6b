/- A config, or a frame, that came in as an argument. -/
import Derived.ProofKit
import Derived.OpenShut
import Derived.ShutString
import Derived.Test.YtdbmifjankgfpaaGreatDoorKA6
set_option linter.all false
set_option maxRecDepth 100000
set_option maxHeartbeats 1000000
open Go.Proofs.Tryz
namespace Go.Proofs.YtdbmifjankgfpaaGreatDoor
open Go.ChangeShapes Go.WideShapes Go.ChangeAt Go.RowKit
variable {w w':World}{v:Value}{base B j:Nat}{H:Type}{held:Bool}{l:List ByteArray}{n:Int}{r:Reach}{d:DataW H}{a:Addr}
def zO:=@underlying9
def yD:=@underlying3
def xZ:=@DataW.trod_int
def ZV:=@underlying46
def aI.val (c:aI):Value:= .agg #[.int .i64 c.fm,.int .u32 c.mg,.int .i64 c.fr,.int .i64 c.un,.int .i64 c.de,.int .i64 c.it]
def Fr.val (f:Fr):Value:= .agg #[.int .u64 f.id,.string f.nm,.string f.body]
structure aI.ok (c:aI):Prop where
 fm: -9223372036854775808<=c.fm/\c.fm<=9223372036854775807
 mg:c.mg<4294967296
 fr: -9223372036854775808<=c.fr/\c.fr<=9223372036854775807
 un: -9223372036854775808<=c.un/\c.un<=9223372036854775807
 de: -9223372036854775808<=c.de/\c.de<=9223372036854775807
 it: -9223372036854775808<=c.it/\c.it<=9223372036854775807
structure Fr.ok (f:Fr):Prop where
 id:f.id<18446744073709551616
 nm:f.nm.size<=9223372036854775807
 body:f.body.size<=9223372036854775807
theorem wf_i64 (h:(Lit.int .i64 n).wf=true): -9223372036854775808<=n/\n<=9223372036854775807:=by simpa[Lit.wf,IntKind.min,IntKind.max,IntKind.signed,IntKind.bits]using h
theorem wf_u32 (h:(Lit.int .u32 n).wf=true):∃k:Nat,n=(k:Int)/\k<4294967296:=by
 have b:0<=n/\n<=4294967295:=by simpa[Lit.wf,IntKind.min,IntKind.max,IntKind.signed,IntKind.bits]using h
 exact⟨n.toNat,by omega,by omega⟩
theorem wf_u64 (h:(Lit.int .u64 n).wf=true):∃k:Nat,n=(k:Int)/\k<18446744073709551616:=by
 have b:0<=n/\n<=18446744073709551615:=by simpa[Lit.wf,IntKind.min,IntKind.max,IntKind.signed,IntKind.bits]using h
 exact⟨n.toNat,by omega,by omega⟩
theorem Fl :prog.cellsOf 24=6:=by kernel_rfl
theorem CY :prog.cellsOf 3=1:=by kernel_rfl
theorem CZ :prog.cellsOf 22=1:=by kernel_rfl
theorem C0 :prog.cellsOf 46=1:=by kernel_rfl
theorem qm :prog.cellsOf 9=1:=by kernel_rfl
theorem PO {enc:TypeId×Value->H}{spare:Nat->Bool}(A:Nat)(o:List Value)(x:DataW H×List MemPlace)(h:DataW.trod enc prog w base spare held A 24 o=some x):
 ∃c:aI,o= [.int .i64 c.fm,.int .u32 c.mg,.int .i64 c.fr,.int .i64 c.un,.int .i64 c.de,.int .i64 c.it]/\c.ok:=by
 obtain⟨xs,n,rfl,_,s,B,b⟩:=DataW.trod_struct underlying24 h;rw[Fl]at s;match o,s with
 | [c0,c1,c2,c3,c4,c5],_=>
  have e:DataW.trod enc prog w base spare held n 3 ((([c0,c1,c2,c3,c4,c5]:List Value).drop 0).take (prog.cellsOf 3))=xs[0]?:=b 0 _ rfl;have j:DataW.trod enc prog w base spare held n 22 ((([c0,c1,c2,c3,c4,c5]:List Value).drop 1).take (prog.cellsOf 22))=xs[1]?:=b 1 _ rfl;have l:DataW.trod enc prog w base spare held n 3 ((([c0,c1,c2,c3,c4,c5]:List Value).drop 2).take (prog.cellsOf 3))=xs[2]?:=b 2 _ rfl;have m:DataW.trod enc prog w base spare held n 3 ((([c0,c1,c2,c3,c4,c5]:List Value).drop 3).take (prog.cellsOf 3))=xs[3]?:=b 3 _ rfl;have d:DataW.trod enc prog w base spare held n 3 ((([c0,c1,c2,c3,c4,c5]:List Value).drop 4).take (prog.cellsOf 3))=xs[4]?:=b 4 _ rfl;have i:DataW.trod enc prog w base spare held n 3 ((([c0,c1,c2,c3,c4,c5]:List Value).drop 5).take (prog.cellsOf 3))=xs[5]?:=b 5 _ rfl;have D:xs.length=6:=B;rw[zB (by omega)]at e j l m d i;rw[CY]at e l m d i;rw[CZ]at j;simp only[zL,zT,yC,yf]at e j l m d i;obtain⟨i0,u,_,g0⟩:=xZ yD e;obtain⟨i1,y,_,g1⟩:=xZ underlying22 j;obtain⟨i2,z,_,g2⟩:=xZ yD l;obtain⟨i3,r,_,g3⟩:=xZ yD m;obtain⟨i4,q,_,g4⟩:=xZ yD d;obtain⟨i5,p,_,g5⟩:=xZ yD i;simp at u y z r q p;subst u;subst y;subst z;subst r;subst q;subst p;obtain⟨k,rfl,C⟩:=wf_u32 g1;exact⟨⟨i0,k,i2,i3,i4,i5⟩,rfl,wf_i64 g0,C,wf_i64 g2,wf_i64 g3,wf_i64 g4,wf_i64 g5⟩
theorem MP {enc:TypeId×Value->H}{spare:Nat->Bool}{l:List MemPlace}(i:Value.okWide prog w r j 24 v)(hd:DataW.Trod enc prog w base spare held 24 v d l):
 ∃c:aI,v=c.val/\c.ok:=by
 obtain⟨e,rfl,_⟩:=okWide_struct underlying24 i;obtain⟨h,k⟩:=hd;obtain⟨c,b,m⟩:=PO h _ _ k;refine⟨c, ?_,m⟩;have b:e.toList= [.int .i64 c.fm,.int .u32 c.mg,.int .i64 c.fr,.int .i64 c.un,.int .i64 c.de,.int .i64 c.it]:=b;have:e= #[.int .i64 c.fm,.int .u32 c.mg,.int .i64 c.fr,.int .i64 c.un,.int .i64 c.de,.int .i64 c.it]:=by cases e;simp at b;simp[b]
 rw[this];rfl
theorem s7 {c:Type}(Q:Nat->c->Prop):∀n,(∀i,i<n->∃y,Q i y)->∃l:List c,l.length=n/\∀i (h:i<l.length),Q i l[i]
 |0,_=>⟨[],rfl,by simp⟩
 |n+1,h=>by
  obtain⟨l,b,e⟩:=s7 Q n fun i hi=>h i (by omega)
  obtain⟨y,j⟩:=h n (by omega);refine⟨l++ [y],by simp[b],fun i hi=> ?_⟩;by_cases d:i<l.length
  ·rw[Zf d];exact e i d
  have:i=n:=by simp at hi;omega
  subst this;rw[List.getElem_append_right (by omega)];simpa[b]using j
theorem s8 {l:List Value}(h:w.cells? base a 3=some l):∃c d b,l= [c,d,b]/\w.cell? a=some c/\w.cell? (a.add 1)=some d/\w.cell? (a.add 2)=some b:=by
 unfold World.cells? at h;split at h
 ·have e:List.range 3= [0,1,2]:=rfl;rw[e]at h;simp only[List.mapM_cons,List.mapM_nil,Option.bind_eq_bind,Option.pure_def,Option.bind_eq_some_iff]at h;obtain⟨c,p,r,⟨d,n,s,⟨b,o,q,m,i⟩,j⟩,k⟩:=h;simp at m i j k;subst m;subst i;subst j;subst k;exact⟨c,d,b,rfl,by simpa[Addr.add]using p,n,o⟩
 cases h
theorem Kx (h:w.cell? a=some v):a.spot=none:=by
 unfold World.cell? at h;split at h
 ·split at h
  ·cases h
  rename_i b;simpa using b
 cases h
theorem Ky {p:Addr}(h:w.cell? p=some v):p.block<w.heap.size:=by
 rcases xG p.block w.heap.size with h'|h'
 ·exact h'
 simp[World.cell?,xQ h']at h
def Kz (w:World)(B:Nat)(v:Value)(l:List ByteArray):Prop:=∃A cap,v= .slice A l.length cap/\l.length<=cap/\cap<=9223372036854775807/\∀j (h:j<l.length),∃g o,A=some ⟨g,o,none⟩/\g<B/\w.cell? ⟨g,o+j,none⟩=some (.string l[j])
theorem Kz.ag {b:Nat}(h:Kz w B v l)(s:B<=b)(q:∀p:Addr,p.block<B->w'.cell? p=w.cell? p):Kz w' b v l:=by
 obtain⟨A,cap,e,i,n,r⟩:=h;refine⟨A,cap,e,i,n,fun j m=> ?_⟩;obtain⟨g,o,c,k,d⟩:=r j m;exact⟨g,o,c,by omega,(q _ k).trans d⟩
theorem Kz.below (h:Kz w B v l)(c:Below B w w'):Kz w' B v l:=h.ag (zg _) (fun _ b=>c.cell b)
theorem Kz.cF (h:Kz w B v l):∃A n cap,v= .slice A n cap/\Hid (n=l.length)/\n<=cap/\cap<=9223372036854775807:=by
 obtain⟨A,cap,b,c,d,_⟩:=h;exact⟨A,_,cap,b,za rfl,c,d⟩
theorem Kz.at_ {A:Option Addr}{n cap:Nat}(h:Kz w B (.slice A n cap) l)(d:j<l.length):∃g o,A=some ⟨g,o,none⟩/\g<B/\w.cell? ⟨g,o+j,none⟩=some (.string l[j]):=by
 obtain⟨e,i,c,k,m,b⟩:=h;injection c with hA _ _;subst hA;exact b j d
theorem IC {enc:TypeId×Value->H}{D:Nat}{y:List MemPlace}(C:Value.okWide prog w r D 51 v)(hd:DataW.Trod enc prog w base (fun _=>true) held 51 v d y):
 ∃(l:List ByteArray) (u:Value),v=u/\Kz w w.heap.size u l/\∀s∈l,s.size<=9223372036854775807:=by
 obtain⟨A,n,cap,rfl⟩:=okWide_slice underlying51 C;obtain⟨I,z⟩:=hd;rcases open_strings underlying51 zO qm z with⟨b,_⟩|⟨a,len,L,o,b,J,K,F,B,_,m,x⟩
 ·simp[Value.cells]at b;obtain⟨rfl,rfl,rfl⟩:=b;exact⟨[],_,rfl,⟨none,0,rfl,by simp,by simp,fun j e=>by simp at e⟩,by simp⟩
 simp[Value.cells]at b;obtain⟨rfl,rfl,rfl⟩:=b;rw[zi rfl]at B;have q:(o.take n).length=n:=by rw[zV];omega
 refine⟨o.take n,_,rfl,⟨some a,cap,by rw[q],by omega,by simpa[maxLen]using F,fun j e=> ?_⟩,fun s E=>by simpa[maxLen]using x s (List.mem_of_mem_take E)⟩;rw[q]at e;have c:=m j (by omega);rw[zw,zB (by omega),Option.getD_some]at c;obtain⟨h,k,i⟩:=a;have G:i=none:=by
  have p:=m 0 (by omega);rw[show(⟨h,k,i⟩:Addr).add 0=⟨h,k,i⟩from by simp[Addr.add]]at p;exact Kx p
 subst G;refine⟨h,k,rfl, ?_, ?_⟩
 ·have:=Ky c;unfold Addr.add at this;split at this<;>simpa using this
 rw[TM]at c;rw[c,List.getElem_take]
open Go.RowKit
theorem MQ (l:List ByteArray)(v:Value)(B:Nat)(w:World)(h:Kz w B v l)(L:B<=w.heap.size)(u:∀s∈l,s.size<=9223372036854775807):
 Calls prog 22 #[v] w fun e w'=>e= .returned (.bool (decide (300<l.length)||decide (1500<min (dk l) 10000)))/\Below w.heap.size w w':=by
 obtain⟨A,n,cap,rfl,b,O,U⟩:=h.cF;have K:=za h;have D:=za u;clear h u;by_cases z:300<n
 ·have I:(300:Int)<n:=by omega
  have k:Hid ((decide (300<l.length)||decide (1500<min (dk l) 10000))=true):=za (by rw[<-b.out];simp[z]);rw[k.out];go_enter func22,ntmps22
  go_wp2;go_ret;exact⟨rfl,zm _ _⟩
 have I:¬(300:Int)<n:=by omega
 have k:Hid ((decide (300<l.length)||decide (1500<min (dk l) 10000))=decide (1500<min (dk l) 10000)):=za (by rw[<-b.out];simp[z]);rw[k.out];go_enter func22,ntmps22
 go_wp2;go_loopw [3,4] (fun a i wr=>∃j:Nat,i= .int .i64 j/\j<=n/\a= .int .i64 (min (dk (l.take j)) 10000:Nat)/\wr=w) (fun _ i _=>n-(intOf i).toNat)
 case atStart=>exact⟨0,rfl,by omega,by simp[dk],rfl⟩
 case round=>
  obtain⟨j,rfl,M,rfl,rfl⟩:=hrel;by_cases E:j<n
  ·have c:j<l.length:=by rw[<-b.out];exact E
   obtain⟨g,o,rfl,W,H⟩:=K.out.at_ c;have q:=uY l j c;have G:=D.out l[j] (zR c);obtain⟨x,hx⟩:∃x,l[j]=x:=⟨_,rfl⟩
   rw[hx]at H q G;clear hx;have S:min (x.size:Int) 10000=((min x.size 10000:Nat):Int):=by omega
   have F:min (((min (dk (l.take j)) 10000:Nat):Int)+((min x.size 10000:Nat):Int)) 10000=((min (dk (l.take (j+1))) 10000:Nat):Int):=by omega
   have N:min x.size 10000<=10000:=by omega
   have R:min (dk (l.take j)) 10000<=10000:=by omega
   clear q;generalize (min x.size 10000:Nat)=b0 at*;generalize (min (dk (l.take j)) 10000:Nat)=p at*;obtain⟨y,m⟩:∃y,(min (dk (l.take (j+1))) 10000:Nat)=y:=⟨_,rfl⟩
   rw[m]at F;have J:=za m;clear m;go_wp2;go_roundw
   case rel=>exact⟨j+1,by go_num,by omega,by rw[J.out];refine xo (Value.int .i64) ?_;(repeat' split)<;>omega,trivial⟩
   case measure=>simp[intOf];omega
  obtain rfl:j=n:=by omega
  have r:l.take j=l:=zz (by rw[<-b.out];exact zg _);rw[r];obtain⟨p,d⟩:∃p,(min (dk l) 10000:Nat)=p:=⟨_,rfl⟩
  have C:=za d;rw[d];clear r d;go_wp2;go_ret;exact⟨aV (by rw[C.out];simp;omega),zm _ _⟩
structure vz (e:bD):Prop where
 id:e.id<18446744073709551616
 name:e.name.size<=9223372036854775807
 ty:e.ty.size<=9223372036854775807
theorem oM :prog.cellsOf 48=3:=by kernel_rfl
theorem PQ {enc:TypeId×Value->H}{spare:Nat->Bool}(p:Nat)(i:List Value)(x:DataW H×List MemPlace)(h:DataW.trod enc prog w base spare held p 48 i=some x):
 ∃f:bD,i= [.int .u64 f.id,.string f.name,.string f.ty]/\vz f:=by
 obtain⟨xs,n,rfl,_,j,q,e⟩:=DataW.trod_struct underlying48 h;rw[oM]at j;match i,j with
 | [c0,c1,c2],_=>
  have d:DataW.trod enc prog w base spare held n 46 ((([c0,c1,c2]:List Value).drop 0).take (prog.cellsOf 46))=xs[0]?:=e 0 _ rfl;have b:DataW.trod enc prog w base spare held n 9 ((([c0,c1,c2]:List Value).drop 1).take (prog.cellsOf 9))=xs[1]?:=e 1 _ rfl;have c:DataW.trod enc prog w base spare held n 9 ((([c0,c1,c2]:List Value).drop 2).take (prog.cellsOf 9))=xs[2]?:=e 2 _ rfl;have s:xs.length=3:=q;rw[zB (by omega)]at d b c;rw[C0]at d;rw[qm]at b c;simp only[zL,zT,yC,yf]at d b c;obtain⟨i0,l,_,g0⟩:=xZ ZV d;obtain⟨t1,m,_,g1⟩:=DataW.trod_string zO b;obtain⟨t2,o,_,g2⟩:=DataW.trod_string zO c;simp at l m o;subst l;subst m;subst o;obtain⟨k,rfl,r⟩:=wf_u64 g0;exact⟨⟨k,t1,t2⟩,rfl,r,by simpa[maxLen]using g1,by simpa[maxLen]using g2⟩
theorem MR {enc:TypeId×Value->H}{spare:Nat->Bool}(C:Nat)(q:List Value)(x:DataW H×List MemPlace)(h:DataW.trod enc prog w base spare held C 25 q=some x):
 ∃(l:List bD) (v:Value),q= [v]/\qj w w.heap.size v l/\∀f∈l,vz f:=by
 rcases DataW.trod_slice underlying25 h with⟨o,_⟩|⟨a,len,cap,O,rest,m,rfl,o,_,R,G,M,S,D,_,_⟩
 ·exact⟨[],_,o,qj.nil _ _,by simp⟩
 have key:∀i,i<len->∃y:bD,a.spot=none/\w.cell? ⟨a.block,a.off+i*3,none⟩=some (.int .u64 y.id)/\w.cell? ⟨a.block,a.off+i*3+1,none⟩=some (.string y.name)/\w.cell? ⟨a.block,a.off+i*3+2,none⟩=some (.string y.ty)/\vz y:=by
  have first:∀i,i<len->∃c,w.cells? base (a.add (i*3)) 3=some c/\∃z,DataW.trod enc prog w base spare held m 48 c=some z:=by
   intro i hi;have p:=D i hi;rw[oM,zB (by omega)]at p;rw[Option.bind_eq_some_iff]at p;obtain⟨c,d,b⟩:=p;exact⟨c,d,_,b⟩
  have e:0<len->a.spot=none:=by
   intro K;obtain⟨c,d,_⟩:=first 0 K
   obtain⟨d0,_,_,_,b,_⟩:=s8 d;have b:w.cell? a=some d0:=by simpa[Addr.add]using b
   exact Kx b
  intro i hi;obtain⟨c,d,z,b⟩:=first i hi
  obtain⟨d0,d1,d2,rfl,g0,g1,g2⟩:=s8 d;obtain⟨y,B,N⟩:=PQ m _ _ b;simp at B;obtain⟨rfl,rfl,rfl⟩:=B;have n:=e (by omega);have u:∀j,(a.add (i*3)).add j=⟨a.block,a.off+i*3+j,none⟩:=by
   intro j;obtain⟨E,L,I⟩:=a;simp only at n;subst n;unfold Addr.add;split<;>split<;>simp_all
  have A:=u 0;rw[show(a.add (i*3)).add 0=a.add (i*3)from by simp[Addr.add]]at A;rw[A]at g0;rw[u]at g1 g2;exact⟨y,n,g0,g1,g2,N⟩
 obtain⟨s,J,r⟩:=s7 _ len key;subst J;refine⟨s,_,o,⟨some a,cap,rfl,G,by simpa[maxLen]using M,fun j k=> ?_⟩,fun f F=> ?_⟩
 ·obtain⟨e,g0,g1,g2,_⟩:=r j k;refine⟨a.block,a.off, ?_,(by have:=Ky g0;simpa using this),by simpa using g0,by simpa using g1,by simpa using g2⟩;obtain⟨E,L,I⟩:=a;simp only at e;subst e;rfl
 obtain⟨j,k,rfl⟩:=List.mem_iff_getElem.1 F;exact(r j k).2.2.2.2
theorem ID {enc:TypeId×Value->H}{i:Nat}{spare:Nat->Bool}{k:List MemPlace}(h:Value.okWide prog w r i 25 v)(hd:DataW.Trod enc prog w base spare held 25 v d k):
 ∃(l:List bD) (u:Value),v=u/\qj w w.heap.size u l/\∀f∈l,vz f:=by
 obtain⟨A,n,cap,rfl⟩:=okWide_slice underlying25 h;obtain⟨e,j⟩:=hd;obtain⟨l,u,b,c,m⟩:=MR e _ _ j;simp[Value.cells]at b;subst b;exact⟨l,_,rfl,c,m⟩
