/- A config, or a frame, that came in as an argument. -/
import Derived.ProofKit
import Derived.OpenShut
import Derived.ShutString
import Derived.Test.YtdbmifjankgfpaaGreatDoorKA10
set_option linter.all false
set_option maxRecDepth 100000
open Go.Proofs.Tryz
namespace Go.Proofs.YtdbmifjankgfpaaGreatDoor
open Go.ChangeShapes Go.WideShapes Go.ChangeAt Go.RowKit
variable {w w' wr:World}{g hi e i j base o p:Nat}{d v m:Value}{l:List bz}{x:gE}{fault n:Int}{S:Nat->Prop}{L:List Nat}{acc:List Ms}{H:Type}{held:Bool}{a:Addr}
def yB:=@underlying3
def xm:=@Option.bind_eq_some_iff
def xP:=@DataW.trod_int
def ZX:=@underlying46
def Z1:=@DataW.trod_struct
def aP.val (c:aP):Value:= .agg #[.int .i64 c.fm,.int .u32 c.mg,.int .i64 c.fr,.int .i64 c.un,.int .i64 c.de,.int .i64 c.it]
def Fr.val (f:Fr):Value:= .agg #[.int .u64 f.id,.string f.nm,.string f.body]
structure aP.ok (c:aP):Prop where
 fm: -9223372036854775808<=c.fm/\c.fm<=9223372036854775807
 mg:c.mg<4294967296
 fr: -9223372036854775808<=c.fr/\c.fr<=9223372036854775807
 un: -9223372036854775808<=c.un/\c.un<=9223372036854775807
 de: -9223372036854775808<=c.de/\c.de<=9223372036854775807
 it: -9223372036854775808<=c.it/\c.it<=9223372036854775807
structure Fr.ok (f:Fr):Prop where
 id:f.id<18446744073709551616
 nm:f.nm.size<=9223372036854775807
 body:f.body.size<=9223372036854775807
theorem wf_i64 (h:(Lit.int .i64 n).wf=true): -9223372036854775808<=n/\n<=9223372036854775807:=by simpa[Lit.wf,IntKind.min,IntKind.max,IntKind.signed,IntKind.bits]using h
theorem wf_u32 (h:(Lit.int .u32 n).wf=true):∃k:Nat,n=(k:Int)/\k<4294967296:=by
 have b:0<=n/\n<=4294967295:=by simpa[Lit.wf,IntKind.min,IntKind.max,IntKind.signed,IntKind.bits]using h
 exact⟨n.toNat,by omega,by omega⟩
theorem wf_u64 (h:(Lit.int .u64 n).wf=true):∃k:Nat,n=(k:Int)/\k<18446744073709551616:=by
 have b:0<=n/\n<=18446744073709551615:=by simpa[Lit.wf,IntKind.min,IntKind.max,IntKind.signed,IntKind.bits]using h
 exact⟨n.toNat,by omega,by omega⟩
theorem FH :prog.cellsOf 24=6:=by kernel_rfl
theorem C1 :prog.cellsOf 3=1:=by kernel_rfl
theorem C2 :prog.cellsOf 22=1:=by kernel_rfl
theorem C3 :prog.cellsOf 46=1:=by kernel_rfl
theorem C4 :prog.cellsOf 9=1:=by kernel_rfl
theorem Qe {enc:TypeId×Value->H}{spare:Nat->Bool}(C:Nat)(o:List Value)(x:DataW H×List MemPlace)(h:DataW.trod enc prog w base spare held C 24 o=some x):
 ∃c:aP,o= [.int .i64 c.fm,.int .u32 c.mg,.int .i64 c.fr,.int .i64 c.un,.int .i64 c.de,.int .i64 c.it]/\c.ok:=by
 obtain⟨xs,n,rfl,_,q,A,b⟩:=Z1 underlying24 h;rw[FH]at q;match o,q with
 | [c0,c1,c2,c3,c4,c5],_=>
  have i:DataW.trod enc prog w base spare held n 3 ((([c0,c1,c2,c3,c4,c5]:List Value).drop 0).take (prog.cellsOf 3))=xs[0]?:=b 0 _ rfl;have m:DataW.trod enc prog w base spare held n 22 ((([c0,c1,c2,c3,c4,c5]:List Value).drop 1).take (prog.cellsOf 22))=xs[1]?:=b 1 _ rfl;have d:DataW.trod enc prog w base spare held n 3 ((([c0,c1,c2,c3,c4,c5]:List Value).drop 2).take (prog.cellsOf 3))=xs[2]?:=b 2 _ rfl;have j:DataW.trod enc prog w base spare held n 3 ((([c0,c1,c2,c3,c4,c5]:List Value).drop 3).take (prog.cellsOf 3))=xs[3]?:=b 3 _ rfl;have l:DataW.trod enc prog w base spare held n 3 ((([c0,c1,c2,c3,c4,c5]:List Value).drop 4).take (prog.cellsOf 3))=xs[4]?:=b 4 _ rfl;have e:DataW.trod enc prog w base spare held n 3 ((([c0,c1,c2,c3,c4,c5]:List Value).drop 5).take (prog.cellsOf 3))=xs[5]?:=b 5 _ rfl;have D:xs.length=6:=A;rw[zx (by omega)]at i m d j l e;rw[C1]at i d j l e;rw[C2]at m;simp only[zJ,zO,yu,zX]at i m d j l e;obtain⟨i0,p,_,g0⟩:=xP yB i;obtain⟨i1,s,_,g1⟩:=xP underlying22 m;obtain⟨i2,u,_,g2⟩:=xP yB d;obtain⟨i3,y,_,g3⟩:=xP yB j;obtain⟨i4,z,_,g4⟩:=xP yB l;obtain⟨i5,r,_,g5⟩:=xP yB e;simp at p s u y z r;subst p;subst s;subst u;subst y;subst z;subst r;obtain⟨k,rfl,B⟩:=wf_u32 g1;exact⟨⟨i0,k,i2,i3,i4,i5⟩,rfl,wf_i64 g0,B,wf_i64 g2,wf_i64 g3,wf_i64 g4,wf_i64 g5⟩
theorem Ni {enc:TypeId×Value->H}{r:Reach}{spare:Nat->Bool}{d:DataW H}{m:List MemPlace}(i:Value.okWide prog w r j 24 v)(hd:DataW.Trod enc prog w base spare held 24 v d m):
 ∃c:aP,v=c.val/\c.ok:=by
 obtain⟨e,rfl,_⟩:=okWide_struct underlying24 i;obtain⟨k,l⟩:=hd;obtain⟨c,b,h⟩:=Qe k _ _ l;refine⟨c, ?_,h⟩;have b:e.toList= [.int .i64 c.fm,.int .u32 c.mg,.int .i64 c.fr,.int .i64 c.un,.int .i64 c.de,.int .i64 c.it]:=b;have:e= #[.int .i64 c.fm,.int .u32 c.mg,.int .i64 c.fr,.int .i64 c.un,.int .i64 c.de,.int .i64 c.it]:=by cases e;simp at b;simp[b]
 rw[this];rfl
open Go.RowKit
def AN (c:aP):Value:= .agg #[.int .i64 c.de,.int .i64 c.it]
def tG (c:aP):Value:= .func (.func (if c.fm=1 then 88 else 86)) #[AN c] #[]
def qB (c:aP):Value:= .func (.func (if c.fm=1 then 89 else 87)) #[AN c] #[]
def rgC (c:aP)(gn gi:Nat)(vp vg:Value):Array Value:= #[.int .i64 c.fm,.int .u32 c.mg,.int .i64 c.fr,.int .i64 c.un,.int .i64 c.de,.int .i64 c.it,.map (some gn),.map (some gi),vp,vg]
def Vv (w:World)(S:Nat->Prop)(r:cg):Prop:=∃c0 c1 c2 c3,r.2= .agg #[.int .u64 r.1.id,.string r.1.name,.string r.1.ty,c0,c1,c2,c3]/\fE w S r.1.shape c0 c1 c2 c3
structure nz (e:bz):Prop where
 id:e.id<18446744073709551616
 name:e.name.size<=100
 ty:e.ty.size<=500
structure mi (w:World)(lo hi g gn gi:Nat)(c:aP)(l:List cg):Prop where
 blk:af w g 125 (rgC c gn gi (tG c) (qB c))
 nm:jl w gn (AJ l)
 ix:jl w gi (AK l)
 n1:lo<=gn
 n2:gn<g
 i1:lo<=gi
 i2:gi<g
 ne:gn≠gi
 g2:g<hi
 his:hi<=w.heap.size
 rows:∀r∈l,Vv w (fun k=>g<k/\k<hi) r
 ok:cK c (aK l)
 sz:∀r∈l,nz r.1
theorem Vv.ag {S':Nat->Prop}{r:cg}(h:Vv w S r)(hS:∀k,k<w.heap.size->S k->S' k)(i:∀p:Addr,p.block<w.heap.size->S p.block->w'.cell? p=w.cell? p):Vv w' S' r:=by
 obtain⟨b,c,j,d,e,h⟩:=h;exact⟨b,c,j,d,e,fE.ag hS i _ h⟩
theorem jl.ag {l:List (Value×Value)}(h:jl w g l)(b:w'.heap[g]?=w.heap[g]?):jl w' g l:=b.trans h
theorem mi.ag {d:Nat}{c:aP}{l:List cg}(h:mi w e hi g i j c l)(b:∀k,e<=k->k<hi->w'.heap[k]?=w.heap[k]?)(m:hi<=d)(o:d<=w'.heap.size):mi w' e d g i j c l where
 blk:=(b g (by have:=h.n1;have:=h.n2;omega) h.g2).trans h.blk
 nm:=h.nm.ag (b i h.n1 (by have:=h.n2;have:=h.g2;omega))
 ix:=h.ix.ag (b j h.i1 (by have:=h.i2;have:=h.g2;omega))
 n1:=h.n1
 n2:=h.n2
 i1:=h.i1
 i2:=h.i2
 ne:=h.ne
 g2:=zU h.g2 m
 his:=o
 rows:=fun r n=>(h.rows r n).ag (fun k _ hS=>⟨hS.1,zU hS.2 m⟩) fun p _ hS=>zF (b _ (by have:=h.n1;have:=h.n2;have:=hS.1;omega) hS.2)
 ok:=h.ok
 sz:=h.sz
theorem mi.below {d:Nat}{c:aP}{l:List cg}(h:mi w d hi g e i c l)(b:Below hi w w'):mi w' d hi g e i c l:=h.ag (fun k _ j=>b.block k j) (zg _) (zK h.his b.size)
theorem mi.only {b:Nat}{c:aP}{l:List cg}(h:mi w b hi g e i c l)(d:ae L w w')(m:∀k∈L,k<b\/hi<=k):mi w' b hi g e i c l:=
 h.ag (fun k o j=>d.block k (zU j h.his) fun n=>by have:=m k n;omega) (zg _) (zK h.his d.size)
theorem mi.cells {b d:Nat}{c:aP}{l:List cg}(h:mi w e hi g b d c l):
 w.cell? ⟨g,0,none⟩=some (.int .i64 c.fm)/\w.cell? ⟨g,6,none⟩=some (.map (some b))/\w.cell? ⟨g,7,none⟩=some (.map (some d))/\w.cell? ⟨g,8,none⟩=some (tG c)/\w.cell? ⟨g,9,none⟩=some (qB c):=⟨h.blk.cell 0,h.blk.cell 6,h.blk.cell 7,h.blk.cell 8,h.blk.cell 9⟩
theorem mi.cfg {b d:Nat}{c:aP}{l:List cg}(h:mi w b hi g d e c l):
 w.cell? ⟨g,0,none⟩=some (.int .i64 c.fm)/\w.cell? ⟨g,1,none⟩=some (.int .u32 c.mg)/\w.cell? ⟨g,2,none⟩=some (.int .i64 c.fr)/\w.cell? ⟨g,3,none⟩=some (.int .i64 c.un)/\w.cell? ⟨g,4,none⟩=some (.int .i64 c.de)/\w.cell? ⟨g,5,none⟩=some (.int .i64 c.it):=⟨h.blk.cell 0,h.blk.cell 1,h.blk.cell 2,h.blk.cell 3,h.blk.cell 4,h.blk.cell 5⟩
def C5 :Value:= .agg #[.int .u64 0,.string ⟨#[]⟩,.string ⟨#[]⟩,.int .i64 0,.int .i64 0,.slice none 0 0,.int .i64 0]
theorem FI (w:World):(zeroValue 116).run prog w= .ok C5 w:=by kernel_rfl
theorem TR {b:Nat}{c:aP}{l:List cg}(n:jl w b (AJ l))(h:cK c (aK l))(nm:ByteArray):
 (dw (aK l) nm=none/\∀V,jl V b (AJ l)->(Instr.lookup 118 (.map (some b)) (.string nm) true).run prog V= .ok (.tuple #[C5,.bool false]) V)\/
 ∃r∈l,r.1.name=nm/\dw (aK l) nm=some r.1/\∀V,jl V b (AJ l)->(Instr.lookup 118 (.map (some b)) (.string nm) true).run prog V= .ok (.tuple #[r.2,.bool true]) V:=by
 rcases BZ h nm with⟨e,i⟩|⟨j,r,e,i,m,k⟩
 ·exact .inl ⟨i,fun V d=>KM d underlying118 zM (by simp[MapKept.IsKey]) e (FI V)⟩
 exact .inr ⟨r,xj i,m,k,fun V d=>Fm d underlying118 zM (by simp[MapKept.IsKey]) e⟩
theorem TS {b:Nat}{c:aP}{l:List cg}(o:jl w b (AK l))(h:cK c (aK l))(id:Nat):
 ((aK l).find? (fun e=>decide (e.id=id))=none/\∀V,jl V b (AK l)->(Instr.lookup 119 (.map (some b)) (.int .u64 id) true).run prog V= .ok (.tuple #[C5,.bool false]) V)\/
 ∃r∈l,r.1.id=id/\(aK l).find? (fun e=>decide (e.id=id))=some r.1/\∀V,jl V b (AK l)->(Instr.lookup 119 (.map (some b)) (.int .u64 id) true).run prog V= .ok (.tuple #[r.2,.bool true]) V:=by
 rcases KO h id _ (fun _=>rfl)with⟨i,k⟩|⟨j,r,i,k,n,m⟩
 ·exact .inl ⟨k,fun V d=>KM d underlying119 ZX (by simp[MapKept.IsKey]) i (FI V)⟩
 exact .inr ⟨r,xj k,n,m,fun V d=>Fm d underlying119 ZX (by simp[MapKept.IsKey]) i⟩
theorem nB {t:TypeId}{c e a3 a4 a5 b:Value}(h:af w g t #[d,c,e,a3,a4,a5,b]):
 w.cell? ⟨g,0,none⟩=some d/\w.cell? ⟨g,1,none⟩=some c/\w.cell? ⟨g,2,none⟩=some e/\w.cell? ⟨g,3,none⟩=some a3/\w.cell? ⟨g,4,none⟩=some a4/\w.cell? ⟨g,5,none⟩=some a5/\w.cell? ⟨g,6,none⟩=some b:=⟨h.cell 0,h.cell 1,h.cell 2,h.cell 3,h.cell 4,h.cell 5,h.cell 6⟩
def ssC (gr:Nat)(bv:Value)(nd:Nat)(fault:Int)(laid told aO:Nat):Array Value:= #[.pointer (some ⟨gr,0,none⟩),bv,.int .i64 nd,.int .i64 fault,.int .i64 laid,.int .i64 told,.int .i64 aO]
abbrev fq (w:World)(g gr:Nat)(bv:Value)(nd:Nat)(fault:Int)(laid told aO:Nat):Prop:=af w g 88 (ssC gr bv nd fault laid told aO)
theorem fq.parts {b:Nat}{laid c:Nat}(h:fq w g i d b fault laid c e):
 w.cell? ⟨g,0,none⟩=some (.pointer (some ⟨i,0,none⟩))/\w.cell? ⟨g,1,none⟩=some d/\w.cell? ⟨g,2,none⟩=some (.int .i64 b)/\w.cell? ⟨g,3,none⟩=some (.int .i64 fault)/\w.cell? ⟨g,4,none⟩=some (.int .i64 laid)/\w.cell? ⟨g,5,none⟩=some (.int .i64 c)/\w.cell? ⟨g,6,none⟩=some (.int .i64 e):=⟨h.cell 0,h.cell 1,h.cell 2,h.cell 3,h.cell 4,h.cell 5,h.cell 6⟩
theorem fq.C6 {b:Nat}{laid c:Nat}(h:fq w g i d b fault laid c e):
 w.frozen? ⟨g,1,none⟩=false/\w.frozen? ⟨g,2,none⟩=false/\w.frozen? ⟨g,3,none⟩=false/\w.frozen? ⟨g,4,none⟩=false/\w.frozen? ⟨g,5,none⟩=false/\w.frozen? ⟨g,6,none⟩=false:=⟨h.frozen 1,h.frozen 2,h.frozen 3,h.frozen 4,h.frozen 5,h.frozen 6⟩
theorem fq.IX {i:Value}{b:Nat}{laid c d:Nat}(h:fq w g e i b fault laid c d)(v:Value):fq (w.setCell ⟨g,1,none⟩ v) g e v b fault laid c d:=h.store rfl
theorem fq.TT {c:Value}{laid b d:Nat}(h:fq w g e c i fault laid b d)(n:Nat):fq (w.setCell ⟨g,2,none⟩ (.int .i64 n)) g e c n fault laid b d:=h.store rfl
theorem fq.Qf {b:Nat}{laid c:Nat}(h:fq w g j d b fault laid c i)(e:Int):fq (w.setCell ⟨g,3,none⟩ (.int .i64 e)) g j d b e laid c i:=h.store rfl
theorem fq.C7 {b:Nat}{laid c:Nat}(h:fq w g i d b fault laid c e)(n:Nat):fq (w.setCell ⟨g,4,none⟩ (.int .i64 n)) g i d b fault n c e:=h.store rfl
theorem fq.TU {c:Value}{b:Nat}{laid d:Nat}(h:fq w g e c b fault laid i d)(n:Nat):fq (w.setCell ⟨g,5,none⟩ (.int .i64 n)) g e c b fault laid n d:=h.store rfl
theorem fq.TV {b:Nat}{laid c:Nat}(h:fq w g e d b fault laid c i)(n:Nat):fq (w.setCell ⟨g,6,none⟩ (.int .i64 n)) g e d b fault laid c n:=h.store rfl
structure dZ (w:World)(lo hi g:Nat)(bv:Value)(c:aP)(l:List bz)(x:gE)(aO:Nat):Prop where
 lohi:lo<=hi
 GK:hi<=g
 reg:∃gr gn gi rows nd,mi w lo hi gr gn gi c rows/\aK rows=l/\fq w g gr bv nd x.fault x.laid x.told aO/\(x.fault=0->iJ c x.buf nd)
 buf:bP w hi 5 bv x.buf.data.toList
theorem dZ.lt {b:Nat}{e:Value}{c:aP}(h:dZ w b hi g e c l x i):g<w.heap.size:=by obtain⟨_,_,_,_,_,_,_,d,_⟩:=h.reg;exact d.lt
theorem dZ.own {c:aP}(h:dZ w e hi g d c l x i):∀k,d.ownBlock=some k->hi<=k/\k<w.heap.size:=fun k b=>⟨(h.buf.ge k b).1,(h.buf.ge k b).2.1⟩
theorem dZ.ag {j:Value}{c:aP}{n:Nat}(h:dZ w i hi g j c l x n)(hz:w.heap.size<=w'.heap.size)(m:∀k,k<w.heap.size->(i<=k/\k<hi)\/k=g\/j.ownBlock=some k->w'.heap[k]?=w.heap[k]?):dZ w' i hi g j c l x n:=by
 obtain⟨u,s,y,rows,q,d,r,o,p⟩:=h.reg;refine⟨h.lohi,h.GK,⟨u,s,y,rows,q,d.ag (fun k a b=>m k (zU b d.his) (.inl ⟨a,b⟩)) (zg _) (zK d.his hz),r,(m g o.lt (.inr (.inl rfl))).trans o,p⟩,h.buf.ag (fun k z e=>m k z (.inr (.inr e)))⟩
theorem dZ.only {j:Value}{c:aP}{n:Nat}(h:dZ w i hi g j c l x n)(m:ae L w w')(o:∀k,k∈L->¬(i<=k/\k<hi)/\k≠g/\j.ownBlock≠some k):dZ w' i hi g j c l x n:=
 h.ag m.size fun k q e=>m.block k q fun p=>by
  obtain⟨a,b,d⟩:=o k p;rcases e with e|e|e
  ·exact a e
  ·exact b e
  exact d e
theorem dZ.below {b:Nat}{c:aP}(h:dZ w b hi g d c l x e)(i:Below w.heap.size w w'):dZ w' b hi g d c l x e:=h.only (ae.ah i (zg _)) (by simp)
theorem dZ.TW {d:Nat}{b:Value}{c:aP}(h:dZ w d hi g b c l x j):∀k∈qs g b,hi<=k/\k<w.heap.size:=by
 intro k i;rcases iK.1 i with rfl|e
 ·exact⟨h.GK,h.lt⟩
 exact h.own k e
structure jL (S:Nat->Prop)(w w':World):Prop where
 os:w'.os=w.os
 tape:w'.tape=w.tape
 output:w'.output=w.output
 size:w.heap.size<=w'.heap.size
 block:∀k,k<w.heap.size->¬S k->w'.heap[k]?=w.heap[k]?
theorem jL.of (h:ae L w w')(b:∀k∈L,S k):jL S w w':=⟨h.os,h.tape,h.output,h.size,fun k d e=>h.block k d fun c=>e (b k c)⟩
theorem jL.trans {a b c:World}(h:jL S a b)(k:jL S b c):jL S a c:=⟨k.os.trans h.os,k.tape.trans h.tape,k.output.trans h.output,zK h.size k.size,fun i hi d=>(k.block i (zU hi h.size) d).trans (h.block i hi d)⟩
theorem jL.below (h:jL S w w'){B:Nat}(d:B<=w.heap.size)(hS:∀k,S k->B<=k):Below B w w':=⟨h.os,h.tape,h.output,h.size,fun k c=>h.block k (by omega) fun b=>by have:=hS k b;omega⟩
structure KV (w:World)(lo hi g kN:Nat)(bv av:Value)(c:aP)(l:List bz)(x:gE)(aO:Nat)(acc:List Ms):Prop where
 s:dZ w lo hi g bv c l x aO
 a:cW w (fun i=>kN<=i/\bv.ownBlock≠some i) kN acc av
 lo:kN<=w.heap.size
 g3:g<kN
 ob:∀k,bv.ownBlock=some k->kN<=k
theorem KV.new {b:Nat}{c:aP}{d:Nat}(h:dZ w b hi g (.slice none 0 0) c l x d):KV w b hi g w.heap.size (.slice none 0 0) (.slice none 0 0) c l x d []:=
 ⟨h,cW.nil _ _ _,zg _,h.lt,fun k e=>by cases e⟩
structure FdM (wr w:World)(lo hi g kN:Nat)(bv av rv:Value)(c:aP)(l:List bz)(x:gE)(aO:Nat)(acc fs:List Ms):Prop where
 s:dZ w lo hi g bv c l x aO
 a:cW w (fun i=>kN<=i/\bv.ownBlock≠some i) kN acc av
 r:cW w (fun i=>wr.heap.size<=i/\bv.ownBlock≠some i) wr.heap.size fs rv
 lr:kN<=wr.heap.size
 g3:g<kN
 ob:∀k,bv.ownBlock=some k->kN<=k
 kp:jL (fun k=>kN<=k\/k=g) wr w
 sep:∀k,av.ownBlock=some k->¬(wr.heap.size<=k/\bv.ownBlock≠some k)
theorem KV.mN {b:Nat}{n rv:Value}{c:aP}{y:gE}{s:List Ms}(h:KV wr p hi g b d n c l x o acc)
 (E:cW w (fun j=>wr.heap.size<=j/\m.ownBlock≠some j) wr.heap.size s rv) (H:dZ w p hi g m c l y o) (u:ae (qs g d) wr w) (r:∀k,m.ownBlock=some k->d.ownBlock=some k\/wr.heap.size<=k):
 FdM wr w p hi g b m n rv c l y o acc s:=by
 have z:=h.lo;have A:∀i,n.ownBlock=some i->i∉qs g d:=fun i e D=>by
  obtain⟨t1,t2,I,t3⟩:=h.a.typed i e;have B:=h.g3;rcases iK.1 D with e1|e1
  ·omega
  exact h.s.buf.dI t3 (by decide) e1
 have G:=h.a.gQ (S1:=fun i=>(b<=i/\d.ownBlock≠some i)/\m.ownBlock≠some i) (fun i hi hS=>⟨hS,fun e=>by
  rcases r i e with h|h
  ·exact hS.2 h
  omega⟩) (zg b)
 have F:=G.only u (fun i hi hS=>by
  have B:=h.g3;rcases iK.1 hi with e|e
  ·have:=hS.1.1;omega
  exact hS.1.2 e) (fun i hi e=>A i e hi)
 refine⟨H,F.gQ (fun i _ hS=>⟨hS.1.1,hS.2⟩) (zg b),E,z,h.g3,fun k e=> ?_,jL.of u fun k C=> ?_,fun k e=> ?_⟩
 ·rcases r k e with q|q
  ·exact h.ob k q
  omega
 ·rcases iK.1 C with e|e
  ·exact .inr e
  exact .inl (h.ob k e)
 have:=(h.a.ge k e).2;intro q;omega
theorem FdM.app {b:Nat}{rv p:Value}{c:aP}{q:Nat}{j:List Ms}(h:FdM wr w o hi g b d m rv c l x q acc j)
 (u:cW w' (fun i=>b<=i/\d.ownBlock≠some i) b (acc++j) p) (e:w.grownBy w' m.ownBlock):KV w' o hi g b d p c l x q (acc++j)/\jL (fun k=>b<=k\/k=g) wr w':=by
 have r:=h.g3;have n:∀i,i∈m.ownBlock.toList->b<=i/\d.ownBlock≠some i:=fun i hi=>by
  obtain⟨t1,t2,z,t3⟩:=h.a.typed i (cA.1 hi);exact⟨t1,h.s.buf.dI t3 (by decide)⟩
 have y:=e.size;have A:=h.kp.size;have C:=h.lr;have B:=h.s.GK;refine⟨⟨h.s.only (ae.dW e) (fun i hi=>by have:=n i hi;exact⟨by omega,by omega,(n i hi).2⟩),u,by omega,r,h.ob⟩,h.kp.trans (jL.of (ae.dW e) fun k s=> .inl (n k s).1)⟩
theorem KV.low {n:Value}{c:aP}(h:KV w i hi g p m n c l x o acc)(d:ae L w w')(j:∀k∈L,k<i):KV w' i hi g p m n c l x o acc:=by
 have q:=h.s.lohi;have r:=h.s.GK;have s:=h.g3;exact⟨h.s.only d (fun k b=>by have:=j k b;exact⟨by omega,by omega,fun e=>by have:=h.ob k e;omega⟩),h.a.only d (fun k b hS=>by have:=j k b;omega) (fun k b e=>by have:=j k b;have:=(h.a.ge k e).1;omega),zK h.lo d.size,h.g3,h.ob⟩
theorem KV.below {b:Nat}{i:Value}{c:aP}(h:KV w b hi g j d i c l x e acc)(k:Below w.heap.size w w'):KV w' b hi g j d i c l x e acc:=h.low (ae.ah k (zg _)) (by simp)
theorem Qg (j hi g:Nat)(k:Value)(c:aP)(l:List bz)(x:gE)(m:Nat)(w:World)(h:dZ w j hi g k c l x m):
 Calls prog 17 #[.pointer (some ⟨g,0,none⟩)] w fun e w'=>e= .returned (.string x.buf)/\w=w':=by
 obtain⟨_,_,_,_,_,_,_,d,_⟩:=h.reg;have b:=h.buf;have i:=b.form;rw[aa]at i;obtain⟨A,cap,rfl,_,_⟩:=i;obtain⟨_,o,u,r,q,s,p⟩:=d.parts;have n:=bP.EJ (P:=prog) (src:=31) (dst:=9) zr yq zM b;rw[iC]at n;clear d h b;go_enter func17,ntmps17
 go_wp2;go_ret;exact⟨rfl,rfl⟩
theorem nC {c:Type}(Q:Nat->c->Prop):∀n,(∀i,i<n->∃y,Q i y)->∃l:List c,l.length=n/\∀i (h:i<l.length),Q i l[i]
 |0,_=>⟨[],rfl,by simp⟩
 |n+1,h=>by
  obtain⟨l,b,e⟩:=nC Q n fun i hi=>h i (by omega)
  obtain⟨y,j⟩:=h n (by omega);refine⟨l++ [y],by simp[b],fun i hi=> ?_⟩;by_cases d:i<l.length
  ·rw[xJ d];exact e i d
  have:i=n:=by simp at hi;omega
  subst this;rw[List.getElem_append_right (by omega)];simpa[b]using j
theorem sV {k:List Value}(h:w.cells? base a 3=some k):∃b c d,k= [b,c,d]/\w.cell? a=some b/\w.cell? (a.add 1)=some c/\w.cell? (a.add 2)=some d:=by
 unfold World.cells? at h;split at h
 ·have e:List.range 3= [0,1,2]:=rfl;rw[e]at h;simp only[List.mapM_cons,List.mapM_nil,Option.bind_eq_bind,Option.pure_def,xm]at h;obtain⟨b,o,r,⟨c,n,q,⟨d,p,s,m,i⟩,j⟩,l⟩:=h;simp at m i j l;subst m;subst i;subst j;subst l;exact⟨b,c,d,rfl,by simpa[Addr.add]using o,n,p⟩
 cases h
theorem KW (h:w.cell? a=some v):a.spot=none:=by
 unfold World.cell? at h;split at h
 ·split at h
  ·cases h
  rename_i b;simpa using b
 cases h
theorem KX {p:Addr}(h:w.cell? p=some v):p.block<w.heap.size:=by
 rcases xG p.block w.heap.size with h'|h'
 ·exact h'
 simp[World.cell?,xT h']at h
