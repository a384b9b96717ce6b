/- A config, or a frame, that came in as an argument. -/
import Derived.ProofKit
import Derived.OpenShut
import Derived.ShutString
import Derived.Test.YtimoclkoflamkaaGreatDoorKA8
set_option linter.all false
set_option maxRecDepth 100000
set_option maxHeartbeats 1000000
open Go.Proofs.Tryz
namespace Go.Proofs.YtimoclkoflamkaaGreatDoor
open Go.ChangeShapes Go.WideShapes Go.ChangeAt Go.RowKit
variable {w w' a wr:World}{g sent d hi e i j base k sz:Nat}{l:List aV}{x:gW}{fault n:Int}{v m o:Value}{T L X Y:List Nat}{acc:List Ms}{S:Nat->Prop}{t:TypeId}{H:Type}{held:Bool}{P:Program}{r:Reach}{f:FuncId}
def yr:=@underlying3
def yX:=@DataW.trod_int
def xi:=@Option.bind_eq_some_iff
def Zz:=@DataW.trod_struct
def ZD:=@Nat.zero_mul
def ZU:=@Nat.one_mul
def Z2:=@ntmps29
def Z5:=@List.mem_range
def Yd:=@underlying61
def Ye:=@func29
def aF.val (c:aF):Value:= .agg #[.int .i64 c.fm,.int .u32 c.mg,.int .i64 c.fr,.int .i64 c.un,.int .i64 c.de,.int .i64 c.it]
def Fr.val (f:Fr):Value:= .agg #[.int .u64 f.id,.string f.nm,.string f.body]
structure aF.ok (c:aF):Prop where
 fm: -9223372036854775808<=c.fm/\c.fm<=9223372036854775807
 mg:c.mg<4294967296
 fr: -9223372036854775808<=c.fr/\c.fr<=9223372036854775807
 un: -9223372036854775808<=c.un/\c.un<=9223372036854775807
 de: -9223372036854775808<=c.de/\c.de<=9223372036854775807
 it: -9223372036854775808<=c.it/\c.it<=9223372036854775807
structure Fr.ok (f:Fr):Prop where
 id:f.id<18446744073709551616
 nm:f.nm.size<=9223372036854775807
 body:f.body.size<=9223372036854775807
theorem wf_i64 (h:(Lit.int .i64 n).wf=true): -9223372036854775808<=n/\n<=9223372036854775807:=by simpa[Lit.wf,IntKind.min,IntKind.max,IntKind.signed,IntKind.bits]using h
theorem wf_u32 (h:(Lit.int .u32 n).wf=true):∃k:Nat,n=(k:Int)/\k<4294967296:=by
 have b:0<=n/\n<=4294967295:=by simpa[Lit.wf,IntKind.min,IntKind.max,IntKind.signed,IntKind.bits]using h
 exact⟨n.toNat,by omega,by omega⟩
theorem wf_u64 (h:(Lit.int .u64 n).wf=true):∃k:Nat,n=(k:Int)/\k<18446744073709551616:=by
 have b:0<=n/\n<=18446744073709551615:=by simpa[Lit.wf,IntKind.min,IntKind.max,IntKind.signed,IntKind.bits]using h
 exact⟨n.toNat,by omega,by omega⟩
theorem GH :prog.cellsOf 24=6:=by kernel_rfl
theorem D8 :prog.cellsOf 3=1:=by kernel_rfl
theorem D9 :prog.cellsOf 22=1:=by kernel_rfl
theorem Ea :prog.cellsOf 61=1:=by kernel_rfl
theorem Eb :prog.cellsOf 9=1:=by kernel_rfl
theorem RJ {enc:TypeId×Value->H}{spare:Nat->Bool}(B:Nat)(o:List Value)(x:DataW H×List MemPlace)(h:DataW.trod enc prog w base spare held B 24 o=some x):
 ∃c:aF,o= [.int .i64 c.fm,.int .u32 c.mg,.int .i64 c.fr,.int .i64 c.un,.int .i64 c.de,.int .i64 c.it]/\c.ok:=by
 obtain⟨xs,n,rfl,_,s,A,b⟩:=Zz underlying24 h;rw[GH]at s;match o,s with
 | [c0,c1,c2,c3,c4,c5],_=>
  have l:DataW.trod enc prog w base spare held n 3 ((([c0,c1,c2,c3,c4,c5]:List Value).drop 0).take (prog.cellsOf 3))=xs[0]?:=b 0 _ rfl;have e:DataW.trod enc prog w base spare held n 22 ((([c0,c1,c2,c3,c4,c5]:List Value).drop 1).take (prog.cellsOf 22))=xs[1]?:=b 1 _ rfl;have m:DataW.trod enc prog w base spare held n 3 ((([c0,c1,c2,c3,c4,c5]:List Value).drop 2).take (prog.cellsOf 3))=xs[2]?:=b 2 _ rfl;have d:DataW.trod enc prog w base spare held n 3 ((([c0,c1,c2,c3,c4,c5]:List Value).drop 3).take (prog.cellsOf 3))=xs[3]?:=b 3 _ rfl;have i:DataW.trod enc prog w base spare held n 3 ((([c0,c1,c2,c3,c4,c5]:List Value).drop 4).take (prog.cellsOf 3))=xs[4]?:=b 4 _ rfl;have j:DataW.trod enc prog w base spare held n 3 ((([c0,c1,c2,c3,c4,c5]:List Value).drop 5).take (prog.cellsOf 3))=xs[5]?:=b 5 _ rfl;have D:xs.length=6:=A;rw[zr (by omega)]at l e m d i j;rw[D8]at l m d i j;rw[D9]at e;simp only[zG,zO,yq,zV]at l e m d i j;obtain⟨i0,q,_,g0⟩:=yX yr l;obtain⟨i1,y,_,g1⟩:=yX underlying22 e;obtain⟨i2,z,_,g2⟩:=yX yr m;obtain⟨i3,p,_,g3⟩:=yX yr d;obtain⟨i4,u,_,g4⟩:=yX yr i;obtain⟨i5,r,_,g5⟩:=yX yr j;simp at q y z p u r;subst q;subst y;subst z;subst p;subst u;subst r;obtain⟨k,rfl,C⟩:=wf_u32 g1;exact⟨⟨i0,k,i2,i3,i4,i5⟩,rfl,wf_i64 g0,C,wf_i64 g2,wf_i64 g3,wf_i64 g4,wf_i64 g5⟩
theorem C3 {enc:TypeId×Value->H}{spare:Nat->Bool}{d:DataW H}{k:List MemPlace}(m:Value.okWide prog w r i 24 v)(hd:DataW.Trod enc prog w base spare held 24 v d k):
 ∃c:aF,v=c.val/\c.ok:=by
 obtain⟨e,rfl,_⟩:=okWide_struct underlying24 m;obtain⟨j,l⟩:=hd;obtain⟨c,b,h⟩:=RJ j _ _ l;refine⟨c, ?_,h⟩;have b:e.toList= [.int .i64 c.fm,.int .u32 c.mg,.int .i64 c.fr,.int .i64 c.un,.int .i64 c.de,.int .i64 c.it]:=b;have:e= #[.int .i64 c.fm,.int .u32 c.mg,.int .i64 c.fr,.int .i64 c.un,.int .i64 c.de,.int .i64 c.it]:=by cases e;simp at b;simp[b]
 rw[this];rfl
open Go.RowKit
def BM (c:aF):Value:= .agg #[c.de,c.it]
def uM (c:aF):Value:= .func (.func (if c.fm=1 then 63 else 61)) #[BM c] #[]
def qS (c:aF):Value:= .func (.func (if c.fm=1 then 64 else 62)) #[BM c] #[]
def rgC (c:aF)(gn gi:Nat)(vp vg:Value):Array Value:= #[c.fm,.int .u32 c.mg,c.fr,c.un,c.de,c.it,.map (some gn),.map (some gi),vp,vg]
def Xz (w:World)(S:Nat->Prop)(r:bY):Prop:=∃c0 c1 c2 c3,r.2= .agg #[.int .u64 r.1.id,r.1.name,r.1.ty,c0,c1,c2,c3]/\gd w S r.1.shape c0 c1 c2 c3
structure mr (e:aV):Prop where
 id:e.id<18446744073709551616
 name:e.name.size<=100
 ty:e.ty.size<=500
structure lg (w:World)(lo hi g gn gi:Nat)(c:aF)(l:List bY):Prop where
 blk:af w g 123 (rgC c gn gi (uM c) (qS c))
 nm:jn w gn (BJ l)
 ix:jn w gi (BK l)
 n1:lo<=gn
 n2:gn<g
 i1:lo<=gi
 i2:gi<g
 ne:gn≠gi
 g2:g<hi
 his:hi<=w.heap.size
 rows:∀r∈l,Xz w (fun k=>g<k/\k<hi) r
 ok:ch c (aJ l)
 sz:∀r∈l,mr r.1
theorem Xz.ah {S':Nat->Prop}{r:bY}(h:Xz w S r)(hS:∀k,k<w.heap.size->S k->S' k)(b:∀p:Addr,p.block<w.heap.size->S p.block->w'.cell? p=w.cell? p):Xz w' S' r:=by
 obtain⟨c,j,d,i,e,h⟩:=h;exact⟨c,j,d,i,e,gd.ah hS b _ h⟩
theorem jn.ah {l:List (Value×Value)}(h:jn w g l)(b:w'.heap[g]?=w.heap[g]?):jn w' g l:=b.trans h
theorem lg.ah {c:aF}{l:List bY}(h:lg w d hi g e j c l)(b:∀k,d<=k->k<hi->w'.heap[k]?=w.heap[k]?)(m:hi<=i)(o:i<=w'.heap.size):lg w' d i g e j c l where
 blk:=(b g (by have:=h.n1;have:=h.n2;omega) h.g2).trans h.blk
 nm:=h.nm.ah (b e h.n1 (by have:=h.n2;have:=h.g2;omega))
 ix:=h.ix.ah (b j h.i1 (by have:=h.i2;have:=h.g2;omega))
 n1:=h.n1
 n2:=h.n2
 i1:=h.i1
 i2:=h.i2
 ne:=h.ne
 g2:=zJ h.g2 m
 his:=o
 rows:=fun r n=>(h.rows r n).ah (fun k _ hS=>⟨hS.1,zJ hS.2 m⟩) fun p _ hS=>zy (b _ (by have:=h.n1;have:=h.n2;have:=hS.1;omega) hS.2)
 ok:=h.ok
 sz:=h.sz
theorem lg.below {b:Nat}{c:aF}{l:List bY}(h:lg w b hi g d i c l)(e:Below hi w w'):lg w' b hi g d i c l:=h.ah (fun k _ j=>e.block k j) (ze _) (zz h.his e.size)
theorem lg.only {b:Nat}{c:aF}{l:List bY}(h:lg w b hi g d i c l)(e:ae L w w')(n:∀k∈L,k<b\/hi<=k):lg w' b hi g d i c l:=
 h.ah (fun k o j=>e.block k (zJ j h.his) fun m=>by have:=n k m;omega) (ze _) (zz h.his e.size)
theorem lg.grow {b:Nat}{c:aF}{l:List bY}(h:lg w b hi g d i c l)(e:Below w.heap.size w w'):lg w' b w'.heap.size g d i c l:=
 h.ah (fun k _ j=>e.block k (zJ j h.his)) (zz h.his e.size) (ze _)
theorem lg.cells {b:Nat}{c:aF}{l:List bY}(h:lg w e hi g b d c l):
 (w,g,0,c.fm)/\(w,g,6,Value.map (some b))/\(w,g,7,Value.map (some d))/\w.cell? (g,8)=some (uM c)/\w.cell? (g,9)=some (qS c):=⟨h.blk.cell 0,h.blk.cell 6,h.blk.cell 7,h.blk.cell 8,h.blk.cell 9⟩
theorem lg.cfg {b:Nat}{c:aF}{l:List bY}(h:lg w b hi g d e c l):
 (w,g,0,c.fm)/\(w,g,1,Value.int .u32 c.mg)/\(w,g,2,c.fr)/\(w,g,3,c.un)/\(w,g,4,c.de)/\(w,g,5,c.it):=⟨h.blk.cell 0,h.blk.cell 1,h.blk.cell 2,h.blk.cell 3,h.blk.cell 4,h.blk.cell 5⟩
def Ec :Value:= .agg #[.int .u64 0,eS,eS,(0:Int),(0:Int),nS,(0:Int)]
theorem GI (w:World):(zeroValue 126).run prog w= .ok Ec w:=by kernel_rfl
theorem Vw {b:Nat}{c:aF}{l:List bY}(n:jn w b (BJ l))(h:ch c (aJ l))(nm:ByteArray):
 (fE (aJ l) nm=none/\∀V,jn V b (BJ l)->(Instr.lookup 116 (.map (some b)) nm true).run prog V= .ok (.tuple #[Ec,false]) V)\/
 ∃r∈l,r.1.name=nm/\fE (aJ l) nm=some r.1/\∀V,jn V b (BJ l)->(Instr.lookup 116 (.map (some b)) nm true).run prog V= .ok (.tuple #[r.2,true]) V:=by
 rcases CW h nm with⟨d,i⟩|⟨j,r,d,i,k,m⟩
 ·exact .inl ⟨i,fun V e=>LZ e underlying116 zH (by simp[MapKept.IsKey]) d (GI V)⟩
 exact .inr ⟨r,xf i,k,m,fun V e=>Gq e underlying116 zH (by simp[MapKept.IsKey]) d⟩
theorem Vx {b:Nat}{c:aF}{l:List bY}(o:jn w b (BK l))(h:ch c (aJ l))(id:Nat):
 ((aJ l).find? (fun e=>decide (e.id=id))=none/\∀V,jn V b (BK l)->(Instr.lookup 117 (.map (some b)) (.int .u64 id) true).run prog V= .ok (.tuple #[Ec,false]) V)\/
 ∃r∈l,r.1.id=id/\(aJ l).find? (fun e=>decide (e.id=id))=some r.1/\∀V,jn V b (BK l)->(Instr.lookup 117 (.map (some b)) (.int .u64 id) true).run prog V= .ok (.tuple #[r.2,true]) V:=by
 rcases L5 h id _ (fun _=>rfl)with⟨d,k⟩|⟨j,r,d,k,m,n⟩
 ·exact .inl ⟨k,fun V i=>LZ i underlying117 Yd (by simp[MapKept.IsKey]) d (GI V)⟩
 exact .inr ⟨r,xf k,m,n,fun V i=>Gq i underlying117 Yd (by simp[MapKept.IsKey]) d⟩
theorem nI {b c d a3 a4 a5 e:Value}(h:af w g t #[b,c,d,a3,a4,a5,e]):
 (w,g,0,b)/\(w,g,1,c)/\(w,g,2,d)/\(w,g,3,a3)/\(w,g,4,a4)/\(w,g,5,a5)/\(w,g,6,e):=⟨h.cell 0,h.cell 1,h.cell 2,h.cell 3,h.cell 4,h.cell 5,h.cell 6⟩
def ssC (gr:Nat)(bv:Value)(nd:Nat)(fault:Int)(laid told sent:Nat):Array Value:= #[(gr,0),bv,nd,fault,laid,told,sent]
abbrev fj (w:World)(g gr:Nat)(bv:Value)(nd:Nat)(fault:Int)(laid told sent:Nat):Prop:=af w g 101 (ssC gr bv nd fault laid told sent)
theorem fj.parts {b:Value}{c:Nat}{laid:Nat}(h:fj w g e b c fault laid d sent):
 (w,g,0,e,0)/\(w,g,1,b)/\(w,g,2,c)/\(w,g,3,fault)/\(w,g,4,laid)/\(w,g,5,d)/\(w,g,6,sent):=⟨h.cell 0,h.cell 1,h.cell 2,h.cell 3,h.cell 4,h.cell 5,h.cell 6⟩
theorem fj.Ed {b:Value}{c:Nat}{laid:Nat}(h:fj w g e b c fault laid d sent):
 w.frozen? (g,1)=false/\w.frozen? (g,2)=false/\w.frozen? (g,3)=false/\w.frozen? (g,4)=false/\w.frozen? (g,5)=false/\w.frozen? (g,6)=false:=⟨h.frozen 1,h.frozen 2,h.frozen 3,h.frozen 4,h.frozen 5,h.frozen 6⟩
theorem fj.JX {e:Value}{b:Nat}{laid c:Nat}(h:fj w g d e b fault laid c sent)(v:Value):fj (w.setCell (g,1) v) g d v b fault laid c sent:=h.store rfl
theorem fj.Vy {b:Value}{laid c:Nat}(h:fj w g d b e fault laid c sent)(n:Nat):fj (w.setCell (g,2) n) g d b n fault laid c sent:=h.store rfl
theorem fj.RK {b:Value}{c:Nat}{laid:Nat}(h:fj w g i b c fault laid d sent)(e:Int):fj (w.setCell (g,3) e) g i b c e laid d sent:=h.store rfl
theorem fj.Ee {b:Value}{c:Nat}{laid:Nat}(h:fj w g e b c fault laid d sent)(n:Nat):fj (w.setCell (g,4) n) g e b c fault n d sent:=h.store rfl
theorem fj.Vz {b:Value}{c:Nat}{laid:Nat}(h:fj w g d b c fault laid e sent)(n:Nat):fj (w.setCell (g,5) n) g d b c fault laid n sent:=h.store rfl
theorem fj.VA {b:Value}{c:Nat}{laid:Nat}(h:fj w g e b c fault laid d sent)(n:Nat):fj (w.setCell (g,6) n) g e b c fault laid d n:=h.store rfl
structure eH (w:World)(lo hi g:Nat)(bv:Value)(c:aF)(l:List aV)(x:gW)(sent:Nat):Prop where
 lohi:lo<=hi
 Dr:hi<=g
 reg:∃gr gn gi rows nd,lg w lo hi gr gn gi c rows/\aJ rows=l/\fj w g gr bv nd x.fault x.laid x.told sent/\(x.fault=0->iM c x.buf nd)
 buf:bR w hi 5 bv x.buf.data.toList
theorem eH.lt {b:Value}{c:aF}(h:eH w e hi g b c l x sent):g<w.heap.size:=by obtain⟨_,_,_,_,_,_,_,d,_⟩:=h.reg;exact d.lt
theorem eH.own {b:Value}{c:aF}(h:eH w e hi g b c l x sent):∀k,b.ownBlock=some k->hi<=k/\k<w.heap.size:=fun k d=>⟨(h.buf.ge k d).1,(h.buf.ge k d).2.1⟩
theorem eH.ah {d:Value}{c:aF}(h:eH w i hi g d c l x sent)(hz:w.heap.size<=w'.heap.size)(j:∀k,k<w.heap.size->(i<=k/\k<hi)\/k=g\/d.ownBlock=some k->w'.heap[k]?=w.heap[k]?):eH w' i hi g d c l x sent:=by
 obtain⟨o,p,u,rows,r,m,q,n,s⟩:=h.reg;refine⟨h.lohi,h.Dr,⟨o,p,u,rows,r,m.ah (fun k a b=>j k (zJ b m.his) (.inl ⟨a,b⟩)) (ze _) (zz m.his hz),q,(j g n.lt (.inr (.inl rfl))).trans n,s⟩,h.buf.ah (fun k y e=>j k y (.inr (.inr e)))⟩
theorem eH.only {i:Value}{c:aF}(h:eH w j hi g i c l x sent)(m:ae L w w')(o:∀k,k∈L->¬(j<=k/\k<hi)/\k≠g/\i.ownBlock≠some k):eH w' j hi g i c l x sent:=
 h.ah m.size fun k p e=>m.block k p fun n=>by
  obtain⟨a,b,d⟩:=o k n;rcases e with e|e|e
  ·exact a e
  ·exact b e
  exact d e
theorem eH.below {b:Value}{c:aF}(h:eH w d hi g b c l x sent)(e:Below w.heap.size w w'):eH w' d hi g b c l x sent:=h.only (ae.ai e (ze _)) (by simp)
theorem eH.qT {lo:Nat}{bv:Value}{c:aF}(h:eH w lo hi g bv c l x sent):∀k∈qG g bv,hi<=k/\k<w.heap.size:=by
 intro k hk;rcases eW.1 hk with rfl|e
 ·exact⟨h.Dr,h.lt⟩
 exact h.own k e
structure mu (S:Nat->Prop)(w w':World):Prop where
 os:w'.os=w.os
 tape:w'.tape=w.tape
 output:w'.output=w.output
 size:w.heap.size<=w'.heap.size
 block:∀k,k<w.heap.size->¬S k->w'.heap[k]?=w.heap[k]?
theorem mu.of (h:ae L w w')(e:∀k∈L,S k):mu S w w':=⟨h.os,h.tape,h.output,h.size,fun k d b=>h.block k d fun c=>b (e k c)⟩
theorem mu.trans {b c:World}(h:mu S a b)(k:mu S b c):mu S a c:=⟨k.os.trans h.os,k.tape.trans h.tape,k.output.trans h.output,zz h.size k.size,fun i hi d=>(k.block i (zJ hi h.size) d).trans (h.block i hi d)⟩
theorem mu.below (h:mu S w w'){B:Nat}(c:B<=w.heap.size)(hS:∀k,S k->B<=k):Below B w w':=⟨h.os,h.tape,h.output,h.size,fun k d=>h.block k (by omega) fun b=>by have:=hS k b;omega⟩
structure RL (w:World)(lo hi g qa:Nat)(bv av:Value)(c:aF)(l:List aV)(x:gW)(sent:Nat)(acc:List Ms):Prop where
 s:eH w lo hi g bv c l x sent
 a:bA w (fun i=>qa<=i/\bv.ownBlock≠some i) qa acc av
 lo:qa<=w.heap.size
 g3:g<qa
 ob:∀k,bv.ownBlock=some k->qa<=k
theorem RL.new {b:Nat}{c:aF}(h:eH w b hi g nS c l x sent):RL w b hi g w.heap.size nS nS c l x sent []:=
 ⟨h,bA.nil _ _ _,ze _,h.lt,fun k e=>by cases e⟩
structure FdM (wr w:World)(lo hi g qa:Nat)(bv av rv:Value)(c:aF)(l:List aV)(x:gW)(sent:Nat)(acc fs:List Ms):Prop where
 s:eH w lo hi g bv c l x sent
 a:bA w (fun i=>qa<=i/\bv.ownBlock≠some i) qa acc av
 r:bA w (fun i=>wr.heap.size<=i/\bv.ownBlock≠some i) wr.heap.size fs rv
 lr:qa<=wr.heap.size
 g3:g<qa
 ob:∀k,bv.ownBlock=some k->qa<=k
 kp:mu (fun k=>qa<=k\/k=g) wr w
 sep:∀k,av.ownBlock=some k->¬(wr.heap.size<=k/\bv.ownBlock≠some k)
theorem RL.kT {p:Nat}{b rv:Value}{c:aF}{y:gW}{q:List Ms}(h:RL wr p hi g d b o c l x sent acc)
 (A:bA w (fun j=>wr.heap.size<=j/\m.ownBlock≠some j) wr.heap.size q rv) (E:eH w p hi g m c l y sent) (s:ae (qG g b) wr w) (r:∀k,m.ownBlock=some k->b.ownBlock=some k\/wr.heap.size<=k):
 FdM wr w p hi g d m o rv c l y sent acc q:=by
 have z:=h.lo;have D:∀i,o.ownBlock=some i->i∉qG g b:=fun i e u=>by
  obtain⟨t1,t2,H,t3⟩:=h.a.typed i e;have G:=h.g3;rcases eW.1 u with e1|e1
  ·omega
  exact h.s.buf.cw t3 (by decide) e1
 have F:=h.a.eG (S1:=fun i=>(d<=i/\b.ownBlock≠some i)/\m.ownBlock≠some i) (fun i hi hS=>⟨hS,fun e=>by
  rcases r i e with h|h
  ·exact hS.2 h
  omega⟩) (ze d)
 have B:=F.only s (fun i hi hS=>by
  have G:=h.g3;rcases eW.1 hi with e|e
  ·have:=hS.1.1;omega
  exact hS.1.2 e) (fun i hi e=>D i e hi)
 refine⟨E,B.eG (fun i _ hS=>⟨hS.1.1,hS.2⟩) (ze d),A,z,h.g3,fun k e=> ?_,mu.of s fun k C=> ?_,fun k e=> ?_⟩
 ·rcases r k e with n|n
  ·exact h.ob k n
  omega
 ·rcases eW.1 C with e|e
  ·exact .inr e
  exact .inl (h.ob k e)
 have:=(h.a.ge k e).2;intro n;omega
theorem FdM.app {o b:Nat}{d n rv p:Value}{c:aF}{e:List Ms}(h:FdM wr w o hi g b d n rv c l x sent acc e)
 (r:bA w' (fun i=>b<=i/\d.ownBlock≠some i) b (acc++e) p) (j:w.grownBy w' n.ownBlock):RL w' o hi g b d p c l x sent (acc++e)/\mu (fun k=>b<=k\/k=g) wr w':=by
 have s:=h.g3;have m:∀i,i∈n.ownBlock.toList->b<=i/\d.ownBlock≠some i:=fun i hi=>by
  obtain⟨t1,t2,z,t3⟩:=h.a.typed i (aM.1 hi);exact⟨t1,h.s.buf.cw t3 (by decide)⟩
 have B:=j.size;have u:=h.kp.size;have A:=h.lr;have y:=h.s.Dr;refine⟨⟨h.s.only (ae.cn j) (fun i hi=>by have:=m i hi;exact⟨by omega,by omega,(m i hi).2⟩),r,by omega,s,h.ob⟩,h.kp.trans (mu.of (ae.cn j) fun k q=> .inl (m k q).1)⟩
theorem RL.low {n:Nat}{c:aF}(h:RL w d hi g n m o c l x sent acc)(i:ae L w w')(j:∀k∈L,k<d):RL w' d hi g n m o c l x sent acc:=by
 have q:=h.s.lohi;have r:=h.s.Dr;have p:=h.g3;exact⟨h.s.only i (fun k b=>by have:=j k b;exact⟨by omega,by omega,fun e=>by have:=h.ob k e;omega⟩),h.a.only i (fun k b hS=>by have:=j k b;omega) (fun k b e=>by have:=j k b;have:=(h.a.ge k e).1;omega),zz h.lo i.size,h.g3,h.ob⟩
theorem RL.below {b i:Value}{c:aF}(h:RL w e hi g d b i c l x sent acc)(j:Below w.heap.size w w'):RL w' e hi g d b i c l x sent acc:=h.low (ae.ai j (ze _)) (by simp)
def gj {α:Type}(f:Nat->α)(i:Nat)(a:α):Nat->α:=fun j=>if j=i then a else f j
theorem bp {b:Type}(f:Nat->b)(i:Nat)(a:b):gj f i a i=a:=by simp[gj]
theorem aS {b:Type}(f:Nat->b)(a:b)(h:j≠i):gj f i a j=f j:=by simp[gj,h]
structure gT where
 lo:Nat->Nat
 hi:Nat->Nat
 g:Nat->Nat
 p:Nat
 base:Nat
 room:Nat
 rl:room<=1048576
structure dJ where
 x:Nat->gW
 sent:Nat->Nat
 way:Nat->ByteArray
 got:Nat->List Ms
def GJ (V:Nat->Value):Prop:=∀i j k,i<6->j<6->(V i).ownBlock=some k->(V j).ownBlock=some k->i=j
theorem GJ.gj {V:Nat->Value}(h:GJ V)(p:∀j k,j<6->(V j).ownBlock=some k->k<sz)(n:∀k,v.ownBlock=some k->(V i).ownBlock=some k\/sz<=k):GJ (gj V i v):=by
 intro a b k l m d c;by_cases o:a=i
 ·subst o;by_cases e:b=a
  ·exact e.symm
  rw[bp]at d;rw[aS _ _ e]at c;rcases n k d with h3|h3
  ·exact h a b k l m h3 c
  have:=p b k m c;omega
 rw[aS _ _ o]at d;by_cases e:b=i
 ·subst e;rw[bp]at c;rcases n k c with h3|h3
  ·exact h a b k l m d h3
  have:=p a k l d;omega
 rw[aS _ _ e]at c;exact h a b k l m d c
def jP (base:Nat)(Fr:Nat->Prop)(V:Nat->Value)(k:Nat):Prop:=base<=k/\¬Fr k/\∀i,i<6->(V i).ownBlock≠some k
theorem jP.gj {Fr:Nat->Prop}{V:Nat->Value}(h:jP base Fr V k)(l:k<sz)(d:∀k,v.ownBlock=some k->(V i).ownBlock=some k\/sz<=k)(hi:i<6):jP base Fr (gj V i v) k:=by
 refine⟨h.1,h.2.1,fun j b e=> ?_⟩;by_cases c:j=i
 ·subst c;rw[bp]at e;rcases d k e with h3|h3
  ·exact h.2.2 j b h3
  omega
 rw[aS _ _ c]at e;exact h.2.2 j b e
def ib (L:gT)(V:Nat->Value):Array Value:= #[(L.g 0,0),V 2,V 4,(L.g 1,0),V 3,V 5,L.room]
structure gp (w:World)(L:gT)(V:Nat->Value)(Fr:Nat->Prop)(c:aF)(l:List aV)(D:dJ):Prop where
 blk:af w L.p 80 (ib L V)
 ses:∀i,i<2->eH w (L.lo i) (L.hi i) (L.g i) (V i) c l (D.x i) (D.sent i)
 way:∀i,i<2->Way w L.base 5 (V (2+i)) (D.way i).data.toList
 got:∀i,i<2->bA w (jP L.base Fr V) L.base (D.got i) (V (4+i))
 ob:∀i k,i<2->(V i).ownBlock=some k->L.base<=k
 apart:GJ V
 frg:∀k,Fr k->L.base<=k/\k<w.heap.size/\∀j,j<6->(V j).ownBlock≠some k
 ord:L.p<L.lo 0/\L.g 0<L.lo 1/\L.g 1<L.base
 low:L.base<=w.heap.size
theorem gp.own {L:gT}{V:Nat->Value}{Fr:Nat->Prop}{c:aF}{D:dJ}(h:gp w L V Fr c l D):∀j k,j<6->(V j).ownBlock=some k->L.base<=k/\k<w.heap.size:=by
 intro j k b e;rcases(by omega:j<2\/2<=j/\j<4\/4<=j)with h1|h1|h1
 ·exact⟨h.ob j k h1 e,((h.ses j h1).own k e).2⟩
 ·obtain⟨i,rfl⟩:∃i,j=2+i:=⟨j-2,by omega⟩
  have:=(h.way i (by omega)).ge k e;exact⟨this.1,this.2.1⟩
 obtain⟨i,rfl⟩:∃i,j=4+i:=⟨j-4,by omega⟩
 exact(h.got i (by omega)).ge k e
theorem gp.places {L:gT}{V:Nat->Value}{Fr:Nat->Prop}{c:aF}{D:dJ}(h:gp w L V Fr c l D):L.p<L.lo 0/\L.lo 0<=L.hi 0/\L.hi 0<=L.g 0/\L.g 0<L.lo 1/\L.lo 1<=L.hi 1/\L.hi 1<=L.g 1/\L.g 1<L.base/\L.base<=w.heap.size:=by
 obtain⟨a,b,d⟩:=h.ord;exact⟨a,(h.ses 0 (by omega)).lohi,(h.ses 0 (by omega)).Dr,b,(h.ses 1 (by omega)).lohi,(h.ses 1 (by omega)).Dr,d,h.low⟩
theorem gp.rest {L:gT}{V:Nat->Value}{Fr:Nat->Prop}{c:aF}{D:dJ}(h:gp w L V Fr c l D)(o:ae T w w')(j:Nat)(n:j<6)(v:Value)
 (q:∀k∈T,k<=L.p\/Fr k\/(j<2/\k=L.g j)\/(V j).ownBlock=some k) (s:∀k,v.ownBlock=some k->(V j).ownBlock=some k\/w.heap.size<=k):
 (∀i,i<2->i≠j->eH w' (L.lo i) (L.hi i) (L.g i) (V i) c l (D.x i) (D.sent i))/\(∀i,i<2->2+i≠j->Way w' L.base 5 (V (2+i)) (D.way i).data.toList)/\(∀i,i<2->4+i≠j->bA w' (jP L.base Fr (gj V j v)) L.base (D.got i) (V (4+i)))/\GJ (gj V j v)/\(∀k,Fr k->L.base<=k/\k<w'.heap.size/\∀x,x<6->(gj V j v x).ownBlock≠some k):=by
 have A:=h.places;have p:=h.own;have d:=h.frg;have r:∀i,i<6->i≠j->∀k∈T,(V i).ownBlock≠some k:=fun i hi m k b e=>by
  have u:=p i k hi e;rcases q k b with h2|h2|⟨h2,h3⟩|h2
  ·omega
  ·exact(d k h2).2.2 i hi e
  ·rcases(by omega:j=0\/j=1)with rfl|rfl<;>omega
  exact m (h.apart i j k hi n e h2)
 refine⟨fun i hi m=>(h.ses i hi).only o fun k b=>⟨?_, ?_,r i (by omega) m k b⟩,fun i hi m=>(h.way i hi).ah fun k b e=>o.block k b fun z=>r _ (by omega) m k z e,fun i hi m=> ?_,h.apart.gj (fun i k hi e=>(p i k hi e).2) s,fun k b=>⟨(d k b).1,zJ (d k b).2.1 o.size,fun i hi e=> ?_⟩⟩
 ·intro B;rcases q k b with h2|h2|⟨h2,h3⟩|h2
  ·rcases(by omega:i=0\/i=1)with rfl|rfl<;>omega
  ·have:=(d k h2).1;rcases(by omega:i=0\/i=1)with rfl|rfl<;>omega
  ·rcases(by omega:i=0/\j=1\/i=1/\j=0)with⟨rfl,rfl⟩|⟨rfl,rfl⟩<;>omega
  have:=(p j k n h2).1;rcases(by omega:i=0\/i=1)with rfl|rfl<;>omega
 ·intro e;rcases q k b with h2|h2|⟨h2,h3⟩|h2
  ·rcases(by omega:i=0\/i=1)with rfl|rfl<;>omega
  ·have:=(d k h2).1;rcases(by omega:i=0\/i=1)with rfl|rfl<;>omega
  ·rcases(by omega:i=0/\j=1\/i=1/\j=0)with⟨rfl,rfl⟩|⟨rfl,rfl⟩<;>omega
  have:=(p j k n h2).1;rcases(by omega:i=0\/i=1)with rfl|rfl<;>omega
 ·refine((h.got i hi).eG (S1:=fun k=>jP L.base Fr (gj V j v) k/\(V j).ownBlock≠some k) (fun k b hS=>⟨hS.gj b s n,hS.2.2 j n⟩) (ze _)).only o (fun k b hS=> ?_) (fun k b=>r _ (by omega) m k b)|>.eG (fun _ _ hS=>hS.1) (ze _)
  rcases q k b with h2|h2|⟨h2,h3⟩|h2
  ·have:=hS.1.1;omega
  ·exact hS.1.2.1 h2
  ·have:=hS.1.1;rcases(by omega:j=0\/j=1)with rfl|rfl<;>omega
  exact hS.2 h2
 by_cases y:i=j
 ·subst y;rw[bp]at e;rcases s k e with u|u
  ·exact(d k b).2.2 i hi u
  have:=(d k b).2.1;omega
 rw[aS _ _ y]at e;exact(d k b).2.2 i hi e
theorem gp.JY {L:gT}{V:Nat->Value}{Fr:Nat->Prop}{c:aF}{D:dJ}(h:gp w L V Fr c l D)(j:ae T w w')(i:Nat)(hi:i<2)(v:Value)(x:gW)(n:Nat)
 (o:∀k∈T,k<L.p\/Fr k\/k=L.g i\/(V i).ownBlock=some k) (m:∀k,v.ownBlock=some k->(V i).ownBlock=some k\/w.heap.size<=k) (r:eH w' (L.lo i) (L.hi i) (L.g i) v c l x n):
 gp w' L (gj V i v) Fr c l {D with x:=gj D.x i x,sent:=gj D.sent i n}:=by
 have y:=h.places;obtain⟨u,a2,a3,a4,a5⟩:=h.rest j i (by omega) v (fun k d=>by rcases o k d with a|a|a|a;exact .inl (by omega);exact .inr (.inl a);exact .inr (.inr (.inl ⟨hi,a⟩));exact .inr (.inr (.inr a))) m;have s:L.p∉T:=fun q=>by
  rcases o _ q with a|a|a|a
  ·omega
  ·have:=(h.frg _ a).1;omega
  ·rcases(by omega:i=0\/i=1)with rfl|rfl<;>omega
  have:=(h.own i _ (by omega) a).1;omega
 have hz:=j.size;refine⟨?_,fun k d=> ?_,fun k d=> ?_,fun k d=> ?_,fun k b d e=> ?_,a4,a5,h.ord,by omega⟩
 ·have:ib L (gj V i v)=ib L V:=by unfold ib;rw[aS,aS,aS,aS]<;>omega
  rw[this];exact(j.block _ h.blk.lt s).trans h.blk
 ·by_cases e:k=i
  ·subst e;rw[bp];simp only;rw[bp,bp];exact r
  rw[aS _ _ e];simp only;rw[aS _ _ e,aS _ _ e];exact u k d e
 ·rw[aS _ _ (by omega)];exact a2 k d (by omega)
 ·rw[aS _ _ (by omega)];exact a3 k d (by omega)
 by_cases p:k=i
 ·subst p;rw[bp]at e;rcases m b e with a|a
  ·exact h.ob k b d a
  omega
 rw[aS _ _ p]at e;exact h.ob k b d e
theorem gp.RM {L:gT}{V:Nat->Value}{Fr:Nat->Prop}{c:aF}{D:dJ}(h:gp w L V Fr c l D)(j:ae T w w')(i:Nat)(hi:i<2)(v:Value)(b:ByteArray)
 (p:∀k∈T,k<=L.p\/Fr k\/(V (2+i)).ownBlock=some k) (m:∀k,v.ownBlock=some k->(V (2+i)).ownBlock=some k\/w.heap.size<=k) (o:af w' L.p 80 (ib L (gj V (2+i) v))) (n:Way w' L.base 5 v b.data.toList):
 gp w' L (gj V (2+i) v) Fr c l {D with way:=gj D.way i b}:=by
 have r:=h.places;obtain⟨q,a2,a3,a4,a5⟩:=h.rest j (2+i) (by omega) v (fun k d=>by rcases p k d with a|a|a;exact .inl a;exact .inr (.inl a);exact .inr (.inr (.inr a))) m;have hz:=j.size;refine⟨o,fun k d=> ?_,fun k d=> ?_,fun k d=> ?_,fun k b d e=> ?_,a4,a5,h.ord,by omega⟩
 ·rw[aS _ _ (by omega)];exact q k d (by omega)
 ·by_cases e:k=i
  ·subst e;rw[bp];simp only;rw[bp];exact n
  rw[aS _ _ (by omega)];simp only;rw[aS _ _ e];exact a2 k d (by omega)
 ·rw[aS _ _ (by omega)];exact a3 k d (by omega)
 rw[aS _ _ (by omega)]at e;exact h.ob k b d e
theorem gp.aat {L:gT}{V:Nat->Value}{Fr:Nat->Prop}{c:aF}{D:dJ}(h:gp w L V Fr c l D)(j:ae T w w')(i:Nat)(hi:i<2)(v:Value)(b:List Ms)
 (p:∀k∈T,k<=L.p\/Fr k\/(V (4+i)).ownBlock=some k) (m:∀k,v.ownBlock=some k->(V (4+i)).ownBlock=some k\/w.heap.size<=k) (o:af w' L.p 80 (ib L (gj V (4+i) v))) (n:bA w' (jP L.base Fr (gj V (4+i) v)) L.base b v):
 gp w' L (gj V (4+i) v) Fr c l {D with got:=gj D.got i b}:=by
 have r:=h.places;obtain⟨q,a2,a3,a4,a5⟩:=h.rest j (4+i) (by omega) v (fun k d=>by rcases p k d with a|a|a;exact .inl a;exact .inr (.inl a);exact .inr (.inr (.inr a))) m;have hz:=j.size;refine⟨o,fun k d=> ?_,fun k d=> ?_,fun k d=> ?_,fun k b d e=> ?_,a4,a5,h.ord,by omega⟩
 ·rw[aS _ _ (by omega)];exact q k d (by omega)
 ·rw[aS _ _ (by omega)];exact a2 k d (by omega)
 ·by_cases e:k=i
  ·subst e;rw[bp];simp only;rw[bp];exact n
  rw[aS _ _ (by omega)];simp only;rw[aS _ _ e];exact a3 k d (by omega)
 rw[aS _ _ (by omega)]at e;exact h.ob k b d e
theorem nJ {b:Type}(f:Nat->b)(i:Nat):gj f i (f i)=f:=by
 funext j;unfold gj;by_cases h:j=i
 ·subst h;simp
 simp[h]
theorem gp.only {L:gT}{V:Nat->Value}{Fr:Nat->Prop}{c:aF}{D:dJ}(h:gp w L V Fr c l D)(d:ae T w w')(i:∀k∈T,k<L.p\/Fr k):gp w' L V Fr c l D:=by
 have j:=h.places;have:=h.JY d 0 (by omega) (V 0) (D.x 0) (D.sent 0) (fun k b=>by rcases i k b with a|a;exact .inl a;exact .inr (.inl a)) (fun k e=> .inl e) ((h.ses 0 (by omega)).only d fun k b=>by
  rcases i k b with a|a
  ·exact⟨by omega,by omega,fun e=>by have:=(h.own 0 k (by omega) e).1;omega⟩
  have:=h.frg k a;exact⟨by omega,by omega,this.2.2 0 (by omega)⟩)
 rw[nJ,nJ,nJ]at this;exact this
theorem gp.below {L:gT}{V:Nat->Value}{Fr:Nat->Prop}{c:aF}{D:dJ}(h:gp w L V Fr c l D)(b:Below w.heap.size w w'):gp w' L V Fr c l D:=h.only (ae.ai b (ze _)) (by simp)
theorem gp.grow {L:gT}{V:Nat->Value}{Fr n:Nat->Prop}{c:aF}{D:dJ}(h:gp w L V Fr c l D)(p:ae T w w')(o:∀k∈T,k<L.p\/Fr k)(hF:∀k,n k->(Fr k\/w.heap.size<=k)/\k<w'.heap.size):gp w' L V n c l D:=by
 have d:=h.only p o;have s:=h.places;refine⟨d.blk,d.ses,d.way,fun i hi=> ?_,d.ob,d.apart,fun k m=> ?_,d.ord,d.low⟩
 ·refine((h.got i hi).eG (S1:=fun k=>jP L.base n V k/\¬Fr k) (fun k m hS=>⟨⟨hS.1,fun r=> ?_,hS.2.2⟩,hS.2.1⟩) (ze _)).only p (fun k m hS=> ?_) (fun k m e=> ?_)|>.eG (fun _ _ hS=>hS.1) (ze _)
  ·rcases(hF k r).1 with a|a
   ·exact hS.2.1 a
   omega
  ·rcases o k m with a|a
   ·have:=hS.1.1;omega
   exact hS.2 a
  have:=h.own _ k (by omega) e;rcases o k m with a|a
  ·omega
  exact(h.frg k a).2.2 _ (by omega) e
 obtain⟨a|a,b⟩:=hF k m
 ·exact⟨(h.frg k a).1,b,(h.frg k a).2.2⟩
 exact⟨by omega,b,fun j q e=>by have:=(h.own j k q e).2;omega⟩
def jb (L:gT)(V:Nat->Value):List Nat:=L.p::L.g 0::L.g 1::(List.range 6).flatMap fun i=>(V i).ownBlock.toList
theorem cA {L:gT}{V:Nat->Value}:k∈jb L V↔k=L.p\/k=L.g 0\/k=L.g 1\/∃i,i<6/\(V i).ownBlock=some k:=by
 simp only[jb,yj,List.mem_flatMap,Z5,aM]
structure ku (w w':World)(L:gT)(V V':Nat->Value)(X:List Nat):Prop where
 only:ae (X++jb L V) w w'
 own:∀i k,i<6->(V' i).ownBlock=some k->(V i).ownBlock=some k\/w.heap.size<=k
theorem ku.below {L:gT}{V:Nat->Value}(h:Below w.heap.size w w'):ku w w' L V V X:=⟨(ae.ai h (ze _)).mono (by simp),fun _ _ _ e=> .inl e⟩
theorem ku.trans {b d:World}{L:gT}{V V' c:Nat->Value}(h:ku a b L V V' X)(k:ku b d L V' c Y)(l:∀i∈Y,i∈X\/a.heap.size<=i):ku a d L V c X:=by
 refine⟨h.only.trans' k.only fun i hi=> ?_,fun i j hi e=> ?_⟩
 ·rcases yA.1 hi with e|e
  ·rcases l i e with e|e
   ·exact .inl (yA.2 (.inl e))
   exact .inr e
  rcases cA.1 e with e|e|e|⟨j,hj,e⟩
  ·exact .inl (yA.2 (.inr (cA.2 (.inl e))))
  ·exact .inl (yA.2 (.inr (cA.2 (.inr (.inl e)))))
  ·exact .inl (yA.2 (.inr (cA.2 (.inr (.inr (.inl e))))))
  rcases h.own j i hj e with e|e
  ·exact .inl (yA.2 (.inr (cA.2 (.inr (.inr (.inr ⟨j,hj,e⟩))))))
  exact .inr e
 rcases k.own i j hi e with e|e
 ·exact h.own i j hi e
 exact .inr (zz h.only.size e)
theorem ku.one {L:gT}{V:Nat->Value}(h:ae T w w')(i:Nat)(hi:i<6)(v:Value)(l:∀k∈T,k=L.p\/k=L.g 0\/k=L.g 1\/(V i).ownBlock=some k)(d:∀k,v.ownBlock=some k->(V i).ownBlock=some k\/w.heap.size<=k):ku w w' L V (gj V i v) []:=by
 refine⟨h.mono fun k c=>cA.2 (by rcases l k c with e|e|e|e;exact .inl e;exact .inr (.inl e);exact .inr (.inr (.inl e));exact .inr (.inr (.inr ⟨i,hi,e⟩))),fun j k m e=> ?_⟩;by_cases b:j=i
 ·subst b;rw[bp]at e;exact d k e
 rw[aS _ _ b]at e;exact .inl e
theorem ku.wide {L:gT}{V V':Nat->Value}(h:ku w w' L V V' X)(b:∀k∈X,k∈Y):ku w w' L V V' Y:=⟨h.only.mono fun k c=>by
 rcases yA.1 c with e|e
 ·exact yA.2 (.inl (b k e))
 exact yA.2 (.inr e),h.own⟩
theorem af.neT {c:Nat}{d:TypeId}{j i:Array Value}(h:af w g t j)(b:af w c d i)(e:t≠d):g≠c:=by
 rintro rfl;unfold af at h b;rw[h]at b;injection b with b;injection b with _ ht;exact e ht
theorem gp.pP {L:gT}{V:Nat->Value}{Fr:Nat->Prop}{c:aF}{D:dJ}(h:gp w L V Fr c l D){cs:Array Value}(hb:af w k t cs)(h1:t≠80)(h2:t≠101)(h3:t≠5)(h4:t≠30):k∉jb L V:=by
 have hs:∀i,i<2->k≠L.g i:=fun i hi e=>by
  obtain⟨_,_,_,_,_,_,_,hB,_⟩:=(h.ses i hi).reg;exact hb.neT hB h2 e
 intro hm;rcases cA.1 hm with e|e|e|⟨i,hi,e⟩
 ·exact hb.neT h.blk h1 e
 ·exact hs 0 (by omega) e
 ·exact hs 1 (by omega) e
 rcases(by omega:i<2\/2<=i/\i<4\/4<=i)with a|a|a
 ·exact(h.ses i a).buf.cw hb h3 e
 ·obtain⟨j,rfl⟩:∃j,i=2+j:=⟨i-2,by omega⟩
  exact(h.way j (by omega)).cw hb h3 e
 obtain⟨j,rfl⟩:∃j,i=4+j:=⟨i-4,by omega⟩
 obtain⟨_,_,cur,hc⟩:=(h.got j (by omega)).typed k e;exact hb.neT hc h4 rfl
theorem gp.less {L:gT}{V:Nat->Value}{Fr b:Nat->Prop}{c:aF}{D:dJ}(h:gp w L V b c l D)(hF:∀k,Fr k->b k):gp w L V Fr c l D:=
 ⟨h.blk,h.ses,h.way,fun i hi=>(h.got i hi).eG (fun k _ hS=>⟨hS.1,fun e=>hS.2.1 (hF k e),hS.2.2⟩) (ze _),h.ob,h.apart,fun k d=>h.frg k (hF k d),h.ord,h.low⟩
theorem gp.qT {L:gT}{V:Nat->Value}{Fr:Nat->Prop}{c:aF}{D:dJ}(h:gp w L V Fr c l D):∀k∈jb L V,L.p<=k:=by
 have hp:=h.places;intro k hk;rcases cA.1 hk with e|e|e|⟨i,hi,e⟩
 ·omega
 ·omega
 ·omega
 have:=(h.own i k hi e).1;omega
theorem bA.aav {c:Nat->Prop}{b:Nat}(h:bA w c b acc v):bA w (fun k=>c k/\v.ownBlock≠some k) b acc v:=by
 obtain⟨i,d,e⟩:=h;exact⟨i,d,e.ah (fun _ _ h=>⟨h,h.2⟩) fun _ _ _=>rfl⟩
theorem cB {L:gT}{V:Nat->Value}(b:af w L.p 80 (ib L V))(c:j<2):
 ((w,L.p,j*3,L.g j,0)/\(w,L.p,j*3+1,V (2+j))/\(w,L.p,j*3+2,V (4+j))/\(w,L.p,6,L.room))/\w.frozen? (L.p,j*3)=false/\w.frozen? (L.p,j*3+1)=false/\w.frozen? (L.p,j*3+2)=false:=by
 rcases(by omega:j=0\/j=1)with rfl|rfl
 ·exact⟨⟨b.cell 0,b.cell 1,b.cell 2,b.cell 6⟩,b.frozen 0,b.frozen 1,b.frozen 2⟩
 exact⟨⟨b.cell 3,b.cell 4,b.cell 5,b.cell 6⟩,b.frozen 3,b.frozen 4,b.frozen 5⟩
theorem gp.GK {L:gT}{V:Nat->Value}(h:af w L.p 80 (ib L V))(b:j<2)(v:Value):af (w.setCell (L.p,j*3+1) v) L.p 80 (ib L (gj V (2+j) v)):=by
 rcases(by omega:j=0\/j=1)with rfl|rfl<;>exact h.store (by simp[ib,gj])
theorem gp.RN {L:gT}{V:Nat->Value}(h:af w L.p 80 (ib L V))(b:j<2)(v:Value):af (w.setCell (L.p,j*3+2) v) L.p 80 (ib L (gj V (4+j) v)):=by
 rcases(by omega:j=0\/j=1)with rfl|rfl<;>exact h.store (by simp[ib,gj])
theorem cex {a:Array Value}{v:Ending}{c:Sort _}{Q:c->World->Prop}(h:Calls P f a w fun e w'=>∃x,e=v/\Q x w'):Calls P f a w fun e w'=>e=v/\∃x,Q x w':=h.mono fun _ _ ⟨x,a,b⟩=>⟨a,x,b⟩
theorem aiI {a:Array Value}{v:Ending}{d c:Sort _}{Q:d->c->World->Prop}(h:Calls P f a w fun e w'=>∃x y,e=v/\Q x y w'):Calls P f a w fun e w'=>e=v/\∃x y,Q x y w':=h.mono fun _ _ ⟨x,y,a,b⟩=>⟨a,x,y,b⟩
theorem Ox (p j:Nat)(l:j<2)(b d c nb:Nat)(w:World)(R:Int)(Q:World->Prop)(h:Calls prog 30 #[(p,j*3),(b,0),(d,0),(c,0),(nb,0)] w fun e w'=>e= .returned R/\Q w'):
 Calls prog 29 #[(p,0),j,.func (.func 30) #[] #[(b,0),(d,0),(c,0),(nb,0)]] w fun e w'=>e= .returned R/\Q w':=by
 have H:=za h;clear h;have m:(j:Int)=0\/(j:Int)=1:=by omega
 rcases(by omega:j=0\/j=1)with rfl|rfl;all_goals
  simp only[ZD,ZU]at H;go_enter Ye,Z2
  go_wp2_with fail
  refine cm H.out fun w' i=> ?_
  have k:=za i;clear i;go_wp2;go_ret;exact⟨rfl,k.out⟩
theorem Oy (p j:Nat)(i:j<2)(nb c:Nat)(w:World)(R:Int)(Q:World->Prop)(h:Calls prog 33 #[(p,j*3),(nb,0),(c,0)] w fun e w'=>e= .returned R/\Q w'):
 Calls prog 29 #[(p,0),j,.func (.func 33) #[] #[(nb,0),(c,0)]] w fun e w'=>e= .returned R/\Q w':=by
 have H:=za h;clear h;have k:(j:Int)=0\/(j:Int)=1:=by omega
 rcases(by omega:j=0\/j=1)with rfl|rfl;all_goals
  simp only[ZD,ZU]at H;go_enter Ye,Z2
  go_wp2_with fail
  refine cm H.out fun w' b=> ?_
  have d:=za b;clear b;go_wp2;go_ret;exact⟨rfl,d.out⟩
theorem RO (p j:Nat)(d:j<2)(nb:Nat)(w:World)(R:Int)(Q:World->Prop)(h:Calls prog 36 #[(p,j*3),(nb,0)] w fun e w'=>e= .returned R/\Q w'):
 Calls prog 29 #[(p,0),j,.func (.func 36) #[] #[(nb,0)]] w fun e w'=>e= .returned R/\Q w':=by
 have H:=za h;clear h;have i:(j:Int)=0\/(j:Int)=1:=by omega
 rcases(by omega:j=0\/j=1)with rfl|rfl;all_goals
  simp only[ZD,ZU]at H;go_enter Ye,Z2
  go_wp2_with fail
  refine cm H.out fun w' b=> ?_
  have c:=za b;clear b;go_wp2;go_ret;exact⟨rfl,c.out⟩
theorem RP (p j:Nat)(d:j<2)(nb:Nat)(w:World)(R:Int)(Q:World->Prop)(h:Calls prog 38 #[(p,j*3),(nb,0)] w fun e w'=>e= .returned R/\Q w'):
 Calls prog 29 #[(p,0),j,.func (.func 38) #[] #[(nb,0)]] w fun e w'=>e= .returned R/\Q w':=by
 have H:=za h;clear h;have i:(j:Int)=0\/(j:Int)=1:=by omega
 rcases(by omega:j=0\/j=1)with rfl|rfl;all_goals
  simp only[ZD,ZU]at H;go_enter Ye,Z2
  go_wp2_with fail
  refine cm H.out fun w' b=> ?_
  have c:=za b;clear b;go_wp2;go_ret;exact⟨rfl,c.out⟩
theorem Oz (p j:Nat)(d:j<2)(nb:Nat)(w:World)(R:Int)(Q:World->Prop)(h:Calls prog 39 #[(p,j*3),(nb,0)] w fun e w'=>e= .returned R/\Q w'):
 Calls prog 29 #[(p,0),j,.func (.func 39) #[] #[(nb,0)]] w fun e w'=>e= .returned R/\Q w':=by
 have H:=za h;clear h;have i:(j:Int)=0\/(j:Int)=1:=by omega
 rcases(by omega:j=0\/j=1)with rfl|rfl;all_goals
  simp only[ZD,ZU]at H;go_enter Ye,Z2
  go_wp2_with fail
  refine cm H.out fun w' b=> ?_
  have c:=za b;clear b;go_wp2;go_ret;exact⟨rfl,c.out⟩
theorem JZ (p j:Nat)(d:j<2)(w:World)(R:Int)(Q:World->Prop)(h:Calls prog 41 #[(p,j*3)] w fun e w'=>e= .returned R/\Q w'):
 Calls prog 29 #[(p,0),j,.func (.func 41) #[] #[]] w fun e w'=>e= .returned R/\Q w':=by
 have H:=za h;clear h;have i:(j:Int)=0\/(j:Int)=1:=by omega
 rcases(by omega:j=0\/j=1)with rfl|rfl;all_goals
  simp only[ZD,ZU]at H;go_enter Ye,Z2
  go_wp2_with fail
  refine cm H.out fun w' b=> ?_
  have c:=za b;clear b;go_wp2;go_ret;exact⟨rfl,c.out⟩
theorem C4 (j hi g:Nat)(i:Value)(c:aF)(l:List aV)(x:gW)(sent:Nat)(w:World)(h:eH w j hi g i c l x sent):
 Calls prog 34 #[(g,0)] w fun e w'=>e= .returned x.fault/\w=w':=by
 obtain⟨_,_,_,_,_,_,_,b,_⟩:=h.reg;have d:=h.buf.form;rw[aa]at d;obtain⟨A,cap,rfl,_,_⟩:=d;obtain⟨_,o,k,n,q,p,m⟩:=b.parts;clear b h;go_enter func34,ntmps34
 go_wp2;go_ret;exact⟨rfl,rfl⟩
theorem nK {d:Type}(Q:Nat->d->Prop):∀n,(∀i,i<n->∃y,Q i y)->∃l:List d,l.length=n/\∀i (h:i<l.length),Q i l[i]
 |0,_=>⟨[],rfl,by simp⟩
 |n+1,h=>by
  obtain⟨l,b,e⟩:=nK Q n fun i hi=>h i (by omega)
  obtain⟨y,j⟩:=h n (by omega);refine⟨l++ [y],by simp[b],fun i hi=> ?_⟩;by_cases c:i<l.length
  ·rw[xL c];exact e i c
  have:i=n:=by simp at hi;omega
  subst this;rw[List.getElem_append_right (by omega)];simpa[b]using j
theorem tP {a:Addr}{m:List Value}(h:w.cells? base a 3=some m):∃b d c,m= [b,d,c]/\w.cell? a=some b/\w.cell? (a.add 1)=some d/\w.cell? (a.add 2)=some c:=by
 unfold World.cells? at h;split at h
 ·have e:List.range 3= [0,1,2]:=rfl;rw[e]at h;simp only[List.mapM_cons,List.mapM_nil,Option.bind_eq_bind,Option.pure_def,xi]at h;obtain⟨b,p,r,⟨d,n,q,⟨c,o,s,i,l⟩,k⟩,j⟩:=h;simp at i l k j;subst i;subst l;subst k;subst j;exact⟨b,d,c,rfl,by simpa[Addr.add]using p,n,o⟩
 cases h
theorem Md {a:Addr}(h:w.cell? a=some v):a.spot=none:=by
 unfold World.cell? at h;split at h
 ·split at h
  ·cases h
  rename_i b;simpa using b
 cases h
theorem Me {p:Addr}(h:w.cell? p=some v):p.block<w.heap.size:=by
 rcases xp p.block w.heap.size with h'|h'
 ·exact h'
 simp[World.cell?,xq h']at h
theorem wX {F:Type}{enc:TypeId×Value->H}{S:Nat}{spare:Nat->Bool}{G:TypeId}{d:DataW H}{Z:List MemPlace}(k:Nat)(J:0<k)(L:P.underlying t=some (.slice G))(N:P.cellsOf G=k)
 (R:F->List Value->Prop) (ae:∀m O x,DataW.trod enc P w base spare held m G O=some x->∃y,R y O) (W:Value.okWide P w r S t v) (hd:DataW.Trod enc P w base spare held t v d Z):
 ∃(l:List F) (A:Option Addr) (cap:Nat),v= .slice A l.length cap/\l.length<=cap/\cap<=9223372036854775807/\∀j (h:j<l.length),∃g o c,A=some ⟨g,o,none⟩/\g<w.heap.size/\R l[j] c/\∀i,i<k->w.cell? ⟨g,o+j*k+i,none⟩=c[i]?:=by
 obtain⟨A,n,cap,rfl⟩:=okWide_slice L W;obtain⟨af,h⟩:=hd;rcases DataW.trod_slice L h with⟨u,_⟩|⟨a,len,aj,ag,rest,m,rfl,u,_,hb,U,jf,ah,K,_,_⟩
 ·simp[Value.cells]at u;obtain⟨rfl,rfl,rfl⟩:=u;exact⟨[],none,0,rfl,by simp,by simp,fun j e=>by simp at e⟩
 simp[Value.cells]at u;obtain⟨rfl,rfl,rfl⟩:=u;have key:∀i,i<n->∃y:F,a.spot=none/\∃c,R y c/\∀j,j<k->w.cell? ⟨a.block,a.off+i*k+j,none⟩=c[j]?:=by
  have first:∀i,i<n->∃b,b.length=k/\(∀j,j<k->w.cell? ((a.add (i*k)).add j)=b[j]?)/\∃y,R y b:=by
   intro i hi;have I:=K i hi;rw[N,zr (by omega),xi]at I;obtain⟨b,z,q⟩:=I;obtain⟨_,p,D⟩:=World.cells?_some z;exact⟨b,p,D,ae _ _ _ q⟩
  have C:0<n->a.spot=none:=by
   intro B;obtain⟨b,z,q,_⟩:=first 0 B
   have p:=q 0 J;rw[zr (by omega),ZD]at p;exact Md (a:=a) (v:=b[0]) (by simpa[Addr.add]using p)
  intro i hi;have E:=C (by omega);obtain⟨b,_,q,y,hy⟩:=first i hi
  refine⟨y,E,b,hy,fun j e=> ?_⟩;rw[<-q j e];congr 1
  obtain⟨ab,Y,ad⟩:=a;simp only at E;subst E;unfold Addr.add;split<;>split<;>simp_all
 obtain⟨s,A8,X⟩:=nK _ n key;subst A8;refine⟨s,some a,cap,rfl,U,by simpa[maxLen]using jf,fun j e=> ?_⟩;obtain⟨C,c,hr,aa⟩:=X j e;have B:=K j e;rw[N,zr (by omega),xi]at B;obtain⟨b,z,_⟩:=B;refine⟨a.block,a.off,c, ?_, ?_,hr,aa⟩
 ·obtain⟨ab,Y,ad⟩:=a;simp only at C;subst C;rfl
 obtain⟨_,p,D⟩:=World.cells?_some z;have M:=D 0 J;rw[zr (by omega)]at M;have:=Me M;unfold Addr.add at this;split at this<;>(try split at this)<;>simpa using this
