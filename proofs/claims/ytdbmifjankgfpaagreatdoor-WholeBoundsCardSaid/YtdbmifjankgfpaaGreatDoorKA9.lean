/- A registry in memory: its block, its two maps, its rows. Own words. -/
import Derived.Test.YtdbmifjankgfpaaGreatDoorKA7
import Derived.Test.YtdbmifjankgfpaaGreatDoorKA8
set_option linter.all false
set_option maxRecDepth 100000
open Go.Proofs.Tryz
namespace Go.Proofs.YtdbmifjankgfpaaGreatDoor
open Go.RowKit
variable {w w':World}{g e d hi i j n:Nat}{fault:Int}{l:List bZ}{x:eZ}{L:List Nat}
def AK (c:aI):Value:= .agg #[.int .i64 c.de,.int .i64 c.it]
def tH (c:aI):Value:= .func (.func (if c.fm=1 then 88 else 86)) #[AK c] #[]
def qo (c:aI):Value:= .func (.func (if c.fm=1 then 89 else 87)) #[AK c] #[]
def rgC (c:aI)(gn gi:Nat)(vp vg:Value):Array Value:= #[.int .i64 c.fm,.int .u32 c.mg,.int .i64 c.fr,.int .i64 c.un,.int .i64 c.de,.int .i64 c.it,.map (some gn),.map (some gi),vp,vg]
def Vi (w:World)(S:Nat->Prop)(r:bZ):Prop:=∃c0 c1 c2 c3,r.2= .agg #[.int .u64 r.1.id,.string r.1.name,.string r.1.ty,c0,c1,c2,c3]/\fK w S r.1.shape c0 c1 c2 c3
structure oN (e:bD):Prop where
 id:e.id<18446744073709551616
 name:e.name.size<=100
 ty:e.ty.size<=500
structure mr (w:World)(lo hi g gn gi:Nat)(c:aI)(l:List bZ):Prop where
 blk:af w g 125 (rgC c gn gi (tH c) (qo c))
 nm:jv w gn (AH l)
 ix:jv w gi (AI l)
 n1:lo<=gn
 n2:gn<g
 i1:lo<=gi
 i2:gi<g
 ne:gn≠gi
 g2:g<hi
 his:hi<=w.heap.size
 rows:∀r∈l,Vi w (fun k=>g<k/\k<hi) r
 ok:cX c (aK l)
 sz:∀r∈l,oN r.1
theorem Vi.ag {S S':Nat->Prop}{r:bZ}(h:Vi w S r)(hS:∀k,k<w.heap.size->S k->S' k)(j:∀p:Addr,p.block<w.heap.size->S p.block->w'.cell? p=w.cell? p):Vi w' S' r:=by
 obtain⟨c,d,b,i,e,h⟩:=h;exact⟨c,d,b,i,e,fK.ag hS j _ h⟩
theorem jv.ag {l:List (Value×Value)}(h:jv w g l)(b:w'.heap[g]?=w.heap[g]?):jv w' g l:=b.trans h
theorem mr.ag {c:aI}(h:mr w j hi g d i c l)(b:∀k,j<=k->k<hi->w'.heap[k]?=w.heap[k]?)(m:hi<=e)(o:e<=w'.heap.size):mr w' j e g d i c l where
 blk:=(b g (by have:=h.n1;have:=h.n2;omega) h.g2).trans h.blk
 nm:=h.nm.ag (b d h.n1 (by have:=h.n2;have:=h.g2;omega))
 ix:=h.ix.ag (b i h.i1 (by have:=h.i2;have:=h.g2;omega))
 n1:=h.n1
 n2:=h.n2
 i1:=h.i1
 i2:=h.i2
 ne:=h.ne
 g2:=zU h.g2 m
 his:=o
 rows:=fun r n=>(h.rows r n).ag (fun k _ hS=>⟨hS.1,zU hS.2 m⟩) fun p _ hS=>zG (b _ (by have:=h.n1;have:=h.n2;have:=hS.1;omega) hS.2)
 ok:=h.ok
 sz:=h.sz
theorem mr.below {b:Nat}{c:aI}(h:mr w e hi g b d c l)(i:Below hi w w'):mr w' e hi g b d c l:=h.ag (fun k _ j=>i.block k j) (zg _) (zF h.his i.size)
theorem mr.only {b:Nat}{c:aI}(h:mr w b hi g d i c l)(e:ae L w w')(j:∀k∈L,k<b\/hi<=k):mr w' b hi g d i c l:=
 h.ag (fun k o n=>e.block k (zU n h.his) fun m=>by have:=j k m;omega) (zg _) (zF h.his e.size)
theorem mr.cells {b:Nat}{c:aI}(h:mr w e hi g b d c l):
 w.cell? ⟨g,0,none⟩=some (.int .i64 c.fm)/\w.cell? ⟨g,6,none⟩=some (.map (some b))/\w.cell? ⟨g,7,none⟩=some (.map (some d))/\w.cell? ⟨g,8,none⟩=some (tH c)/\w.cell? ⟨g,9,none⟩=some (qo c):=⟨h.blk.cell 0,h.blk.cell 6,h.blk.cell 7,h.blk.cell 8,h.blk.cell 9⟩
theorem mr.cfg {b:Nat}{c:aI}(h:mr w b hi g d e c l):
 w.cell? ⟨g,0,none⟩=some (.int .i64 c.fm)/\w.cell? ⟨g,1,none⟩=some (.int .u32 c.mg)/\w.cell? ⟨g,2,none⟩=some (.int .i64 c.fr)/\w.cell? ⟨g,3,none⟩=some (.int .i64 c.un)/\w.cell? ⟨g,4,none⟩=some (.int .i64 c.de)/\w.cell? ⟨g,5,none⟩=some (.int .i64 c.it):=⟨h.blk.cell 0,h.blk.cell 1,h.blk.cell 2,h.blk.cell 3,h.blk.cell 4,h.blk.cell 5⟩
def C1 :Value:= .agg #[.int .u64 0,.string ⟨#[]⟩,.string ⟨#[]⟩,.int .i64 0,.int .i64 0,.slice none 0 0,.int .i64 0]
theorem Fm (w:World):(zeroValue 116).run prog w= .ok C1 w:=by kernel_rfl
theorem TO {b:Nat}{c:aI}(n:jv w b (AH l))(h:cX c (aK l))(nm:ByteArray):
 (fN (aK l) nm=none/\∀V,jv V b (AH l)->(Instr.lookup 118 (.map (some b)) (.string nm) true).run prog V= .ok (.tuple #[C1,.bool false]) V)\/
 ∃r∈l,r.1.name=nm/\fN (aK l) nm=some r.1/\∀V,jv V b (AH l)->(Instr.lookup 118 (.map (some b)) (.string nm) true).run prog V= .ok (.tuple #[r.2,.bool true]) V:=by
 rcases B6 h nm with⟨e,i⟩|⟨j,r,e,i,m,k⟩
 ·exact .inl ⟨i,fun V d=>Kq d underlying118 zN (by simp[MapKept.IsKey]) e (Fm V)⟩
 exact .inr ⟨r,xi i,m,k,fun V d=>Fa d underlying118 zN (by simp[MapKept.IsKey]) e⟩
theorem TP {b:Nat}{c:aI}(o:jv w b (AI l))(h:cX c (aK l))(id:Nat):
 ((aK l).find? (fun e=>decide (e.id=id))=none/\∀V,jv V b (AI l)->(Instr.lookup 119 (.map (some b)) (.int .u64 id) true).run prog V= .ok (.tuple #[C1,.bool false]) V)\/
 ∃r∈l,r.1.id=id/\(aK l).find? (fun e=>decide (e.id=id))=some r.1/\∀V,jv V b (AI l)->(Instr.lookup 119 (.map (some b)) (.int .u64 id) true).run prog V= .ok (.tuple #[r.2,.bool true]) V:=by
 rcases Ks h id _ (fun _=>rfl)with⟨i,k⟩|⟨j,r,i,k,n,m⟩
 ·exact .inl ⟨k,fun V d=>Kq d underlying119 ZV (by simp[MapKept.IsKey]) i (Fm V)⟩
 exact .inr ⟨r,xi k,n,m,fun V d=>Fa d underlying119 ZV (by simp[MapKept.IsKey]) i⟩
theorem nz {t:TypeId}{b d c a3 a4 a5 e:Value}(h:af w g t #[b,d,c,a3,a4,a5,e]):
 w.cell? ⟨g,0,none⟩=some b/\w.cell? ⟨g,1,none⟩=some d/\w.cell? ⟨g,2,none⟩=some c/\w.cell? ⟨g,3,none⟩=some a3/\w.cell? ⟨g,4,none⟩=some a4/\w.cell? ⟨g,5,none⟩=some a5/\w.cell? ⟨g,6,none⟩=some e:=⟨h.cell 0,h.cell 1,h.cell 2,h.cell 3,h.cell 4,h.cell 5,h.cell 6⟩
def ssC (gr:Nat)(bv:Value)(nd:Nat)(fault:Int)(laid told aX:Nat):Array Value:= #[.pointer (some ⟨gr,0,none⟩),bv,.int .i64 nd,.int .i64 fault,.int .i64 laid,.int .i64 told,.int .i64 aX]
abbrev fy (w:World)(g gr:Nat)(bv:Value)(nd:Nat)(fault:Int)(laid told aX:Nat):Prop:=af w g 88 (ssC gr bv nd fault laid told aX)
theorem fy.parts {c:Value}{b:Nat}{laid:Nat}(h:fy w g i c b fault laid d e):
 w.cell? ⟨g,0,none⟩=some (.pointer (some ⟨i,0,none⟩))/\w.cell? ⟨g,1,none⟩=some c/\w.cell? ⟨g,2,none⟩=some (.int .i64 b)/\w.cell? ⟨g,3,none⟩=some (.int .i64 fault)/\w.cell? ⟨g,4,none⟩=some (.int .i64 laid)/\w.cell? ⟨g,5,none⟩=some (.int .i64 d)/\w.cell? ⟨g,6,none⟩=some (.int .i64 e):=⟨h.cell 0,h.cell 1,h.cell 2,h.cell 3,h.cell 4,h.cell 5,h.cell 6⟩
theorem fy.mH {c:Value}{b:Nat}{laid:Nat}(h:fy w g i c b fault laid d e):
 w.frozen? ⟨g,1,none⟩=false/\w.frozen? ⟨g,2,none⟩=false/\w.frozen? ⟨g,3,none⟩=false/\w.frozen? ⟨g,4,none⟩=false/\w.frozen? ⟨g,5,none⟩=false/\w.frozen? ⟨g,6,none⟩=false:=⟨h.frozen 1,h.frozen 2,h.frozen 3,h.frozen 4,h.frozen 5,h.frozen 6⟩
theorem fy.pj {i:Value}{b:Nat}{laid c:Nat}(h:fy w g e i b fault laid c d)(v:Value):fy (w.setCell ⟨g,1,none⟩ v) g e v b fault laid c d:=h.store rfl
theorem fy.C2 {b:Value}{laid c:Nat}(h:fy w g e b i fault laid c d)(n:Nat):fy (w.setCell ⟨g,2,none⟩ (.int .i64 n)) g e b n fault laid c d:=h.store rfl
theorem fy.vA {c:Value}{b:Nat}{laid:Nat}(h:fy w g j c b fault laid d i)(e:Int):fy (w.setCell ⟨g,3,none⟩ (.int .i64 e)) g j c b e laid d i:=h.store rfl
theorem fy.lU {c:Value}{b:Nat}{laid:Nat}(h:fy w g i c b fault laid d e)(n:Nat):fy (w.setCell ⟨g,4,none⟩ (.int .i64 n)) g i c b fault n d e:=h.store rfl
theorem fy.C3 {c:Value}{b:Nat}{laid:Nat}(h:fy w g e c b fault laid i d)(n:Nat):fy (w.setCell ⟨g,5,none⟩ (.int .i64 n)) g e c b fault laid n d:=h.store rfl
theorem fy.TQ {c:Value}{b:Nat}{laid:Nat}(h:fy w g e c b fault laid d i)(n:Nat):fy (w.setCell ⟨g,6,none⟩ (.int .i64 n)) g e c b fault laid d n:=h.store rfl
structure eQ (w:World)(lo hi g:Nat)(bv:Value)(c:aI)(l:List bD)(x:eZ)(aX:Nat):Prop where
 lohi:lo<=hi
 LP:hi<=g
 reg:∃gr gn gi rows nd,mr w lo hi gr gn gi c rows/\aK rows=l/\fy w g gr bv nd x.fault x.laid x.told aX/\(x.fault=0->eG c x.buf nd)
 buf:bF w hi 5 bv x.buf.data.toList
theorem eQ.lt {b:Nat}{d:Value}{c:aI}{l:List bD}(h:eQ w b hi g d c l x e):g<w.heap.size:=by obtain⟨_,_,_,_,_,_,_,i,_⟩:=h.reg;exact i.lt
theorem eQ.own {b:Value}{c:aI}{l:List bD}(h:eQ w e hi g b c l x i):∀k,b.ownBlock=some k->hi<=k/\k<w.heap.size:=fun k d=>⟨(h.buf.ge k d).1,(h.buf.ge k d).2.1⟩
theorem eQ.ag {d:Value}{c:aI}{l:List bD}(h:eQ w j hi g d c l x n)(hz:w.heap.size<=w'.heap.size)(m:∀k,k<w.heap.size->(j<=k/\k<hi)\/k=g\/d.ownBlock=some k->w'.heap[k]?=w.heap[k]?):eQ w' j hi g d c l x n:=by
 obtain⟨y,r,u,rows,p,i,s,o,z⟩:=h.reg;refine⟨h.lohi,h.LP,⟨y,r,u,rows,p,i.ag (fun k a b=>m k (zU b i.his) (.inl ⟨a,b⟩)) (zg _) (zF i.his hz),s,(m g o.lt (.inr (.inl rfl))).trans o,z⟩,h.buf.ag (fun k q e=>m k q (.inr (.inr e)))⟩
theorem eQ.only {i:Value}{c:aI}{l:List bD}(h:eQ w j hi g i c l x n)(m:ae L w w')(p:∀k,k∈L->¬(j<=k/\k<hi)/\k≠g/\i.ownBlock≠some k):eQ w' j hi g i c l x n:=
 h.ag m.size fun k q e=>m.block k q fun o=>by
  obtain⟨a,b,d⟩:=p k o;rcases e with e|e|e
  ·exact a e
  ·exact b e
  exact d e
theorem eQ.below {b:Nat}{d:Value}{c:aI}{l:List bD}(h:eQ w b hi g d c l x e)(i:Below w.heap.size w w'):eQ w' b hi g d c l x e:=h.only (ae.ah i (zg _)) (by simp)
theorem eQ.qp {b:Value}{c:aI}{l:List bD}(h:eQ w d hi g b c l x i):∀k∈js g b,hi<=k/\k<w.heap.size:=by
 intro k j;rcases fW.1 j with rfl|e
 ·exact⟨h.LP,h.lt⟩
 exact h.own k e
theorem fo (k hi g:Nat)(i:Value)(c:aI)(l:List bD)(x:eZ)(j:Nat)(w:World)(h:eQ w k hi g i c l x j):
 Calls prog 21 #[.pointer (some ⟨g,0,none⟩)] w fun e w'=>e= .returned (.int .i64 (x.laid:Nat))/\w=w':=by
 obtain⟨_,_,_,_,_,_,_,d,_⟩:=h.reg;have b:=h.buf.form;rw[aa]at b;obtain⟨A,cap,rfl,_,_⟩:=b;obtain⟨_,o,r,p,q,n,m⟩:=d.parts;clear d h;go_enter func21,ntmps21
 go_wp2;go_ret;exact⟨rfl,rfl⟩
theorem MT (k hi g:Nat)(i:Value)(c:aI)(l:List bD)(x:eZ)(j:Nat)(w:World)(h:eQ w k hi g i c l x j):
 Calls prog 19 #[.pointer (some ⟨g,0,none⟩)] w fun e w'=>e= .returned (.int .i64 x.fault)/\w=w':=by
 obtain⟨_,_,_,_,_,_,_,d,_⟩:=h.reg;have b:=h.buf.form;rw[aa]at b;obtain⟨A,cap,rfl,_,_⟩:=b;obtain⟨_,o,r,p,q,n,m⟩:=d.parts;clear d h;go_enter func19,ntmps19
 go_wp2;go_ret;exact⟨rfl,rfl⟩
