/- A config, or a frame, that came in as an argument. -/
import Derived.ProofKit
import Derived.OpenShut
import Derived.ShutString
import Derived.Test.YtpjgigllldipiaaGreatDoorKA7
set_option linter.all false
set_option maxRecDepth 100000
namespace Go.Proofs.YtpjgigllldipiaaGreatDoor
open Go.ChangeShapes Go.WideShapes Go.ChangeAt Go.RowKit
def yH:=@Tryz.underlying3
def xA:=@Option.bind_eq_some_iff
def xW:=@DataW.trod_int
def Ye:=@Tryz.underlying55
def Yh:=@DataW.trod_struct
def aS.val (c:aS):Value:= .agg #[.int .i64 c.fm,.int .u32 c.mg,.int .i64 c.fr,.int .i64 c.un,.int .i64 c.de,.int .i64 c.it]
def Fr.val (f:Fr):Value:= .agg #[.int .u64 f.id,.string f.nm,.string f.body]
structure aS.ok (c:aS):Prop where
 fm: -9223372036854775808<=c.fm/\c.fm<=9223372036854775807
 mg:c.mg<4294967296
 fr: -9223372036854775808<=c.fr/\c.fr<=9223372036854775807
 un: -9223372036854775808<=c.un/\c.un<=9223372036854775807
 de: -9223372036854775808<=c.de/\c.de<=9223372036854775807
 it: -9223372036854775808<=c.it/\c.it<=9223372036854775807
structure Fr.ok (f:Fr):Prop where
 id:f.id<18446744073709551616
 nm:f.nm.size<=9223372036854775807
 body:f.body.size<=9223372036854775807
theorem wf_i64 {n:Int}(h:(Lit.int .i64 n).wf=true): -9223372036854775808<=n/\n<=9223372036854775807:=by simpa[Lit.wf,IntKind.min,IntKind.max,IntKind.signed,IntKind.bits]using h
theorem wf_u32 {n:Int}(h:(Lit.int .u32 n).wf=true):∃k:Nat,n=(k:Int)/\k<4294967296:=by
 have b:0<=n/\n<=4294967295:=by simpa[Lit.wf,IntKind.min,IntKind.max,IntKind.signed,IntKind.bits]using h
 exact⟨n.toNat,by omega,by omega⟩
theorem wf_u64 {n:Int}(h:(Lit.int .u64 n).wf=true):∃k:Nat,n=(k:Int)/\k<18446744073709551616:=by
 have b:0<=n/\n<=18446744073709551615:=by simpa[Lit.wf,IntKind.min,IntKind.max,IntKind.signed,IntKind.bits]using h
 exact⟨n.toNat,by omega,by omega⟩
theorem Fc :Tryz.prog.cellsOf 24=6:=by kernel_rfl
theorem CK :Tryz.prog.cellsOf 3=1:=by kernel_rfl
theorem CL :Tryz.prog.cellsOf 22=1:=by kernel_rfl
theorem CM :Tryz.prog.cellsOf 55=1:=by kernel_rfl
theorem CN :Tryz.prog.cellsOf 9=1:=by kernel_rfl
theorem Pb {H:Type}{enc:TypeId×Value->H}{w:World}{base:Nat}{spare:Nat->Bool}{held:Bool}(C:Nat)(o:List Value)(x:DataW H×List MemPlace)(h:DataW.trod enc Tryz.prog w base spare held C 24 o=some x):
 ∃c:aS,o= [.int .i64 c.fm,.int .u32 c.mg,.int .i64 c.fr,.int .i64 c.un,.int .i64 c.de,.int .i64 c.it]/\c.ok:=by
 obtain⟨xs,n,rfl,_,u,A,b⟩:=Yh Tryz.underlying24 h;rw[Fc]at u;match o,u with
 | [c0,c1,c2,c3,c4,c5],_=>
  have m:DataW.trod enc Tryz.prog w base spare held n 3 ((([c0,c1,c2,c3,c4,c5]:List Value).drop 0).take (Tryz.prog.cellsOf 3))=xs[0]?:=b 0 _ rfl;have i:DataW.trod enc Tryz.prog w base spare held n 22 ((([c0,c1,c2,c3,c4,c5]:List Value).drop 1).take (Tryz.prog.cellsOf 22))=xs[1]?:=b 1 _ rfl;have l:DataW.trod enc Tryz.prog w base spare held n 3 ((([c0,c1,c2,c3,c4,c5]:List Value).drop 2).take (Tryz.prog.cellsOf 3))=xs[2]?:=b 2 _ rfl;have j:DataW.trod enc Tryz.prog w base spare held n 3 ((([c0,c1,c2,c3,c4,c5]:List Value).drop 3).take (Tryz.prog.cellsOf 3))=xs[3]?:=b 3 _ rfl;have e:DataW.trod enc Tryz.prog w base spare held n 3 ((([c0,c1,c2,c3,c4,c5]:List Value).drop 4).take (Tryz.prog.cellsOf 3))=xs[4]?:=b 4 _ rfl;have d:DataW.trod enc Tryz.prog w base spare held n 3 ((([c0,c1,c2,c3,c4,c5]:List Value).drop 5).take (Tryz.prog.cellsOf 3))=xs[5]?:=b 5 _ rfl;have D:xs.length=6:=A;rw[zD (by omega)]at m i l j e d;rw[CK]at m l j e d;rw[CL]at i;simp only[zN,zV,yE,yh]at m i l j e d;obtain⟨i0,p,_,g0⟩:=xW yH m;obtain⟨i1,s,_,g1⟩:=xW Tryz.underlying22 i;obtain⟨i2,y,_,g2⟩:=xW yH l;obtain⟨i3,q,_,g3⟩:=xW yH j;obtain⟨i4,z,_,g4⟩:=xW yH e;obtain⟨i5,r,_,g5⟩:=xW yH d;simp at p s y q z r;subst p;subst s;subst y;subst q;subst z;subst r;obtain⟨k,rfl,B⟩:=wf_u32 g1;exact⟨⟨i0,k,i2,i3,i4,i5⟩,rfl,wf_i64 g0,B,wf_i64 g2,wf_i64 g3,wf_i64 g4,wf_i64 g5⟩
theorem Mr {H:Type}{enc:TypeId×Value->H}{w:World}{base j:Nat}{r:Reach}{spare:Nat->Bool}{held:Bool}{v:Value}{d:DataW H}{l:List MemPlace}(i:Value.okWide Tryz.prog w r j 24 v)(hd:DataW.Trod enc Tryz.prog w base spare held 24 v d l):
 ∃c:aS,v=c.val/\c.ok:=by
 obtain⟨e,rfl,_⟩:=okWide_struct Tryz.underlying24 i;obtain⟨m,k⟩:=hd;obtain⟨c,b,h⟩:=Pb m _ _ k;refine⟨c, ?_,h⟩;have b:e.toList= [.int .i64 c.fm,.int .u32 c.mg,.int .i64 c.fr,.int .i64 c.un,.int .i64 c.de,.int .i64 c.it]:=b;have:e= #[.int .i64 c.fm,.int .u32 c.mg,.int .i64 c.fr,.int .i64 c.un,.int .i64 c.de,.int .i64 c.it]:=by cases e;simp at b;simp[b]
 rw[this];rfl
open Go.RowKit
def Al (c:aS):Value:= .agg #[.int .i64 c.de,.int .i64 c.it]
def ti (c:aS):Value:= .func (.func (if c.fm=1 then 41 else 39)) #[Al c] #[]
def pU (c:aS):Value:= .func (.func (if c.fm=1 then 42 else 40)) #[Al c] #[]
def rgC (c:aS)(gn gi:Nat)(vp vg:Value):Array Value:= #[.int .i64 c.fm,.int .u32 c.mg,.int .i64 c.fr,.int .i64 c.un,.int .i64 c.de,.int .i64 c.it,.map (some gn),.map (some gi),vp,vg]
def UO (w:World)(S:Nat->Prop)(r:bV):Prop:=∃c0 c1 c2 c3,r.2= .agg #[.int .u64 r.1.id,.string r.1.name,.string r.1.ty,c0,c1,c2,c3]/\fy w S r.1.shape c0 c1 c2 c3
structure pV (e:bF):Prop where
 id:e.id<18446744073709551616
 name:e.name.size<=100
 ty:e.ty.size<=500
structure lS (w:World)(lo hi g gn gi:Nat)(c:aS)(l:List bV):Prop where
 blk:af w g 95 (rgC c gn gi (ti c) (pU c))
 nm:ja w gn (Ag l)
 ix:ja w gi (Ah l)
 n1:lo<=gn
 n2:gn<g
 i1:lo<=gi
 i2:gi<g
 ne:gn≠gi
 g2:g<hi
 his:hi<=w.heap.size
 rows:∀r∈l,UO w (fun k=>g<k/\k<hi) r
 ok:cK c (aJ l)
 sz:∀r∈l,pV r.1
theorem UO.ag {w w':World}{S S':Nat->Prop}{r:bV}(h:UO w S r)(hS:∀k,k<w.heap.size->S k->S' k)(d:∀p:Addr,p.block<w.heap.size->S p.block->w'.cell? p=w.cell? p):UO w' S' r:=by
 obtain⟨c,b,i,j,e,h⟩:=h;exact⟨c,b,i,j,e,fy.ag hS d _ h⟩
theorem ja.ag {w w':World}{g:Nat}{l:List (Value×Value)}(h:ja w g l)(b:w'.heap[g]?=w.heap[g]?):ja w' g l:=b.trans h
theorem lS.ag {w w':World}{e hi i g d j:Nat}{c:aS}{l:List bV}(h:lS w e hi g d j c l)(b:∀k,e<=k->k<hi->w'.heap[k]?=w.heap[k]?)(m:hi<=i)(n:i<=w'.heap.size):lS w' e i g d j c l where
 blk:=(b g (by have:=h.n1;have:=h.n2;omega) h.g2).trans h.blk
 nm:=h.nm.ag (b d h.n1 (by have:=h.n2;have:=h.g2;omega))
 ix:=h.ix.ag (b j h.i1 (by have:=h.i2;have:=h.g2;omega))
 n1:=h.n1
 n2:=h.n2
 i1:=h.i1
 i2:=h.i2
 ne:=h.ne
 g2:=yf h.g2 m
 his:=n
 rows:=fun r o=>(h.rows r o).ag (fun k _ hS=>⟨hS.1,yf hS.2 m⟩) fun p _ hS=>zK (b _ (by have:=h.n1;have:=h.n2;have:=hS.1;omega) hS.2)
 ok:=h.ok
 sz:=h.sz
theorem lS.below {w w':World}{d hi g b i:Nat}{c:aS}{l:List bV}(h:lS w d hi g b i c l)(e:Below hi w w'):lS w' d hi g b i c l:=h.ag (fun k _ j=>e.block k j) (zi _) (zP h.his e.size)
theorem lS.only {w w':World}{b hi g d e:Nat}{c:aS}{l:List bV}{L:List Nat}(h:lS w b hi g d e c l)(i:ae L w w')(n:∀k∈L,k<b\/hi<=k):lS w' b hi g d e c l:=
 h.ag (fun k o j=>i.block k (yf j h.his) fun m=>by have:=n k m;omega) (zi _) (zP h.his i.size)
theorem lS.cells {w:World}{e hi g b d:Nat}{c:aS}{l:List bV}(h:lS w e hi g b d c l):
 w.cell? ⟨g,0,none⟩=some (.int .i64 c.fm)/\w.cell? ⟨g,6,none⟩=some (.map (some b))/\w.cell? ⟨g,7,none⟩=some (.map (some d))/\w.cell? ⟨g,8,none⟩=some (ti c)/\w.cell? ⟨g,9,none⟩=some (pU c):=⟨h.blk.cell 0,h.blk.cell 6,h.blk.cell 7,h.blk.cell 8,h.blk.cell 9⟩
theorem lS.cfg {w:World}{d hi g b e:Nat}{c:aS}{l:List bV}(h:lS w d hi g b e c l):
 w.cell? ⟨g,0,none⟩=some (.int .i64 c.fm)/\w.cell? ⟨g,1,none⟩=some (.int .u32 c.mg)/\w.cell? ⟨g,2,none⟩=some (.int .i64 c.fr)/\w.cell? ⟨g,3,none⟩=some (.int .i64 c.un)/\w.cell? ⟨g,4,none⟩=some (.int .i64 c.de)/\w.cell? ⟨g,5,none⟩=some (.int .i64 c.it):=⟨h.blk.cell 0,h.blk.cell 1,h.blk.cell 2,h.blk.cell 3,h.blk.cell 4,h.blk.cell 5⟩
def CO :Value:= .agg #[.int .u64 0,.string ⟨#[]⟩,.string ⟨#[]⟩,.int .i64 0,.int .i64 0,.slice none 0 0,.int .i64 0]
theorem Fe (w:World):(zeroValue 98).run Tryz.prog w= .ok CO w:=by kernel_rfl
theorem S8 {w:World}{b:Nat}{c:aS}{l:List bV}(n:ja w b (Ag l))(h:cK c (aJ l))(nm:ByteArray):
 (fB (aJ l) nm=none/\∀V,ja V b (Ag l)->(Instr.lookup 88 (.map (some b)) (.string nm) true).run Tryz.prog V= .ok (.tuple #[CO,.bool false]) V)\/
 ∃r∈l,r.1.name=nm/\fB (aJ l) nm=some r.1/\∀V,ja V b (Ag l)->(Instr.lookup 88 (.map (some b)) (.string nm) true).run Tryz.prog V= .ok (.tuple #[r.2,.bool true]) V:=by
 rcases BJ h nm with⟨i,d⟩|⟨j,r,i,d,m,k⟩
 ·exact .inl ⟨d,fun V e=>Kc e Tryz.underlying88 zT (by simp[MapKept.IsKey]) i (Fe V)⟩
 exact .inr ⟨r,xw d,m,k,fun V e=>EU e Tryz.underlying88 zT (by simp[MapKept.IsKey]) i⟩
theorem S9 {w:World}{b:Nat}{c:aS}{l:List bV}(o:ja w b (Ah l))(h:cK c (aJ l))(id:Nat):
 ((aJ l).find? (fun e=>decide (e.id=id))=none/\∀V,ja V b (Ah l)->(Instr.lookup 89 (.map (some b)) (.int .u64 id) true).run Tryz.prog V= .ok (.tuple #[CO,.bool false]) V)\/
 ∃r∈l,r.1.id=id/\(aJ l).find? (fun e=>decide (e.id=id))=some r.1/\∀V,ja V b (Ah l)->(Instr.lookup 89 (.map (some b)) (.int .u64 id) true).run Tryz.prog V= .ok (.tuple #[r.2,.bool true]) V:=by
 rcases Ke h id _ (fun _=>rfl)with⟨k,d⟩|⟨j,r,k,d,n,m⟩
 ·exact .inl ⟨d,fun V i=>Kc i Tryz.underlying89 Ye (by simp[MapKept.IsKey]) k (Fe V)⟩
 exact .inr ⟨r,xw d,n,m,fun V i=>EU i Tryz.underlying89 Ye (by simp[MapKept.IsKey]) k⟩
theorem mQ {w:World}{g:Nat}{t:TypeId}{e c d a3 a4 a5 b:Value}(h:af w g t #[e,c,d,a3,a4,a5,b]):
 w.cell? ⟨g,0,none⟩=some e/\w.cell? ⟨g,1,none⟩=some c/\w.cell? ⟨g,2,none⟩=some d/\w.cell? ⟨g,3,none⟩=some a3/\w.cell? ⟨g,4,none⟩=some a4/\w.cell? ⟨g,5,none⟩=some a5/\w.cell? ⟨g,6,none⟩=some b:=⟨h.cell 0,h.cell 1,h.cell 2,h.cell 3,h.cell 4,h.cell 5,h.cell 6⟩
def ssC (gr:Nat)(bv:Value)(nd:Nat)(fault:Int)(laid told aU:Nat):Array Value:= #[.pointer (some ⟨gr,0,none⟩),bv,.int .i64 nd,.int .i64 fault,.int .i64 laid,.int .i64 told,.int .i64 aU]
abbrev ff (w:World)(g gr:Nat)(bv:Value)(nd:Nat)(fault:Int)(laid told aU:Nat):Prop:=af w g 72 (ssC gr bv nd fault laid told aU)
theorem ff.parts {w:World}{g i:Nat}{b:Value}{e:Nat}{fault:Int}{laid d c:Nat}(h:ff w g i b e fault laid d c):
 w.cell? ⟨g,0,none⟩=some (.pointer (some ⟨i,0,none⟩))/\w.cell? ⟨g,1,none⟩=some b/\w.cell? ⟨g,2,none⟩=some (.int .i64 e)/\w.cell? ⟨g,3,none⟩=some (.int .i64 fault)/\w.cell? ⟨g,4,none⟩=some (.int .i64 laid)/\w.cell? ⟨g,5,none⟩=some (.int .i64 d)/\w.cell? ⟨g,6,none⟩=some (.int .i64 c):=⟨h.cell 0,h.cell 1,h.cell 2,h.cell 3,h.cell 4,h.cell 5,h.cell 6⟩
theorem ff.CP {w:World}{g i:Nat}{b:Value}{e:Nat}{fault:Int}{laid d c:Nat}(h:ff w g i b e fault laid d c):
 w.frozen? ⟨g,1,none⟩=false/\w.frozen? ⟨g,2,none⟩=false/\w.frozen? ⟨g,3,none⟩=false/\w.frozen? ⟨g,4,none⟩=false/\w.frozen? ⟨g,5,none⟩=false/\w.frozen? ⟨g,6,none⟩=false:=⟨h.frozen 1,h.frozen 2,h.frozen 3,h.frozen 4,h.frozen 5,h.frozen 6⟩
theorem ff.Im {w:World}{g e:Nat}{i:Value}{d:Nat}{fault:Int}{laid c b:Nat}(h:ff w g e i d fault laid c b)(v:Value):ff (w.setCell ⟨g,1,none⟩ v) g e v d fault laid c b:=h.store rfl
theorem ff.Ta {w:World}{g e:Nat}{b:Value}{i:Nat}{fault:Int}{laid d c:Nat}(h:ff w g e b i fault laid d c)(n:Nat):ff (w.setCell ⟨g,2,none⟩ (.int .i64 n)) g e b n fault laid d c:=h.store rfl
theorem ff.Pc {w:World}{g j:Nat}{b:Value}{i:Nat}{fault:Int}{laid d c:Nat}(h:ff w g j b i fault laid d c)(e:Int):ff (w.setCell ⟨g,3,none⟩ (.int .i64 e)) g j b i e laid d c:=h.store rfl
theorem ff.CQ {w:World}{g i:Nat}{b:Value}{e:Nat}{fault:Int}{laid d c:Nat}(h:ff w g i b e fault laid d c)(n:Nat):ff (w.setCell ⟨g,4,none⟩ (.int .i64 n)) g i b e fault n d c:=h.store rfl
theorem ff.Tb {w:World}{g e:Nat}{b:Value}{d:Nat}{fault:Int}{laid i c:Nat}(h:ff w g e b d fault laid i c)(n:Nat):ff (w.setCell ⟨g,5,none⟩ (.int .i64 n)) g e b d fault laid n c:=h.store rfl
theorem ff.Tc {w:World}{g e:Nat}{b:Value}{d:Nat}{fault:Int}{laid c i:Nat}(h:ff w g e b d fault laid c i)(n:Nat):ff (w.setCell ⟨g,6,none⟩ (.int .i64 n)) g e b d fault laid c n:=h.store rfl
structure dB (w:World)(lo hi g:Nat)(bv:Value)(c:aS)(l:List bF)(x:iI)(aU:Nat):Prop where
 lohi:lo<=hi
 Lx:hi<=g
 reg:∃gr gn gi rows nd,lS w lo hi gr gn gi c rows/\aJ rows=l/\ff w g gr bv nd x.fault x.laid x.told aU/\(x.fault=0->iw c x.buf nd)
 buf:bJ w hi 5 bv x.buf.data.toList
theorem dB.lt {w:World}{e hi g:Nat}{b:Value}{c:aS}{l:List bF}{x:iI}{i:Nat}(h:dB w e hi g b c l x i):g<w.heap.size:=by obtain⟨_,_,_,_,_,_,_,d,_⟩:=h.reg;exact d.lt
theorem dB.own {w:World}{e hi g:Nat}{b:Value}{c:aS}{l:List bF}{x:iI}{i:Nat}(h:dB w e hi g b c l x i):∀k,b.ownBlock=some k->hi<=k/\k<w.heap.size:=fun k d=>⟨(h.buf.ge k d).1,(h.buf.ge k d).2.1⟩
theorem dB.ag {w w':World}{d hi g:Nat}{i:Value}{c:aS}{l:List bF}{x:iI}{n:Nat}(h:dB w d hi g i c l x n)(hz:w.heap.size<=w'.heap.size)(m:∀k,k<w.heap.size->(d<=k/\k<hi)\/k=g\/i.ownBlock=some k->w'.heap[k]?=w.heap[k]?):dB w' d hi g i c l x n:=by
 obtain⟨z,p,s,rows,y,j,r,o,q⟩:=h.reg;refine⟨h.lohi,h.Lx,⟨z,p,s,rows,y,j.ag (fun k a b=>m k (yf b j.his) (.inl ⟨a,b⟩)) (zi _) (zP j.his hz),r,(m g o.lt (.inr (.inl rfl))).trans o,q⟩,h.buf.ag (fun k u e=>m k u (.inr (.inr e)))⟩
theorem dB.only {w w':World}{i hi g:Nat}{j:Value}{c:aS}{l:List bF}{x:iI}{n:Nat}{L:List Nat}(h:dB w i hi g j c l x n)(m:ae L w w')(q:∀k,k∈L->¬(i<=k/\k<hi)/\k≠g/\j.ownBlock≠some k):dB w' i hi g j c l x n:=
 h.ag m.size fun k p e=>m.block k p fun o=>by
  obtain⟨a,b,d⟩:=q k o;rcases e with e|e|e
  ·exact a e
  ·exact b e
  exact d e
theorem dB.below {w w':World}{d hi g:Nat}{b:Value}{c:aS}{l:List bF}{x:iI}{e:Nat}(h:dB w d hi g b c l x e)(i:Below w.heap.size w w'):dB w' d hi g b c l x e:=h.only (ae.ah i (zi _)) (by simp)
theorem dB.Td {w:World}{d hi g:Nat}{b:Value}{c:aS}{l:List bF}{x:iI}{i:Nat}(h:dB w d hi g b c l x i):∀k∈oG g b,hi<=k/\k<w.heap.size:=by
 intro k j;rcases iy.1 j with rfl|e
 ·exact⟨h.Lx,h.lt⟩
 exact h.own k e
theorem mR {b:Type}(Q:Nat->b->Prop):∀n,(∀i,i<n->∃y,Q i y)->∃l:List b,l.length=n/\∀i (h:i<l.length),Q i l[i]
 |0,_=>⟨[],rfl,by simp⟩
 |n+1,h=>by
  obtain⟨l,c,e⟩:=mR Q n fun i hi=>h i (by omega)
  obtain⟨y,j⟩:=h n (by omega);refine⟨l++ [y],by simp[c],fun i hi=> ?_⟩;by_cases d:i<l.length
  ·rw[xR d];exact e i d
  have:i=n:=by simp at hi;omega
  subst this;rw[List.getElem_append_right (by omega)];simpa[c]using j
theorem sE {w:World}{base:Nat}{a:Addr}{k:List Value}(h:w.cells? base a 3=some k):∃c b d,k= [c,b,d]/\w.cell? a=some c/\w.cell? (a.add 1)=some b/\w.cell? (a.add 2)=some d:=by
 unfold World.cells? at h;split at h
 ·have e:List.range 3= [0,1,2]:=rfl;rw[e]at h;simp only[List.mapM_cons,List.mapM_nil,Option.bind_eq_bind,Option.pure_def,xA]at h;obtain⟨c,o,r,⟨b,p,q,⟨d,n,s,m,i⟩,l⟩,j⟩:=h;simp at m i l j;subst m;subst i;subst l;subst j;exact⟨c,b,d,rfl,by simpa[Addr.add]using o,p,n⟩
 cases h
theorem Ki {w:World}{a:Addr}{v:Value}(h:w.cell? a=some v):a.spot=none:=by
 unfold World.cell? at h;split at h
 ·split at h
  ·cases h
  rename_i b;simpa using b
 cases h
theorem Kj {w:World}{p:Addr}{v:Value}(h:w.cell? p=some v):p.block<w.heap.size:=by
 rcases Zl p.block w.heap.size with h'|h'
 ·exact h'
 simp[World.cell?,xZ h']at h
