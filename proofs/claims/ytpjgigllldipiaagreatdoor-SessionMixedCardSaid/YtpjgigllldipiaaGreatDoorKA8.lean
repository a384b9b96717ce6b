/- A config, or a frame, that came in as an argument. -/
import Derived.ProofKit
import Derived.OpenShut
import Derived.ShutString
import Derived.Test.YtpjgigllldipiaaGreatDoorKA7
set_option linter.all false
set_option maxRecDepth 100000
namespace Go.Proofs.YtpjgigllldipiaaGreatDoor
open Tryz
open Go.ChangeShapes Go.WideShapes Go.ChangeAt Go.RowKit
def yH:=@underlying3
def xu:=@Option.bind_eq_some_iff
def Zh:=@DataW.trod_int
def ZC:=@DataW.trod_struct
def Yd:=@underlying55
def aR.val (c:aR):Value:= .agg #[.int .i64 c.fm,.int .u32 c.mg,.int .i64 c.fr,.int .i64 c.un,.int .i64 c.de,.int .i64 c.it]
def Fr.val (f:Fr):Value:= .agg #[.int .u64 f.id,.string f.nm,.string f.body]
structure aR.ok (c:aR):Prop where
 fm: -9223372036854775808<=c.fm/\c.fm<=9223372036854775807
 mg:c.mg<4294967296
 fr: -9223372036854775808<=c.fr/\c.fr<=9223372036854775807
 un: -9223372036854775808<=c.un/\c.un<=9223372036854775807
 de: -9223372036854775808<=c.de/\c.de<=9223372036854775807
 it: -9223372036854775808<=c.it/\c.it<=9223372036854775807
structure Fr.ok (f:Fr):Prop where
 id:f.id<18446744073709551616
 nm:f.nm.size<=9223372036854775807
 body:f.body.size<=9223372036854775807
theorem wf_i64 {n:Int}(h:(Lit.int .i64 n).wf=true): -9223372036854775808<=n/\n<=9223372036854775807:=by simpa[Lit.wf,IntKind.min,IntKind.max,IntKind.signed,IntKind.bits]using h
theorem wf_u32 {n:Int}(h:(Lit.int .u32 n).wf=true):∃k:Nat,n=(k:Int)/\k<4294967296:=by
 have b:0<=n/\n<=4294967295:=by simpa[Lit.wf,IntKind.min,IntKind.max,IntKind.signed,IntKind.bits]using h
 exact⟨n.toNat,by omega,by omega⟩
theorem wf_u64 {n:Int}(h:(Lit.int .u64 n).wf=true):∃k:Nat,n=(k:Int)/\k<18446744073709551616:=by
 have b:0<=n/\n<=18446744073709551615:=by simpa[Lit.wf,IntKind.min,IntKind.max,IntKind.signed,IntKind.bits]using h
 exact⟨n.toNat,by omega,by omega⟩
theorem EV :prog.cellsOf 24=6:=by kernel_rfl
theorem CD :prog.cellsOf 3=1:=by kernel_rfl
theorem CE :prog.cellsOf 22=1:=by kernel_rfl
theorem CF :prog.cellsOf 55=1:=by kernel_rfl
theorem CG :prog.cellsOf 9=1:=by kernel_rfl
theorem OW {H:Type}{enc:TypeId×Value->H}{w:World}{base:Nat}{spare:Nat->Bool}{held:Bool}(C:Nat)(o:List Value)(x:DataW H×List MemPlace)(h:DataW.trod enc prog w base spare held C 24 o=some x):
 ∃c:aR,o= [.int .i64 c.fm,.int .u32 c.mg,.int .i64 c.fr,.int .i64 c.un,.int .i64 c.de,.int .i64 c.it]/\c.ok:=by
 obtain⟨xs,n,rfl,_,u,A,b⟩:=ZC underlying24 h;rw[EV]at u;match o,u with
 | [c0,c1,c2,c3,c4,c5],_=>
  have j:DataW.trod enc prog w base spare held n 3 ((([c0,c1,c2,c3,c4,c5]:List Value).drop 0).take (prog.cellsOf 3))=xs[0]?:=b 0 _ rfl;have l:DataW.trod enc prog w base spare held n 22 ((([c0,c1,c2,c3,c4,c5]:List Value).drop 1).take (prog.cellsOf 22))=xs[1]?:=b 1 _ rfl;have i:DataW.trod enc prog w base spare held n 3 ((([c0,c1,c2,c3,c4,c5]:List Value).drop 2).take (prog.cellsOf 3))=xs[2]?:=b 2 _ rfl;have m:DataW.trod enc prog w base spare held n 3 ((([c0,c1,c2,c3,c4,c5]:List Value).drop 3).take (prog.cellsOf 3))=xs[3]?:=b 3 _ rfl;have d:DataW.trod enc prog w base spare held n 3 ((([c0,c1,c2,c3,c4,c5]:List Value).drop 4).take (prog.cellsOf 3))=xs[4]?:=b 4 _ rfl;have e:DataW.trod enc prog w base spare held n 3 ((([c0,c1,c2,c3,c4,c5]:List Value).drop 5).take (prog.cellsOf 3))=xs[5]?:=b 5 _ rfl;have D:xs.length=6:=A;rw[zB (by omega)]at j l i m d e;rw[CD]at j i m d e;rw[CE]at l;simp only[zQ,zR,yB,yf]at j l i m d e;obtain⟨i0,s,_,g0⟩:=Zh yH j;obtain⟨i1,y,_,g1⟩:=Zh underlying22 l;obtain⟨i2,q,_,g2⟩:=Zh yH i;obtain⟨i3,z,_,g3⟩:=Zh yH m;obtain⟨i4,r,_,g4⟩:=Zh yH d;obtain⟨i5,p,_,g5⟩:=Zh yH e;simp at s y q z r p;subst s;subst y;subst q;subst z;subst r;subst p;obtain⟨k,rfl,B⟩:=wf_u32 g1;exact⟨⟨i0,k,i2,i3,i4,i5⟩,rfl,wf_i64 g0,B,wf_i64 g2,wf_i64 g3,wf_i64 g4,wf_i64 g5⟩
theorem L6 {H:Type}{enc:TypeId×Value->H}{w:World}{base m:Nat}{r:Reach}{spare:Nat->Bool}{held:Bool}{v:Value}{d:DataW H}{j:List MemPlace}(l:Value.okWide prog w r m 24 v)(hd:DataW.Trod enc prog w base spare held 24 v d j):
 ∃c:aR,v=c.val/\c.ok:=by
 obtain⟨e,rfl,_⟩:=okWide_struct underlying24 l;obtain⟨k,i⟩:=hd;obtain⟨c,b,h⟩:=OW k _ _ i;refine⟨c, ?_,h⟩;have b:e.toList= [.int .i64 c.fm,.int .u32 c.mg,.int .i64 c.fr,.int .i64 c.un,.int .i64 c.de,.int .i64 c.it]:=b;have:e= #[.int .i64 c.fm,.int .u32 c.mg,.int .i64 c.fr,.int .i64 c.un,.int .i64 c.de,.int .i64 c.it]:=by cases e;simp at b;simp[b]
 rw[this];rfl
open Go.RowKit
def x' (c:aR):Value:= .agg #[.int .i64 c.de,.int .i64 c.it]
def sZ (c:aR):Value:= .func (.func (if c.fm=1 then 41 else 39)) #[x' c] #[]
def pM (c:aR):Value:= .func (.func (if c.fm=1 then 42 else 40)) #[x' c] #[]
def rgC (c:aR)(gn gi:Nat)(vp vg:Value):Array Value:= #[.int .i64 c.fm,.int .u32 c.mg,.int .i64 c.fr,.int .i64 c.un,.int .i64 c.de,.int .i64 c.it,.map (some gn),.map (some gi),vp,vg]
def Us (w:World)(S:Nat->Prop)(r:bV):Prop:=∃c0 c1 c2 c3,r.2= .agg #[.int .u64 r.1.id,.string r.1.name,.string r.1.ty,c0,c1,c2,c3]/\fh w S r.1.shape c0 c1 c2 c3
structure pN (e:bA):Prop where
 id:e.id<18446744073709551616
 name:e.name.size<=100
 ty:e.ty.size<=500
structure lO (w:World)(lo hi g gn gi:Nat)(c:aR)(l:List bV):Prop where
 blk:af w g 95 (rgC c gn gi (sZ c) (pM c))
 nm:iV w gn (wV l)
 ix:iV w gi (wW l)
 n1:lo<=gn
 n2:gn<g
 i1:lo<=gi
 i2:gi<g
 ne:gn≠gi
 g2:g<hi
 his:hi<=w.heap.size
 rows:∀r∈l,Us w (fun k=>g<k/\k<hi) r
 ok:cM c (aJ l)
 sz:∀r∈l,pN r.1
theorem Us.ah {w w':World}{S S':Nat->Prop}{r:bV}(h:Us w S r)(hS:∀k,k<w.heap.size->S k->S' k)(j:∀p:Addr,p.block<w.heap.size->S p.block->w'.cell? p=w.cell? p):Us w' S' r:=by
 obtain⟨b,c,d,i,e,h⟩:=h;exact⟨b,c,d,i,e,fh.ah hS j _ h⟩
theorem iV.ah {w w':World}{g:Nat}{l:List (Value×Value)}(h:iV w g l)(b:w'.heap[g]?=w.heap[g]?):iV w' g l:=b.trans h
theorem lO.ah {w w':World}{d hi e g j i:Nat}{c:aR}{l:List bV}(h:lO w d hi g j i c l)(b:∀k,d<=k->k<hi->w'.heap[k]?=w.heap[k]?)(m:hi<=e)(o:e<=w'.heap.size):lO w' d e g j i c l where
 blk:=(b g (by have:=h.n1;have:=h.n2;omega) h.g2).trans h.blk
 nm:=h.nm.ah (b j h.n1 (by have:=h.n2;have:=h.g2;omega))
 ix:=h.ix.ah (b i h.i1 (by have:=h.i2;have:=h.g2;omega))
 n1:=h.n1
 n2:=h.n2
 i1:=h.i1
 i2:=h.i2
 ne:=h.ne
 g2:=yg h.g2 m
 his:=o
 rows:=fun r n=>(h.rows r n).ah (fun k _ hS=>⟨hS.1,yg hS.2 m⟩) fun p _ hS=>zL (b _ (by have:=h.n1;have:=h.n2;have:=hS.1;omega) hS.2)
 ok:=h.ok
 sz:=h.sz
theorem lO.below {w w':World}{b hi g i e:Nat}{c:aR}{l:List bV}(h:lO w b hi g i e c l)(d:Below hi w w'):lO w' b hi g i e c l:=h.ah (fun k _ j=>d.block k j) (zf _) (zK h.his d.size)
theorem lO.only {w w':World}{b hi g i e:Nat}{c:aR}{l:List bV}{L:List Nat}(h:lO w b hi g i e c l)(d:ae L w w')(m:∀k∈L,k<b\/hi<=k):lO w' b hi g i e c l:=
 h.ah (fun k o n=>d.block k (yg n h.his) fun j=>by have:=m k j;omega) (zf _) (zK h.his d.size)
theorem lO.cells {w:World}{e hi g d b:Nat}{c:aR}{l:List bV}(h:lO w e hi g d b c l):
 w.cell? ⟨g,0,none⟩=some (.int .i64 c.fm)/\w.cell? ⟨g,6,none⟩=some (.map (some d))/\w.cell? ⟨g,7,none⟩=some (.map (some b))/\w.cell? ⟨g,8,none⟩=some (sZ c)/\w.cell? ⟨g,9,none⟩=some (pM c):=⟨h.blk.cell 0,h.blk.cell 6,h.blk.cell 7,h.blk.cell 8,h.blk.cell 9⟩
theorem lO.cfg {w:World}{b hi g e d:Nat}{c:aR}{l:List bV}(h:lO w b hi g e d c l):
 w.cell? ⟨g,0,none⟩=some (.int .i64 c.fm)/\w.cell? ⟨g,1,none⟩=some (.int .u32 c.mg)/\w.cell? ⟨g,2,none⟩=some (.int .i64 c.fr)/\w.cell? ⟨g,3,none⟩=some (.int .i64 c.un)/\w.cell? ⟨g,4,none⟩=some (.int .i64 c.de)/\w.cell? ⟨g,5,none⟩=some (.int .i64 c.it):=⟨h.blk.cell 0,h.blk.cell 1,h.blk.cell 2,h.blk.cell 3,h.blk.cell 4,h.blk.cell 5⟩
def CH :Value:= .agg #[.int .u64 0,.string ⟨#[]⟩,.string ⟨#[]⟩,.int .i64 0,.int .i64 0,.slice none 0 0,.int .i64 0]
theorem EW (w:World):(zeroValue 98).run prog w= .ok CH w:=by kernel_rfl
theorem SQ {w:World}{b:Nat}{c:aR}{l:List bV}(n:iV w b (wV l))(h:cM c (aJ l))(nm:ByteArray):
 (fp (aJ l) nm=none/\∀V,iV V b (wV l)->(Instr.lookup 88 (.map (some b)) (.string nm) true).run prog V= .ok (.tuple #[CH,.bool false]) V)\/
 ∃r∈l,r.1.name=nm/\fp (aJ l) nm=some r.1/\∀V,iV V b (wV l)->(Instr.lookup 88 (.map (some b)) (.string nm) true).run prog V= .ok (.tuple #[r.2,.bool true]) V:=by
 rcases BB h nm with⟨e,i⟩|⟨j,r,e,i,m,k⟩
 ·exact .inl ⟨i,fun V d=>JQ d underlying88 zO (by simp[MapKept.IsKey]) e (EW V)⟩
 exact .inr ⟨r,xo i,m,k,fun V d=>EM d underlying88 zO (by simp[MapKept.IsKey]) e⟩
theorem SR {w:World}{b:Nat}{c:aR}{l:List bV}(o:iV w b (wW l))(h:cM c (aJ l))(id:Nat):
 ((aJ l).find? (fun e=>decide (e.id=id))=none/\∀V,iV V b (wW l)->(Instr.lookup 89 (.map (some b)) (.int .u64 id) true).run prog V= .ok (.tuple #[CH,.bool false]) V)\/
 ∃r∈l,r.1.id=id/\(aJ l).find? (fun e=>decide (e.id=id))=some r.1/\∀V,iV V b (wW l)->(Instr.lookup 89 (.map (some b)) (.int .u64 id) true).run prog V= .ok (.tuple #[r.2,.bool true]) V:=by
 rcases JS h id _ (fun _=>rfl)with⟨i,k⟩|⟨j,r,i,k,n,m⟩
 ·exact .inl ⟨k,fun V d=>JQ d underlying89 Yd (by simp[MapKept.IsKey]) i (EW V)⟩
 exact .inr ⟨r,xo k,n,m,fun V d=>EM d underlying89 Yd (by simp[MapKept.IsKey]) i⟩
theorem mL {w:World}{g:Nat}{t:TypeId}{d c e a3 a4 a5 b:Value}(h:af w g t #[d,c,e,a3,a4,a5,b]):
 w.cell? ⟨g,0,none⟩=some d/\w.cell? ⟨g,1,none⟩=some c/\w.cell? ⟨g,2,none⟩=some e/\w.cell? ⟨g,3,none⟩=some a3/\w.cell? ⟨g,4,none⟩=some a4/\w.cell? ⟨g,5,none⟩=some a5/\w.cell? ⟨g,6,none⟩=some b:=⟨h.cell 0,h.cell 1,h.cell 2,h.cell 3,h.cell 4,h.cell 5,h.cell 6⟩
def ssC (gr:Nat)(bv:Value)(nd:Nat)(fault:Int)(laid told aH:Nat):Array Value:= #[.pointer (some ⟨gr,0,none⟩),bv,.int .i64 nd,.int .i64 fault,.int .i64 laid,.int .i64 told,.int .i64 aH]
abbrev eX (w:World)(g gr:Nat)(bv:Value)(nd:Nat)(fault:Int)(laid told aH:Nat):Prop:=af w g 72 (ssC gr bv nd fault laid told aH)
theorem eX.parts {w:World}{g i:Nat}{e:Value}{c:Nat}{fault:Int}{laid b d:Nat}(h:eX w g i e c fault laid b d):
 w.cell? ⟨g,0,none⟩=some (.pointer (some ⟨i,0,none⟩))/\w.cell? ⟨g,1,none⟩=some e/\w.cell? ⟨g,2,none⟩=some (.int .i64 c)/\w.cell? ⟨g,3,none⟩=some (.int .i64 fault)/\w.cell? ⟨g,4,none⟩=some (.int .i64 laid)/\w.cell? ⟨g,5,none⟩=some (.int .i64 b)/\w.cell? ⟨g,6,none⟩=some (.int .i64 d):=⟨h.cell 0,h.cell 1,h.cell 2,h.cell 3,h.cell 4,h.cell 5,h.cell 6⟩
theorem eX.CI {w:World}{g i:Nat}{e:Value}{c:Nat}{fault:Int}{laid b d:Nat}(h:eX w g i e c fault laid b d):
 w.frozen? ⟨g,1,none⟩=false/\w.frozen? ⟨g,2,none⟩=false/\w.frozen? ⟨g,3,none⟩=false/\w.frozen? ⟨g,4,none⟩=false/\w.frozen? ⟨g,5,none⟩=false/\w.frozen? ⟨g,6,none⟩=false:=⟨h.frozen 1,h.frozen 2,h.frozen 3,h.frozen 4,h.frozen 5,h.frozen 6⟩
theorem eX.Hx {w:World}{g e:Nat}{i:Value}{c:Nat}{fault:Int}{laid b d:Nat}(h:eX w g e i c fault laid b d)(v:Value):eX (w.setCell ⟨g,1,none⟩ v) g e v c fault laid b d:=h.store rfl
theorem eX.SS {w:World}{g e:Nat}{d:Value}{i:Nat}{fault:Int}{laid b c:Nat}(h:eX w g e d i fault laid b c)(n:Nat):eX (w.setCell ⟨g,2,none⟩ (.int .i64 n)) g e d n fault laid b c:=h.store rfl
theorem eX.OX {w:World}{g j:Nat}{i:Value}{c:Nat}{fault:Int}{laid b d:Nat}(h:eX w g j i c fault laid b d)(e:Int):eX (w.setCell ⟨g,3,none⟩ (.int .i64 e)) g j i c e laid b d:=h.store rfl
theorem eX.CJ {w:World}{g i:Nat}{e:Value}{c:Nat}{fault:Int}{laid b d:Nat}(h:eX w g i e c fault laid b d)(n:Nat):eX (w.setCell ⟨g,4,none⟩ (.int .i64 n)) g i e c fault n b d:=h.store rfl
theorem eX.SU {w:World}{g e:Nat}{d:Value}{b:Nat}{fault:Int}{laid i c:Nat}(h:eX w g e d b fault laid i c)(n:Nat):eX (w.setCell ⟨g,5,none⟩ (.int .i64 n)) g e d b fault laid n c:=h.store rfl
theorem eX.SV {w:World}{g e:Nat}{d:Value}{c:Nat}{fault:Int}{laid b i:Nat}(h:eX w g e d c fault laid b i)(n:Nat):eX (w.setCell ⟨g,6,none⟩ (.int .i64 n)) g e d c fault laid b n:=h.store rfl
structure dt (w:World)(lo hi g:Nat)(bv:Value)(c:aR)(l:List bA)(x:jb)(aH:Nat):Prop where
 lohi:lo<=hi
 DU:hi<=g
 reg:∃gr gn gi rows nd,lO w lo hi gr gn gi c rows/\aJ rows=l/\eX w g gr bv nd x.fault x.laid x.told aH/\(x.fault=0->iq c x.buf nd)
 buf:bJ w hi 5 bv x.buf.data.toList
theorem dt.lt {w:World}{e hi g:Nat}{b:Value}{c:aR}{l:List bA}{x:jb}{i:Nat}(h:dt w e hi g b c l x i):g<w.heap.size:=by obtain⟨_,_,_,_,_,_,_,d,_⟩:=h.reg;exact d.lt
theorem dt.own {w:World}{e hi g:Nat}{b:Value}{c:aR}{l:List bA}{x:jb}{i:Nat}(h:dt w e hi g b c l x i):∀k,b.ownBlock=some k->hi<=k/\k<w.heap.size:=fun k d=>⟨(h.buf.ge k d).1,(h.buf.ge k d).2.1⟩
theorem dt.ah {w w':World}{d hi g:Nat}{i:Value}{c:aR}{l:List bA}{x:jb}{n:Nat}(h:dt w d hi g i c l x n)(hz:w.heap.size<=w'.heap.size)(m:∀k,k<w.heap.size->(d<=k/\k<hi)\/k=g\/i.ownBlock=some k->w'.heap[k]?=w.heap[k]?):dt w' d hi g i c l x n:=by
 obtain⟨y,r,q,rows,p,j,z,o,s⟩:=h.reg;refine⟨h.lohi,h.DU,⟨y,r,q,rows,p,j.ah (fun k a b=>m k (yg b j.his) (.inl ⟨a,b⟩)) (zf _) (zK j.his hz),z,(m g o.lt (.inr (.inl rfl))).trans o,s⟩,h.buf.ah (fun k u e=>m k u (.inr (.inr e)))⟩
theorem dt.only {w w':World}{i hi g:Nat}{j:Value}{c:aR}{l:List bA}{x:jb}{n:Nat}{L:List Nat}(h:dt w i hi g j c l x n)(m:ae L w w')(p:∀k,k∈L->¬(i<=k/\k<hi)/\k≠g/\j.ownBlock≠some k):dt w' i hi g j c l x n:=
 h.ah m.size fun k q e=>m.block k q fun o=>by
  obtain⟨a,b,d⟩:=p k o;rcases e with e|e|e
  ·exact a e
  ·exact b e
  exact d e
theorem dt.below {w w':World}{d hi g:Nat}{b:Value}{c:aR}{l:List bA}{x:jb}{e:Nat}(h:dt w d hi g b c l x e)(i:Below w.heap.size w w'):dt w' d hi g b c l x e:=h.only (ae.ag i (zf _)) (by simp)
theorem dt.JW {w:World}{d hi g:Nat}{b:Value}{c:aR}{l:List bA}{x:jb}{i:Nat}(h:dt w d hi g b c l x i):∀k∈oC g b,hi<=k/\k<w.heap.size:=by
 intro k j;rcases jt.1 j with rfl|e
 ·exact⟨h.DU,h.lt⟩
 exact h.own k e
theorem EX (j hi g:Nat)(n:Value)(c:aR)(l:List bA)(x:jb)(m:Nat)(w:World)(h:dt w j hi g n c l x m):
 Calls prog 18 #[.pointer (some ⟨g,0,none⟩)] w fun e w'=>e= .returned (.string x.buf)/\w=w':=by
 obtain⟨_,_,_,_,_,_,_,i,_⟩:=h.reg;have b:=h.buf;have d:=b.form;rw[aa]at d;obtain⟨A,cap,rfl,_,_⟩:=d;obtain⟨_,r,o,p,s,u,q⟩:=i.parts;have k:=bJ.Ef (P:=prog) (src:=31) (dst:=9) zx yC zO b;rw[ig]at k;clear i h b;go_enter func18,ntmps18
 go_wp2;go_ret;exact⟨rfl,rfl⟩
theorem su (i hi g:Nat)(k:Value)(c:aR)(l:List bA)(x:jb)(j:Nat)(w:World)(h:dt w i hi g k c l x j):
 Calls prog 19 #[.pointer (some ⟨g,0,none⟩)] w fun e w'=>e= .returned (.int .i64 (x.laid:Nat))/\w=w':=by
 obtain⟨_,_,_,_,_,_,_,d,_⟩:=h.reg;have b:=h.buf.form;rw[aa]at b;obtain⟨A,cap,rfl,_,_⟩:=b;obtain⟨_,p,m,n,q,r,o⟩:=d.parts;clear d h;go_enter func19,ntmps19
 go_wp2;go_ret;exact⟨rfl,rfl⟩
theorem mM {c:Type}(Q:Nat->c->Prop):∀n,(∀i,i<n->∃y,Q i y)->∃l:List c,l.length=n/\∀i (h:i<l.length),Q i l[i]
 |0,_=>⟨[],rfl,by simp⟩
 |n+1,h=>by
  obtain⟨l,d,j⟩:=mM Q n fun i hi=>h i (by omega)
  obtain⟨y,e⟩:=h n (by omega);refine⟨l++ [y],by simp[d],fun i hi=> ?_⟩;by_cases b:i<l.length
  ·rw[xN b];exact j i b
  have:i=n:=by simp at hi;omega
  subst this;rw[List.getElem_append_right (by omega)];simpa[d]using e
theorem sv {w:World}{base:Nat}{a:Addr}{i:List Value}(h:w.cells? base a 3=some i):∃b c d,i= [b,c,d]/\w.cell? a=some b/\w.cell? (a.add 1)=some c/\w.cell? (a.add 2)=some d:=by
 unfold World.cells? at h;split at h
 ·have e:List.range 3= [0,1,2]:=rfl;rw[e]at h;simp only[List.mapM_cons,List.mapM_nil,Option.bind_eq_bind,Option.pure_def,xu]at h;obtain⟨b,n,r,⟨c,o,q,⟨d,p,s,m,l⟩,j⟩,k⟩:=h;simp at m l j k;subst m;subst l;subst j;subst k;exact⟨b,c,d,rfl,by simpa[Addr.add]using n,o,p⟩
 cases h
theorem JX {w:World}{a:Addr}{v:Value}(h:w.cell? a=some v):a.spot=none:=by
 unfold World.cell? at h;split at h
 ·split at h
  ·cases h
  rename_i b;simpa using b
 cases h
theorem JY {w:World}{p:Addr}{v:Value}(h:w.cell? p=some v):p.block<w.heap.size:=by
 rcases Zl p.block w.heap.size with h'|h'
 ·exact h'
 simp[World.cell?,xV h']at h
