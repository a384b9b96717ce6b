/- A config, or a frame, that came in as an argument. -/
import Derived.ProofKit
import Derived.OpenShut
import Derived.ShutString
import Derived.Test.YtdbmifjankgfpaaGreatDoorKA6
set_option linter.all false
set_option maxRecDepth 100000
namespace Go.Proofs.YtdbmifjankgfpaaGreatDoor
open Tryz
open Go.ChangeShapes Go.WideShapes Go.ChangeAt Go.RowKit
def yB:=@underlying3
def xK:=@DataW.trod_int
def Zp:=@underlying22
def Z2:=@underlying46
def aN.val (c:aN):Value:= .agg #[.int .i64 c.fm,.int .u32 c.mg,.int .i64 c.fr,.int .i64 c.un,.int .i64 c.de,.int .i64 c.it]
def Fr.val (f:Fr):Value:= .agg #[.int .u64 f.id,.string f.nm,.string f.body]
structure aN.ok (c:aN):Prop where
 fm: -9223372036854775808<=c.fm/\c.fm<=9223372036854775807
 mg:c.mg<4294967296
 fr: -9223372036854775808<=c.fr/\c.fr<=9223372036854775807
 un: -9223372036854775808<=c.un/\c.un<=9223372036854775807
 de: -9223372036854775808<=c.de/\c.de<=9223372036854775807
 it: -9223372036854775808<=c.it/\c.it<=9223372036854775807
structure Fr.ok (f:Fr):Prop where
 id:f.id<18446744073709551616
 nm:f.nm.size<=9223372036854775807
 body:f.body.size<=9223372036854775807
theorem wf_i64 {n:Int}(h:(Lit.int .i64 n).wf=true): -9223372036854775808<=n/\n<=9223372036854775807:=by simpa[Lit.wf,IntKind.min,IntKind.max,IntKind.signed,IntKind.bits]using h
theorem wf_u32 {n:Int}(h:(Lit.int .u32 n).wf=true):∃k:Nat,n=(k:Int)/\k<4294967296:=by
 have b:0<=n/\n<=4294967295:=by simpa[Lit.wf,IntKind.min,IntKind.max,IntKind.signed,IntKind.bits]using h
 exact⟨n.toNat,by omega,by omega⟩
theorem wf_u64 {n:Int}(h:(Lit.int .u64 n).wf=true):∃k:Nat,n=(k:Int)/\k<18446744073709551616:=by
 have b:0<=n/\n<=18446744073709551615:=by simpa[Lit.wf,IntKind.min,IntKind.max,IntKind.signed,IntKind.bits]using h
 exact⟨n.toNat,by omega,by omega⟩
theorem FJ :prog.cellsOf 24=6:=by kernel_rfl
theorem Df :prog.cellsOf 3=1:=by kernel_rfl
theorem Dg :prog.cellsOf 22=1:=by kernel_rfl
theorem Dh :prog.cellsOf 46=1:=by kernel_rfl
theorem Di :prog.cellsOf 9=1:=by kernel_rfl
theorem PT {H:Type}{enc:TypeId×Value->H}{w:World}{base:Nat}{spare:Nat->Bool}{held:Bool}(B:Nat)(o:List Value)(x:DataW H×List MemPlace)(h:DataW.trod enc prog w base spare held B 24 o=some x):
 ∃c:aN,o= [.int .i64 c.fm,.int .u32 c.mg,.int .i64 c.fr,.int .i64 c.un,.int .i64 c.de,.int .i64 c.it]/\c.ok:=by
 obtain⟨xs,n,rfl,_,p,A,b⟩:=DataW.trod_struct underlying24 h;rw[FJ]at p;match o,p with
 | [c0,c1,c2,c3,c4,c5],_=>
  have i:DataW.trod enc prog w base spare held n 3 ((([c0,c1,c2,c3,c4,c5]:List Value).drop 0).take (prog.cellsOf 3))=xs[0]?:=b 0 _ rfl;have m:DataW.trod enc prog w base spare held n 22 ((([c0,c1,c2,c3,c4,c5]:List Value).drop 1).take (prog.cellsOf 22))=xs[1]?:=b 1 _ rfl;have j:DataW.trod enc prog w base spare held n 3 ((([c0,c1,c2,c3,c4,c5]:List Value).drop 2).take (prog.cellsOf 3))=xs[2]?:=b 2 _ rfl;have e:DataW.trod enc prog w base spare held n 3 ((([c0,c1,c2,c3,c4,c5]:List Value).drop 3).take (prog.cellsOf 3))=xs[3]?:=b 3 _ rfl;have d:DataW.trod enc prog w base spare held n 3 ((([c0,c1,c2,c3,c4,c5]:List Value).drop 4).take (prog.cellsOf 3))=xs[4]?:=b 4 _ rfl;have l:DataW.trod enc prog w base spare held n 3 ((([c0,c1,c2,c3,c4,c5]:List Value).drop 5).take (prog.cellsOf 3))=xs[5]?:=b 5 _ rfl;have D:xs.length=6:=A;rw[zA (by omega)]at i m j e d l;rw[Df]at i j e d l;rw[Dg]at m;simp only[zK,zP,yz,yg]at i m j e d l;obtain⟨i0,r,_,g0⟩:=xK yB i;obtain⟨i1,q,_,g1⟩:=xK Zp m;obtain⟨i2,z,_,g2⟩:=xK yB j;obtain⟨i3,y,_,g3⟩:=xK yB e;obtain⟨i4,s,_,g4⟩:=xK yB d;obtain⟨i5,u,_,g5⟩:=xK yB l;simp at r q z y s u;subst r;subst q;subst z;subst y;subst s;subst u;obtain⟨k,rfl,C⟩:=wf_u32 g1;exact⟨⟨i0,k,i2,i3,i4,i5⟩,rfl,wf_i64 g0,C,wf_i64 g2,wf_i64 g3,wf_i64 g4,wf_i64 g5⟩
theorem M0 {H:Type}{enc:TypeId×Value->H}{w:World}{base j:Nat}{r:Reach}{spare:Nat->Bool}{held:Bool}{v:Value}{d:DataW H}{h:List MemPlace}(l:Value.okWide prog w r j 24 v)(hd:DataW.Trod enc prog w base spare held 24 v d h):
 ∃c:aN,v=c.val/\c.ok:=by
 obtain⟨e,rfl,_⟩:=okWide_struct underlying24 l;obtain⟨m,i⟩:=hd;obtain⟨c,b,k⟩:=PT m _ _ i;refine⟨c, ?_,k⟩;have b:e.toList= [.int .i64 c.fm,.int .u32 c.mg,.int .i64 c.fr,.int .i64 c.un,.int .i64 c.de,.int .i64 c.it]:=b;have:e= #[.int .i64 c.fm,.int .u32 c.mg,.int .i64 c.fr,.int .i64 c.un,.int .i64 c.de,.int .i64 c.it]:=by cases e;simp at b;simp[b]
 rw[this];rfl
open Go.RowKit
def A8 (c:aN):Value:= .agg #[.int .i64 c.de,.int .i64 c.it]
def tH (c:aN):Value:= .func (.func (if c.fm=1 then 88 else 86)) #[A8 c] #[]
def qA (c:aN):Value:= .func (.func (if c.fm=1 then 89 else 87)) #[A8 c] #[]
def rgC (c:aN)(gn gi:Nat)(vp vg:Value):Array Value:= #[.int .i64 c.fm,.int .u32 c.mg,.int .i64 c.fr,.int .i64 c.un,.int .i64 c.de,.int .i64 c.it,.map (some gn),.map (some gi),vp,vg]
def Vt (w:World)(S:Nat->Prop)(r:bZ):Prop:=∃c0 c1 c2 c3,r.2= .agg #[.int .u64 r.1.id,.string r.1.name,.string r.1.ty,c0,c1,c2,c3]/\fD w S r.1.shape c0 c1 c2 c3
structure oV (e:bC):Prop where
 id:e.id<18446744073709551616
 name:e.name.size<=100
 ty:e.ty.size<=500
structure mw (w:World)(lo hi g gn gi:Nat)(c:aN)(l:List bZ):Prop where
 blk:af w g 125 (rgC c gn gi (tH c) (qA c))
 nm:jw w gn (AW l)
 ix:jw w gi (AX l)
 n1:lo<=gn
 n2:gn<g
 i1:lo<=gi
 i2:gi<g
 ne:gn≠gi
 g2:g<hi
 his:hi<=w.heap.size
 rows:∀r∈l,Vt w (fun k=>g<k/\k<hi) r
 ok:cT c (aI l)
 sz:∀r∈l,oV r.1
theorem Vt.ag {w w':World}{S S':Nat->Prop}{r:bZ}(h:Vt w S r)(hS:∀k,k<w.heap.size->S k->S' k)(d:∀p:Addr,p.block<w.heap.size->S p.block->w'.cell? p=w.cell? p):Vt w' S' r:=by
 obtain⟨c,b,i,j,e,h⟩:=h;exact⟨c,b,i,j,e,fD.ag hS d _ h⟩
theorem jw.ag {w w':World}{g:Nat}{l:List (Value×Value)}(h:jw w g l)(b:w'.heap[g]?=w.heap[g]?):jw w' g l:=b.trans h
theorem mw.ag {w w':World}{lo hi hi' g d e:Nat}{c:aN}{l:List bZ}(h:mw w lo hi g d e c l)(b:∀k,lo<=k->k<hi->w'.heap[k]?=w.heap[k]?)(i:hi<=hi')(j:hi'<=w'.heap.size):mw w' lo hi' g d e c l where
 blk:=(b g (by have:=h.n1;have:=h.n2;omega) h.g2).trans h.blk
 nm:=h.nm.ag (b d h.n1 (by have:=h.n2;have:=h.g2;omega))
 ix:=h.ix.ag (b e h.i1 (by have:=h.i2;have:=h.g2;omega))
 n1:=h.n1
 n2:=h.n2
 i1:=h.i1
 i2:=h.i2
 ne:=h.ne
 g2:=zT h.g2 i
 his:=j
 rows:=fun r m=>(h.rows r m).ag (fun k _ hS=>⟨hS.1,zT hS.2 i⟩) fun p _ hS=>zD (b _ (by have:=h.n1;have:=h.n2;have:=hS.1;omega) hS.2)
 ok:=h.ok
 sz:=h.sz
theorem mw.below {w w':World}{lo hi g e d:Nat}{c:aN}{l:List bZ}(h:mw w lo hi g e d c l)(b:Below hi w w'):mw w' lo hi g e d c l:=h.ag (fun k _ i=>b.block k i) (zd _) (zF h.his b.size)
theorem mw.only {w w':World}{lo hi g b d:Nat}{c:aN}{l:List bZ}{L:List Nat}(h:mw w lo hi g b d c l)(e:ae L w w')(m:∀k∈L,k<lo\/hi<=k):mw w' lo hi g b d c l:=
 h.ag (fun k n j=>e.block k (zT j h.his) fun i=>by have:=m k i;omega) (zd _) (zF h.his e.size)
theorem mw.cells {w:World}{lo hi g d b:Nat}{c:aN}{l:List bZ}(h:mw w lo hi g d b c l):
 w.cell? ⟨g,0,none⟩=some (.int .i64 c.fm)/\w.cell? ⟨g,6,none⟩=some (.map (some d))/\w.cell? ⟨g,7,none⟩=some (.map (some b))/\w.cell? ⟨g,8,none⟩=some (tH c)/\w.cell? ⟨g,9,none⟩=some (qA c):=⟨h.blk.cell 0,h.blk.cell 6,h.blk.cell 7,h.blk.cell 8,h.blk.cell 9⟩
theorem mw.cfg {w:World}{lo hi g d b:Nat}{c:aN}{l:List bZ}(h:mw w lo hi g d b c l):
 w.cell? ⟨g,0,none⟩=some (.int .i64 c.fm)/\w.cell? ⟨g,1,none⟩=some (.int .u32 c.mg)/\w.cell? ⟨g,2,none⟩=some (.int .i64 c.fr)/\w.cell? ⟨g,3,none⟩=some (.int .i64 c.un)/\w.cell? ⟨g,4,none⟩=some (.int .i64 c.de)/\w.cell? ⟨g,5,none⟩=some (.int .i64 c.it):=⟨h.blk.cell 0,h.blk.cell 1,h.blk.cell 2,h.blk.cell 3,h.blk.cell 4,h.blk.cell 5⟩
def Dj :Value:= .agg #[.int .u64 0,.string ⟨#[]⟩,.string ⟨#[]⟩,.int .i64 0,.int .i64 0,.slice none 0 0,.int .i64 0]
theorem FK (w:World):(zeroValue 116).run prog w= .ok Dj w:=by kernel_rfl
theorem TR {w:World}{b:Nat}{c:aN}{l:List bZ}(n:jw w b (AW l))(h:cT c (aI l))(nm:ByteArray):
 (fG (aI l) nm=none/\∀V,jw V b (AW l)->(Instr.lookup 118 (.map (some b)) (.string nm) true).run prog V= .ok (.tuple #[Dj,.bool false]) V)\/
 ∃r∈l,r.1.name=nm/\fG (aI l) nm=some r.1/\∀V,jw V b (AW l)->(Instr.lookup 118 (.map (some b)) (.string nm) true).run prog V= .ok (.tuple #[r.2,.bool true]) V:=by
 rcases Cg h nm with⟨i,e⟩|⟨j,r,i,e,m,k⟩
 ·exact .inl ⟨e,fun V d=>KE d underlying118 zG (by simp[MapKept.IsKey]) i (FK V)⟩
 exact .inr ⟨r,xf e,m,k,fun V d=>Fx d underlying118 zG (by simp[MapKept.IsKey]) i⟩
theorem TS {w:World}{b:Nat}{c:aN}{l:List bZ}(o:jw w b (AX l))(h:cT c (aI l))(id:Nat):
 ((aI l).find? (fun e=>decide (e.id=id))=none/\∀V,jw V b (AX l)->(Instr.lookup 119 (.map (some b)) (.int .u64 id) true).run prog V= .ok (.tuple #[Dj,.bool false]) V)\/
 ∃r∈l,r.1.id=id/\(aI l).find? (fun e=>decide (e.id=id))=some r.1/\∀V,jw V b (AX l)->(Instr.lookup 119 (.map (some b)) (.int .u64 id) true).run prog V= .ok (.tuple #[r.2,.bool true]) V:=by
 rcases KG h id _ (fun _=>rfl)with⟨k,i⟩|⟨j,r,k,i,n,m⟩
 ·exact .inl ⟨i,fun V d=>KE d underlying119 Z2 (by simp[MapKept.IsKey]) k (FK V)⟩
 exact .inr ⟨r,xf i,n,m,fun V d=>Fx d underlying119 Z2 (by simp[MapKept.IsKey]) k⟩
theorem nK {w:World}{g:Nat}{t:TypeId}{e b d a3 a4 a5 c:Value}(h:af w g t #[e,b,d,a3,a4,a5,c]):
 w.cell? ⟨g,0,none⟩=some e/\w.cell? ⟨g,1,none⟩=some b/\w.cell? ⟨g,2,none⟩=some d/\w.cell? ⟨g,3,none⟩=some a3/\w.cell? ⟨g,4,none⟩=some a4/\w.cell? ⟨g,5,none⟩=some a5/\w.cell? ⟨g,6,none⟩=some c:=⟨h.cell 0,h.cell 1,h.cell 2,h.cell 3,h.cell 4,h.cell 5,h.cell 6⟩
def ssC (gr:Nat)(bv:Value)(nd:Nat)(fault:Int)(laid told aO:Nat):Array Value:= #[.pointer (some ⟨gr,0,none⟩),bv,.int .i64 nd,.int .i64 fault,.int .i64 laid,.int .i64 told,.int .i64 aO]
abbrev fp (w:World)(g gr:Nat)(bv:Value)(nd:Nat)(fault:Int)(laid told aO:Nat):Prop:=af w g 88 (ssC gr bv nd fault laid told aO)
theorem fp.parts {w:World}{g c:Nat}{e:Value}{d:Nat}{fault:Int}{laid b i:Nat}(h:fp w g c e d fault laid b i):
 w.cell? ⟨g,0,none⟩=some (.pointer (some ⟨c,0,none⟩))/\w.cell? ⟨g,1,none⟩=some e/\w.cell? ⟨g,2,none⟩=some (.int .i64 d)/\w.cell? ⟨g,3,none⟩=some (.int .i64 fault)/\w.cell? ⟨g,4,none⟩=some (.int .i64 laid)/\w.cell? ⟨g,5,none⟩=some (.int .i64 b)/\w.cell? ⟨g,6,none⟩=some (.int .i64 i):=⟨h.cell 0,h.cell 1,h.cell 2,h.cell 3,h.cell 4,h.cell 5,h.cell 6⟩
theorem fp.Dk {w:World}{g c:Nat}{e:Value}{d:Nat}{fault:Int}{laid b i:Nat}(h:fp w g c e d fault laid b i):
 w.frozen? ⟨g,1,none⟩=false/\w.frozen? ⟨g,2,none⟩=false/\w.frozen? ⟨g,3,none⟩=false/\w.frozen? ⟨g,4,none⟩=false/\w.frozen? ⟨g,5,none⟩=false/\w.frozen? ⟨g,6,none⟩=false:=⟨h.frozen 1,h.frozen 2,h.frozen 3,h.frozen 4,h.frozen 5,h.frozen 6⟩
theorem fp.IM {w:World}{g c:Nat}{i:Value}{d:Nat}{fault:Int}{laid b e:Nat}(h:fp w g c i d fault laid b e)(v:Value):fp (w.setCell ⟨g,1,none⟩ v) g c v d fault laid b e:=h.store rfl
theorem fp.TT {w:World}{g c:Nat}{d:Value}{i:Nat}{fault:Int}{laid b e:Nat}(h:fp w g c d i fault laid b e)(n:Nat):fp (w.setCell ⟨g,2,none⟩ (.int .i64 n)) g c d n fault laid b e:=h.store rfl
theorem fp.PU {w:World}{g c:Nat}{i:Value}{d:Nat}{fault:Int}{laid b j:Nat}(h:fp w g c i d fault laid b j)(e:Int):fp (w.setCell ⟨g,3,none⟩ (.int .i64 e)) g c i d e laid b j:=h.store rfl
theorem fp.Dl {w:World}{g c:Nat}{e:Value}{d:Nat}{fault:Int}{laid b i:Nat}(h:fp w g c e d fault laid b i)(n:Nat):fp (w.setCell ⟨g,4,none⟩ (.int .i64 n)) g c e d fault n b i:=h.store rfl
theorem fp.TU {w:World}{g b:Nat}{d:Value}{c:Nat}{fault:Int}{laid i e:Nat}(h:fp w g b d c fault laid i e)(n:Nat):fp (w.setCell ⟨g,5,none⟩ (.int .i64 n)) g b d c fault laid n e:=h.store rfl
theorem fp.TV {w:World}{g c:Nat}{e:Value}{d:Nat}{fault:Int}{laid b i:Nat}(h:fp w g c e d fault laid b i)(n:Nat):fp (w.setCell ⟨g,6,none⟩ (.int .i64 n)) g c e d fault laid b n:=h.store rfl
structure dJ (w:World)(lo hi g:Nat)(bv:Value)(c:aN)(l:List bC)(x:eU)(aO:Nat):Prop where
 lohi:lo<=hi
 Ho:hi<=g
 reg:∃gr gn gi rows nd,mw w lo hi gr gn gi c rows/\aI rows=l/\fp w g gr bv nd x.fault x.laid x.told aO/\(x.fault=0->iQ c x.buf nd)
 buf:bL w hi 5 bv x.buf.data.toList
theorem dJ.lt {w:World}{lo hi g:Nat}{b:Value}{c:aN}{l:List bC}{x:eU}{e:Nat}(h:dJ w lo hi g b c l x e):g<w.heap.size:=by obtain⟨_,_,_,_,_,_,_,d,_⟩:=h.reg;exact d.lt
theorem dJ.own {w:World}{lo hi g:Nat}{b:Value}{c:aN}{l:List bC}{x:eU}{e:Nat}(h:dJ w lo hi g b c l x e):∀k,b.ownBlock=some k->hi<=k/\k<w.heap.size:=fun k d=>⟨(h.buf.ge k d).1,(h.buf.ge k d).2.1⟩
theorem dJ.ag {w w':World}{lo hi g:Nat}{j:Value}{c:aN}{l:List bC}{x:eU}{m:Nat}(h:dJ w lo hi g j c l x m)(hz:w.heap.size<=w'.heap.size)(d:∀k,k<w.heap.size->(lo<=k/\k<hi)\/k=g\/j.ownBlock=some k->w'.heap[k]?=w.heap[k]?):dJ w' lo hi g j c l x m:=by
 obtain⟨q,o,u,rows,r,i,p,n,y⟩:=h.reg;refine⟨h.lohi,h.Ho,⟨q,o,u,rows,r,i.ag (fun k a b=>d k (zT b i.his) (.inl ⟨a,b⟩)) (zd _) (zF i.his hz),p,(d g n.lt (.inr (.inl rfl))).trans n,y⟩,h.buf.ag (fun k s e=>d k s (.inr (.inr e)))⟩
theorem dJ.only {w w':World}{lo hi g:Nat}{i:Value}{c:aN}{l:List bC}{x:eU}{m:Nat}{L:List Nat}(h:dJ w lo hi g i c l x m)(j:ae L w w')(o:∀k,k∈L->¬(lo<=k/\k<hi)/\k≠g/\i.ownBlock≠some k):dJ w' lo hi g i c l x m:=
 h.ag j.size fun k p e=>j.block k p fun n=>by
  obtain⟨a,b,d⟩:=o k n;rcases e with e|e|e
  ·exact a e
  ·exact b e
  exact d e
theorem dJ.below {w w':World}{lo hi g:Nat}{b:Value}{c:aN}{l:List bC}{x:eU}{d:Nat}(h:dJ w lo hi g b c l x d)(e:Below w.heap.size w w'):dJ w' lo hi g b c l x d:=h.only (ae.ah e (zd _)) (by simp)
theorem dJ.TW {w:World}{lo hi g:Nat}{b:Value}{c:aN}{l:List bC}{x:eU}{d:Nat}(h:dJ w lo hi g b c l x d):∀k∈mH g b,hi<=k/\k<w.heap.size:=by
 intro k i;rcases iR.1 i with rfl|e
 ·exact⟨h.Ho,h.lt⟩
 exact h.own k e
theorem vL (lo hi g:Nat)(k:Value)(c:aN)(l:List bC)(x:eU)(m:Nat)(w:World)(h:dJ w lo hi g k c l x m):
 Calls prog 17 #[.pointer (some ⟨g,0,none⟩)] w fun e w'=>e= .returned (.string x.buf)/\w=w':=by
 obtain⟨_,_,_,_,_,_,_,i,_⟩:=h.reg;have b:=h.buf;have d:=b.form;rw[aa]at d;obtain⟨A,cap,rfl,_,_⟩:=d;obtain⟨_,s,r,o,q,n,p⟩:=i.parts;have j:=bL.EV (P:=prog) (src:=31) (dst:=9) zr yb zG b;rw[iJ]at j;clear i h b;go_enter func17,ntmps17
 go_wp2;go_ret;exact⟨rfl,rfl⟩
theorem s6 (lo hi g:Nat)(i:Value)(c:aN)(l:List bC)(x:eU)(j:Nat)(w:World)(h:dJ w lo hi g i c l x j):
 Calls prog 21 #[.pointer (some ⟨g,0,none⟩)] w fun e w'=>e= .returned (.int .i64 (x.laid:Nat))/\w=w':=by
 obtain⟨_,_,_,_,_,_,_,d,_⟩:=h.reg;have b:=h.buf.form;rw[aa]at b;obtain⟨A,cap,rfl,_,_⟩:=b;obtain⟨_,q,p,m,o,k,n⟩:=d.parts;clear d h;go_enter func21,ntmps21
 go_wp2;go_ret;exact⟨rfl,rfl⟩
