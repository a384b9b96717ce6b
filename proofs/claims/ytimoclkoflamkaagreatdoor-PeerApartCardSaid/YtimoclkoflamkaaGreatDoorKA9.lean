/- A config, or a frame, that came in as an argument. -/
import Derived.ProofKit
import Derived.OpenShut
import Derived.ShutString
import Derived.Test.YtimoclkoflamkaaGreatDoorKA8
set_option linter.all false
set_option maxRecDepth 100000
set_option maxHeartbeats 1000000
open Go.Proofs.Tryz
namespace Go.Proofs.YtimoclkoflamkaaGreatDoor
open Go.ChangeShapes Go.WideShapes Go.ChangeAt Go.RowKit
variable {w w' a:World}{g sent hi e d i j base k sz:Nat}{l:List bj}{x:iZ}{fault n:Int}{T L X Y:List Nat}{v m:Value}{S:Nat->Prop}{acc:List Ms}{t:TypeId}{H:Type}{held:Bool}{P:Program}{f:FuncId}
def yE:=@underlying3
def Zb:=@DataW.trod_int
def Zs:=@Option.bind_eq_some_iff
def ZU:=@List.mem_range
def Z4:=@underlying61
def Z9:=@DataW.trod_struct
def aM.val (c:aM):Value:= .agg #[.int .i64 c.fm,.int .u32 c.mg,.int .i64 c.fr,.int .i64 c.un,.int .i64 c.de,.int .i64 c.it]
def Fr.val (f:Fr):Value:= .agg #[.int .u64 f.id,.string f.nm,.string f.body]
structure aM.ok (c:aM):Prop where
 fm: -9223372036854775808<=c.fm/\c.fm<=9223372036854775807
 mg:c.mg<4294967296
 fr: -9223372036854775808<=c.fr/\c.fr<=9223372036854775807
 un: -9223372036854775808<=c.un/\c.un<=9223372036854775807
 de: -9223372036854775808<=c.de/\c.de<=9223372036854775807
 it: -9223372036854775808<=c.it/\c.it<=9223372036854775807
structure Fr.ok (f:Fr):Prop where
 id:f.id<18446744073709551616
 nm:f.nm.size<=9223372036854775807
 body:f.body.size<=9223372036854775807
theorem wf_i64 (h:(Lit.int .i64 n).wf=true): -9223372036854775808<=n/\n<=9223372036854775807:=by simpa[Lit.wf,IntKind.min,IntKind.max,IntKind.signed,IntKind.bits]using h
theorem wf_u32 (h:(Lit.int .u32 n).wf=true):∃k:Nat,n=(k:Int)/\k<4294967296:=by
 have b:0<=n/\n<=4294967295:=by simpa[Lit.wf,IntKind.min,IntKind.max,IntKind.signed,IntKind.bits]using h
 exact⟨n.toNat,by omega,by omega⟩
theorem wf_u64 (h:(Lit.int .u64 n).wf=true):∃k:Nat,n=(k:Int)/\k<18446744073709551616:=by
 have b:0<=n/\n<=18446744073709551615:=by simpa[Lit.wf,IntKind.min,IntKind.max,IntKind.signed,IntKind.bits]using h
 exact⟨n.toNat,by omega,by omega⟩
theorem Fz :prog.cellsOf 24=6:=by kernel_rfl
theorem C2 :prog.cellsOf 3=1:=by kernel_rfl
theorem C3 :prog.cellsOf 22=1:=by kernel_rfl
theorem C4 :prog.cellsOf 61=1:=by kernel_rfl
theorem C5 :prog.cellsOf 9=1:=by kernel_rfl
theorem PF {enc:TypeId×Value->H}{spare:Nat->Bool}(A:Nat)(o:List Value)(x:DataW H×List MemPlace)(h:DataW.trod enc prog w base spare held A 24 o=some x):
 ∃c:aM,o= [.int .i64 c.fm,.int .u32 c.mg,.int .i64 c.fr,.int .i64 c.un,.int .i64 c.de,.int .i64 c.it]/\c.ok:=by
 obtain⟨xs,n,rfl,_,r,B,b⟩:=Z9 underlying24 h;rw[Fz]at r;match o,r with
 | [c0,c1,c2,c3,c4,c5],_=>
  have l:DataW.trod enc prog w base spare held n 3 ((([c0,c1,c2,c3,c4,c5]:List Value).drop 0).take (prog.cellsOf 3))=xs[0]?:=b 0 _ rfl;have j:DataW.trod enc prog w base spare held n 22 ((([c0,c1,c2,c3,c4,c5]:List Value).drop 1).take (prog.cellsOf 22))=xs[1]?:=b 1 _ rfl;have d:DataW.trod enc prog w base spare held n 3 ((([c0,c1,c2,c3,c4,c5]:List Value).drop 2).take (prog.cellsOf 3))=xs[2]?:=b 2 _ rfl;have m:DataW.trod enc prog w base spare held n 3 ((([c0,c1,c2,c3,c4,c5]:List Value).drop 3).take (prog.cellsOf 3))=xs[3]?:=b 3 _ rfl;have e:DataW.trod enc prog w base spare held n 3 ((([c0,c1,c2,c3,c4,c5]:List Value).drop 4).take (prog.cellsOf 3))=xs[4]?:=b 4 _ rfl;have i:DataW.trod enc prog w base spare held n 3 ((([c0,c1,c2,c3,c4,c5]:List Value).drop 5).take (prog.cellsOf 3))=xs[5]?:=b 5 _ rfl;have D:xs.length=6:=B;rw[zA (by omega)]at l j d m e i;rw[C2]at l d m e i;rw[C3]at j;simp only[zL,zR,yv,ya]at l j d m e i;obtain⟨i0,p,_,g0⟩:=Zb yE l;obtain⟨i1,u,_,g1⟩:=Zb underlying22 j;obtain⟨i2,q,_,g2⟩:=Zb yE d;obtain⟨i3,s,_,g3⟩:=Zb yE m;obtain⟨i4,z,_,g4⟩:=Zb yE e;obtain⟨i5,y,_,g5⟩:=Zb yE i;simp at p u q s z y;subst p;subst u;subst q;subst s;subst z;subst y;obtain⟨k,rfl,C⟩:=wf_u32 g1;exact⟨⟨i0,k,i2,i3,i4,i5⟩,rfl,wf_i64 g0,C,wf_i64 g2,wf_i64 g3,wf_i64 g4,wf_i64 g5⟩
theorem MG {enc:TypeId×Value->H}{r:Reach}{spare:Nat->Bool}{d:DataW H}{h:List MemPlace}(i:Value.okWide prog w r k 24 v)(hd:DataW.Trod enc prog w base spare held 24 v d h):
 ∃c:aM,v=c.val/\c.ok:=by
 obtain⟨e,rfl,_⟩:=okWide_struct underlying24 i;obtain⟨j,m⟩:=hd;obtain⟨c,b,l⟩:=PF j _ _ m;refine⟨c, ?_,l⟩;have b:e.toList= [.int .i64 c.fm,.int .u32 c.mg,.int .i64 c.fr,.int .i64 c.un,.int .i64 c.de,.int .i64 c.it]:=b;have:e= #[.int .i64 c.fm,.int .u32 c.mg,.int .i64 c.fr,.int .i64 c.un,.int .i64 c.de,.int .i64 c.it]:=by cases e;simp at b;simp[b]
 rw[this];rfl
open Go.RowKit
def AE (c:aM):Value:= .agg #[c.de,c.it]
def tL (c:aM):Value:= .func (.func (if c.fm=1 then 63 else 61)) #[AE c] #[]
def qs (c:aM):Value:= .func (.func (if c.fm=1 then 64 else 62)) #[AE c] #[]
def rgC (c:aM)(gn gi:Nat)(vp vg:Value):Array Value:= #[c.fm,.int .u32 c.mg,c.fr,c.un,c.de,c.it,.map (some gn),.map (some gi),vp,vg]
def Vn (w:World)(S:Nat->Prop)(r:bX):Prop:=∃c0 c1 c2 c3,r.2= .agg #[.int .u64 r.1.id,r.1.name,r.1.ty,c0,c1,c2,c3]/\fX w S r.1.shape c0 c1 c2 c3
structure oC (e:bj):Prop where
 id:e.id<18446744073709551616
 name:e.name.size<=100
 ty:e.ty.size<=500
structure kV (w:World)(lo hi g gn gi:Nat)(c:aM)(l:List bX):Prop where
 blk:ag w g 123 (rgC c gn gi (tL c) (qs c))
 nm:jf w gn (Aw l)
 ix:jf w gi (AB l)
 n1:lo<=gn
 n2:gn<g
 i1:lo<=gi
 i2:gi<g
 ne:gn≠gi
 g2:g<hi
 his:hi<=w.heap.size
 rows:∀r∈l,Vn w (fun k=>g<k/\k<hi) r
 ok:cn c (aJ l)
 sz:∀r∈l,oC r.1
theorem Vn.ah {S':Nat->Prop}{r:bX}(h:Vn w S r)(hS:∀k,k<w.heap.size->S k->S' k)(b:∀p:Addr,p.block<w.heap.size->S p.block->w'.cell? p=w.cell? p):Vn w' S' r:=by
 obtain⟨d,j,i,c,e,h⟩:=h;exact⟨d,j,i,c,e,fX.ah hS b _ h⟩
theorem jf.ah {l:List (Value×Value)}(h:jf w g l)(b:w'.heap[g]?=w.heap[g]?):jf w' g l:=b.trans h
theorem kV.ah {c:aM}{l:List bX}(h:kV w e hi g d i c l)(b:∀k,e<=k->k<hi->w'.heap[k]?=w.heap[k]?)(m:hi<=j)(n:j<=w'.heap.size):kV w' e j g d i c l where
 blk:=(b g (by have:=h.n1;have:=h.n2;omega) h.g2).trans h.blk
 nm:=h.nm.ah (b d h.n1 (by have:=h.n2;have:=h.g2;omega))
 ix:=h.ix.ah (b i h.i1 (by have:=h.i2;have:=h.g2;omega))
 n1:=h.n1
 n2:=h.n2
 i1:=h.i1
 i2:=h.i2
 ne:=h.ne
 g2:=zQ h.g2 m
 his:=n
 rows:=fun r o=>(h.rows r o).ah (fun k _ hS=>⟨hS.1,zQ hS.2 m⟩) fun p _ hS=>zB (b _ (by have:=h.n1;have:=h.n2;have:=hS.1;omega) hS.2)
 ok:=h.ok
 sz:=h.sz
theorem kV.below {c:aM}{l:List bX}(h:kV w e hi g d i c l)(b:Below hi w w'):kV w' e hi g d i c l:=h.ah (fun k _ j=>b.block k j) (zd _) (zG h.his b.size)
theorem kV.only {b:Nat}{c:aM}{l:List bX}(h:kV w b hi g e i c l)(d:ae L w w')(m:∀k∈L,k<b\/hi<=k):kV w' b hi g e i c l:=
 h.ah (fun k o j=>d.block k (zQ j h.his) fun n=>by have:=m k n;omega) (zd _) (zG h.his d.size)
theorem kV.grow {c:aM}{l:List bX}(h:kV w e hi g d i c l)(b:Below w.heap.size w w'):kV w' e w'.heap.size g d i c l:=
 h.ah (fun k _ j=>b.block k (zQ j h.his)) (zG h.his b.size) (zd _)
theorem kV.cells {b:Nat}{c:aM}{l:List bX}(h:kV w e hi g b d c l):
 (w,g,0,c.fm)/\(w,g,6,Value.map (some b))/\(w,g,7,Value.map (some d))/\w.cell? (g,8)=some (tL c)/\w.cell? (g,9)=some (qs c):=⟨h.blk.cell 0,h.blk.cell 6,h.blk.cell 7,h.blk.cell 8,h.blk.cell 9⟩
theorem kV.cfg {b:Nat}{c:aM}{l:List bX}(h:kV w d hi g b e c l):
 (w,g,0,c.fm)/\(w,g,1,Value.int .u32 c.mg)/\(w,g,2,c.fr)/\(w,g,3,c.un)/\(w,g,4,c.de)/\(w,g,5,c.it):=⟨h.blk.cell 0,h.blk.cell 1,h.blk.cell 2,h.blk.cell 3,h.blk.cell 4,h.blk.cell 5⟩
def C6 :Value:= .agg #[.int .u64 0,eS,eS,(0:Int),(0:Int),nS,(0:Int)]
theorem FA (w:World):(zeroValue 126).run prog w= .ok C6 w:=by kernel_rfl
theorem Tw {b:Nat}{c:aM}{l:List bX}(n:jf w b (Aw l))(h:cn c (aJ l))(nm:ByteArray):
 (fA (aJ l) nm=none/\∀V,jf V b (Aw l)->(Instr.lookup 116 (.map (some b)) nm true).run prog V= .ok (.tuple #[C6,false]) V)\/
 ∃r∈l,r.1.name=nm/\fA (aJ l) nm=some r.1/\∀V,jf V b (Aw l)->(Instr.lookup 116 (.map (some b)) nm true).run prog V= .ok (.tuple #[r.2,true]) V:=by
 rcases BR h nm with⟨i,d⟩|⟨j,r,i,d,k,m⟩
 ·exact .inl ⟨d,fun V e=>Ks e underlying116 zM (by simp[MapKept.IsKey]) i (FA V)⟩
 exact .inr ⟨r,xh d,k,m,fun V e=>Fi e underlying116 zM (by simp[MapKept.IsKey]) i⟩
theorem Tx {b:Nat}{c:aM}{l:List bX}(o:jf w b (AB l))(h:cn c (aJ l))(id:Nat):
 ((aJ l).find? (fun e=>decide (e.id=id))=none/\∀V,jf V b (AB l)->(Instr.lookup 117 (.map (some b)) (.int .u64 id) true).run prog V= .ok (.tuple #[C6,false]) V)\/
 ∃r∈l,r.1.id=id/\(aJ l).find? (fun e=>decide (e.id=id))=some r.1/\∀V,jf V b (AB l)->(Instr.lookup 117 (.map (some b)) (.int .u64 id) true).run prog V= .ok (.tuple #[r.2,true]) V:=by
 rcases Ku h id _ (fun _=>rfl)with⟨k,d⟩|⟨j,r,k,d,m,n⟩
 ·exact .inl ⟨d,fun V i=>Ks i underlying117 Z4 (by simp[MapKept.IsKey]) k (FA V)⟩
 exact .inr ⟨r,xh d,m,n,fun V i=>Fi i underlying117 Z4 (by simp[MapKept.IsKey]) k⟩
theorem ni {c b d a3 a4 a5 e:Value}(h:ag w g t #[c,b,d,a3,a4,a5,e]):
 (w,g,0,c)/\(w,g,1,b)/\(w,g,2,d)/\(w,g,3,a3)/\(w,g,4,a4)/\(w,g,5,a5)/\(w,g,6,e):=⟨h.cell 0,h.cell 1,h.cell 2,h.cell 3,h.cell 4,h.cell 5,h.cell 6⟩
def ssC (gr:Nat)(bv:Value)(nd:Nat)(fault:Int)(laid told sent:Nat):Array Value:= #[(gr,0),bv,nd,fault,laid,told,sent]
abbrev fg (w:World)(g gr:Nat)(bv:Value)(nd:Nat)(fault:Int)(laid told sent:Nat):Prop:=ag w g 101 (ssC gr bv nd fault laid told sent)
theorem fg.parts {b:Nat}{d:Value}{laid c:Nat}(h:fg w g b d e fault laid c sent):
 (w,g,0,b,0)/\(w,g,1,d)/\(w,g,2,e)/\(w,g,3,fault)/\(w,g,4,laid)/\(w,g,5,c)/\(w,g,6,sent):=⟨h.cell 0,h.cell 1,h.cell 2,h.cell 3,h.cell 4,h.cell 5,h.cell 6⟩
theorem fg.C7 {b:Nat}{d:Value}{laid c:Nat}(h:fg w g b d e fault laid c sent):
 w.frozen? (g,1)=false/\w.frozen? (g,2)=false/\w.frozen? (g,3)=false/\w.frozen? (g,4)=false/\w.frozen? (g,5)=false/\w.frozen? (g,6)=false:=⟨h.frozen 1,h.frozen 2,h.frozen 3,h.frozen 4,h.frozen 5,h.frozen 6⟩
theorem fg.II {b:Nat}{e:Value}{laid c:Nat}(h:fg w g b e d fault laid c sent)(v:Value):fg (w.setCell (g,1) v) g b v d fault laid c sent:=h.store rfl
theorem fg.Tz {b:Nat}{d:Value}{laid c:Nat}(h:fg w g b d e fault laid c sent)(n:Nat):fg (w.setCell (g,2) n) g b d n fault laid c sent:=h.store rfl
theorem fg.PG {b:Nat}{d:Value}{laid c:Nat}(h:fg w g b d i fault laid c sent)(e:Int):fg (w.setCell (g,3) e) g b d i e laid c sent:=h.store rfl
theorem fg.C8 {b:Nat}{d:Value}{laid c:Nat}(h:fg w g b d e fault laid c sent)(n:Nat):fg (w.setCell (g,4) n) g b d e fault n c sent:=h.store rfl
theorem fg.TA {b:Nat}{c:Value}{laid:Nat}(h:fg w g b c d fault laid e sent)(n:Nat):fg (w.setCell (g,5) n) g b c d fault laid n sent:=h.store rfl
theorem fg.TB {b:Nat}{d:Value}{laid c:Nat}(h:fg w g b d e fault laid c sent)(n:Nat):fg (w.setCell (g,6) n) g b d e fault laid c n:=h.store rfl
structure fq (w:World)(lo hi g:Nat)(bv:Value)(c:aM)(l:List bj)(x:iZ)(sent:Nat):Prop where
 lohi:lo<=hi
 GS:hi<=g
 reg:∃gr gn gi rows nd,kV w lo hi gr gn gi c rows/\aJ rows=l/\fg w g gr bv nd x.fault x.laid x.told sent/\(x.fault=0->iJ c x.buf nd)
 buf:bP w hi 5 bv x.buf.data.toList
theorem fq.lt {b:Value}{c:aM}(h:fq w d hi g b c l x sent):g<w.heap.size:=by obtain⟨_,_,_,_,_,_,_,e,_⟩:=h.reg;exact e.lt
theorem fq.own {d:Value}{c:aM}(h:fq w e hi g d c l x sent):∀k,d.ownBlock=some k->hi<=k/\k<w.heap.size:=fun k b=>⟨(h.buf.ge k b).1,(h.buf.ge k b).2.1⟩
theorem fq.ah {d:Value}{c:aM}(h:fq w i hi g d c l x sent)(hz:w.heap.size<=w'.heap.size)(j:∀k,k<w.heap.size->(i<=k/\k<hi)\/k=g\/d.ownBlock=some k->w'.heap[k]?=w.heap[k]?):fq w' i hi g d c l x sent:=by
 obtain⟨r,q,s,rows,p,m,o,n,y⟩:=h.reg;refine⟨h.lohi,h.GS,⟨r,q,s,rows,p,m.ah (fun k a b=>j k (zQ b m.his) (.inl ⟨a,b⟩)) (zd _) (zG m.his hz),o,(j g n.lt (.inr (.inl rfl))).trans n,y⟩,h.buf.ah (fun k u e=>j k u (.inr (.inr e)))⟩
theorem fq.only {i:Value}{c:aM}(h:fq w j hi g i c l x sent)(m:ae L w w')(n:∀k,k∈L->¬(j<=k/\k<hi)/\k≠g/\i.ownBlock≠some k):fq w' j hi g i c l x sent:=
 h.ah m.size fun k p e=>m.block k p fun o=>by
  obtain⟨a,b,d⟩:=n k o;rcases e with e|e|e
  ·exact a e
  ·exact b e
  exact d e
theorem fq.below {b:Value}{c:aM}(h:fq w d hi g b c l x sent)(e:Below w.heap.size w w'):fq w' d hi g b c l x sent:=h.only (ae.ai e (zd _)) (by simp)
theorem fq.C9 {lo:Nat}{bv:Value}{c:aM}(h:fq w lo hi g bv c l x sent):∀k∈rF g bv,hi<=k/\k<w.heap.size:=by
 intro k hk;rcases eT.1 hk with rfl|e
 ·exact⟨h.GS,h.lt⟩
 exact h.own k e
structure oD (S:Nat->Prop)(w w':World):Prop where
 os:w'.os=w.os
 tape:w'.tape=w.tape
 output:w'.output=w.output
 size:w.heap.size<=w'.heap.size
 block:∀k,k<w.heap.size->¬S k->w'.heap[k]?=w.heap[k]?
theorem oD.of (h:ae L w w')(d:∀k∈L,S k):oD S w w':=⟨h.os,h.tape,h.output,h.size,fun k c e=>h.block k c fun b=>e (d k b)⟩
theorem oD.trans {b c:World}(h:oD S a b)(k:oD S b c):oD S a c:=⟨k.os.trans h.os,k.tape.trans h.tape,k.output.trans h.output,zG h.size k.size,fun i hi d=>(k.block i (zQ hi h.size) d).trans (h.block i hi d)⟩
theorem oD.below (h:oD S w w'){B:Nat}(d:B<=w.heap.size)(hS:∀k,S k->B<=k):Below B w w':=⟨h.os,h.tape,h.output,h.size,fun k c=>h.block k (by omega) fun b=>by have:=hS k b;omega⟩
structure St (w:World)(lo hi g uE:Nat)(bv av:Value)(c:aM)(l:List bj)(x:iZ)(sent:Nat)(acc:List Ms):Prop where
 s:fq w lo hi g bv c l x sent
 a:bL w (fun i=>uE<=i/\bv.ownBlock≠some i) uE acc av
 lo:uE<=w.heap.size
 g3:g<uE
 ob:∀k,bv.ownBlock=some k->uE<=k
theorem St.new {b:Nat}{c:aM}(h:fq w b hi g nS c l x sent):St w b hi g w.heap.size nS nS c l x sent []:=
 ⟨h,bL.nil _ _ _,zd _,h.lt,fun k e=>by cases e⟩
structure FdM (wr w:World)(lo hi g uE:Nat)(bv av rv:Value)(c:aM)(l:List bj)(x:iZ)(sent:Nat)(acc fs:List Ms):Prop where
 s:fq w lo hi g bv c l x sent
 a:bL w (fun i=>uE<=i/\bv.ownBlock≠some i) uE acc av
 r:bL w (fun i=>wr.heap.size<=i/\bv.ownBlock≠some i) wr.heap.size fs rv
 lr:uE<=wr.heap.size
 g3:g<uE
 ob:∀k,bv.ownBlock=some k->uE<=k
 kp:oD (fun k=>uE<=k\/k=g) wr w
 sep:∀k,av.ownBlock=some k->¬(wr.heap.size<=k/\bv.ownBlock≠some k)
theorem St.kK {wr:World}{n:Nat}{b o rv:Value}{c:aM}{y:iZ}{s:List Ms}(h:St wr n hi g d b o c l x sent acc)
 (B:bL w (fun j=>wr.heap.size<=j/\m.ownBlock≠some j) wr.heap.size s rv) (C:fq w n hi g m c l y sent) (r:ae (rF g b) wr w) (q:∀k,m.ownBlock=some k->b.ownBlock=some k\/wr.heap.size<=k):
 FdM wr w n hi g d m o rv c l y sent acc s:=by
 have z:=h.lo;have u:∀i,o.ownBlock=some i->i∉rF g b:=fun i e A=>by
  obtain⟨t1,t2,H,t3⟩:=h.a.typed i e;have G:=h.g3;rcases eT.1 A with e1|e1
  ·omega
  exact h.s.buf.cx t3 (by decide) e1
 have D:=h.a.ef (S1:=fun i=>(d<=i/\b.ownBlock≠some i)/\m.ownBlock≠some i) (fun i hi hS=>⟨hS,fun e=>by
  rcases q i e with h|h
  ·exact hS.2 h
  omega⟩) (zd d)
 have E:=D.only r (fun i hi hS=>by
  have G:=h.g3;rcases eT.1 hi with e|e
  ·have:=hS.1.1;omega
  exact hS.1.2 e) (fun i hi e=>u i e hi)
 refine⟨C,E.ef (fun i _ hS=>⟨hS.1.1,hS.2⟩) (zd d),B,z,h.g3,fun k e=> ?_,oD.of r fun k F=> ?_,fun k e=> ?_⟩
 ·rcases q k e with p|p
  ·exact h.ob k p
  omega
 ·rcases eT.1 F with e|e
  ·exact .inr e
  exact .inl (h.ob k e)
 have:=(h.a.ge k e).2;intro p;omega
theorem St.low {o:Nat}{n:Value}{c:aM}(h:St w i hi g o m n c l x sent acc)(d:ae L w w')(j:∀k∈L,k<i):St w' i hi g o m n c l x sent acc:=by
 have q:=h.s.lohi;have p:=h.s.GS;have r:=h.g3;exact⟨h.s.only d (fun k b=>by have:=j k b;exact⟨by omega,by omega,fun e=>by have:=h.ob k e;omega⟩),h.a.only d (fun k b hS=>by have:=j k b;omega) (fun k b e=>by have:=j k b;have:=(h.a.ge k e).1;omega),zG h.lo d.size,h.g3,h.ob⟩
theorem St.below {b e:Value}{c:aM}(h:St w d hi g i b e c l x sent acc)(j:Below w.heap.size w w'):St w' d hi g i b e c l x sent acc:=h.low (ae.ai j (zd _)) (by simp)
def iU {α:Type}(f:Nat->α)(i:Nat)(a:α):Nat->α:=fun j=>if j=i then a else f j
theorem dO {b:Type}(f:Nat->b)(i:Nat)(a:b):iU f i a i=a:=by simp[iU]
theorem bW {b:Type}(f:Nat->b)(a:b)(h:j≠i):iU f i a j=f j:=by simp[iU,h]
structure mw where
 lo:Nat->Nat
 hi:Nat->Nat
 g:Nat->Nat
 p:Nat
 base:Nat
 room:Nat
 rl:room<=1048576
structure gC where
 x:Nat->iZ
 sent:Nat->Nat
 way:Nat->ByteArray
 got:Nat->List Ms
def FB (V:Nat->Value):Prop:=∀i j k,i<6->j<6->(V i).ownBlock=some k->(V j).ownBlock=some k->i=j
theorem FB.iU {V:Nat->Value}(h:FB V)(n:∀j k,j<6->(V j).ownBlock=some k->k<sz)(p:∀k,v.ownBlock=some k->(V i).ownBlock=some k\/sz<=k):FB (iU V i v):=by
 intro a b k l m d c;by_cases o:a=i
 ·subst o;by_cases e:b=a
  ·exact e.symm
  rw[dO]at d;rw[bW _ _ e]at c;rcases p k d with h3|h3
  ·exact h a b k l m h3 c
  have:=n b k m c;omega
 rw[bW _ _ o]at d;by_cases e:b=i
 ·subst e;rw[dO]at c;rcases p k c with h3|h3
  ·exact h a b k l m d h3
  have:=n a k l d;omega
 rw[bW _ _ e]at c;exact h a b k l m d c
def jH (base:Nat)(Fr:Nat->Prop)(V:Nat->Value)(k:Nat):Prop:=base<=k/\¬Fr k/\∀i,i<6->(V i).ownBlock≠some k
theorem jH.iU {Fr:Nat->Prop}{V:Nat->Value}(h:jH base Fr V k)(l:k<sz)(d:∀k,v.ownBlock=some k->(V i).ownBlock=some k\/sz<=k)(hi:i<6):jH base Fr (iU V i v) k:=by
 refine⟨h.1,h.2.1,fun j c e=> ?_⟩;by_cases b:j=i
 ·subst b;rw[dO]at e;rcases d k e with h3|h3
  ·exact h.2.2 j c h3
  omega
 rw[bW _ _ b]at e;exact h.2.2 j c e
def gX (L:mw)(V:Nat->Value):Array Value:= #[(L.g 0,0),V 2,V 4,(L.g 1,0),V 3,V 5,L.room]
structure gT (w:World)(L:mw)(V:Nat->Value)(Fr:Nat->Prop)(c:aM)(l:List bj)(D:gC):Prop where
 blk:ag w L.p 80 (gX L V)
 ses:∀i,i<2->fq w (L.lo i) (L.hi i) (L.g i) (V i) c l (D.x i) (D.sent i)
 way:∀i,i<2->Way w L.base 5 (V (2+i)) (D.way i).data.toList
 got:∀i,i<2->bL w (jH L.base Fr V) L.base (D.got i) (V (4+i))
 ob:∀i k,i<2->(V i).ownBlock=some k->L.base<=k
 apart:FB V
 frg:∀k,Fr k->L.base<=k/\k<w.heap.size/\∀j,j<6->(V j).ownBlock≠some k
 ord:L.p<L.lo 0/\L.g 0<L.lo 1/\L.g 1<L.base
 low:L.base<=w.heap.size
theorem gT.own {L:mw}{V:Nat->Value}{Fr:Nat->Prop}{c:aM}{D:gC}(h:gT w L V Fr c l D):∀j k,j<6->(V j).ownBlock=some k->L.base<=k/\k<w.heap.size:=by
 intro j k b e;rcases(by omega:j<2\/2<=j/\j<4\/4<=j)with h1|h1|h1
 ·exact⟨h.ob j k h1 e,((h.ses j h1).own k e).2⟩
 ·obtain⟨i,rfl⟩:∃i,j=2+i:=⟨j-2,by omega⟩
  have:=(h.way i (by omega)).ge k e;exact⟨this.1,this.2.1⟩
 obtain⟨i,rfl⟩:∃i,j=4+i:=⟨j-4,by omega⟩
 exact(h.got i (by omega)).ge k e
theorem gT.places {L:mw}{V:Nat->Value}{Fr:Nat->Prop}{c:aM}{D:gC}(h:gT w L V Fr c l D):L.p<L.lo 0/\L.lo 0<=L.hi 0/\L.hi 0<=L.g 0/\L.g 0<L.lo 1/\L.lo 1<=L.hi 1/\L.hi 1<=L.g 1/\L.g 1<L.base/\L.base<=w.heap.size:=by
 obtain⟨a,b,d⟩:=h.ord;exact⟨a,(h.ses 0 (by omega)).lohi,(h.ses 0 (by omega)).GS,b,(h.ses 1 (by omega)).lohi,(h.ses 1 (by omega)).GS,d,h.low⟩
theorem gT.rest {L:mw}{V:Nat->Value}{Fr:Nat->Prop}{c:aM}{D:gC}(h:gT w L V Fr c l D)(p:ae T w w')(j:Nat)(n:j<6)(v:Value)
 (q:∀k∈T,k<=L.p\/Fr k\/(j<2/\k=L.g j)\/(V j).ownBlock=some k) (r:∀k,v.ownBlock=some k->(V j).ownBlock=some k\/w.heap.size<=k):
 (∀i,i<2->i≠j->fq w' (L.lo i) (L.hi i) (L.g i) (V i) c l (D.x i) (D.sent i))/\(∀i,i<2->2+i≠j->Way w' L.base 5 (V (2+i)) (D.way i).data.toList)/\(∀i,i<2->4+i≠j->bL w' (jH L.base Fr (iU V j v)) L.base (D.got i) (V (4+i)))/\FB (iU V j v)/\(∀k,Fr k->L.base<=k/\k<w'.heap.size/\∀x,x<6->(iU V j v x).ownBlock≠some k):=by
 have B:=h.places;have o:=h.own;have d:=h.frg;have u:∀i,i<6->i≠j->∀k∈T,(V i).ownBlock≠some k:=fun i hi m k b e=>by
  have s:=o i k hi e;rcases q k b with h2|h2|⟨h2,h3⟩|h2
  ·omega
  ·exact(d k h2).2.2 i hi e
  ·rcases(by omega:j=0\/j=1)with rfl|rfl<;>omega
  exact m (h.apart i j k hi n e h2)
 refine⟨fun i hi m=>(h.ses i hi).only p fun k b=>⟨?_, ?_,u i (by omega) m k b⟩,fun i hi m=>(h.way i hi).ah fun k b e=>p.block k b fun z=>u _ (by omega) m k z e,fun i hi m=> ?_,h.apart.iU (fun i k hi e=>(o i k hi e).2) r,fun k b=>⟨(d k b).1,zQ (d k b).2.1 p.size,fun i hi e=> ?_⟩⟩
 ·intro A;rcases q k b with h2|h2|⟨h2,h3⟩|h2
  ·rcases(by omega:i=0\/i=1)with rfl|rfl<;>omega
  ·have:=(d k h2).1;rcases(by omega:i=0\/i=1)with rfl|rfl<;>omega
  ·rcases(by omega:i=0/\j=1\/i=1/\j=0)with⟨rfl,rfl⟩|⟨rfl,rfl⟩<;>omega
  have:=(o j k n h2).1;rcases(by omega:i=0\/i=1)with rfl|rfl<;>omega
 ·intro e;rcases q k b with h2|h2|⟨h2,h3⟩|h2
  ·rcases(by omega:i=0\/i=1)with rfl|rfl<;>omega
  ·have:=(d k h2).1;rcases(by omega:i=0\/i=1)with rfl|rfl<;>omega
  ·rcases(by omega:i=0/\j=1\/i=1/\j=0)with⟨rfl,rfl⟩|⟨rfl,rfl⟩<;>omega
  have:=(o j k n h2).1;rcases(by omega:i=0\/i=1)with rfl|rfl<;>omega
 ·refine((h.got i hi).ef (S1:=fun k=>jH L.base Fr (iU V j v) k/\(V j).ownBlock≠some k) (fun k b hS=>⟨hS.iU b r n,hS.2.2 j n⟩) (zd _)).only p (fun k b hS=> ?_) (fun k b=>u _ (by omega) m k b)|>.ef (fun _ _ hS=>hS.1) (zd _)
  rcases q k b with h2|h2|⟨h2,h3⟩|h2
  ·have:=hS.1.1;omega
  ·exact hS.1.2.1 h2
  ·have:=hS.1.1;rcases(by omega:j=0\/j=1)with rfl|rfl<;>omega
  exact hS.2 h2
 by_cases y:i=j
 ·subst y;rw[dO]at e;rcases r k e with s|s
  ·exact(d k b).2.2 i hi s
  have:=(d k b).2.1;omega
 rw[bW _ _ y]at e;exact(d k b).2.2 i hi e
theorem gT.IJ {L:mw}{V:Nat->Value}{Fr:Nat->Prop}{c:aM}{D:gC}(h:gT w L V Fr c l D)(j:ae T w w')(i:Nat)(hi:i<2)(v:Value)(x:iZ)(n:Nat)
 (o:∀k∈T,k<L.p\/Fr k\/k=L.g i\/(V i).ownBlock=some k) (m:∀k,v.ownBlock=some k->(V i).ownBlock=some k\/w.heap.size<=k) (s:fq w' (L.lo i) (L.hi i) (L.g i) v c l x n):
 gT w' L (iU V i v) Fr c l {D with x:=iU D.x i x,sent:=iU D.sent i n}:=by
 have y:=h.places;obtain⟨q,a2,a3,a4,a5⟩:=h.rest j i (by omega) v (fun k d=>by rcases o k d with a|a|a|a;exact .inl (by omega);exact .inr (.inl a);exact .inr (.inr (.inl ⟨hi,a⟩));exact .inr (.inr (.inr a))) m;have u:L.p∉T:=fun r=>by
  rcases o _ r with a|a|a|a
  ·omega
  ·have:=(h.frg _ a).1;omega
  ·rcases(by omega:i=0\/i=1)with rfl|rfl<;>omega
  have:=(h.own i _ (by omega) a).1;omega
 have hz:=j.size;refine⟨?_,fun k d=> ?_,fun k d=> ?_,fun k d=> ?_,fun k b d e=> ?_,a4,a5,h.ord,by omega⟩
 ·have:gX L (iU V i v)=gX L V:=by unfold gX;rw[bW,bW,bW,bW]<;>omega
  rw[this];exact(j.block _ h.blk.lt u).trans h.blk
 ·by_cases e:k=i
  ·subst e;rw[dO];simp only;rw[dO,dO];exact s
  rw[bW _ _ e];simp only;rw[bW _ _ e,bW _ _ e];exact q k d e
 ·rw[bW _ _ (by omega)];exact a2 k d (by omega)
 ·rw[bW _ _ (by omega)];exact a3 k d (by omega)
 by_cases p:k=i
 ·subst p;rw[dO]at e;rcases m b e with a|a
  ·exact h.ob k b d a
  omega
 rw[bW _ _ p]at e;exact h.ob k b d e
theorem gT.PH {L:mw}{V:Nat->Value}{Fr:Nat->Prop}{c:aM}{D:gC}(h:gT w L V Fr c l D)(j:ae T w w')(i:Nat)(hi:i<2)(v:Value)(b:ByteArray)
 (q:∀k∈T,k<=L.p\/Fr k\/(V (2+i)).ownBlock=some k) (o:∀k,v.ownBlock=some k->(V (2+i)).ownBlock=some k\/w.heap.size<=k) (m:ag w' L.p 80 (gX L (iU V (2+i) v))) (p:Way w' L.base 5 v b.data.toList):
 gT w' L (iU V (2+i) v) Fr c l {D with way:=iU D.way i b}:=by
 have r:=h.places;obtain⟨n,a2,a3,a4,a5⟩:=h.rest j (2+i) (by omega) v (fun k d=>by rcases q k d with a|a|a;exact .inl a;exact .inr (.inl a);exact .inr (.inr (.inr a))) o;have hz:=j.size;refine⟨m,fun k d=> ?_,fun k d=> ?_,fun k d=> ?_,fun k b d e=> ?_,a4,a5,h.ord,by omega⟩
 ·rw[bW _ _ (by omega)];exact n k d (by omega)
 ·by_cases e:k=i
  ·subst e;rw[dO];simp only;rw[dO];exact p
  rw[bW _ _ (by omega)];simp only;rw[bW _ _ e];exact a2 k d (by omega)
 ·rw[bW _ _ (by omega)];exact a3 k d (by omega)
 rw[bW _ _ (by omega)]at e;exact h.ob k b d e
theorem gT.WY {L:mw}{V:Nat->Value}{Fr:Nat->Prop}{c:aM}{D:gC}(h:gT w L V Fr c l D)(j:ae T w w')(i:Nat)(hi:i<2)(v:Value)(b:List Ms)
 (q:∀k∈T,k<=L.p\/Fr k\/(V (4+i)).ownBlock=some k) (o:∀k,v.ownBlock=some k->(V (4+i)).ownBlock=some k\/w.heap.size<=k) (m:ag w' L.p 80 (gX L (iU V (4+i) v))) (p:bL w' (jH L.base Fr (iU V (4+i) v)) L.base b v):
 gT w' L (iU V (4+i) v) Fr c l {D with got:=iU D.got i b}:=by
 have r:=h.places;obtain⟨n,a2,a3,a4,a5⟩:=h.rest j (4+i) (by omega) v (fun k d=>by rcases q k d with a|a|a;exact .inl a;exact .inr (.inl a);exact .inr (.inr (.inr a))) o;have hz:=j.size;refine⟨m,fun k d=> ?_,fun k d=> ?_,fun k d=> ?_,fun k b d e=> ?_,a4,a5,h.ord,by omega⟩
 ·rw[bW _ _ (by omega)];exact n k d (by omega)
 ·rw[bW _ _ (by omega)];exact a2 k d (by omega)
 ·by_cases e:k=i
  ·subst e;rw[dO];simp only;rw[dO];exact p
  rw[bW _ _ (by omega)];simp only;rw[bW _ _ e];exact a3 k d (by omega)
 rw[bW _ _ (by omega)]at e;exact h.ob k b d e
theorem nk {b:Type}(f:Nat->b)(i:Nat):iU f i (f i)=f:=by
 funext j;unfold iU;by_cases h:j=i
 ·subst h;simp
 simp[h]
theorem gT.only {L:mw}{V:Nat->Value}{Fr:Nat->Prop}{c:aM}{D:gC}(h:gT w L V Fr c l D)(d:ae T w w')(i:∀k∈T,k<L.p\/Fr k):gT w' L V Fr c l D:=by
 have j:=h.places;have:=h.IJ d 0 (by omega) (V 0) (D.x 0) (D.sent 0) (fun k b=>by rcases i k b with a|a;exact .inl a;exact .inr (.inl a)) (fun k e=> .inl e) ((h.ses 0 (by omega)).only d fun k b=>by
  rcases i k b with a|a
  ·exact⟨by omega,by omega,fun e=>by have:=(h.own 0 k (by omega) e).1;omega⟩
  have:=h.frg k a;exact⟨by omega,by omega,this.2.2 0 (by omega)⟩)
 rw[nk,nk,nk]at this;exact this
theorem gT.below {L:mw}{V:Nat->Value}{Fr:Nat->Prop}{c:aM}{D:gC}(h:gT w L V Fr c l D)(b:Below w.heap.size w w'):gT w' L V Fr c l D:=h.only (ae.ai b (zd _)) (by simp)
theorem gT.grow {L:mw}{V:Nat->Value}{Fr n:Nat->Prop}{c:aM}{D:gC}(h:gT w L V Fr c l D)(p:ae T w w')(o:∀k∈T,k<L.p\/Fr k)(hF:∀k,n k->(Fr k\/w.heap.size<=k)/\k<w'.heap.size):gT w' L V n c l D:=by
 have d:=h.only p o;have s:=h.places;refine⟨d.blk,d.ses,d.way,fun i hi=> ?_,d.ob,d.apart,fun k m=> ?_,d.ord,d.low⟩
 ·refine((h.got i hi).ef (S1:=fun k=>jH L.base n V k/\¬Fr k) (fun k m hS=>⟨⟨hS.1,fun r=> ?_,hS.2.2⟩,hS.2.1⟩) (zd _)).only p (fun k m hS=> ?_) (fun k m e=> ?_)|>.ef (fun _ _ hS=>hS.1) (zd _)
  ·rcases(hF k r).1 with a|a
   ·exact hS.2.1 a
   omega
  ·rcases o k m with a|a
   ·have:=hS.1.1;omega
   exact hS.2 a
  have:=h.own _ k (by omega) e;rcases o k m with a|a
  ·omega
  exact(h.frg k a).2.2 _ (by omega) e
 obtain⟨a|a,b⟩:=hF k m
 ·exact⟨(h.frg k a).1,b,(h.frg k a).2.2⟩
 exact⟨by omega,b,fun j q e=>by have:=(h.own j k q e).2;omega⟩
def jI (L:mw)(V:Nat->Value):List Nat:=L.p::L.g 0::L.g 1::(List.range 6).flatMap fun i=>(V i).ownBlock.toList
theorem cM {L:mw}{V:Nat->Value}:k∈jI L V↔k=L.p\/k=L.g 0\/k=L.g 1\/∃i,i<6/\(V i).ownBlock=some k:=by
 simp only[jI,yI,List.mem_flatMap,ZU,bV]
structure l6 (w w':World)(L:mw)(V V':Nat->Value)(X:List Nat):Prop where
 only:ae (X++jI L V) w w'
 own:∀i k,i<6->(V' i).ownBlock=some k->(V i).ownBlock=some k\/w.heap.size<=k
theorem l6.below {L:mw}{V:Nat->Value}(h:Below w.heap.size w w'):l6 w w' L V V X:=⟨(ae.ai h (zd _)).mono (by simp),fun _ _ _ e=> .inl e⟩
theorem l6.trans {b d:World}{L:mw}{V V' c:Nat->Value}(h:l6 a b L V V' X)(k:l6 b d L V' c Y)(l:∀i∈Y,i∈X\/a.heap.size<=i):l6 a d L V c X:=by
 refine⟨h.only.trans' k.only fun i hi=> ?_,fun i j hi e=> ?_⟩
 ·rcases yy.1 hi with e|e
  ·rcases l i e with e|e
   ·exact .inl (yy.2 (.inl e))
   exact .inr e
  rcases cM.1 e with e|e|e|⟨j,hj,e⟩
  ·exact .inl (yy.2 (.inr (cM.2 (.inl e))))
  ·exact .inl (yy.2 (.inr (cM.2 (.inr (.inl e)))))
  ·exact .inl (yy.2 (.inr (cM.2 (.inr (.inr (.inl e))))))
  rcases h.own j i hj e with e|e
  ·exact .inl (yy.2 (.inr (cM.2 (.inr (.inr (.inr ⟨j,hj,e⟩))))))
  exact .inr e
 rcases k.own i j hi e with e|e
 ·exact h.own i j hi e
 exact .inr (zG h.only.size e)
theorem l6.one {L:mw}{V:Nat->Value}(c:ae T w w')(i:Nat)(hi:i<6)(v:Value)(h:∀k∈T,k=L.p\/k=L.g 0\/k=L.g 1\/(V i).ownBlock=some k)(l:∀k,v.ownBlock=some k->(V i).ownBlock=some k\/w.heap.size<=k):l6 w w' L V (iU V i v) []:=by
 refine⟨c.mono fun k d=>cM.2 (by rcases h k d with e|e|e|e;exact .inl e;exact .inr (.inl e);exact .inr (.inr (.inl e));exact .inr (.inr (.inr ⟨i,hi,e⟩))),fun j k m e=> ?_⟩;by_cases b:j=i
 ·subst b;rw[dO]at e;exact l k e
 rw[bW _ _ b]at e;exact .inl e
theorem l6.wide {L:mw}{V V':Nat->Value}(h:l6 w w' L V V' X)(b:∀k∈X,k∈Y):l6 w w' L V V' Y:=⟨h.only.mono fun k c=>by
 rcases yy.1 c with e|e
 ·exact yy.2 (.inl (b k e))
 exact yy.2 (.inr e),h.own⟩
theorem ag.neT {c:Nat}{d:TypeId}{j i:Array Value}(h:ag w g t j)(b:ag w c d i)(e:t≠d):g≠c:=by
 rintro rfl;unfold ag at h b;rw[h]at b;injection b with b;injection b with _ ht;exact e ht
theorem gT.rR {L:mw}{V:Nat->Value}{Fr:Nat->Prop}{c:aM}{D:gC}(h:gT w L V Fr c l D){q:Array Value}(b:ag w k t q)(p:t≠80)(n:t≠101)(m:t≠5)(u:t≠30):k∉jI L V:=by
 have d:∀i,i<2->k≠L.g i:=fun i hi e=>by
  obtain⟨_,_,_,_,_,_,_,s,_⟩:=(h.ses i hi).reg;exact b.neT s n e
 intro o;rcases cM.1 o with e|e|e|⟨i,hi,e⟩
 ·exact b.neT h.blk p e
 ·exact d 0 (by omega) e
 ·exact d 1 (by omega) e
 rcases(by omega:i<2\/2<=i/\i<4\/4<=i)with a|a|a
 ·exact(h.ses i a).buf.cx b m e
 ·obtain⟨j,rfl⟩:∃j,i=2+j:=⟨i-2,by omega⟩
  exact(h.way j (by omega)).cx b m e
 obtain⟨j,rfl⟩:∃j,i=4+j:=⟨i-4,by omega⟩
 obtain⟨_,_,x,r⟩:=(h.got j (by omega)).typed k e;exact b.neT r u rfl
theorem gT.less {L:mw}{V:Nat->Value}{Fr b:Nat->Prop}{c:aM}{D:gC}(h:gT w L V b c l D)(hF:∀k,Fr k->b k):gT w L V Fr c l D:=
 ⟨h.blk,h.ses,h.way,fun i hi=>(h.got i hi).ef (fun k _ hS=>⟨hS.1,fun e=>hS.2.1 (hF k e),hS.2.2⟩) (zd _),h.ob,h.apart,fun k d=>h.frg k (hF k d),h.ord,h.low⟩
theorem gT.C9 {L:mw}{V:Nat->Value}{Fr:Nat->Prop}{c:aM}{D:gC}(h:gT w L V Fr c l D):∀k∈jI L V,L.p<=k:=by
 have hp:=h.places;intro k hk;rcases cM.1 hk with e|e|e|⟨i,hi,e⟩
 ·omega
 ·omega
 ·omega
 have:=(h.own i k hi e).1;omega
theorem bL.WZ {c:Nat->Prop}{b:Nat}(h:bL w c b acc v):bL w (fun k=>c k/\v.ownBlock≠some k) b acc v:=by
 obtain⟨i,e,d⟩:=h;exact⟨i,e,d.ah (fun _ _ h=>⟨h,h.2⟩) fun _ _ _=>rfl⟩
theorem dz {L:mw}{V:Nat->Value}(b:ag w L.p 80 (gX L V))(c:j<2):
 ((w,L.p,j*3,L.g j,0)/\(w,L.p,j*3+1,V (2+j))/\(w,L.p,j*3+2,V (4+j))/\(w,L.p,6,L.room))/\w.frozen? (L.p,j*3)=false/\w.frozen? (L.p,j*3+1)=false/\w.frozen? (L.p,j*3+2)=false:=by
 rcases(by omega:j=0\/j=1)with rfl|rfl
 ·exact⟨⟨b.cell 0,b.cell 1,b.cell 2,b.cell 6⟩,b.frozen 0,b.frozen 1,b.frozen 2⟩
 exact⟨⟨b.cell 3,b.cell 4,b.cell 5,b.cell 6⟩,b.frozen 3,b.frozen 4,b.frozen 5⟩
theorem gT.FC {L:mw}{V:Nat->Value}(h:ag w L.p 80 (gX L V))(b:j<2)(v:Value):ag (w.setCell (L.p,j*3+1) v) L.p 80 (gX L (iU V (2+j) v)):=by
 rcases(by omega:j=0\/j=1)with rfl|rfl<;>exact h.store (by simp[gX,iU])
theorem gT.PI {L:mw}{V:Nat->Value}(h:ag w L.p 80 (gX L V))(b:j<2)(v:Value):ag (w.setCell (L.p,j*3+2) v) L.p 80 (gX L (iU V (4+j) v)):=by
 rcases(by omega:j=0\/j=1)with rfl|rfl<;>exact h.store (by simp[gX,iU])
theorem cex {a:Array Value}{v:Ending}{c:Sort _}{Q:c->World->Prop}(h:Calls P f a w fun e w'=>∃x,e=v/\Q x w'):Calls P f a w fun e w'=>e=v/\∃x,Q x w':=h.mono fun _ _ ⟨x,a,b⟩=>⟨a,x,b⟩
theorem agu {a:Array Value}{v:Ending}{d c:Sort _}{Q:d->c->World->Prop}(h:Calls P f a w fun e w'=>∃x y,e=v/\Q x y w'):Calls P f a w fun e w'=>e=v/\∃x y,Q x y w':=h.mono fun _ _ ⟨x,y,a,b⟩=>⟨a,x,y,b⟩
theorem MH (p j:Nat)(l:j<2)(c d i nb:Nat)(w:World)(R:Int)(Q:World->Prop)(h:Calls prog 30 #[(p,j*3),(c,0),(d,0),(i,0),(nb,0)] w fun e w'=>e= .returned R/\Q w'):
 Calls prog 29 #[(p,0),j,.func (.func 30) #[] #[(c,0),(d,0),(i,0),(nb,0)]] w fun e w'=>e= .returned R/\Q w':=by
 have H:=za h;clear h;have m:(j:Int)=0\/(j:Int)=1:=by omega
 rcases(by omega:j=0\/j=1)with rfl|rfl;all_goals
  simp only[Nat.zero_mul,Nat.one_mul]at H;go_enter func29,ntmps29
  go_wp2_with fail
  refine cm H.out fun w' b=> ?_
  have k:=za b;clear b;go_wp2;go_ret;exact⟨rfl,k.out⟩
theorem MK (p j:Nat)(i:j<2)(nb b:Nat)(w:World)(R:Int)(Q:World->Prop)(h:Calls prog 33 #[(p,j*3),(nb,0),(b,0)] w fun e w'=>e= .returned R/\Q w'):
 Calls prog 29 #[(p,0),j,.func (.func 33) #[] #[(nb,0),(b,0)]] w fun e w'=>e= .returned R/\Q w':=by
 have H:=za h;clear h;have k:(j:Int)=0\/(j:Int)=1:=by omega
 rcases(by omega:j=0\/j=1)with rfl|rfl;all_goals
  simp only[Nat.zero_mul,Nat.one_mul]at H;go_enter func29,ntmps29
  go_wp2_with fail
  refine cm H.out fun w' c=> ?_
  have d:=za c;clear c;go_wp2;go_ret;exact⟨rfl,d.out⟩
theorem PJ (p j:Nat)(d:j<2)(nb:Nat)(w:World)(R:Int)(Q:World->Prop)(h:Calls prog 36 #[(p,j*3),(nb,0)] w fun e w'=>e= .returned R/\Q w'):
 Calls prog 29 #[(p,0),j,.func (.func 36) #[] #[(nb,0)]] w fun e w'=>e= .returned R/\Q w':=by
 have H:=za h;clear h;have i:(j:Int)=0\/(j:Int)=1:=by omega
 rcases(by omega:j=0\/j=1)with rfl|rfl;all_goals
  simp only[Nat.zero_mul,Nat.one_mul]at H;go_enter func29,ntmps29
  go_wp2_with fail
  refine cm H.out fun w' b=> ?_
  have c:=za b;clear b;go_wp2;go_ret;exact⟨rfl,c.out⟩
theorem ML (j hi g:Nat)(i:Value)(c:aM)(l:List bj)(x:iZ)(sent:Nat)(w:World)(h:fq w j hi g i c l x sent):
 Calls prog 34 #[(g,0)] w fun e w'=>e= .returned x.fault/\w=w':=by
 obtain⟨_,_,_,_,_,_,_,b,_⟩:=h.reg;have d:=h.buf.form;rw[aa]at d;obtain⟨A,cap,rfl,_,_⟩:=d;obtain⟨_,n,m,q,k,o,p⟩:=b.parts;clear b h;go_enter func34,ntmps34
 go_wp2;go_ret;exact⟨rfl,rfl⟩
theorem sS {b:Type}(Q:Nat->b->Prop):∀n,(∀i,i<n->∃y,Q i y)->∃l:List b,l.length=n/\∀i (h:i<l.length),Q i l[i]
 |0,_=>⟨[],rfl,by simp⟩
 |n+1,h=>by
  obtain⟨l,c,e⟩:=sS Q n fun i hi=>h i (by omega)
  obtain⟨y,j⟩:=h n (by omega);refine⟨l++ [y],by simp[c],fun i hi=> ?_⟩;by_cases d:i<l.length
  ·rw[xK d];exact e i d
  have:i=n:=by simp at hi;omega
  subst this;rw[List.getElem_append_right (by omega)];simpa[c]using j
theorem sT {a:Addr}{m:List Value}(h:w.cells? base a 3=some m):∃b d c,m= [b,d,c]/\w.cell? a=some b/\w.cell? (a.add 1)=some d/\w.cell? (a.add 2)=some c:=by
 unfold World.cells? at h;split at h
 ·have e:List.range 3= [0,1,2]:=rfl;rw[e]at h;simp only[List.mapM_cons,List.mapM_nil,Option.bind_eq_bind,Option.pure_def,Zs]at h;obtain⟨b,o,r,⟨d,p,s,⟨c,n,q,l,i⟩,k⟩,j⟩:=h;simp at l i k j;subst l;subst i;subst k;subst j;exact⟨b,d,c,rfl,by simpa[Addr.add]using o,p,n⟩
 cases h
theorem TC {a:Addr}(h:w.cell? a=some v):a.spot=none:=by
 unfold World.cell? at h;split at h
 ·split at h
  ·cases h
  rename_i b;simpa using b
 cases h
theorem TD {p:Addr}(h:w.cell? p=some v):p.block<w.heap.size:=by
 rcases xp p.block w.heap.size with h'|h'
 ·exact h'
 simp[World.cell?,xq h']at h
