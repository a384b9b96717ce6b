/- package registry: Config, Len, ByFrame, ByName. -/
import Derived.Test.YtdbmifjankgfpaaGreatDoorKA23
import Derived.Test.YtdbmifjankgfpaaGreatDoorKA28
set_option linter.all false
set_option maxRecDepth 100000
set_option maxHeartbeats 800000
open Go.Proofs.Tryz
namespace Go.Proofs.YtdbmifjankgfpaaGreatDoor
open Go.RowKit
variable {w:World}{base h:Nat}{H:Type}{held:Bool}{v:Value}{r:Reach}{d:DataW H}{a:Addr}
def Z2:=@DataW.trod_string
theorem Ly (o hi g p q:Nat)(c:aP)(l:List cg)(w:World)(h:mi w o hi g p q c l):
 Calls prog 35 #[.pointer (some ⟨g,0,none⟩)] w fun e w'=>e= .returned c.val/\Below w.heap.size w w':=by
 obtain⟨g0,g1,g2,g3,g4,g5⟩:=h.cfg;have r:g<w.heap.size:=zU h.g2 h.his;have b:=af.new w 24 #[.int .i64 c.fm,.int .u32 c.mg,.int .i64 c.fr,.int .i64 c.un,.int .i64 c.de,.int .i64 c.it];clear h;go_enter func35,ntmps35
 go_wp2;have n:=b.cell 0;have j:=b.cell 1;have m:=b.cell 2;have d:=b.cell 3;have k:=b.cell 4;have i:=b.cell 5;simp at n j m d k i;refine zk (v:=c.val) (by simp[aP.val,results,results35,go_sem,n,j,m,d,k,i]) rfl ?_;exact⟨rfl,bD⟩
open Go.ChangeShapes Go.WideShapes Go.ChangeAt Go.RowKit
structure wM (e:bz):Prop where
 id:e.id<18446744073709551616
 name:e.name.size<=9223372036854775807
 ty:e.ty.size<=9223372036854775807
theorem oT :prog.cellsOf 48=3:=by kernel_rfl
theorem Re {enc:TypeId×Value->H}{spare:Nat->Bool}(q:Nat)(e:List Value)(x:DataW H×List MemPlace)(h:DataW.trod enc prog w base spare held q 48 e=some x):
 ∃f:bz,e= [.int .u64 f.id,.string f.name,.string f.ty]/\wM f:=by
 obtain⟨xs,n,rfl,_,l,p,i⟩:=Z1 underlying48 h;rw[oT]at l;match e,l with
 | [c0,c1,c2],_=>
  have c:DataW.trod enc prog w base spare held n 46 ((([c0,c1,c2]:List Value).drop 0).take (prog.cellsOf 46))=xs[0]?:=i 0 _ rfl;have b:DataW.trod enc prog w base spare held n 9 ((([c0,c1,c2]:List Value).drop 1).take (prog.cellsOf 9))=xs[1]?:=i 1 _ rfl;have d:DataW.trod enc prog w base spare held n 9 ((([c0,c1,c2]:List Value).drop 2).take (prog.cellsOf 9))=xs[2]?:=i 2 _ rfl;have s:xs.length=3:=p;rw[zx (by omega)]at c b d;rw[C3]at c;rw[C4]at b d;simp only[zJ,zO,yu,zX]at c b d;obtain⟨i0,j,_,g0⟩:=xP ZX c;obtain⟨t1,o,_,g1⟩:=Z2 zM b;obtain⟨t2,m,_,g2⟩:=Z2 zM d;simp at j o m;subst j;subst o;subst m;obtain⟨k,rfl,r⟩:=wf_u64 g0;exact⟨⟨k,t1,t2⟩,rfl,r,by simpa[maxLen]using g1,by simpa[maxLen]using g2⟩
theorem N7 {enc:TypeId×Value->H}{spare:Nat->Bool}(K:Nat)(B:List Value)(x:DataW H×List MemPlace)(h:DataW.trod enc prog w base spare held K 25 B=some x):
 ∃(l:List bz) (v:Value),B= [v]/\pe w w.heap.size v l/\∀f∈l,wM f:=by
 rcases DataW.trod_slice underlying25 h with⟨n,_⟩|⟨a,len,cap,O,rest,m,rfl,n,_,S,D,J,R,N,_,_⟩
 ·exact⟨[],_,n,pe.nil _ _,by simp⟩
 have key:∀i,i<len->∃y:bz,a.spot=none/\w.cell? ⟨a.block,a.off+i*3,none⟩=some (.int .u64 y.id)/\w.cell? ⟨a.block,a.off+i*3+1,none⟩=some (.string y.name)/\w.cell? ⟨a.block,a.off+i*3+2,none⟩=some (.string y.ty)/\wM y:=by
  have first:∀i,i<len->∃c,w.cells? base (a.add (i*3)) 3=some c/\∃z,DataW.trod enc prog w base spare held m 48 c=some z:=by
   intro i hi;have o:=N i hi;rw[oT,zx (by omega)]at o;rw[xm]at o;obtain⟨c,d,b⟩:=o;exact⟨c,d,_,b⟩
  have e:0<len->a.spot=none:=by
   intro I;obtain⟨c,d,_⟩:=first 0 I
   obtain⟨d0,_,_,_,b,_⟩:=sV d;have b:w.cell? a=some d0:=by simpa[Addr.add]using b
   exact KW b
  intro i hi;obtain⟨c,d,z,b⟩:=first i hi
  obtain⟨d0,d1,d2,rfl,g0,g1,g2⟩:=sV d;obtain⟨y,A,C⟩:=Re m _ _ b;simp at A;obtain⟨rfl,rfl,rfl⟩:=A;have p:=e (by omega);have r:∀j,(a.add (i*3)).add j=⟨a.block,a.off+i*3+j,none⟩:=by
   intro j;obtain⟨M,G,E⟩:=a;simp only at p;subst p;unfold Addr.add;split<;>split<;>simp_all
  have q:=r 0;rw[show(a.add (i*3)).add 0=a.add (i*3)from by simp[Addr.add]]at q;rw[q]at g0;rw[r]at g1 g2;exact⟨y,p,g0,g1,g2,C⟩
 obtain⟨s,F,u⟩:=nC _ len key;subst F;refine⟨s,_,n,⟨some a,cap,rfl,D,by simpa[maxLen]using J,fun j k=> ?_⟩,fun f L=> ?_⟩
 ·obtain⟨e,g0,g1,g2,_⟩:=u j k;refine⟨a.block,a.off, ?_,(by have:=KX g0;simpa using this),by simpa using g0,by simpa using g1,by simpa using g2⟩;obtain⟨M,G,E⟩:=a;simp only at e;subst e;rfl
 obtain⟨j,k,rfl⟩:=List.mem_iff_getElem.1 L;exact(u j k).2.2.2.2
theorem JM {enc:TypeId×Value->H}{spare:Nat->Bool}{k:List MemPlace}(c:Value.okWide prog w r h 25 v)(hd:DataW.Trod enc prog w base spare held 25 v d k):
 ∃(l:List bz) (u:Value),v=u/\pe w w.heap.size u l/\∀f∈l,wM f:=by
 obtain⟨A,n,cap,rfl⟩:=okWide_slice underlying25 c;obtain⟨i,j⟩:=hd;obtain⟨l,u,b,m,e⟩:=N7 i _ _ j;simp[Value.cells]at b;subst b;exact⟨l,_,rfl,m,e⟩
theorem tr {c:Type}(Q:Nat->c->Prop):∀n,(∀i,i<n->∃y,Q i y)->∃l:List c,l.length=n/\∀i (h:i<l.length),Q i l[i]
 |0,_=>⟨[],rfl,by simp⟩
 |n+1,h=>by
  obtain⟨l,b,e⟩:=tr Q n fun i hi=>h i (by omega)
  obtain⟨y,j⟩:=h n (by omega);refine⟨l++ [y],by simp[b],fun i hi=> ?_⟩;by_cases d:i<l.length
  ·rw[xJ d];exact e i d
  have:i=n:=by simp at hi;omega
  subst this;rw[List.getElem_append_right (by omega)];simpa[b]using j
theorem Rf {k:List Value}(h:w.cells? base a 3=some k):∃b c d,k= [b,c,d]/\w.cell? a=some b/\w.cell? (a.add 1)=some c/\w.cell? (a.add 2)=some d:=by
 unfold World.cells? at h;split at h
 ·have e:List.range 3= [0,1,2]:=rfl;rw[e]at h;simp only[List.mapM_cons,List.mapM_nil,Option.bind_eq_bind,Option.pure_def,xm]at h;obtain⟨b,o,r,⟨c,n,q,⟨d,p,s,m,i⟩,j⟩,l⟩:=h;simp at m i j l;subst m;subst i;subst j;subst l;exact⟨b,c,d,rfl,by simpa[Addr.add]using o,n,p⟩
 cases h
theorem N8 (h:w.cell? a=some v):a.spot=none:=by
 unfold World.cell? at h;split at h
 ·split at h
  ·cases h
  rename_i b;simpa using b
 cases h
theorem l7 :prog.cellsOf 28=3:=by kernel_rfl
theorem ts :prog.cellsOf 9=1:=by kernel_rfl
theorem Dv :prog.cellsOf 4=1:=by kernel_rfl
theorem AZ :prog.cellsOf 26=1:=by kernel_rfl
theorem N9 {enc:TypeId×Value->H}{spare:Nat->Bool}:∀(F:Nat) (I:List Value) (x:DataW H×List MemPlace),DataW.trod enc prog w base spare held F 28 I=some x->
 ∃(y:It) (r d q:Value),I= [r,d,q]/\bT w w.heap.size y r d q:=by
 intro F;induction F using Nat.strongRecOn with
 |ind F ih=>
  intro I x h;obtain⟨xs,n,rfl,_,N,W,L⟩:=Z1 underlying28 h;rw[l7]at N;match I,N with
  | [r,d,q],_=>
   have o:DataW.trod enc prog w base spare held n 9 ((([r,d,q]:List Value).drop 0).take (prog.cellsOf 9))=xs[0]?:=L 0 _ rfl;have G:DataW.trod enc prog w base spare held n 4 ((([r,d,q]:List Value).drop 1).take (prog.cellsOf 4))=xs[1]?:=L 1 _ rfl;have D:DataW.trod enc prog w base spare held n 26 ((([r,d,q]:List Value).drop 2).take (prog.cellsOf 26))=xs[2]?:=L 2 _ rfl;have ad:xs.length=3:=W;rw[zx (by omega)]at o G D;rw[ts]at o;rw[Dv]at G;rw[AZ]at D;simp only[zJ,zO,yu,zX]at o G D;obtain⟨t,u,_,R⟩:=Z2 zM o;obtain⟨l,A,_⟩:=DataW.trod_bool underlying4 G;simp at u A;subst u;subst A;rcases DataW.trod_slice underlying26 D with⟨B,_⟩|⟨a,len,cap,aa,rest,m,rfl,B,_,hb,U,O,ae,dh,_,_⟩
   ·simp at B;subst B;exact⟨.mk t l [],_,_,_,rfl,rfl,rfl,by simpa[maxLen]using R,by simp,none,0,rfl,by simp,by simp,trivial⟩
   simp at B;subst B;have key:∀i,i<len->∃y:It,∃b e p,a.spot=none/\w.cell? ⟨a.block,a.off+i*3,none⟩=some b/\w.cell? ⟨a.block,a.off+i*3+1,none⟩=some e/\w.cell? ⟨a.block,a.off+i*3+2,none⟩=some p/\bT w w.heap.size y b e p:=by
    have first:∀i,i<len->∃k,w.cells? base (a.add (i*3)) 3=some k/\∃z,DataW.trod enc prog w base spare held m 28 k=some z:=by
     intro i hi;have K:=dh i hi;rw[l7,zx (by omega)]at K;rw[xm]at K;obtain⟨k,C,c⟩:=K;exact⟨k,C,_,c⟩
    have E:0<len->a.spot=none:=by
     intro o;obtain⟨k,C,_⟩:=first 0 o
     obtain⟨b,_,_,_,c,_⟩:=Rf C;have c:w.cell? a=some b:=by simpa[Addr.add]using c
     exact N8 c
    intro i hi;obtain⟨k,C,z,c⟩:=first i hi
    obtain⟨b,e,p,rfl,g0,g1,g2⟩:=Rf C;obtain⟨y,k0,k1,k2,S,J⟩:=ih m (by omega) _ _ c;simp at S;obtain⟨rfl,rfl,rfl⟩:=S;have M:=E (by omega);have A:∀j,(a.add (i*3)).add j=⟨a.block,a.off+i*3+j,none⟩:=by
     intro j;obtain⟨ab,ao,X⟩:=a;simp only at M;subst M;unfold Addr.add;split<;>split<;>simp_all
    have u:=A 0;rw[show(a.add (i*3)).add 0=a.add (i*3)from by simp[Addr.add]]at u;rw[u]at g0;rw[A]at g1 g2;exact⟨y,b,e,p,M,g0,g1,g2,J⟩
   obtain⟨s,Y,Eg⟩:=tr _ len key;subst Y;refine⟨.mk t l s,_,_,_,rfl,rfl,rfl,by simpa[maxLen]using R, ?_,some a,cap,rfl,U,by simpa[maxLen]using O,ch.Fv fun j Z=> ?_⟩
   ·have:cap<=9223372036854775807:=by simpa[maxLen]using O
    omega
   obtain⟨b,e,p,E,g0,g1,g2,J⟩:=Eg j Z;refine⟨a.block,a.off,b,e,p, ?_,lt_of_cell g0,by simpa using g0,by simpa using g1,by simpa using g2,J⟩;obtain⟨ab,ao,X⟩:=a;simp only at E;subst E;rfl
theorem Gq :prog.cellsOf 30=4:=by kernel_rfl
theorem Rg {enc:TypeId×Value->H}{spare:Nat->Bool}(r:Nat)(l:List Value)(x:DataW H×List MemPlace)(h:DataW.trod enc prog w base spare held r 30 l=some x):
 ∃(n:ByteArray) (y:It) (b d i:Value),l= [.string n,b,d,i]/\n.size<=maxLen/\bT w w.heap.size y b d i:=by
 obtain⟨xs,n,rfl,_,o,q,p⟩:=Z1 underlying30 h;rw[Gq]at o;match l,o with
 | [c,b,d,i],_=>
  have k:DataW.trod enc prog w base spare held n 9 ((([c,b,d,i]:List Value).drop 0).take (prog.cellsOf 9))=xs[0]?:=p 0 _ rfl;have j:DataW.trod enc prog w base spare held n 28 ((([c,b,d,i]:List Value).drop 1).take (prog.cellsOf 28))=xs[1]?:=p 1 _ rfl;have z:xs.length=2:=q;rw[zx (by omega)]at k j;rw[ts]at k;rw[l7]at j;simp only[zJ,zO,yu,zX]at k j;obtain⟨t,m,_,s⟩:=Z2 zM k;simp at m;subst m;obtain⟨y,d0,d1,d2,e,u⟩:=N9 _ _ _ j;simp at e;obtain⟨rfl,rfl,rfl⟩:=e;exact⟨t,y,_,_,_,rfl,s,u⟩
theorem N' {enc:TypeId×Value->H}{l:Nat}{spare:Nat->Bool}{p:List MemPlace}(j:Value.okWide prog w r l 30 v)(hd:DataW.Trod enc prog w base spare held 30 v d p):
 ∃(n:ByteArray) (y:It) (b e c:Value),v= .agg #[.string n,b,e,c]/\n.size<=maxLen/\bT w w.heap.size y b e c:=by
 obtain⟨i,rfl,_⟩:=okWide_struct underlying30 j;obtain⟨m,o⟩:=hd;obtain⟨n,y,b,e,c,h,k,q⟩:=Rg m _ _ o;refine⟨n,y,b,e,c, ?_,k,q⟩;have h:i.toList= [.string n,b,e,c]:=h;have:i= #[.string n,b,e,c]:=by cases i;simp at h;simp[h]
 rw[this]
theorem Gr {d:List Value}(h:w.cells? base a 1=some d):∃b,d= [b]/\w.cell? a=some b:=by
 unfold World.cells? at h;split at h
 ·have e:List.range 1= [0]:=rfl;rw[e]at h;simp only[List.mapM_cons,List.mapM_nil,Option.bind_eq_bind,Option.pure_def,xm]at h;obtain⟨b,j,r,i,c⟩:=h;simp at i c;subst i;subst c;exact⟨b,rfl,by simpa[Addr.add]using j⟩
 cases h
theorem JN :prog.cellsOf 5=1:=by kernel_rfl
theorem wf_u8 {n:Int}(h:(Lit.int .u8 n).wf=true):∃k:Nat,n=(k:Int)/\k<256:=by
 have h:0<=n/\n<=255:=by simpa[Lit.wf,IntKind.min,IntKind.max,IntKind.signed,IntKind.bits]using h
 exact⟨n.toNat,by omega,by omega⟩
theorem Rh {enc:TypeId×Value->H}{spare:Nat->Bool}(L:Nat)(B:List Value)(x:DataW H×List MemPlace)(h:DataW.trod enc prog w base spare held L 31 B=some x):
 ∃(l:List Nat) (v:Value),B= [v]/\B6 w w.heap.size v l/\∀k∈l,k<256:=by
 rcases DataW.trod_slice zr h with⟨p,_⟩|⟨a,len,cap,R,rest,m,rfl,p,_,U,C,J,S,O,_,_⟩
 ·exact⟨[],_,p,B6.nil _ _,by simp⟩
 have key:∀i,i<len->∃y:Nat,a.spot=none/\w.cell? ⟨a.block,a.off+i,none⟩=some (.int .u8 y)/\y<256:=by
  have first:∀i,i<len->∃c,w.cells? base (a.add (i*1)) 1=some c/\∃z,DataW.trod enc prog w base spare held m 5 c=some z:=by
   intro i hi;have q:=O i hi;rw[JN,zx (by omega)]at q;rw[xm]at q;obtain⟨c,d,b⟩:=q;exact⟨c,d,_,b⟩
  have e:0<len->a.spot=none:=by
   intro I;obtain⟨c,d,_⟩:=first 0 I
   obtain⟨d0,_,b⟩:=Gr d;have b:w.cell? a=some d0:=by simpa[Addr.add]using b
   exact KW b
  intro i hi;obtain⟨c,d,z,b⟩:=first i hi
  obtain⟨d0,rfl,g0⟩:=Gr d;obtain⟨n,u,_,g1⟩:=xP yq b;simp at u;subst u;obtain⟨k,rfl,K⟩:=wf_u8 g1;have r:=e (by omega);have E:a.add (i*1)=⟨a.block,a.off+i,none⟩:=by
   obtain⟨N,G,D⟩:=a;simp only at r;subst r;unfold Addr.add;split<;>simp_all
  rw[E]at g0;exact⟨k,r,g0,K⟩
 obtain⟨s,F,A⟩:=nC _ len key;subst F;refine⟨s,_,p,⟨some a,cap,rfl,C,by simpa[maxLen]using J,fun j o=> ?_⟩,fun f M=> ?_⟩
 ·obtain⟨e,g0,_⟩:=A j o;refine⟨a.block,a.off, ?_,(by have:=KX g0;simpa using this),by simpa using g0⟩;obtain⟨N,G,D⟩:=a;simp only at e;subst e;rfl
 obtain⟨j,o,rfl⟩:=List.mem_iff_getElem.1 M;exact(A j o).2.2
theorem Oa {enc:TypeId×Value->H}{spare:Nat->Bool}{m:List MemPlace}(c:Value.okWide prog w r h 31 v)(hd:DataW.Trod enc prog w base spare held 31 v d m):
 ∃(l:List Nat) (u:Value),v=u/\B6 w w.heap.size u l/\∀k∈l,k<256:=by
 obtain⟨A,n,cap,rfl⟩:=okWide_slice zr c;obtain⟨i,j⟩:=hd;obtain⟨l,u,b,o,e⟩:=Rh i _ _ j;simp[Value.cells]at b;subst b;exact⟨l,_,rfl,o,e⟩
