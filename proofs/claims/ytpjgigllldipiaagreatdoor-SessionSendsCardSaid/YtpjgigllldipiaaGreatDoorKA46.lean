/- A slice of entries that came in as an argument. -/
import Derived.Test.YtpjgigllldipiaaGreatDoorKA43
set_option linter.all false
set_option maxRecDepth 100000
namespace Go.Proofs.YtpjgigllldipiaaGreatDoor
open Go.ChangeShapes Go.WideShapes Go.ChangeAt Go.RowKit
def Yi:=@DataW.trod_string
structure wh (e:bF):Prop where
 id:e.id<18446744073709551616
 name:e.name.size<=9223372036854775807
 ty:e.ty.size<=9223372036854775807
theorem ov :Tryz.prog.cellsOf 57=3:=by kernel_rfl
theorem Qw {H:Type}{enc:TypeId×Value->H}{w:World}{base:Nat}{spare:Nat->Bool}{held:Bool}(r:Nat)(e:List Value)(x:DataW H×List MemPlace)(h:DataW.trod enc Tryz.prog w base spare held r 57 e=some x):
 ∃f:bF,e= [.int .u64 f.id,.string f.name,.string f.ty]/\wh f:=by
 obtain⟨xs,n,rfl,_,o,p,i⟩:=Yh Tryz.underlying57 h;rw[ov]at o;match e,o with
 | [c0,c1,c2],_=>
  have c:DataW.trod enc Tryz.prog w base spare held n 55 ((([c0,c1,c2]:List Value).drop 0).take (Tryz.prog.cellsOf 55))=xs[0]?:=i 0 _ rfl;have d:DataW.trod enc Tryz.prog w base spare held n 9 ((([c0,c1,c2]:List Value).drop 1).take (Tryz.prog.cellsOf 9))=xs[1]?:=i 1 _ rfl;have b:DataW.trod enc Tryz.prog w base spare held n 9 ((([c0,c1,c2]:List Value).drop 2).take (Tryz.prog.cellsOf 9))=xs[2]?:=i 2 _ rfl;have s:xs.length=3:=p;rw[zD (by omega)]at c d b;rw[CM]at c;rw[CN]at d b;simp only[zN,zV,yE,yh]at c d b;obtain⟨i0,l,_,g0⟩:=xW Ye c;obtain⟨t1,j,_,g1⟩:=Yi zT d;obtain⟨t2,m,_,g2⟩:=Yi zT b;simp at l j m;subst l;subst j;subst m;obtain⟨k,rfl,q⟩:=wf_u64 g0;exact⟨⟨k,t1,t2⟩,rfl,q,by simpa[maxLen]using g1,by simpa[maxLen]using g2⟩
theorem Np {H:Type}{enc:TypeId×Value->H}{w:World}{base:Nat}{spare:Nat->Bool}{held:Bool}(N:Nat)(B:List Value)(x:DataW H×List MemPlace)(h:DataW.trod enc Tryz.prog w base spare held N 25 B=some x):
 ∃(l:List bF) (v:Value),B= [v]/\rq w w.heap.size v l/\∀f∈l,wh f:=by
 rcases DataW.trod_slice Tryz.underlying25 h with⟨p,_⟩|⟨a,len,cap,S,rest,m,rfl,p,_,O,D,F,R,K,_,_⟩
 ·exact⟨[],_,p,rq.nil _ _,by simp⟩
 have key:∀i,i<len->∃y:bF,a.spot=none/\w.cell? ⟨a.block,a.off+i*3,none⟩=some (.int .u64 y.id)/\w.cell? ⟨a.block,a.off+i*3+1,none⟩=some (.string y.name)/\w.cell? ⟨a.block,a.off+i*3+2,none⟩=some (.string y.ty)/\wh y:=by
  have first:∀i,i<len->∃c,w.cells? base (a.add (i*3)) 3=some c/\∃z,DataW.trod enc Tryz.prog w base spare held m 57 c=some z:=by
   intro i hi;have o:=K i hi;rw[ov,zD (by omega)]at o;rw[xA]at o;obtain⟨c,d,b⟩:=o;exact⟨c,d,_,b⟩
  have e:0<len->a.spot=none:=by
   intro L;obtain⟨c,d,_⟩:=first 0 L
   obtain⟨d0,_,_,_,b,_⟩:=sE d;have b:w.cell? a=some d0:=by simpa[Addr.add]using b
   exact Ki b
  intro i hi;obtain⟨c,d,z,b⟩:=first i hi
  obtain⟨d0,d1,d2,rfl,g0,g1,g2⟩:=sE d;obtain⟨y,u,G⟩:=Qw m _ _ b;simp at u;obtain⟨rfl,rfl,rfl⟩:=u;have k:=e (by omega);have A:∀j,(a.add (i*3)).add j=⟨a.block,a.off+i*3+j,none⟩:=by
   intro j;obtain⟨M,I,C⟩:=a;simp only at k;subst k;unfold Addr.add;split<;>split<;>simp_all
  have r:=A 0;rw[show(a.add (i*3)).add 0=a.add (i*3)from by simp[Addr.add]]at r;rw[r]at g0;rw[A]at g1 g2;exact⟨y,k,g0,g1,g2,G⟩
 obtain⟨s,J,q⟩:=mR _ len key;subst J;refine⟨s,_,p,⟨some a,cap,rfl,D,by simpa[maxLen]using F,fun j n=> ?_⟩,fun f E=> ?_⟩
 ·obtain⟨e,g0,g1,g2,_⟩:=q j n;refine⟨a.block,a.off, ?_,(by have:=Kj g0;simpa using this),by simpa using g0,by simpa using g1,by simpa using g2⟩;obtain⟨M,I,C⟩:=a;simp only at e;subst e;rfl
 obtain⟨j,n,rfl⟩:=List.mem_iff_getElem.1 E;exact(q j n).2.2.2.2
theorem Ji {H:Type}{enc:TypeId×Value->H}{w:World}{base h:Nat}{r:Reach}{spare:Nat->Bool}{held:Bool}{v:Value}{d:DataW H}{j:List MemPlace}(e:Value.okWide Tryz.prog w r h 25 v)(hd:DataW.Trod enc Tryz.prog w base spare held 25 v d j):
 ∃(l:List bF) (u:Value),v=u/\rq w w.heap.size u l/\∀f∈l,wh f:=by
 obtain⟨A,n,cap,rfl⟩:=okWide_slice Tryz.underlying25 e;obtain⟨m,i⟩:=hd;obtain⟨l,u,b,k,c⟩:=Np m _ _ i;simp[Value.cells]at b;subst b;exact⟨l,_,rfl,k,c⟩
open Go.RowKit
theorem wj (c:aS)(l:List bF)(u:Value)(n:ByteArray)(x:It)(i h j:Value)(b:List Nat)(d:Value)(W:World)(r:c.ok)(o:rq W W.heap.size u l/\∀e∈l,wh e)(m:n.size<=maxLen/\bW W W.heap.size x i h j)(q:CS W W.heap.size d b/\∀k∈b,k<256)(p:Laid W/\bn W):
 Calls Tryz.prog 3 #[c.val,u,.agg #[.string n,i,h,j],d] W fun e w'=>e= .returned (.bool true)/\Below W.heap.size W w':=
 wg c l u n x b d W i h j r o.1 (fun e s=>(o.2 e s).id) (by simpa[maxLen]using m.1) m.2 q.1 q.2 p.1 p.2
theorem sT {b:Type}(Q:Nat->b->Prop):∀n,(∀i,i<n->∃y,Q i y)->∃l:List b,l.length=n/\∀i (h:i<l.length),Q i l[i]
 |0,_=>⟨[],rfl,by simp⟩
 |n+1,h=>by
  obtain⟨l,c,e⟩:=sT Q n fun i hi=>h i (by omega)
  obtain⟨y,j⟩:=h n (by omega);refine⟨l++ [y],by simp[c],fun i hi=> ?_⟩;by_cases d:i<l.length
  ·rw[xR d];exact e i d
  have:i=n:=by simp at hi;omega
  subst this;rw[List.getElem_append_right (by omega)];simpa[c]using j
theorem Qx {w:World}{base:Nat}{a:Addr}{k:List Value}(h:w.cells? base a 3=some k):∃c b d,k= [c,b,d]/\w.cell? a=some c/\w.cell? (a.add 1)=some b/\w.cell? (a.add 2)=some d:=by
 unfold World.cells? at h;split at h
 ·have e:List.range 3= [0,1,2]:=rfl;rw[e]at h;simp only[List.mapM_cons,List.mapM_nil,Option.bind_eq_bind,Option.pure_def,xA]at h;obtain⟨c,o,r,⟨b,p,q,⟨d,n,s,m,i⟩,l⟩,j⟩:=h;simp at m i l j;subst m;subst i;subst l;subst j;exact⟨c,b,d,rfl,by simpa[Addr.add]using o,p,n⟩
 cases h
theorem Nq {w:World}{a:Addr}{v:Value}(h:w.cell? a=some v):a.spot=none:=by
 unfold World.cell? at h;split at h
 ·split at h
  ·cases h
  rename_i b;simpa using b
 cases h
theorem lK :Tryz.prog.cellsOf 28=3:=by kernel_rfl
theorem sU :Tryz.prog.cellsOf 9=1:=by kernel_rfl
theorem Di :Tryz.prog.cellsOf 4=1:=by kernel_rfl
theorem AF :Tryz.prog.cellsOf 26=1:=by kernel_rfl
theorem Nr {H:Type}{enc:TypeId×Value->H}{w:World}{base:Nat}{spare:Nat->Bool}{held:Bool}:∀(I:Nat) (F:List Value) (x:DataW H×List MemPlace),DataW.trod enc Tryz.prog w base spare held I 28 F=some x->
 ∃(y:It) (r q e:Value),F= [r,q,e]/\bW w w.heap.size y r q e:=by
 intro I;induction I using Nat.strongRecOn with
 |ind I ih=>
  intro F x h;obtain⟨xs,n,rfl,_,S,Y,L⟩:=Yh Tryz.underlying28 h;rw[lK]at S;match F,S with
  | [r,q,e],_=>
   have k:DataW.trod enc Tryz.prog w base spare held n 9 ((([r,q,e]:List Value).drop 0).take (Tryz.prog.cellsOf 9))=xs[0]?:=L 0 _ rfl;have D:DataW.trod enc Tryz.prog w base spare held n 4 ((([r,q,e]:List Value).drop 1).take (Tryz.prog.cellsOf 4))=xs[1]?:=L 1 _ rfl;have E:DataW.trod enc Tryz.prog w base spare held n 26 ((([r,q,e]:List Value).drop 2).take (Tryz.prog.cellsOf 26))=xs[2]?:=L 2 _ rfl;have aa:xs.length=3:=Y;rw[zD (by omega)]at k D E;rw[sU]at k;rw[Di]at D;rw[AF]at E;simp only[zN,zV,yE,yh]at k D E;obtain⟨t,u,_,N⟩:=Yi zT k;obtain⟨l,B,_⟩:=DataW.trod_bool Tryz.underlying4 D;simp at u B;subst u;subst B;rcases DataW.trod_slice Tryz.underlying26 E with⟨C,_⟩|⟨a,len,cap,ae,rest,m,rfl,C,_,hb,X,O,ad,cU,_,_⟩
   ·simp at C;subst C;exact⟨.mk t l [],_,_,_,rfl,rfl,rfl,by simpa[maxLen]using N,by simp,none,0,rfl,by simp,by simp,trivial⟩
   simp at C;subst C;have key:∀i,i<len->∃y:It,∃b o p,a.spot=none/\w.cell? ⟨a.block,a.off+i*3,none⟩=some b/\w.cell? ⟨a.block,a.off+i*3+1,none⟩=some o/\w.cell? ⟨a.block,a.off+i*3+2,none⟩=some p/\bW w w.heap.size y b o p:=by
    have first:∀i,i<len->∃d,w.cells? base (a.add (i*3)) 3=some d/\∃z,DataW.trod enc Tryz.prog w base spare held m 28 d=some z:=by
     intro i hi;have M:=cU i hi;rw[lK,zD (by omega)]at M;rw[xA]at M;obtain⟨d,A,c⟩:=M;exact⟨d,A,_,c⟩
    have G:0<len->a.spot=none:=by
     intro k;obtain⟨d,A,_⟩:=first 0 k
     obtain⟨b,_,_,_,c,_⟩:=Qx A;have c:w.cell? a=some b:=by simpa[Addr.add]using c
     exact Nq c
    intro i hi;obtain⟨d,A,z,c⟩:=first i hi
    obtain⟨b,o,p,rfl,g0,g1,g2⟩:=Qx A;obtain⟨y,k0,k1,k2,R,K⟩:=ih m (by omega) _ _ c;simp at R;obtain⟨rfl,rfl,rfl⟩:=R;have J:=G (by omega);have B:∀j,(a.add (i*3)).add j=⟨a.block,a.off+i*3+j,none⟩:=by
     intro j;obtain⟨ab,Z,W⟩:=a;simp only at J;subst J;unfold Addr.add;split<;>split<;>simp_all
    have u:=B 0;rw[show(a.add (i*3)).add 0=a.add (i*3)from by simp[Addr.add]]at u;rw[u]at g0;rw[B]at g1 g2;exact⟨y,b,o,p,J,g0,g1,g2,K⟩
   obtain⟨s,Gr,U⟩:=sT _ len key;subst Gr;refine⟨.mk t l s,_,_,_,rfl,rfl,rfl,by simpa[maxLen]using N, ?_,some a,cap,rfl,X,by simpa[maxLen]using O,bU.En fun j hj=> ?_⟩
   ·have:cap<=9223372036854775807:=by simpa[maxLen]using O
    omega
   obtain⟨b,o,p,G,g0,g1,g2,K⟩:=U j hj;refine⟨a.block,a.off,b,o,p, ?_,lt_of_cell g0,by simpa using g0,by simpa using g1,by simpa using g2,K⟩;obtain⟨ab,Z,W⟩:=a;simp only at G;subst G;rfl
theorem F7 :Tryz.prog.cellsOf 30=4:=by kernel_rfl
theorem Qy {H:Type}{enc:TypeId×Value->H}{w:World}{base:Nat}{spare:Nat->Bool}{held:Bool}(u:Nat)(l:List Value)(x:DataW H×List MemPlace)(h:DataW.trod enc Tryz.prog w base spare held u 30 l=some x):
 ∃(n:ByteArray) (y:It) (d b i:Value),l= [.string n,d,b,i]/\n.size<=maxLen/\bW w w.heap.size y d b i:=by
 obtain⟨xs,n,rfl,_,p,r,o⟩:=Yh Tryz.underlying30 h;rw[F7]at p;match l,p with
 | [c,d,b,i],_=>
  have j:DataW.trod enc Tryz.prog w base spare held n 9 ((([c,d,b,i]:List Value).drop 0).take (Tryz.prog.cellsOf 9))=xs[0]?:=o 0 _ rfl;have k:DataW.trod enc Tryz.prog w base spare held n 28 ((([c,d,b,i]:List Value).drop 1).take (Tryz.prog.cellsOf 28))=xs[1]?:=o 1 _ rfl;have z:xs.length=2:=r;rw[zD (by omega)]at j k;rw[sU]at j;rw[lK]at k;simp only[zN,zV,yE,yh]at j k;obtain⟨t,m,_,q⟩:=Yi zT j;simp at m;subst m;obtain⟨y,d0,d1,d2,e,s⟩:=Nr _ _ _ k;simp at e;obtain⟨rfl,rfl,rfl⟩:=e;exact⟨t,y,_,_,_,rfl,q,s⟩
theorem Ns {H:Type}{enc:TypeId×Value->H}{w:World}{base l:Nat}{r:Reach}{spare:Nat->Bool}{held:Bool}{v:Value}{d:DataW H}{o:List MemPlace}(k:Value.okWide Tryz.prog w r l 30 v)(hd:DataW.Trod enc Tryz.prog w base spare held 30 v d o):
 ∃(n:ByteArray) (y:It) (c b e:Value),v= .agg #[.string n,c,b,e]/\n.size<=maxLen/\bW w w.heap.size y c b e:=by
 obtain⟨i,rfl,_⟩:=okWide_struct Tryz.underlying30 k;obtain⟨q,m⟩:=hd;obtain⟨n,y,c,b,e,h,j,p⟩:=Qy q _ _ m;refine⟨n,y,c,b,e, ?_,j,p⟩;have h:i.toList= [.string n,c,b,e]:=h;have:i= #[.string n,c,b,e]:=by cases i;simp at h;simp[h]
 rw[this]
theorem F8 {w:World}{base:Nat}{a:Addr}{d:List Value}(h:w.cells? base a 1=some d):∃b,d= [b]/\w.cell? a=some b:=by
 unfold World.cells? at h;split at h
 ·have e:List.range 1= [0]:=rfl;rw[e]at h;simp only[List.mapM_cons,List.mapM_nil,Option.bind_eq_bind,Option.pure_def,xA]at h;obtain⟨b,j,r,i,c⟩:=h;simp at i c;subst i;subst c;exact⟨b,rfl,by simpa[Addr.add]using j⟩
 cases h
theorem Jj :Tryz.prog.cellsOf 5=1:=by kernel_rfl
theorem wf_u8 {n:Int}(h:(Lit.int .u8 n).wf=true):∃k:Nat,n=(k:Int)/\k<256:=by
 have h:0<=n/\n<=255:=by simpa[Lit.wf,IntKind.min,IntKind.max,IntKind.signed,IntKind.bits]using h
 exact⟨n.toNat,by omega,by omega⟩
theorem Qz {H:Type}{enc:TypeId×Value->H}{w:World}{base:Nat}{spare:Nat->Bool}{held:Bool}(O:Nat)(B:List Value)(x:DataW H×List MemPlace)(h:DataW.trod enc Tryz.prog w base spare held O 31 B=some x):
 ∃(l:List Nat) (v:Value),B= [v]/\CS w w.heap.size v l/\∀k∈l,k<256:=by
 rcases DataW.trod_slice zx h with⟨r,_⟩|⟨a,len,cap,U,rest,m,rfl,r,_,R,D,F,S,L,_,_⟩
 ·exact⟨[],_,r,CS.nil _ _,by simp⟩
 have key:∀i,i<len->∃y:Nat,a.spot=none/\w.cell? ⟨a.block,a.off+i,none⟩=some (.int .u8 y)/\y<256:=by
  have first:∀i,i<len->∃c,w.cells? base (a.add (i*1)) 1=some c/\∃z,DataW.trod enc Tryz.prog w base spare held m 5 c=some z:=by
   intro i hi;have q:=L i hi;rw[Jj,zD (by omega)]at q;rw[xA]at q;obtain⟨c,d,b⟩:=q;exact⟨c,d,_,b⟩
  have e:0<len->a.spot=none:=by
   intro M;obtain⟨c,d,_⟩:=first 0 M
   obtain⟨d0,_,b⟩:=F8 d;have b:w.cell? a=some d0:=by simpa[Addr.add]using b
   exact Ki b
  intro i hi;obtain⟨c,d,z,b⟩:=first i hi
  obtain⟨d0,rfl,g0⟩:=F8 d;obtain⟨n,A,_,g1⟩:=xW yB b;simp at A;subst A;obtain⟨k,rfl,G⟩:=wf_u8 g1;have o:=e (by omega);have J:a.add (i*1)=⟨a.block,a.off+i,none⟩:=by
   obtain⟨N,I,C⟩:=a;simp only at o;subst o;unfold Addr.add;split<;>simp_all
  rw[J]at g0;exact⟨k,o,g0,G⟩
 obtain⟨s,K,u⟩:=mR _ len key;subst K;refine⟨s,_,r,⟨some a,cap,rfl,D,by simpa[maxLen]using F,fun j p=> ?_⟩,fun f E=> ?_⟩
 ·obtain⟨e,g0,_⟩:=u j p;refine⟨a.block,a.off, ?_,(by have:=Kj g0;simpa using this),by simpa using g0⟩;obtain⟨N,I,C⟩:=a;simp only at e;subst e;rfl
 obtain⟨j,p,rfl⟩:=List.mem_iff_getElem.1 E;exact(u j p).2.2
theorem Nt {H:Type}{enc:TypeId×Value->H}{w:World}{base h:Nat}{r:Reach}{spare:Nat->Bool}{held:Bool}{v:Value}{d:DataW H}{j:List MemPlace}(e:Value.okWide Tryz.prog w r h 31 v)(hd:DataW.Trod enc Tryz.prog w base spare held 31 v d j):
 ∃(l:List Nat) (u:Value),v=u/\CS w w.heap.size u l/\∀k∈l,k<256:=by
 obtain⟨A,n,cap,rfl⟩:=okWide_slice zx e;obtain⟨o,i⟩:=hd;obtain⟨l,u,b,m,c⟩:=Qz o _ _ i;simp[Value.cells]at b;subst b;exact⟨l,_,rfl,m,c⟩
