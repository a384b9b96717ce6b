/- package registry: Config, Len, ByFrame, ByName. -/
import Derived.Test.YtpjgigllldipiaaGreatDoorKA24
import Derived.Test.YtpjgigllldipiaaGreatDoorKA31
set_option linter.all false
set_option maxRecDepth 100000
set_option maxHeartbeats 800000
namespace Go.Proofs.YtpjgigllldipiaaGreatDoor
open Tryz
open Go.RowKit
def ZD:=@DataW.trod_string
theorem Kq (o hi g q p:Nat)(c:aR)(l:List bV)(w:World)(h:lO w o hi g q p c l):
 Calls prog 29 #[.pointer (some ⟨g,0,none⟩)] w fun e w'=>e= .returned c.val/\Below w.heap.size w w':=by
 obtain⟨g0,g1,g2,g3,g4,g5⟩:=h.cfg;have r:g<w.heap.size:=yg h.g2 h.his;have b:=af.new w 24 #[.int .i64 c.fm,.int .u32 c.mg,.int .i64 c.fr,.int .i64 c.un,.int .i64 c.de,.int .i64 c.it];clear h;go_enter func29,ntmps29
 go_wp2;have k:=b.cell 0;have n:=b.cell 1;have i:=b.cell 2;have m:=b.cell 3;have j:=b.cell 4;have d:=b.cell 5;simp at k n i m j d;refine zo (v:=c.val) (by simp[aR.val,results,results29,go_sem,k,n,i,m,j,d]) rfl ?_;exact⟨rfl,bN⟩
open Go.ChangeShapes Go.WideShapes Go.ChangeAt Go.RowKit
structure vC (e:bA):Prop where
 id:e.id<18446744073709551616
 name:e.name.size<=9223372036854775807
 ty:e.ty.size<=9223372036854775807
theorem oe :prog.cellsOf 57=3:=by kernel_rfl
theorem PZ {H:Type}{enc:TypeId×Value->H}{w:World}{base:Nat}{spare:Nat->Bool}{held:Bool}(p:Nat)(e:List Value)(x:DataW H×List MemPlace)(h:DataW.trod enc prog w base spare held p 57 e=some x):
 ∃f:bA,e= [.int .u64 f.id,.string f.name,.string f.ty]/\vC f:=by
 obtain⟨xs,n,rfl,_,o,q,i⟩:=ZC underlying57 h;rw[oe]at o;match e,o with
 | [c0,c1,c2],_=>
  have b:DataW.trod enc prog w base spare held n 55 ((([c0,c1,c2]:List Value).drop 0).take (prog.cellsOf 55))=xs[0]?:=i 0 _ rfl;have c:DataW.trod enc prog w base spare held n 9 ((([c0,c1,c2]:List Value).drop 1).take (prog.cellsOf 9))=xs[1]?:=i 1 _ rfl;have d:DataW.trod enc prog w base spare held n 9 ((([c0,c1,c2]:List Value).drop 2).take (prog.cellsOf 9))=xs[2]?:=i 2 _ rfl;have s:xs.length=3:=q;rw[zB (by omega)]at b c d;rw[CF]at b;rw[CG]at c d;simp only[zQ,zR,yB,yf]at b c d;obtain⟨i0,l,_,g0⟩:=Zh Yd b;obtain⟨t1,m,_,g1⟩:=ZD zO c;obtain⟨t2,j,_,g2⟩:=ZD zO d;simp at l m j;subst l;subst m;subst j;obtain⟨k,rfl,r⟩:=wf_u64 g0;exact⟨⟨k,t1,t2⟩,rfl,r,by simpa[maxLen]using g1,by simpa[maxLen]using g2⟩
theorem MN {H:Type}{enc:TypeId×Value->H}{w:World}{base:Nat}{spare:Nat->Bool}{held:Bool}(M:Nat)(q:List Value)(x:DataW H×List MemPlace)(h:DataW.trod enc prog w base spare held M 25 q=some x):
 ∃(l:List bA) (v:Value),q= [v]/\rj w w.heap.size v l/\∀f∈l,vC f:=by
 rcases DataW.trod_slice underlying25 h with⟨k,_⟩|⟨a,len,cap,R,rest,m,rfl,k,_,O,L,K,S,C,_,_⟩
 ·exact⟨[],_,k,rj.nil _ _,by simp⟩
 have key:∀i,i<len->∃y:bA,a.spot=none/\w.cell? ⟨a.block,a.off+i*3,none⟩=some (.int .u64 y.id)/\w.cell? ⟨a.block,a.off+i*3+1,none⟩=some (.string y.name)/\w.cell? ⟨a.block,a.off+i*3+2,none⟩=some (.string y.ty)/\vC y:=by
  have first:∀i,i<len->∃c,w.cells? base (a.add (i*3)) 3=some c/\∃z,DataW.trod enc prog w base spare held m 57 c=some z:=by
   intro i hi;have p:=C i hi;rw[oe,zB (by omega)]at p;rw[xu]at p;obtain⟨c,d,b⟩:=p;exact⟨c,d,_,b⟩
  have e:0<len->a.spot=none:=by
   intro J;obtain⟨c,d,_⟩:=first 0 J
   obtain⟨d0,_,_,_,b,_⟩:=sv d;have b:w.cell? a=some d0:=by simpa[Addr.add]using b
   exact JX b
  intro i hi;obtain⟨c,d,z,b⟩:=first i hi
  obtain⟨d0,d1,d2,rfl,g0,g1,g2⟩:=sv d;obtain⟨y,u,E⟩:=PZ m _ _ b;simp at u;obtain⟨rfl,rfl,rfl⟩:=u;have n:=e (by omega);have B:∀j,(a.add (i*3)).add j=⟨a.block,a.off+i*3+j,none⟩:=by
   intro j;obtain⟨F,N,D⟩:=a;simp only at n;subst n;unfold Addr.add;split<;>split<;>simp_all
  have r:=B 0;rw[show(a.add (i*3)).add 0=a.add (i*3)from by simp[Addr.add]]at r;rw[r]at g0;rw[B]at g1 g2;exact⟨y,n,g0,g1,g2,E⟩
 obtain⟨s,G,A⟩:=mM _ len key;subst G;refine⟨s,_,k,⟨some a,cap,rfl,L,by simpa[maxLen]using K,fun j o=> ?_⟩,fun f I=> ?_⟩
 ·obtain⟨e,g0,g1,g2,_⟩:=A j o;refine⟨a.block,a.off, ?_,(by have:=JY g0;simpa using this),by simpa using g0,by simpa using g1,by simpa using g2⟩;obtain⟨F,N,D⟩:=a;simp only at e;subst e;rfl
 obtain⟨j,o,rfl⟩:=List.mem_iff_getElem.1 I;exact(A j o).2.2.2.2
theorem IN {H:Type}{enc:TypeId×Value->H}{w:World}{base m:Nat}{r:Reach}{spare:Nat->Bool}{held:Bool}{v:Value}{d:DataW H}{i:List MemPlace}(k:Value.okWide prog w r m 25 v)(hd:DataW.Trod enc prog w base spare held 25 v d i):
 ∃(l:List bA) (u:Value),v=u/\rj w w.heap.size u l/\∀f∈l,vC f:=by
 obtain⟨A,n,cap,rfl⟩:=okWide_slice underlying25 k;obtain⟨j,e⟩:=hd;obtain⟨l,u,b,c,h⟩:=MN j _ _ e;simp[Value.cells]at b;subst b;exact⟨l,_,rfl,c,h⟩
theorem sI {c:Type}(Q:Nat->c->Prop):∀n,(∀i,i<n->∃y,Q i y)->∃l:List c,l.length=n/\∀i (h:i<l.length),Q i l[i]
 |0,_=>⟨[],rfl,by simp⟩
 |n+1,h=>by
  obtain⟨l,d,j⟩:=sI Q n fun i hi=>h i (by omega)
  obtain⟨y,e⟩:=h n (by omega);refine⟨l++ [y],by simp[d],fun i hi=> ?_⟩;by_cases b:i<l.length
  ·rw[xN b];exact j i b
  have:i=n:=by simp at hi;omega
  subst this;rw[List.getElem_append_right (by omega)];simpa[d]using e
theorem P0 {w:World}{base:Nat}{a:Addr}{i:List Value}(h:w.cells? base a 3=some i):∃b c d,i= [b,c,d]/\w.cell? a=some b/\w.cell? (a.add 1)=some c/\w.cell? (a.add 2)=some d:=by
 unfold World.cells? at h;split at h
 ·have e:List.range 3= [0,1,2]:=rfl;rw[e]at h;simp only[List.mapM_cons,List.mapM_nil,Option.bind_eq_bind,Option.pure_def,xu]at h;obtain⟨b,n,r,⟨c,o,q,⟨d,p,s,m,l⟩,j⟩,k⟩:=h;simp at m l j k;subst m;subst l;subst j;subst k;exact⟨b,c,d,rfl,by simpa[Addr.add]using n,o,p⟩
 cases h
theorem MO {w:World}{a:Addr}{v:Value}(h:w.cell? a=some v):a.spot=none:=by
 unfold World.cell? at h;split at h
 ·split at h
  ·cases h
  rename_i b;simpa using b
 cases h
theorem lF :prog.cellsOf 28=3:=by kernel_rfl
theorem sJ :prog.cellsOf 9=1:=by kernel_rfl
theorem C4 :prog.cellsOf 4=1:=by kernel_rfl
theorem An :prog.cellsOf 26=1:=by kernel_rfl
theorem MP {H:Type}{enc:TypeId×Value->H}{w:World}{base:Nat}{spare:Nat->Bool}{held:Bool}:∀(G:Nat) (D:List Value) (x:DataW H×List MemPlace),DataW.trod enc prog w base spare held G 28 D=some x->
 ∃(y:It) (o e r:Value),D= [o,e,r]/\bZ w w.heap.size y o e r:=by
 intro G;induction G using Nat.strongRecOn with
 |ind G ih=>
  intro D x h;obtain⟨xs,n,rfl,_,O,Y,L⟩:=ZC underlying28 h;rw[lF]at O;match D,O with
  | [o,e,r],_=>
   have p:DataW.trod enc prog w base spare held n 9 ((([o,e,r]:List Value).drop 0).take (prog.cellsOf 9))=xs[0]?:=L 0 _ rfl;have I:DataW.trod enc prog w base spare held n 4 ((([o,e,r]:List Value).drop 1).take (prog.cellsOf 4))=xs[1]?:=L 1 _ rfl;have F:DataW.trod enc prog w base spare held n 26 ((([o,e,r]:List Value).drop 2).take (prog.cellsOf 26))=xs[2]?:=L 2 _ rfl;have aa:xs.length=3:=Y;rw[zB (by omega)]at p I F;rw[sJ]at p;rw[C4]at I;rw[An]at F;simp only[zQ,zR,yB,yf]at p I F;obtain⟨t,B,_,N⟩:=ZD zO p;obtain⟨l,C,_⟩:=DataW.trod_bool underlying4 I;simp at B C;subst B;subst C;rcases DataW.trod_slice underlying26 F with⟨A,_⟩|⟨a,len,cap,ad,rest,m,rfl,A,_,hb,oU,S,ae,U,_,_⟩
   ·simp at A;subst A;exact⟨.mk t l [],_,_,_,rfl,rfl,rfl,by simpa[maxLen]using N,by simp,none,0,rfl,by simp,by simp,trivial⟩
   simp at A;subst A;have key:∀i,i<len->∃y:It,∃b d q,a.spot=none/\w.cell? ⟨a.block,a.off+i*3,none⟩=some b/\w.cell? ⟨a.block,a.off+i*3+1,none⟩=some d/\w.cell? ⟨a.block,a.off+i*3+2,none⟩=some q/\bZ w w.heap.size y b d q:=by
    have first:∀i,i<len->∃k,w.cells? base (a.add (i*3)) 3=some k/\∃z,DataW.trod enc prog w base spare held m 28 k=some z:=by
     intro i hi;have M:=U i hi;rw[lF,zB (by omega)]at M;rw[xu]at M;obtain⟨k,u,c⟩:=M;exact⟨k,u,_,c⟩
    have E:0<len->a.spot=none:=by
     intro p;obtain⟨k,u,_⟩:=first 0 p
     obtain⟨b,_,_,_,c,_⟩:=P0 u;have c:w.cell? a=some b:=by simpa[Addr.add]using c
     exact MO c
    intro i hi;obtain⟨k,u,z,c⟩:=first i hi
    obtain⟨b,d,q,rfl,g0,g1,g2⟩:=P0 u;obtain⟨y,k0,k1,k2,R,K⟩:=ih m (by omega) _ _ c;simp at R;obtain⟨rfl,rfl,rfl⟩:=R;have J:=E (by omega);have C:∀j,(a.add (i*3)).add j=⟨a.block,a.off+i*3+j,none⟩:=by
     intro j;obtain⟨X,ao,W⟩:=a;simp only at J;subst J;unfold Addr.add;split<;>split<;>simp_all
    have B:=C 0;rw[show(a.add (i*3)).add 0=a.add (i*3)from by simp[Addr.add]]at B;rw[B]at g0;rw[C]at g1 g2;exact⟨y,b,d,q,J,g0,g1,g2,K⟩
   obtain⟨s,Z,Gf⟩:=sI _ len key;subst Z;refine⟨.mk t l s,_,_,_,rfl,rfl,rfl,by simpa[maxLen]using N, ?_,some a,cap,rfl,oU,by simpa[maxLen]using S,bU.Eg fun j hj=> ?_⟩
   ·have:cap<=9223372036854775807:=by simpa[maxLen]using S
    omega
   obtain⟨b,d,q,E,g0,g1,g2,K⟩:=Gf j hj;refine⟨a.block,a.off,b,d,q, ?_,lt_of_cell g0,by simpa using g0,by simpa using g1,by simpa using g2,K⟩;obtain⟨X,ao,W⟩:=a;simp only at E;subst E;rfl
theorem sK :prog.cellsOf 30=4:=by kernel_rfl
theorem P4 {H:Type}{enc:TypeId×Value->H}{w:World}{base:Nat}{spare:Nat->Bool}{held:Bool}(r:Nat)(l:List Value)(x:DataW H×List MemPlace)(h:DataW.trod enc prog w base spare held r 30 l=some x):
 ∃(n:ByteArray) (y:It) (d b i:Value),l= [.string n,d,b,i]/\n.size<=maxLen/\bZ w w.heap.size y d b i:=by
 obtain⟨xs,n,rfl,_,p,s,m⟩:=ZC underlying30 h;rw[sK]at p;match l,p with
 | [c,d,b,i],_=>
  have j:DataW.trod enc prog w base spare held n 9 ((([c,d,b,i]:List Value).drop 0).take (prog.cellsOf 9))=xs[0]?:=m 0 _ rfl;have k:DataW.trod enc prog w base spare held n 28 ((([c,d,b,i]:List Value).drop 1).take (prog.cellsOf 28))=xs[1]?:=m 1 _ rfl;have z:xs.length=2:=s;rw[zB (by omega)]at j k;rw[sJ]at j;rw[lF]at k;simp only[zQ,zR,yB,yf]at j k;obtain⟨t,o,_,u⟩:=ZD zO j;simp at o;subst o;obtain⟨y,d0,d1,d2,e,q⟩:=MP _ _ _ k;simp at e;obtain⟨rfl,rfl,rfl⟩:=e;exact⟨t,y,_,_,_,rfl,u,q⟩
