/- hatchwayref17.Right. -/
import Derived.Test.YtimoclkoflamkaaGreatDoorKA31
import Derived.Deep.RegionHeld3
set_option linter.all false
set_option maxRecDepth 100000
set_option maxHeartbeats 4000000
open Go.Proofs.Tryz
namespace Go.Proofs.YtimoclkoflamkaaGreatDoor
open Go.RowKit
variable {w:World}{base:Nat}{H:Type}{held:Bool}{v:Value}{a:Addr}
def xk:=@ntmps24
def xF:=@func24
def ZA:=@DataW.trod_string
theorem Ex (c:aF)(w:World):Calls prog 24 #[c.val] w fun e w'=>e= .returned c.right/\(w,w'):=by
 unfold aF.val;by_cases n:1<=c.fm
 ·skip
  by_cases j:c.fm<=3
  ·skip
   by_cases k:1<=c.fr
   ·skip
    by_cases b:c.fr<=65536
    ·skip
     by_cases l:1<=c.un
     ·skip
      by_cases h:c.un<=65536
      ·skip
       by_cases d:1<=c.de
       ·skip
        by_cases m:c.de<=16
        ·skip
         by_cases i:1<=c.it
         ·skip
          by_cases o:c.it<=1024
          ·skip
           go_enter xF,xk
           go_wp2;go_ret;exact⟨aU (by simp_all[aF.right]<;>(intros;omega)),bQ⟩
          skip
          go_enter xF,xk
          go_wp2;go_ret;exact⟨aU (by simp_all[aF.right]<;>(intros;omega)),bQ⟩
         skip
         go_enter xF,xk
         go_wp2;go_ret;exact⟨aU (by simp_all[aF.right]<;>(intros;omega)),bQ⟩
        skip
        go_enter xF,xk
        go_wp2;go_ret;exact⟨aU (by simp_all[aF.right]<;>(intros;omega)),bQ⟩
       skip
       go_enter xF,xk
       go_wp2;go_ret;exact⟨aU (by simp_all[aF.right]<;>(intros;omega)),bQ⟩
      skip
      go_enter xF,xk
      go_wp2;go_ret;exact⟨aU (by simp_all[aF.right]<;>(intros;omega)),bQ⟩
     skip
     go_enter xF,xk
     go_wp2;go_ret;exact⟨aU (by simp_all[aF.right]<;>(intros;omega)),bQ⟩
    skip
    go_enter xF,xk
    go_wp2;go_ret;exact⟨aU (by simp_all[aF.right]<;>(intros;omega)),bQ⟩
   skip
   go_enter xF,xk
   go_wp2;go_ret;exact⟨aU (by simp_all[aF.right]<;>(intros;omega)),bQ⟩
  skip
  go_enter xF,xk
  go_wp2;go_ret;exact⟨aU (by simp_all[aF.right]<;>(intros;omega)),bQ⟩
 skip
 go_enter xF,xk
 go_wp2;go_ret;exact⟨aU (by simp_all[aF.right]<;>(intros;omega)),bQ⟩
open Go.ChangeShapes Go.WideShapes Go.ChangeAt Go.RowKit
structure sZ (e:aV):Prop where
 id:e.id<18446744073709551616
 name:e.name.size<=9223372036854775807
 ty:e.ty.size<=9223372036854775807
theorem pc :prog.cellsOf 63=3:=by kernel_rfl
theorem SL {enc:TypeId×Value->H}{spare:Nat->Bool}(r:Nat)(e:List Value)(x:DataW H×List MemPlace)(h:DataW.trod enc prog w base spare held r 63 e=some x):
 ∃f:aV,e= [.int .u64 f.id,.string f.name,.string f.ty]/\sZ f:=by
 obtain⟨xs,n,rfl,_,o,q,i⟩:=Zz underlying63 h;rw[pc]at o;match e,o with
 | [c0,c1,c2],_=>
  have d:DataW.trod enc prog w base spare held n 61 ((([c0,c1,c2]:List Value).drop 0).take (prog.cellsOf 61))=xs[0]?:=i 0 _ rfl;have b:DataW.trod enc prog w base spare held n 9 ((([c0,c1,c2]:List Value).drop 1).take (prog.cellsOf 9))=xs[1]?:=i 1 _ rfl;have c:DataW.trod enc prog w base spare held n 9 ((([c0,c1,c2]:List Value).drop 2).take (prog.cellsOf 9))=xs[2]?:=i 2 _ rfl;have s:xs.length=3:=q;rw[zr (by omega)]at d b c;rw[Ea]at d;rw[Eb]at b c;simp only[zG,zO,yq,zV]at d b c;obtain⟨i0,j,_,g0⟩:=yX Yd d;obtain⟨t1,m,_,g1⟩:=ZA zH b;obtain⟨t2,l,_,g2⟩:=ZA zH c;simp at j m l;subst j;subst m;subst l;obtain⟨k,rfl,p⟩:=wf_u64 g0;exact⟨⟨k,t1,t2⟩,rfl,p,by simpa[maxLen]using g1,by simpa[maxLen]using g2⟩
theorem Pa {enc:TypeId×Value->H}{spare:Nat->Bool}(E:Nat)(A:List Value)(x:DataW H×List MemPlace)(h:DataW.trod enc prog w base spare held E 25 A=some x):
 ∃(l:List aV) (v:Value),A= [v]/\oA w w.heap.size v l/\∀f∈l,sZ f:=by
 rcases DataW.trod_slice underlying25 h with⟨o,_⟩|⟨a,len,cap,R,rest,m,rfl,o,_,O,C,K,S,I,_,_⟩
 ·exact⟨[],_,o,oA.nil _ _,by simp⟩
 have key:∀i,i<len->∃y:aV,a.spot=none/\(w,a.block,a.off+i*3,Value.int .u64 y.id)/\(w,a.block,a.off+i*3+1,y.name)/\(w,a.block,a.off+i*3+2,y.ty)/\sZ y:=by
  have first:∀i,i<len->∃c,w.cells? base (a.add (i*3)) 3=some c/\∃z,DataW.trod enc prog w base spare held m 63 c=some z:=by
   intro i hi;have k:=I i hi;rw[pc,zr (by omega)]at k;rw[xi]at k;obtain⟨c,d,b⟩:=k;exact⟨c,d,_,b⟩
  have e:0<len->a.spot=none:=by
   intro L;obtain⟨c,d,_⟩:=first 0 L
   obtain⟨d0,_,_,_,b,_⟩:=tP d;have b:w.cell? a=some d0:=by simpa[Addr.add]using b
   exact Md b
  intro i hi;obtain⟨c,d,z,b⟩:=first i hi
  obtain⟨d0,d1,d2,rfl,g0,g1,g2⟩:=tP d;obtain⟨y,r,G⟩:=SL m _ _ b;simp at r;obtain⟨rfl,rfl,rfl⟩:=r;have n:=e (by omega);have u:∀j,(a.add (i*3)).add j=⟨a.block,a.off+i*3+j,none⟩:=by
   intro j;obtain⟨M,D,N⟩:=a;simp only at n;subst n;unfold Addr.add;split<;>split<;>simp_all
  have q:=u 0;rw[show(a.add (i*3)).add 0=a.add (i*3)from by simp[Addr.add]]at q;rw[q]at g0;rw[u]at g1 g2;exact⟨y,n,g0,g1,g2,G⟩
 obtain⟨s,J,B⟩:=nK _ len key;subst J;refine⟨s,_,o,⟨some a,cap,rfl,C,by simpa[maxLen]using K,fun j p=> ?_⟩,fun f F=> ?_⟩
 ·obtain⟨e,g0,g1,g2,_⟩:=B j p;refine⟨a.block,a.off, ?_,(by have:=Me g0;simpa using this),by simpa using g0,by simpa using g1,by simpa using g2⟩;obtain⟨M,D,N⟩:=a;simp only at e;subst e;rfl
 obtain⟨j,p,rfl⟩:=List.mem_iff_getElem.1 F;exact(B j p).2.2.2.2
theorem AK {enc:TypeId×Value->H}{e:Nat}{r:Reach}{spare:Nat->Bool}{d:DataW H}{i:List MemPlace}(m:Value.okWide prog w r e 25 v)(hd:DataW.Trod enc prog w base spare held 25 v d i):
 ∃(l:List aV) (u:Value),v=u/\oA w w.heap.size u l/\∀f∈l,sZ f:=by
 obtain⟨A,n,cap,rfl⟩:=okWide_slice underlying25 m;obtain⟨h,j⟩:=hd;obtain⟨l,u,b,k,c⟩:=Pa h _ _ j;simp[Value.cells]at b;subst b;exact⟨l,_,rfl,k,c⟩
theorem ud {d:Type}(Q:Nat->d->Prop):∀n,(∀i,i<n->∃y,Q i y)->∃l:List d,l.length=n/\∀i (h:i<l.length),Q i l[i]
 |0,_=>⟨[],rfl,by simp⟩
 |n+1,h=>by
  obtain⟨l,b,e⟩:=ud Q n fun i hi=>h i (by omega)
  obtain⟨y,j⟩:=h n (by omega);refine⟨l++ [y],by simp[b],fun i hi=> ?_⟩;by_cases c:i<l.length
  ·rw[xL c];exact e i c
  have:i=n:=by simp at hi;omega
  subst this;rw[List.getElem_append_right (by omega)];simpa[b]using j
theorem SM {m:List Value}(h:w.cells? base a 3=some m):∃b d c,m= [b,d,c]/\w.cell? a=some b/\w.cell? (a.add 1)=some d/\w.cell? (a.add 2)=some c:=by
 unfold World.cells? at h;split at h
 ·have e:List.range 3= [0,1,2]:=rfl;rw[e]at h;simp only[List.mapM_cons,List.mapM_nil,Option.bind_eq_bind,Option.pure_def,xi]at h;obtain⟨b,p,r,⟨d,n,q,⟨c,o,s,i,l⟩,k⟩,j⟩:=h;simp at i l k j;subst i;subst l;subst k;subst j;exact⟨b,d,c,rfl,by simpa[Addr.add]using p,n,o⟩
 cases h
theorem Pb (h:w.cell? a=some v):a.spot=none:=by
 unfold World.cell? at h;split at h
 ·split at h
  ·cases h
  rename_i b;simpa using b
 cases h
theorem l9 :prog.cellsOf 28=3:=by kernel_rfl
theorem ue :prog.cellsOf 9=1:=by kernel_rfl
theorem Ey :prog.cellsOf 4=1:=by kernel_rfl
theorem BZ :prog.cellsOf 26=1:=by kernel_rfl
theorem Pc {enc:TypeId×Value->H}{spare:Nat->Bool}:∀(E:Nat) (F:List Value) (x:DataW H×List MemPlace),DataW.trod enc prog w base spare held E 28 F=some x->
 ∃(y:It) (d r p:Value),F= [d,r,p]/\bH w w.heap.size y d r p:=by
 intro E;induction E using Nat.strongRecOn with
 |ind E ih=>
  intro F x h;obtain⟨xs,n,rfl,_,N,U,K⟩:=Zz underlying28 h;rw[l9]at N;match F,N with
  | [d,r,p],_=>
   have k:DataW.trod enc prog w base spare held n 9 ((([d,r,p]:List Value).drop 0).take (prog.cellsOf 9))=xs[0]?:=K 0 _ rfl;have D:DataW.trod enc prog w base spare held n 4 ((([d,r,p]:List Value).drop 1).take (prog.cellsOf 4))=xs[1]?:=K 1 _ rfl;have I:DataW.trod enc prog w base spare held n 26 ((([d,r,p]:List Value).drop 2).take (prog.cellsOf 26))=xs[2]?:=K 2 _ rfl;have ad:xs.length=3:=U;rw[zr (by omega)]at k D I;rw[ue]at k;rw[Ey]at D;rw[BZ]at I;simp only[zG,zO,yq,zV]at k D I;obtain⟨t,u,_,R⟩:=ZA zH k;obtain⟨l,B,_⟩:=DataW.trod_bool underlying4 D;simp at u B;subst u;subst B;rcases DataW.trod_slice xU I with⟨C,_⟩|⟨a,len,cap,ae,rest,m,rfl,C,_,hb,W,S,af,Y,_,_⟩
   ·simp at C;subst C;exact⟨.mk t l [],_,_,_,rfl,rfl,rfl,by simpa[maxLen]using R,by simp,none,0,rfl,by simp,by simp,trivial⟩
   simp at C;subst C;have key:∀i,i<len->∃y:It,∃b e q,a.spot=none/\(w,a.block,a.off+i*3,b)/\(w,a.block,a.off+i*3+1,e)/\(w,a.block,a.off+i*3+2,q)/\bH w w.heap.size y b e q:=by
    have first:∀i,i<len->∃o,w.cells? base (a.add (i*3)) 3=some o/\∃z,DataW.trod enc prog w base spare held m 28 o=some z:=by
     intro i hi;have J:=Y i hi;rw[l9,zr (by omega)]at J;rw[xi]at J;obtain⟨o,A,c⟩:=J;exact⟨o,A,_,c⟩
    have G:0<len->a.spot=none:=by
     intro k;obtain⟨o,A,_⟩:=first 0 k
     obtain⟨b,_,_,_,c,_⟩:=SM A;have c:w.cell? a=some b:=by simpa[Addr.add]using c
     exact Pb c
    intro i hi;obtain⟨o,A,z,c⟩:=first i hi
    obtain⟨b,e,q,rfl,g0,g1,g2⟩:=SM A;obtain⟨y,k0,k1,k2,O,M⟩:=ih m (by omega) _ _ c;simp at O;obtain⟨rfl,rfl,rfl⟩:=O;have L:=G (by omega);have B:∀j,(a.add (i*3)).add j=⟨a.block,a.off+i*3+j,none⟩:=by
     intro j;obtain⟨ab,X,aa⟩:=a;simp only at L;subst L;unfold Addr.add;split<;>split<;>simp_all
    have u:=B 0;rw[show(a.add (i*3)).add 0=a.add (i*3)from by simp[Addr.add]]at u;rw[u]at g0;rw[B]at g1 g2;exact⟨y,b,e,q,L,g0,g1,g2,M⟩
   obtain⟨s,Z,qi⟩:=ud _ len key;subst Z;refine⟨.mk t l s,_,_,_,rfl,rfl,rfl,by simpa[maxLen]using R, ?_,some a,cap,rfl,W,by simpa[maxLen]using S,bN.uK fun j hj=> ?_⟩
   ·have:cap<=9223372036854775807:=by simpa[maxLen]using S
    omega
   obtain⟨b,e,q,G,g0,g1,g2,M⟩:=qi j hj;refine⟨a.block,a.off,b,e,q, ?_,lt_of_cell g0,by simpa using g0,by simpa using g1,by simpa using g2,M⟩;obtain⟨ab,X,aa⟩:=a;simp only at G;subst G;rfl
theorem nV :prog.cellsOf 30=4:=by kernel_rfl
theorem Hp {enc:TypeId×Value->H}{spare:Nat->Bool}(s:Nat)(l:List Value)(x:DataW H×List MemPlace)(h:DataW.trod enc prog w base spare held s 30 l=some x):
 ∃(n:ByteArray) (y:It) (b i d:Value),l= [.string n,b,i,d]/\n.size<=maxLen/\bH w w.heap.size y b i d:=by
 obtain⟨xs,n,rfl,_,o,q,p⟩:=Zz underlying30 h;rw[nV]at o;match l,o with
 | [c,b,i,d],_=>
  have k:DataW.trod enc prog w base spare held n 9 ((([c,b,i,d]:List Value).drop 0).take (prog.cellsOf 9))=xs[0]?:=p 0 _ rfl;have j:DataW.trod enc prog w base spare held n 28 ((([c,b,i,d]:List Value).drop 1).take (prog.cellsOf 28))=xs[1]?:=p 1 _ rfl;have z:xs.length=2:=q;rw[zr (by omega)]at k j;rw[ue]at k;rw[l9]at j;simp only[zG,zO,yq,zV]at k j;obtain⟨t,m,_,r⟩:=ZA zH k;simp at m;subst m;obtain⟨y,d0,d1,d2,e,u⟩:=Pc _ _ _ j;simp at e;obtain⟨rfl,rfl,rfl⟩:=e;exact⟨t,y,_,_,_,rfl,r,u⟩
