/- hatchwayref17.Right. -/
import Derived.Test.YtdbmifjankgfpaaGreatDoorKA10
import Derived.Deep.RegionHeld3
set_option linter.all false
set_option maxRecDepth 100000
set_option maxHeartbeats 4000000
open Go.Proofs.Tryz
namespace Go.Proofs.YtdbmifjankgfpaaGreatDoor
open Go.RowKit
def zX:=@IntWalk.i64_in
def xp:=@ntmps49
def xE:=@func49
theorem Dl (c:aI)(w:World):Calls prog 49 #[c.val] w fun e w'=>e= .returned (.bool c.right)/\Below w.heap.size w w':=by
 unfold aI.val;by_cases n:1<=c.fm
 ·skip
  by_cases k:c.fm<=3
  ·skip
   by_cases l:1<=c.fr
   ·skip
    by_cases o:c.fr<=65536
    ·skip
     by_cases b:1<=c.un
     ·skip
      by_cases j:c.un<=65536
      ·skip
       by_cases h:1<=c.de
       ·skip
        by_cases m:c.de<=16
        ·skip
         by_cases i:1<=c.it
         ·skip
          by_cases d:c.it<=1024
          ·skip
           go_enter xE,xp
           go_wp2;go_ret;exact⟨aV (by simp_all[aI.right]<;>(intros;omega)),bT⟩
          skip
          go_enter xE,xp
          go_wp2;go_ret;exact⟨aV (by simp_all[aI.right]<;>(intros;omega)),bT⟩
         skip
         go_enter xE,xp
         go_wp2;go_ret;exact⟨aV (by simp_all[aI.right]<;>(intros;omega)),bT⟩
        skip
        go_enter xE,xp
        go_wp2;go_ret;exact⟨aV (by simp_all[aI.right]<;>(intros;omega)),bT⟩
       skip
       go_enter xE,xp
       go_wp2;go_ret;exact⟨aV (by simp_all[aI.right]<;>(intros;omega)),bT⟩
      skip
      go_enter xE,xp
      go_wp2;go_ret;exact⟨aV (by simp_all[aI.right]<;>(intros;omega)),bT⟩
     skip
     go_enter xE,xp
     go_wp2;go_ret;exact⟨aV (by simp_all[aI.right]<;>(intros;omega)),bT⟩
    skip
    go_enter xE,xp
    go_wp2;go_ret;exact⟨aV (by simp_all[aI.right]<;>(intros;omega)),bT⟩
   skip
   go_enter xE,xp
   go_wp2;go_ret;exact⟨aV (by simp_all[aI.right]<;>(intros;omega)),bT⟩
  skip
  go_enter xE,xp
  go_wp2;go_ret;exact⟨aV (by simp_all[aI.right]<;>(intros;omega)),bT⟩
 skip
 go_enter xE,xp
 go_wp2;go_ret;exact⟨aV (by simp_all[aI.right]<;>(intros;omega)),bT⟩
theorem qH (c:Int)(w:World):Calls prog 79 #[.int .i64 c] w fun e w'=>e= .returned (.int .i64 (fJ c))/\w=w':=by
 by_cases d:c<128
 ·have b:fJ c=1:=by unfold fJ;rw[zi d]
  rw[b];clear b;go_enter func79,ntmps79
  go_wp2;go_ret;exact⟨rfl,rfl⟩
 by_cases h:c<16384
 ·have b:fJ c=2:=by unfold fJ;rw[zh d,zi h]
  rw[b];clear b;go_enter func79,ntmps79
  go_wp2;go_ret;exact⟨rfl,rfl⟩
 have b:fJ c=3:=by unfold fJ;rw[zh d,zh h]
 rw[b];clear b;go_enter func79,ntmps79
 go_wp2;go_ret;exact⟨rfl,rfl⟩
theorem QN (b:Int)(w:World):Calls prog 74 #[.int .i64 b] w fun e w'=>e= .returned (.int .i64 24)/\w=w':=by
 go_enter func74,ntmps74
 go_wp2;go_ret;exact⟨rfl,rfl⟩
theorem QO (c:aI)(n:c.fm=1)(q:c.right=true)(w:World):Calls prog 25 #[c.val] w fun e w'=>e= .returned (.int .i64 (eV c))/\Below w.heap.size w w':=by
 have s:Hid (eV c=24+c.fr):=za (by unfold eV;rw[zi q,zi n]);have r:=(c.bB).1 q;have N:=r.2.2.1;have J:=r.2.2.2.1;have G:=za QN;rw[s.out];clear r s;have s:Hid ((0:Int)=0):=za rfl;have C:=Jc;have A:=Nu;unfold l7 Vt iD at C;unfold Vt iD at A;have z:=za (fun w=>eW c w);rw[q]at z;unfold aI.val at*;obtain⟨U,k,l,j,m,it⟩:=c;simp only at n;subst n;simp only at*;obtain⟨d,h⟩:∃d,w.alloc (.cells #[.int .i64 1,.int .u32 k,.int .i64 l,.int .i64 j,.int .i64 m,.int .i64 it] 24)=d:=⟨_,rfl⟩
 have hz:d.heap.size=w.heap.size+1:=by rw[<-h];simp
 have b:af d w.heap.size 24 #[.int .i64 1,.int .u32 k,.int .i64 l,.int .i64 j,.int .i64 m,.int .i64 it]:=by rw[<-h];exact af.new w _ _
 have F:Hid (Below w.heap.size w d):=za (by rw[<-h];exact bT);have i:Hid (∀V,Below d.heap.size d V->V.cell? ⟨w.heap.size,0,none⟩=some (.int .i64 1)/\V.cell? ⟨w.heap.size,1,none⟩=some (.int .u32 k)/\V.cell? ⟨w.heap.size,2,none⟩=some (.int .i64 l)/\V.cell? ⟨w.heap.size,3,none⟩=some (.int .i64 j)/\V.cell? ⟨w.heap.size,4,none⟩=some (.int .i64 m)/\V.cell? ⟨w.heap.size,5,none⟩=some (.int .i64 it)):=za (fun V o=>by
  have b:=(o.block w.heap.size (by omega)).trans b;have b:af V w.heap.size 24 #[.int .i64 1,.int .u32 k,.int .i64 l,.int .i64 j,.int .i64 m,.int .i64 it]:=b;exact⟨b.cell 0,b.cell 1,b.cell 2,b.cell 3,b.cell 4,b.cell 5⟩)
 have y:Hid (∀V,Below d.heap.size d V->Calls prog 46 #[] V fun e w'=>e= .returned l7/\Below d.heap.size d w'):=za (fun V o=>(cB V).mono fun e w' ⟨n,H⟩=>⟨n,o.trans (H.mono o.size)⟩);have E:=za h;have D:=za hz;unfold l7 iD at y;clear h b hz;go_enter func25,ntmps25
 go_wp2_with fail
 rw[E.out];refine(z.out _).mono ?_;rintro e B ⟨rfl,x⟩;have p:=za x;clear x;obtain⟨I,K,L,S,O,R⟩:=i.out B p.out;go_wp2_with fail
 go_region_held3 (fun V=>V.cell? ⟨w.heap.size,0,none⟩=some (.int .i64 1)/\V.cell? ⟨w.heap.size,1,none⟩=some (.int .u32 k)/\V.cell? ⟨w.heap.size,2,none⟩=some (.int .i64 l)/\V.cell? ⟨w.heap.size,3,none⟩=some (.int .i64 j)/\V.cell? ⟨w.heap.size,4,none⟩=some (.int .i64 m)/\V.cell? ⟨w.heap.size,5,none⟩=some (.int .i64 it))
  (first|exact i.out _ p.out|exact i.out _ p.out.drew|exact i.out _ u|exact i.out _ u.drew)
  (first
   |(go_at_call 46;((with_reducible refine(y.out _ p.out.drew).mono ?_);rintro e w' ⟨rfl,u⟩))
   |(go_at_call 74;((with_reducible refine(G.out _ _).mono ?_);rintro e M ⟨rfl,rfl⟩)))
 all_goals
  go_wp2;go_ret;refine⟨?_,F.out.trans (u.mono (by have:=D.out;omega))⟩;exact gd (by first|rfl|rw[zX _ (by omega)])
theorem QP (c:aI)(p:c.fm=2)(q:c.right=true)(w:World):Calls prog 25 #[c.val] w fun e w'=>e= .returned (.int .i64 (eV c))/\Below w.heap.size w w':=by
 have s:Hid (eV c=fJ c.fr+c.fr):=za (by unfold eV;rw[zi q,zh (by omega)]);have r:=(c.bB).1 q;have N:=r.2.2.1;have J:=r.2.2.2.1;have W:1<=fJ c.fr/\fJ c.fr<=3:=by unfold fJ;split<;>(try split)<;>omega
 have G:=za qH;rw[s.out];clear r s;have s:Hid ((0:Int)=0):=za rfl;have C:=Jd;have A:=Nw;unfold l7 Vu iD at C;unfold Vu iD at A;have z:=za (fun w=>eW c w);rw[q]at z;unfold aI.val at*;obtain⟨U,k,l,j,m,it⟩:=c;simp only at p;subst p;simp only at*;obtain⟨d,h⟩:∃d,w.alloc (.cells #[.int .i64 2,.int .u32 k,.int .i64 l,.int .i64 j,.int .i64 m,.int .i64 it] 24)=d:=⟨_,rfl⟩
 have hz:d.heap.size=w.heap.size+1:=by rw[<-h];simp
 have b:af d w.heap.size 24 #[.int .i64 2,.int .u32 k,.int .i64 l,.int .i64 j,.int .i64 m,.int .i64 it]:=by rw[<-h];exact af.new w _ _
 have F:Hid (Below w.heap.size w d):=za (by rw[<-h];exact bT);have i:Hid (∀V,Below d.heap.size d V->V.cell? ⟨w.heap.size,0,none⟩=some (.int .i64 2)/\V.cell? ⟨w.heap.size,1,none⟩=some (.int .u32 k)/\V.cell? ⟨w.heap.size,2,none⟩=some (.int .i64 l)/\V.cell? ⟨w.heap.size,3,none⟩=some (.int .i64 j)/\V.cell? ⟨w.heap.size,4,none⟩=some (.int .i64 m)/\V.cell? ⟨w.heap.size,5,none⟩=some (.int .i64 it)):=za (fun V n=>by
  have b:=(n.block w.heap.size (by omega)).trans b;have b:af V w.heap.size 24 #[.int .i64 2,.int .u32 k,.int .i64 l,.int .i64 j,.int .i64 m,.int .i64 it]:=b;exact⟨b.cell 0,b.cell 1,b.cell 2,b.cell 3,b.cell 4,b.cell 5⟩)
 have y:Hid (∀V,Below d.heap.size d V->Calls prog 46 #[] V fun e w'=>e= .returned l7/\Below d.heap.size d w'):=za (fun V n=>(cB V).mono fun e w' ⟨p,H⟩=>⟨p,n.trans (H.mono n.size)⟩);have E:=za h;have D:=za hz;unfold l7 iD at y;clear h b hz;go_enter func25,ntmps25
 go_wp2_with fail
 rw[E.out];refine(z.out _).mono ?_;rintro e B ⟨rfl,x⟩;have o:=za x;clear x;obtain⟨I,K,L,S,O,R⟩:=i.out B o.out;go_wp2_with fail
 go_region_held3 (fun V=>V.cell? ⟨w.heap.size,0,none⟩=some (.int .i64 2)/\V.cell? ⟨w.heap.size,1,none⟩=some (.int .u32 k)/\V.cell? ⟨w.heap.size,2,none⟩=some (.int .i64 l)/\V.cell? ⟨w.heap.size,3,none⟩=some (.int .i64 j)/\V.cell? ⟨w.heap.size,4,none⟩=some (.int .i64 m)/\V.cell? ⟨w.heap.size,5,none⟩=some (.int .i64 it))
  (first|exact i.out _ o.out|exact i.out _ o.out.drew|exact i.out _ u|exact i.out _ u.drew)
  (first
   |(go_at_call 46;((with_reducible refine(y.out _ o.out.drew).mono ?_);rintro e w' ⟨rfl,u⟩))
   |(go_at_call 79;((with_reducible refine(G.out _ _).mono ?_);rintro e M ⟨rfl,rfl⟩)))
 all_goals
  go_wp2;go_ret;refine⟨?_,F.out.trans (u.mono (by have:=D.out;omega))⟩;exact gd (by first|rfl|rw[zX _ (by omega)])
theorem QQ (c:aI)(p:c.fm=3)(q:c.right=true)(w:World):Calls prog 25 #[c.val] w fun e w'=>e= .returned (.int .i64 (eV c))/\Below w.heap.size w w':=by
 have s:Hid (eV c=fJ c.fr+c.fr):=za (by unfold eV;rw[zi q,zh (by omega)]);have r:=(c.bB).1 q;have N:=r.2.2.1;have J:=r.2.2.2.1;have W:1<=fJ c.fr/\fJ c.fr<=3:=by unfold fJ;split<;>(try split)<;>omega
 have G:=za qH;rw[s.out];clear r s;have s:Hid ((0:Int)=0):=za rfl;have C:=Je;have A:=NA;unfold l7 Vv iD at C;unfold Vv iD at A;have z:=za (fun w=>eW c w);rw[q]at z;unfold aI.val at*;obtain⟨U,k,l,j,m,it⟩:=c;simp only at p;subst p;simp only at*;obtain⟨d,h⟩:∃d,w.alloc (.cells #[.int .i64 3,.int .u32 k,.int .i64 l,.int .i64 j,.int .i64 m,.int .i64 it] 24)=d:=⟨_,rfl⟩
 have hz:d.heap.size=w.heap.size+1:=by rw[<-h];simp
 have b:af d w.heap.size 24 #[.int .i64 3,.int .u32 k,.int .i64 l,.int .i64 j,.int .i64 m,.int .i64 it]:=by rw[<-h];exact af.new w _ _
 have F:Hid (Below w.heap.size w d):=za (by rw[<-h];exact bT);have i:Hid (∀V,Below d.heap.size d V->V.cell? ⟨w.heap.size,0,none⟩=some (.int .i64 3)/\V.cell? ⟨w.heap.size,1,none⟩=some (.int .u32 k)/\V.cell? ⟨w.heap.size,2,none⟩=some (.int .i64 l)/\V.cell? ⟨w.heap.size,3,none⟩=some (.int .i64 j)/\V.cell? ⟨w.heap.size,4,none⟩=some (.int .i64 m)/\V.cell? ⟨w.heap.size,5,none⟩=some (.int .i64 it)):=za (fun V n=>by
  have b:=(n.block w.heap.size (by omega)).trans b;have b:af V w.heap.size 24 #[.int .i64 3,.int .u32 k,.int .i64 l,.int .i64 j,.int .i64 m,.int .i64 it]:=b;exact⟨b.cell 0,b.cell 1,b.cell 2,b.cell 3,b.cell 4,b.cell 5⟩)
 have y:Hid (∀V,Below d.heap.size d V->Calls prog 46 #[] V fun e w'=>e= .returned l7/\Below d.heap.size d w'):=za (fun V n=>(cB V).mono fun e w' ⟨p,H⟩=>⟨p,n.trans (H.mono n.size)⟩);have E:=za h;have D:=za hz;unfold l7 iD at y;clear h b hz;go_enter func25,ntmps25
 go_wp2_with fail
 rw[E.out];refine(z.out _).mono ?_;rintro e B ⟨rfl,x⟩;have o:=za x;clear x;obtain⟨I,K,L,S,O,R⟩:=i.out B o.out;go_wp2_with fail
 go_region_held3 (fun V=>V.cell? ⟨w.heap.size,0,none⟩=some (.int .i64 3)/\V.cell? ⟨w.heap.size,1,none⟩=some (.int .u32 k)/\V.cell? ⟨w.heap.size,2,none⟩=some (.int .i64 l)/\V.cell? ⟨w.heap.size,3,none⟩=some (.int .i64 j)/\V.cell? ⟨w.heap.size,4,none⟩=some (.int .i64 m)/\V.cell? ⟨w.heap.size,5,none⟩=some (.int .i64 it))
  (first|exact i.out _ o.out|exact i.out _ o.out.drew|exact i.out _ u|exact i.out _ u.drew)
  (first
   |(go_at_call 46;((with_reducible refine(y.out _ o.out.drew).mono ?_);rintro e w' ⟨rfl,u⟩))
   |(go_at_call 79;((with_reducible refine(G.out _ _).mono ?_);rintro e M ⟨rfl,rfl⟩)))
 all_goals
  go_wp2;go_ret;refine⟨?_,F.out.trans (u.mono (by have:=D.out;omega))⟩;exact gd (by first|rfl|rw[zX _ (by omega)])
theorem Uf (c:aI)(w:World):Calls prog 25 #[c.val] w fun e w'=>e= .returned (.int .i64 (eV c))/\Below w.heap.size w w':=by
 cases hr:c.right with
 |true=>
  have l:=(c.bB).1 hr;rcases(by omega:c.fm=1\/c.fm=2\/c.fm=3)with h|h|h
  ·exact QO c h hr w
  ·exact QP c h hr w
  exact QQ c h hr w
 |false=>
  have d:eV c=0:=by unfold eV;rw[hr];rfl
  have i:=za (fun w=>eW c w);rw[hr]at i;rw[d];clear d hr;unfold aI.val at*;go_enter func25,ntmps25
  go_wp2_with fail
  refine(i.out _).mono ?_;rintro e j ⟨rfl,b⟩;have k:Below w.heap.size w j:=((zm _ w).alloc (zg _) _).trans (b.mono (by simp));clear b;go_wp2;go_ret;exact⟨rfl,k⟩
