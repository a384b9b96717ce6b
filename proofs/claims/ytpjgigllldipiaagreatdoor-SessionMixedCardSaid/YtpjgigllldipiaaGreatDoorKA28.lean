/- Package schema: May. -/
import Derived.Test.YtpjgigllldipiaaGreatDoorKA26
import Derived.Laws.EntriesVeiled
import Derived.Test.YtpjgigllldipiaaGreatDoorKA13
set_option linter.all false
set_option maxRecDepth 100000
set_option maxHeartbeats 2000000
namespace Go.Proofs.YtpjgigllldipiaaGreatDoor
open Tryz
open Go.RowKit
def Laid (w:World):Prop:=w.cell? ⟨1,0,none⟩=some (.int .i64 1)/\w.cell? ⟨1,1,none⟩=some (.int .i64 2)/\w.cell? ⟨1,2,none⟩=some (.int .i64 4)/\w.cell? ⟨1,3,none⟩=some (.int .i64 8)
theorem Laid.pos {w:World}(h:Laid w):1<w.heap.size:=lt_of_cell h.1
theorem Laid.same {w w':World}(h:Laid w)(b:w'.heap[1]?=w.heap[1]?):Laid w':=
 ⟨(zL b).trans h.1,(zL b).trans h.2.1,(zL b).trans h.2.2.1,(zL b).trans h.2.2.2⟩
theorem Laid.below {w w':World}{B:Nat}(h:Laid w)(b:Below B w w')(c:1<B):Laid w':=h.same (b.block 1 c)
theorem Laid.only {w w':World}{L:List Nat}(h:Laid w)(c:ae L w w')(b:1∉L):Laid w':=h.same (c.block 1 h.pos b)
theorem Laid.alloc {w:World}(h:Laid w)(o:Obj):Laid (w.alloc o):=h.below ((zq w.heap.size w).alloc (zf _) o) h.pos
def lA (n:Int):Bool:=decide (n=1\/n=2\/n=4\/n=8)
theorem PH (n:Int)(w:World)(h:Laid w):Calls prog 204 #[.int .i64 n] w fun e w'=>e= .returned (.bool (lA n))/\w=w':=by
 obtain⟨z,D,y,A⟩:=h;obtain⟨R,l⟩:∃R,Hid (lA n=R):=⟨_,za rfl⟩
 rw[l.out];have B:∀w,(Instr.index 261 (.agg #[.int .i64 1,.int .i64 2,.int .i64 4,.int .i64 8]) (.int .i64 0)).run prog w= .ok (.int .i64 1) w:=fun _=>by kernel_rfl
 have i1:∀w,(Instr.index 261 (.agg #[.int .i64 1,.int .i64 2,.int .i64 4,.int .i64 8]) (.int .i64 1)).run prog w= .ok (.int .i64 2) w:=fun _=>by kernel_rfl
 have i2:∀w,(Instr.index 261 (.agg #[.int .i64 1,.int .i64 2,.int .i64 4,.int .i64 8]) (.int .i64 2)).run prog w= .ok (.int .i64 4) w:=fun _=>by kernel_rfl
 have C:∀w,(Instr.index 261 (.agg #[.int .i64 1,.int .i64 2,.int .i64 4,.int .i64 8]) (.int .i64 3)).run prog w= .ok (.int .i64 8) w:=fun _=>by kernel_rfl
 go_enter func204,ntmps204
 go_wp2_with fail
 go_loop [6] (fun i=>∃k:Nat,k<=4/\i= .int .i64 k/\Hid (∀j,j<k->n≠([1,2,4,8]:List Int).getD j 0)) (fun i=>4-(intOf i).toNat)
 case atStart=>exact⟨0,by omega,rfl,za (by omega)⟩
 case round=>
  obtain⟨k,x,rfl,m⟩:=hrel;have key:k=0\/k=1\/k=2\/k=3\/k=4:=by omega
  rcases key with rfl|rfl|rfl|rfl|rfl
  ·by_cases b:n=1
   ·have c:Hid (R=true):=za (by rw[<-l.out];unfold lA;rw[zH];omega);subst b;go_wp2;go_ret;exact⟨by rw[c.out];rfl,rfl⟩
   have q:(n==(1:Int))=false:=zr.2 b;have d:Hid (∀j,j<0+1->n≠([1,2,4,8]:List Int).getD j 0):=za (fun j p=>by
    by_cases h:j=0
    ·subst h;simpa using b
    exact m.out j (by omega))
   clear b;go_wp2;go_round
   case rel=>exact⟨0+1,by omega,by go_num,d⟩
   case measure=>simp[intOf]
  ·by_cases b:n=2
   ·have c:Hid (R=true):=za (by rw[<-l.out];unfold lA;rw[zH];omega);subst b;go_wp2;go_ret;exact⟨by rw[c.out];rfl,rfl⟩
   have q:(n==(2:Int))=false:=zr.2 b;have d:Hid (∀j,j<1+1->n≠([1,2,4,8]:List Int).getD j 0):=za (fun j p=>by
    by_cases h:j=1
    ·subst h;simpa using b
    exact m.out j (by omega))
   clear b;go_wp2;go_round
   case rel=>exact⟨1+1,by omega,by go_num,d⟩
   case measure=>simp[intOf]
  ·by_cases b:n=4
   ·have c:Hid (R=true):=za (by rw[<-l.out];unfold lA;rw[zH];omega);subst b;go_wp2;go_ret;exact⟨by rw[c.out];rfl,rfl⟩
   have q:(n==(4:Int))=false:=zr.2 b;have d:Hid (∀j,j<2+1->n≠([1,2,4,8]:List Int).getD j 0):=za (fun j p=>by
    by_cases h:j=2
    ·subst h;simpa using b
    exact m.out j (by omega))
   clear b;go_wp2;go_round
   case rel=>exact⟨2+1,by omega,by go_num,d⟩
   case measure=>simp[intOf]
  ·by_cases b:n=8
   ·have c:Hid (R=true):=za (by rw[<-l.out];unfold lA;rw[zH];omega);subst b;go_wp2;go_ret;exact⟨by rw[c.out];rfl,rfl⟩
   have q:(n==(8:Int))=false:=zr.2 b;have d:Hid (∀j,j<3+1->n≠([1,2,4,8]:List Int).getD j 0):=za (fun j p=>by
    by_cases h:j=3
    ·subst h;simpa using b
    exact m.out j (by omega))
   clear b;go_wp2;go_round
   case rel=>exact⟨3+1,by omega,by go_num,d⟩
   case measure=>simp[intOf]
  have c:Hid (R=false):=za (by
   have o:=m.out;have s:=o 0 (by omega);have r:=o 1 (by omega);have u:=o 2 (by omega);have a3:=o 3 (by omega);simp at s r u a3;rw[<-l.out];unfold lA;rw[zz];omega)
  go_wp2;go_ret;exact⟨by rw[c.out];rfl,rfl⟩
def sized (l m s:Int):Bool:=decide (l<=s/\s<=m)
theorem Ti (l m s:Int)(g:Nat)(w:World)(h:w.cell? ⟨g,1,none⟩=some (.int .i64 s)):
 Calls prog 203 #[.int .i64 l,.int .i64 m,.pointer (some ⟨g,0,none⟩)] w fun e w'=>e= .returned (.bool (sized l m s))/\w=w':=by
 obtain⟨R,c⟩:∃R,Hid (sized l m s=R):=⟨_,za rfl⟩
 rw[c.out];by_cases d:l<=s
 ·by_cases i:s<=m
  ·have b:Hid (R=true):=za (by rw[<-c.out];exact zH ⟨d,i⟩);go_enter func203,ntmps203
   go_wp2;go_ret;exact⟨by rw[b.out];rfl,rfl⟩
  have b:Hid (R=false):=za (by rw[<-c.out];exact zz (fun h=>i h.2));go_enter func203,ntmps203
  go_wp2;go_ret;exact⟨by rw[b.out];rfl,rfl⟩
 have b:Hid (R=false):=za (by rw[<-c.out];exact zz (fun h=>d h.1));go_enter func203,ntmps203
 go_wp2;go_ret;exact⟨by rw[b.out];rfl,rfl⟩
theorem Iy (k s:Int)(A:Option Addr)(n cap:Nat)(t:Int)(w:World)(d:Laid w)(l:l7 k)(h:l7 s)(m:l7 t)(u:n<=9223372036854775807):
 Calls prog 177 #[.agg #[.int .i64 k,.int .i64 s,.slice A n cap,.int .i64 t]] w fun e w'=>e= .returned (.bool (fK k s n t))/\Below w.heap.size w w':=by
 unfold l7 at l h m;obtain⟨C,q⟩:=l;obtain⟨x,y⟩:=h;obtain⟨p,r⟩:=m;have j:=za (fun w' c=>PH s w' (d.below (B:=w.heap.size) c d.pos));obtain⟨b,c⟩:∃b,lA s=b:=⟨_,rfl⟩
 rw[c]at j;have o:=za c;obtain⟨R,i⟩:∃R,Hid (fK k s n t=R):=⟨_,za rfl⟩
 rw[i.out];clear c d;go_enter func177,ntmps177
 go_wp2_with (first|(go_at_call 204;refine(j.out _ bN).mono ?_;rintro e w' ⟨rfl,rfl⟩)|(go_at_call 203;refine(Ti _ _ s _ _ (by simp)).mono ?_;rintro e w' ⟨rfl,rfl⟩))
 all_goals
  go_ret;refine⟨aT ?_,bN⟩;rw[<-i.out,yX];have z:=o.out;simp_all[fK,sized,lA]
  try omega
theorem cx.ok {w:World}{B:Nat}{x:Ty}{d b c e:Value}(h:cx w B x d b c e):l7 x.kind/\l7 x.size/\l7 x.tail/\x.sub.length<=9223372036854775807:=by
 obtain⟨A,cap,_,_,_,_,i,k,j,m,l,_⟩:=h.open_;exact⟨i,k,j,by omega⟩
theorem Wt :∀(x:Ty) (B:Nat) (w:World) (c0 c1 j c3:Value),cx w B x c0 c1 j c3->B<=w.heap.size->∀(lb d c:Nat),af w lb 3 #[.int .i64 c]->B<=lb->1<lb->Laid w->1<=d->d<=9->c<=64->
 Calls prog 135 #[.agg #[c0,c1,j,c3],.int .i64 d,.pointer (some ⟨lb,0,none⟩)] w fun e w'=>
  e= .returned (.bool (x.gL d c).1)/\af w' lb 3 #[.int .i64 (x.gL d c).2]/\ae [lb] w w':=by
 intro x;induction x using Ty.ind with
 |h ki s l ta ih=>
  intro B w c0 c1 j c3 h hB lb d c L ah DF ab an ao hc;obtain⟨rfl,rfl,rfl,W,Z,nJ,hs,A,cap,rfl,nR,lI,du⟩:=h;have IH:=za ih;have HS:=za du;have ak:=za W;have ai:=za Z;have ad:=za nJ;unfold l7 at W Z nJ;obtain⟨QD,QE⟩:=W;obtain⟨QA,QC⟩:=Z;obtain⟨QB,I8⟩:=nJ;clear ih du;have q1:w.cell? ⟨lb,0,none⟩=some (.int .i64 c):=L.cell 0;have G:=za L;have HL:=za ab;have l1:=L.lt;have n:Hid ((Ty.mk ki s l ta).gL d c=if 8<d\/c=0\/fK ki s l.length ta=false then(false,c)else ke l (d+1) (c-1)):=za (by simp only[Ty.gL]);generalize (Ty.mk ki s l ta).gL d c=R at*;clear L ab;by_cases h1:8<d
  ·have m:Hid (R=(false,c)):=za (by rw[n.out,zl (.inl h1)]);clear n;go_enter func135,ntmps135
   go_wp2;go_ret;rw[m.out];exact⟨rfl,G.out.alloc _,Cr⟩
  by_cases M:c=0
  ·have m:Hid (R=(false,c)):=za (by rw[n.out,zl (.inr (.inl M))]);subst M;clear n;go_enter func135,ntmps135
   go_wp2;go_ret;rw[m.out];exact⟨rfl,G.out.alloc _,Cr⟩
  have e1:((c:Int)==0)=false:=zr.2 (by omega);have F:=za (Iy ki s A l.length cap ta (w.alloc (.cells #[.int .i64 ki,.int .i64 s,.slice A l.length cap,.int .i64 ta] 64)) (HL.out.alloc _) ak.out ai.out ad.out hs);cases hf:fK ki s l.length ta with
  |false=>
   rw[hf]at F;have m:Hid (R=(false,c)):=za (by rw[n.out,zl (.inr (.inr hf))]);clear n hf M;go_enter func135,ntmps135
   go_wp2_with fail
   refine F.out.mono ?_;rintro e z ⟨rfl,hb⟩;go_wp2;go_ret;rw[m.out];have C:Below w.heap.size w z:=(yJ (zq _ _) (zf _) _).trans (hb.mono (by simp));exact⟨rfl,G.out.only (ae.ag C (zf _)) (by simp),(ae.ag C (zf _)).mono (by simp)⟩
  |true=>
   rw[hf]at F;have m:Hid (R=ke l (d+1) (c-1)):=za (by rw[n.out,zj (by rw[hf];simp;omega)]);have wH:1<=c:=by omega
   clear n hf M;go_enter func135,ntmps135
   go_wp2_with fail
   refine F.out.mono ?_;rintro e z ⟨rfl,kz⟩;obtain⟨g0,g1,g2,g3⟩:=LD (by simpa using kz);have C:Below w.heap.size w z:=(yJ (zq _ _) (zf _) _).trans (kz.mono (by simp));have I:=G.out.only (ae.ag C (zf _)) (by simp);have p1:z.cell? ⟨lb,0,none⟩=some (.int .i64 c):=I.cell 0;have al:z.frozen? ⟨lb,0,none⟩=false:=I.frozen 0;have Gy:=za I;clear I kz q1 F;go_wp2_with fail
   go_loopw [30] (fun i wr=>∃k q:Nat,k<=l.length/\i= .int .i64 k/\Hid (ke (l.take k) (d+1) (c-1)=(true,q))/\af wr lb 3 #[.int .i64 q]/\ae [lb] w wr/\q<=64) (fun i _=>l.length-(intOf i).toNat)
   case atStart=>
    refine⟨0,c-1,by omega,rfl,za (by simp[ke]),Gy.out.store (by simp;omega), ?_,by omega⟩;exact((ae.ag C (zf _)).mono (by simp)).setCell (by simp) _
   case round=>
    obtain⟨k,q,hk,rfl,O,aa,r,ag⟩:=hrel;have u:Below B w wr:=r.below hB (by simp;omega);have UL:=r.size;have I':=za aa;clear aa;by_cases K:k<l.length
    ·obtain⟨b,o,d0,d1,d2,d3,rfl,H,e0,X,S,e3,hi⟩:=HS.out.at_ k K;simp only[zT]at e0 X S e3;replace e0:=(u.cell (p:=⟨b,o+k*4,none⟩) H).trans e0;replace X:=(u.cell (p:=⟨b,o+k*4+1,none⟩) H).trans X;replace S:=(u.cell (p:=⟨b,o+k*4+2,none⟩) H).trans S;replace e3:=(u.cell (p:=⟨b,o+k*4+3,none⟩) H).trans e3;obtain⟨A2,cr,rfl,rfl,rfl,rfl,_⟩:=hi.open_;have iz:=zM K;have k7:=hi.below u;have U:=HL.out.only r (by simp;omega);have N:=za (IH.out _ iz B (wr.alloc (.cells #[.int .i64 l[k].kind,.int .i64 l[k].size,.slice A2 l[k].sub.length cr,.int .i64 l[k].tail] 64)) _ _ _ _ (k7.below (yJ (zq _ _) (by omega) _)) (by simp;omega) lb (d+1) q (I'.out.alloc _) ah DF (U.alloc _) (by omega) (by omega) ag);have J:=(Ec l[k] (d+1) q (by omega)).2.2;obtain⟨⟨aj,j⟩,D⟩:∃T,l[k].gL (d+1) q=T:=⟨_,rfl⟩
     rw[D]at N J;have KI:j<=64:=by simp at J;omega
     have e9:(d:Int)+1=((d+1:Nat):Int):=by omega
     have E9:=za e9;cases aj with
     |true=>
      have y:Hid (ke (l.take (k+1)) (d+1) (c-1)=(true,j)):=za (by rw[Be K O.out,D]);clear hi k7 D J e9 U;go_wp2_with fail
      rw[E9.out];refine N.out.mono ?_;rintro e w2 ⟨rfl,mc,E⟩;have Ja:ae [lb] w w2:=(r.alloc _).trans E;clear E;go_wp2;go_roundw
      case rel=>exact⟨k+1,j,by omega,by go_num,y,mc,Ja,KI⟩
      case measure=>simp[intOf];omega
     |false=>
      have y:Hid (ke l (d+1) (c-1)=(false,j)):=za (Lm K O.out D);clear hi k7 D J e9 U;go_wp2_with fail
      rw[E9.out];refine N.out.mono ?_;rintro e w2 ⟨rfl,mc,E⟩;have Ja:ae [lb] w w2:=(r.alloc _).trans E;clear E;go_wp2;go_ret;rw[m.out,y.out];exact⟨rfl,mc,Ja⟩
    have Y:=O.out;rw[zC (by omega)]at Y;have y:=za Y;clear Y;go_wp2;go_ret;rw[m.out,y.out];exact⟨rfl,I'.out,r⟩
theorem j7 (x:Ty)(B:Nat)(w:World)(c b d i:Value)(h:cx w B x c b d i)(n:B<=w.heap.size)(j:Laid w):
 Calls prog 93 #[.agg #[c,b,d,i]] w fun e w'=>e= .returned (.bool x.may)/\Below w.heap.size w w':=by
 have k:=af.new (w.alloc (.cells #[c,b,d,i] 64)) 3 #[.int .i64 64];have u:=j.pos;have l:=za (Wt x B ((w.alloc (.cells #[c,b,d,i] 64)).alloc (.cells #[.int .i64 64] 3)) c b d i (h.below ((yJ (zq _ _) n _).alloc (by simp;omega) _)) (by simp;omega) (w.heap.size+1) 1 64 (by simpa using k) (by omega) (by omega) ((j.alloc _).alloc _) (by omega) (by omega) (by omega));have o:Hid (x.may=(x.gL 1 64).1):=za (Ln x).symm;rw[o.out];obtain⟨A,cap,rfl,rfl,rfl,rfl,_⟩:=h.open_;generalize x.gL 1 64=R at*;generalize x.kind=y at*;generalize x.size=s at*;generalize x.tail=p at*;clear h k j;go_enter func93,ntmps93
 go_wp2_with fail
 refine l.out.mono ?_;rintro e q ⟨rfl,r,m⟩;go_wp2;go_ret;exact⟨rfl,((zq w.heap.size w).alloc (zf _) _|>.alloc (by simp) _).trans (m.below (by simp;omega) (by simp))⟩
theorem qb (a b:List Ty):bX (a++b)=(bX a&&bX b):=by
 induction a with
 |nil=>simp[bX]
 |cons x xs ih=>simp[bX,ih,Bool.and_assoc]
theorem lB {s:List Ty}{k:Nat}(h:k<s.length):bX (s.take (k+1))=(bX (s.take k)&&s[k].full):=by
 rw[gy s k h,qb];simp[bX]
theorem qc {s:List Ty}{k:Nat}(h:k<s.length)(c:s[k].full=false):bX s=false:=by
 have b:=qb (s.take (k+1)) (s.drop (k+1));rw[zN,lB h,c]at b;simpa using b
theorem Kj (x:Ty):x.full=(decide (x.tail=0)&&bX x.sub):=by cases x;rfl
theorem CY :∀(x:Ty) (B:Nat) (w:World) (I F K M:Value),cx w B x I F K M->B<=w.heap.size->True->
 Calls prog 102 #[.agg #[I,F,K,M]] w fun e w'=>e= .returned (.bool (bX x.sub))/\Below w.heap.size w w':=by
 intro x;induction x using Ty.ind with
 |h ki s l ta ih=>
  intro B w I F K M h hB _;obtain⟨rfl,rfl,rfl,U,W,O,hs,A,cap,rfl,nR,lI,du⟩:=h;have IH:=za ih;have HS:=za du;unfold l7 at U W O;obtain⟨QD,QE⟩:=U;obtain⟨QA,QC⟩:=W;obtain⟨QB,I8⟩:=O;clear ih du;rw[Ty.gu];obtain⟨R,y⟩:∃R,Hid (bX l=R):=⟨_,za rfl⟩
  rw[y.out];go_enter func102,ntmps102
  go_wp2_with fail
  go_loopw [8] (fun i wr=>∃k:Nat,k<=l.length/\i= .int .i64 k/\Hid (bX (l.take k)=true)/\Below w.heap.size w wr) (fun i _=>l.length-(intOf i).toNat)
  case atStart=>exact⟨0,by omega,rfl,za (by simp[bX]),bN⟩
  case round=>
   obtain⟨k,hk,rfl,hm,c⟩:=hrel;by_cases r:k<l.length
   ·obtain⟨b,o,d0,d1,d2,d3,rfl,eU,G,L,E,z,hi⟩:=HS.out.at_ k r;simp only[zT]at G L E z;replace G:=(c.cell (p:=⟨b,o+k*4,none⟩) (by simp;omega)).trans G;replace L:=(c.cell (p:=⟨b,o+k*4+1,none⟩) (by simp;omega)).trans L;replace E:=(c.cell (p:=⟨b,o+k*4+2,none⟩) (by simp;omega)).trans E;replace z:=(c.cell (p:=⟨b,o+k*4+3,none⟩) (by simp;omega)).trans z;have X:=c.size;have iz:=zM r;have u:=hi.below (c.mono hB);obtain⟨N,D,rfl,rfl,rfl,rfl,_⟩:=hi.open_;have d:=Kj l[k];have j:=za (IH.out _ iz B (wr.alloc (.cells #[.int .i64 l[k].kind,.int .i64 l[k].size,.slice N l[k].sub.length D,.int .i64 l[k].tail] 64)) _ _ _ _ (u.below (yJ (zq _ _) (by omega) _)) (by simp;omega) trivial);by_cases m:l[k].tail=0
    ·have e5:((0:Int) !=0)=false:=rfl;rw[m]at j z d;generalize l[k].kind=Z at*;generalize l[k].size=S at*;generalize l[k].sub.length=n2 at*;have n:Below w.heap.size w (wr.alloc (.cells #[.int .i64 Z,.int .i64 S,.slice N n2 D,.int .i64 0] 64)):=c.alloc X _;have Y:=za n;cases hf:bX l[k].sub with
     |true=>
      rw[hf]at j;have q:Hid (bX (l.take (k+1))=true):=za (by rw[lB r,hm.out,d,hf];rfl);clear hf d hi u m n;go_wp2_with fail
      refine j.out.mono ?_;rintro e w2 ⟨rfl,H⟩;have J:=Y.out.trans (H.mono (by simp;omega));go_wp2;go_roundw
      case rel=>exact⟨k+1,by omega,by go_num,q,J⟩
      case measure=>simp[intOf];omega
     |false=>
      rw[hf]at j;have q:Hid (R=false):=za (by rw[<-y.out];exact qc r (by rw[d,hf];rfl));clear hf d hi u m n;go_wp2_with fail
      refine j.out.mono ?_;rintro e w2 ⟨rfl,H⟩;have J:=Y.out.trans (H.mono (by simp;omega));go_wp2;go_ret;exact⟨by rw[q.out];rfl,J⟩
    have e5:(l[k].tail !=0)=true:=yQ.2 m;have q:Hid (R=false):=za (by rw[<-y.out];exact qc r (by rw[d,zz m];rfl));have n:Below w.heap.size w (wr.alloc (.cells #[.int .i64 l[k].kind,.int .i64 l[k].size,.slice N l[k].sub.length D,.int .i64 l[k].tail] 64)):=c.alloc X _;generalize l[k].kind=Z at*;generalize l[k].size=S at*;generalize l[k].sub.length=n2 at*;generalize l[k].tail=aa at*;clear d hi u m j;go_wp2;go_ret;exact⟨by rw[q.out];rfl,n⟩
   have C:=hm.out;rw[zC (by omega),y.out]at C;have HM:=za C;clear C;go_wp2;go_ret;exact⟨by rw[HM.out];rfl,c⟩
theorem Iz (x:Ty)(B:Nat)(w:World)(c b d i:Value)(h:cx w B x c b d i)(C:B<=w.heap.size)(s:Laid w):
 Calls prog 64 #[.agg #[c,b,d,i]] w fun e w'=>e= .returned (.bool x.flat)/\Below w.heap.size w w':=by
 have L:=s.pos;have k:Below w.heap.size w (w.alloc (.cells #[c,b,d,i] 64)):=bN;have o:=za (j7 x B (w.alloc (.cells #[c,b,d,i] 64)) c b d i (h.below (k.mono C)) (by simp;omega) (s.below k L));have E:=za (fun V (l:Below (w.heap.size+1) (w.alloc (.cells #[c,b,d,i] 64)) V)=>CY x B V c b d i ((h.below (k.mono C)).below (l.mono (by omega))) (by have:=l.size;simp at this;omega) trivial);have r:Hid (x.flat=(x.may&&bX x.sub)):=za rfl;have y:=fun V (l:Below (w.heap.size+1) (w.alloc (.cells #[c,b,d,i] 64)) V)=>LD l
 obtain⟨A,cap,rfl,rfl,rfl,rfl,_⟩:=h.open_;generalize x.flat=R at*;generalize bX x.sub=F at*;generalize x.kind=D at*;generalize x.size=K at*;generalize x.sub.length=n at*;generalize x.tail=I at*;have u:=za k;have H:=za y;clear h s k y;cases hm:x.may with
 |true=>
  rw[hm]at o r;clear hm;go_enter func64,ntmps64
  go_wp2_with fail
  refine o.out.mono ?_;rintro e p ⟨rfl,j⟩;have q:Below (w.heap.size+1) (w.alloc (.cells #[.int .i64 D,.int .i64 K,.slice A n cap,.int .i64 I] 64)) p:=by simpa using j
  obtain⟨O,S,N,M⟩:=H.out p q;have J:=za (E.out p q);have m:=za (u.out.trans (q.mono (by omega)));clear j q;go_wp2_with fail
  refine J.out.mono ?_;rintro e w3 ⟨rfl,z⟩;have G:=za (m.out.trans (z.mono m.out.size));clear z;go_wp2;go_ret;exact⟨by rw[r.out];rfl,G.out⟩
 |false=>
  rw[hm]at o r;clear hm;go_enter func64,ntmps64
  go_wp2_with fail
  refine o.out.mono ?_;rintro e p ⟨rfl,j⟩;have m:=za (u.out.trans (j.mono (by simp)));clear j;go_wp2;go_ret;exact⟨by rw[r.out];rfl,m.out⟩
def vq (fv:Value)(w:World)(c0 c1 c2:Value):World:=
 ((((w.alloc (.cells #[c0,c1,c2] 28)).alloc (.cells #[fv] 34)).alloc (.cells #[.int .i64 0] 3)).alloc (.cells #[.int .i64 0] 3)).alloc
  (.cells #[.func (.func 175) #[] #[.pointer (some ⟨w.heap.size+1+1,0,none⟩),.pointer (some ⟨w.heap.size+1,0,none⟩),.pointer (some ⟨w.heap.size+1+1+1,0,none⟩),.pointer (some ⟨w.heap.size+1+1+1+1,0,none⟩)]] 221)
theorem Mp (b:Value)(w:World)(c d e:Value):Af b (vq b w c d e) (w.heap.size+1+1) (w.heap.size+1) (w.heap.size+1+1+1) (w.heap.size+1+1+1+1) 0 0:=by
 unfold vq;refine⟨?_, ?_, ?_, ?_⟩
 ·refine af.alloc (af.alloc ?_ _) _;have:=af.new ((w.alloc (.cells #[c,d,e] 28)).alloc (.cells #[b] 34)) 3 #[.int .i64 0];simpa using this
 ·refine af.alloc (af.alloc (af.alloc ?_ _) _) _;have:=af.new (w.alloc (.cells #[c,d,e] 28)) 34 #[b];simpa using this
 ·refine af.alloc ?_ _;have:=af.new (((w.alloc (.cells #[c,d,e] 28)).alloc (.cells #[b] 34)).alloc (.cells #[.int .i64 0] 3)) 3 #[.int .i64 0];simpa using this
 have:=af.new ((((w.alloc (.cells #[c,d,e] 28)).alloc (.cells #[b] 34)).alloc (.cells #[.int .i64 0] 3)).alloc (.cells #[.int .i64 0] 3)) 221 #[.func (.func 175) #[] #[.pointer (some ⟨w.heap.size+1+1,0,none⟩),.pointer (some ⟨w.heap.size+1,0,none⟩),.pointer (some ⟨w.heap.size+1+1+1,0,none⟩),.pointer (some ⟨w.heap.size+1+1+1+1,0,none⟩)]];simpa using this
theorem vr (c:Value)(w:World)(b d e:Value):Below w.heap.size w (vq c w b d e):=by
 unfold vq;exact bN
theorem Mq (c:Value)(w:World)(b d e:Value):(vq c w b d e).heap.size=w.heap.size+5:=by
 unfold vq;simp
def oa (x:It):Value:= .tuple #[.int .i64 (if x.may then(x.count:Int)else 0),.int .i64 (if x.may then(x.deep:Int)else 0),.bool x.may]
theorem IA (x:It)(B:Nat)(w:World)(l j m:Value)(h:bZ w B x l j m)(L:B<=w.heap.size)(k:Value)(C:Uv k x):
 Calls prog 131 #[.agg #[l,j,m],k] w fun e w'=>e= .returned (oa x)/\Below w.heap.size w w':=by
 have z:=Mq k w l j m;have q:=za (Tc x B (vq k w l j m) l j m (h.below ((vr k w l j m).mono L)) (by omega) k C _ _ _ _ 1 0 0 (Mp k w l j m) (by omega) (by omega) (by omega) (by omega) (by omega) (by omega) (by omega));have H:=vr k w l j m;have G:=za H;have p:x.may=(x.gL 1 0 0).1:=(SA x).symm;have o:(x.gL 1 0 0).1=true->(x.gL 1 0 0).2=(0+x.count,max 0 (1-1+x.deep)):=(G4 x 1 0 0 (by omega) (by omega)).2.1;obtain⟨⟨r,c,d⟩,F⟩:∃T,x.gL 1 0 0=T:=⟨_,rfl⟩
 rw[F]at q p o;have D:Hid (oa x= .tuple #[.int .i64 (if r then(c:Int)else 0),.int .i64 (if r then(d:Int)else 0),.bool r]):=za (by
  dsimp only at p o;unfold oa;rw[p];cases r with
  |false=>rfl
  |true=>
   have J:=o rfl;injection J with h3 h4;subst h3;subst h4;simp)
 clear p o;obtain⟨A,cap,rfl,rfl,rfl,_⟩:=h.open_;have E:=za z;clear F h H z;rcases C with rfl|⟨rfl,_⟩;all_goals
  cases r with
  |true=>
   go_enter func131,ntmps131
   go_wp2_with fail
   refine q.out.mono ?_;rintro e i ⟨rfl,b,n⟩;have s:Below w.heap.size w i:=G.out.trans (n.below (by have:=E.out;omega) (by simp;omega));have y:i.cell? ⟨w.heap.size+1+1,0,none⟩=some (.int .i64 c):=yd b.kB;have K:i.frozen? ⟨w.heap.size+1+1,0,none⟩=false:=Zw b.kB;have u:i.cell? ⟨w.heap.size+1+1+1,0,none⟩=some (.int .i64 d):=yd b.dp;have I:i.frozen? ⟨w.heap.size+1+1+1,0,none⟩=false:=Zw b.dp;clear n b;go_wp2;go_region
   all_goals go_wp2
   all_goals
    refine zo (v:= .tuple #[.int .i64 c,.int .i64 d,.bool true]) (by simp[results,results131,go_sem,y,u]) rfl ⟨by rw[D.out];rfl, ?_⟩;exact(((s.setCell (by simp;omega) _).setCell (by simp;omega) _).drew)
  |false=>
   go_enter func131,ntmps131
   go_wp2_with fail
   refine q.out.mono ?_;rintro e i ⟨rfl,b,n⟩;have s:Below w.heap.size w i:=G.out.trans (n.below (by have:=E.out;omega) (by simp;omega));have y:i.cell? ⟨w.heap.size+1+1,0,none⟩=some (.int .i64 c):=yd b.kB;have K:i.frozen? ⟨w.heap.size+1+1,0,none⟩=false:=Zw b.kB;have u:i.cell? ⟨w.heap.size+1+1+1,0,none⟩=some (.int .i64 d):=yd b.dp;have I:i.frozen? ⟨w.heap.size+1+1+1,0,none⟩=false:=Zw b.dp;clear n b;go_wp2;refine zo (v:= .tuple #[.int .i64 0,.int .i64 0,.bool false]) (by simp[results,results131,go_sem,y,u]) rfl ⟨by rw[D.out];rfl, ?_⟩;exact((s.setCell (by simp;omega) _).setCell (by simp;omega) _)
theorem Uy (x:It)(B:Nat)(w:World)(c d i:Value)(h:bZ w B x c d i)(m:B<=w.heap.size):
 Calls prog 127 #[.agg #[c,d,i]] w fun e w'=>e= .returned (.bool x.may)/\Below w.heap.size w w':=by
 have j:=za (IA x B (w.alloc (.cells #[c,d,i] 28)) c d i (h.below (blm m)) (by simp;omega) _ (.inl rfl));obtain⟨a,b,k⟩:∃a b:Int,oa x= .tuple #[.int .i64 a,.int .i64 b,.bool x.may]:=⟨_,_,rfl⟩
 rw[k]at j;obtain⟨A,cap,rfl,rfl,rfl,_⟩:=h.open_;clear h k;generalize x.may=R at*;go_enter func127,ntmps127
 go_wp2_with fail
 refine j.out.mono ?_;rintro e n ⟨rfl,l⟩;go_wp2;go_ret;exact⟨rfl,(yJ (zq _ _) (zf _) _).trans (l.mono (by simp))⟩
def s6 (e0 e1 e2:Int):Int:=if e0≠0 then e0 else if e1≠0 then e1 else e2
def s7 (e0 e1:Int)(I1 I2 I3:World->Prop)(w:World):Prop:=if e0≠0 then I1 w else if e1≠0 then I2 w else I3 w
theorem Uz {b:Int}(h:b≠0)(c j:Int)(d e i:World->Prop)(w:World)(hi:d w):s6 b c j=b/\s7 b c d e i w:=by
 unfold s6 s7;rw[zl h,zl h];exact⟨rfl,hi⟩
theorem UA {c b:Int}(h:c=0)(k:b≠0)(j:Int)(i d e:World->Prop)(w:World)(hi:d w):s6 c b j=b/\s7 c b i d e w:=by
 subst h;simp[s6,s7,k,hi]
theorem Kk {b c:Int}(h:b=0)(k:c=0)(e:Int)(j i d:World->Prop)(w:World)(hi:d w):s6 b c e=e/\s7 b c j i d w:=by
 subst h;subst k;simp[s6,s7,hi]
theorem IB (w:World)(B:Nat)(s k1 k2:Array Value)(j p n:Int)(k l q:World->Prop)
 (E:af w B 111 #[.func (.func 86) #[] s,.func (.func 88) #[] k1,.func (.func 90) #[] k2])
 (c:Calls prog 86 s w fun e w'=>e= .returned (.int .i64 j)/\k w') (y:j=0->∀d,k d->Calls prog 88 k1 d fun e w'=>e= .returned (.int .i64 p)/\l w') (x:j=0->p=0->∀D,l D->Calls prog 90 k2 D fun e w'=>e= .returned (.int .i64 n)/\q w')
 (C:∀w',k w'->af w' B 111 #[.func (.func 86) #[] s,.func (.func 88) #[] k1,.func (.func 90) #[] k2]) (z:∀w',l w'->af w' B 111 #[.func (.func 86) #[] s,.func (.func 88) #[] k1,.func (.func 90) #[] k2]):
 Calls prog 85 #[.slice (some ⟨B,0,none⟩) 3 3] w fun e w'=>e= .returned (.int .i64 (s6 j p n))/\s7 j p k l q w':=by
 have N:=za c;have M:=za y;have L:=za x;have K:=za C;have I:=za z;have R:=za E;clear c y x C z E;go_enter func85,ntmps85
 go_wp2_with fail
 go_loopw [8] (fun i wr=>(i= .int .i64 0/\Hid (wr=w))\/(i= .int .i64 1/\Hid (j=0/\k wr))\/(i= .int .i64 2/\Hid (j=0/\p=0/\l wr))\/(i= .int .i64 3/\Hid (j=0/\p=0/\n=0/\q wr))) (fun i _=>3-(intOf i).toNat)
 case atStart=>exact .inl ⟨rfl,za rfl⟩
 case round=>
  rcases hrel with⟨rfl,hi⟩|⟨rfl,hi⟩|⟨rfl,hi⟩|⟨rfl,hi⟩
  ·have m:Hid (Calls prog 86 s wr fun e w'=>e= .returned (.int .i64 j)/\k w'):=za (by rw[hi.out];exact N.out);have H:Hid (af wr B 111 #[.func (.func 86) #[] s,.func (.func 88) #[] k1,.func (.func 90) #[] k2]):=za (by rw[hi.out];exact R.out);obtain⟨F,G,A⟩:=jY H.out;have o:Hid True:=za trivial;rcases eF (j)with⟨c,k1,k2⟩|⟨c,k1,k2⟩
   ·subst c;clear k1 k2 hi;go_wp2_with fail
    refine m.out.mono ?_;rintro e d ⟨rfl,b⟩;have h:=za b;clear b;go_wp2;go_roundw
    case rel=>
     have b:=h.out;exact(.inr (.inl ⟨rfl,za ⟨by simp,b⟩⟩))
    case measure=>simp[intOf]
   have u:=za c;clear c hi;go_wp2_with fail
   refine m.out.mono ?_;rintro e d ⟨rfl,b⟩;have h:=za b;clear b;go_wp2;go_ret;have b:=h.out;obtain⟨r,z2⟩:=Uz u.out p n k l q d b;exact⟨by rw[r];rfl,z2⟩
  ·have m:=za (M.out hi.out.1 wr hi.out.2);obtain⟨F,G,A⟩:=jY (K.out wr hi.out.2);have o:=hi;rcases eF (p)with⟨c,k1,k2⟩|⟨c,k1,k2⟩
   ·subst c;clear k1 k2 hi;go_wp2_with fail
    refine m.out.mono ?_;rintro e d ⟨rfl,b⟩;have h:=za b;clear b;go_wp2;go_roundw
    case rel=>
     have b:=h.out;exact(.inr (.inr (.inl ⟨rfl,za ⟨o.out.1,by simp,b⟩⟩)))
    case measure=>simp[intOf]
   have u:=za c;clear c hi;go_wp2_with fail
   refine m.out.mono ?_;rintro e d ⟨rfl,b⟩;have h:=za b;clear b;go_wp2;go_ret;have b:=h.out;obtain⟨r,z2⟩:=UA o.out.1 u.out n k l q d b;exact⟨by rw[r];rfl,z2⟩
  ·have m:=za (L.out hi.out.1 hi.out.2.1 wr hi.out.2.2);obtain⟨F,G,A⟩:=jY (I.out wr hi.out.2.2);have o:=hi;rcases eF (n)with⟨c,k1,k2⟩|⟨c,k1,k2⟩
   ·subst c;clear k1 k2 hi;go_wp2_with fail
    refine m.out.mono ?_;rintro e d ⟨rfl,b⟩;have h:=za b;clear b;go_wp2;go_roundw
    case rel=>
     have b:=h.out;exact(.inr (.inr (.inr ⟨rfl,za ⟨o.out.1,o.out.2.1,by simp,b⟩⟩)))
    case measure=>simp[intOf]
   have u:=za c;clear c hi;go_wp2_with fail
   refine m.out.mono ?_;rintro e d ⟨rfl,b⟩;have h:=za b;clear b;go_wp2;go_ret;have b:=h.out;obtain⟨r,z2⟩:=Kk o.out.1 o.out.2.1 n k l q d b;exact⟨by rw[r];rfl,z2⟩
  go_wp2;go_ret;obtain⟨y,x,O,J⟩:=hi.out;obtain⟨r,z2⟩:=Kk y x n k l q wr J;exact⟨by rw[r,O];rfl,z2⟩
theorem IC (w:World)(B:Nat)(s k1 k2:Array Value)(j p n:Int)(k l q:World->Prop)
 (E:af w B 111 #[.func (.func 92) #[] s,.func (.func 94) #[] k1,.func (.func 96) #[] k2])
 (c:Calls prog 92 s w fun e w'=>e= .returned (.int .i64 j)/\k w') (y:j=0->∀d,k d->Calls prog 94 k1 d fun e w'=>e= .returned (.int .i64 p)/\l w') (x:j=0->p=0->∀D,l D->Calls prog 96 k2 D fun e w'=>e= .returned (.int .i64 n)/\q w')
 (C:∀w',k w'->af w' B 111 #[.func (.func 92) #[] s,.func (.func 94) #[] k1,.func (.func 96) #[] k2]) (z:∀w',l w'->af w' B 111 #[.func (.func 92) #[] s,.func (.func 94) #[] k1,.func (.func 96) #[] k2]):
 Calls prog 85 #[.slice (some ⟨B,0,none⟩) 3 3] w fun e w'=>e= .returned (.int .i64 (s6 j p n))/\s7 j p k l q w':=by
 have N:=za c;have M:=za y;have L:=za x;have K:=za C;have I:=za z;have R:=za E;clear c y x C z E;go_enter func85,ntmps85
 go_wp2_with fail
 go_loopw [8] (fun i wr=>(i= .int .i64 0/\Hid (wr=w))\/(i= .int .i64 1/\Hid (j=0/\k wr))\/(i= .int .i64 2/\Hid (j=0/\p=0/\l wr))\/(i= .int .i64 3/\Hid (j=0/\p=0/\n=0/\q wr))) (fun i _=>3-(intOf i).toNat)
 case atStart=>exact .inl ⟨rfl,za rfl⟩
 case round=>
  rcases hrel with⟨rfl,hi⟩|⟨rfl,hi⟩|⟨rfl,hi⟩|⟨rfl,hi⟩
  ·have m:Hid (Calls prog 92 s wr fun e w'=>e= .returned (.int .i64 j)/\k w'):=za (by rw[hi.out];exact N.out);have H:Hid (af wr B 111 #[.func (.func 92) #[] s,.func (.func 94) #[] k1,.func (.func 96) #[] k2]):=za (by rw[hi.out];exact R.out);obtain⟨F,G,A⟩:=jY H.out;have o:Hid True:=za trivial;rcases eF (j)with⟨c,k1,k2⟩|⟨c,k1,k2⟩
   ·subst c;clear k1 k2 hi;go_wp2_with fail
    refine m.out.mono ?_;rintro e d ⟨rfl,b⟩;have h:=za b;clear b;go_wp2;go_roundw
    case rel=>
     have b:=h.out;exact(.inr (.inl ⟨rfl,za ⟨by simp,b⟩⟩))
    case measure=>simp[intOf]
   have u:=za c;clear c hi;go_wp2_with fail
   refine m.out.mono ?_;rintro e d ⟨rfl,b⟩;have h:=za b;clear b;go_wp2;go_ret;have b:=h.out;obtain⟨r,z2⟩:=Uz u.out p n k l q d b;exact⟨by rw[r];rfl,z2⟩
  ·have m:=za (M.out hi.out.1 wr hi.out.2);obtain⟨F,G,A⟩:=jY (K.out wr hi.out.2);have o:=hi;rcases eF (p)with⟨c,k1,k2⟩|⟨c,k1,k2⟩
   ·subst c;clear k1 k2 hi;go_wp2_with fail
    refine m.out.mono ?_;rintro e d ⟨rfl,b⟩;have h:=za b;clear b;go_wp2;go_roundw
    case rel=>
     have b:=h.out;exact(.inr (.inr (.inl ⟨rfl,za ⟨o.out.1,by simp,b⟩⟩)))
    case measure=>simp[intOf]
   have u:=za c;clear c hi;go_wp2_with fail
   refine m.out.mono ?_;rintro e d ⟨rfl,b⟩;have h:=za b;clear b;go_wp2;go_ret;have b:=h.out;obtain⟨r,z2⟩:=UA o.out.1 u.out n k l q d b;exact⟨by rw[r];rfl,z2⟩
  ·have m:=za (L.out hi.out.1 hi.out.2.1 wr hi.out.2.2);obtain⟨F,G,A⟩:=jY (I.out wr hi.out.2.2);have o:=hi;rcases eF (n)with⟨c,k1,k2⟩|⟨c,k1,k2⟩
   ·subst c;clear k1 k2 hi;go_wp2_with fail
    refine m.out.mono ?_;rintro e d ⟨rfl,b⟩;have h:=za b;clear b;go_wp2;go_roundw
    case rel=>
     have b:=h.out;exact(.inr (.inr (.inr ⟨rfl,za ⟨o.out.1,o.out.2.1,by simp,b⟩⟩)))
    case measure=>simp[intOf]
   have u:=za c;clear c hi;go_wp2_with fail
   refine m.out.mono ?_;rintro e d ⟨rfl,b⟩;have h:=za b;clear b;go_wp2;go_ret;have b:=h.out;obtain⟨r,z2⟩:=Kk o.out.1 o.out.2.1 n k l q d b;exact⟨by rw[r];rfl,z2⟩
  go_wp2;go_ret;obtain⟨y,x,O,J⟩:=hi.out;obtain⟨r,z2⟩:=Kk y x n k l q wr J;exact⟨by rw[r,O];rfl,z2⟩
theorem Wu (x:It)(D M:Int)(B:Nat)(w:World)(n l o:Value)(h:bZ w B x n l o)(u:B<=w.heap.size):
 Calls prog 89 #[.agg #[n,l,o],.int .i64 D,.int .i64 M] w fun e w'=>e= .returned (.int .i64 (fz x D M))/\Below w.heap.size w w':=by
 have m:=za (IA x B (w.alloc (.cells #[n,l,o] 28)) n l o (h.below (blm u)) (by simp;omega) _ (.inl rfl));obtain⟨A,cap,rfl,rfl,rfl,_⟩:=h.open_;clear h;cases hm:x.may with
 |false=>
  have k:Hid (oa x= .tuple #[.int .i64 0,.int .i64 0,.bool false]):=za (by rw[oa,hm];rfl);have j:Hid (fz x D M=1):=za (by rw[fz,zl hm]);clear hm;go_enter func89,ntmps89
  go_wp2_with fail
  refine m.out.mono ?_;rintro e p ⟨rfl,b⟩;rw[k.out];go_wp2;go_ret;rw[j.out];exact⟨rfl,(yJ (zq _ _) (zf _) _).trans (b.mono (by simp))⟩
 |true=>
  obtain⟨c,q⟩:∃c,(x.count:Int)=c:=⟨_,rfl⟩
  obtain⟨d,hd⟩:∃d,(x.deep:Int)=d:=⟨_,rfl⟩
  have k:Hid (oa x= .tuple #[.int .i64 c,.int .i64 d,.bool true]):=za (by rw[oa,hm,<-q,<-hd];rfl);have i:fz x D M=if D<d then 6 else if M<c then 4 else 0:=by rw[fz,zj (by simp[hm]),q,hd]
  clear hm q hd;by_cases r:D<d
  ·have j:Hid (fz x D M=6):=za (by rw[i,zl r]);clear i;go_enter func89,ntmps89
   go_wp2_with fail
   refine m.out.mono ?_;rintro e p ⟨rfl,b⟩;rw[k.out];go_wp2;go_ret;rw[j.out];exact⟨rfl,(yJ (zq _ _) (zf _) _).trans (b.mono (by simp))⟩
  rw[zj r]at i;by_cases s:M<c
  ·have j:Hid (fz x D M=4):=za (by rw[i,zl s]);clear i;go_enter func89,ntmps89
   go_wp2_with fail
   refine m.out.mono ?_;rintro e p ⟨rfl,b⟩;rw[k.out];go_wp2;go_ret;rw[j.out];exact⟨rfl,(yJ (zq _ _) (zf _) _).trans (b.mono (by simp))⟩
  have j:Hid (fz x D M=0):=za (by rw[i,zj s]);clear i;go_enter func89,ntmps89
  go_wp2_with fail
  refine m.out.mono ?_;rintro e p ⟨rfl,b⟩;rw[k.out];go_wp2;go_ret;rw[j.out];exact⟨rfl,(yJ (zq _ _) (zf _) _).trans (b.mono (by simp))⟩
theorem Mr :∀(x:Ty) (B:Nat) (w:World) (G D I K:Value),cx w B x G D I K->B<=w.heap.size->True->
 Calls prog 37 #[.agg #[G,D,I,K]] w fun e w'=>e= .returned (.bool (!x.full))/\Below w.heap.size w w':=by
 intro x;induction x using Ty.ind with
 |h ki s l ta ih=>
  intro B w G D I K h hB _;obtain⟨rfl,rfl,rfl,N,O,z,hs,A,cap,rfl,nR,lI,U⟩:=h;have IH:=za ih;have Y:=za U;have aa:=za z;unfold l7 at N O z;obtain⟨QD,QE⟩:=N;obtain⟨QA,QC⟩:=O;obtain⟨QB,I8⟩:=z;clear ih U;obtain⟨R,J⟩:∃R,Hid ((!(Ty.mk ki s l ta).full)=R):=⟨_,za rfl⟩
  rw[J.out];by_cases n:ta=0
  ·subst n;have u:Hid (R= !(bX l)):=za (by rw[<-J.out];rfl);go_enter func37,ntmps37
   go_wp2_with fail
   go_loopw [3] (fun i wr=>∃k:Nat,k<=l.length/\i= .int .i64 k/\Hid (bX (l.take k)=true)/\Below w.heap.size w wr/\wr.cell? ⟨w.heap.size,2,none⟩=some (.slice A l.length cap)) (fun i _=>l.length-(intOf i).toNat)
   case atStart=>exact⟨0,by omega,rfl,za (by simp[bX]),bN,by simp⟩
   case round=>
    obtain⟨k,hk,rfl,W,c,m⟩:=hrel;by_cases r:k<l.length
    ·obtain⟨b,o,d0,d1,d2,d3,rfl,eU,E,q,C,M,hi⟩:=Y.out.at_ k r;simp only[zT]at E q C M;replace E:=(c.cell (p:=⟨b,o+k*4,none⟩) (by simp;omega)).trans E;replace q:=(c.cell (p:=⟨b,o+k*4+1,none⟩) (by simp;omega)).trans q;replace C:=(c.cell (p:=⟨b,o+k*4+2,none⟩) (by simp;omega)).trans C;replace M:=(c.cell (p:=⟨b,o+k*4+3,none⟩) (by simp;omega)).trans M;have S:=c.size;have iz:=zM r;have F:=hi.below (c.mono hB);have j:=za (IH.out _ iz B wr d0 d1 d2 d3 F (by omega) trivial);cases hf:l[k].full with
     |true=>
      rw[hf]at j;have L:Hid (bX (l.take (k+1))=true):=za (by rw[lB r,W.out,hf];rfl);clear hf hi F;go_wp2_with fail
      refine j.out.mono ?_;rintro e w2 ⟨rfl,d⟩;have Z:=lt_of_cell m;have X:=(d.cell (p:=⟨w.heap.size,2,none⟩) (by simp;omega)).trans m;have H:=c.trans (d.mono S);go_wp2;go_roundw
      case rel=>exact⟨k+1,by omega,by go_num,L,H,X⟩
      case measure=>simp[intOf];omega
     |false=>
      rw[hf]at j;have L:Hid (bX l=false):=za (qc r hf);clear hf hi F;go_wp2_with fail
      refine j.out.mono ?_;rintro e w2 ⟨rfl,d⟩;have Z:=lt_of_cell m;have X:=(d.cell (p:=⟨w.heap.size,2,none⟩) (by simp;omega)).trans m;have H:=c.trans (d.mono S);go_wp2;go_ret;exact⟨by rw[u.out,L.out];rfl,H⟩
    have y:=W.out;rw[zC (by omega)]at y;have HM:=za y;clear y;go_wp2;go_ret;exact⟨by rw[u.out,HM.out];rfl,c⟩
  have q:(ta !=0)=true:=yQ.2 n;have u:Hid (R=true):=za (by rw[<-J.out,Kj,Ty.Cn,zz n];rfl);clear n;go_enter func37,ntmps37
  go_wp2;go_ret;exact⟨by rw[u.out];rfl,bN⟩
theorem Mt (x:Ty)(B:Nat)(w:World)(m j n q:Value)(h:cx w B x m j n q)(hB:B<=w.heap.size)(Y:x.count<=4611686018427387904):
 Calls prog 25 #[.agg #[m,j,n,q]] w fun e w'=>e= .returned (.bool x.flat)/\Below w.heap.size w w':=by
 have aa:=za (fun V (O:Below w.heap.size w V)=>J9 x B V m j n q (h.below (O.mono hB)) (by have:=O.size;omega) Y);obtain⟨r,s,l,u⟩:=x;obtain⟨rfl,rfl,rfl,pe,B4,nJ,hs,A,cap,rfl,nR,lI,U⟩:=h;have HS:=za U;have IH:Hid (∀y∈l,∀(B:Nat) (w:World) (m j n q:Value),cx w B y m j n q->B<=w.heap.size->True->Calls prog 37 #[.agg #[m,j,n,q]] w fun e w'=>e= .returned (.bool (!y.full))/\Below w.heap.size w w'):=za (fun y _=>Mr y);have S:Hid ((Ty.mk r s l u).flat=((Ty.mk r s l u).may&&bX l)):=za rfl;unfold l7 at pe B4 nJ;clear U Y;generalize (Ty.mk r s l u).flat=R at*;generalize (Ty.mk r s l u).may=MY at*;have HX:Hid (R=(MY&&bX l)):=S;clear S;go_enter func25,ntmps25
 go_wp2_with fail
 go_loopw [3] (fun i wr=>∃k:Nat,k<=l.length/\i= .int .i64 k/\Hid (bX (l.take k)=true)/\Below w.heap.size w wr/\wr.cell? ⟨w.heap.size,2,none⟩=some (.slice A l.length cap)/\Below (w.heap.size+1) (w.alloc (.cells #[.int .i64 r,.int .i64 s,.slice A l.length cap,.int .i64 u] 64)) wr) (fun i _=>l.length-(intOf i).toNat)
 case atStart=>exact⟨0,by omega,rfl,za (by simp[bX]),bN,by simp,zq _ _⟩
 case round=>
  obtain⟨k,hk,rfl,W,c,D,I⟩:=hrel;by_cases F:k<l.length
  ·obtain⟨b,o,d0,d1,d2,d3,rfl,eU,J,L,H,N,hi⟩:=HS.out.at_ k F;simp only[zT]at J L H N;replace J:=(c.cell (p:=⟨b,o+k*4,none⟩) (by simp;omega)).trans J;replace L:=(c.cell (p:=⟨b,o+k*4+1,none⟩) (by simp;omega)).trans L;replace H:=(c.cell (p:=⟨b,o+k*4+2,none⟩) (by simp;omega)).trans H;replace N:=(c.cell (p:=⟨b,o+k*4+3,none⟩) (by simp;omega)).trans N;have E:=c.size;have iz:=zM F;have K:=hi.below (c.mono hB);have C:=za (IH.out _ iz B wr d0 d1 d2 d3 K (by omega) trivial);have ad:=I.size;cases hf:l[k].full with
   |true=>
    rw[hf]at C;have M:Hid (bX (l.take (k+1))=true):=za (by rw[lB F,W.out,hf];rfl);clear hf hi K;go_wp2_with fail
    refine C.out.mono ?_;rintro e X ⟨rfl,d⟩;have ab:=I.trans (d.mono (by simpa using ad));have j9:=lt_of_cell D;have Z:=(d.cell (p:=⟨w.heap.size,2,none⟩) (by simp;omega)).trans D;have z:=c.trans (d.mono E);go_wp2;go_roundw
    case rel=>exact⟨k+1,by omega,by go_num,M,z,Z,ab⟩
    case measure=>simp[intOf];omega
   |false=>
    rw[hf]at C;have M:Hid (bX l=false):=za (qc F hf);clear hf hi K;go_wp2_with fail
    refine C.out.mono ?_;rintro e X ⟨rfl,d⟩;have j9:=lt_of_cell D;have Z:=(d.cell (p:=⟨w.heap.size,2,none⟩) (by simp;omega)).trans D;have z:=c.trans (d.mono E);go_wp2;go_ret;exact⟨by rw[HX.out,M.out,Bool.and_false];rfl,z⟩
  have G:=W.out;rw[zC (by omega)]at G;have HM:=za G;obtain⟨q0,q1,q2,q3⟩:=LD I;have E:=c.size;have qG:=za (aa.out wr c);have HB:=za c;clear G;go_wp2_with fail
  refine qG.out.mono ?_;rintro e X ⟨rfl,d⟩;have z:=HB.out.trans (d.mono E);go_wp2;go_ret;exact⟨by rw[HX.out,HM.out,Zt];rfl,z⟩
