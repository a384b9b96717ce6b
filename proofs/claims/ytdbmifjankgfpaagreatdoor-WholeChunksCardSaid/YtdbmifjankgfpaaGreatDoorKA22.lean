/- Package schema: May. -/
import Derived.Laws.EntriesVeiled
import Derived.Test.YtdbmifjankgfpaaGreatDoorKA23
set_option linter.all false
set_option maxRecDepth 100000
set_option maxHeartbeats 2000000
open Go.Proofs.Tryz
namespace Go.Proofs.YtdbmifjankgfpaaGreatDoor
open Go.RowKit
def Laid (w:World):Prop:=w.cell? ⟨1,0,none⟩=some (.int .i64 1)/\w.cell? ⟨1,1,none⟩=some (.int .i64 2)/\w.cell? ⟨1,2,none⟩=some (.int .i64 4)/\w.cell? ⟨1,3,none⟩=some (.int .i64 8)
theorem Laid.pos {w:World}(h:Laid w):1<w.heap.size:=lt_of_cell h.1
theorem Laid.same {w w':World}(h:Laid w)(b:w'.heap[1]?=w.heap[1]?):Laid w':=
 ⟨(zD b).trans h.1,(zD b).trans h.2.1,(zD b).trans h.2.2.1,(zD b).trans h.2.2.2⟩
theorem Laid.below {w w':World}{B:Nat}(h:Laid w)(b:Below B w w')(c:1<B):Laid w':=h.same (b.block 1 c)
theorem Laid.only {w w':World}{L:List Nat}(h:Laid w)(b:ae L w w')(c:1∉L):Laid w':=h.same (b.block 1 h.pos c)
theorem Laid.alloc {w:World}(h:Laid w)(o:Obj):Laid (w.alloc o):=h.below ((zl w.heap.size w).alloc (zd _) o) h.pos
def l7 (n:Int):Bool:=decide (n=1\/n=2\/n=4\/n=8)
theorem QA (n:Int)(w:World)(h:Laid w):Calls prog 236 #[.int .i64 n] w fun e w'=>e= .returned (.bool (l7 n))/\w=w':=by
 obtain⟨y,D,z,x⟩:=h;obtain⟨R,l⟩:∃R,Hid (l7 n=R):=⟨_,za rfl⟩
 rw[l.out];have C:∀w,(Instr.index 292 (.agg #[.int .i64 1,.int .i64 2,.int .i64 4,.int .i64 8]) (.int .i64 0)).run prog w= .ok (.int .i64 1) w:=fun _=>by kernel_rfl
 have i1:∀w,(Instr.index 292 (.agg #[.int .i64 1,.int .i64 2,.int .i64 4,.int .i64 8]) (.int .i64 1)).run prog w= .ok (.int .i64 2) w:=fun _=>by kernel_rfl
 have i2:∀w,(Instr.index 292 (.agg #[.int .i64 1,.int .i64 2,.int .i64 4,.int .i64 8]) (.int .i64 2)).run prog w= .ok (.int .i64 4) w:=fun _=>by kernel_rfl
 have A:∀w,(Instr.index 292 (.agg #[.int .i64 1,.int .i64 2,.int .i64 4,.int .i64 8]) (.int .i64 3)).run prog w= .ok (.int .i64 8) w:=fun _=>by kernel_rfl
 go_enter func236,ntmps236
 go_wp2_with fail
 go_loop [6] (fun i=>∃k:Nat,k<=4/\i= .int .i64 k/\Hid (∀j,j<k->n≠([1,2,4,8]:List Int).getD j 0)) (fun i=>4-(intOf i).toNat)
 case atStart=>exact⟨0,by omega,rfl,za (by omega)⟩
 case round=>
  obtain⟨k,B,rfl,m⟩:=hrel;have key:k=0\/k=1\/k=2\/k=3\/k=4:=by omega
  rcases key with rfl|rfl|rfl|rfl|rfl
  ·by_cases b:n=1
   ·have c:Hid (R=true):=za (by rw[<-l.out];unfold l7;rw[zE];omega);subst b;go_wp2;go_ret;exact⟨by rw[c.out];rfl,rfl⟩
   have p:(n==(1:Int))=false:=zm.2 b;have d:Hid (∀j,j<0+1->n≠([1,2,4,8]:List Int).getD j 0):=za (fun j q=>by
    by_cases h:j=0
    ·subst h;simpa using b
    exact m.out j (by omega))
   clear b;go_wp2;go_round
   case rel=>exact⟨0+1,by omega,by go_num,d⟩
   case measure=>simp[intOf]
  ·by_cases b:n=2
   ·have c:Hid (R=true):=za (by rw[<-l.out];unfold l7;rw[zE];omega);subst b;go_wp2;go_ret;exact⟨by rw[c.out];rfl,rfl⟩
   have p:(n==(2:Int))=false:=zm.2 b;have d:Hid (∀j,j<1+1->n≠([1,2,4,8]:List Int).getD j 0):=za (fun j q=>by
    by_cases h:j=1
    ·subst h;simpa using b
    exact m.out j (by omega))
   clear b;go_wp2;go_round
   case rel=>exact⟨1+1,by omega,by go_num,d⟩
   case measure=>simp[intOf]
  ·by_cases b:n=4
   ·have c:Hid (R=true):=za (by rw[<-l.out];unfold l7;rw[zE];omega);subst b;go_wp2;go_ret;exact⟨by rw[c.out];rfl,rfl⟩
   have p:(n==(4:Int))=false:=zm.2 b;have d:Hid (∀j,j<2+1->n≠([1,2,4,8]:List Int).getD j 0):=za (fun j q=>by
    by_cases h:j=2
    ·subst h;simpa using b
    exact m.out j (by omega))
   clear b;go_wp2;go_round
   case rel=>exact⟨2+1,by omega,by go_num,d⟩
   case measure=>simp[intOf]
  ·by_cases b:n=8
   ·have c:Hid (R=true):=za (by rw[<-l.out];unfold l7;rw[zE];omega);subst b;go_wp2;go_ret;exact⟨by rw[c.out];rfl,rfl⟩
   have p:(n==(8:Int))=false:=zm.2 b;have d:Hid (∀j,j<3+1->n≠([1,2,4,8]:List Int).getD j 0):=za (fun j q=>by
    by_cases h:j=3
    ·subst h;simpa using b
    exact m.out j (by omega))
   clear b;go_wp2;go_round
   case rel=>exact⟨3+1,by omega,by go_num,d⟩
   case measure=>simp[intOf]
  have c:Hid (R=false):=za (by
   have o:=m.out;have s:=o 0 (by omega);have r:=o 1 (by omega);have u:=o 2 (by omega);have a3:=o 3 (by omega);simp at s r u a3;rw[<-l.out];unfold l7;rw[zu];omega)
  go_wp2;go_ret;exact⟨by rw[c.out];rfl,rfl⟩
def sized (l m s:Int):Bool:=decide (l<=s/\s<=m)
theorem Ud (l m s:Int)(g:Nat)(w:World)(h:w.cell? ⟨g,1,none⟩=some (.int .i64 s)):
 Calls prog 235 #[.int .i64 l,.int .i64 m,.pointer (some ⟨g,0,none⟩)] w fun e w'=>e= .returned (.bool (sized l m s))/\w=w':=by
 obtain⟨R,c⟩:∃R,Hid (sized l m s=R):=⟨_,za rfl⟩
 rw[c.out];by_cases i:l<=s
 ·by_cases d:s<=m
  ·have b:Hid (R=true):=za (by rw[<-c.out];exact zE ⟨i,d⟩);go_enter func235,ntmps235
   go_wp2;go_ret;exact⟨by rw[b.out];rfl,rfl⟩
  have b:Hid (R=false):=za (by rw[<-c.out];exact zu (fun h=>d h.2));go_enter func235,ntmps235
  go_wp2;go_ret;exact⟨by rw[b.out];rfl,rfl⟩
 have b:Hid (R=false):=za (by rw[<-c.out];exact zu (fun h=>i h.1));go_enter func235,ntmps235
 go_wp2;go_ret;exact⟨by rw[b.out];rfl,rfl⟩
theorem Jd (k s:Int)(A:Option Addr)(n cap:Nat)(t:Int)(w:World)(d:Laid w)(l:mJ k)(i:mJ s)(h:mJ t)(r:n<=9223372036854775807):
 Calls prog 210 #[.agg #[.int .i64 k,.int .i64 s,.slice A n cap,.int .i64 t]] w fun e w'=>e= .returned (.bool (ga k s n t))/\Below w.heap.size w w':=by
 unfold mJ at l i h;obtain⟨x,C⟩:=l;obtain⟨u,z⟩:=i;obtain⟨p,y⟩:=h;have m:=za (fun w' c=>QA s w' (d.below (B:=w.heap.size) c d.pos));obtain⟨b,c⟩:∃b,l7 s=b:=⟨_,rfl⟩
 rw[c]at m;have o:=za c;obtain⟨R,j⟩:∃R,Hid (ga k s n t=R):=⟨_,za rfl⟩
 rw[j.out];clear c d;go_enter func210,ntmps210
 go_wp2_with (first|(go_at_call 236;refine(m.out _ bQ).mono ?_;rintro e w' ⟨rfl,rfl⟩)|(go_at_call 235;refine(Ud _ _ s _ _ (by simp)).mono ?_;rintro e w' ⟨rfl,rfl⟩))
 all_goals
  go_ret;refine⟨aY ?_,bQ⟩;rw[<-j.out,yP];have q:=o.out;simp_all[ga,sized,l7]
  try omega
theorem cD.ok {w:World}{B:Nat}{x:Ty}{c b e j:Value}(h:cD w B x c b e j):mJ x.kind/\mJ x.size/\mJ x.tail/\x.sub.length<=9223372036854775807:=by
 obtain⟨A,cap,_,_,_,_,i,d,k,m,l,_⟩:=h.open_;exact⟨i,d,k,by omega⟩
theorem XJ :∀(x:Ty) (B:Nat) (w:World) (c0 c1 n c3:Value),cD w B x c0 c1 n c3->B<=w.heap.size->∀(lb d c:Nat),af w lb 3 #[.int .i64 c]->B<=lb->1<lb->Laid w->1<=d->d<=9->c<=64->
 Calls prog 175 #[.agg #[c0,c1,n,c3],.int .i64 d,.pointer (some ⟨lb,0,none⟩)] w fun e w'=>
  e= .returned (.bool (x.gZ d c).1)/\af w' lb 3 #[.int .i64 (x.gZ d c).2]/\ae [lb] w w':=by
 intro x;induction x using Ty.ind with
 |h ki s l ta ih=>
  intro B w c0 c1 n c3 h hB lb d c M ad GL aa an ak hc;obtain⟨rfl,rfl,rfl,S,X,oF,hs,A,cap,rfl,qZ,mR,eH⟩:=h;have IH:=za ih;have HS:=za eH;have aj:=za S;have ag:=za X;have Wd:=za oF;unfold mJ at S X oF;obtain⟨Rx,Rw⟩:=S;obtain⟨Rv,Ry⟩:=X;obtain⟨Rz,JU⟩:=oF;clear ih eH;have q1:w.cell? ⟨lb,0,none⟩=some (.int .i64 c):=M.cell 0;have J:=za M;have HL:=za aa;have l1:=M.lt;have j:Hid ((Ty.mk ki s l ta).gZ d c=if 8<d\/c=0\/ga ki s l.length ta=false then(false,c)else kK l (d+1) (c-1)):=za (by simp only[Ty.gZ]);generalize (Ty.mk ki s l ta).gZ d c=R at*;clear M aa;by_cases h1:8<d
  ·have m:Hid (R=(false,c)):=za (by rw[j.out,zi (.inl h1)]);clear j;go_enter func175,ntmps175
   go_wp2;go_ret;rw[m.out];exact⟨rfl,J.out.alloc _,C2⟩
  by_cases L:c=0
  ·have m:Hid (R=(false,c)):=za (by rw[j.out,zi (.inr (.inl L))]);subst L;clear j;go_enter func175,ntmps175
   go_wp2;go_ret;rw[m.out];exact⟨rfl,J.out.alloc _,C2⟩
  have e1:((c:Int)==0)=false:=zm.2 (by omega);have u:=za (Jd ki s A l.length cap ta (w.alloc (.cells #[.int .i64 ki,.int .i64 s,.slice A l.length cap,.int .i64 ta] 43)) (HL.out.alloc _) aj.out ag.out Wd.out hs);cases hf:ga ki s l.length ta with
  |false=>
   rw[hf]at u;have m:Hid (R=(false,c)):=za (by rw[j.out,zi (.inr (.inr hf))]);clear j hf L;go_enter func175,ntmps175
   go_wp2_with fail
   refine u.out.mono ?_;rintro e y ⟨rfl,hb⟩;go_wp2;go_ret;rw[m.out];have z:Below w.heap.size w y:=(yK (zl _ _) (zd _) _).trans (hb.mono (by simp));exact⟨rfl,J.out.only (ae.ah z (zd _)) (by simp),(ae.ah z (zd _)).mono (by simp)⟩
  |true=>
   rw[hf]at u;have m:Hid (R=kK l (d+1) (c-1)):=za (by rw[j.out,zh (by rw[hf];simp;omega)]);have AH:1<=c:=by omega
   clear j hf L;go_enter func175,ntmps175
   go_wp2_with fail
   refine u.out.mono ?_;rintro e y ⟨rfl,jb⟩;obtain⟨g0,g1,g2,g3⟩:=MN (by simpa using jb);have z:Below w.heap.size w y:=(yK (zl _ _) (zd _) _).trans (jb.mono (by simp));have G:=J.out.only (ae.ah z (zd _)) (by simp);have p1:y.cell? ⟨lb,0,none⟩=some (.int .i64 c):=G.cell 0;have al:y.frozen? ⟨lb,0,none⟩=false:=G.frozen 0;have uH:=za G;clear G jb q1 u;go_wp2_with fail
   go_loopw [30] (fun i wr=>∃k q:Nat,k<=l.length/\i= .int .i64 k/\Hid (kK (l.take k) (d+1) (c-1)=(true,q))/\af wr lb 3 #[.int .i64 q]/\ae [lb] w wr/\q<=64) (fun i _=>l.length-(intOf i).toNat)
   case atStart=>
    refine⟨0,c-1,by omega,rfl,za (by simp[kK]),uH.out.store (by simp;omega), ?_,by omega⟩;exact((ae.ah z (zd _)).mono (by simp)).setCell (by simp) _
   case round=>
    obtain⟨k,q,hk,rfl,YR,ab,r,ai⟩:=hrel;have C:Below B w wr:=r.below hB (by simp;omega);have UF:=r.size;have JW:=za ab;clear ab;by_cases I:k<l.length
    ·obtain⟨b,o,d0,d1,d2,d3,rfl,H,e0,rl,e2,e3,hi⟩:=HS.out.at_ k I;simp only[zM]at e0 rl e2 e3;replace e0:=(C.cell (p:=⟨b,o+k*4,none⟩) H).trans e0;replace rl:=(C.cell (p:=⟨b,o+k*4+1,none⟩) H).trans rl;replace e2:=(C.cell (p:=⟨b,o+k*4+2,none⟩) H).trans e2;replace e3:=(C.cell (p:=⟨b,o+k*4+3,none⟩) H).trans e3;obtain⟨A2,cn,rfl,rfl,rfl,rfl,_⟩:=hi.open_;have km:=zN I;have oa:=hi.below C;have W:=HL.out.only r (by simp;omega);have U:=za (IH.out _ km B (wr.alloc (.cells #[.int .i64 l[k].kind,.int .i64 l[k].size,.slice A2 l[k].sub.length cn,.int .i64 l[k].tail] 43)) _ _ _ _ (oa.below (yK (zl _ _) (by omega) _)) (by simp;omega) lb (d+1) q (JW.out.alloc _) ad GL (W.alloc _) (by omega) (by omega) ai);have K:=(EP l[k] (d+1) q (by omega)).2.2;obtain⟨⟨ah,n⟩,D⟩:∃T,l[k].gZ (d+1) q=T:=⟨_,rfl⟩
     rw[D]at U K;have LN:n<=64:=by simp at K;omega
     have N:(d:Int)+1=((d+1:Nat):Int):=by omega
     have E9:=za N;cases ah with
     |true=>
      have F:Hid (kK (l.take (k+1)) (d+1) (c-1)=(true,n)):=za (by rw[BS I YR.out,D]);clear hi oa D K N W;go_wp2_with fail
      rw[E9.out];refine U.out.mono ?_;rintro e Z ⟨rfl,Y,E⟩;have O:ae [lb] w Z:=(r.alloc _).trans E;clear E;go_wp2;go_roundw
      case rel=>exact⟨k+1,n,by omega,by go_num,F,Y,O,LN⟩
      case measure=>simp[intOf];omega
     |false=>
      have F:Hid (kK l (d+1) (c-1)=(false,n)):=za (Ml I YR.out D);clear hi oa D K N W;go_wp2_with fail
      rw[E9.out];refine U.out.mono ?_;rintro e Z ⟨rfl,Y,E⟩;have O:ae [lb] w Z:=(r.alloc _).trans E;clear E;go_wp2;go_ret;rw[m.out,F.out];exact⟨rfl,Y,O⟩
    have JV:=YR.out;rw[zy (by omega)]at JV;have F:=za JV;clear JV;go_wp2;go_ret;rw[m.out,F.out];exact⟨rfl,JW.out,r⟩
theorem kF (x:Ty)(B:Nat)(w:World)(b c d i:Value)(h:cD w B x b c d i)(n:B<=w.heap.size)(j:Laid w):
 Calls prog 149 #[.agg #[b,c,d,i]] w fun e w'=>e= .returned (.bool x.may)/\Below w.heap.size w w':=by
 have k:=af.new (w.alloc (.cells #[b,c,d,i] 43)) 3 #[.int .i64 64];have q:=j.pos;have o:=za (XJ x B ((w.alloc (.cells #[b,c,d,i] 43)).alloc (.cells #[.int .i64 64] 3)) b c d i (h.below ((yK (zl _ _) n _).alloc (by simp;omega) _)) (by simp;omega) (w.heap.size+1) 1 64 (by simpa using k) (by omega) (by omega) ((j.alloc _).alloc _) (by omega) (by omega) (by omega));have l:Hid (x.may=(x.gZ 1 64).1):=za (Mm x).symm;rw[l.out];obtain⟨A,cap,rfl,rfl,rfl,rfl,_⟩:=h.open_;generalize x.gZ 1 64=R at*;generalize x.kind=s at*;generalize x.size=r at*;generalize x.tail=u at*;clear h k j;go_enter func149,ntmps149
 go_wp2_with fail
 refine o.out.mono ?_;rintro e p ⟨rfl,y,m⟩;go_wp2;go_ret;exact⟨rfl,((zl w.heap.size w).alloc (zd _) _|>.alloc (by simp) _).trans (m.below (by simp;omega) (by simp))⟩
theorem qN (a b:List Ty):ca (a++b)=(ca a&&ca b):=by
 induction a with
 |nil=>simp[ca]
 |cons x xs ih=>simp[ca,ih,Bool.and_assoc]
theorem l8 {s:List Ty}{k:Nat}(h:k<s.length):ca (s.take (k+1))=(ca (s.take k)&&s[k].full):=by
 rw[gN s k h,qN];simp[ca]
theorem qO {s:List Ty}{k:Nat}(h:k<s.length)(c:s[k].full=false):ca s=false:=by
 have b:=qN (s.take (k+1)) (s.drop (k+1));rw[zJ,l8 h,c]at b;simpa using b
theorem K8 (x:Ty):x.full=(decide (x.tail=0)&&ca x.sub):=by cases x;rfl
theorem DA :∀(x:Ty) (B:Nat) (w:World) (F M G I:Value),cD w B x F M G I->B<=w.heap.size->True->
 Calls prog 158 #[.agg #[F,M,G,I]] w fun e w'=>e= .returned (.bool (ca x.sub))/\Below w.heap.size w w':=by
 intro x;induction x using Ty.ind with
 |h ki s l ta ih=>
  intro B w F M G I h hB _;obtain⟨rfl,rfl,rfl,nZ,W,X,hs,A,cap,rfl,qZ,mR,Z⟩:=h;have IH:=za ih;have HS:=za Z;unfold mJ at nZ W X;obtain⟨Rx,Rw⟩:=nZ;obtain⟨Rv,Ry⟩:=W;obtain⟨Rz,JU⟩:=X;clear ih Z;rw[Ty.gM];obtain⟨R,u⟩:∃R,Hid (ca l=R):=⟨_,za rfl⟩
  rw[u.out];go_enter func158,ntmps158
  go_wp2_with fail
  go_loopw [8] (fun i wr=>∃k:Nat,k<=l.length/\i= .int .i64 k/\Hid (ca (l.take k)=true)/\Below w.heap.size w wr) (fun i _=>l.length-(intOf i).toNat)
  case atStart=>exact⟨0,by omega,rfl,za (by simp[ca]),bQ⟩
  case round=>
   obtain⟨k,hk,rfl,Y,c⟩:=hrel;by_cases n:k<l.length
   ·obtain⟨b,o,d0,d1,d2,d3,rfl,fA,H,D,N,y,hi⟩:=HS.out.at_ k n;simp only[zM]at H D N y;replace H:=(c.cell (p:=⟨b,o+k*4,none⟩) (by simp;omega)).trans H;replace D:=(c.cell (p:=⟨b,o+k*4+1,none⟩) (by simp;omega)).trans D;replace N:=(c.cell (p:=⟨b,o+k*4+2,none⟩) (by simp;omega)).trans N;replace y:=(c.cell (p:=⟨b,o+k*4+3,none⟩) (by simp;omega)).trans y;have O:=c.size;have km:=zN n;have z:=hi.below (c.mono hB);obtain⟨C,E,rfl,rfl,rfl,rfl,_⟩:=hi.open_;have d:=K8 l[k];have m:=za (IH.out _ km B (wr.alloc (.cells #[.int .i64 l[k].kind,.int .i64 l[k].size,.slice C l[k].sub.length E,.int .i64 l[k].tail] 43)) _ _ _ _ (z.below (yK (zl _ _) (by omega) _)) (by simp;omega) trivial);by_cases j:l[k].tail=0
    ·have e5:((0:Int) !=0)=false:=rfl;rw[j]at m y d;generalize l[k].kind=U at*;generalize l[k].size=S at*;generalize l[k].sub.length=n2 at*;have q:Below w.heap.size w (wr.alloc (.cells #[.int .i64 U,.int .i64 S,.slice C n2 E,.int .i64 0] 43)):=c.alloc O _;have ei:=za q;cases hf:ca l[k].sub with
     |true=>
      rw[hf]at m;have r:Hid (ca (l.take (k+1))=true):=za (by rw[l8 n,Y.out,d,hf];rfl);clear hf d hi z j q;go_wp2_with fail
      refine m.out.mono ?_;rintro e w2 ⟨rfl,K⟩;have J:=ei.out.trans (K.mono (by simp;omega));go_wp2;go_roundw
      case rel=>exact⟨k+1,by omega,by go_num,r,J⟩
      case measure=>simp[intOf];omega
     |false=>
      rw[hf]at m;have r:Hid (R=false):=za (by rw[<-u.out];exact qO n (by rw[d,hf];rfl));clear hf d hi z j q;go_wp2_with fail
      refine m.out.mono ?_;rintro e w2 ⟨rfl,K⟩;have J:=ei.out.trans (K.mono (by simp;omega));go_wp2;go_ret;exact⟨by rw[r.out];rfl,J⟩
    have e5:(l[k].tail !=0)=true:=yL.2 j;have r:Hid (R=false):=za (by rw[<-u.out];exact qO n (by rw[d,zu j];rfl));have q:Below w.heap.size w (wr.alloc (.cells #[.int .i64 l[k].kind,.int .i64 l[k].size,.slice C l[k].sub.length E,.int .i64 l[k].tail] 43)):=c.alloc O _;generalize l[k].kind=U at*;generalize l[k].size=S at*;generalize l[k].sub.length=n2 at*;generalize l[k].tail=aa at*;clear d hi z j m;go_wp2;go_ret;exact⟨by rw[r.out];rfl,q⟩
   have L:=Y.out;rw[zy (by omega),u.out]at L;have HM:=za L;clear L;go_wp2;go_ret;exact⟨by rw[HM.out];rfl,c⟩
theorem Je (x:Ty)(B:Nat)(w:World)(b i c d:Value)(h:cD w B x b i c d)(C:B<=w.heap.size)(s:Laid w):
 Calls prog 125 #[.agg #[b,i,c,d]] w fun e w'=>e= .returned (.bool x.flat)/\Below w.heap.size w w':=by
 have H:=s.pos;have j:Below w.heap.size w (w.alloc (.cells #[b,i,c,d] 43)):=bQ;have l:=za (kF x B (w.alloc (.cells #[b,i,c,d] 43)) b i c d (h.below (j.mono C)) (by simp;omega) (s.below j H));have G:=za (fun V (r:Below (w.heap.size+1) (w.alloc (.cells #[b,i,c,d] 43)) V)=>DA x B V b i c d ((h.below (j.mono C)).below (r.mono (by omega))) (by have:=r.size;simp at this;omega) trivial);have m:Hid (x.flat=(x.may&&ca x.sub)):=za rfl;have y:=fun V (r:Below (w.heap.size+1) (w.alloc (.cells #[b,i,c,d] 43)) V)=>MN r
 obtain⟨A,cap,rfl,rfl,rfl,rfl,_⟩:=h.open_;generalize x.flat=R at*;generalize ca x.sub=F at*;generalize x.kind=E at*;generalize x.size=I at*;generalize x.sub.length=n at*;generalize x.tail=K at*;have u:=za j;have L:=za y;clear h s j y;cases hm:x.may with
 |true=>
  rw[hm]at l m;clear hm;go_enter func125,ntmps125
  go_wp2_with fail
  refine l.out.mono ?_;rintro e q ⟨rfl,k⟩;have p:Below (w.heap.size+1) (w.alloc (.cells #[.int .i64 E,.int .i64 I,.slice A n cap,.int .i64 K] 43)) q:=by simpa using k
  obtain⟨M,O,S,N⟩:=L.out q p;have D:=za (G.out q p);have o:=za (u.out.trans (p.mono (by omega)));clear k p;go_wp2_with fail
  refine D.out.mono ?_;rintro e w3 ⟨rfl,z⟩;have J:=za (o.out.trans (z.mono o.out.size));clear z;go_wp2;go_ret;exact⟨by rw[m.out];rfl,J.out⟩
 |false=>
  rw[hm]at l m;clear hm;go_enter func125,ntmps125
  go_wp2_with fail
  refine l.out.mono ?_;rintro e q ⟨rfl,k⟩;have o:=za (u.out.trans (k.mono (by simp)));clear k;go_wp2;go_ret;exact⟨by rw[m.out];rfl,o.out⟩
def wy (fv:Value)(w:World)(c0 c1 c2:Value):World:=
 ((((w.alloc (.cells #[c0,c1,c2] 28)).alloc (.cells #[fv] 34)).alloc (.cells #[.int .i64 0] 3)).alloc (.cells #[.int .i64 0] 3)).alloc
  (.cells #[.func (.func 208) #[] #[.pointer (some ⟨w.heap.size+1+1,0,none⟩),.pointer (some ⟨w.heap.size+1,0,none⟩),.pointer (some ⟨w.heap.size+1+1+1,0,none⟩),.pointer (some ⟨w.heap.size+1+1+1+1,0,none⟩)]] 254)
theorem Nl (b:Value)(w:World)(e d c:Value):Bc b (wy b w e d c) (w.heap.size+1+1) (w.heap.size+1) (w.heap.size+1+1+1) (w.heap.size+1+1+1+1) 0 0:=by
 unfold wy;refine⟨?_, ?_, ?_, ?_⟩
 ·refine af.alloc (af.alloc ?_ _) _;have:=af.new ((w.alloc (.cells #[e,d,c] 28)).alloc (.cells #[b] 34)) 3 #[.int .i64 0];simpa using this
 ·refine af.alloc (af.alloc (af.alloc ?_ _) _) _;have:=af.new (w.alloc (.cells #[e,d,c] 28)) 34 #[b];simpa using this
 ·refine af.alloc ?_ _;have:=af.new (((w.alloc (.cells #[e,d,c] 28)).alloc (.cells #[b] 34)).alloc (.cells #[.int .i64 0] 3)) 3 #[.int .i64 0];simpa using this
 have:=af.new ((((w.alloc (.cells #[e,d,c] 28)).alloc (.cells #[b] 34)).alloc (.cells #[.int .i64 0] 3)).alloc (.cells #[.int .i64 0] 3)) 254 #[.func (.func 208) #[] #[.pointer (some ⟨w.heap.size+1+1,0,none⟩),.pointer (some ⟨w.heap.size+1,0,none⟩),.pointer (some ⟨w.heap.size+1+1+1,0,none⟩),.pointer (some ⟨w.heap.size+1+1+1+1,0,none⟩)]];simpa using this
theorem wz (d:Value)(w:World)(e c b:Value):Below w.heap.size w (wy d w e c b):=by
 unfold wy;exact bQ
theorem Nn (d:Value)(w:World)(e c b:Value):(wy d w e c b).heap.size=w.heap.size+5:=by
 unfold wy;simp
def oZ (x:It):Value:= .tuple #[.int .i64 (if x.may then(x.count:Int)else 0),.int .i64 (if x.may then(x.deep:Int)else 0),.bool x.may]
theorem Jf (x:It)(B:Nat)(w:World)(j m k:Value)(h:dg w B x j m k)(L:B<=w.heap.size)(l:Value)(E:Vv l x):
 Calls prog 171 #[.agg #[j,m,k],l] w fun e w'=>e= .returned (oZ x)/\Below w.heap.size w w':=by
 have D:=Nn l w j m k;have y:=za (T9 x B (wy l w j m k) j m k (h.below ((wz l w j m k).mono L)) (by omega) l E _ _ _ _ 1 0 0 (Nl l w j m k) (by omega) (by omega) (by omega) (by omega) (by omega) (by omega) (by omega));have F:=wz l w j m k;have G:=za F;have p:x.may=(x.gZ 1 0 0).1:=(Tz x).symm;have o:(x.gZ 1 0 0).1=true->(x.gZ 1 0 0).2=(0+x.count,max 0 (1-1+x.deep)):=(Ic x 1 0 0 (by omega) (by omega)).2.1;obtain⟨⟨r,c,d⟩,H⟩:∃T,x.gZ 1 0 0=T:=⟨_,rfl⟩
 rw[H]at y p o;have C:Hid (oZ x= .tuple #[.int .i64 (if r then(c:Int)else 0),.int .i64 (if r then(d:Int)else 0),.bool r]):=za (by
  dsimp only at p o;unfold oZ;rw[p];cases r with
  |false=>rfl
  |true=>
   have K:=o rfl;injection K with h3 h4;subst h3;subst h4;simp)
 clear p o;obtain⟨A,cap,rfl,rfl,rfl,_⟩:=h.open_;have z:=za D;clear H h F D;rcases E with rfl|⟨rfl,_⟩;all_goals
  cases r with
  |true=>
   go_enter func171,ntmps171
   go_wp2_with fail
   refine y.out.mono ?_;rintro e b ⟨rfl,i,n⟩;have u:Below w.heap.size w b:=G.out.trans (n.below (by have:=z.out;omega) (by simp;omega));have q:b.cell? ⟨w.heap.size+1+1,0,none⟩=some (.int .i64 c):=zW i.k6;have J:b.frozen? ⟨w.heap.size+1+1,0,none⟩=false:=Zl i.k6;have s:b.cell? ⟨w.heap.size+1+1+1,0,none⟩=some (.int .i64 d):=zW i.dp;have I:b.frozen? ⟨w.heap.size+1+1+1,0,none⟩=false:=Zl i.dp;clear n i;go_wp2;go_region
   all_goals go_wp2
   all_goals
    refine zk (v:= .tuple #[.int .i64 c,.int .i64 d,.bool true]) (by simp[results,results171,go_sem,q,s]) rfl ⟨by rw[C.out];rfl, ?_⟩;exact(((u.setCell (by simp;omega) _).setCell (by simp;omega) _).drew)
  |false=>
   go_enter func171,ntmps171
   go_wp2_with fail
   refine y.out.mono ?_;rintro e b ⟨rfl,i,n⟩;have u:Below w.heap.size w b:=G.out.trans (n.below (by have:=z.out;omega) (by simp;omega));have q:b.cell? ⟨w.heap.size+1+1,0,none⟩=some (.int .i64 c):=zW i.k6;have J:b.frozen? ⟨w.heap.size+1+1,0,none⟩=false:=Zl i.k6;have s:b.cell? ⟨w.heap.size+1+1+1,0,none⟩=some (.int .i64 d):=zW i.dp;have I:b.frozen? ⟨w.heap.size+1+1+1,0,none⟩=false:=Zl i.dp;clear n i;go_wp2;refine zk (v:= .tuple #[.int .i64 0,.int .i64 0,.bool false]) (by simp[results,results171,go_sem,q,s]) rfl ⟨by rw[C.out];rfl, ?_⟩;exact((u.setCell (by simp;omega) _).setCell (by simp;omega) _)
theorem Vz (x:It)(B:Nat)(w:World)(c d i:Value)(h:dg w B x c d i)(m:B<=w.heap.size):
 Calls prog 167 #[.agg #[c,d,i]] w fun e w'=>e= .returned (.bool x.may)/\Below w.heap.size w w':=by
 have k:=za (Jf x B (w.alloc (.cells #[c,d,i] 28)) c d i (h.below (blm m)) (by simp;omega) _ (.inl rfl));obtain⟨a,b,j⟩:∃a b:Int,oZ x= .tuple #[.int .i64 a,.int .i64 b,.bool x.may]:=⟨_,_,rfl⟩
 rw[j]at k;obtain⟨A,cap,rfl,rfl,rfl,_⟩:=h.open_;clear h j;generalize x.may=R at*;go_enter func167,ntmps167
 go_wp2_with fail
 refine k.out.mono ?_;rintro e n ⟨rfl,l⟩;go_wp2;go_ret;exact⟨rfl,(yK (zl _ _) (zd _) _).trans (l.mono (by simp))⟩
def tJ (e0 e1 e2:Int):Int:=if e0≠0 then e0 else if e1≠0 then e1 else e2
def tK (e0 e1:Int)(I1 I2 I3:World->Prop)(w:World):Prop:=if e0≠0 then I1 w else if e1≠0 then I2 w else I3 w
theorem VA {b:Int}(h:b≠0)(c j:Int)(d e i:World->Prop)(w:World)(hi:d w):tJ b c j=b/\tK b c d e i w:=by
 unfold tJ tK;rw[zi h,zi h];exact⟨rfl,hi⟩
theorem VB {c b:Int}(h:c=0)(j:b≠0)(i:Int)(k d e:World->Prop)(w:World)(hi:d w):tJ c b i=b/\tK c b k d e w:=by
 subst h;simp[tJ,tK,j,hi]
theorem K9 {b c:Int}(h:b=0)(j:c=0)(e:Int)(k i d:World->Prop)(w:World)(hi:d w):tJ b c e=e/\tK b c k i d w:=by
 subst h;subst j;simp[tJ,tK,hi]
theorem Jg (w:World)(B:Nat)(s k1 k2:Array Value)(j m o:Int)(k l r:World->Prop)
 (D:af w B 61 #[.func (.func 142) #[] s,.func (.func 144) #[] k1,.func (.func 146) #[] k2])
 (c:Calls prog 142 s w fun e w'=>e= .returned (.int .i64 j)/\k w') (y:j=0->∀h,k h->Calls prog 144 k1 h fun e w'=>e= .returned (.int .i64 m)/\l w') (u:j=0->m=0->∀F,l F->Calls prog 146 k2 F fun e w'=>e= .returned (.int .i64 o)/\r w')
 (C:∀w',k w'->af w' B 61 #[.func (.func 142) #[] s,.func (.func 144) #[] k1,.func (.func 146) #[] k2]) (z:∀w',l w'->af w' B 61 #[.func (.func 142) #[] s,.func (.func 144) #[] k1,.func (.func 146) #[] k2]):
 Calls prog 141 #[.slice (some ⟨B,0,none⟩) 3 3] w fun e w'=>e= .returned (.int .i64 (tJ j m o))/\tK j m k l r w':=by
 have I:=za c;have O:=za y;have H:=za u;have R:=za C;have M:=za z;have N:=za D;clear c y u C z D;go_enter func141,ntmps141
 go_wp2_with fail
 go_loopw [8] (fun i wr=>(i= .int .i64 0/\Hid (wr=w))\/(i= .int .i64 1/\Hid (j=0/\k wr))\/(i= .int .i64 2/\Hid (j=0/\m=0/\l wr))\/(i= .int .i64 3/\Hid (j=0/\m=0/\o=0/\r wr))) (fun i _=>3-(intOf i).toNat)
 case atStart=>exact .inl ⟨rfl,za rfl⟩
 case round=>
  rcases hrel with⟨rfl,hi⟩|⟨rfl,hi⟩|⟨rfl,hi⟩|⟨rfl,hi⟩
  ·have p:Hid (Calls prog 142 s wr fun e w'=>e= .returned (.int .i64 j)/\k w'):=za (by rw[hi.out];exact I.out);have L:Hid (af wr B 61 #[.func (.func 142) #[] s,.func (.func 144) #[] k1,.func (.func 146) #[] k2]):=za (by rw[hi.out];exact N.out);obtain⟨A,E,G⟩:=kz L.out;have n:Hid True:=za trivial;rcases eT (j)with⟨c,k1,k2⟩|⟨c,k1,k2⟩
   ·subst c;clear k1 k2 hi;go_wp2_with fail
    refine p.out.mono ?_;rintro e h ⟨rfl,b⟩;have d:=za b;clear b;go_wp2;go_roundw
    case rel=>
     have b:=d.out;exact(.inr (.inl ⟨rfl,za ⟨by simp,b⟩⟩))
    case measure=>simp[intOf]
   have x:=za c;clear c hi;go_wp2_with fail
   refine p.out.mono ?_;rintro e h ⟨rfl,b⟩;have d:=za b;clear b;go_wp2;go_ret;have b:=d.out;obtain⟨q,z2⟩:=VA x.out m o k l r h b;exact⟨by rw[q];rfl,z2⟩
  ·have p:=za (O.out hi.out.1 wr hi.out.2);obtain⟨A,E,G⟩:=kz (R.out wr hi.out.2);have n:=hi;rcases eT (m)with⟨c,k1,k2⟩|⟨c,k1,k2⟩
   ·subst c;clear k1 k2 hi;go_wp2_with fail
    refine p.out.mono ?_;rintro e h ⟨rfl,b⟩;have d:=za b;clear b;go_wp2;go_roundw
    case rel=>
     have b:=d.out;exact(.inr (.inr (.inl ⟨rfl,za ⟨n.out.1,by simp,b⟩⟩)))
    case measure=>simp[intOf]
   have x:=za c;clear c hi;go_wp2_with fail
   refine p.out.mono ?_;rintro e h ⟨rfl,b⟩;have d:=za b;clear b;go_wp2;go_ret;have b:=d.out;obtain⟨q,z2⟩:=VB n.out.1 x.out o k l r h b;exact⟨by rw[q];rfl,z2⟩
  ·have p:=za (H.out hi.out.1 hi.out.2.1 wr hi.out.2.2);obtain⟨A,E,G⟩:=kz (M.out wr hi.out.2.2);have n:=hi;rcases eT (o)with⟨c,k1,k2⟩|⟨c,k1,k2⟩
   ·subst c;clear k1 k2 hi;go_wp2_with fail
    refine p.out.mono ?_;rintro e h ⟨rfl,b⟩;have d:=za b;clear b;go_wp2;go_roundw
    case rel=>
     have b:=d.out;exact(.inr (.inr (.inr ⟨rfl,za ⟨n.out.1,n.out.2.1,by simp,b⟩⟩)))
    case measure=>simp[intOf]
   have x:=za c;clear c hi;go_wp2_with fail
   refine p.out.mono ?_;rintro e h ⟨rfl,b⟩;have d:=za b;clear b;go_wp2;go_ret;have b:=d.out;obtain⟨q,z2⟩:=K9 n.out.1 n.out.2.1 o k l r h b;exact⟨by rw[q];rfl,z2⟩
  go_wp2;go_ret;obtain⟨y,u,K,J⟩:=hi.out;obtain⟨q,z2⟩:=K9 y u o k l r wr J;exact⟨by rw[q,K];rfl,z2⟩
theorem Jh (w:World)(B:Nat)(s k1 k2:Array Value)(j m o:Int)(k l r:World->Prop)
 (D:af w B 61 #[.func (.func 148) #[] s,.func (.func 150) #[] k1,.func (.func 152) #[] k2])
 (c:Calls prog 148 s w fun e w'=>e= .returned (.int .i64 j)/\k w') (y:j=0->∀h,k h->Calls prog 150 k1 h fun e w'=>e= .returned (.int .i64 m)/\l w') (u:j=0->m=0->∀F,l F->Calls prog 152 k2 F fun e w'=>e= .returned (.int .i64 o)/\r w')
 (C:∀w',k w'->af w' B 61 #[.func (.func 148) #[] s,.func (.func 150) #[] k1,.func (.func 152) #[] k2]) (z:∀w',l w'->af w' B 61 #[.func (.func 148) #[] s,.func (.func 150) #[] k1,.func (.func 152) #[] k2]):
 Calls prog 141 #[.slice (some ⟨B,0,none⟩) 3 3] w fun e w'=>e= .returned (.int .i64 (tJ j m o))/\tK j m k l r w':=by
 have I:=za c;have O:=za y;have H:=za u;have R:=za C;have M:=za z;have N:=za D;clear c y u C z D;go_enter func141,ntmps141
 go_wp2_with fail
 go_loopw [8] (fun i wr=>(i= .int .i64 0/\Hid (wr=w))\/(i= .int .i64 1/\Hid (j=0/\k wr))\/(i= .int .i64 2/\Hid (j=0/\m=0/\l wr))\/(i= .int .i64 3/\Hid (j=0/\m=0/\o=0/\r wr))) (fun i _=>3-(intOf i).toNat)
 case atStart=>exact .inl ⟨rfl,za rfl⟩
 case round=>
  rcases hrel with⟨rfl,hi⟩|⟨rfl,hi⟩|⟨rfl,hi⟩|⟨rfl,hi⟩
  ·have p:Hid (Calls prog 148 s wr fun e w'=>e= .returned (.int .i64 j)/\k w'):=za (by rw[hi.out];exact I.out);have L:Hid (af wr B 61 #[.func (.func 148) #[] s,.func (.func 150) #[] k1,.func (.func 152) #[] k2]):=za (by rw[hi.out];exact N.out);obtain⟨A,E,G⟩:=kz L.out;have n:Hid True:=za trivial;rcases eT (j)with⟨c,k1,k2⟩|⟨c,k1,k2⟩
   ·subst c;clear k1 k2 hi;go_wp2_with fail
    refine p.out.mono ?_;rintro e h ⟨rfl,b⟩;have d:=za b;clear b;go_wp2;go_roundw
    case rel=>
     have b:=d.out;exact(.inr (.inl ⟨rfl,za ⟨by simp,b⟩⟩))
    case measure=>simp[intOf]
   have x:=za c;clear c hi;go_wp2_with fail
   refine p.out.mono ?_;rintro e h ⟨rfl,b⟩;have d:=za b;clear b;go_wp2;go_ret;have b:=d.out;obtain⟨q,z2⟩:=VA x.out m o k l r h b;exact⟨by rw[q];rfl,z2⟩
  ·have p:=za (O.out hi.out.1 wr hi.out.2);obtain⟨A,E,G⟩:=kz (R.out wr hi.out.2);have n:=hi;rcases eT (m)with⟨c,k1,k2⟩|⟨c,k1,k2⟩
   ·subst c;clear k1 k2 hi;go_wp2_with fail
    refine p.out.mono ?_;rintro e h ⟨rfl,b⟩;have d:=za b;clear b;go_wp2;go_roundw
    case rel=>
     have b:=d.out;exact(.inr (.inr (.inl ⟨rfl,za ⟨n.out.1,by simp,b⟩⟩)))
    case measure=>simp[intOf]
   have x:=za c;clear c hi;go_wp2_with fail
   refine p.out.mono ?_;rintro e h ⟨rfl,b⟩;have d:=za b;clear b;go_wp2;go_ret;have b:=d.out;obtain⟨q,z2⟩:=VB n.out.1 x.out o k l r h b;exact⟨by rw[q];rfl,z2⟩
  ·have p:=za (H.out hi.out.1 hi.out.2.1 wr hi.out.2.2);obtain⟨A,E,G⟩:=kz (M.out wr hi.out.2.2);have n:=hi;rcases eT (o)with⟨c,k1,k2⟩|⟨c,k1,k2⟩
   ·subst c;clear k1 k2 hi;go_wp2_with fail
    refine p.out.mono ?_;rintro e h ⟨rfl,b⟩;have d:=za b;clear b;go_wp2;go_roundw
    case rel=>
     have b:=d.out;exact(.inr (.inr (.inr ⟨rfl,za ⟨n.out.1,n.out.2.1,by simp,b⟩⟩)))
    case measure=>simp[intOf]
   have x:=za c;clear c hi;go_wp2_with fail
   refine p.out.mono ?_;rintro e h ⟨rfl,b⟩;have d:=za b;clear b;go_wp2;go_ret;have b:=d.out;obtain⟨q,z2⟩:=K9 n.out.1 n.out.2.1 o k l r h b;exact⟨by rw[q];rfl,z2⟩
  go_wp2;go_ret;obtain⟨y,u,K,J⟩:=hi.out;obtain⟨q,z2⟩:=K9 y u o k l r wr J;exact⟨by rw[q,K];rfl,z2⟩
theorem XK (x:It)(D M:Int)(B:Nat)(w:World)(l m n:Value)(h:dg w B x l m n)(u:B<=w.heap.size):
 Calls prog 145 #[.agg #[l,m,n],.int .i64 D,.int .i64 M] w fun e w'=>e= .returned (.int .i64 (fO x D M))/\Below w.heap.size w w':=by
 have o:=za (Jf x B (w.alloc (.cells #[l,m,n] 28)) l m n (h.below (blm u)) (by simp;omega) _ (.inl rfl));obtain⟨A,cap,rfl,rfl,rfl,_⟩:=h.open_;clear h;cases hm:x.may with
 |false=>
  have k:Hid (oZ x= .tuple #[.int .i64 0,.int .i64 0,.bool false]):=za (by rw[oZ,hm];rfl);have j:Hid (fO x D M=1):=za (by rw[fO,zi hm]);clear hm;go_enter func145,ntmps145
  go_wp2_with fail
  refine o.out.mono ?_;rintro e q ⟨rfl,b⟩;rw[k.out];go_wp2;go_ret;rw[j.out];exact⟨rfl,(yK (zl _ _) (zd _) _).trans (b.mono (by simp))⟩
 |true=>
  obtain⟨c,p⟩:∃c,(x.count:Int)=c:=⟨_,rfl⟩
  obtain⟨d,hd⟩:∃d,(x.deep:Int)=d:=⟨_,rfl⟩
  have k:Hid (oZ x= .tuple #[.int .i64 c,.int .i64 d,.bool true]):=za (by rw[oZ,hm,<-p,<-hd];rfl);have i:fO x D M=if D<d then 6 else if M<c then 4 else 0:=by rw[fO,zh (by simp[hm]),p,hd]
  clear hm p hd;by_cases s:D<d
  ·have j:Hid (fO x D M=6):=za (by rw[i,zi s]);clear i;go_enter func145,ntmps145
   go_wp2_with fail
   refine o.out.mono ?_;rintro e q ⟨rfl,b⟩;rw[k.out];go_wp2;go_ret;rw[j.out];exact⟨rfl,(yK (zl _ _) (zd _) _).trans (b.mono (by simp))⟩
  rw[zh s]at i;by_cases r:M<c
  ·have j:Hid (fO x D M=4):=za (by rw[i,zi r]);clear i;go_enter func145,ntmps145
   go_wp2_with fail
   refine o.out.mono ?_;rintro e q ⟨rfl,b⟩;rw[k.out];go_wp2;go_ret;rw[j.out];exact⟨rfl,(yK (zl _ _) (zd _) _).trans (b.mono (by simp))⟩
  have j:Hid (fO x D M=0):=za (by rw[i,zh r]);clear i;go_enter func145,ntmps145
  go_wp2_with fail
  refine o.out.mono ?_;rintro e q ⟨rfl,b⟩;rw[k.out];go_wp2;go_ret;rw[j.out];exact⟨rfl,(yK (zl _ _) (zd _) _).trans (b.mono (by simp))⟩
theorem No :∀(x:Ty) (B:Nat) (w:World) (C J D F:Value),cD w B x C J D F->B<=w.heap.size->True->
 Calls prog 91 #[.agg #[C,J,D,F]] w fun e w'=>e= .returned (.bool (!x.full))/\Below w.heap.size w w':=by
 intro x;induction x using Ty.ind with
 |h ki s l ta ih=>
  intro B w C J D F h hB _;obtain⟨rfl,rfl,rfl,X,S,z,hs,A,cap,rfl,qZ,mR,W⟩:=h;have IH:=za ih;have HS:=za W;have Wd:=za z;unfold mJ at X S z;obtain⟨Rx,Rw⟩:=X;obtain⟨Rv,Ry⟩:=S;obtain⟨Rz,JU⟩:=z;clear ih W;obtain⟨R,y⟩:∃R,Hid ((!(Ty.mk ki s l ta).full)=R):=⟨_,za rfl⟩
  rw[y.out];by_cases j:ta=0
  ·subst j;have r:Hid (R= !(ca l)):=za (by rw[<-y.out];rfl);go_enter func91,ntmps91
   go_wp2_with fail
   go_loopw [3] (fun i wr=>∃k:Nat,k<=l.length/\i= .int .i64 k/\Hid (ca (l.take k)=true)/\Below w.heap.size w wr/\wr.cell? ⟨w.heap.size,2,none⟩=some (.slice A l.length cap)) (fun i _=>l.length-(intOf i).toNat)
   case atStart=>exact⟨0,by omega,rfl,za (by simp[ca]),bQ,by simp⟩
   case round=>
    obtain⟨k,hk,rfl,U,c,u⟩:=hrel;by_cases q:k<l.length
    ·obtain⟨b,o,d0,d1,d2,d3,rfl,fA,E,m,L,H,hi⟩:=HS.out.at_ k q;simp only[zM]at E m L H;replace E:=(c.cell (p:=⟨b,o+k*4,none⟩) (by simp;omega)).trans E;replace m:=(c.cell (p:=⟨b,o+k*4+1,none⟩) (by simp;omega)).trans m;replace L:=(c.cell (p:=⟨b,o+k*4+2,none⟩) (by simp;omega)).trans L;replace H:=(c.cell (p:=⟨b,o+k*4+3,none⟩) (by simp;omega)).trans H;have N:=c.size;have km:=zN q;have K:=hi.below (c.mono hB);have n:=za (IH.out _ km B wr d0 d1 d2 d3 K (by omega) trivial);cases hf:l[k].full with
     |true=>
      rw[hf]at n;have M:Hid (ca (l.take (k+1))=true):=za (by rw[l8 q,U.out,hf];rfl);clear hf hi K;go_wp2_with fail
      refine n.out.mono ?_;rintro e w2 ⟨rfl,d⟩;have Y:=lt_of_cell u;have O:=(d.cell (p:=⟨w.heap.size,2,none⟩) (by simp;omega)).trans u;have G:=c.trans (d.mono N);go_wp2;go_roundw
      case rel=>exact⟨k+1,by omega,by go_num,M,G,O⟩
      case measure=>simp[intOf];omega
     |false=>
      rw[hf]at n;have M:Hid (ca l=false):=za (qO q hf);clear hf hi K;go_wp2_with fail
      refine n.out.mono ?_;rintro e w2 ⟨rfl,d⟩;have Y:=lt_of_cell u;have O:=(d.cell (p:=⟨w.heap.size,2,none⟩) (by simp;omega)).trans u;have G:=c.trans (d.mono N);go_wp2;go_ret;exact⟨by rw[r.out,M.out];rfl,G⟩
    have I:=U.out;rw[zy (by omega)]at I;have Z:=za I;clear I;go_wp2;go_ret;exact⟨by rw[r.out,Z.out];rfl,c⟩
  have m:(ta !=0)=true:=yL.2 j;have r:Hid (R=true):=za (by rw[<-y.out,K8,Ty.CY,zu j];rfl);clear j;go_enter func91,ntmps91
  go_wp2;go_ret;exact⟨by rw[r.out];rfl,bQ⟩
theorem Np (x:Ty)(B:Nat)(w:World)(j q m n:Value)(h:cD w B x j q m n)(X:B<=w.heap.size)(O:x.count<=4611686018427387904):
 Calls prog 51 #[.agg #[j,q,m,n]] w fun e w'=>e= .returned (.bool x.flat)/\Below w.heap.size w w':=by
 have ad:=za (fun V (hV:Below w.heap.size w V)=>KS x B V j q m n (h.below (hV.mono X)) (by have:=hV.size;omega) O);obtain⟨r,s,l,z⟩:=x;obtain⟨rfl,rfl,rfl,nZ,CI,oF,hs,A,cap,rfl,qZ,mR,eH⟩:=h;have HS:=za eH;have IH:Hid (∀y∈l,∀(B:Nat) (w:World) (j q m n:Value),cD w B y j q m n->B<=w.heap.size->True->Calls prog 91 #[.agg #[j,q,m,n]] w fun e w'=>e= .returned (.bool (!y.full))/\Below w.heap.size w w'):=za (fun y _=>No y);have Y:Hid ((Ty.mk r s l z).flat=((Ty.mk r s l z).may&&ca l)):=za rfl;unfold mJ at nZ CI oF;clear eH O;generalize (Ty.mk r s l z).flat=R at*;generalize (Ty.mk r s l z).may=MY at*;have U:Hid (R=(MY&&ca l)):=Y;clear Y;go_enter func51,ntmps51
 go_wp2_with fail
 go_loopw [3] (fun i wr=>∃k:Nat,k<=l.length/\i= .int .i64 k/\Hid (ca (l.take k)=true)/\Below w.heap.size w wr/\wr.cell? ⟨w.heap.size,2,none⟩=some (.slice A l.length cap)/\Below (w.heap.size+1) (w.alloc (.cells #[.int .i64 r,.int .i64 s,.slice A l.length cap,.int .i64 z] 43)) wr) (fun i _=>l.length-(intOf i).toNat)
 case atStart=>exact⟨0,by omega,rfl,za (by simp[ca]),bQ,by simp,zl _ _⟩
 case round=>
  obtain⟨k,hk,rfl,W,c,E,H⟩:=hrel;by_cases D:k<l.length
  ·obtain⟨b,o,d0,d1,d2,d3,rfl,fA,I,G,M,J,hi⟩:=HS.out.at_ k D;simp only[zM]at I G M J;replace I:=(c.cell (p:=⟨b,o+k*4,none⟩) (by simp;omega)).trans I;replace G:=(c.cell (p:=⟨b,o+k*4+1,none⟩) (by simp;omega)).trans G;replace M:=(c.cell (p:=⟨b,o+k*4+2,none⟩) (by simp;omega)).trans M;replace J:=(c.cell (p:=⟨b,o+k*4+3,none⟩) (by simp;omega)).trans J;have C:=c.size;have km:=zN D;have L:=hi.below (c.mono X);have F:=za (IH.out _ km B wr d0 d1 d2 d3 L (by omega) trivial);have aa:=H.size;cases hf:l[k].full with
   |true=>
    rw[hf]at F;have N:Hid (ca (l.take (k+1))=true):=za (by rw[l8 D,W.out,hf];rfl);clear hf hi L;go_wp2_with fail
    refine F.out.mono ?_;rintro e Z ⟨rfl,d⟩;have ab:=H.trans (d.mono (by simpa using aa));have kY:=lt_of_cell E;have S:=(d.cell (p:=⟨w.heap.size,2,none⟩) (by simp;omega)).trans E;have u:=c.trans (d.mono C);go_wp2;go_roundw
    case rel=>exact⟨k+1,by omega,by go_num,N,u,S,ab⟩
    case measure=>simp[intOf];omega
   |false=>
    rw[hf]at F;have N:Hid (ca l=false):=za (qO D hf);clear hf hi L;go_wp2_with fail
    refine F.out.mono ?_;rintro e Z ⟨rfl,d⟩;have kY:=lt_of_cell E;have S:=(d.cell (p:=⟨w.heap.size,2,none⟩) (by simp;omega)).trans E;have u:=c.trans (d.mono C);go_wp2;go_ret;exact⟨by rw[U.out,N.out,Bool.and_false];rfl,u⟩
  have K:=W.out;rw[zy (by omega)]at K;have HM:=za K;obtain⟨q0,q1,q2,q3⟩:=MN H;have C:=c.size;have rz:=za (ad.out wr c);have HB:=za c;clear K;go_wp2_with fail
  refine rz.out.mono ?_;rintro e Z ⟨rfl,d⟩;have u:=HB.out.trans (d.mono C);go_wp2;go_ret;exact⟨by rw[U.out,HM.out,Zf];rfl,u⟩
