/- Package schema: May. -/
import Derived.Test.YtpjgigllldipiaaGreatDoorKA26
import Derived.Laws.EntriesVeiled
import Derived.Test.YtpjgigllldipiaaGreatDoorKA13
set_option linter.all false
set_option maxRecDepth 100000
set_option maxHeartbeats 2000000
namespace Go.Proofs.YtpjgigllldipiaaGreatDoor
open Go.RowKit
def Laid (w:World):Prop:=w.cell? ⟨1,0,none⟩=some (.int .i64 1)/\w.cell? ⟨1,1,none⟩=some (.int .i64 2)/\w.cell? ⟨1,2,none⟩=some (.int .i64 4)/\w.cell? ⟨1,3,none⟩=some (.int .i64 8)
theorem Laid.pos {w:World}(h:Laid w):1<w.heap.size:=lt_of_cell h.1
theorem Laid.same {w w':World}(h:Laid w)(b:w'.heap[1]?=w.heap[1]?):Laid w':=
 ⟨(zK b).trans h.1,(zK b).trans h.2.1,(zK b).trans h.2.2.1,(zK b).trans h.2.2.2⟩
theorem Laid.below {w w':World}{B:Nat}(h:Laid w)(b:Below B w w')(c:1<B):Laid w':=h.same (b.block 1 c)
theorem Laid.only {w w':World}{L:List Nat}(h:Laid w)(c:ae L w w')(b:1∉L):Laid w':=h.same (c.block 1 h.pos b)
theorem Laid.alloc {w:World}(h:Laid w)(o:Obj):Laid (w.alloc o):=h.below ((zq w.heap.size w).alloc (zi _) o) h.pos
def lE (n:Int):Bool:=decide (n=1\/n=2\/n=4\/n=8)
theorem P0 (n:Int)(w:World)(h:Laid w):Calls Tryz.prog 204 #[.int .i64 n] w fun e w'=>e= .returned (.bool (lE n))/\w=w':=by
 obtain⟨D,z,C,A⟩:=h;obtain⟨R,l⟩:∃R,Hid (lE n=R):=⟨_,za rfl⟩
 rw[l.out];have x:∀w,(Instr.index 261 (.agg #[.int .i64 1,.int .i64 2,.int .i64 4,.int .i64 8]) (.int .i64 0)).run Tryz.prog w= .ok (.int .i64 1) w:=fun _=>by kernel_rfl
 have i1:∀w,(Instr.index 261 (.agg #[.int .i64 1,.int .i64 2,.int .i64 4,.int .i64 8]) (.int .i64 1)).run Tryz.prog w= .ok (.int .i64 2) w:=fun _=>by kernel_rfl
 have i2:∀w,(Instr.index 261 (.agg #[.int .i64 1,.int .i64 2,.int .i64 4,.int .i64 8]) (.int .i64 2)).run Tryz.prog w= .ok (.int .i64 4) w:=fun _=>by kernel_rfl
 have B:∀w,(Instr.index 261 (.agg #[.int .i64 1,.int .i64 2,.int .i64 4,.int .i64 8]) (.int .i64 3)).run Tryz.prog w= .ok (.int .i64 8) w:=fun _=>by kernel_rfl
 go_enter Tryz.func204,Tryz.ntmps204
 go_wp2_with fail
 go_loop [6] (fun i=>∃k:Nat,k<=4/\i= .int .i64 k/\Hid (∀j,j<k->n≠([1,2,4,8]:List Int).getD j 0)) (fun i=>4-(intOf i).toNat)
 case atStart=>exact⟨0,by omega,rfl,za (by omega)⟩
 case round=>
  obtain⟨k,y,rfl,m⟩:=hrel;have key:k=0\/k=1\/k=2\/k=3\/k=4:=by omega
  rcases key with rfl|rfl|rfl|rfl|rfl
  ·by_cases b:n=1
   ·have c:Hid (R=true):=za (by rw[<-l.out];unfold lE;rw[zH];omega);subst b;go_wp2;go_ret;exact⟨by rw[c.out];rfl,rfl⟩
   have p:(n==(1:Int))=false:=zr.2 b;have d:Hid (∀j,j<0+1->n≠([1,2,4,8]:List Int).getD j 0):=za (fun j q=>by
    by_cases h:j=0
    ·subst h;simpa using b
    exact m.out j (by omega))
   clear b;go_wp2;go_round
   case rel=>exact⟨0+1,by omega,by go_num,d⟩
   case measure=>simp[intOf]
  ·by_cases b:n=2
   ·have c:Hid (R=true):=za (by rw[<-l.out];unfold lE;rw[zH];omega);subst b;go_wp2;go_ret;exact⟨by rw[c.out];rfl,rfl⟩
   have p:(n==(2:Int))=false:=zr.2 b;have d:Hid (∀j,j<1+1->n≠([1,2,4,8]:List Int).getD j 0):=za (fun j q=>by
    by_cases h:j=1
    ·subst h;simpa using b
    exact m.out j (by omega))
   clear b;go_wp2;go_round
   case rel=>exact⟨1+1,by omega,by go_num,d⟩
   case measure=>simp[intOf]
  ·by_cases b:n=4
   ·have c:Hid (R=true):=za (by rw[<-l.out];unfold lE;rw[zH];omega);subst b;go_wp2;go_ret;exact⟨by rw[c.out];rfl,rfl⟩
   have p:(n==(4:Int))=false:=zr.2 b;have d:Hid (∀j,j<2+1->n≠([1,2,4,8]:List Int).getD j 0):=za (fun j q=>by
    by_cases h:j=2
    ·subst h;simpa using b
    exact m.out j (by omega))
   clear b;go_wp2;go_round
   case rel=>exact⟨2+1,by omega,by go_num,d⟩
   case measure=>simp[intOf]
  ·by_cases b:n=8
   ·have c:Hid (R=true):=za (by rw[<-l.out];unfold lE;rw[zH];omega);subst b;go_wp2;go_ret;exact⟨by rw[c.out];rfl,rfl⟩
   have p:(n==(8:Int))=false:=zr.2 b;have d:Hid (∀j,j<3+1->n≠([1,2,4,8]:List Int).getD j 0):=za (fun j q=>by
    by_cases h:j=3
    ·subst h;simpa using b
    exact m.out j (by omega))
   clear b;go_wp2;go_round
   case rel=>exact⟨3+1,by omega,by go_num,d⟩
   case measure=>simp[intOf]
  have c:Hid (R=false):=za (by
   have o:=m.out;have u:=o 0 (by omega);have s:=o 1 (by omega);have r:=o 2 (by omega);have a3:=o 3 (by omega);simp at u s r a3;rw[<-l.out];unfold lE;rw[zz];omega)
  go_wp2;go_ret;exact⟨by rw[c.out];rfl,rfl⟩
def sized (l m s:Int):Bool:=decide (l<=s/\s<=m)
theorem Tw (l m s:Int)(g:Nat)(w:World)(h:w.cell? ⟨g,1,none⟩=some (.int .i64 s)):
 Calls Tryz.prog 203 #[.int .i64 l,.int .i64 m,.pointer (some ⟨g,0,none⟩)] w fun e w'=>e= .returned (.bool (sized l m s))/\w=w':=by
 obtain⟨R,c⟩:∃R,Hid (sized l m s=R):=⟨_,za rfl⟩
 rw[c.out];by_cases i:l<=s
 ·by_cases d:s<=m
  ·have b:Hid (R=true):=za (by rw[<-c.out];exact zH ⟨i,d⟩);go_enter Tryz.func203,Tryz.ntmps203
   go_wp2;go_ret;exact⟨by rw[b.out];rfl,rfl⟩
  have b:Hid (R=false):=za (by rw[<-c.out];exact zz (fun h=>d h.2));go_enter Tryz.func203,Tryz.ntmps203
  go_wp2;go_ret;exact⟨by rw[b.out];rfl,rfl⟩
 have b:Hid (R=false):=za (by rw[<-c.out];exact zz (fun h=>i h.1));go_enter Tryz.func203,Tryz.ntmps203
 go_wp2;go_ret;exact⟨by rw[b.out];rfl,rfl⟩
theorem IN (k s:Int)(A:Option Addr)(n cap:Nat)(t:Int)(w:World)(d:Laid w)(m:l9 k)(i:l9 s)(j:l9 t)(r:n<=9223372036854775807):
 Calls Tryz.prog 177 #[.agg #[.int .i64 k,.int .i64 s,.slice A n cap,.int .i64 t]] w fun e w'=>e= .returned (.bool (fS k s n t))/\Below w.heap.size w w':=by
 unfold l9 at m i j;obtain⟨C,z⟩:=m;obtain⟨x,p⟩:=i;obtain⟨y,q⟩:=j;have h:=za (fun w' c=>P0 s w' (d.below (B:=w.heap.size) c d.pos));obtain⟨b,c⟩:∃b,lE s=b:=⟨_,rfl⟩
 rw[c]at h;have o:=za c;obtain⟨R,l⟩:∃R,Hid (fS k s n t=R):=⟨_,za rfl⟩
 rw[l.out];clear c d;go_enter Tryz.func177,Tryz.ntmps177
 go_wp2_with (first|(go_at_call 204;refine(h.out _ bM).mono ?_;rintro e w' ⟨rfl,rfl⟩)|(go_at_call 203;refine(Tw _ _ s _ _ (by simp)).mono ?_;rintro e w' ⟨rfl,rfl⟩))
 all_goals
  go_ret;refine⟨aV ?_,bM⟩;rw[<-l.out,yY];have u:=o.out;simp_all[fS,sized,lE]
  try omega
theorem cw.ok {w:World}{B:Nat}{x:Ty}{e d j k:Value}(h:cw w B x e d j k):l9 x.kind/\l9 x.size/\l9 x.tail/\x.sub.length<=9223372036854775807:=by
 obtain⟨A,cap,_,_,_,_,c,b,i,l,m,_⟩:=h.open_;exact⟨c,b,i,by omega⟩
theorem WT :∀(x:Ty) (B:Nat) (w:World) (c0 c1 m X:Value),cw w B x c0 c1 m X->B<=w.heap.size->∀(lb d c:Nat),af w lb 3 #[.int .i64 c]->B<=lb->1<lb->Laid w->1<=d->d<=9->c<=64->
 Calls Tryz.prog 135 #[.agg #[c0,c1,m,X],.int .i64 d,.pointer (some ⟨lb,0,none⟩)] w fun e w'=>
  e= .returned (.bool (x.gP d c).1)/\af w' lb 3 #[.int .i64 (x.gP d c).2]/\ae [lb] w w':=by
 intro x;induction x using Ty.ind with
 |h ki s l ta ih=>
  intro B w c0 c1 m X h hB lb d c K ag DO ad al an hc;obtain⟨rfl,rfl,rfl,Y,Cf,nN,hs,A,cap,rfl,nW,lM,dx⟩:=h;have IH:=za ih;have HS:=za dx;have ak:=za Y;have ai:=za Cf;have ah:=za nN;unfold l9 at Y Cf nN;obtain⟨QP,QQ⟩:=Y;obtain⟨QN,QR⟩:=Cf;obtain⟨QO,Jp⟩:=nN;clear ih dx;have q1:w.cell? ⟨lb,0,none⟩=some (.int .i64 c):=K.cell 0;have L:=za K;have HL:=za ad;have l1:=K.lt;have j:Hid ((Ty.mk ki s l ta).gP d c=if 8<d\/c=0\/fS ki s l.length ta=false then(false,c)else ko l (d+1) (c-1)):=za (by simp only[Ty.gP]);generalize (Ty.mk ki s l ta).gP d c=R at*;clear K ad;by_cases h1:8<d
  ·have n:Hid (R=(false,c)):=za (by rw[j.out,zl (.inl h1)]);clear j;go_enter Tryz.func135,Tryz.ntmps135
   go_wp2;go_ret;rw[n.out];exact⟨rfl,L.out.alloc _,Cx⟩
  by_cases N:c=0
  ·have n:Hid (R=(false,c)):=za (by rw[j.out,zl (.inr (.inl N))]);subst N;clear j;go_enter Tryz.func135,Tryz.ntmps135
   go_wp2;go_ret;rw[n.out];exact⟨rfl,L.out.alloc _,Cx⟩
  have e1:((c:Int)==0)=false:=zr.2 (by omega);have y:=za (IN ki s A l.length cap ta (w.alloc (.cells #[.int .i64 ki,.int .i64 s,.slice A l.length cap,.int .i64 ta] 64)) (HL.out.alloc _) ak.out ai.out ah.out hs);cases hf:fS ki s l.length ta with
  |false=>
   rw[hf]at y;have n:Hid (R=(false,c)):=za (by rw[j.out,zl (.inr (.inr hf))]);clear j hf N;go_enter Tryz.func135,Tryz.ntmps135
   go_wp2_with fail
   refine y.out.mono ?_;rintro e F ⟨rfl,hb⟩;go_wp2;go_ret;rw[n.out];have z:Below w.heap.size w F:=(yJ (zq _ _) (zi _) _).trans (hb.mono (by simp));exact⟨rfl,L.out.only (ae.ah z (zi _)) (by simp),(ae.ah z (zi _)).mono (by simp)⟩
  |true=>
   rw[hf]at y;have n:Hid (R=ko l (d+1) (c-1)):=za (by rw[j.out,zj (by rw[hf];simp;omega)]);have AL:1<=c:=by omega
   clear j hf N;go_enter Tryz.func135,Tryz.ntmps135
   go_wp2_with fail
   refine y.out.mono ?_;rintro e F ⟨rfl,kH⟩;obtain⟨g0,g1,g2,g3⟩:=L5 (by simpa using kH);have z:Below w.heap.size w F:=(yJ (zq _ _) (zi _) _).trans (kH.mono (by simp));have I:=L.out.only (ae.ah z (zi _)) (by simp);have p1:F.cell? ⟨lb,0,none⟩=some (.int .i64 c):=I.cell 0;have ao:F.frozen? ⟨lb,0,none⟩=false:=I.frozen 0;have GL:=za I;clear I kH q1 y;go_wp2_with fail
   go_loopw [30] (fun i wr=>∃k q:Nat,k<=l.length/\i= .int .i64 k/\Hid (ko (l.take k) (d+1) (c-1)=(true,q))/\af wr lb 3 #[.int .i64 q]/\ae [lb] w wr/\q<=64) (fun i _=>l.length-(intOf i).toNat)
   case atStart=>
    refine⟨0,c-1,by omega,rfl,za (by simp[ko]),GL.out.store (by simp;omega), ?_,by omega⟩;exact((ae.ah z (zi _)).mono (by simp)).setCell (by simp) _
   case round=>
    obtain⟨k,q,hk,rfl,X8,ab,u,aj⟩:=hrel;have E:Below B w wr:=u.below hB (by simp;omega);have U8:=u.size;have Jr:=za ab;clear ab;by_cases J:k<l.length
    ·obtain⟨b,o,d0,d1,d2,d3,rfl,H,e0,qy,e2,S,hi⟩:=HS.out.at_ k J;simp only[zQ]at e0 qy e2 S;replace e0:=(E.cell (p:=⟨b,o+k*4,none⟩) H).trans e0;replace qy:=(E.cell (p:=⟨b,o+k*4+1,none⟩) H).trans qy;replace e2:=(E.cell (p:=⟨b,o+k*4+2,none⟩) H).trans e2;replace S:=(E.cell (p:=⟨b,o+k*4+3,none⟩) H).trans S;obtain⟨A2,ca,rfl,rfl,rfl,rfl,_⟩:=hi.open_;have iE:=zM J;have lh:=hi.below E;have aa:=HL.out.only u (by simp;omega);have W:=za (IH.out _ iE B (wr.alloc (.cells #[.int .i64 l[k].kind,.int .i64 l[k].size,.slice A2 l[k].sub.length ca,.int .i64 l[k].tail] 64)) _ _ _ _ (lh.below (yJ (zq _ _) (by omega) _)) (by simp;omega) lb (d+1) q (Jr.out.alloc _) ag DO (aa.alloc _) (by omega) (by omega) aj);have M:=(Ek l[k] (d+1) q (by omega)).2.2;obtain⟨⟨r,m⟩,G⟩:∃T,l[k].gP (d+1) q=T:=⟨_,rfl⟩
     rw[G]at W M;have K9:m<=64:=by simp at M;omega
     have O:(d:Int)+1=((d+1:Nat):Int):=by omega
     have E9:=za O;cases r with
     |true=>
      have C:Hid (ko (l.take (k+1)) (d+1) (c-1)=(true,m)):=za (by rw[Bl J X8.out,G]);clear hi lh G M O aa;go_wp2_with fail
      rw[E9.out];refine W.out.mono ?_;rintro e w2 ⟨rfl,U,D⟩;have Jq:ae [lb] w w2:=(u.alloc _).trans D;clear D;go_wp2;go_roundw
      case rel=>exact⟨k+1,m,by omega,by go_num,C,U,Jq,K9⟩
      case measure=>simp[intOf];omega
     |false=>
      have C:Hid (ko l (d+1) (c-1)=(false,m)):=za (LJ J X8.out G);clear hi lh G M O aa;go_wp2_with fail
      rw[E9.out];refine W.out.mono ?_;rintro e w2 ⟨rfl,U,D⟩;have Jq:ae [lb] w w2:=(u.alloc _).trans D;clear D;go_wp2;go_ret;rw[n.out,C.out];exact⟨rfl,U,Jq⟩
    have Z:=X8.out;rw[zC (by omega)]at Z;have C:=za Z;clear Z;go_wp2;go_ret;rw[n.out,C.out];exact⟨rfl,Jr.out,u⟩
theorem kd (x:Ty)(B:Nat)(w:World)(b c d i:Value)(h:cw w B x b c d i)(o:B<=w.heap.size)(j:Laid w):
 Calls Tryz.prog 93 #[.agg #[b,c,d,i]] w fun e w'=>e= .returned (.bool x.may)/\Below w.heap.size w w':=by
 have k:=af.new (w.alloc (.cells #[b,c,d,i] 64)) 3 #[.int .i64 64];have y:=j.pos;have n:=za (WT x B ((w.alloc (.cells #[b,c,d,i] 64)).alloc (.cells #[.int .i64 64] 3)) b c d i (h.below ((yJ (zq _ _) o _).alloc (by simp;omega) _)) (by simp;omega) (w.heap.size+1) 1 64 (by simpa using k) (by omega) (by omega) ((j.alloc _).alloc _) (by omega) (by omega) (by omega));have l:Hid (x.may=(x.gP 1 64).1):=za (LK x).symm;rw[l.out];obtain⟨A,cap,rfl,rfl,rfl,rfl,_⟩:=h.open_;generalize x.gP 1 64=R at*;generalize x.kind=q at*;generalize x.size=p at*;generalize x.tail=u at*;clear h k j;go_enter Tryz.func93,Tryz.ntmps93
 go_wp2_with fail
 refine n.out.mono ?_;rintro e r ⟨rfl,s,m⟩;go_wp2;go_ret;exact⟨rfl,((zq w.heap.size w).alloc (zi _) _|>.alloc (by simp) _).trans (m.below (by simp;omega) (by simp))⟩
theorem qj (a b:List Ty):bZ (a++b)=(bZ a&&bZ b):=by
 induction a with
 |nil=>simp[bZ]
 |cons x xs ih=>simp[bZ,ih,Bool.and_assoc]
theorem lF {s:List Ty}{k:Nat}(h:k<s.length):bZ (s.take (k+1))=(bZ (s.take k)&&s[k].full):=by
 rw[gD s k h,qj];simp[bZ]
theorem qk {s:List Ty}{k:Nat}(h:k<s.length)(c:s[k].full=false):bZ s=false:=by
 have b:=qj (s.take (k+1)) (s.drop (k+1));rw[zL,lF h,c]at b;simpa using b
theorem KE (x:Ty):x.full=(decide (x.tail=0)&&bZ x.sub):=by cases x;rfl
theorem C7 :∀(x:Ty) (B:Nat) (w:World) (N M J H:Value),cw w B x N M J H->B<=w.heap.size->True->
 Calls Tryz.prog 102 #[.agg #[N,M,J,H]] w fun e w'=>e= .returned (.bool (bZ x.sub))/\Below w.heap.size w w':=by
 intro x;induction x using Ty.ind with
 |h ki s l ta ih=>
  intro B w N M J H h hB _;obtain⟨rfl,rfl,rfl,U,Cf,O,hs,A,cap,rfl,nW,lM,Y⟩:=h;have IH:=za ih;have HS:=za Y;unfold l9 at U Cf O;obtain⟨QP,QQ⟩:=U;obtain⟨QN,QR⟩:=Cf;obtain⟨QO,Jp⟩:=O;clear ih Y;rw[Ty.gA];obtain⟨R,y⟩:∃R,Hid (bZ l=R):=⟨_,za rfl⟩
  rw[y.out];go_enter Tryz.func102,Tryz.ntmps102
  go_wp2_with fail
  go_loopw [8] (fun i wr=>∃k:Nat,k<=l.length/\i= .int .i64 k/\Hid (bZ (l.take k)=true)/\Below w.heap.size w wr) (fun i _=>l.length-(intOf i).toNat)
  case atStart=>exact⟨0,by omega,rfl,za (by simp[bZ]),bM⟩
  case round=>
   obtain⟨k,hk,rfl,S,c⟩:=hrel;by_cases r:k<l.length
   ·obtain⟨b,o,d0,d1,d2,d3,rfl,fa,E,I,K,u,hi⟩:=HS.out.at_ k r;simp only[zQ]at E I K u;replace E:=(c.cell (p:=⟨b,o+k*4,none⟩) (by simp;omega)).trans E;replace I:=(c.cell (p:=⟨b,o+k*4+1,none⟩) (by simp;omega)).trans I;replace K:=(c.cell (p:=⟨b,o+k*4+2,none⟩) (by simp;omega)).trans K;replace u:=(c.cell (p:=⟨b,o+k*4+3,none⟩) (by simp;omega)).trans u;have X:=c.size;have iE:=zM r;have z:=hi.below (c.mono hB);obtain⟨C,D,rfl,rfl,rfl,rfl,_⟩:=hi.open_;have d:=KE l[k];have m:=za (IH.out _ iE B (wr.alloc (.cells #[.int .i64 l[k].kind,.int .i64 l[k].size,.slice C l[k].sub.length D,.int .i64 l[k].tail] 64)) _ _ _ _ (z.below (yJ (zq _ _) (by omega) _)) (by simp;omega) trivial);by_cases j:l[k].tail=0
    ·have e5:((0:Int) !=0)=false:=rfl;rw[j]at m u d;generalize l[k].kind=Z at*;generalize l[k].size=aa at*;generalize l[k].sub.length=n2 at*;have n:Below w.heap.size w (wr.alloc (.cells #[.int .i64 Z,.int .i64 aa,.slice C n2 D,.int .i64 0] 64)):=c.alloc X _;have W:=za n;cases hf:bZ l[k].sub with
     |true=>
      rw[hf]at m;have q:Hid (bZ (l.take (k+1))=true):=za (by rw[lF r,S.out,d,hf];rfl);clear hf d hi z j n;go_wp2_with fail
      refine m.out.mono ?_;rintro e w2 ⟨rfl,G⟩;have L:=W.out.trans (G.mono (by simp;omega));go_wp2;go_roundw
      case rel=>exact⟨k+1,by omega,by go_num,q,L⟩
      case measure=>simp[intOf];omega
     |false=>
      rw[hf]at m;have q:Hid (R=false):=za (by rw[<-y.out];exact qk r (by rw[d,hf];rfl));clear hf d hi z j n;go_wp2_with fail
      refine m.out.mono ?_;rintro e w2 ⟨rfl,G⟩;have L:=W.out.trans (G.mono (by simp;omega));go_wp2;go_ret;exact⟨by rw[q.out];rfl,L⟩
    have e5:(l[k].tail !=0)=true:=yP.2 j;have q:Hid (R=false):=za (by rw[<-y.out];exact qk r (by rw[d,zz j];rfl));have n:Below w.heap.size w (wr.alloc (.cells #[.int .i64 l[k].kind,.int .i64 l[k].size,.slice C l[k].sub.length D,.int .i64 l[k].tail] 64)):=c.alloc X _;generalize l[k].kind=Z at*;generalize l[k].size=aa at*;generalize l[k].sub.length=n2 at*;generalize l[k].tail=ab at*;clear d hi z j m;go_wp2;go_ret;exact⟨by rw[q.out];rfl,n⟩
   have F:=S.out;rw[zC (by omega),y.out]at F;have HM:=za F;clear F;go_wp2;go_ret;exact⟨by rw[HM.out];rfl,c⟩
theorem IP (x:Ty)(B:Nat)(w:World)(i d c b:Value)(h:cw w B x i d c b)(z:B<=w.heap.size)(s:Laid w):
 Calls Tryz.prog 64 #[.agg #[i,d,c,b]] w fun e w'=>e= .returned (.bool x.flat)/\Below w.heap.size w w':=by
 have G:=s.pos;have k:Below w.heap.size w (w.alloc (.cells #[i,d,c,b] 64)):=bM;have p:=za (kd x B (w.alloc (.cells #[i,d,c,b] 64)) i d c b (h.below (k.mono z)) (by simp;omega) (s.below k G));have H:=za (fun V (l:Below (w.heap.size+1) (w.alloc (.cells #[i,d,c,b] 64)) V)=>C7 x B V i d c b ((h.below (k.mono z)).below (l.mono (by omega))) (by have:=l.size;simp at this;omega) trivial);have r:Hid (x.flat=(x.may&&bZ x.sub)):=za rfl;have u:=fun V (l:Below (w.heap.size+1) (w.alloc (.cells #[i,d,c,b] 64)) V)=>L5 l
 obtain⟨A,cap,rfl,rfl,rfl,rfl,_⟩:=h.open_;generalize x.flat=R at*;generalize bZ x.sub=F at*;generalize x.kind=L at*;generalize x.size=D at*;generalize x.sub.length=n at*;generalize x.tail=I at*;have y:=za k;have E:=za u;clear h s k u;cases hm:x.may with
 |true=>
  rw[hm]at p r;clear hm;go_enter Tryz.func64,Tryz.ntmps64
  go_wp2_with fail
  refine p.out.mono ?_;rintro e o ⟨rfl,j⟩;have q:Below (w.heap.size+1) (w.alloc (.cells #[.int .i64 L,.int .i64 D,.slice A n cap,.int .i64 I] 64)) o:=by simpa using j
  obtain⟨M,S,O,N⟩:=E.out o q;have J:=za (H.out o q);have m:=za (y.out.trans (q.mono (by omega)));clear j q;go_wp2_with fail
  refine J.out.mono ?_;rintro e w3 ⟨rfl,C⟩;have K:=za (m.out.trans (C.mono m.out.size));clear C;go_wp2;go_ret;exact⟨by rw[r.out];rfl,K.out⟩
 |false=>
  rw[hm]at p r;clear hm;go_enter Tryz.func64,Tryz.ntmps64
  go_wp2_with fail
  refine p.out.mono ?_;rintro e o ⟨rfl,j⟩;have m:=za (y.out.trans (j.mono (by simp)));clear j;go_wp2;go_ret;exact⟨by rw[r.out];rfl,m.out⟩
def vD (fv:Value)(w:World)(c0 c1 c2:Value):World:=
 ((((w.alloc (.cells #[c0,c1,c2] 28)).alloc (.cells #[fv] 34)).alloc (.cells #[.int .i64 0] 3)).alloc (.cells #[.int .i64 0] 3)).alloc
  (.cells #[.func (.func 175) #[] #[.pointer (some ⟨w.heap.size+1+1,0,none⟩),.pointer (some ⟨w.heap.size+1,0,none⟩),.pointer (some ⟨w.heap.size+1+1+1,0,none⟩),.pointer (some ⟨w.heap.size+1+1+1+1,0,none⟩)]] 221)
theorem ML (b:Value)(w:World)(c d e:Value):Ap b (vD b w c d e) (w.heap.size+1+1) (w.heap.size+1) (w.heap.size+1+1+1) (w.heap.size+1+1+1+1) 0 0:=by
 unfold vD;refine⟨?_, ?_, ?_, ?_⟩
 ·refine af.alloc (af.alloc ?_ _) _;have:=af.new ((w.alloc (.cells #[c,d,e] 28)).alloc (.cells #[b] 34)) 3 #[.int .i64 0];simpa using this
 ·refine af.alloc (af.alloc (af.alloc ?_ _) _) _;have:=af.new (w.alloc (.cells #[c,d,e] 28)) 34 #[b];simpa using this
 ·refine af.alloc ?_ _;have:=af.new (((w.alloc (.cells #[c,d,e] 28)).alloc (.cells #[b] 34)).alloc (.cells #[.int .i64 0] 3)) 3 #[.int .i64 0];simpa using this
 have:=af.new ((((w.alloc (.cells #[c,d,e] 28)).alloc (.cells #[b] 34)).alloc (.cells #[.int .i64 0] 3)).alloc (.cells #[.int .i64 0] 3)) 221 #[.func (.func 175) #[] #[.pointer (some ⟨w.heap.size+1+1,0,none⟩),.pointer (some ⟨w.heap.size+1,0,none⟩),.pointer (some ⟨w.heap.size+1+1+1,0,none⟩),.pointer (some ⟨w.heap.size+1+1+1+1,0,none⟩)]];simpa using this
theorem vE (e:Value)(w:World)(b c d:Value):Below w.heap.size w (vD e w b c d):=by
 unfold vD;exact bM
theorem MM (e:Value)(w:World)(b c d:Value):(vD e w b c d).heap.size=w.heap.size+5:=by
 unfold vD;simp
def oh (x:It):Value:= .tuple #[.int .i64 (if x.may then(x.count:Int)else 0),.int .i64 (if x.may then(x.deep:Int)else 0),.bool x.may]
theorem IQ (x:It)(B:Nat)(w:World)(m l k:Value)(h:bW w B x m l k)(J:B<=w.heap.size)(j:Value)(E:UR j x):
 Calls Tryz.prog 131 #[.agg #[m,l,k],j] w fun e w'=>e= .returned (oh x)/\Below w.heap.size w w':=by
 have C:=MM j w m l k;have u:=za (Tq x B (vD j w m l k) m l k (h.below ((vE j w m l k).mono J)) (by omega) j E _ _ _ _ 1 0 0 (ML j w m l k) (by omega) (by omega) (by omega) (by omega) (by omega) (by omega) (by omega));have G:=vE j w m l k;have z:=za G;have o:x.may=(x.gP 1 0 0).1:=(SR x).symm;have p:(x.gP 1 0 0).1=true->(x.gP 1 0 0).2=(0+x.count,max 0 (1-1+x.deep)):=(Ho x 1 0 0 (by omega) (by omega)).2.1;obtain⟨⟨r,c,d⟩,H⟩:∃T,x.gP 1 0 0=T:=⟨_,rfl⟩
 rw[H]at u o p;have F:Hid (oh x= .tuple #[.int .i64 (if r then(c:Int)else 0),.int .i64 (if r then(d:Int)else 0),.bool r]):=za (by
  dsimp only at o p;unfold oh;rw[o];cases r with
  |false=>rfl
  |true=>
   have K:=p rfl;injection K with h3 h4;subst h3;subst h4;simp)
 clear o p;obtain⟨A,cap,rfl,rfl,rfl,_⟩:=h.open_;have D:=za C;clear H h G C;rcases E with rfl|⟨rfl,_⟩;all_goals
  cases r with
  |true=>
   go_enter Tryz.func131,Tryz.ntmps131
   go_wp2_with fail
   refine u.out.mono ?_;rintro e i ⟨rfl,b,n⟩;have s:Below w.heap.size w i:=z.out.trans (n.below (by have:=D.out;omega) (by simp;omega));have q:i.cell? ⟨w.heap.size+1+1,0,none⟩=some (.int .i64 c):=yd b.kI;have L:i.frozen? ⟨w.heap.size+1+1,0,none⟩=false:=Zw b.kI;have y:i.cell? ⟨w.heap.size+1+1+1,0,none⟩=some (.int .i64 d):=yd b.dp;have I:i.frozen? ⟨w.heap.size+1+1+1,0,none⟩=false:=Zw b.dp;clear n b;go_wp2;go_region
   all_goals go_wp2
   all_goals
    refine zp (v:= .tuple #[.int .i64 c,.int .i64 d,.bool true]) (by simp[results,Tryz.results131,go_sem,q,y]) rfl ⟨by rw[F.out];rfl, ?_⟩;exact(((s.setCell (by simp;omega) _).setCell (by simp;omega) _).drew)
  |false=>
   go_enter Tryz.func131,Tryz.ntmps131
   go_wp2_with fail
   refine u.out.mono ?_;rintro e i ⟨rfl,b,n⟩;have s:Below w.heap.size w i:=z.out.trans (n.below (by have:=D.out;omega) (by simp;omega));have q:i.cell? ⟨w.heap.size+1+1,0,none⟩=some (.int .i64 c):=yd b.kI;have L:i.frozen? ⟨w.heap.size+1+1,0,none⟩=false:=Zw b.kI;have y:i.cell? ⟨w.heap.size+1+1+1,0,none⟩=some (.int .i64 d):=yd b.dp;have I:i.frozen? ⟨w.heap.size+1+1+1,0,none⟩=false:=Zw b.dp;clear n b;go_wp2;refine zp (v:= .tuple #[.int .i64 0,.int .i64 0,.bool false]) (by simp[results,Tryz.results131,go_sem,q,y]) rfl ⟨by rw[F.out];rfl, ?_⟩;exact((s.setCell (by simp;omega) _).setCell (by simp;omega) _)
theorem UU (x:It)(B:Nat)(w:World)(d c i:Value)(h:bW w B x d c i)(m:B<=w.heap.size):
 Calls Tryz.prog 127 #[.agg #[d,c,i]] w fun e w'=>e= .returned (.bool x.may)/\Below w.heap.size w w':=by
 have k:=za (IQ x B (w.alloc (.cells #[d,c,i] 28)) d c i (h.below (blm m)) (by simp;omega) _ (.inl rfl));obtain⟨a,b,j⟩:∃a b:Int,oh x= .tuple #[.int .i64 a,.int .i64 b,.bool x.may]:=⟨_,_,rfl⟩
 rw[j]at k;obtain⟨A,cap,rfl,rfl,rfl,_⟩:=h.open_;clear h j;generalize x.may=R at*;go_enter Tryz.func127,Tryz.ntmps127
 go_wp2_with fail
 refine k.out.mono ?_;rintro e n ⟨rfl,l⟩;go_wp2;go_ret;exact⟨rfl,(yJ (zq _ _) (zi _) _).trans (l.mono (by simp))⟩
def tk (e0 e1 e2:Int):Int:=if e0≠0 then e0 else if e1≠0 then e1 else e2
def tp (e0 e1:Int)(I1 I2 I3:World->Prop)(w:World):Prop:=if e0≠0 then I1 w else if e1≠0 then I2 w else I3 w
theorem UW {b:Int}(h:b≠0)(c i:Int)(d e j:World->Prop)(w:World)(hi:d w):tk b c i=b/\tp b c d e j w:=by
 unfold tk tp;rw[zl h,zl h];exact⟨rfl,hi⟩
theorem UX {c b:Int}(h:c=0)(k:b≠0)(e:Int)(i d j:World->Prop)(w:World)(hi:d w):tk c b e=b/\tp c b i d j w:=by
 subst h;simp[tk,tp,k,hi]
theorem KF {c b:Int}(h:c=0)(k:b=0)(d:Int)(j i e:World->Prop)(w:World)(hi:e w):tk c b d=d/\tp c b j i e w:=by
 subst h;subst k;simp[tk,tp,hi]
theorem IS (w:World)(B:Nat)(s k1 k2:Array Value)(j o p:Int)(k l q:World->Prop)
 (F:af w B 111 #[.func (.func 86) #[] s,.func (.func 88) #[] k1,.func (.func 90) #[] k2])
 (c:Calls Tryz.prog 86 s w fun e w'=>e= .returned (.int .i64 j)/\k w') (x:j=0->∀h,k h->Calls Tryz.prog 88 k1 h fun e w'=>e= .returned (.int .i64 o)/\l w') (y:j=0->o=0->∀D,l D->Calls Tryz.prog 90 k2 D fun e w'=>e= .returned (.int .i64 p)/\q w')
 (E:∀w',k w'->af w' B 111 #[.func (.func 86) #[] s,.func (.func 88) #[] k1,.func (.func 90) #[] k2]) (z:∀w',l w'->af w' B 111 #[.func (.func 86) #[] s,.func (.func 88) #[] k1,.func (.func 90) #[] k2]):
 Calls Tryz.prog 85 #[.slice (some ⟨B,0,none⟩) 3 3] w fun e w'=>e= .returned (.int .i64 (tk j o p))/\tp j o k l q w':=by
 have M:=za c;have O:=za x;have R:=za y;have I:=za E;have K:=za z;have H:=za F;clear c x y E z F;go_enter Tryz.func85,Tryz.ntmps85
 go_wp2_with fail
 go_loopw [8] (fun i wr=>(i= .int .i64 0/\Hid (wr=w))\/(i= .int .i64 1/\Hid (j=0/\k wr))\/(i= .int .i64 2/\Hid (j=0/\o=0/\l wr))\/(i= .int .i64 3/\Hid (j=0/\o=0/\p=0/\q wr))) (fun i _=>3-(intOf i).toNat)
 case atStart=>exact .inl ⟨rfl,za rfl⟩
 case round=>
  rcases hrel with⟨rfl,hi⟩|⟨rfl,hi⟩|⟨rfl,hi⟩|⟨rfl,hi⟩
  ·have m:Hid (Calls Tryz.prog 86 s wr fun e w'=>e= .returned (.int .i64 j)/\k w'):=za (by rw[hi.out];exact M.out);have L:Hid (af wr B 111 #[.func (.func 86) #[] s,.func (.func 88) #[] k1,.func (.func 90) #[] k2]):=za (by rw[hi.out];exact H.out);obtain⟨A,G,C⟩:=j7 L.out;have n:Hid True:=za trivial;rcases eH (j)with⟨c,k1,k2⟩|⟨c,k1,k2⟩
   ·subst c;clear k1 k2 hi;go_wp2_with fail
    refine m.out.mono ?_;rintro e h ⟨rfl,b⟩;have d:=za b;clear b;go_wp2;go_roundw
    case rel=>
     have b:=d.out;exact(.inr (.inl ⟨rfl,za ⟨by simp,b⟩⟩))
    case measure=>simp[intOf]
   have u:=za c;clear c hi;go_wp2_with fail
   refine m.out.mono ?_;rintro e h ⟨rfl,b⟩;have d:=za b;clear b;go_wp2;go_ret;have b:=d.out;obtain⟨r,z2⟩:=UW u.out o p k l q h b;exact⟨by rw[r];rfl,z2⟩
  ·have m:=za (O.out hi.out.1 wr hi.out.2);obtain⟨A,G,C⟩:=j7 (I.out wr hi.out.2);have n:=hi;rcases eH (o)with⟨c,k1,k2⟩|⟨c,k1,k2⟩
   ·subst c;clear k1 k2 hi;go_wp2_with fail
    refine m.out.mono ?_;rintro e h ⟨rfl,b⟩;have d:=za b;clear b;go_wp2;go_roundw
    case rel=>
     have b:=d.out;exact(.inr (.inr (.inl ⟨rfl,za ⟨n.out.1,by simp,b⟩⟩)))
    case measure=>simp[intOf]
   have u:=za c;clear c hi;go_wp2_with fail
   refine m.out.mono ?_;rintro e h ⟨rfl,b⟩;have d:=za b;clear b;go_wp2;go_ret;have b:=d.out;obtain⟨r,z2⟩:=UX n.out.1 u.out p k l q h b;exact⟨by rw[r];rfl,z2⟩
  ·have m:=za (R.out hi.out.1 hi.out.2.1 wr hi.out.2.2);obtain⟨A,G,C⟩:=j7 (K.out wr hi.out.2.2);have n:=hi;rcases eH (p)with⟨c,k1,k2⟩|⟨c,k1,k2⟩
   ·subst c;clear k1 k2 hi;go_wp2_with fail
    refine m.out.mono ?_;rintro e h ⟨rfl,b⟩;have d:=za b;clear b;go_wp2;go_roundw
    case rel=>
     have b:=d.out;exact(.inr (.inr (.inr ⟨rfl,za ⟨n.out.1,n.out.2.1,by simp,b⟩⟩)))
    case measure=>simp[intOf]
   have u:=za c;clear c hi;go_wp2_with fail
   refine m.out.mono ?_;rintro e h ⟨rfl,b⟩;have d:=za b;clear b;go_wp2;go_ret;have b:=d.out;obtain⟨r,z2⟩:=KF n.out.1 n.out.2.1 p k l q h b;exact⟨by rw[r];rfl,z2⟩
  go_wp2;go_ret;obtain⟨x,y,N,J⟩:=hi.out;obtain⟨r,z2⟩:=KF x y p k l q wr J;exact⟨by rw[r,N];rfl,z2⟩
theorem IU (w:World)(B:Nat)(s k1 k2:Array Value)(j o p:Int)(k l q:World->Prop)
 (F:af w B 111 #[.func (.func 92) #[] s,.func (.func 94) #[] k1,.func (.func 96) #[] k2])
 (c:Calls Tryz.prog 92 s w fun e w'=>e= .returned (.int .i64 j)/\k w') (x:j=0->∀h,k h->Calls Tryz.prog 94 k1 h fun e w'=>e= .returned (.int .i64 o)/\l w') (y:j=0->o=0->∀D,l D->Calls Tryz.prog 96 k2 D fun e w'=>e= .returned (.int .i64 p)/\q w')
 (E:∀w',k w'->af w' B 111 #[.func (.func 92) #[] s,.func (.func 94) #[] k1,.func (.func 96) #[] k2]) (z:∀w',l w'->af w' B 111 #[.func (.func 92) #[] s,.func (.func 94) #[] k1,.func (.func 96) #[] k2]):
 Calls Tryz.prog 85 #[.slice (some ⟨B,0,none⟩) 3 3] w fun e w'=>e= .returned (.int .i64 (tk j o p))/\tp j o k l q w':=by
 have M:=za c;have O:=za x;have R:=za y;have I:=za E;have K:=za z;have H:=za F;clear c x y E z F;go_enter Tryz.func85,Tryz.ntmps85
 go_wp2_with fail
 go_loopw [8] (fun i wr=>(i= .int .i64 0/\Hid (wr=w))\/(i= .int .i64 1/\Hid (j=0/\k wr))\/(i= .int .i64 2/\Hid (j=0/\o=0/\l wr))\/(i= .int .i64 3/\Hid (j=0/\o=0/\p=0/\q wr))) (fun i _=>3-(intOf i).toNat)
 case atStart=>exact .inl ⟨rfl,za rfl⟩
 case round=>
  rcases hrel with⟨rfl,hi⟩|⟨rfl,hi⟩|⟨rfl,hi⟩|⟨rfl,hi⟩
  ·have m:Hid (Calls Tryz.prog 92 s wr fun e w'=>e= .returned (.int .i64 j)/\k w'):=za (by rw[hi.out];exact M.out);have L:Hid (af wr B 111 #[.func (.func 92) #[] s,.func (.func 94) #[] k1,.func (.func 96) #[] k2]):=za (by rw[hi.out];exact H.out);obtain⟨A,G,C⟩:=j7 L.out;have n:Hid True:=za trivial;rcases eH (j)with⟨c,k1,k2⟩|⟨c,k1,k2⟩
   ·subst c;clear k1 k2 hi;go_wp2_with fail
    refine m.out.mono ?_;rintro e h ⟨rfl,b⟩;have d:=za b;clear b;go_wp2;go_roundw
    case rel=>
     have b:=d.out;exact(.inr (.inl ⟨rfl,za ⟨by simp,b⟩⟩))
    case measure=>simp[intOf]
   have u:=za c;clear c hi;go_wp2_with fail
   refine m.out.mono ?_;rintro e h ⟨rfl,b⟩;have d:=za b;clear b;go_wp2;go_ret;have b:=d.out;obtain⟨r,z2⟩:=UW u.out o p k l q h b;exact⟨by rw[r];rfl,z2⟩
  ·have m:=za (O.out hi.out.1 wr hi.out.2);obtain⟨A,G,C⟩:=j7 (I.out wr hi.out.2);have n:=hi;rcases eH (o)with⟨c,k1,k2⟩|⟨c,k1,k2⟩
   ·subst c;clear k1 k2 hi;go_wp2_with fail
    refine m.out.mono ?_;rintro e h ⟨rfl,b⟩;have d:=za b;clear b;go_wp2;go_roundw
    case rel=>
     have b:=d.out;exact(.inr (.inr (.inl ⟨rfl,za ⟨n.out.1,by simp,b⟩⟩)))
    case measure=>simp[intOf]
   have u:=za c;clear c hi;go_wp2_with fail
   refine m.out.mono ?_;rintro e h ⟨rfl,b⟩;have d:=za b;clear b;go_wp2;go_ret;have b:=d.out;obtain⟨r,z2⟩:=UX n.out.1 u.out p k l q h b;exact⟨by rw[r];rfl,z2⟩
  ·have m:=za (R.out hi.out.1 hi.out.2.1 wr hi.out.2.2);obtain⟨A,G,C⟩:=j7 (K.out wr hi.out.2.2);have n:=hi;rcases eH (p)with⟨c,k1,k2⟩|⟨c,k1,k2⟩
   ·subst c;clear k1 k2 hi;go_wp2_with fail
    refine m.out.mono ?_;rintro e h ⟨rfl,b⟩;have d:=za b;clear b;go_wp2;go_roundw
    case rel=>
     have b:=d.out;exact(.inr (.inr (.inr ⟨rfl,za ⟨n.out.1,n.out.2.1,by simp,b⟩⟩)))
    case measure=>simp[intOf]
   have u:=za c;clear c hi;go_wp2_with fail
   refine m.out.mono ?_;rintro e h ⟨rfl,b⟩;have d:=za b;clear b;go_wp2;go_ret;have b:=d.out;obtain⟨r,z2⟩:=KF n.out.1 n.out.2.1 p k l q h b;exact⟨by rw[r];rfl,z2⟩
  go_wp2;go_ret;obtain⟨x,y,N,J⟩:=hi.out;obtain⟨r,z2⟩:=KF x y p k l q wr J;exact⟨by rw[r,N];rfl,z2⟩
theorem WU (x:It)(D M:Int)(B:Nat)(w:World)(m l o:Value)(h:bW w B x m l o)(u:B<=w.heap.size):
 Calls Tryz.prog 89 #[.agg #[m,l,o],.int .i64 D,.int .i64 M] w fun e w'=>e= .returned (.int .i64 (fI x D M))/\Below w.heap.size w w':=by
 have n:=za (IQ x B (w.alloc (.cells #[m,l,o] 28)) m l o (h.below (blm u)) (by simp;omega) _ (.inl rfl));obtain⟨A,cap,rfl,rfl,rfl,_⟩:=h.open_;clear h;cases hm:x.may with
 |false=>
  have k:Hid (oh x= .tuple #[.int .i64 0,.int .i64 0,.bool false]):=za (by rw[oh,hm];rfl);have b:Hid (fI x D M=1):=za (by rw[fI,zl hm]);clear hm;go_enter Tryz.func89,Tryz.ntmps89
  go_wp2_with fail
  refine n.out.mono ?_;rintro e p ⟨rfl,i⟩;rw[k.out];go_wp2;go_ret;rw[b.out];exact⟨rfl,(yJ (zq _ _) (zi _) _).trans (i.mono (by simp))⟩
 |true=>
  obtain⟨c,q⟩:∃c,(x.count:Int)=c:=⟨_,rfl⟩
  obtain⟨d,hd⟩:∃d,(x.deep:Int)=d:=⟨_,rfl⟩
  have k:Hid (oh x= .tuple #[.int .i64 c,.int .i64 d,.bool true]):=za (by rw[oh,hm,<-q,<-hd];rfl);have j:fI x D M=if D<d then 6 else if M<c then 4 else 0:=by rw[fI,zj (by simp[hm]),q,hd]
  clear hm q hd;by_cases s:D<d
  ·have b:Hid (fI x D M=6):=za (by rw[j,zl s]);clear j;go_enter Tryz.func89,Tryz.ntmps89
   go_wp2_with fail
   refine n.out.mono ?_;rintro e p ⟨rfl,i⟩;rw[k.out];go_wp2;go_ret;rw[b.out];exact⟨rfl,(yJ (zq _ _) (zi _) _).trans (i.mono (by simp))⟩
  rw[zj s]at j;by_cases r:M<c
  ·have b:Hid (fI x D M=4):=za (by rw[j,zl r]);clear j;go_enter Tryz.func89,Tryz.ntmps89
   go_wp2_with fail
   refine n.out.mono ?_;rintro e p ⟨rfl,i⟩;rw[k.out];go_wp2;go_ret;rw[b.out];exact⟨rfl,(yJ (zq _ _) (zi _) _).trans (i.mono (by simp))⟩
  have b:Hid (fI x D M=0):=za (by rw[j,zj r]);clear j;go_enter Tryz.func89,Tryz.ntmps89
  go_wp2_with fail
  refine n.out.mono ?_;rintro e p ⟨rfl,i⟩;rw[k.out];go_wp2;go_ret;rw[b.out];exact⟨rfl,(yJ (zq _ _) (zi _) _).trans (i.mono (by simp))⟩
theorem MN :∀(x:Ty) (B:Nat) (w:World) (L K H G:Value),cw w B x L K H G->B<=w.heap.size->True->
 Calls Tryz.prog 37 #[.agg #[L,K,H,G]] w fun e w'=>e= .returned (.bool (!x.full))/\Below w.heap.size w w':=by
 intro x;induction x using Ty.ind with
 |h ki s l ta ih=>
  intro B w L K H G h hB _;obtain⟨rfl,rfl,rfl,O,X,z,hs,A,cap,rfl,nW,lM,W⟩:=h;have IH:=za ih;have Y:=za W;have aa:=za z;unfold l9 at O X z;obtain⟨QP,QQ⟩:=O;obtain⟨QN,QR⟩:=X;obtain⟨QO,Jp⟩:=z;clear ih W;obtain⟨R,D⟩:∃R,Hid ((!(Ty.mk ki s l ta).full)=R):=⟨_,za rfl⟩
  rw[D.out];by_cases j:ta=0
  ·subst j;have r:Hid (R= !(bZ l)):=za (by rw[<-D.out];rfl);go_enter Tryz.func37,Tryz.ntmps37
   go_wp2_with fail
   go_loopw [3] (fun i wr=>∃k:Nat,k<=l.length/\i= .int .i64 k/\Hid (bZ (l.take k)=true)/\Below w.heap.size w wr/\wr.cell? ⟨w.heap.size,2,none⟩=some (.slice A l.length cap)) (fun i _=>l.length-(intOf i).toNat)
   case atStart=>exact⟨0,by omega,rfl,za (by simp[bZ]),bM,by simp⟩
   case round=>
    obtain⟨k,hk,rfl,N,c,q⟩:=hrel;by_cases u:k<l.length
    ·obtain⟨b,o,d0,d1,d2,d3,rfl,fa,y,n,I,C,hi⟩:=Y.out.at_ k u;simp only[zQ]at y n I C;replace y:=(c.cell (p:=⟨b,o+k*4,none⟩) (by simp;omega)).trans y;replace n:=(c.cell (p:=⟨b,o+k*4+1,none⟩) (by simp;omega)).trans n;replace I:=(c.cell (p:=⟨b,o+k*4+2,none⟩) (by simp;omega)).trans I;replace C:=(c.cell (p:=⟨b,o+k*4+3,none⟩) (by simp;omega)).trans C;have U:=c.size;have iE:=zM u;have M:=hi.below (c.mono hB);have m:=za (IH.out _ iE B wr d0 d1 d2 d3 M (by omega) trivial);cases hf:l[k].full with
     |true=>
      rw[hf]at m;have F:Hid (bZ (l.take (k+1))=true):=za (by rw[lF u,N.out,hf];rfl);clear hf hi M;go_wp2_with fail
      refine m.out.mono ?_;rintro e w2 ⟨rfl,d⟩;have Z:=lt_of_cell q;have S:=(d.cell (p:=⟨w.heap.size,2,none⟩) (by simp;omega)).trans q;have J:=c.trans (d.mono U);go_wp2;go_roundw
      case rel=>exact⟨k+1,by omega,by go_num,F,J,S⟩
      case measure=>simp[intOf];omega
     |false=>
      rw[hf]at m;have F:Hid (bZ l=false):=za (qk u hf);clear hf hi M;go_wp2_with fail
      refine m.out.mono ?_;rintro e w2 ⟨rfl,d⟩;have Z:=lt_of_cell q;have S:=(d.cell (p:=⟨w.heap.size,2,none⟩) (by simp;omega)).trans q;have J:=c.trans (d.mono U);go_wp2;go_ret;exact⟨by rw[r.out,F.out];rfl,J⟩
    have E:=N.out;rw[zC (by omega)]at E;have HM:=za E;clear E;go_wp2;go_ret;exact⟨by rw[r.out,HM.out];rfl,c⟩
  have n:(ta !=0)=true:=yP.2 j;have r:Hid (R=true):=za (by rw[<-D.out,KE,Ty.Ct,zz j];rfl);clear j;go_enter Tryz.func37,Tryz.ntmps37
  go_wp2;go_ret;exact⟨by rw[r.out];rfl,bM⟩
theorem MO (x:Ty)(B:Nat)(w:World)(q n m j:Value)(h:cw w B x q n m j)(Y:B<=w.heap.size)(Z:x.count<=4611686018427387904):
 Calls Tryz.prog 25 #[.agg #[q,n,m,j]] w fun e w'=>e= .returned (.bool x.flat)/\Below w.heap.size w w':=by
 have Uf:=za (fun V (O:Below w.heap.size w V)=>Ku x B V q n m j (h.below (O.mono Y)) (by have:=O.size;omega) Z);obtain⟨z,s,l,r⟩:=x;obtain⟨rfl,rfl,rfl,sW,Cf,nN,hs,A,cap,rfl,nW,lM,dx⟩:=h;have HS:=za dx;have IH:Hid (∀y∈l,∀(B:Nat) (w:World) (q n m j:Value),cw w B y q n m j->B<=w.heap.size->True->Calls Tryz.prog 37 #[.agg #[q,n,m,j]] w fun e w'=>e= .returned (.bool (!y.full))/\Below w.heap.size w w'):=za (fun y _=>MN y);have S:Hid ((Ty.mk z s l r).flat=((Ty.mk z s l r).may&&bZ l)):=za rfl;unfold l9 at sW Cf nN;clear dx Z;generalize (Ty.mk z s l r).flat=R at*;generalize (Ty.mk z s l r).may=MY at*;have HX:Hid (R=(MY&&bZ l)):=S;clear S;go_enter Tryz.func25,Tryz.ntmps25
 go_wp2_with fail
 go_loopw [3] (fun i wr=>∃k:Nat,k<=l.length/\i= .int .i64 k/\Hid (bZ (l.take k)=true)/\Below w.heap.size w wr/\wr.cell? ⟨w.heap.size,2,none⟩=some (.slice A l.length cap)/\Below (w.heap.size+1) (w.alloc (.cells #[.int .i64 z,.int .i64 s,.slice A l.length cap,.int .i64 r] 64)) wr) (fun i _=>l.length-(intOf i).toNat)
 case atStart=>exact⟨0,by omega,rfl,za (by simp[bZ]),bM,by simp,zq _ _⟩
 case round=>
  obtain⟨k,hk,rfl,U,c,E,K⟩:=hrel;by_cases F:k<l.length
  ·obtain⟨b,o,d0,d1,d2,d3,rfl,fa,G,L,M,H,hi⟩:=HS.out.at_ k F;simp only[zQ]at G L M H;replace G:=(c.cell (p:=⟨b,o+k*4,none⟩) (by simp;omega)).trans G;replace L:=(c.cell (p:=⟨b,o+k*4+1,none⟩) (by simp;omega)).trans L;replace M:=(c.cell (p:=⟨b,o+k*4+2,none⟩) (by simp;omega)).trans M;replace H:=(c.cell (p:=⟨b,o+k*4+3,none⟩) (by simp;omega)).trans H;have D:=c.size;have iE:=zM F;have N:=hi.below (c.mono Y);have C:=za (IH.out _ iE B wr d0 d1 d2 d3 N (by omega) trivial);have ab:=K.size;cases hf:l[k].full with
   |true=>
    rw[hf]at C;have J:Hid (bZ (l.take (k+1))=true):=za (by rw[lF F,U.out,hf];rfl);clear hf hi N;go_wp2_with fail
    refine C.out.mono ?_;rintro e X ⟨rfl,d⟩;have aa:=K.trans (d.mono (by simpa using ab));have kf:=lt_of_cell E;have W:=(d.cell (p:=⟨w.heap.size,2,none⟩) (by simp;omega)).trans E;have u:=c.trans (d.mono D);go_wp2;go_roundw
    case rel=>exact⟨k+1,by omega,by go_num,J,u,W,aa⟩
    case measure=>simp[intOf];omega
   |false=>
    rw[hf]at C;have J:Hid (bZ l=false):=za (qk F hf);clear hf hi N;go_wp2_with fail
    refine C.out.mono ?_;rintro e X ⟨rfl,d⟩;have kf:=lt_of_cell E;have W:=(d.cell (p:=⟨w.heap.size,2,none⟩) (by simp;omega)).trans E;have u:=c.trans (d.mono D);go_wp2;go_ret;exact⟨by rw[HX.out,J.out,Bool.and_false];rfl,u⟩
  have I:=U.out;rw[zC (by omega)]at I;have HM:=za I;obtain⟨q0,q1,q2,q3⟩:=L5 K;have D:=c.size;have qN:=za (Uf.out wr c);have HB:=za c;clear I;go_wp2_with fail
  refine qN.out.mono ?_;rintro e X ⟨rfl,d⟩;have u:=HB.out.trans (d.mono D);go_wp2;go_ret;exact⟨by rw[HX.out,HM.out,Zt];rfl,u⟩
