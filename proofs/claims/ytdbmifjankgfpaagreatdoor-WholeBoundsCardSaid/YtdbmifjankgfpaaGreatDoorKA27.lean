/- Package schema: May. -/
import Derived.Laws.EntriesVeiled
import Derived.Test.YtdbmifjankgfpaaGreatDoorKA26
set_option linter.all false
set_option maxRecDepth 100000
set_option maxHeartbeats 2000000
open Go.Proofs.Tryz
namespace Go.Proofs.YtdbmifjankgfpaaGreatDoor
open Go.RowKit
variable {w w':World}{B k:Nat}{s:List Ty}
def Laid (w:World):Prop:=w.cell? ⟨1,0,none⟩=some (.int .i64 1)/\w.cell? ⟨1,1,none⟩=some (.int .i64 2)/\w.cell? ⟨1,2,none⟩=some (.int .i64 4)/\w.cell? ⟨1,3,none⟩=some (.int .i64 8)
theorem Laid.pos (h:Laid w):1<w.heap.size:=lt_of_cell h.1
theorem Laid.same (h:Laid w)(b:w'.heap[1]?=w.heap[1]?):Laid w':=
 ⟨(zG b).trans h.1,(zG b).trans h.2.1,(zG b).trans h.2.2.1,(zG b).trans h.2.2.2⟩
theorem Laid.below (h:Laid w)(b:Below B w w')(c:1<B):Laid w':=h.same (b.block 1 c)
theorem Laid.only {L:List Nat}(h:Laid w)(c:ae L w w')(b:1∉L):Laid w':=h.same (c.block 1 h.pos b)
theorem Laid.alloc {w:World}(h:Laid w)(o:Obj):Laid (w.alloc o):=h.below ((zm w.heap.size w).alloc (zg _) o) h.pos
def lX (n:Int):Bool:=decide (n=1\/n=2\/n=4\/n=8)
theorem QC (n:Int)(w:World)(h:Laid w):Calls prog 236 #[.int .i64 n] w fun e w'=>e= .returned (.bool (lX n))/\w=w':=by
 obtain⟨y,A,B,D⟩:=h;obtain⟨R,l⟩:∃R,Hid (lX n=R):=⟨_,za rfl⟩
 rw[l.out];have x:∀w,(Instr.index 292 (.agg #[.int .i64 1,.int .i64 2,.int .i64 4,.int .i64 8]) (.int .i64 0)).run prog w= .ok (.int .i64 1) w:=fun _=>by kernel_rfl
 have i1:∀w,(Instr.index 292 (.agg #[.int .i64 1,.int .i64 2,.int .i64 4,.int .i64 8]) (.int .i64 1)).run prog w= .ok (.int .i64 2) w:=fun _=>by kernel_rfl
 have i2:∀w,(Instr.index 292 (.agg #[.int .i64 1,.int .i64 2,.int .i64 4,.int .i64 8]) (.int .i64 2)).run prog w= .ok (.int .i64 4) w:=fun _=>by kernel_rfl
 have z:∀w,(Instr.index 292 (.agg #[.int .i64 1,.int .i64 2,.int .i64 4,.int .i64 8]) (.int .i64 3)).run prog w= .ok (.int .i64 8) w:=fun _=>by kernel_rfl
 go_enter func236,ntmps236
 go_wp2_with fail
 go_loop [6] (fun i=>∃k:Nat,k<=4/\i= .int .i64 k/\Hid (∀j,j<k->n≠([1,2,4,8]:List Int).getD j 0)) (fun i=>4-(intOf i).toNat)
 case atStart=>exact⟨0,by omega,rfl,za (by omega)⟩
 case round=>
  obtain⟨k,C,rfl,m⟩:=hrel;have key:k=0\/k=1\/k=2\/k=3\/k=4:=by omega
  rcases key with rfl|rfl|rfl|rfl|rfl
  ·by_cases b:n=1
   ·have c:Hid (R=true):=za (by rw[<-l.out];unfold lX;rw[zD];omega);subst b;go_wp2;go_ret;exact⟨by rw[c.out];rfl,rfl⟩
   have q:(n==(1:Int))=false:=zo.2 b;have d:Hid (∀j,j<0+1->n≠([1,2,4,8]:List Int).getD j 0):=za (fun j p=>by
    by_cases h:j=0
    ·subst h;simpa using b
    exact m.out j (by omega))
   clear b;go_wp2;go_round
   case rel=>exact⟨0+1,by omega,by go_num,d⟩
   case measure=>simp[intOf]
  ·by_cases b:n=2
   ·have c:Hid (R=true):=za (by rw[<-l.out];unfold lX;rw[zD];omega);subst b;go_wp2;go_ret;exact⟨by rw[c.out];rfl,rfl⟩
   have q:(n==(2:Int))=false:=zo.2 b;have d:Hid (∀j,j<1+1->n≠([1,2,4,8]:List Int).getD j 0):=za (fun j p=>by
    by_cases h:j=1
    ·subst h;simpa using b
    exact m.out j (by omega))
   clear b;go_wp2;go_round
   case rel=>exact⟨1+1,by omega,by go_num,d⟩
   case measure=>simp[intOf]
  ·by_cases b:n=4
   ·have c:Hid (R=true):=za (by rw[<-l.out];unfold lX;rw[zD];omega);subst b;go_wp2;go_ret;exact⟨by rw[c.out];rfl,rfl⟩
   have q:(n==(4:Int))=false:=zo.2 b;have d:Hid (∀j,j<2+1->n≠([1,2,4,8]:List Int).getD j 0):=za (fun j p=>by
    by_cases h:j=2
    ·subst h;simpa using b
    exact m.out j (by omega))
   clear b;go_wp2;go_round
   case rel=>exact⟨2+1,by omega,by go_num,d⟩
   case measure=>simp[intOf]
  ·by_cases b:n=8
   ·have c:Hid (R=true):=za (by rw[<-l.out];unfold lX;rw[zD];omega);subst b;go_wp2;go_ret;exact⟨by rw[c.out];rfl,rfl⟩
   have q:(n==(8:Int))=false:=zo.2 b;have d:Hid (∀j,j<3+1->n≠([1,2,4,8]:List Int).getD j 0):=za (fun j p=>by
    by_cases h:j=3
    ·subst h;simpa using b
    exact m.out j (by omega))
   clear b;go_wp2;go_round
   case rel=>exact⟨3+1,by omega,by go_num,d⟩
   case measure=>simp[intOf]
  have c:Hid (R=false):=za (by
   have o:=m.out;have u:=o 0 (by omega);have s:=o 1 (by omega);have r:=o 2 (by omega);have a3:=o 3 (by omega);simp at u s r a3;rw[<-l.out];unfold lX;rw[zv];omega)
  go_wp2;go_ret;exact⟨by rw[c.out];rfl,rfl⟩
def sized (l m s:Int):Bool:=decide (l<=s/\s<=m)
theorem T8 (l m s:Int)(g:Nat)(w:World)(h:w.cell? ⟨g,1,none⟩=some (.int .i64 s)):
 Calls prog 235 #[.int .i64 l,.int .i64 m,.pointer (some ⟨g,0,none⟩)] w fun e w'=>e= .returned (.bool (sized l m s))/\w=w':=by
 obtain⟨R,c⟩:∃R,Hid (sized l m s=R):=⟨_,za rfl⟩
 rw[c.out];by_cases d:l<=s
 ·by_cases i:s<=m
  ·have b:Hid (R=true):=za (by rw[<-c.out];exact zD ⟨d,i⟩);go_enter func235,ntmps235
   go_wp2;go_ret;exact⟨by rw[b.out];rfl,rfl⟩
  have b:Hid (R=false):=za (by rw[<-c.out];exact zv (fun h=>i h.2));go_enter func235,ntmps235
  go_wp2;go_ret;exact⟨by rw[b.out];rfl,rfl⟩
 have b:Hid (R=false):=za (by rw[<-c.out];exact zv (fun h=>d h.1));go_enter func235,ntmps235
 go_wp2;go_ret;exact⟨by rw[b.out];rfl,rfl⟩
theorem I0 (k s:Int)(A:Option Addr)(n cap:Nat)(t:Int)(w:World)(d:Laid w)(l:mL k)(i:mL s)(m:mL t)(x:n<=9223372036854775807):
 Calls prog 210 #[.agg #[.int .i64 k,.int .i64 s,.slice A n cap,.int .i64 t]] w fun e w'=>e= .returned (.bool (gu k s n t))/\Below w.heap.size w w':=by
 unfold mL at l i m;obtain⟨q,r⟩:=l;obtain⟨z,p⟩:=i;obtain⟨C,y⟩:=m;have h:=za (fun w' c=>QC s w' (d.below (B:=w.heap.size) c d.pos));obtain⟨b,c⟩:∃b,lX s=b:=⟨_,rfl⟩
 rw[c]at h;have o:=za c;obtain⟨R,j⟩:∃R,Hid (gu k s n t=R):=⟨_,za rfl⟩
 rw[j.out];clear c d;go_enter func210,ntmps210
 go_wp2_with (first|(go_at_call 236;refine(h.out _ bT).mono ?_;rintro e w' ⟨rfl,rfl⟩)|(go_at_call 235;refine(T8 _ _ s _ _ (by simp)).mono ?_;rintro e w' ⟨rfl,rfl⟩))
 all_goals
  go_ret;refine⟨aV ?_,bT⟩;rw[<-j.out,yT];have u:=o.out;simp_all[gu,sized,lX]
  try omega
theorem cG.ok {x:Ty}{c d b j:Value}(h:cG w B x c d b j):mL x.kind/\mL x.size/\mL x.tail/\x.sub.length<=9223372036854775807:=by
 obtain⟨A,cap,_,_,_,_,e,i,k,l,m,_⟩:=h.open_;exact⟨e,i,k,by omega⟩
theorem Xw :∀(x:Ty) (B:Nat) (w:World) (c0 N m c3:Value),cG w B x c0 N m c3->B<=w.heap.size->∀(lb d c:Nat),af w lb 3 #[.int .i64 c]->B<=lb->1<lb->Laid w->1<=d->d<=9->c<=64->
 Calls prog 175 #[.agg #[c0,N,m,c3],.int .i64 d,.pointer (some ⟨lb,0,none⟩)] w fun e w'=>
  e= .returned (.bool (x.hU d c).1)/\af w' lb 3 #[.int .i64 (x.hU d c).2]/\ae [lb] w w':=by
 intro x;induction x using Ty.ind with
 |h ki s l ta ih=>
  intro B w c0 N m c3 h hB lb d c K ad Gh aa al an hc;obtain⟨rfl,rfl,rfl,sq,Y,oq,hs,A,cap,rfl,so,mA,fx⟩:=h;have IH:=za ih;have HS:=za fx;have ah:=za sq;have ak:=za Y;have ag:=za oq;unfold mL at sq Y oq;obtain⟨RB,RA⟩:=sq;obtain⟨Rz,RD⟩:=Y;obtain⟨RC,JH⟩:=oq;clear ih fx;have q1:w.cell? ⟨lb,0,none⟩=some (.int .i64 c):=K.cell 0;have L:=za K;have HL:=za aa;have l1:=K.lt;have n:Hid ((Ty.mk ki s l ta).hU d c=if 8<d\/c=0\/gu ki s l.length ta=false then(false,c)else kH l (d+1) (c-1)):=za (by simp only[Ty.hU]);generalize (Ty.mk ki s l ta).hU d c=R at*;clear K aa;by_cases h1:8<d
  ·have j:Hid (R=(false,c)):=za (by rw[n.out,zi (.inl h1)]);clear n;go_enter func175,ntmps175
   go_wp2;go_ret;rw[j.out];exact⟨rfl,L.out.alloc _,CL⟩
  by_cases J:c=0
  ·have j:Hid (R=(false,c)):=za (by rw[n.out,zi (.inr (.inl J))]);subst J;clear n;go_enter func175,ntmps175
   go_wp2;go_ret;rw[j.out];exact⟨rfl,L.out.alloc _,CL⟩
  have e1:((c:Int)==0)=false:=zo.2 (by omega);have F:=za (I0 ki s A l.length cap ta (w.alloc (.cells #[.int .i64 ki,.int .i64 s,.slice A l.length cap,.int .i64 ta] 43)) (HL.out.alloc _) ah.out ak.out ag.out hs);cases hf:gu ki s l.length ta with
  |false=>
   rw[hf]at F;have j:Hid (R=(false,c)):=za (by rw[n.out,zi (.inr (.inr hf))]);clear n hf J;go_enter func175,ntmps175
   go_wp2_with fail
   refine F.out.mono ?_;rintro e u ⟨rfl,hb⟩;go_wp2;go_ret;rw[j.out];have z:Below w.heap.size w u:=(yQ (zm _ _) (zg _) _).trans (hb.mono (by simp));exact⟨rfl,L.out.only (ae.ah z (zg _)) (by simp),(ae.ah z (zg _)).mono (by simp)⟩
  |true=>
   rw[hf]at F;have j:Hid (R=kH l (d+1) (c-1)):=za (by rw[n.out,zh (by rw[hf];simp;omega)]);have Bg:1<=c:=by omega
   clear n hf J;go_enter func175,ntmps175
   go_wp2_with fail
   refine F.out.mono ?_;rintro e u ⟨rfl,je⟩;obtain⟨g0,g1,g2,g3⟩:=MB (by simpa using je);have z:Below w.heap.size w u:=(yQ (zm _ _) (zg _) _).trans (je.mono (by simp));have M:=L.out.only (ae.ah z (zg _)) (by simp);have p1:u.cell? ⟨lb,0,none⟩=some (.int .i64 c):=M.cell 0;have ao:u.frozen? ⟨lb,0,none⟩=false:=M.frozen 0;have GY:=za M;clear M je q1 F;go_wp2_with fail
   go_loopw [30] (fun i wr=>∃k q:Nat,k<=l.length/\i= .int .i64 k/\Hid (kH (l.take k) (d+1) (c-1)=(true,q))/\af wr lb 3 #[.int .i64 q]/\ae [lb] w wr/\q<=64) (fun i _=>l.length-(intOf i).toNat)
   case atStart=>
    refine⟨0,c-1,by omega,rfl,za (by simp[kH]),GY.out.store (by simp;omega), ?_,by omega⟩;exact((ae.ah z (zg _)).mono (by simp)).setCell (by simp) _
   case round=>
    obtain⟨k,q,hk,rfl,Yr,ab,r,ai⟩:=hrel;have y:Below B w wr:=r.below hB (by simp;omega);have UB:=r.size;have JJ:=za ab;clear ab;by_cases H:k<l.length
    ·obtain⟨b,o,d0,d1,d2,d3,rfl,G,U,S,W,e3,hi⟩:=HS.out.at_ k H;simp only[zQ]at U S W e3;replace U:=(y.cell (p:=⟨b,o+k*4,none⟩) G).trans U;replace S:=(y.cell (p:=⟨b,o+k*4+1,none⟩) G).trans S;replace W:=(y.cell (p:=⟨b,o+k*4+2,none⟩) G).trans W;replace e3:=(y.cell (p:=⟨b,o+k*4+3,none⟩) G).trans e3;obtain⟨A2,cC,rfl,rfl,rfl,rfl,_⟩:=hi.open_;have lC:=zR H;have X:=hi.below y;have Z:=HL.out.only r (by simp;omega);have HC:=za (IH.out _ lC B (wr.alloc (.cells #[.int .i64 l[k].kind,.int .i64 l[k].size,.slice A2 l[k].sub.length cC,.int .i64 l[k].tail] 43)) _ _ _ _ (X.below (yQ (zm _ _) (by omega) _)) (by simp;omega) lb (d+1) q (JJ.out.alloc _) ad Gh (Z.alloc _) (by omega) (by omega) ai);have I:=(Et l[k] (d+1) q (by omega)).2.2;obtain⟨⟨aj,m⟩,C⟩:∃T,l[k].hU (d+1) q=T:=⟨_,rfl⟩
     rw[C]at HC I;have Lu:m<=64:=by simp at I;omega
     have O:(d:Int)+1=((d+1:Nat):Int):=by omega
     have E9:=za O;cases aj with
     |true=>
      have D:Hid (kH (l.take (k+1)) (d+1) (c-1)=(true,m)):=za (by rw[BI H Yr.out,C]);clear hi X C I O Z;go_wp2_with fail
      rw[E9.out];refine HC.out.mono ?_;rintro e w2 ⟨rfl,mP,E⟩;have JK:ae [lb] w w2:=(r.alloc _).trans E;clear E;go_wp2;go_roundw
      case rel=>exact⟨k+1,m,by omega,by go_num,D,mP,JK,Lu⟩
      case measure=>simp[intOf];omega
     |false=>
      have D:Hid (kH l (d+1) (c-1)=(false,m)):=za (L7 H Yr.out C);clear hi X C I O Z;go_wp2_with fail
      rw[E9.out];refine HC.out.mono ?_;rintro e w2 ⟨rfl,mP,E⟩;have JK:ae [lb] w w2:=(r.alloc _).trans E;clear E;go_wp2;go_ret;rw[j.out,D.out];exact⟨rfl,mP,JK⟩
    have JI:=Yr.out;rw[zz (by omega)]at JI;have D:=za JI;clear JI;go_wp2;go_ret;rw[j.out,D.out];exact⟨rfl,JJ.out,r⟩
theorem kB (x:Ty)(B:Nat)(w:World)(c d b i:Value)(h:cG w B x c d b i)(n:B<=w.heap.size)(j:Laid w):
 Calls prog 149 #[.agg #[c,d,b,i]] w fun e w'=>e= .returned (.bool x.may)/\Below w.heap.size w w':=by
 have k:=af.new (w.alloc (.cells #[c,d,b,i] 43)) 3 #[.int .i64 64];have r:=j.pos;have o:=za (Xw x B ((w.alloc (.cells #[c,d,b,i] 43)).alloc (.cells #[.int .i64 64] 3)) c d b i (h.below ((yQ (zm _ _) n _).alloc (by simp;omega) _)) (by simp;omega) (w.heap.size+1) 1 64 (by simpa using k) (by omega) (by omega) ((j.alloc _).alloc _) (by omega) (by omega) (by omega));have l:Hid (x.may=(x.hU 1 64).1):=za (L8 x).symm;rw[l.out];obtain⟨A,cap,rfl,rfl,rfl,rfl,_⟩:=h.open_;generalize x.hU 1 64=R at*;generalize x.kind=u at*;generalize x.size=q at*;generalize x.tail=s at*;clear h k j;go_enter func149,ntmps149
 go_wp2_with fail
 refine o.out.mono ?_;rintro e y ⟨rfl,p,m⟩;go_wp2;go_ret;exact⟨rfl,((zm w.heap.size w).alloc (zg _) _|>.alloc (by simp) _).trans (m.below (by simp;omega) (by simp))⟩
theorem qC (a b:List Ty):ch (a++b)=(ch a&&ch b):=by
 induction a with
 |nil=>simp[ch]
 |cons x xs ih=>simp[ch,ih,Bool.and_assoc]
theorem lY (h:k<s.length):ch (s.take (k+1))=(ch (s.take k)&&s[k].full):=by
 rw[gT s k h,qC];simp[ch]
theorem qD (h:k<s.length)(c:s[k].full=false):ch s=false:=by
 have b:=qC (s.take (k+1)) (s.drop (k+1));rw[zI,lY h,c]at b;simpa using b
theorem KW (x:Ty):x.full=(decide (x.tail=0)&&ch x.sub):=by cases x;rfl
theorem Dh :∀(x:Ty) (B:Nat) (w:World) (G D C K:Value),cG w B x G D C K->B<=w.heap.size->True->
 Calls prog 158 #[.agg #[G,D,C,K]] w fun e w'=>e= .returned (.bool (ch x.sub))/\Below w.heap.size w w':=by
 intro x;induction x using Ty.ind with
 |h ki s l ta ih=>
  intro B w G D C K h hB _;obtain⟨rfl,rfl,rfl,W,Cu,Y,hs,A,cap,rfl,so,mA,Z⟩:=h;have IH:=za ih;have HS:=za Z;unfold mL at W Cu Y;obtain⟨RB,RA⟩:=W;obtain⟨Rz,RD⟩:=Cu;obtain⟨RC,JH⟩:=Y;clear ih Z;rw[Ty.gS];obtain⟨R,y⟩:∃R,Hid (ch l=R):=⟨_,za rfl⟩
  rw[y.out];go_enter func158,ntmps158
  go_wp2_with fail
  go_loopw [8] (fun i wr=>∃k:Nat,k<=l.length/\i= .int .i64 k/\Hid (ch (l.take k)=true)/\Below w.heap.size w wr) (fun i _=>l.length-(intOf i).toNat)
  case atStart=>exact⟨0,by omega,rfl,za (by simp[ch]),bT⟩
  case round=>
   obtain⟨k,hk,rfl,O,c⟩:=hrel;by_cases n:k<l.length
   ·obtain⟨b,o,d0,d1,d2,d3,rfl,fL,I,J,L,u,hi⟩:=HS.out.at_ k n;simp only[zQ]at I J L u;replace I:=(c.cell (p:=⟨b,o+k*4,none⟩) (by simp;omega)).trans I;replace J:=(c.cell (p:=⟨b,o+k*4+1,none⟩) (by simp;omega)).trans J;replace L:=(c.cell (p:=⟨b,o+k*4+2,none⟩) (by simp;omega)).trans L;replace u:=(c.cell (p:=⟨b,o+k*4+3,none⟩) (by simp;omega)).trans u;have X:=c.size;have lC:=zR n;have z:=hi.below (c.mono hB);obtain⟨E,H,rfl,rfl,rfl,rfl,_⟩:=hi.open_;have d:=KW l[k];have m:=za (IH.out _ lC B (wr.alloc (.cells #[.int .i64 l[k].kind,.int .i64 l[k].size,.slice E l[k].sub.length H,.int .i64 l[k].tail] 43)) _ _ _ _ (z.below (yQ (zm _ _) (by omega) _)) (by simp;omega) trivial);by_cases j:l[k].tail=0
    ·have e5:((0:Int) !=0)=false:=rfl;rw[j]at m u d;generalize l[k].kind=aa at*;generalize l[k].size=U at*;generalize l[k].sub.length=n2 at*;have r:Below w.heap.size w (wr.alloc (.cells #[.int .i64 aa,.int .i64 U,.slice E n2 H,.int .i64 0] 43)):=c.alloc X _;have S:=za r;cases hf:ch l[k].sub with
     |true=>
      rw[hf]at m;have q:Hid (ch (l.take (k+1))=true):=za (by rw[lY n,O.out,d,hf];rfl);clear hf d hi z j r;go_wp2_with fail
      refine m.out.mono ?_;rintro e w2 ⟨rfl,F⟩;have M:=S.out.trans (F.mono (by simp;omega));go_wp2;go_roundw
      case rel=>exact⟨k+1,by omega,by go_num,q,M⟩
      case measure=>simp[intOf];omega
     |false=>
      rw[hf]at m;have q:Hid (R=false):=za (by rw[<-y.out];exact qD n (by rw[d,hf];rfl));clear hf d hi z j r;go_wp2_with fail
      refine m.out.mono ?_;rintro e w2 ⟨rfl,F⟩;have M:=S.out.trans (F.mono (by simp;omega));go_wp2;go_ret;exact⟨by rw[q.out];rfl,M⟩
    have e5:(l[k].tail !=0)=true:=yz.2 j;have q:Hid (R=false):=za (by rw[<-y.out];exact qD n (by rw[d,zv j];rfl));have r:Below w.heap.size w (wr.alloc (.cells #[.int .i64 l[k].kind,.int .i64 l[k].size,.slice E l[k].sub.length H,.int .i64 l[k].tail] 43)):=c.alloc X _;generalize l[k].kind=aa at*;generalize l[k].size=U at*;generalize l[k].sub.length=n2 at*;generalize l[k].tail=ab at*;clear d hi z j m;go_wp2;go_ret;exact⟨by rw[q.out];rfl,r⟩
   have N:=O.out;rw[zz (by omega),y.out]at N;have HM:=za N;clear N;go_wp2;go_ret;exact⟨by rw[HM.out];rfl,c⟩
theorem I4 (x:Ty)(B:Nat)(w:World)(d c b i:Value)(h:cG w B x d c b i)(y:B<=w.heap.size)(s:Laid w):
 Calls prog 125 #[.agg #[d,c,b,i]] w fun e w'=>e= .returned (.bool x.flat)/\Below w.heap.size w w':=by
 have K:=s.pos;have j:Below w.heap.size w (w.alloc (.cells #[d,c,b,i] 43)):=bT;have m:=za (kB x B (w.alloc (.cells #[d,c,b,i] 43)) d c b i (h.below (j.mono y)) (by simp;omega) (s.below j K));have H:=za (fun V (l:Below (w.heap.size+1) (w.alloc (.cells #[d,c,b,i] 43)) V)=>Dh x B V d c b i ((h.below (j.mono y)).below (l.mono (by omega))) (by have:=l.size;simp at this;omega) trivial);have p:Hid (x.flat=(x.may&&ch x.sub)):=za rfl;have z:=fun V (l:Below (w.heap.size+1) (w.alloc (.cells #[d,c,b,i] 43)) V)=>MB l
 obtain⟨A,cap,rfl,rfl,rfl,rfl,_⟩:=h.open_;generalize x.flat=R at*;generalize ch x.sub=F at*;generalize x.kind=J at*;generalize x.size=D at*;generalize x.sub.length=n at*;generalize x.tail=E at*;have u:=za j;have G:=za z;clear h s j z;cases hm:x.may with
 |true=>
  rw[hm]at m p;clear hm;go_enter func125,ntmps125
  go_wp2_with fail
  refine m.out.mono ?_;rintro e r ⟨rfl,k⟩;have o:Below (w.heap.size+1) (w.alloc (.cells #[.int .i64 J,.int .i64 D,.slice A n cap,.int .i64 E] 43)) r:=by simpa using k
  obtain⟨N,M,O,S⟩:=G.out r o;have I:=za (H.out r o);have q:=za (u.out.trans (o.mono (by omega)));clear k o;go_wp2_with fail
  refine I.out.mono ?_;rintro e w3 ⟨rfl,C⟩;have L:=za (q.out.trans (C.mono q.out.size));clear C;go_wp2;go_ret;exact⟨by rw[p.out];rfl,L.out⟩
 |false=>
  rw[hm]at m p;clear hm;go_enter func125,ntmps125
  go_wp2_with fail
  refine m.out.mono ?_;rintro e r ⟨rfl,k⟩;have q:=za (u.out.trans (k.mono (by simp)));clear k;go_wp2;go_ret;exact⟨by rw[p.out];rfl,q.out⟩
def vZ (fv:Value)(w:World)(c0 c1 c2:Value):World:=
 ((((w.alloc (.cells #[c0,c1,c2] 28)).alloc (.cells #[fv] 34)).alloc (.cells #[.int .i64 0] 3)).alloc (.cells #[.int .i64 0] 3)).alloc
  (.cells #[.func (.func 208) #[] #[.pointer (some ⟨w.heap.size+1+1,0,none⟩),.pointer (some ⟨w.heap.size+1,0,none⟩),.pointer (some ⟨w.heap.size+1+1+1,0,none⟩),.pointer (some ⟨w.heap.size+1+1+1+1,0,none⟩)]] 254)
theorem Nf (b:Value)(w:World)(e c d:Value):AN b (vZ b w e c d) (w.heap.size+1+1) (w.heap.size+1) (w.heap.size+1+1+1) (w.heap.size+1+1+1+1) 0 0:=by
 unfold vZ;refine⟨?_, ?_, ?_, ?_⟩
 ·refine af.alloc (af.alloc ?_ _) _;have:=af.new ((w.alloc (.cells #[e,c,d] 28)).alloc (.cells #[b] 34)) 3 #[.int .i64 0];simpa using this
 ·refine af.alloc (af.alloc (af.alloc ?_ _) _) _;have:=af.new (w.alloc (.cells #[e,c,d] 28)) 34 #[b];simpa using this
 ·refine af.alloc ?_ _;have:=af.new (((w.alloc (.cells #[e,c,d] 28)).alloc (.cells #[b] 34)).alloc (.cells #[.int .i64 0] 3)) 3 #[.int .i64 0];simpa using this
 have:=af.new ((((w.alloc (.cells #[e,c,d] 28)).alloc (.cells #[b] 34)).alloc (.cells #[.int .i64 0] 3)).alloc (.cells #[.int .i64 0] 3)) 254 #[.func (.func 208) #[] #[.pointer (some ⟨w.heap.size+1+1,0,none⟩),.pointer (some ⟨w.heap.size+1,0,none⟩),.pointer (some ⟨w.heap.size+1+1+1,0,none⟩),.pointer (some ⟨w.heap.size+1+1+1+1,0,none⟩)]];simpa using this
theorem we (b:Value)(w:World)(e c d:Value):Below w.heap.size w (vZ b w e c d):=by
 unfold vZ;exact bT
theorem Ng (b:Value)(w:World)(e c d:Value):(vZ b w e c d).heap.size=w.heap.size+5:=by
 unfold vZ;simp
def oR (x:It):Value:= .tuple #[.int .i64 (if x.may then(x.count:Int)else 0),.int .i64 (if x.may then(x.deep:Int)else 0),.bool x.may]
theorem I5 (x:It)(B:Nat)(w:World)(m l j:Value)(h:dX w B x m l j)(I:B<=w.heap.size)(k:Value)(C:Vk k x):
 Calls prog 171 #[.agg #[m,l,j],k] w fun e w'=>e= .returned (oR x)/\Below w.heap.size w w':=by
 have F:=Ng k w m l j;have y:=za (T3 x B (vZ k w m l j) m l j (h.below ((we k w m l j).mono I)) (by omega) k C _ _ _ _ 1 0 0 (Nf k w m l j) (by omega) (by omega) (by omega) (by omega) (by omega) (by omega) (by omega));have G:=we k w m l j;have D:=za G;have o:x.may=(x.hU 1 0 0).1:=(Tq x).symm;have p:(x.hU 1 0 0).1=true->(x.hU 1 0 0).2=(0+x.count,max 0 (1-1+x.deep)):=(Hp x 1 0 0 (by omega) (by omega)).2.1;obtain⟨⟨r,c,d⟩,E⟩:∃T,x.hU 1 0 0=T:=⟨_,rfl⟩
 rw[E]at y o p;have z:Hid (oR x= .tuple #[.int .i64 (if r then(c:Int)else 0),.int .i64 (if r then(d:Int)else 0),.bool r]):=za (by
  dsimp only at o p;unfold oR;rw[o];cases r with
  |false=>rfl
  |true=>
   have L:=p rfl;injection L with h3 h4;subst h3;subst h4;simp)
 clear o p;obtain⟨A,cap,rfl,rfl,rfl,_⟩:=h.open_;have H:=za F;clear E h G F;rcases C with rfl|⟨rfl,_⟩;all_goals
  cases r with
  |true=>
   go_enter func171,ntmps171
   go_wp2_with fail
   refine y.out.mono ?_;rintro e i ⟨rfl,b,n⟩;have s:Below w.heap.size w i:=D.out.trans (n.below (by have:=H.out;omega) (by simp;omega));have q:i.cell? ⟨w.heap.size+1+1,0,none⟩=some (.int .i64 c):=yc b.kU;have K:i.frozen? ⟨w.heap.size+1+1,0,none⟩=false:=Z2 b.kU;have u:i.cell? ⟨w.heap.size+1+1+1,0,none⟩=some (.int .i64 d):=yc b.dp;have J:i.frozen? ⟨w.heap.size+1+1+1,0,none⟩=false:=Z2 b.dp;clear n b;go_wp2;go_region
   all_goals go_wp2
   all_goals
    refine zj (v:= .tuple #[.int .i64 c,.int .i64 d,.bool true]) (by simp[results,results171,go_sem,q,u]) rfl ⟨by rw[z.out];rfl, ?_⟩;exact(((s.setCell (by simp;omega) _).setCell (by simp;omega) _).drew)
  |false=>
   go_enter func171,ntmps171
   go_wp2_with fail
   refine y.out.mono ?_;rintro e i ⟨rfl,b,n⟩;have s:Below w.heap.size w i:=D.out.trans (n.below (by have:=H.out;omega) (by simp;omega));have q:i.cell? ⟨w.heap.size+1+1,0,none⟩=some (.int .i64 c):=yc b.kU;have K:i.frozen? ⟨w.heap.size+1+1,0,none⟩=false:=Z2 b.kU;have u:i.cell? ⟨w.heap.size+1+1+1,0,none⟩=some (.int .i64 d):=yc b.dp;have J:i.frozen? ⟨w.heap.size+1+1+1,0,none⟩=false:=Z2 b.dp;clear n b;go_wp2;refine zj (v:= .tuple #[.int .i64 0,.int .i64 0,.bool false]) (by simp[results,results171,go_sem,q,u]) rfl ⟨by rw[z.out];rfl, ?_⟩;exact((s.setCell (by simp;omega) _).setCell (by simp;omega) _)
theorem Vo (x:It)(B:Nat)(w:World)(d i c:Value)(h:dX w B x d i c)(l:B<=w.heap.size):
 Calls prog 167 #[.agg #[d,i,c]] w fun e w'=>e= .returned (.bool x.may)/\Below w.heap.size w w':=by
 have j:=za (I5 x B (w.alloc (.cells #[d,i,c] 28)) d i c (h.below (blm l)) (by simp;omega) _ (.inl rfl));obtain⟨a,b,k⟩:∃a b:Int,oR x= .tuple #[.int .i64 a,.int .i64 b,.bool x.may]:=⟨_,_,rfl⟩
 rw[k]at j;obtain⟨A,cap,rfl,rfl,rfl,_⟩:=h.open_;clear h k;generalize x.may=R at*;go_enter func167,ntmps167
 go_wp2_with fail
 refine j.out.mono ?_;rintro e n ⟨rfl,m⟩;go_wp2;go_ret;exact⟨rfl,(yQ (zm _ _) (zg _) _).trans (m.mono (by simp))⟩
def tI (e0 e1 e2:Int):Int:=if e0≠0 then e0 else if e1≠0 then e1 else e2
def tJ (e0 e1:Int)(I1 I2 I3:World->Prop)(w:World):Prop:=if e0≠0 then I1 w else if e1≠0 then I2 w else I3 w
theorem Vp {b:Int}(h:b≠0)(d j:Int)(c i e:World->Prop)(w:World)(hi:c w):tI b d j=b/\tJ b d c i e w:=by
 unfold tI tJ;rw[zi h,zi h];exact⟨rfl,hi⟩
theorem Vq {c b:Int}(h:c=0)(j:b≠0)(k:Int)(i d e:World->Prop)(w:World)(hi:d w):tI c b k=b/\tJ c b i d e w:=by
 subst h;simp[tI,tJ,j,hi]
theorem KX {b c:Int}(h:b=0)(k:c=0)(e:Int)(i j d:World->Prop)(w:World)(hi:d w):tI b c e=e/\tJ b c i j d w:=by
 subst h;subst k;simp[tI,tJ,hi]
theorem I6 (w:World)(B:Nat)(s k1 k2:Array Value)(k n o:Int)(j l r:World->Prop)
 (E:af w B 61 #[.func (.func 142) #[] s,.func (.func 144) #[] k1,.func (.func 146) #[] k2])
 (c:Calls prog 142 s w fun e w'=>e= .returned (.int .i64 k)/\j w') (x:k=0->∀d,j d->Calls prog 144 k1 d fun e w'=>e= .returned (.int .i64 n)/\l w') (y:k=0->n=0->∀G,l G->Calls prog 146 k2 G fun e w'=>e= .returned (.int .i64 o)/\r w')
 (F:∀w',j w'->af w' B 61 #[.func (.func 142) #[] s,.func (.func 144) #[] k1,.func (.func 146) #[] k2]) (C:∀w',l w'->af w' B 61 #[.func (.func 142) #[] s,.func (.func 144) #[] k1,.func (.func 146) #[] k2]):
 Calls prog 141 #[.slice (some ⟨B,0,none⟩) 3 3] w fun e w'=>e= .returned (.int .i64 (tI k n o))/\tJ k n j l r w':=by
 have M:=za c;have L:=za x;have N:=za y;have H:=za F;have J:=za C;have K:=za E;clear c x y F C E;go_enter func141,ntmps141
 go_wp2_with fail
 go_loopw [8] (fun i wr=>(i= .int .i64 0/\Hid (wr=w))\/(i= .int .i64 1/\Hid (k=0/\j wr))\/(i= .int .i64 2/\Hid (k=0/\n=0/\l wr))\/(i= .int .i64 3/\Hid (k=0/\n=0/\o=0/\r wr))) (fun i _=>3-(intOf i).toNat)
 case atStart=>exact .inl ⟨rfl,za rfl⟩
 case round=>
  rcases hrel with⟨rfl,hi⟩|⟨rfl,hi⟩|⟨rfl,hi⟩|⟨rfl,hi⟩
  ·have p:Hid (Calls prog 142 s wr fun e w'=>e= .returned (.int .i64 k)/\j w'):=za (by rw[hi.out];exact M.out);have O:Hid (af wr B 61 #[.func (.func 142) #[] s,.func (.func 144) #[] k1,.func (.func 146) #[] k2]):=za (by rw[hi.out];exact K.out);obtain⟨A,z,D⟩:=ku O.out;have m:Hid True:=za trivial;rcases eY (k)with⟨c,k1,k2⟩|⟨c,k1,k2⟩
   ·subst c;clear k1 k2 hi;go_wp2_with fail
    refine p.out.mono ?_;rintro e d ⟨rfl,b⟩;have h:=za b;clear b;go_wp2;go_roundw
    case rel=>
     have b:=h.out;exact(.inr (.inl ⟨rfl,za ⟨by simp,b⟩⟩))
    case measure=>simp[intOf]
   have u:=za c;clear c hi;go_wp2_with fail
   refine p.out.mono ?_;rintro e d ⟨rfl,b⟩;have h:=za b;clear b;go_wp2;go_ret;have b:=h.out;obtain⟨q,z2⟩:=Vp u.out n o j l r d b;exact⟨by rw[q];rfl,z2⟩
  ·have p:=za (L.out hi.out.1 wr hi.out.2);obtain⟨A,z,D⟩:=ku (H.out wr hi.out.2);have m:=hi;rcases eY (n)with⟨c,k1,k2⟩|⟨c,k1,k2⟩
   ·subst c;clear k1 k2 hi;go_wp2_with fail
    refine p.out.mono ?_;rintro e d ⟨rfl,b⟩;have h:=za b;clear b;go_wp2;go_roundw
    case rel=>
     have b:=h.out;exact(.inr (.inr (.inl ⟨rfl,za ⟨m.out.1,by simp,b⟩⟩)))
    case measure=>simp[intOf]
   have u:=za c;clear c hi;go_wp2_with fail
   refine p.out.mono ?_;rintro e d ⟨rfl,b⟩;have h:=za b;clear b;go_wp2;go_ret;have b:=h.out;obtain⟨q,z2⟩:=Vq m.out.1 u.out o j l r d b;exact⟨by rw[q];rfl,z2⟩
  ·have p:=za (N.out hi.out.1 hi.out.2.1 wr hi.out.2.2);obtain⟨A,z,D⟩:=ku (J.out wr hi.out.2.2);have m:=hi;rcases eY (o)with⟨c,k1,k2⟩|⟨c,k1,k2⟩
   ·subst c;clear k1 k2 hi;go_wp2_with fail
    refine p.out.mono ?_;rintro e d ⟨rfl,b⟩;have h:=za b;clear b;go_wp2;go_roundw
    case rel=>
     have b:=h.out;exact(.inr (.inr (.inr ⟨rfl,za ⟨m.out.1,m.out.2.1,by simp,b⟩⟩)))
    case measure=>simp[intOf]
   have u:=za c;clear c hi;go_wp2_with fail
   refine p.out.mono ?_;rintro e d ⟨rfl,b⟩;have h:=za b;clear b;go_wp2;go_ret;have b:=h.out;obtain⟨q,z2⟩:=KX m.out.1 m.out.2.1 o j l r d b;exact⟨by rw[q];rfl,z2⟩
  go_wp2;go_ret;obtain⟨x,y,R,I⟩:=hi.out;obtain⟨q,z2⟩:=KX x y o j l r wr I;exact⟨by rw[q,R];rfl,z2⟩
theorem I7 (w:World)(B:Nat)(s k1 k2:Array Value)(k n o:Int)(j l r:World->Prop)
 (E:af w B 61 #[.func (.func 148) #[] s,.func (.func 150) #[] k1,.func (.func 152) #[] k2])
 (c:Calls prog 148 s w fun e w'=>e= .returned (.int .i64 k)/\j w') (x:k=0->∀d,j d->Calls prog 150 k1 d fun e w'=>e= .returned (.int .i64 n)/\l w') (y:k=0->n=0->∀G,l G->Calls prog 152 k2 G fun e w'=>e= .returned (.int .i64 o)/\r w')
 (F:∀w',j w'->af w' B 61 #[.func (.func 148) #[] s,.func (.func 150) #[] k1,.func (.func 152) #[] k2]) (C:∀w',l w'->af w' B 61 #[.func (.func 148) #[] s,.func (.func 150) #[] k1,.func (.func 152) #[] k2]):
 Calls prog 141 #[.slice (some ⟨B,0,none⟩) 3 3] w fun e w'=>e= .returned (.int .i64 (tI k n o))/\tJ k n j l r w':=by
 have M:=za c;have L:=za x;have N:=za y;have H:=za F;have J:=za C;have K:=za E;clear c x y F C E;go_enter func141,ntmps141
 go_wp2_with fail
 go_loopw [8] (fun i wr=>(i= .int .i64 0/\Hid (wr=w))\/(i= .int .i64 1/\Hid (k=0/\j wr))\/(i= .int .i64 2/\Hid (k=0/\n=0/\l wr))\/(i= .int .i64 3/\Hid (k=0/\n=0/\o=0/\r wr))) (fun i _=>3-(intOf i).toNat)
 case atStart=>exact .inl ⟨rfl,za rfl⟩
 case round=>
  rcases hrel with⟨rfl,hi⟩|⟨rfl,hi⟩|⟨rfl,hi⟩|⟨rfl,hi⟩
  ·have p:Hid (Calls prog 148 s wr fun e w'=>e= .returned (.int .i64 k)/\j w'):=za (by rw[hi.out];exact M.out);have O:Hid (af wr B 61 #[.func (.func 148) #[] s,.func (.func 150) #[] k1,.func (.func 152) #[] k2]):=za (by rw[hi.out];exact K.out);obtain⟨A,z,D⟩:=ku O.out;have m:Hid True:=za trivial;rcases eY (k)with⟨c,k1,k2⟩|⟨c,k1,k2⟩
   ·subst c;clear k1 k2 hi;go_wp2_with fail
    refine p.out.mono ?_;rintro e d ⟨rfl,b⟩;have h:=za b;clear b;go_wp2;go_roundw
    case rel=>
     have b:=h.out;exact(.inr (.inl ⟨rfl,za ⟨by simp,b⟩⟩))
    case measure=>simp[intOf]
   have u:=za c;clear c hi;go_wp2_with fail
   refine p.out.mono ?_;rintro e d ⟨rfl,b⟩;have h:=za b;clear b;go_wp2;go_ret;have b:=h.out;obtain⟨q,z2⟩:=Vp u.out n o j l r d b;exact⟨by rw[q];rfl,z2⟩
  ·have p:=za (L.out hi.out.1 wr hi.out.2);obtain⟨A,z,D⟩:=ku (H.out wr hi.out.2);have m:=hi;rcases eY (n)with⟨c,k1,k2⟩|⟨c,k1,k2⟩
   ·subst c;clear k1 k2 hi;go_wp2_with fail
    refine p.out.mono ?_;rintro e d ⟨rfl,b⟩;have h:=za b;clear b;go_wp2;go_roundw
    case rel=>
     have b:=h.out;exact(.inr (.inr (.inl ⟨rfl,za ⟨m.out.1,by simp,b⟩⟩)))
    case measure=>simp[intOf]
   have u:=za c;clear c hi;go_wp2_with fail
   refine p.out.mono ?_;rintro e d ⟨rfl,b⟩;have h:=za b;clear b;go_wp2;go_ret;have b:=h.out;obtain⟨q,z2⟩:=Vq m.out.1 u.out o j l r d b;exact⟨by rw[q];rfl,z2⟩
  ·have p:=za (N.out hi.out.1 hi.out.2.1 wr hi.out.2.2);obtain⟨A,z,D⟩:=ku (J.out wr hi.out.2.2);have m:=hi;rcases eY (o)with⟨c,k1,k2⟩|⟨c,k1,k2⟩
   ·subst c;clear k1 k2 hi;go_wp2_with fail
    refine p.out.mono ?_;rintro e d ⟨rfl,b⟩;have h:=za b;clear b;go_wp2;go_roundw
    case rel=>
     have b:=h.out;exact(.inr (.inr (.inr ⟨rfl,za ⟨m.out.1,m.out.2.1,by simp,b⟩⟩)))
    case measure=>simp[intOf]
   have u:=za c;clear c hi;go_wp2_with fail
   refine p.out.mono ?_;rintro e d ⟨rfl,b⟩;have h:=za b;clear b;go_wp2;go_ret;have b:=h.out;obtain⟨q,z2⟩:=KX m.out.1 m.out.2.1 o j l r d b;exact⟨by rw[q];rfl,z2⟩
  go_wp2;go_ret;obtain⟨x,y,R,I⟩:=hi.out;obtain⟨q,z2⟩:=KX x y o j l r wr I;exact⟨by rw[q,R];rfl,z2⟩
theorem Xx (x:It)(D M:Int)(B:Nat)(w:World)(m n l:Value)(h:dX w B x m n l)(u:B<=w.heap.size):
 Calls prog 145 #[.agg #[m,n,l],.int .i64 D,.int .i64 M] w fun e w'=>e= .returned (.int .i64 (fV x D M))/\Below w.heap.size w w':=by
 have o:=za (I5 x B (w.alloc (.cells #[m,n,l] 28)) m n l (h.below (blm u)) (by simp;omega) _ (.inl rfl));obtain⟨A,cap,rfl,rfl,rfl,_⟩:=h.open_;clear h;cases hm:x.may with
 |false=>
  have k:Hid (oR x= .tuple #[.int .i64 0,.int .i64 0,.bool false]):=za (by rw[oR,hm];rfl);have i:Hid (fV x D M=1):=za (by rw[fV,zi hm]);clear hm;go_enter func145,ntmps145
  go_wp2_with fail
  refine o.out.mono ?_;rintro e p ⟨rfl,j⟩;rw[k.out];go_wp2;go_ret;rw[i.out];exact⟨rfl,(yQ (zm _ _) (zg _) _).trans (j.mono (by simp))⟩
 |true=>
  obtain⟨c,q⟩:∃c,(x.count:Int)=c:=⟨_,rfl⟩
  obtain⟨d,hd⟩:∃d,(x.deep:Int)=d:=⟨_,rfl⟩
  have k:Hid (oR x= .tuple #[.int .i64 c,.int .i64 d,.bool true]):=za (by rw[oR,hm,<-q,<-hd];rfl);have b:fV x D M=if D<d then 6 else if M<c then 4 else 0:=by rw[fV,zh (by simp[hm]),q,hd]
  clear hm q hd;by_cases r:D<d
  ·have i:Hid (fV x D M=6):=za (by rw[b,zi r]);clear b;go_enter func145,ntmps145
   go_wp2_with fail
   refine o.out.mono ?_;rintro e p ⟨rfl,j⟩;rw[k.out];go_wp2;go_ret;rw[i.out];exact⟨rfl,(yQ (zm _ _) (zg _) _).trans (j.mono (by simp))⟩
  rw[zh r]at b;by_cases s:M<c
  ·have i:Hid (fV x D M=4):=za (by rw[b,zi s]);clear b;go_enter func145,ntmps145
   go_wp2_with fail
   refine o.out.mono ?_;rintro e p ⟨rfl,j⟩;rw[k.out];go_wp2;go_ret;rw[i.out];exact⟨rfl,(yQ (zm _ _) (zg _) _).trans (j.mono (by simp))⟩
  have i:Hid (fV x D M=0):=za (by rw[b,zh s]);clear b;go_enter func145,ntmps145
  go_wp2_with fail
  refine o.out.mono ?_;rintro e p ⟨rfl,j⟩;rw[k.out];go_wp2;go_ret;rw[i.out];exact⟨rfl,(yQ (zm _ _) (zg _) _).trans (j.mono (by simp))⟩
theorem Nh :∀(x:Ty) (B:Nat) (w:World) (E z y G:Value),cG w B x E z y G->B<=w.heap.size->True->
 Calls prog 91 #[.agg #[E,z,y,G]] w fun e w'=>e= .returned (.bool (!x.full))/\Below w.heap.size w w':=by
 intro x;induction x using Ty.ind with
 |h ki s l ta ih=>
  intro B w E z y G h hB _;obtain⟨rfl,rfl,rfl,S,X,L,hs,A,cap,rfl,so,mA,W⟩:=h;have Z:=za ih;have HS:=za W;have aa:=za L;unfold mL at S X L;obtain⟨RB,RA⟩:=S;obtain⟨Rz,RD⟩:=X;obtain⟨RC,JH⟩:=L;clear ih W;obtain⟨R,H⟩:∃R,Hid ((!(Ty.mk ki s l ta).full)=R):=⟨_,za rfl⟩
  rw[H.out];by_cases m:ta=0
  ·subst m;have r:Hid (R= !(ch l)):=za (by rw[<-H.out];rfl);go_enter func91,ntmps91
   go_wp2_with fail
   go_loopw [3] (fun i wr=>∃k:Nat,k<=l.length/\i= .int .i64 k/\Hid (ch (l.take k)=true)/\Below w.heap.size w wr/\wr.cell? ⟨w.heap.size,2,none⟩=some (.slice A l.length cap)) (fun i _=>l.length-(intOf i).toNat)
   case atStart=>exact⟨0,by omega,rfl,za (by simp[ch]),bT,by simp⟩
   case round=>
    obtain⟨k,hk,rfl,N,c,u⟩:=hrel;by_cases j:k<l.length
    ·obtain⟨b,o,d0,d1,d2,d3,rfl,fL,F,q,I,C,hi⟩:=HS.out.at_ k j;simp only[zQ]at F q I C;replace F:=(c.cell (p:=⟨b,o+k*4,none⟩) (by simp;omega)).trans F;replace q:=(c.cell (p:=⟨b,o+k*4+1,none⟩) (by simp;omega)).trans q;replace I:=(c.cell (p:=⟨b,o+k*4+2,none⟩) (by simp;omega)).trans I;replace C:=(c.cell (p:=⟨b,o+k*4+3,none⟩) (by simp;omega)).trans C;have U:=c.size;have lC:=zR j;have M:=hi.below (c.mono hB);have n:=za (Z.out _ lC B wr d0 d1 d2 d3 M (by omega) trivial);cases hf:l[k].full with
     |true=>
      rw[hf]at n;have D:Hid (ch (l.take (k+1))=true):=za (by rw[lY j,N.out,hf];rfl);clear hf hi M;go_wp2_with fail
      refine n.out.mono ?_;rintro e w2 ⟨rfl,d⟩;have jJ:=lt_of_cell u;have O:=(d.cell (p:=⟨w.heap.size,2,none⟩) (by simp;omega)).trans u;have J:=c.trans (d.mono U);go_wp2;go_roundw
      case rel=>exact⟨k+1,by omega,by go_num,D,J,O⟩
      case measure=>simp[intOf];omega
     |false=>
      rw[hf]at n;have D:Hid (ch l=false):=za (qD j hf);clear hf hi M;go_wp2_with fail
      refine n.out.mono ?_;rintro e w2 ⟨rfl,d⟩;have jJ:=lt_of_cell u;have O:=(d.cell (p:=⟨w.heap.size,2,none⟩) (by simp;omega)).trans u;have J:=c.trans (d.mono U);go_wp2;go_ret;exact⟨by rw[r.out,D.out];rfl,J⟩
    have K:=N.out;rw[zz (by omega)]at K;have Y:=za K;clear K;go_wp2;go_ret;exact⟨by rw[r.out,Y.out];rfl,c⟩
  have q:(ta !=0)=true:=yz.2 m;have r:Hid (R=true):=za (by rw[<-H.out,KW,Ty.CH,zv m];rfl);clear m;go_enter func91,ntmps91
  go_wp2;go_ret;exact⟨by rw[r.out];rfl,bT⟩
theorem Ni (x:Ty)(B:Nat)(w:World)(n m j q:Value)(h:cG w B x n m j q)(U:B<=w.heap.size)(hc:x.count<=4611686018427387904):
 Calls prog 51 #[.agg #[n,m,j,q]] w fun e w'=>e= .returned (.bool x.flat)/\Below w.heap.size w w':=by
 have ab:=za (fun V (S:Below w.heap.size w V)=>KJ x B V n m j q (h.below (S.mono U)) (by have:=S.size;omega) hc);obtain⟨u,s,l,r⟩:=x;obtain⟨rfl,rfl,rfl,sq,Cu,oq,hs,A,cap,rfl,so,mA,Z⟩:=h;have HS:=za Z;have IH:Hid (∀y∈l,∀(B:Nat) (w:World) (n m j q:Value),cG w B y n m j q->B<=w.heap.size->True->Calls prog 91 #[.agg #[n,m,j,q]] w fun e w'=>e= .returned (.bool (!y.full))/\Below w.heap.size w w'):=za (fun y _=>Nh y);have YZ:Hid ((Ty.mk u s l r).flat=((Ty.mk u s l r).may&&ch l)):=za rfl;unfold mL at sq Cu oq;clear Z hc;generalize (Ty.mk u s l r).flat=R at*;generalize (Ty.mk u s l r).may=MY at*;have X:Hid (R=(MY&&ch l)):=YZ;clear YZ;go_enter func51,ntmps51
 go_wp2_with fail
 go_loopw [3] (fun i wr=>∃k:Nat,k<=l.length/\i= .int .i64 k/\Hid (ch (l.take k)=true)/\Below w.heap.size w wr/\wr.cell? ⟨w.heap.size,2,none⟩=some (.slice A l.length cap)/\Below (w.heap.size+1) (w.alloc (.cells #[.int .i64 u,.int .i64 s,.slice A l.length cap,.int .i64 r] 43)) wr) (fun i _=>l.length-(intOf i).toNat)
 case atStart=>exact⟨0,by omega,rfl,za (by simp[ch]),bT,by simp,zm _ _⟩
 case round=>
  obtain⟨k,hk,rfl,O,c,F,H⟩:=hrel;by_cases C:k<l.length
  ·obtain⟨b,o,d0,d1,d2,d3,rfl,fL,J,K,L,G,hi⟩:=HS.out.at_ k C;simp only[zQ]at J K L G;replace J:=(c.cell (p:=⟨b,o+k*4,none⟩) (by simp;omega)).trans J;replace K:=(c.cell (p:=⟨b,o+k*4+1,none⟩) (by simp;omega)).trans K;replace L:=(c.cell (p:=⟨b,o+k*4+2,none⟩) (by simp;omega)).trans L;replace G:=(c.cell (p:=⟨b,o+k*4+3,none⟩) (by simp;omega)).trans G;have E:=c.size;have lC:=zR C;have N:=hi.below (c.mono U);have D:=za (IH.out _ lC B wr d0 d1 d2 d3 N (by omega) trivial);have ad:=H.size;cases hf:l[k].full with
   |true=>
    rw[hf]at D;have I:Hid (ch (l.take (k+1))=true):=za (by rw[lY C,O.out,hf];rfl);clear hf hi N;go_wp2_with fail
    refine D.out.mono ?_;rintro e Y ⟨rfl,d⟩;have aa:=H.trans (d.mono (by simpa using ad));have jJ:=lt_of_cell F;have W:=(d.cell (p:=⟨w.heap.size,2,none⟩) (by simp;omega)).trans F;have z:=c.trans (d.mono E);go_wp2;go_roundw
    case rel=>exact⟨k+1,by omega,by go_num,I,z,W,aa⟩
    case measure=>simp[intOf];omega
   |false=>
    rw[hf]at D;have I:Hid (ch l=false):=za (qD C hf);clear hf hi N;go_wp2_with fail
    refine D.out.mono ?_;rintro e Y ⟨rfl,d⟩;have jJ:=lt_of_cell F;have W:=(d.cell (p:=⟨w.heap.size,2,none⟩) (by simp;omega)).trans F;have z:=c.trans (d.mono E);go_wp2;go_ret;exact⟨by rw[X.out,I.out,Bool.and_false];rfl,z⟩
  have M:=O.out;rw[zz (by omega)]at M;have HM:=za M;obtain⟨q0,q1,q2,q3⟩:=MB H;have E:=c.size;have rp:=za (ab.out wr c);have HB:=za c;clear M;go_wp2_with fail
  refine rp.out.mono ?_;rintro e Y ⟨rfl,d⟩;have z:=HB.out.trans (d.mono E);go_wp2;go_ret;exact⟨by rw[X.out,HM.out,Zg];rfl,z⟩
