/- fixed.Least, typed.Number. -/
import Derived.Test.YtimoclkoflamkaaGreatDoorKA14
import Derived.Test.YtimoclkoflamkaaGreatDoorKA37
set_option linter.all false
set_option maxRecDepth 100000
set_option maxHeartbeats 2000000
open Go.Proofs.Tryz
namespace Go.Proofs.YtimoclkoflamkaaGreatDoor
open Go.RowKit
variable {w:World}{g d:Nat}{t:TypeId}{i e j:Value}{a:Int}
def xi:=@underlying34
def xD:=@results101
def xS:=@ntmps101
def Zc:=@func101
theorem Ql :∀(f n:Nat),n<2^f->n<2^Di f n/\(0<n->2^(Di f n-1)<=n)
 |0,n,h=>by
  have:n=0:=by simpa using h
  subst this;simp[Di]
 |f+1,n,h=>by
  by_cases d:n=0
  ·subst d;simp[Di]
  have k:n/2<2^f:=by rw[Zu]at h;omega
  obtain⟨e,j⟩:=Ql f (n/2) k;simp only[Di,zi d,Nat.add_sub_cancel];refine⟨by rw[Zu];omega,fun _=> ?_⟩;by_cases hz:n/2=0
  ·rw[hz,kZ];simp;omega
  have i:=j (by omega);obtain⟨b,c⟩:∃b,Di f (n/2)=b+1:=by
   cases c:Di f (n/2)with
   |zero=>rw[c]at e;simp at e;omega
   |succ b=>exact⟨b,rfl⟩
  rw[c]at i⊢;simp only[Nat.add_sub_cancel]at i;rw[Zu];omega
theorem KO :∀(j n:Nat),2^(8*j)<=n->j+1<=(cE n).length
 |0,n,h=>by
  rw[gI (n:=n) (by simp at h;omega)];simp
 |j+1,n,h=>by
  rw[Td]at h;have b:0<2^(8*j):=Nat.pow_pos (by omega);have:=KO j (n/256) (by omega);rw[gI (n:=n) (by omega)];simp;omega
theorem Qm (n:Nat)(h:n<18446744073709551616):(jr n ((bl n+7)/8)).reverse=cE n/\(bl n+7)/8<=8:=by
 by_cases i:n=0
 ·subst i;rw[show bl 0=0 from kZ 64,dj];exact⟨rfl,by omega⟩
 obtain⟨c,d⟩:=Ql 64 n (by simpa using h);have o:=KJ 64 n (by simpa using h) (by omega);change n<2^bl n at c
 change 0<n->2^(bl n-1)<=n at d
 generalize bl n=b at*;have l:n<2^(8*((b+7)/8)):=zQ c (yq (by omega) (by omega));have m:=Ma _ n l;refine⟨?_,by omega⟩;rw[<-m];have p:(b+7)/8<=(cE n).length:=by
  obtain⟨k,j⟩:∃k,(b+7)/8=k+1:=by
   refine⟨(b+7)/8-1, ?_⟩;have:0<b:=by
    rcases Zp b with e|e
    ·subst e;simp at c;omega
    exact e
   omega
  rw[j];refine KO k n (zG (yq (by omega) ?_) (d (by omega)));omega
 rw[show(b+7)/8-(cE n).length=0 from by omega];rfl
theorem KP (n:Nat)(w:World)(c:n<18446744073709551616):
 Calls prog 153 #[.int .u64 n] w fun e w'=>e= .returned (.string ⟨(cE n).toArray⟩)/\(w,w'):=by
 obtain⟨h,o⟩:=Qm n c;have q:=za (KK n w c);obtain⟨k,m⟩:∃k,(bl n+7)/8=k:=⟨_,rfl⟩
 rw[m]at h o;have z:=za (fun w=>Fs n k w c o);have p:=za h;have u:Hid ((((bl n:Nat):Int)+7)/8=(k:Int)):=za (by omega);have s:Hid (Int.tdiv (((bl n:Nat):Int)+7) 8=(k:Int)):=za (by rw[Int.tdiv_eq_ediv_of_nonneg (by omega)];omega);have A:=KJ 64 n (by simpa using c) (by omega);generalize bl n=b at*;clear h m;go_enter func153,ntmps153
 go_wp2_with fail
 refine q.out.mono ?_;rintro e w' ⟨rfl,rfl⟩;go_wp2_with fail
 first|rw[u.out]|rw[s.out]
 refine(z.out _).mono ?_;rintro e x ⟨rfl,j,i⟩;have d:=bc n k;have l:=za (My w.heap.size w.heap.size k (jr n k) x (by rw[d];exact j) (by rw[d];omega));rw[d,p.out]at l;have y:=za i;clear j i d;go_wp2_with fail
 refine l.out.mono ?_;rintro e B ⟨rfl,r⟩;go_wp2;go_ret;exact⟨rfl,(y.out.trans r).below⟩
theorem FY (n:Nat)(w:World)(k:n<18446744073709551616):
 Calls prog 204 #[.int .u64 n] w fun e w'=>e= .returned (.agg #[.string ⟨(cE n).toArray⟩,false,nS])/\(w,w'):=by
 have i:=za (fun w=>KP n w k);generalize (⟨(cE n).toArray⟩:ByteArray)=T at*;go_enter func204,ntmps204
 go_wp2_with fail
 refine(i.out _).mono ?_;rintro e d ⟨rfl,b⟩;have j:=b.size;simp only[zt]at j;have y:w.heap.size<d.heap.size:=by omega
 have h:Hid (w,d):=za (((zm w.heap.size w).alloc (zd _) _).trans (b.mono (by simp)));have l:=za ((ag.new w 28 #[eS,false,nS]).ah b (by simp));clear b;go_wp2_with fail
 refine(CZ T d).mono ?_;rintro e m ⟨rfl,c⟩;have r:Hid (w,m):=za (h.out.trans (c.mono (by omega)));obtain⟨o,q,p,u,x,s⟩:=bp (l.out.ah c (by omega));clear c;go_wp2;refine zl (v:= .agg #[T,false,nS]) (by simp[results,results204,go_sem,o,q,p]) rfl ⟨rfl, ?_⟩;exact((r.out.setCell (by simp) _).setCell (by simp) _).setCell (by simp) _
open Go.RowKit Go.Maps
theorem M5 (id:Nat)(body:ByteArray):(⟨(aR ((aR id).length+body.size)).toArray⟩++⟨(aR id).toArray⟩++body:ByteArray)=⟨(eC id body.data.toList).toArray⟩:=by
 apply aF;rw[aW,aW,eC,zk,aa];simp
theorem vY (id:Nat)(body:ByteArray)(w:World)(hid:id<18446744073709551616)(m:(aR id).length+body.size<=65536):
 Calls prog 94 #[.int .u64 id,body] w fun e w'=>e= .returned (.tuple #[.string ⟨(eC id body.data.toList).toArray⟩,(0:Int)])/\(w,w'):=by
 have j:=za (B7 id w hid);have c:=za (fun w=>vJ ((aR id).length+body.size) w (by omega));have k:=za (fun w=>vJ id w hid);have h:=za (M5 id body);have l:=bw 10 id (by omega) (by omega);have d:=bw 10 ((aR id).length+body.size) (by omega) (by omega);rw[<-bG]at d;have p:(⟨(aR id).toArray⟩:ByteArray).size<=10:=by rw[bG];exact l
 rw[show(((aR id).length+body.size:Nat):Int)=((aR id).length:Int)+body.size from by omega]at c;generalize (⟨(aR id).toArray⟩:ByteArray)=TI at*;generalize (⟨(aR ((aR id).length+body.size)).toArray⟩:ByteArray)=TL at*;generalize (aR id).length=li at*;go_enter func94,ntmps94
 go_wp2_with fail
 refine j.out.mono ?_;rintro e w' ⟨rfl,rfl⟩;go_wp2_with fail
 refine(c.out _).mono ?_;rintro e o ⟨rfl,b⟩;have hz:=b.size;go_wp2_with fail
 refine(k.out _).mono ?_;rintro e n ⟨rfl,i⟩;go_wp2;go_ret2
 exact⟨by rw[<-h.out];rfl,b.trans (i.mono hz)⟩
theorem KQ (w:World):(zeroValue 34).run prog w= .ok (0:Int) w:=by kernel_rfl
theorem qC (b:Int)(w:World)(z:0<=b)(u:b<=100):
 Calls prog 147 #[.int .i64 b] w fun e w'=>e= .returned (.int .i64 (if b=2 then 3 else b))/\Below w.heap.size w w':=by
 have y:= @run_makeMap prog;obtain⟨p,x,k,n⟩:=(World.ownsMap_made (H:=Unit) w prog 34 (plainElem prog 34)).update (int_keyed xi) underlying242 (by decide) (keyOf_int_mk xi (a:=2) (by decide)) (plainElem_int xi (a:=3) (by decide));have j:Below w.heap.size w p:=((zm w.heap.size w).alloc (zd _) _).grown n (by simp) (by simp);have i:=keyOf_int_mk (P:=prog) xi (a:=b) (WalkArith.wf_i64 (by omega));have o:=za j;have m:=za i;clear j i n;by_cases h:b=2
 ·subst h;have q:Maps.has ((DataW.map []:DataW Unit).put (.int .i64 2) (.lit (.int .i64 3))) (.int .i64 2)=true:=rfl;have l:((DataW.map []:DataW Unit).put (.int .i64 2) (.lit (.int .i64 3))).atKey (.int .i64 2) (.lit (.int .i64 0))= .lit (.int .i64 3):=rfl;have s:=za l;generalize (DataW.map []:DataW Unit).put (.int .i64 2) (.lit (.int .i64 3))=D at*;clear l;go_enter func147,ntmps147
  go_wp2_with (at_lookup;refine Zk _ rfl _ _ 242 rfl 34 34 .i64 (int_keyed xi) underlying242 xi (KQ _) w.heap.size 1 D rfl k _ _ rfl m.out ?_;intro r c d;obtain rfl:=Qk (c.symm.trans s.out);clear c d)
  go_ret;exact⟨rfl,o.out⟩
 have q:Maps.has ((DataW.map []:DataW Unit).put (.int .i64 2) (.lit (.int .i64 3))) (.int .i64 b)=false:=by
  rw[Maps.has_put_other (by intro e;injection e;omega)];rfl
 generalize (DataW.map []:DataW Unit).put (.int .i64 2) (.lit (.int .i64 3))=D at*;rw[zi h];clear h;go_enter func147,ntmps147
 go_wp2_with (at_lookup;refine Zk _ rfl _ _ 242 rfl 34 34 .i64 (int_keyed xi) underlying242 xi (KQ _) w.heap.size 1 D rfl k _ _ rfl m.out ?_;intro r c d;clear c d)
 go_ret;exact⟨rfl,o.out⟩
theorem ae.on {L:List Nat}{a w':World}(h:ae L a w)(f:dI L a w->dI L a w'):ae L a w':=(f ⟨h⟩).out
def B9 (x:Int×Nat×ByteArray×Nat×Nat):Ending:= .returned (.tuple #[.agg #[.int .u64 x.2.1,ByteArray.empty,x.2.2.1],x.2.2.2.1,x.1])
theorem k7 {x:Int×Nat×ByteArray×Nat×Nat}{b:Nat}{c:ByteArray}{m:Nat}{e:Int}(h:x=(a,b,c,d,m))(hd:e=d):Ending.returned (.tuple #[.agg #[.int .u64 b,ByteArray.empty,c],e,a])=B9 x:=by
 subst h;subst hd;rfl
theorem vZ (most:Int)(s:ByteArray)(h:(aj most s).1≠0):aj most s=((aj most s).1,0,ByteArray.empty,0):=by
 rw[eH]at h⊢;split
 ·rfl
 split
 ·rfl
 split
 ·rfl
 rename_i c b d;rw[zi c,zi b,zi d]at h;exact absurd rfl h
theorem rW (most:Int)(s:ByteArray)(h:(aj most s).1=0):(aj most s).2.2.1.size<=s.size/\(aj most s).2.2.2<=s.size/\(aj most s).2.1<18446744073709551616:=by
 rw[eH]at h⊢;split at h
 ·rename_i b;exact absurd h b
 split at h
 ·simp at h
 split at h
 ·simp at h
 rename_i b d c
 rw[zi b,zi d,zi c];simp only[Yo,zE]at b c;have e:=ia _ c;have hz:=ar s (aw most s).2.1 ((aw most s).2.1+(aw most s).1) (by omega);refine⟨?_,by simp only;omega,e.2.2.2⟩;simp only;rw[ByteArray.size_extract,hz];omega
theorem lN (s:ByteArray)(most:Int)(h:(a8 s most).1≠0)(hx:(aB s).2.2=0)(e:((aB s).1:Int)<=most):(a8 s most).1=2\/(a8 s most).1=3:=by
 unfold a8 at h⊢;rw[zi (by rw[hx];simp),zi (by omega)]at h⊢;unfold iR at h⊢;generalize (s.extract (aB s).2.1 s.size)=b at*;generalize b.size+1=f at*;have:∀(f k:Nat) (out:List UInt8),(gP b (aB s).1 f k out).1=0\/(gP b (aB s).1 f k out).1=2\/(gP b (aB s).1 f k out).1=3:=by
  intro f;induction f with
  |zero=>intro k out;right;left;rfl
  |succ f ih=>
   intro k out;unfold gP;split
   ·split
    ·exact ih _ _
    rename_i d i
    simp only;have:∀(size k c:Nat) (out:List UInt8),(bZ b size k c out).1=0\/(bZ b size k c out).1=2\/(bZ b size k c out).1=3:=by
     intro size k c out;unfold bZ;split
     ·right;left;rfl
     split
     ·right;right;rfl
     split
     ·split
      ·right;left;rfl
      left;rfl
     left;rfl
    exact this _ _ _ _
   split
   ·right;left;rfl
   left;rfl
 have:=this f 0 [];omega
theorem pr (s:ByteArray)(h:(aB s).2.2≠0):(aB s).2.2=2\/(aB s).2.2=3\/(aB s).2.2=5:=by
 unfold aB at h⊢;split
 ·split
  ·right;right;rfl
  rename_i b c;rw[zj b,zi c]at h;exact absurd b h
 rename_i b
 have:=LK s 10 0 0 b;simp only;unfold ay;omega
theorem oq (h:ag w g t #[i,e,j])(d c b:Value):ag (((w.setCell (g,0) d).setCell (g,1) c).setCell (g,2) b) g t #[d,c,b]:=((h.set 0 d).set 1 c).set 2 b
theorem fT (h:ag w g t #[i,e,j])(d c b:Value):((((w.setCell (g,0) d).setCell (g,1) c).setCell (g,2) b),g,0,d)/\((((w.setCell (g,0) d).setCell (g,1) c).setCell (g,2) b),g,1,c)/\((((w.setCell (g,0) d).setCell (g,1) c).setCell (g,2) b),g,2,b):=
 ⟨(oq h d c b).cell 0,(oq h d c b).cell 1,(oq h d c b).cell 2⟩
theorem KR (h:ag w g t #[i,e,j])(o:Obj)(d c b:Value):(((((w.setCell (g,0) d).setCell (g,1) c).setCell (g,2) b).alloc o),g,0,d)/\(((((w.setCell (g,0) d).setCell (g,1) c).setCell (g,2) b).alloc o),g,1,c)/\(((((w.setCell (g,0) d).setCell (g,1) c).setCell (g,2) b).alloc o),g,2,b):=
 ⟨((oq h d c b).alloc o).cell 0,((oq h d c b).alloc o).cell 1,((oq h d c b).alloc o).cell 2⟩
theorem AK (most o:Int)(m:Nat)(s:ByteArray)(w:World)(Z:s.size<=9223372036854775807)(W: -9223372036854775808<=most)(so:most<=9223372036854775807)
 (hx:(aj most s).1≠0\/(aB (aj most s).2.2.1).2.2≠0\/o<(aB (aj most s).2.2.1).1):
 Calls prog 101 #[most,o,(m,0),s] w fun e w'=>e=B9 (aT most o s)/\ae [] w w':=by
 have J:=za (fun w=>km most s w Z W so);have q:=za (bN most o s);have L:=vZ most s;have M:=rW most s;generalize aT most o s=X at*;generalize aj most s=y at*;obtain⟨A,id,body,sz⟩:=y;dsimp only at*;rcases eN A with⟨x,h1,S⟩|⟨x,h1,S⟩
 ·subst x;obtain⟨c,aI,p⟩:=M rfl;clear L M;have H:=za (fun m w=>FX body o m w (by omega));have I:=za (fun m w=>Dm body o m w (by omega));have K:=pr body;generalize aB body=z at*;obtain⟨n,hd,es⟩:=z;dsimp only at*;rcases eN es with⟨g0,g1,g2⟩|⟨g0,g1,g2⟩
  ·subst g0;have R:o<n:=by omega
   have u:=za (by have:=q.out;rw[zi (by simp),zi (by simp),zj R]at this;exact this);have Y:=za (fun m w=>I.out m w rfl R);have E:=za (fun w=>qC 5 w (by omega) (by omega));simp only[show¬((5:Int)=2)from by omega,xN]at E;clear H I q K hx;go_enter Zc,xS
   go_wp2_with fail
   refine(J.out _).mono ?_;rintro e i ⟨rfl,c⟩;have b:ag i w.heap.size 103 #[.int .u64 0,eS,eS]:=(c.block w.heap.size (by simp)).trans (ag.new w _ _);have r:ae [] w i:=((ae.refl [] w).alloc _).trans' (ae.ai c (zd _)) (by simp);have N:w.heap.size<i.heap.size:=by have:=c.size;simp at this;omega
   clear c;dsimp only;have l:=b.cell 0;have k:=b.cell 1;have j:=b.cell 2;have B:=b.frozen 0;have D:=b.frozen 1;have F:=b.frozen 2;simp at l k j;go_wp2_with fail
   refine(Y.out _ _).mono ?_;rintro e w' ⟨rfl,rfl⟩;go_wp2_with fail
   refine(E.out _).mono ?_;rintro e w3 ⟨rfl,p⟩;have d:ag w3 w.heap.size 103 #[.int .u64 0,eS,eS]:=(p.block w.heap.size (by simp;omega)).trans (b.alloc _);have G:ae [] w w3:=(r.alloc _).trans' (ae.ai p (zd _)) (by simp);have l:=d.cell 0;have k:=d.cell 1;have j:=d.cell 2;have B:=d.frozen 0;have D:=d.frozen 1;have F:=d.frozen 2;simp at l k j;go_wp2;refine zl (v:= .tuple #[.agg #[.int .u64 0,ByteArray.empty,ByteArray.empty],(0:Int),(5:Int)]) (by simp[results,xD,go_sem,qx,fT d]) rfl ?_;refine⟨k7 u.out rfl, ?_⟩;exact(G.on fun _=>inferInstance)
  have C:∃t:Int,(if es=5 then(5:Int)else 3)=t/\∀w,Calls prog 147 #[es] w fun e w'=>e= .returned t/\(w,w'):=by
   refine⟨_,rfl,fun w=>(qC es w (by omega) (by omega)).mono fun e w' ⟨he,hb⟩=>⟨by rw[he];rcases K g0 with h|h|h<;>subst h<;>rfl,hb⟩⟩
  obtain⟨t,O,C⟩:=C;have E:=za C;have u:=za (by have:=q.out;rw[zi (by simp),zj g0,O]at this;exact this);have U:=za (fun m w=>H.out m w g0);clear H I q K hx O C g0;go_enter Zc,xS
  go_wp2_with fail
  refine(J.out _).mono ?_;rintro e i ⟨rfl,c⟩;have b:ag i w.heap.size 103 #[.int .u64 0,eS,eS]:=(c.block w.heap.size (by simp)).trans (ag.new w _ _);have r:ae [] w i:=((ae.refl [] w).alloc _).trans' (ae.ai c (zd _)) (by simp);have N:w.heap.size<i.heap.size:=by have:=c.size;simp at this;omega
  clear c;dsimp only;have l:=b.cell 0;have k:=b.cell 1;have j:=b.cell 2;have B:=b.frozen 0;have D:=b.frozen 1;have F:=b.frozen 2;simp at l k j;go_wp2_with fail
  refine(U.out _ _).mono ?_;rintro e w' ⟨rfl,rfl⟩;go_wp2_with fail
  refine(E.out _).mono ?_;rintro e w3 ⟨rfl,p⟩;have d:ag w3 w.heap.size 103 #[.int .u64 0,eS,eS]:=(p.block w.heap.size (by simp;omega)).trans (b.alloc _);have G:ae [] w w3:=(r.alloc _).trans' (ae.ai p (zd _)) (by simp);have l:=d.cell 0;have k:=d.cell 1;have j:=d.cell 2;have B:=d.frozen 0;have D:=d.frozen 1;have F:=d.frozen 2;simp at l k j;go_wp2;refine zl (v:= .tuple #[.agg #[.int .u64 0,ByteArray.empty,ByteArray.empty],(0:Int),t]) (by simp[results,xD,go_sem,qx,fT d]) rfl ?_;refine⟨k7 u.out rfl, ?_⟩;exact(G.on fun _=>inferInstance)
 obtain⟨_,rfl,rfl,rfl⟩:A=A/\id=0/\body=ByteArray.empty/\sz=0:=by have:=L x;simpa using this
 have u:=za (by have:=q.out;rw[zj x]at this;exact this);clear q L M x hx;go_enter Zc,xS
 go_wp2_with fail
 refine(J.out _).mono ?_;rintro e i ⟨rfl,c⟩;have b:ag i w.heap.size 103 #[.int .u64 0,eS,eS]:=(c.block w.heap.size (by simp)).trans (ag.new w _ _);have r:ae [] w i:=((ae.refl [] w).alloc _).trans' (ae.ai c (zd _)) (by simp);have N:w.heap.size<i.heap.size:=by have:=c.size;simp at this;omega
 clear c;dsimp only;have l:=b.cell 0;have k:=b.cell 1;have j:=b.cell 2;have B:=b.frozen 0;have D:=b.frozen 1;have F:=b.frozen 2;simp at l k j;go_wp2;refine zl (v:= .tuple #[.agg #[.int .u64 0,ByteArray.empty,ByteArray.empty],(0:Int),A]) (by simp[results,xD,go_sem,qx,KR b]) rfl ?_;refine⟨k7 u.out rfl, ?_⟩;exact(r.on fun _=>inferInstance)
theorem AL (most o:Int)(m a u t p:Nat)(s:ByteArray)(w:World)(hs:s.size<=9223372036854775807)(eM: -9223372036854775808<=most)(so:most<=9223372036854775807)
 (D:tM w m a u t p) (ha:a<=9223372036854775807) (hx:(aj most s).1=0) (I:(aB (aj most s).2.2.1).2.2=0) (O:((aB (aj most s).2.2.1).1:Int)<=o) (Z:u+(aB (aj most s).2.2.1).1<=a) (ht:t+(aB (aj most s).2.2.1).1<=9223372036854775807):
 Calls prog 101 #[.int .i64 most,.int .i64 o,.pointer (some ⟨m,0,none⟩),.string s] w fun e w'=>e=B9 (aT most o s)/\(∃q,tM w' m a (u+(aB (aj most s).2.2.1).1) (t+(aB (aj most s).2.2.1).1) q)/\ae [m] w w':=by
 have HN:=za (fun w=>km most s w hs eM so);have HX:=za (bN most o s);have bE:=rW most s hx;generalize aT most o s=X at*;generalize aj most s=aa at*;obtain⟨er,id,body,sz⟩:=aa;dsimp only at*;subst hx;obtain⟨d,aI,H⟩:=bE;have C:=fun h=>lN body o h I O
 have HV:=za (fun w D=>I8 body o m a u t p w (by omega) D ha I O Z ht);have x:=HX.out;rw[zi (by simp),zi (by rw[I];simp),zi (by omega)]at x;generalize (aB body).1=n at*;generalize a8 body o=ad at*;obtain⟨N,l⟩:=ad;dsimp only at*;generalize (⟨l.toArray⟩:ByteArray)=T at*;have af:=D.lt;clear I O Z ht HX;rcases eN N with⟨y,r1,r2⟩|⟨y,r1,r2⟩
 ·subst y;rw[zi (by simp)]at x;have U:=za x;clear x C;go_enter Zc,xS
  go_wp2_with fail
  refine(HN.out _).mono ?_;rintro e c ⟨rfl,d⟩;have b:ag c w.heap.size 103 #[.int .u64 0,eS,eS]:=(d.block w.heap.size (by simp)).trans (ag.new w _ _);have F:ae [] w c:=((ae.refl [] w).alloc _).trans' (ae.ai d (zd _)) (by simp);have cw:w.heap.size<c.heap.size:=by have:=d.size;simp at this;omega
  clear d;dsimp only;have Y:=D.only F (by simp);have k:=b.cell 0;have j:=b.cell 1;have i:=b.cell 2;have B:=b.frozen 0;have E:=b.frozen 1;have G:=b.frozen 2;simp at k j i;go_wp2_with fail
  refine(HV.out _ (Y.alloc _)).mono ?_;rintro e K ⟨rfl,W,r⟩;have M:=r.size;simp only[zt]at M;have S:=(b.alloc _).only r (by simp;omega);have R:=(ag.new c 103 #[.int .u64 id,eS,body]).only r (by simp;omega);have J:ae [m] w K:=((F.mono (by simp)).alloc _).trans r;clear k j i B E G;have d0:=R.cell 2;have d1:=R.frozen 2;have L:=R.set 2 T;have z:=S.dE (p:=(c.heap.size,2)) (by simp;omega) T;have e0:=L.cell 0;have e1:=L.cell 1;have e2:=L.cell 2;have k:=z.cell 0;have j:=z.cell 1;have i:=z.cell 2;have B:=z.frozen 0;have E:=z.frozen 1;have G:=z.frozen 2;simp at k j i d0 e0 e1 e2;go_wp2;refine zl (v:= .tuple #[.agg #[.int .u64 id,ByteArray.empty,T],sz,(0:Int)]) (by simp[results,xD,go_sem,qx,fT z]) rfl ?_;refine⟨k7 U.out rfl,⟨max p (u+n), ?_⟩, ?_⟩
  ·exact(((W.dE (p:=⟨c.heap.size,2,none⟩) (by simp;omega) _).dE (by simp;omega) _).dE (by simp;omega) _).dE (by simp;omega) _
  exact(((J.setCell (p:=⟨c.heap.size,2,none⟩) (.inr (by simp;omega)) _).setCell (.inr (by simp)) _).setCell (.inr (by simp)) _).setCell (.inr (by simp)) _
 rw[zj y]at x;have U:=za x;have HT:Hid (∀w,Calls prog 147 #[N] w fun e w'=>e= .returned (3:Int)/\(w,w')):=za (fun w=>(qC N w (by have:=C y;omega) (by have:=C y;omega)).mono fun e w' ⟨he,hb⟩=>⟨by rw[he];rcases C y with h|h<;>subst h<;>rfl,hb⟩);clear x C y;go_enter Zc,xS
 go_wp2_with fail
 refine(HN.out _).mono ?_;rintro e c ⟨rfl,d⟩;have b:ag c w.heap.size 103 #[.int .u64 0,eS,eS]:=(d.block w.heap.size (by simp)).trans (ag.new w _ _);have F:ae [] w c:=((ae.refl [] w).alloc _).trans' (ae.ai d (zd _)) (by simp);have cw:w.heap.size<c.heap.size:=by have:=d.size;simp at this;omega
 clear d;dsimp only;have Y:=D.only F (by simp);have k:=b.cell 0;have j:=b.cell 1;have i:=b.cell 2;have B:=b.frozen 0;have E:=b.frozen 1;have G:=b.frozen 2;simp at k j i;go_wp2_with fail
 refine(HV.out _ (Y.alloc _)).mono ?_;rintro e K ⟨rfl,W,r⟩;have M:=r.size;simp only[zt]at M;have S:=(b.alloc _).only r (by simp;omega);have J:ae [m] w K:=((F.mono (by simp)).alloc _).trans r;clear k j i B E G;go_wp2_with fail
 refine(HT.out _).mono ?_;rintro e w3 ⟨rfl,H⟩;have Ef:ae [m] w w3:=J.trans (ae.ai H (zd _)|>.mono (by simp));have ab:tM w3 m a _ _ _:=W.only (ae.ai H (zd _)) (by simp);have A:ag w3 w.heap.size 103 #[.int .u64 0,eS,eS]:=(H.block w.heap.size (by omega)).trans S;have k:=A.cell 0;have j:=A.cell 1;have i:=A.cell 2;have B:=A.frozen 0;have E:=A.frozen 1;have G:=A.frozen 2;simp at k j i;go_wp2;refine zl (v:= .tuple #[.agg #[.int .u64 0,ByteArray.empty,ByteArray.empty],(0:Int),(3:Int)]) (by simp[results,xD,go_sem,qx,fT A]) rfl ?_;refine⟨k7 U.out rfl,⟨max p (u+n), ?_⟩, ?_⟩
 ·exact((ab.dE (by simp;omega) _).dE (by simp;omega) _).dE (by simp;omega) _
 exact(Ef.on fun _=>inferInstance)
theorem acm (most c:Int)(s:ByteArray)(j:(aj most s).1=0):
 ((a8 (aj most s).2.2.1 c).1=0->(aT most c s).1=0/\(aT most c s).2.1=(aj most s).2.1/\(aT most c s).2.2.1=⟨(a8 (aj most s).2.2.1 c).2.toArray⟩/\(aT most c s).2.2.2.1=(aj most s).2.2.2)/\
 ((a8 (aj most s).2.2.1 c).1≠0->(aT most c s).1=(if(a8 (aj most s).2.2.1 c).1=2 then 3 else(a8 (aj most s).2.2.1 c).1)/\(aT most c s).2.1=0/\(aT most c s).2.2.1=ByteArray.empty/\(aT most c s).2.2.2.1=0):=by
 rw[bN,zi (by rw[j];simp)];have k:=pr (aj most s).2.2.1;have l:=fun h=>lN (aj most s).2.2.1 c h
 generalize (aj most s).2.2.1=b at*;have hz:a8 b c=if(aB b).2.2≠0 then((aB b).2.2,[])else if c<(aB b).1 then(5,[])else iR (b.extract (aB b).2.1 b.size) (aB b).1:=rfl
 by_cases d:(aB b).2.2≠0
 ·rw[zj d]at hz;rw[zj d,hz];refine⟨fun h=>absurd h d,fun _=>⟨?_,rfl,rfl,rfl⟩⟩;rcases k d with h|h|h<;>rw[h]<;>rfl
 rw[zi d]at hz;rw[zi d];have d:=zE.1 d;by_cases i:c<(aB b).1
 ·rw[zj i]at hz;rw[zj i,hz];exact⟨(fun h=>by cases h),(fun _=>⟨rfl,rfl,rfl,rfl⟩)⟩
 rw[zi i];by_cases e:(a8 b c).1≠0
 ·rw[zj e];refine⟨fun h=>absurd h e,fun _=>⟨?_,rfl,rfl,rfl⟩⟩;rcases l e d (by omega)with h|h<;>rw[h]<;>rfl
 rw[zi e];exact⟨fun _=>⟨rfl,rfl,rfl,rfl⟩,fun h=>absurd h e⟩
theorem FZ {x:Int×Nat×ByteArray×Nat×Nat}{b:Nat}{c:ByteArray}(i:x.1=a)(e:x.2.1=b)(j:x.2.2.1=c)(h:x.2.2.2.1=d):Ending.returned (.tuple #[.agg #[.int .u64 b,ByteArray.empty,c],d,a])=B9 x:=by
 subst i;subst e;subst j;subst h;rfl
theorem wa (most i:Int)(s:ByteArray)(w:World)(hs:s.size<=9223372036854775807)(eM: -9223372036854775808<=most)(so:most<=9223372036854775807):
 Calls prog 101 #[most,i,.pointer none,s] w fun e w'=>e=B9 (aT most i s)/\(w,w'):=by
 have W:=za (fun w=>km most s w hs eM so);have aa:=acm most i s;have hX:=bN most i s;have ab:=vZ most s;have Z:=rW most s;generalize aT most i s=X at*;generalize aj most s=ad at*;obtain⟨I,id,body,sz⟩:=ad;dsimp only at*;rcases eN I with⟨G,h1,h2⟩|⟨G,h1,h2⟩
 ·subst G;obtain⟨c,u,R⟩:=Z rfl;obtain⟨S,jZ⟩:=aa rfl;clear ab Z hX aa;have HV:=za (fun w=>I6 body i w (by omega));have K:(a8 body i).1≠0->0<=(a8 body i).1/\(a8 body i).1<=12:=fun h=>by
   have hz:a8 body i=if(aB body).2.2≠0 then((aB body).2.2,[])else if i<(aB body).1 then(5,[])else iR (body.extract (aB body).2.1 body.size) (aB body).1:=rfl
   by_cases L:(aB body).2.2≠0
   ·rw[hz,zj L];have:=pr body L;simp only;omega
   by_cases g2:i<(aB body).1
   ·rw[hz,zi L,zj g2];simp
   have:=lN body i h (zE.1 L) (by omega);omega
  generalize a8 body i=af at*;obtain⟨J,l⟩:=af;dsimp only at*;generalize (⟨l.toArray⟩:ByteArray)=T at*;rcases eN J with⟨y,r1,r2⟩|⟨y,r1,r2⟩
  ·subst y;obtain⟨r,n,D,H⟩:=S rfl;have F:=za (FZ r n D H);clear S jZ r n D H K;go_enter Zc,xS
   go_wp2_with fail
   refine(W.out _).mono ?_;rintro e d ⟨rfl,c⟩;have b:ag d w.heap.size 103 #[.int .u64 0,eS,eS]:=(c.block w.heap.size (by simp)).trans (ag.new w _ _);have E:ae [] w d:=((ae.refl [] w).alloc _).trans' (ae.ai c (zd _)) (by simp);have cw:w.heap.size<d.heap.size:=by have:=c.size;simp at this;omega
   clear c;dsimp only;have m:=b.cell 0;have k:=b.cell 1;have j:=b.cell 2;have z:=b.frozen 0;have A:=b.frozen 1;have B:=b.frozen 2;simp at m k j;go_wp2_with fail
   refine(HV.out _).mono ?_;rintro e C ⟨rfl,u⟩;have O:=u.size;simp only[zt]at O;have cN:ae [] (d.alloc (.cells #[.int .u64 id,eS,body] 103)) C:=ae.ai u (zd _);have Y:=(b.alloc _).only cN (by simp);have U:=(ag.new d 103 #[.int .u64 id,eS,body]).only cN (by simp);have M:ae [] w C:=(E.alloc _).trans cN;clear m k j z A B;have d0:=U.cell 2;have d1:=U.frozen 2;have N:=U.set 2 T;have o:=Y.dE (p:=(d.heap.size,2)) (by simp;omega) T;have e0:=N.cell 0;have r:=N.cell 1;have n:=N.cell 2;have m:=o.cell 0;have k:=o.cell 1;have j:=o.cell 2;have z:=o.frozen 0;have A:=o.frozen 1;have B:=o.frozen 2;simp at m k j d0 e0 r n;have x:Below w.heap.size w C:=M.below (zd _) (by simp);go_wp2;refine zl (v:= .tuple #[.agg #[.int .u64 id,ByteArray.empty,T],sz,(0:Int)]) (by simp[results,xD,go_sem,qx,fT o]) rfl ?_;exact⟨F.out,(((x.setCell (by simp;omega) _).setCell (by simp) _).setCell (by simp) _).setCell (by simp) _⟩
  obtain⟨r,n,D,H⟩:=jZ y;have F:=za (FZ r n D H);have HT:=za (fun w=>qC J w (K y).1 (by have:=(K y).2;omega));generalize (if J=2 then(3:Int)else J)=t at*;clear S jZ r n D H K y;go_enter Zc,xS
  go_wp2_with fail
  refine(W.out _).mono ?_;rintro e d ⟨rfl,c⟩;have b:ag d w.heap.size 103 #[.int .u64 0,eS,eS]:=(c.block w.heap.size (by simp)).trans (ag.new w _ _);have E:ae [] w d:=((ae.refl [] w).alloc _).trans' (ae.ai c (zd _)) (by simp);have cw:w.heap.size<d.heap.size:=by have:=c.size;simp at this;omega
  clear c;dsimp only;have m:=b.cell 0;have k:=b.cell 1;have j:=b.cell 2;have z:=b.frozen 0;have A:=b.frozen 1;have B:=b.frozen 2;simp at m k j;go_wp2_with fail
  refine(HV.out _).mono ?_;rintro e C ⟨rfl,u⟩;have O:=u.size;simp only[zt]at O;have Y:=(b.alloc _).only (ae.ai u (zd _)) (by simp);have M:ae [] w C:=(E.alloc _).trans (ae.ai u (zd _));clear m k j z A B;go_wp2_with fail
  refine(HT.out _).mono ?_;rintro e w3 ⟨rfl,R⟩;have Ef:ae [] w w3:=M.trans (ae.ai R (zd _));have x:Below w.heap.size w w3:=Ef.below (zd _) (by simp);have q:ag w3 w.heap.size 103 #[.int .u64 0,eS,eS]:=(R.block w.heap.size (by omega)).trans Y;have m:=q.cell 0;have k:=q.cell 1;have j:=q.cell 2;have z:=q.frozen 0;have A:=q.frozen 1;have B:=q.frozen 2;simp at m k j;go_wp2;refine zl (v:= .tuple #[.agg #[.int .u64 0,ByteArray.empty,ByteArray.empty],(0:Int),t]) (by simp[results,xD,go_sem,qx,fT q]) rfl ?_;exact⟨F.out,((x.setCell (by simp) _).setCell (by simp) _).setCell (by simp) _⟩
 obtain⟨_,rfl,rfl,rfl⟩:I=I/\id=0/\body=ByteArray.empty/\sz=0:=by have:=ab G;simpa using this
 have F:=za (by have:=hX;rw[zj G]at this;exact this);clear hX ab Z G aa;go_enter Zc,xS
 go_wp2_with fail
 refine(W.out _).mono ?_;rintro e d ⟨rfl,c⟩;have b:ag d w.heap.size 103 #[.int .u64 0,eS,eS]:=(c.block w.heap.size (by simp)).trans (ag.new w _ _);have E:ae [] w d:=((ae.refl [] w).alloc _).trans' (ae.ai c (zd _)) (by simp);have cw:w.heap.size<d.heap.size:=by have:=c.size;simp at this;omega
 clear c;dsimp only;have x:Below w.heap.size w d:=E.below (zd _) (by simp);have m:=b.cell 0;have k:=b.cell 1;have j:=b.cell 2;have z:=b.frozen 0;have A:=b.frozen 1;have B:=b.frozen 2;simp at m k j;go_wp2;refine zl (v:= .tuple #[.agg #[.int .u64 0,ByteArray.empty,ByteArray.empty],(0:Int),I]) (by simp[results,xD,go_sem,qx,KR b]) rfl ?_;refine⟨k7 F.out rfl, ?_⟩;first
  |exact(((x.setCell (by simp) _).setCell (by simp) _).setCell (by simp) _).alloc (by have:=x.size;simp;omega) _
  |exact((x.setCell (by simp) _).setCell (by simp) _).setCell (by simp) _
theorem oF (id:Nat)(body:ByteArray)(w:World)(hid:id<18446744073709551616)(d:65536<(aR id).length+body.size)(i:body.size<=1000000):
 Calls prog 94 #[.int .u64 id,body] w fun e w'=>e= .returned (.tuple #[ByteArray.empty,(5:Int)])/\(w,w'):=by
 have b:=za (B7 id w hid);have j:=bw 10 id (by omega) (by omega);generalize (aR id).length=c at*;have h:(65536:Int)<(c:Int)+body.size:=by omega
 go_enter func94,ntmps94
 go_wp2_with fail
 refine b.out.mono ?_;rintro e w' ⟨rfl,rfl⟩;go_wp2;go_ret2
 exact⟨rfl,zm _ _⟩
def we (id:Nat)(body:ByteArray):ByteArray:=if 65536<(aR id).length+(pack body.data.toList).length then ByteArray.empty else⟨(eC id (pack body.data.toList)).toArray⟩
def wg (id:Nat)(body:ByteArray):Int:=if 65536<(aR id).length+(pack body.data.toList).length then 5 else 0
theorem AM (id:Nat)(body:ByteArray)(w:World)(hid:id<18446744073709551616)(d:body.size<=65536):
 Calls prog 99 #[.int .u64 id,body] w fun e w'=>e= .returned (.tuple #[.string (we id body),.int .i64 (wg id body)])/\(w,w'):=by
 have j:=za (fun w=>XB body w d);have b:=sG body.data.toList (by rw[aa];omega);rw[aa]at b;have hz:(⟨(pack body.data.toList).toArray⟩:ByteArray).size=(pack body.data.toList).length:=bG _;have k:Hid (∀w,Calls prog 94 #[.int .u64 id,.string ⟨(pack body.data.toList).toArray⟩] w fun e w'=>e= .returned (.tuple #[.string (we id body),.int .i64 (wg id body)])/\(w,w')):=za (fun w=>by
  unfold we wg;by_cases h:65536<(aR id).length+(pack body.data.toList).length
  ·rw[zj h,zj h];exact oF id ⟨(pack body.data.toList).toArray⟩ w hid (by rw[hz];exact h) (by rw[hz];omega)
  rw[zi h,zi h];exact vY id ⟨(pack body.data.toList).toArray⟩ w hid (by rw[hz];omega))
 generalize (⟨(pack body.data.toList).toArray⟩:ByteArray)=B at*;generalize we id body=S at*;generalize wg id body=E at*;clear b hz;go_enter func99,ntmps99
 go_wp2_with fail
 refine(j.out _).mono ?_;rintro e m ⟨rfl,c⟩;have hz:=c.size;go_wp2_with fail
 refine(k.out _).mono ?_;rintro e l ⟨rfl,i⟩;go_wp2;go_ret2
 exact⟨rfl,c.trans (i.mono hz)⟩
