/- fixed.Least, typed.Number. -/
import Derived.Test.YtimoclkoflamkaaGreatDoorKA14
import Derived.Test.YtimoclkoflamkaaGreatDoorKA37
set_option linter.all false
set_option maxRecDepth 100000
set_option maxHeartbeats 2000000
open Go.Proofs.Tryz
namespace Go.Proofs.YtimoclkoflamkaaGreatDoor
open Go.RowKit
variable {w:World}{g d:Nat}{t:TypeId}{j e i:Value}{a:Int}
def xh:=@underlying34
def xE:=@results101
def xT:=@ntmps101
def Ze:=@func101
theorem Sr :∀(f n:Nat),n<2^f->n<2^Eo f n/\(0<n->2^(Eo f n-1)<=n)
 |0,n,h=>by
  have:n=0:=by simpa using h
  subst this;simp[Eo]
 |f+1,n,h=>by
  by_cases i:n=0
  ·subst i;simp[Eo]
  have j:n/2<2^f:=by rw[Zv]at h;omega
  obtain⟨e,k⟩:=Sr f (n/2) j;simp only[Eo,zf i,Nat.add_sub_cancel];refine⟨by rw[Zv];omega,fun _=> ?_⟩;by_cases hz:n/2=0
  ·rw[hz,ll];simp;omega
  have d:=k (by omega);obtain⟨b,c⟩:∃b,Eo f (n/2)=b+1:=by
   cases c:Eo f (n/2)with
   |zero=>rw[c]at e;simp at e;omega
   |succ b=>exact⟨b,rfl⟩
  rw[c]at d⊢;simp only[Nat.add_sub_cancel]at d;rw[Zv];omega
theorem Mv :∀(j n:Nat),2^(8*j)<=n->j+1<=(cJ n).length
 |0,n,h=>by
  rw[gP (n:=n) (by simp at h;omega)];simp
 |j+1,n,h=>by
  rw[Vc]at h;have b:0<2^(8*j):=Nat.pow_pos (by omega);have:=Mv j (n/256) (by omega);rw[gP (n:=n) (by omega)];simp;omega
theorem Ss (n:Nat)(h:n<18446744073709551616):(jz n ((bl n+7)/8)).reverse=cJ n/\(bl n+7)/8<=8:=by
 by_cases l:n=0
 ·subst l;rw[show bl 0=0 from ll 64,dq];exact⟨rfl,by omega⟩
 obtain⟨c,d⟩:=Sr 64 n (by simpa using h);have o:=Mq 64 n (by simpa using h) (by omega);change n<2^bl n at c
 change 0<n->2^(bl n-1)<=n at d
 generalize bl n=b at*;have j:n<2^(8*((b+7)/8)):=zJ c (yu (by omega) (by omega));have i:=N1 _ n j;refine⟨?_,by omega⟩;rw[<-i];have p:(b+7)/8<=(cJ n).length:=by
  obtain⟨k,m⟩:∃k,(b+7)/8=k+1:=by
   refine⟨(b+7)/8-1, ?_⟩;have:0<b:=by
    rcases Zt b with e|e
    ·subst e;simp at c;omega
    exact e
   omega
  rw[m];refine Mv k n (zz (yu (by omega) ?_) (d (by omega)));omega
 rw[show(b+7)/8-(cJ n).length=0 from by omega];rfl
theorem Mw (n:Nat)(w:World)(c:n<18446744073709551616):
 Calls prog 153 #[.int .u64 n] w fun e w'=>e= .returned (.string ⟨(cJ n).toArray⟩)/\(w,w'):=by
 obtain⟨h,i⟩:=Ss n c;have y:=za (Mr n w c);obtain⟨k,j⟩:∃k,(bl n+7)/8=k:=⟨_,rfl⟩
 rw[j]at h i;have p:=za (fun w=>Gz n k w c i);have u:=za h;have s:Hid ((((bl n:Nat):Int)+7)/8=(k:Int)):=za (by omega);have z:Hid (Int.tdiv (((bl n:Nat):Int)+7) 8=(k:Int)):=za (by rw[Int.tdiv_eq_ediv_of_nonneg (by omega)];omega);have A:=Mq 64 n (by simpa using c) (by omega);generalize bl n=b at*;clear h j;go_enter func153,ntmps153
 go_wp2_with fail
 refine y.out.mono ?_;rintro e w' ⟨rfl,rfl⟩;go_wp2_with fail
 first|rw[s.out]|rw[z.out]
 refine(p.out _).mono ?_;rintro e q ⟨rfl,l,m⟩;have d:=bd n k;have o:=za (Om w.heap.size w.heap.size k (jz n k) q (by rw[d];exact l) (by rw[d];omega));rw[d,u.out]at o;have x:=za m;clear l m d;go_wp2_with fail
 refine o.out.mono ?_;rintro e B ⟨rfl,r⟩;go_wp2;go_ret;exact⟨rfl,(x.out.trans r).below⟩
theorem G5 (n:Nat)(w:World)(k:n<18446744073709551616):
 Calls prog 204 #[.int .u64 n] w fun e w'=>e= .returned (.agg #[.string ⟨(cJ n).toArray⟩,false,nS])/\(w,w'):=by
 have o:=za (fun w=>Mw n w k);generalize (⟨(cJ n).toArray⟩:ByteArray)=T at*;go_enter func204,ntmps204
 go_wp2_with fail
 refine(o.out _).mono ?_;rintro e c ⟨rfl,b⟩;have l:=b.size;simp only[zp]at l;have u:w.heap.size<c.heap.size:=by omega
 have p:Hid (w,c):=za (((zi w.heap.size w).alloc (ze _) _).trans (b.mono (by simp)));have q:=za ((af.new w 28 #[eS,false,nS]).ah b (by simp));clear b;go_wp2_with fail
 refine(D5 T c).mono ?_;rintro e r ⟨rfl,d⟩;have h:Hid (w,r):=za (p.out.trans (d.mono (by omega)));obtain⟨j,m,i,s,y,x⟩:=bq (q.out.ah d (by omega));clear d;go_wp2;refine zj (v:= .agg #[T,false,nS]) (by simp[results,results204,go_sem,j,m,i]) rfl ⟨rfl, ?_⟩;exact((h.out.setCell (by simp) _).setCell (by simp) _).setCell (by simp) _
open Go.RowKit Go.Maps
theorem OR (id:Nat)(body:ByteArray):(⟨(aR ((aR id).length+body.size)).toArray⟩++⟨(aR id).toArray⟩++body:ByteArray)=⟨(eF id body.data.toList).toArray⟩:=by
 apply aE;rw[aX,aX,eF,zh,aa];simp
theorem An (id:Nat)(body:ByteArray)(w:World)(hid:id<18446744073709551616)(p:(aR id).length+body.size<=65536):
 Calls prog 94 #[.int .u64 id,body] w fun e w'=>e= .returned (.tuple #[.string ⟨(eF id body.data.toList).toArray⟩,(0:Int)])/\(w,w'):=by
 have d:=za (Db id w hid);have c:=za (fun w=>wW ((aR id).length+body.size) w (by omega));have k:=za (fun w=>wW id w hid);have h:=za (OR id body);have i:=bC 10 id (by omega) (by omega);have j:=bC 10 ((aR id).length+body.size) (by omega) (by omega);rw[<-bJ]at j;have m:(⟨(aR id).toArray⟩:ByteArray).size<=10:=by rw[bJ];exact i
 rw[show(((aR id).length+body.size:Nat):Int)=((aR id).length:Int)+body.size from by omega]at c;generalize (⟨(aR id).toArray⟩:ByteArray)=TI at*;generalize (⟨(aR ((aR id).length+body.size)).toArray⟩:ByteArray)=TL at*;generalize (aR id).length=li at*;go_enter func94,ntmps94
 go_wp2_with fail
 refine d.out.mono ?_;rintro e w' ⟨rfl,rfl⟩;go_wp2_with fail
 refine(c.out _).mono ?_;rintro e n ⟨rfl,b⟩;have hz:=b.size;go_wp2_with fail
 refine(k.out _).mono ?_;rintro e o ⟨rfl,l⟩;go_wp2;go_ret2
 exact⟨by rw[<-h.out];rfl,b.trans (l.mono hz)⟩
theorem Mx (w:World):(zeroValue 34).run prog w= .ok (0:Int) w:=by kernel_rfl
theorem ri (b:Int)(w:World)(x:0<=b)(y:b<=100):
 Calls prog 147 #[.int .i64 b] w fun e w'=>e= .returned (.int .i64 (if b=2 then 3 else b))/\Below w.heap.size w w':=by
 have z:= @run_makeMap prog;obtain⟨s,u,o,j⟩:=(World.ownsMap_made (H:=Unit) w prog 34 (plainElem prog 34)).update (int_keyed xh) underlying242 (by decide) (keyOf_int_mk xh (a:=2) (by decide)) (plainElem_int xh (a:=3) (by decide));have m:Below w.heap.size w s:=((zi w.heap.size w).alloc (ze _) _).grown j (by simp) (by simp);have k:=keyOf_int_mk (P:=prog) xh (a:=b) (WalkArith.wf_i64 (by omega));have n:=za m;have l:=za k;clear m k j;by_cases h:b=2
 ·subst h;have p:Maps.has ((DataW.map []:DataW Unit).put (.int .i64 2) (.lit (.int .i64 3))) (.int .i64 2)=true:=rfl;have i:((DataW.map []:DataW Unit).put (.int .i64 2) (.lit (.int .i64 3))).atKey (.int .i64 2) (.lit (.int .i64 0))= .lit (.int .i64 3):=rfl;have q:=za i;generalize (DataW.map []:DataW Unit).put (.int .i64 2) (.lit (.int .i64 3))=D at*;clear i;go_enter func147,ntmps147
  go_wp2_with (at_lookup;refine Zo _ rfl _ _ 242 rfl 34 34 .i64 (int_keyed xh) underlying242 xh (Mx _) w.heap.size 1 D rfl o _ _ rfl l.out ?_;intro r c d;obtain rfl:=Sq (c.symm.trans q.out);clear c d)
  go_ret;exact⟨rfl,n.out⟩
 have p:Maps.has ((DataW.map []:DataW Unit).put (.int .i64 2) (.lit (.int .i64 3))) (.int .i64 b)=false:=by
  rw[Maps.has_put_other (by intro e;injection e;omega)];rfl
 generalize (DataW.map []:DataW Unit).put (.int .i64 2) (.lit (.int .i64 3))=D at*;rw[zf h];clear h;go_enter func147,ntmps147
 go_wp2_with (at_lookup;refine Zo _ rfl _ _ 242 rfl 34 34 .i64 (int_keyed xh) underlying242 xh (Mx _) w.heap.size 1 D rfl o _ _ rfl l.out ?_;intro r c d;clear c d)
 go_ret;exact⟨rfl,n.out⟩
theorem ae.on {L:List Nat}{a w':World}(h:ae L a w)(f:dQ L a w->dQ L a w'):ae L a w':=(f ⟨h⟩).out
def Dd (x:Int×Nat×ByteArray×Nat×Nat):Ending:= .returned (.tuple #[.agg #[.int .u64 x.2.1,ByteArray.empty,x.2.2.1],x.2.2.2.1,x.1])
theorem lp {x:Int×Nat×ByteArray×Nat×Nat}{b:Nat}{c:ByteArray}{m:Nat}{e:Int}(h:x=(a,b,c,d,m))(hd:e=d):Ending.returned (.tuple #[.agg #[.int .u64 b,ByteArray.empty,c],e,a])=Dd x:=by
 subst h;subst hd;rfl
theorem Ao (most:Int)(s:ByteArray)(h:(an most s).1≠0):an most s=((an most s).1,0,ByteArray.empty,0):=by
 rw[eM]at h⊢;split
 ·rfl
 split
 ·rfl
 split
 ·rfl
 rename_i b d c;rw[zf b,zf d,zf c]at h;exact absurd rfl h
theorem sS (most:Int)(s:ByteArray)(h:(an most s).1=0):(an most s).2.2.1.size<=s.size/\(an most s).2.2.2<=s.size/\(an most s).2.1<18446744073709551616:=by
 rw[eM]at h⊢;split at h
 ·rename_i b;exact absurd h b
 split at h
 ·simp at h
 split at h
 ·simp at h
 rename_i b e c
 rw[zf b,zf e,zf c];simp only[YC,zC]at b c;have d:=ig _ c;have hz:=ar s (aw most s).2.1 ((aw most s).2.1+(aw most s).1) (by omega);refine⟨?_,by simp only;omega,d.2.2.2⟩;simp only;rw[ByteArray.size_extract,hz];omega
theorem lY (s:ByteArray)(most:Int)(h:(bc s most).1≠0)(hx:(aB s).2.2=0)(i:((aB s).1:Int)<=most):(bc s most).1=2\/(bc s most).1=3:=by
 unfold bc at h⊢;rw[zf (by rw[hx];simp),zf (by omega)]at h⊢;unfold iZ at h⊢;generalize (s.extract (aB s).2.1 s.size)=b at*;generalize b.size+1=f at*;have:∀(f k:Nat) (out:List UInt8),(gX b (aB s).1 f k out).1=0\/(gX b (aB s).1 f k out).1=2\/(gX b (aB s).1 f k out).1=3:=by
  intro f;induction f with
  |zero=>intro k out;right;left;rfl
  |succ f ih=>
   intro k out;unfold gX;split
   ·split
    ·exact ih _ _
    rename_i d e
    simp only;have:∀(size k c:Nat) (out:List UInt8),(b8 b size k c out).1=0\/(b8 b size k c out).1=2\/(b8 b size k c out).1=3:=by
     intro size k c out;unfold b8;split
     ·right;left;rfl
     split
     ·right;right;rfl
     split
     ·split
      ·right;left;rfl
      left;rfl
     left;rfl
    exact this _ _ _ _
   split
   ·right;left;rfl
   left;rfl
 have:=this f 0 [];omega
theorem pU (s:ByteArray)(h:(aB s).2.2≠0):(aB s).2.2=2\/(aB s).2.2=3\/(aB s).2.2=5:=by
 unfold aB at h⊢;split
 ·split
  ·right;right;rfl
  rename_i b c;rw[zg b,zf c]at h;exact absurd b h
 rename_i b
 have:=NI s 10 0 0 b;simp only;unfold ay;omega
theorem oU (h:af w g t #[j,e,i])(c b d:Value):af (((w.setCell (g,0) c).setCell (g,1) b).setCell (g,2) d) g t #[c,b,d]:=((h.set 0 c).set 1 b).set 2 d
theorem fY (h:af w g t #[j,e,i])(c b d:Value):((((w.setCell (g,0) c).setCell (g,1) b).setCell (g,2) d),g,0,c)/\((((w.setCell (g,0) c).setCell (g,1) b).setCell (g,2) d),g,1,b)/\((((w.setCell (g,0) c).setCell (g,1) b).setCell (g,2) d),g,2,d):=
 ⟨(oU h c b d).cell 0,(oU h c b d).cell 1,(oU h c b d).cell 2⟩
theorem My (h:af w g t #[j,e,i])(o:Obj)(c b d:Value):(((((w.setCell (g,0) c).setCell (g,1) b).setCell (g,2) d).alloc o),g,0,c)/\(((((w.setCell (g,0) c).setCell (g,1) b).setCell (g,2) d).alloc o),g,1,b)/\(((((w.setCell (g,0) c).setCell (g,1) b).setCell (g,2) d).alloc o),g,2,d):=
 ⟨((oU h c b d).alloc o).cell 0,((oU h c b d).alloc o).cell 1,((oU h c b d).alloc o).cell 2⟩
theorem BS (most o:Int)(k:Nat)(s:ByteArray)(w:World)(Y:s.size<=9223372036854775807)(R: -9223372036854775808<=most)(W:most<=9223372036854775807)
 (hx:(an most s).1≠0\/(aB (an most s).2.2.1).2.2≠0\/o<(aB (an most s).2.2.1).1):
 Calls prog 101 #[most,o,(k,0),s] w fun e w'=>e=Dd (aT most o s)/\ae [] w w':=by
 have L:=za (fun w=>ky most s w Y R W);have q:=za (bP most o s);have F:=Ao most s;have H:=sS most s;generalize aT most o s=X at*;generalize an most s=ab at*;obtain⟨A,id,body,sz⟩:=ab;dsimp only at*;rcases eR A with⟨u,S,h2⟩|⟨u,S,h2⟩
 ·subst u;obtain⟨d,aI,p⟩:=H rfl;clear F H;have G:=za (fun k w=>G4 body o k w (by omega));have K:=za (fun k w=>Et body o k w (by omega));have J:=pU body;generalize aB body=z at*;obtain⟨n,hd,es⟩:=z;dsimp only at*;rcases eR es with⟨g0,g1,g2⟩|⟨g0,g1,g2⟩
  ·subst g0;have O:o<n:=by omega
   have r:=za (by have:=q.out;rw[zf (by simp),zf (by simp),zg O]at this;exact this);have Z:=za (fun k w=>K.out k w rfl O);have y:=za (fun w=>ri 5 w (by omega) (by omega));simp only[show¬((5:Int)=2)from by omega,xO]at y;clear G K q J hx;go_enter Ze,xT
   go_wp2_with fail
   refine(L.out _).mono ?_;rintro e i ⟨rfl,d⟩;have b:af i w.heap.size 103 #[.int .u64 0,eS,eS]:=(d.block w.heap.size (by simp)).trans (af.new w _ _);have x:ae [] w i:=((ae.refl [] w).alloc _).trans' (ae.ai d (ze _)) (by simp);have N:w.heap.size<i.heap.size:=by have:=d.size;simp at this;omega
   clear d;dsimp only;have j:=b.cell 0;have l:=b.cell 1;have m:=b.cell 2;have B:=b.frozen 0;have C:=b.frozen 1;have D:=b.frozen 2;simp at j l m;go_wp2_with fail
   refine(Z.out _ _).mono ?_;rintro e w' ⟨rfl,rfl⟩;go_wp2_with fail
   refine(y.out _).mono ?_;rintro e w3 ⟨rfl,p⟩;have c:af w3 w.heap.size 103 #[.int .u64 0,eS,eS]:=(p.block w.heap.size (by simp;omega)).trans (b.alloc _);have I:ae [] w w3:=(x.alloc _).trans' (ae.ai p (ze _)) (by simp);have j:=c.cell 0;have l:=c.cell 1;have m:=c.cell 2;have B:=c.frozen 0;have C:=c.frozen 1;have D:=c.frozen 2;simp at j l m;go_wp2;refine zj (v:= .tuple #[.agg #[.int .u64 0,ByteArray.empty,ByteArray.empty],(0:Int),(5:Int)]) (by simp[results,xE,go_sem,qX,fY c]) rfl ?_;refine⟨lp r.out rfl, ?_⟩;exact(I.on fun _=>inferInstance)
  have E:∃t:Int,(if es=5 then(5:Int)else 3)=t/\∀w,Calls prog 147 #[es] w fun e w'=>e= .returned t/\(w,w'):=by
   refine⟨_,rfl,fun w=>(ri es w (by omega) (by omega)).mono fun e w' ⟨he,U⟩=>⟨by rw[he];rcases J g0 with h|h|h<;>subst h<;>rfl,U⟩⟩
  obtain⟨t,M,E⟩:=E;have y:=za E;have r:=za (by have:=q.out;rw[zf (by simp),zg g0,M]at this;exact this);have aa:=za (fun k w=>G.out k w g0);clear G K q J hx M E g0;go_enter Ze,xT
  go_wp2_with fail
  refine(L.out _).mono ?_;rintro e i ⟨rfl,d⟩;have b:af i w.heap.size 103 #[.int .u64 0,eS,eS]:=(d.block w.heap.size (by simp)).trans (af.new w _ _);have x:ae [] w i:=((ae.refl [] w).alloc _).trans' (ae.ai d (ze _)) (by simp);have N:w.heap.size<i.heap.size:=by have:=d.size;simp at this;omega
  clear d;dsimp only;have j:=b.cell 0;have l:=b.cell 1;have m:=b.cell 2;have B:=b.frozen 0;have C:=b.frozen 1;have D:=b.frozen 2;simp at j l m;go_wp2_with fail
  refine(aa.out _ _).mono ?_;rintro e w' ⟨rfl,rfl⟩;go_wp2_with fail
  refine(y.out _).mono ?_;rintro e w3 ⟨rfl,p⟩;have c:af w3 w.heap.size 103 #[.int .u64 0,eS,eS]:=(p.block w.heap.size (by simp;omega)).trans (b.alloc _);have I:ae [] w w3:=(x.alloc _).trans' (ae.ai p (ze _)) (by simp);have j:=c.cell 0;have l:=c.cell 1;have m:=c.cell 2;have B:=c.frozen 0;have C:=c.frozen 1;have D:=c.frozen 2;simp at j l m;go_wp2;refine zj (v:= .tuple #[.agg #[.int .u64 0,ByteArray.empty,ByteArray.empty],(0:Int),t]) (by simp[results,xE,go_sem,qX,fY c]) rfl ?_;refine⟨lp r.out rfl, ?_⟩;exact(I.on fun _=>inferInstance)
 obtain⟨_,rfl,rfl,rfl⟩:A=A/\id=0/\body=ByteArray.empty/\sz=0:=by have:=F u;simpa using this
 have r:=za (by have:=q.out;rw[zg u]at this;exact this);clear q F H u hx;go_enter Ze,xT
 go_wp2_with fail
 refine(L.out _).mono ?_;rintro e i ⟨rfl,d⟩;have b:af i w.heap.size 103 #[.int .u64 0,eS,eS]:=(d.block w.heap.size (by simp)).trans (af.new w _ _);have x:ae [] w i:=((ae.refl [] w).alloc _).trans' (ae.ai d (ze _)) (by simp);have N:w.heap.size<i.heap.size:=by have:=d.size;simp at this;omega
 clear d;dsimp only;have j:=b.cell 0;have l:=b.cell 1;have m:=b.cell 2;have B:=b.frozen 0;have C:=b.frozen 1;have D:=b.frozen 2;simp at j l m;go_wp2;refine zj (v:= .tuple #[.agg #[.int .u64 0,ByteArray.empty,ByteArray.empty],(0:Int),A]) (by simp[results,xE,go_sem,qX,My b]) rfl ?_;refine⟨lp r.out rfl, ?_⟩;exact(x.on fun _=>inferInstance)
theorem BT (most o:Int)(j a u t p:Nat)(s:ByteArray)(w:World)(hs:s.size<=9223372036854775807)(dN: -9223372036854775808<=most)(pj:most<=9223372036854775807)
 (C:uP w j a u t p) (ha:a<=9223372036854775807) (hx:(an most s).1=0) (J:(aB (an most s).2.2.1).2.2=0) (L:((aB (an most s).2.2.1).1:Int)<=o) (ho:u+(aB (an most s).2.2.1).1<=a) (ht:t+(aB (an most s).2.2.1).1<=9223372036854775807):
 Calls prog 101 #[.int .i64 most,.int .i64 o,.pointer (some ⟨j,0,none⟩),.string s] w fun e w'=>e=Dd (aT most o s)/\(∃q,uP w' j a (u+(aB (an most s).2.2.1).1) (t+(aB (an most s).2.2.1).1) q)/\ae [j] w w':=by
 have HN:=za (fun w=>ky most s w hs dN pj);have HX:=za (bP most o s);have bG:=sS most s hx;generalize aT most o s=X at*;generalize an most s=ab at*;obtain⟨er,id,body,sz⟩:=ab;dsimp only at*;subst hx;obtain⟨d,aI,I⟩:=bG;have E:=fun h=>lY body o h J L
 have HV:=za (fun w C=>Kj body o j a u t p w (by omega) C ha J L ho ht);have z:=HX.out;rw[zf (by simp),zf (by rw[J];simp),zf (by omega)]at z;generalize (aB body).1=n at*;generalize bc body o=r at*;obtain⟨U,l⟩:=r;dsimp only at*;generalize (⟨l.toArray⟩:ByteArray)=T at*;have ad:=C.lt;clear J L ho ht HX;rcases eR U with⟨B,r1,r2⟩|⟨B,r1,r2⟩
 ·subst B;rw[zf (by simp)]at z;have M:=za z;clear z E;go_enter Ze,xT
  go_wp2_with fail
  refine(HN.out _).mono ?_;rintro e c ⟨rfl,d⟩;have b:af c w.heap.size 103 #[.int .u64 0,eS,eS]:=(d.block w.heap.size (by simp)).trans (af.new w _ _);have H:ae [] w c:=((ae.refl [] w).alloc _).trans' (ae.ai d (ze _)) (by simp);have cg:w.heap.size<c.heap.size:=by have:=d.size;simp at this;omega
  clear d;dsimp only;have N:=C.only H (by simp);have i:=b.cell 0;have m:=b.cell 1;have k:=b.cell 2;have D:=b.frozen 0;have F:=b.frozen 1;have G:=b.frozen 2;simp at i m k;go_wp2_with fail
  refine(HV.out _ (N.alloc _)).mono ?_;rintro e Z ⟨rfl,O,x⟩;have W:=x.size;simp only[zp]at W;have R:=(b.alloc _).only x (by simp;omega);have K:=(af.new c 103 #[.int .u64 id,eS,body]).only x (by simp;omega);have Y:ae [j] w Z:=((H.mono (by simp)).alloc _).trans x;clear i m k D F G;have d0:=K.cell 2;have d1:=K.frozen 2;have S:=K.set 2 T;have y:=R.dI (p:=(c.heap.size,2)) (by simp;omega) T;have e0:=S.cell 0;have e1:=S.cell 1;have e2:=S.cell 2;have i:=y.cell 0;have m:=y.cell 1;have k:=y.cell 2;have D:=y.frozen 0;have F:=y.frozen 1;have G:=y.frozen 2;simp at i m k d0 e0 e1 e2;go_wp2;refine zj (v:= .tuple #[.agg #[.int .u64 id,ByteArray.empty,T],sz,(0:Int)]) (by simp[results,xE,go_sem,qX,fY y]) rfl ?_;refine⟨lp M.out rfl,⟨max p (u+n), ?_⟩, ?_⟩
  ·exact(((O.dI (p:=⟨c.heap.size,2,none⟩) (by simp;omega) _).dI (by simp;omega) _).dI (by simp;omega) _).dI (by simp;omega) _
  exact(((Y.setCell (p:=⟨c.heap.size,2,none⟩) (.inr (by simp;omega)) _).setCell (.inr (by simp)) _).setCell (.inr (by simp)) _).setCell (.inr (by simp)) _
 rw[zg B]at z;have M:=za z;have HT:Hid (∀w,Calls prog 147 #[U] w fun e w'=>e= .returned (3:Int)/\(w,w')):=za (fun w=>(ri U w (by have:=E B;omega) (by have:=E B;omega)).mono fun e w' ⟨he,hb⟩=>⟨by rw[he];rcases E B with h|h<;>subst h<;>rfl,hb⟩);clear z E B;go_enter Ze,xT
 go_wp2_with fail
 refine(HN.out _).mono ?_;rintro e c ⟨rfl,d⟩;have b:af c w.heap.size 103 #[.int .u64 0,eS,eS]:=(d.block w.heap.size (by simp)).trans (af.new w _ _);have H:ae [] w c:=((ae.refl [] w).alloc _).trans' (ae.ai d (ze _)) (by simp);have cg:w.heap.size<c.heap.size:=by have:=d.size;simp at this;omega
 clear d;dsimp only;have N:=C.only H (by simp);have i:=b.cell 0;have m:=b.cell 1;have k:=b.cell 2;have D:=b.frozen 0;have F:=b.frozen 1;have G:=b.frozen 2;simp at i m k;go_wp2_with fail
 refine(HV.out _ (N.alloc _)).mono ?_;rintro e Z ⟨rfl,O,x⟩;have W:=x.size;simp only[zp]at W;have R:=(b.alloc _).only x (by simp;omega);have Y:ae [j] w Z:=((H.mono (by simp)).alloc _).trans x;clear i m k D F G;go_wp2_with fail
 refine(HT.out _).mono ?_;rintro e w3 ⟨rfl,I⟩;have Fw:ae [j] w w3:=Y.trans (ae.ai I (ze _)|>.mono (by simp));have aa:uP w3 j a _ _ _:=O.only (ae.ai I (ze _)) (by simp);have A:af w3 w.heap.size 103 #[.int .u64 0,eS,eS]:=(I.block w.heap.size (by omega)).trans R;have i:=A.cell 0;have m:=A.cell 1;have k:=A.cell 2;have D:=A.frozen 0;have F:=A.frozen 1;have G:=A.frozen 2;simp at i m k;go_wp2;refine zj (v:= .tuple #[.agg #[.int .u64 0,ByteArray.empty,ByteArray.empty],(0:Int),(3:Int)]) (by simp[results,xE,go_sem,qX,fY A]) rfl ?_;refine⟨lp M.out rfl,⟨max p (u+n), ?_⟩, ?_⟩
 ·exact((aa.dI (by simp;omega) _).dI (by simp;omega) _).dI (by simp;omega) _
 exact(Fw.on fun _=>inferInstance)
theorem aex (most c:Int)(s:ByteArray)(k:(an most s).1=0):
 ((bc (an most s).2.2.1 c).1=0->(aT most c s).1=0/\(aT most c s).2.1=(an most s).2.1/\(aT most c s).2.2.1=⟨(bc (an most s).2.2.1 c).2.toArray⟩/\(aT most c s).2.2.2.1=(an most s).2.2.2)/\
 ((bc (an most s).2.2.1 c).1≠0->(aT most c s).1=(if(bc (an most s).2.2.1 c).1=2 then 3 else(bc (an most s).2.2.1 c).1)/\(aT most c s).2.1=0/\(aT most c s).2.2.1=ByteArray.empty/\(aT most c s).2.2.2.1=0):=by
 rw[bP,zf (by rw[k];simp)];have j:=pU (an most s).2.2.1;have l:=fun h=>lY (an most s).2.2.1 c h
 generalize (an most s).2.2.1=b at*;have hz:bc b c=if(aB b).2.2≠0 then((aB b).2.2,[])else if c<(aB b).1 then(5,[])else iZ (b.extract (aB b).2.1 b.size) (aB b).1:=rfl
 by_cases d:(aB b).2.2≠0
 ·rw[zg d]at hz;rw[zg d,hz];refine⟨fun h=>absurd h d,fun _=>⟨?_,rfl,rfl,rfl⟩⟩;rcases j d with h|h|h<;>rw[h]<;>rfl
 rw[zf d]at hz;rw[zf d];have d:=zC.1 d;by_cases i:c<(aB b).1
 ·rw[zg i]at hz;rw[zg i,hz];exact⟨(fun h=>by cases h),(fun _=>⟨rfl,rfl,rfl,rfl⟩)⟩
 rw[zf i];by_cases e:(bc b c).1≠0
 ·rw[zg e];refine⟨fun h=>absurd h e,fun _=>⟨?_,rfl,rfl,rfl⟩⟩;rcases l e d (by omega)with h|h<;>rw[h]<;>rfl
 rw[zf e];exact⟨fun _=>⟨rfl,rfl,rfl,rfl⟩,fun h=>absurd h e⟩
theorem G6 {x:Int×Nat×ByteArray×Nat×Nat}{b:Nat}{c:ByteArray}(h:x.1=a)(j:x.2.1=b)(i:x.2.2.1=c)(e:x.2.2.2.1=d):Ending.returned (.tuple #[.agg #[.int .u64 b,ByteArray.empty,c],d,a])=Dd x:=by
 subst h;subst j;subst i;subst e;rfl
theorem Ap (most i:Int)(s:ByteArray)(w:World)(hs:s.size<=9223372036854775807)(dN: -9223372036854775808<=most)(pj:most<=9223372036854775807):
 Calls prog 101 #[most,i,.pointer none,s] w fun e w'=>e=Dd (aT most i s)/\(w,w'):=by
 have HN:=za (fun w=>ky most s w hs dN pj);have aa:=aex most i s;have U:=bP most i s;have N:=Ao most s;have W:=sS most s;generalize aT most i s=X at*;generalize an most s=ab at*;obtain⟨K,id,body,sz⟩:=ab;dsimp only at*;rcases eR K with⟨G,h1,h2⟩|⟨G,h1,h2⟩
 ·subst G;obtain⟨c,q,S⟩:=W rfl;obtain⟨jv,O⟩:=aa rfl;clear N W U aa;have HV:=za (fun w=>Kh body i w (by omega));have M:(bc body i).1≠0->0<=(bc body i).1/\(bc body i).1<=12:=fun h=>by
   have hz:bc body i=if(aB body).2.2≠0 then((aB body).2.2,[])else if i<(aB body).1 then(5,[])else iZ (body.extract (aB body).2.1 body.size) (aB body).1:=rfl
   by_cases J:(aB body).2.2≠0
   ·rw[hz,zg J];have:=pU body J;simp only;omega
   by_cases g2:i<(aB body).1
   ·rw[hz,zf J,zg g2];simp
   have:=lY body i h (zC.1 J) (by omega);omega
  generalize bc body i=r at*;obtain⟨L,l⟩:=r;dsimp only at*;generalize (⟨l.toArray⟩:ByteArray)=T at*;rcases eR L with⟨C,r1,r2⟩|⟨C,r1,r2⟩
  ·subst C;obtain⟨x,y,D,F⟩:=jv rfl;have E:=za (G6 x y D F);clear jv O x y D F M;go_enter Ze,xT
   go_wp2_with fail
   refine(HN.out _).mono ?_;rintro e d ⟨rfl,c⟩;have b:af d w.heap.size 103 #[.int .u64 0,eS,eS]:=(c.block w.heap.size (by simp)).trans (af.new w _ _);have H:ae [] w d:=((ae.refl [] w).alloc _).trans' (ae.ai c (ze _)) (by simp);have cg:w.heap.size<d.heap.size:=by have:=c.size;simp at this;omega
   clear c;dsimp only;have j:=b.cell 0;have m:=b.cell 1;have k:=b.cell 2;have z:=b.frozen 0;have A:=b.frozen 1;have B:=b.frozen 2;simp at j m k;go_wp2_with fail
   refine(HV.out _).mono ?_;rintro e I ⟨rfl,q⟩;have cC:=q.size;simp only[zp]at cC;have cI:ae [] (d.alloc (.cells #[.int .u64 id,eS,body] 103)) I:=ae.ai q (ze _);have Y:=(b.alloc _).only cI (by simp);have R:=(af.new d 103 #[.int .u64 id,eS,body]).only cI (by simp);have Lf:ae [] w I:=(H.alloc _).trans cI;clear j m k z A B;have d0:=R.cell 2;have d1:=R.frozen 2;have Z:=R.set 2 T;have o:=Y.dI (p:=(d.heap.size,2)) (by simp;omega) T;have e0:=Z.cell 0;have x:=Z.cell 1;have y:=Z.cell 2;have j:=o.cell 0;have m:=o.cell 1;have k:=o.cell 2;have z:=o.frozen 0;have A:=o.frozen 1;have B:=o.frozen 2;simp at j m k d0 e0 x y;have n:Below w.heap.size w I:=Lf.below (ze _) (by simp);go_wp2;refine zj (v:= .tuple #[.agg #[.int .u64 id,ByteArray.empty,T],sz,(0:Int)]) (by simp[results,xE,go_sem,qX,fY o]) rfl ?_;exact⟨E.out,(((n.setCell (by simp;omega) _).setCell (by simp) _).setCell (by simp) _).setCell (by simp) _⟩
  obtain⟨x,y,D,F⟩:=O C;have E:=za (G6 x y D F);have HT:=za (fun w=>ri L w (M C).1 (by have:=(M C).2;omega));generalize (if L=2 then(3:Int)else L)=t at*;clear jv O x y D F M C;go_enter Ze,xT
  go_wp2_with fail
  refine(HN.out _).mono ?_;rintro e d ⟨rfl,c⟩;have b:af d w.heap.size 103 #[.int .u64 0,eS,eS]:=(c.block w.heap.size (by simp)).trans (af.new w _ _);have H:ae [] w d:=((ae.refl [] w).alloc _).trans' (ae.ai c (ze _)) (by simp);have cg:w.heap.size<d.heap.size:=by have:=c.size;simp at this;omega
  clear c;dsimp only;have j:=b.cell 0;have m:=b.cell 1;have k:=b.cell 2;have z:=b.frozen 0;have A:=b.frozen 1;have B:=b.frozen 2;simp at j m k;go_wp2_with fail
  refine(HV.out _).mono ?_;rintro e I ⟨rfl,q⟩;have cC:=q.size;simp only[zp]at cC;have Y:=(b.alloc _).only (ae.ai q (ze _)) (by simp);have Lf:ae [] w I:=(H.alloc _).trans (ae.ai q (ze _));clear j m k z A B;go_wp2_with fail
  refine(HT.out _).mono ?_;rintro e w3 ⟨rfl,S⟩;have Fw:ae [] w w3:=Lf.trans (ae.ai S (ze _));have n:Below w.heap.size w w3:=Fw.below (ze _) (by simp);have u:af w3 w.heap.size 103 #[.int .u64 0,eS,eS]:=(S.block w.heap.size (by omega)).trans Y;have j:=u.cell 0;have m:=u.cell 1;have k:=u.cell 2;have z:=u.frozen 0;have A:=u.frozen 1;have B:=u.frozen 2;simp at j m k;go_wp2;refine zj (v:= .tuple #[.agg #[.int .u64 0,ByteArray.empty,ByteArray.empty],(0:Int),t]) (by simp[results,xE,go_sem,qX,fY u]) rfl ?_;exact⟨E.out,((n.setCell (by simp) _).setCell (by simp) _).setCell (by simp) _⟩
 obtain⟨_,rfl,rfl,rfl⟩:K=K/\id=0/\body=ByteArray.empty/\sz=0:=by have:=N G;simpa using this
 have E:=za (by have:=U;rw[zg G]at this;exact this);clear U N W G aa;go_enter Ze,xT
 go_wp2_with fail
 refine(HN.out _).mono ?_;rintro e d ⟨rfl,c⟩;have b:af d w.heap.size 103 #[.int .u64 0,eS,eS]:=(c.block w.heap.size (by simp)).trans (af.new w _ _);have H:ae [] w d:=((ae.refl [] w).alloc _).trans' (ae.ai c (ze _)) (by simp);have cg:w.heap.size<d.heap.size:=by have:=c.size;simp at this;omega
 clear c;dsimp only;have n:Below w.heap.size w d:=H.below (ze _) (by simp);have j:=b.cell 0;have m:=b.cell 1;have k:=b.cell 2;have z:=b.frozen 0;have A:=b.frozen 1;have B:=b.frozen 2;simp at j m k;go_wp2;refine zj (v:= .tuple #[.agg #[.int .u64 0,ByteArray.empty,ByteArray.empty],(0:Int),K]) (by simp[results,xE,go_sem,qX,My b]) rfl ?_;refine⟨lp E.out rfl, ?_⟩;first
  |exact(((n.setCell (by simp) _).setCell (by simp) _).setCell (by simp) _).alloc (by have:=n.size;simp;omega) _
  |exact((n.setCell (by simp) _).setCell (by simp) _).setCell (by simp) _
theorem o7 (id:Nat)(body:ByteArray)(w:World)(hid:id<18446744073709551616)(j:65536<(aR id).length+body.size)(i:body.size<=1000000):
 Calls prog 94 #[.int .u64 id,body] w fun e w'=>e= .returned (.tuple #[ByteArray.empty,(5:Int)])/\(w,w'):=by
 have b:=za (Db id w hid);have d:=bC 10 id (by omega) (by omega);generalize (aR id).length=c at*;have h:(65536:Int)<(c:Int)+body.size:=by omega
 go_enter func94,ntmps94
 go_wp2_with fail
 refine b.out.mono ?_;rintro e w' ⟨rfl,rfl⟩;go_wp2;go_ret2
 exact⟨rfl,zi _ _⟩
def Aq (id:Nat)(body:ByteArray):ByteArray:=if 65536<(aR id).length+(pack body.data.toList).length then ByteArray.empty else⟨(eF id (pack body.data.toList)).toArray⟩
def Ar (id:Nat)(body:ByteArray):Int:=if 65536<(aR id).length+(pack body.data.toList).length then 5 else 0
theorem BU (id:Nat)(body:ByteArray)(w:World)(hid:id<18446744073709551616)(d:body.size<=65536):
 Calls prog 99 #[.int .u64 id,body] w fun e w'=>e= .returned (.tuple #[.string (Aq id body),.int .i64 (Ar id body)])/\(w,w'):=by
 have k:=za (fun w=>aaX body w d);have c:=tD body.data.toList (by rw[aa];omega);rw[aa]at c;have hz:(⟨(pack body.data.toList).toArray⟩:ByteArray).size=(pack body.data.toList).length:=bJ _;have i:Hid (∀w,Calls prog 94 #[.int .u64 id,.string ⟨(pack body.data.toList).toArray⟩] w fun e w'=>e= .returned (.tuple #[.string (Aq id body),.int .i64 (Ar id body)])/\(w,w')):=za (fun w=>by
  unfold Aq Ar;by_cases h:65536<(aR id).length+(pack body.data.toList).length
  ·rw[zg h,zg h];exact o7 id ⟨(pack body.data.toList).toArray⟩ w hid (by rw[hz];exact h) (by rw[hz];omega)
  rw[zf h,zf h];exact An id ⟨(pack body.data.toList).toArray⟩ w hid (by rw[hz];omega))
 generalize (⟨(pack body.data.toList).toArray⟩:ByteArray)=B at*;generalize Aq id body=S at*;generalize Ar id body=E at*;clear c hz;go_enter func99,ntmps99
 go_wp2_with fail
 refine(k.out _).mono ?_;rintro e l ⟨rfl,b⟩;have hz:=b.size;go_wp2_with fail
 refine(i.out _).mono ?_;rintro e m ⟨rfl,j⟩;go_wp2;go_ret2
 exact⟨rfl,b.trans (j.mono hz)⟩
