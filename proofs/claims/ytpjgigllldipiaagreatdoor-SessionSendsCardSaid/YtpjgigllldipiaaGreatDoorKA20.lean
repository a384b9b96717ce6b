/- packed.Next without a meter; plain.Put and packed.Put of what is too long. -/
import Derived.Test.YtpjgigllldipiaaGreatDoorKA18
import Derived.Test.YtpjgigllldipiaaGreatDoorKA19
set_option linter.all false
set_option maxRecDepth 100000
set_option maxHeartbeats 2000000
namespace Go.Proofs.YtpjgigllldipiaaGreatDoor
open Go.RowKit Go.Maps
def xz:=@Tryz.underlying35
def xU:=@Tryz.results80
def Zk:=@Tryz.ntmps80
def Zx:=@Tryz.func80
theorem MF (id:Nat)(body:ByteArray):(⟨(aO ((aO id).length+body.size)).toArray⟩++⟨(aO id).toArray⟩++body:ByteArray)=⟨(ey id body.data.toList).toArray⟩:=by
 apply aG;rw[ba,ba,ey,zo,aa];simp
theorem vw (id:Nat)(body:ByteArray)(w:World)(hid:id<18446744073709551616)(n:(aO id).length+body.size<=65536):
 Calls Tryz.prog 73 #[.int .u64 id,.string body] w fun e w'=>e= .returned (.tuple #[.string ⟨(ey id body.data.toList).toArray⟩,.int .i64 0])/\Below w.heap.size w w':=by
 have h:=za (BR id w hid);have c:=za (fun w=>vc ((aO id).length+body.size) w (by omega));have i:=za (fun w=>vc id w hid);have k:=za (MF id body);have j:=bw 10 id (by omega) (by omega);have d:=bw 10 ((aO id).length+body.size) (by omega) (by omega);rw[<-bD]at d;have p:(⟨(aO id).toArray⟩:ByteArray).size<=10:=by rw[bD];exact j
 rw[show(((aO id).length+body.size:Nat):Int)=((aO id).length:Int)+body.size from by omega]at c;generalize (⟨(aO id).toArray⟩:ByteArray)=TI at*;generalize (⟨(aO ((aO id).length+body.size)).toArray⟩:ByteArray)=TL at*;generalize (aO id).length=li at*;go_enter Tryz.func73,Tryz.ntmps73
 go_wp2_with fail
 refine h.out.mono ?_;rintro e w' ⟨rfl,rfl⟩;go_wp2_with fail
 refine(c.out _).mono ?_;rintro e o ⟨rfl,b⟩;have hz:=b.size;go_wp2_with fail
 refine(i.out _).mono ?_;rintro e m ⟨rfl,l⟩;go_wp2;go_ret2
 exact⟨by rw[<-k.out];rfl,b.trans (l.mono hz)⟩
theorem Kz (w:World):(zeroValue 35).run Tryz.prog w= .ok (.int .i64 0) w:=by kernel_rfl
theorem qh (b:Int)(w:World)(z:0<=b)(u:b<=100):
 Calls Tryz.prog 125 #[.int .i64 b] w fun e w'=>e= .returned (.int .i64 (if b=2 then 3 else b))/\Below w.heap.size w w':=by
 have y:= @run_makeMap Tryz.prog;obtain⟨q,x,k,n⟩:=(World.ownsMap_made (H:=Unit) w Tryz.prog 35 (plainElem Tryz.prog 35)).update (int_keyed xz) Tryz.underlying216 (by decide) (keyOf_int_mk xz (a:=2) (by decide)) (plainElem_int xz (a:=3) (by decide));have i:Below w.heap.size w q:=((zq w.heap.size w).alloc (zi _) _).grown n (by simp) (by simp);have l:=keyOf_int_mk (P:=Tryz.prog) xz (a:=b) (WalkArith.wf_i64 (by omega));have m:=za i;have o:=za l;clear i l n;by_cases h:b=2
 ·subst h;have p:Maps.has ((DataW.map []:DataW Unit).put (.int .i64 2) (.lit (.int .i64 3))) (.int .i64 2)=true:=rfl;have j:((DataW.map []:DataW Unit).put (.int .i64 2) (.lit (.int .i64 3))).atKey (.int .i64 2) (.lit (.int .i64 0))= .lit (.int .i64 3):=rfl;have s:=za j;generalize (DataW.map []:DataW Unit).put (.int .i64 2) (.lit (.int .i64 3))=D at*;clear j;go_enter Tryz.func125,Tryz.ntmps125
  go_wp2_with (at_lookup;refine Zs _ rfl _ _ 216 rfl 35 35 .i64 (int_keyed xz) Tryz.underlying216 xz (Kz _) w.heap.size 1 D rfl k _ _ rfl o.out ?_;intro r c d;obtain rfl:=PL (c.symm.trans s.out);clear c d)
  go_ret;exact⟨rfl,m.out⟩
 have p:Maps.has ((DataW.map []:DataW Unit).put (.int .i64 2) (.lit (.int .i64 3))) (.int .i64 b)=false:=by
  rw[Maps.has_put_other (by intro e;injection e;omega)];rfl
 generalize (DataW.map []:DataW Unit).put (.int .i64 2) (.lit (.int .i64 3))=D at*;rw[zj h];clear h;go_enter Tryz.func125,Tryz.ntmps125
 go_wp2_with (at_lookup;refine Zs _ rfl _ _ 216 rfl 35 35 .i64 (int_keyed xz) Tryz.underlying216 xz (Kz _) w.heap.size 1 D rfl k _ _ rfl o.out ?_;intro r c d;clear c d)
 go_ret;exact⟨rfl,m.out⟩
open Go.RowKit
theorem ae.on {L:List Nat}{a w w':World}(h:ae L a w)(f:dQ L a w->dQ L a w'):ae L a w':=(f ⟨h⟩).out
def BY (x:Int×Nat×ByteArray×Nat×Nat):Ending:= .returned (.tuple #[.agg #[.int .u64 x.2.1,.string ByteArray.empty,.string x.2.2.1],.int .i64 x.2.2.2.1,.int .i64 x.1])
theorem kW {x:Int×Nat×ByteArray×Nat×Nat}{a:Int}{b:Nat}{c:ByteArray}{d m:Nat}{e:Int}(h:x=(a,b,c,d,m))(hd:e=d):Ending.returned (.tuple #[.agg #[.int .u64 b,.string ByteArray.empty,.string c],.int .i64 e,.int .i64 a])=BY x:=by
 subst h;subst hd;rfl
theorem vx (most:Int)(s:ByteArray)(h:(ai most s).1≠0):ai most s=((ai most s).1,0,ByteArray.empty,0):=by
 rw[eD]at h⊢;split
 ·rfl
 split
 ·rfl
 split
 ·rfl
 rename_i d c b;rw[zj d,zj c,zj b]at h;exact absurd rfl h
theorem rA (most:Int)(s:ByteArray)(h:(ai most s).1=0):(ai most s).2.2.1.size<=s.size/\(ai most s).2.2.2<=s.size/\(ai most s).2.1<18446744073709551616:=by
 rw[eD]at h⊢;split at h
 ·rename_i b;exact absurd h b
 split at h
 ·simp at h
 split at h
 ·simp at h
 rename_i b d c
 rw[zj b,zj d,zj c];simp only[ne_eq,zJ]at b c;have e:=gU _ c;have hz:=an s (au most s).2.1 ((au most s).2.1+(au most s).1) (by omega);refine⟨?_,by simp only;omega,e.2.2.2⟩;simp only;rw[ByteArray.size_extract,hz];omega
theorem lD (s:ByteArray)(most:Int)(h:(bc s most).1≠0)(hx:(aC s).2.2=0)(d:((aC s).1:Int)<=most):(bc s most).1=2\/(bc s most).1=3:=by
 unfold bc at h⊢;rw[zj (by rw[hx];simp),zj (by omega)]at h⊢;unfold iJ at h⊢;generalize (s.extract (aC s).2.1 s.size)=b at*;generalize b.size+1=f at*;have:∀(f k:Nat) (out:List UInt8),(gN b (aC s).1 f k out).1=0\/(gN b (aC s).1 f k out).1=2\/(gN b (aC s).1 f k out).1=3:=by
  intro f;induction f with
  |zero=>intro k out;right;left;rfl
  |succ f ih=>
   intro k out;unfold gN;split
   ·split
    ·exact ih _ _
    rename_i i e
    simp only;have:∀(size k c:Nat) (out:List UInt8),(bT b size k c out).1=0\/(bT b size k c out).1=2\/(bT b size k c out).1=3:=by
     intro size k c out;unfold bT;split
     ·right;left;rfl
     split
     ·right;right;rfl
     split
     ·split
      ·right;left;rfl
      left;rfl
     left;rfl
    exact this _ _ _ _
   split
   ·right;left;rfl
   left;rfl
 have:=this f 0 [];omega
theorem oT (s:ByteArray)(h:(aC s).2.2≠0):(aC s).2.2=2\/(aC s).2.2=3\/(aC s).2.2=5:=by
 unfold aC at h⊢;split
 ·split
  ·right;right;rfl
  rename_i b c;rw[zl b,zj c]at h;exact absurd b h
 rename_i b
 have:=Lz s 10 0 0 b;simp only;unfold ay;omega
theorem kX {w:World}{g:Nat}{t:TypeId}{j e i:Value}(h:af w g t #[j,e,i])(d c b:Value):af (((w.setCell ⟨g,0,none⟩ d).setCell ⟨g,1,none⟩ c).setCell ⟨g,2,none⟩ b) g t #[d,c,b]:=((h.set 0 d).set 1 c).set 2 b
theorem dK {w:World}{g:Nat}{t:TypeId}{j e i:Value}(h:af w g t #[j,e,i])(d c b:Value):(((w.setCell ⟨g,0,none⟩ d).setCell ⟨g,1,none⟩ c).setCell ⟨g,2,none⟩ b).cell? ⟨g,0,none⟩=some d/\(((w.setCell ⟨g,0,none⟩ d).setCell ⟨g,1,none⟩ c).setCell ⟨g,2,none⟩ b).cell? ⟨g,1,none⟩=some c/\(((w.setCell ⟨g,0,none⟩ d).setCell ⟨g,1,none⟩ c).setCell ⟨g,2,none⟩ b).cell? ⟨g,2,none⟩=some b:=
 ⟨(kX h d c b).cell 0,(kX h d c b).cell 1,(kX h d c b).cell 2⟩
theorem KA {w:World}{g:Nat}{t:TypeId}{j e i:Value}(h:af w g t #[j,e,i])(o:Obj)(d c b:Value):((((w.setCell ⟨g,0,none⟩ d).setCell ⟨g,1,none⟩ c).setCell ⟨g,2,none⟩ b).alloc o).cell? ⟨g,0,none⟩=some d/\((((w.setCell ⟨g,0,none⟩ d).setCell ⟨g,1,none⟩ c).setCell ⟨g,2,none⟩ b).alloc o).cell? ⟨g,1,none⟩=some c/\((((w.setCell ⟨g,0,none⟩ d).setCell ⟨g,1,none⟩ c).setCell ⟨g,2,none⟩ b).alloc o).cell? ⟨g,2,none⟩=some b:=
 ⟨((kX h d c b).alloc o).cell 0,((kX h d c b).alloc o).cell 1,((kX h d c b).alloc o).cell 2⟩
theorem Ar (most o:Int)(k:Nat)(s:ByteArray)(w:World)(R:s.size<=9223372036854775807)(Y: -9223372036854775808<=most)(U:most<=9223372036854775807)
 (hx:(ai most s).1≠0\/(aC (ai most s).2.2.1).2.2≠0\/o<(aC (ai most s).2.2.1).1):
 Calls Tryz.prog 80 #[.int .i64 most,.int .i64 o,.pointer (some ⟨k,0,none⟩),.string s] w fun e w'=>e=BY (aT most o s)/\ae [] w w':=by
 have F:=za (fun w=>j8 most s w R Y U);have p:=za (bI most o s);have J:=vx most s;have I:=rA most s;generalize aT most o s=X at*;generalize ai most s=y at*;obtain⟨z,id,body,sz⟩:=y;dsimp only at*;rcases eH z with⟨x,Z,h2⟩|⟨x,Z,h2⟩
 ·subst x;obtain⟨d,aM,q⟩:=I rfl;clear J I;have H:=za (fun k w=>Fw body o k w (by omega));have K:=za (fun k w=>C6 body o k w (by omega));have G:=oT body;generalize aC body=aa at*;obtain⟨n,hd,es⟩:=aa;dsimp only at*;rcases eH es with⟨g0,g1,g2⟩|⟨g0,g1,g2⟩
  ·subst g0;have O:o<n:=by omega
   have r:=za (by have:=p.out;rw[zj (by simp),zj (by simp),zl O]at this;exact this);have Sk:=za (fun k w=>K.out k w rfl O);have A:=za (fun w=>qh 5 w (by omega) (by omega));simp only[show¬((5:Int)=2)from by omega,Zq]at A;clear H K p G hx;go_enter Zx,Zk
   go_wp2_with fail
   refine(F.out _).mono ?_;rintro e i ⟨rfl,d⟩;have b:af i w.heap.size 74 #[.int .u64 0,.string ⟨#[]⟩,.string ⟨#[]⟩]:=(d.block w.heap.size (by simp)).trans (af.new w _ _);have u:ae [] w i:=((ae.refl [] w).alloc _).trans' (ae.ah d (zi _)) (by simp);have N:w.heap.size<i.heap.size:=by have:=d.size;simp at this;omega
   clear d;dsimp only;have m:=b.cell 0;have l:=b.cell 1;have j:=b.cell 2;have D:=b.frozen 0;have B:=b.frozen 1;have C:=b.frozen 2;simp at m l j;go_wp2_with fail
   refine(Sk.out _ _).mono ?_;rintro e w' ⟨rfl,rfl⟩;go_wp2_with fail
   refine(A.out _).mono ?_;rintro e w3 ⟨rfl,q⟩;have c:af w3 w.heap.size 74 #[.int .u64 0,.string ⟨#[]⟩,.string ⟨#[]⟩]:=(q.block w.heap.size (by simp;omega)).trans (b.alloc _);have L:ae [] w w3:=(u.alloc _).trans' (ae.ah q (zi _)) (by simp);have m:=c.cell 0;have l:=c.cell 1;have j:=c.cell 2;have D:=c.frozen 0;have B:=c.frozen 1;have C:=c.frozen 2;simp at m l j;go_wp2;refine zp (v:= .tuple #[.agg #[.int .u64 0,.string ByteArray.empty,.string ByteArray.empty],.int .i64 0,.int .i64 5]) (by simp[results,xU,go_sem,nU,dK c]) rfl ?_;refine⟨kW r.out rfl, ?_⟩;exact(L.on fun _=>inferInstance)
  have E:∃t:Int,(if es=5 then(5:Int)else 3)=t/\∀w,Calls Tryz.prog 125 #[.int .i64 es] w fun e w'=>e= .returned (.int .i64 t)/\Below w.heap.size w w':=by
   refine⟨_,rfl,fun w=>(qh es w (by omega) (by omega)).mono fun e w' ⟨he,S⟩=>⟨by rw[he];rcases G g0 with h|h|h<;>subst h<;>rfl,S⟩⟩
  obtain⟨t,M,E⟩:=E;have A:=za E;have r:=za (by have:=p.out;rw[zj (by simp),zl g0,M]at this;exact this);have W:=za (fun k w=>H.out k w g0);clear H K p G hx M E g0;go_enter Zx,Zk
  go_wp2_with fail
  refine(F.out _).mono ?_;rintro e i ⟨rfl,d⟩;have b:af i w.heap.size 74 #[.int .u64 0,.string ⟨#[]⟩,.string ⟨#[]⟩]:=(d.block w.heap.size (by simp)).trans (af.new w _ _);have u:ae [] w i:=((ae.refl [] w).alloc _).trans' (ae.ah d (zi _)) (by simp);have N:w.heap.size<i.heap.size:=by have:=d.size;simp at this;omega
  clear d;dsimp only;have m:=b.cell 0;have l:=b.cell 1;have j:=b.cell 2;have D:=b.frozen 0;have B:=b.frozen 1;have C:=b.frozen 2;simp at m l j;go_wp2_with fail
  refine(W.out _ _).mono ?_;rintro e w' ⟨rfl,rfl⟩;go_wp2_with fail
  refine(A.out _).mono ?_;rintro e w3 ⟨rfl,q⟩;have c:af w3 w.heap.size 74 #[.int .u64 0,.string ⟨#[]⟩,.string ⟨#[]⟩]:=(q.block w.heap.size (by simp;omega)).trans (b.alloc _);have L:ae [] w w3:=(u.alloc _).trans' (ae.ah q (zi _)) (by simp);have m:=c.cell 0;have l:=c.cell 1;have j:=c.cell 2;have D:=c.frozen 0;have B:=c.frozen 1;have C:=c.frozen 2;simp at m l j;go_wp2;refine zp (v:= .tuple #[.agg #[.int .u64 0,.string ByteArray.empty,.string ByteArray.empty],.int .i64 0,.int .i64 t]) (by simp[results,xU,go_sem,nU,dK c]) rfl ?_;refine⟨kW r.out rfl, ?_⟩;exact(L.on fun _=>inferInstance)
 obtain⟨_,rfl,rfl,rfl⟩:z=z/\id=0/\body=ByteArray.empty/\sz=0:=by have:=J x;simpa using this
 have r:=za (by have:=p.out;rw[zl x]at this;exact this);clear p J I x hx;go_enter Zx,Zk
 go_wp2_with fail
 refine(F.out _).mono ?_;rintro e i ⟨rfl,d⟩;have b:af i w.heap.size 74 #[.int .u64 0,.string ⟨#[]⟩,.string ⟨#[]⟩]:=(d.block w.heap.size (by simp)).trans (af.new w _ _);have u:ae [] w i:=((ae.refl [] w).alloc _).trans' (ae.ah d (zi _)) (by simp);have N:w.heap.size<i.heap.size:=by have:=d.size;simp at this;omega
 clear d;dsimp only;have m:=b.cell 0;have l:=b.cell 1;have j:=b.cell 2;have D:=b.frozen 0;have B:=b.frozen 1;have C:=b.frozen 2;simp at m l j;go_wp2;refine zp (v:= .tuple #[.agg #[.int .u64 0,.string ByteArray.empty,.string ByteArray.empty],.int .i64 0,.int .i64 z]) (by simp[results,xU,go_sem,nU,KA b]) rfl ?_;refine⟨kW r.out rfl, ?_⟩;exact(u.on fun _=>inferInstance)
theorem As (most o:Int)(j a u t p:Nat)(s:ByteArray)(w:World)(hs:s.size<=9223372036854775807)(eO: -9223372036854775808<=most)(rK:most<=9223372036854775807)
 (C:tj w j a u t p) (ha:a<=9223372036854775807) (hx:(ai most s).1=0) (J:(aC (ai most s).2.2.1).2.2=0) (O:((aC (ai most s).2.2.1).1:Int)<=o) (ho:u+(aC (ai most s).2.2.1).1<=a) (ht:t+(aC (ai most s).2.2.1).1<=9223372036854775807):
 Calls Tryz.prog 80 #[.int .i64 most,.int .i64 o,.pointer (some ⟨j,0,none⟩),.string s] w fun e w'=>e=BY (aT most o s)/\(∃q,tj w' j a (u+(aC (ai most s).2.2.1).1) (t+(aC (ai most s).2.2.1).1) q)/\ae [j] w w':=by
 have HN:=za (fun w=>j8 most s w hs eO rK);have HX:=za (bI most o s);have bC:=rA most s hx;generalize aT most o s=X at*;generalize ai most s=aa at*;obtain⟨er,id,body,sz⟩:=aa;dsimp only at*;subst hx;obtain⟨d,aM,I⟩:=bC;have E:=fun h=>lD body o h J O
 have HV:=za (fun w C=>IG body o j a u t p w (by omega) C ha J O ho ht);have z:=HX.out;rw[zj (by simp),zj (by rw[J];simp),zj (by omega)]at z;generalize (aC body).1=n at*;generalize bc body o=r at*;obtain⟨R,l⟩:=r;dsimp only at*;generalize (⟨l.toArray⟩:ByteArray)=T at*;have ad:=C.lt;clear J O ho ht HX;rcases eH R with⟨A,r1,r2⟩|⟨A,r1,r2⟩
 ·subst A;rw[zj (by simp)]at z;have L:=za z;clear z E;go_enter Zx,Zk
  go_wp2_with fail
  refine(HN.out _).mono ?_;rintro e c ⟨rfl,d⟩;have b:af c w.heap.size 74 #[.int .u64 0,.string ⟨#[]⟩,.string ⟨#[]⟩]:=(d.block w.heap.size (by simp)).trans (af.new w _ _);have F:ae [] w c:=((ae.refl [] w).alloc _).trans' (ae.ah d (zi _)) (by simp);have cc:w.heap.size<c.heap.size:=by have:=d.size;simp at this;omega
  clear d;dsimp only;have M:=C.only F (by simp);have m:=b.cell 0;have k:=b.cell 1;have i:=b.cell 2;have H:=b.frozen 0;have D:=b.frozen 1;have G:=b.frozen 2;simp at m k i;go_wp2_with fail
  refine(HV.out _ (M.alloc _)).mono ?_;rintro e U ⟨rfl,Z,x⟩;have K:=x.size;simp only[zu]at K;have Y:=(b.alloc _).only x (by simp;omega);have N:=(af.new c 74 #[.int .u64 id,.string ⟨#[]⟩,.string body]).only x (by simp;omega);have S:ae [j] w U:=((F.mono (by simp)).alloc _).trans x;clear m k i H D G;have d0:=N.cell 2;have d1:=N.frozen 2;have W:=N.set 2 (.string T);have y:=Y.dz (p:=⟨c.heap.size,2,none⟩) (by simp;omega) (.string T);have e0:=W.cell 0;have e1:=W.cell 1;have e2:=W.cell 2;have m:=y.cell 0;have k:=y.cell 1;have i:=y.cell 2;have H:=y.frozen 0;have D:=y.frozen 1;have G:=y.frozen 2;simp at m k i d0 e0 e1 e2;go_wp2;refine zp (v:= .tuple #[.agg #[.int .u64 id,.string ByteArray.empty,.string T],.int .i64 sz,.int .i64 0]) (by simp[results,xU,go_sem,nU,dK y]) rfl ?_;refine⟨kW L.out rfl,⟨max p (u+n), ?_⟩, ?_⟩
  ·exact(((Z.dz (p:=⟨c.heap.size,2,none⟩) (by simp;omega) _).dz (by simp;omega) _).dz (by simp;omega) _).dz (by simp;omega) _
  exact(((S.setCell (p:=⟨c.heap.size,2,none⟩) (.inr (by simp;omega)) _).setCell (.inr (by simp)) _).setCell (.inr (by simp)) _).setCell (.inr (by simp)) _
 rw[zl A]at z;have L:=za z;have HT:Hid (∀w,Calls Tryz.prog 125 #[.int .i64 R] w fun e w'=>e= .returned (.int .i64 3)/\Below w.heap.size w w'):=za (fun w=>(qh R w (by have:=E A;omega) (by have:=E A;omega)).mono fun e w' ⟨he,hb⟩=>⟨by rw[he];rcases E A with h|h<;>subst h<;>rfl,hb⟩);clear z E A;go_enter Zx,Zk
 go_wp2_with fail
 refine(HN.out _).mono ?_;rintro e c ⟨rfl,d⟩;have b:af c w.heap.size 74 #[.int .u64 0,.string ⟨#[]⟩,.string ⟨#[]⟩]:=(d.block w.heap.size (by simp)).trans (af.new w _ _);have F:ae [] w c:=((ae.refl [] w).alloc _).trans' (ae.ah d (zi _)) (by simp);have cc:w.heap.size<c.heap.size:=by have:=d.size;simp at this;omega
 clear d;dsimp only;have M:=C.only F (by simp);have m:=b.cell 0;have k:=b.cell 1;have i:=b.cell 2;have H:=b.frozen 0;have D:=b.frozen 1;have G:=b.frozen 2;simp at m k i;go_wp2_with fail
 refine(HV.out _ (M.alloc _)).mono ?_;rintro e U ⟨rfl,Z,x⟩;have K:=x.size;simp only[zu]at K;have Y:=(b.alloc _).only x (by simp;omega);have S:ae [j] w U:=((F.mono (by simp)).alloc _).trans x;clear m k i H D G;go_wp2_with fail
 refine(HT.out _).mono ?_;rintro e w3 ⟨rfl,I⟩;have DU:ae [j] w w3:=S.trans (ae.ah I (zi _)|>.mono (by simp));have ab:tj w3 j a _ _ _:=Z.only (ae.ah I (zi _)) (by simp);have B:af w3 w.heap.size 74 #[.int .u64 0,.string ⟨#[]⟩,.string ⟨#[]⟩]:=(I.block w.heap.size (by omega)).trans Y;have m:=B.cell 0;have k:=B.cell 1;have i:=B.cell 2;have H:=B.frozen 0;have D:=B.frozen 1;have G:=B.frozen 2;simp at m k i;go_wp2;refine zp (v:= .tuple #[.agg #[.int .u64 0,.string ByteArray.empty,.string ByteArray.empty],.int .i64 0,.int .i64 3]) (by simp[results,xU,go_sem,nU,dK B]) rfl ?_;refine⟨kW L.out rfl,⟨max p (u+n), ?_⟩, ?_⟩
 ·exact((ab.dz (by simp;omega) _).dz (by simp;omega) _).dz (by simp;omega) _
 exact(DU.on fun _=>inferInstance)
theorem abG (most c:Int)(s:ByteArray)(j:(ai most s).1=0):
 ((bc (ai most s).2.2.1 c).1=0->(aT most c s).1=0/\(aT most c s).2.1=(ai most s).2.1/\(aT most c s).2.2.1=⟨(bc (ai most s).2.2.1 c).2.toArray⟩/\(aT most c s).2.2.2.1=(ai most s).2.2.2)/\
 ((bc (ai most s).2.2.1 c).1≠0->(aT most c s).1=(if(bc (ai most s).2.2.1 c).1=2 then 3 else(bc (ai most s).2.2.1 c).1)/\(aT most c s).2.1=0/\(aT most c s).2.2.1=ByteArray.empty/\(aT most c s).2.2.2.1=0):=by
 rw[bI,zj (by rw[j];simp)];have k:=oT (ai most s).2.2.1;have l:=fun h=>lD (ai most s).2.2.1 c h
 generalize (ai most s).2.2.1=b at*;have hz:bc b c=if(aC b).2.2≠0 then((aC b).2.2,[])else if c<(aC b).1 then(5,[])else iJ (b.extract (aC b).2.1 b.size) (aC b).1:=rfl
 by_cases d:(aC b).2.2≠0
 ·rw[zl d]at hz;rw[zl d,hz];refine⟨fun h=>absurd h d,fun _=>⟨?_,rfl,rfl,rfl⟩⟩;rcases k d with h|h|h<;>rw[h]<;>rfl
 rw[zj d]at hz;rw[zj d];have d:=zJ.1 d;by_cases i:c<(aC b).1
 ·rw[zl i]at hz;rw[zl i,hz];exact⟨(fun h=>by cases h),(fun _=>⟨rfl,rfl,rfl,rfl⟩)⟩
 rw[zj i];by_cases e:(bc b c).1≠0
 ·rw[zl e];refine⟨fun h=>absurd h e,fun _=>⟨?_,rfl,rfl,rfl⟩⟩;rcases l e d (by omega)with h|h<;>rw[h]<;>rfl
 rw[zj e];exact⟨fun _=>⟨rfl,rfl,rfl,rfl⟩,fun h=>absurd h e⟩
theorem Fx {x:Int×Nat×ByteArray×Nat×Nat}{a:Int}{b:Nat}{c:ByteArray}{d:Nat}(i:x.1=a)(h:x.2.1=b)(j:x.2.2.1=c)(e:x.2.2.2.1=d):Ending.returned (.tuple #[.agg #[.int .u64 b,.string ByteArray.empty,.string c],.int .i64 d,.int .i64 a])=BY x:=by
 subst i;subst h;subst j;subst e;rfl
theorem vy (most i:Int)(s:ByteArray)(w:World)(hs:s.size<=9223372036854775807)(eO: -9223372036854775808<=most)(rK:most<=9223372036854775807):
 Calls Tryz.prog 80 #[.int .i64 most,.int .i64 i,.pointer none,.string s] w fun e w'=>e=BY (aT most i s)/\Below w.heap.size w w':=by
 have S:=za (fun w=>j8 most s w hs eO rK);have Y:=abG most i s;have O:=bI most i s;have YJ:=vx most s;have bC:=rA most s;generalize aT most i s=X at*;generalize ai most s=aa at*;obtain⟨J,id,body,sz⟩:=aa;dsimp only at*;rcases eH J with⟨H,h1,h2⟩|⟨H,h1,h2⟩
 ·subst H;obtain⟨c,o,bS⟩:=bC rfl;obtain⟨gu,W⟩:=Y rfl;clear YJ bC O Y;have HV:=za (fun w=>IF body i w (by omega));have L:(bc body i).1≠0->0<=(bc body i).1/\(bc body i).1<=12:=fun h=>by
   have hz:bc body i=if(aC body).2.2≠0 then((aC body).2.2,[])else if i<(aC body).1 then(5,[])else iJ (body.extract (aC body).2.1 body.size) (aC body).1:=rfl
   by_cases K:(aC body).2.2≠0
   ·rw[hz,zl K];have:=oT body K;simp only;omega
   by_cases g2:i<(aC body).1
   ·rw[hz,zj K,zl g2];simp
   have:=lD body i h (zJ.1 K) (by omega);omega
  generalize bc body i=r at*;obtain⟨M,l⟩:=r;dsimp only at*;generalize (⟨l.toArray⟩:ByteArray)=T at*;rcases eH M with⟨A,r1,r2⟩|⟨A,r1,r2⟩
  ·subst A;obtain⟨q,y,E,I⟩:=gu rfl;have D:=za (Fx q y E I);clear gu W q y E I L;go_enter Zx,Zk
   go_wp2_with fail
   refine(S.out _).mono ?_;rintro e d ⟨rfl,c⟩;have b:af d w.heap.size 74 #[.int .u64 0,.string ⟨#[]⟩,.string ⟨#[]⟩]:=(c.block w.heap.size (by simp)).trans (af.new w _ _);have F:ae [] w d:=((ae.refl [] w).alloc _).trans' (ae.ah c (zi _)) (by simp);have cc:w.heap.size<d.heap.size:=by have:=c.size;simp at this;omega
   clear c;dsimp only;have m:=b.cell 0;have k:=b.cell 1;have j:=b.cell 2;have C:=b.frozen 0;have z:=b.frozen 1;have B:=b.frozen 2;simp at m k j;go_wp2_with fail
   refine(HV.out _).mono ?_;rintro e G ⟨rfl,o⟩;have N:=o.size;simp only[zu]at N;have U:ae [] (d.alloc (.cells #[.int .u64 id,.string ⟨#[]⟩,.string body] 74)) G:=ae.ah o (zi _);have GJ:=(b.alloc _).only U (by simp);have R:=(af.new d 74 #[.int .u64 id,.string ⟨#[]⟩,.string body]).only U (by simp);have Z:ae [] w G:=(F.alloc _).trans U;clear m k j C z B;have d0:=R.cell 2;have d1:=R.frozen 2;have wH:=R.set 2 (.string T);have n:=GJ.dz (p:=⟨d.heap.size,2,none⟩) (by simp;omega) (.string T);have e0:=wH.cell 0;have q:=wH.cell 1;have y:=wH.cell 2;have m:=n.cell 0;have k:=n.cell 1;have j:=n.cell 2;have C:=n.frozen 0;have z:=n.frozen 1;have B:=n.frozen 2;simp at m k j d0 e0 q y;have u:Below w.heap.size w G:=Z.below (zi _) (by simp);go_wp2;refine zp (v:= .tuple #[.agg #[.int .u64 id,.string ByteArray.empty,.string T],.int .i64 sz,.int .i64 0]) (by simp[results,xU,go_sem,nU,dK n]) rfl ?_;exact⟨D.out,(((u.setCell (by simp;omega) _).setCell (by simp) _).setCell (by simp) _).setCell (by simp) _⟩
  obtain⟨q,y,E,I⟩:=W A;have D:=za (Fx q y E I);have HT:=za (fun w=>qh M w (L A).1 (by have:=(L A).2;omega));generalize (if M=2 then(3:Int)else M)=t at*;clear gu W q y E I L A;go_enter Zx,Zk
  go_wp2_with fail
  refine(S.out _).mono ?_;rintro e d ⟨rfl,c⟩;have b:af d w.heap.size 74 #[.int .u64 0,.string ⟨#[]⟩,.string ⟨#[]⟩]:=(c.block w.heap.size (by simp)).trans (af.new w _ _);have F:ae [] w d:=((ae.refl [] w).alloc _).trans' (ae.ah c (zi _)) (by simp);have cc:w.heap.size<d.heap.size:=by have:=c.size;simp at this;omega
  clear c;dsimp only;have m:=b.cell 0;have k:=b.cell 1;have j:=b.cell 2;have C:=b.frozen 0;have z:=b.frozen 1;have B:=b.frozen 2;simp at m k j;go_wp2_with fail
  refine(HV.out _).mono ?_;rintro e G ⟨rfl,o⟩;have N:=o.size;simp only[zu]at N;have GJ:=(b.alloc _).only (ae.ah o (zi _)) (by simp);have Z:ae [] w G:=(F.alloc _).trans (ae.ah o (zi _));clear m k j C z B;go_wp2_with fail
  refine(HT.out _).mono ?_;rintro e w3 ⟨rfl,bS⟩;have DU:ae [] w w3:=Z.trans (ae.ah bS (zi _));have u:Below w.heap.size w w3:=DU.below (zi _) (by simp);have x:af w3 w.heap.size 74 #[.int .u64 0,.string ⟨#[]⟩,.string ⟨#[]⟩]:=(bS.block w.heap.size (by omega)).trans GJ;have m:=x.cell 0;have k:=x.cell 1;have j:=x.cell 2;have C:=x.frozen 0;have z:=x.frozen 1;have B:=x.frozen 2;simp at m k j;go_wp2;refine zp (v:= .tuple #[.agg #[.int .u64 0,.string ByteArray.empty,.string ByteArray.empty],.int .i64 0,.int .i64 t]) (by simp[results,xU,go_sem,nU,dK x]) rfl ?_;exact⟨D.out,((u.setCell (by simp) _).setCell (by simp) _).setCell (by simp) _⟩
 obtain⟨_,rfl,rfl,rfl⟩:J=J/\id=0/\body=ByteArray.empty/\sz=0:=by have:=YJ H;simpa using this
 have D:=za (by have:=O;rw[zl H]at this;exact this);clear O YJ bC H Y;go_enter Zx,Zk
 go_wp2_with fail
 refine(S.out _).mono ?_;rintro e d ⟨rfl,c⟩;have b:af d w.heap.size 74 #[.int .u64 0,.string ⟨#[]⟩,.string ⟨#[]⟩]:=(c.block w.heap.size (by simp)).trans (af.new w _ _);have F:ae [] w d:=((ae.refl [] w).alloc _).trans' (ae.ah c (zi _)) (by simp);have cc:w.heap.size<d.heap.size:=by have:=c.size;simp at this;omega
 clear c;dsimp only;have u:Below w.heap.size w d:=F.below (zi _) (by simp);have m:=b.cell 0;have k:=b.cell 1;have j:=b.cell 2;have C:=b.frozen 0;have z:=b.frozen 1;have B:=b.frozen 2;simp at m k j;go_wp2;refine zp (v:= .tuple #[.agg #[.int .u64 0,.string ByteArray.empty,.string ByteArray.empty],.int .i64 0,.int .i64 J]) (by simp[results,xU,go_sem,nU,KA b]) rfl ?_;refine⟨kW D.out rfl, ?_⟩;first
  |exact(((u.setCell (by simp) _).setCell (by simp) _).setCell (by simp) _).alloc (by have:=u.size;simp;omega) _
  |exact((u.setCell (by simp) _).setCell (by simp) _).setCell (by simp) _
theorem og (id:Nat)(body:ByteArray)(w:World)(hid:id<18446744073709551616)(i:65536<(aO id).length+body.size)(h:body.size<=1000000):
 Calls Tryz.prog 73 #[.int .u64 id,.string body] w fun e w'=>e= .returned (.tuple #[.string ByteArray.empty,.int .i64 5])/\Below w.heap.size w w':=by
 have b:=za (BR id w hid);have j:=bw 10 id (by omega) (by omega);generalize (aO id).length=c at*;have d:(65536:Int)<(c:Int)+body.size:=by omega
 go_enter Tryz.func73,Tryz.ntmps73
 go_wp2_with fail
 refine b.out.mono ?_;rintro e w' ⟨rfl,rfl⟩;go_wp2;go_ret2
 exact⟨rfl,zq _ _⟩
def vz (id:Nat)(body:ByteArray):ByteArray:=if 65536<(aO id).length+(pack body.data.toList).length then ByteArray.empty else⟨(ey id (pack body.data.toList)).toArray⟩
def vA (id:Nat)(body:ByteArray):Int:=if 65536<(aO id).length+(pack body.data.toList).length then 5 else 0
theorem Au (id:Nat)(body:ByteArray)(w:World)(hid:id<18446744073709551616)(d:body.size<=65536):
 Calls Tryz.prog 78 #[.int .u64 id,.string body] w fun e w'=>e= .returned (.tuple #[.string (vz id body),.int .i64 (vA id body)])/\Below w.heap.size w w':=by
 have k:=za (fun w=>WO body w d);have b:=sm body.data.toList (by rw[aa];omega);rw[aa]at b;have hz:(⟨(pack body.data.toList).toArray⟩:ByteArray).size=(pack body.data.toList).length:=bD _;have i:Hid (∀w,Calls Tryz.prog 73 #[.int .u64 id,.string ⟨(pack body.data.toList).toArray⟩] w fun e w'=>e= .returned (.tuple #[.string (vz id body),.int .i64 (vA id body)])/\Below w.heap.size w w'):=za (fun w=>by
  unfold vz vA;by_cases h:65536<(aO id).length+(pack body.data.toList).length
  ·rw[zl h,zl h];exact og id ⟨(pack body.data.toList).toArray⟩ w hid (by rw[hz];exact h) (by rw[hz];omega)
  rw[zj h,zj h];exact vw id ⟨(pack body.data.toList).toArray⟩ w hid (by rw[hz];omega))
 generalize (⟨(pack body.data.toList).toArray⟩:ByteArray)=B at*;generalize vz id body=S at*;generalize vA id body=E at*;clear b hz;go_enter Tryz.func78,Tryz.ntmps78
 go_wp2_with fail
 refine(k.out _).mono ?_;rintro e m ⟨rfl,c⟩;have hz:=c.size;go_wp2_with fail
 refine(i.out _).mono ?_;rintro e l ⟨rfl,j⟩;go_wp2;go_ret2
 exact⟨rfl,c.trans (j.mono hz)⟩
theorem PM :∀(f n:Nat),n<2^f->n<2^CZ f n/\(0<n->2^(CZ f n-1)<=n)
 |0,n,h=>by
  have:n=0:=by simpa using h
  subst this;simp[CZ]
 |f+1,n,h=>by
  by_cases d:n=0
  ·subst d;simp[CZ]
  have k:n/2<2^f:=by rw[Zz]at h;omega
  obtain⟨e,j⟩:=PM f (n/2) k;simp only[CZ,zj d,Nat.add_sub_cancel];refine⟨by rw[Zz];omega,fun _=> ?_⟩;by_cases hz:n/2=0
  ·rw[hz,kU];simp;omega
  have i:=j (by omega);obtain⟨b,c⟩:∃b,CZ f (n/2)=b+1:=by
   cases c:CZ f (n/2)with
   |zero=>rw[c]at e;simp at e;omega
   |succ b=>exact⟨b,rfl⟩
  rw[c]at i⊢;simp only[Nat.add_sub_cancel]at i;rw[Zz];omega
theorem KB :∀(j n:Nat),2^(8*j)<=n->j+1<=(cB n).length
 |0,n,h=>by
  rw[gE (n:=n) (by simp at h;omega)];simp
 |j+1,n,h=>by
  rw[SL]at h;have b:0<2^(8*j):=Nat.pow_pos (by omega);have:=KB j (n/256) (by omega);rw[gE (n:=n) (by omega)];simp;omega
theorem PN (n:Nat)(h:n<18446744073709551616):(jk n ((bl n+7)/8)).reverse=cB n/\(bl n+7)/8<=8:=by
 by_cases m:n=0
 ·subst m;rw[show bl 0=0 from kU 64,dm];exact⟨rfl,by omega⟩
 obtain⟨c,d⟩:=PM 64 n (by simpa using h);have p:=Ks 64 n (by simpa using h) (by omega);change n<2^bl n at c
 change 0<n->2^(bl n-1)<=n at d
 generalize bl n=b at*;have j:n<2^(8*((b+7)/8)):=yf c (yy (by omega) (by omega));have l:=LR _ n j;refine⟨?_,by omega⟩;rw[<-l];have o:(b+7)/8<=(cB n).length:=by
  obtain⟨k,i⟩:∃k,(b+7)/8=k+1:=by
   refine⟨(b+7)/8-1, ?_⟩;have:0<b:=by
    rcases Zv b with e|e
    ·subst e;simp at c;omega
    exact e
   omega
  rw[i];refine KB k n (zP (yy (by omega) ?_) (d (by omega)));omega
 rw[show(b+7)/8-(cB n).length=0 from by omega];rfl
theorem KC (n:Nat)(w:World)(c:n<18446744073709551616):
 Calls Tryz.prog 134 #[.int .u64 n] w fun e w'=>e= .returned (.string ⟨(cB n).toArray⟩)/\Below w.heap.size w w':=by
 obtain⟨h,o⟩:=PN n c;have x:=za (Kt n w c);obtain⟨k,j⟩:∃k,(bl n+7)/8=k:=⟨_,rfl⟩
 rw[j]at h o;have q:=za (fun w=>Fa n k w c o);have r:=za h;have z:Hid ((((bl n:Nat):Int)+7)/8=(k:Int)):=za (by omega);have y:Hid (Int.tdiv (((bl n:Nat):Int)+7) 8=(k:Int)):=za (by rw[Int.tdiv_eq_ediv_of_nonneg (by omega)];omega);have B:=Ks 64 n (by simpa using c) (by omega);generalize bl n=b at*;clear h j;go_enter Tryz.func134,Tryz.ntmps134
 go_wp2_with fail
 refine x.out.mono ?_;rintro e w' ⟨rfl,rfl⟩;go_wp2_with fail
 first|rw[z.out]|rw[y.out]
 refine(q.out _).mono ?_;rintro e s ⟨rfl,i,m⟩;have d:=bd n k;have l:=za (Mq w.heap.size w.heap.size k (jk n k) s (by rw[d];exact i) (by rw[d];omega));rw[d,r.out]at l;have p:=za m;clear i m d;go_wp2_with fail
 refine l.out.mono ?_;rintro e A ⟨rfl,u⟩;go_wp2;go_ret;exact⟨rfl,(p.out.trans u).below⟩
theorem Fy (n:Nat)(w:World)(i:n<18446744073709551616):
 Calls Tryz.prog 186 #[.int .u64 n] w fun e w'=>e= .returned (.agg #[.string ⟨(cB n).toArray⟩,.bool false,.slice none 0 0])/\Below w.heap.size w w':=by
 have m:=za (fun w=>KC n w i);generalize (⟨(cB n).toArray⟩:ByteArray)=T at*;go_enter Tryz.func186,Tryz.ntmps186
 go_wp2_with fail
 refine(m.out _).mono ?_;rintro e c ⟨rfl,b⟩;have l:=b.size;simp only[zu]at l;have y:w.heap.size<c.heap.size:=by omega
 have h:Hid (Below w.heap.size w c):=za (((zq w.heap.size w).alloc (zi _) _).trans (b.mono (by simp)));have o:=za ((af.new w 28 #[.string ⟨#[]⟩,.bool false,.slice none 0 0]).ag b (by simp));clear b;go_wp2_with fail
 refine(oM T c).mono ?_;rintro e j ⟨rfl,d⟩;have q:Hid (Below w.heap.size w j):=za (h.out.trans (d.mono (by omega)));obtain⟨p,r,k,u,s,x⟩:=a8 (o.out.ag d (by omega));clear d;go_wp2;refine zp (v:= .agg #[.string T,.bool false,.slice none 0 0]) (by simp[results,Tryz.results186,go_sem,p,r,k]) rfl ⟨rfl, ?_⟩;exact((q.out.setCell (by simp) _).setCell (by simp) _).setCell (by simp) _
