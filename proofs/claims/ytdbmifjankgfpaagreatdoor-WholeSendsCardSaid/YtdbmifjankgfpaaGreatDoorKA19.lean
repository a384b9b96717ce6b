/- packed.Next without a meter; plain.Put and packed.Put of what is too long. -/
import Derived.Test.YtdbmifjankgfpaaGreatDoorKA17
import Derived.Test.YtdbmifjankgfpaaGreatDoorKA24
set_option linter.all false
set_option maxRecDepth 100000
set_option maxHeartbeats 2000000
open Go.Proofs.Tryz
namespace Go.Proofs.YtdbmifjankgfpaaGreatDoor
open Go.RowKit Go.Maps
variable {w:World}{g d:Nat}{t:TypeId}{i j e:Value}{a:Int}
def xk:=@underlying37
def xN:=@results83
def Zc:=@ntmps83
def Zk:=@func83
theorem Ny (id:Nat)(body:ByteArray):(⟨(aR ((aR id).length+body.size)).toArray⟩++⟨(aR id).toArray⟩++body:ByteArray)=⟨(eI id body.data.toList).toArray⟩:=by
 apply aF;rw[aU,aU,eI,zj,aa];simp
theorem vV (id:Nat)(body:ByteArray)(w:World)(hid:id<18446744073709551616)(m:(aR id).length+body.size<=65536):
 Calls prog 76 #[.int .u64 id,.string body] w fun e w'=>e= .returned (.tuple #[.string ⟨(eI id body.data.toList).toArray⟩,.int .i64 0])/\Below w.heap.size w w':=by
 have i:=za (Cg id w hid);have b:=za (fun w=>vE ((aR id).length+body.size) w (by omega));have l:=za (fun w=>vE id w hid);have k:=za (Ny id body);have h:=bB 10 id (by omega) (by omega);have j:=bB 10 ((aR id).length+body.size) (by omega) (by omega);rw[<-bI]at j;have p:(⟨(aR id).toArray⟩:ByteArray).size<=10:=by rw[bI];exact h
 rw[show(((aR id).length+body.size:Nat):Int)=((aR id).length:Int)+body.size from by omega]at b;generalize (⟨(aR id).toArray⟩:ByteArray)=TI at*;generalize (⟨(aR ((aR id).length+body.size)).toArray⟩:ByteArray)=TL at*;generalize (aR id).length=li at*;go_enter func76,ntmps76
 go_wp2_with fail
 refine i.out.mono ?_;rintro e w' ⟨rfl,rfl⟩;go_wp2_with fail
 refine(b.out _).mono ?_;rintro e n ⟨rfl,c⟩;have hz:=c.size;go_wp2_with fail
 refine(l.out _).mono ?_;rintro e o ⟨rfl,d⟩;go_wp2;go_ret2
 exact⟨by rw[<-k.out];rfl,c.trans (d.mono hz)⟩
theorem Lf (w:World):(zeroValue 37).run prog w= .ok (.int .i64 0) w:=by kernel_rfl
theorem qK (b:Int)(w:World)(u:0<=b)(x:b<=100):
 Calls prog 118 #[.int .i64 b] w fun e w'=>e= .returned (.int .i64 (if b=2 then 3 else b))/\Below w.heap.size w w':=by
 have z:= @run_makeMap prog;obtain⟨r,y,l,k⟩:=(World.ownsMap_made (H:=Unit) w prog 37 (plainElem prog 37)).update (int_keyed xk) underlying191 (by decide) (keyOf_int_mk xk (a:=2) (by decide)) (plainElem_int xk (a:=3) (by decide));have j:Below w.heap.size w r:=((zl w.heap.size w).alloc (zg _) _).grown k (by simp) (by simp);have m:=keyOf_int_mk (P:=prog) xk (a:=b) (WalkArith.wf_i64 (by omega));have n:=za j;have i:=za m;clear j m k;by_cases h:b=2
 ·subst h;have s:Maps.has ((DataW.map []:DataW Unit).put (.int .i64 2) (.lit (.int .i64 3))) (.int .i64 2)=true:=rfl;have o:((DataW.map []:DataW Unit).put (.int .i64 2) (.lit (.int .i64 3))).atKey (.int .i64 2) (.lit (.int .i64 0))= .lit (.int .i64 3):=rfl;have p:=za o;generalize (DataW.map []:DataW Unit).put (.int .i64 2) (.lit (.int .i64 3))=D at*;clear o;go_enter func118,ntmps118
  go_wp2_with (at_lookup;refine Zf _ rfl _ _ 191 rfl 37 37 .i64 (int_keyed xk) underlying191 xk (Lf _) w.heap.size 1 D rfl l _ _ rfl i.out ?_;intro q c d;obtain rfl:=Qp (c.symm.trans p.out);clear c d)
  go_ret;exact⟨rfl,n.out⟩
 have s:Maps.has ((DataW.map []:DataW Unit).put (.int .i64 2) (.lit (.int .i64 3))) (.int .i64 b)=false:=by
  rw[Maps.has_put_other (by intro e;injection e;omega)];rfl
 generalize (DataW.map []:DataW Unit).put (.int .i64 2) (.lit (.int .i64 3))=D at*;rw[zh h];clear h;go_enter func118,ntmps118
 go_wp2_with (at_lookup;refine Zf _ rfl _ _ 191 rfl 37 37 .i64 (int_keyed xk) underlying191 xk (Lf _) w.heap.size 1 D rfl l _ _ rfl i.out ?_;intro q c d;clear c d)
 go_ret;exact⟨rfl,n.out⟩
open Go.RowKit
theorem ae.on {L:List Nat}{a w':World}(h:ae L a w)(f:dX L a w->dX L a w'):ae L a w':=(f ⟨h⟩).out
def Ch (x:Int×Nat×ByteArray×Nat×Nat):Ending:= .returned (.tuple #[.agg #[.int .u64 x.2.1,.string ByteArray.empty,.string x.2.2.1],.int .i64 x.2.2.2.1,.int .i64 x.1])
theorem lx {x:Int×Nat×ByteArray×Nat×Nat}{b:Nat}{c:ByteArray}{m:Nat}{e:Int}(h:x=(a,b,c,d,m))(hd:e=d):Ending.returned (.tuple #[.agg #[.int .u64 b,.string ByteArray.empty,.string c],.int .i64 e,.int .i64 a])=Ch x:=by
 subst h;subst hd;rfl
theorem vW (most:Int)(s:ByteArray)(h:(an most s).1≠0):an most s=((an most s).1,0,ByteArray.empty,0):=by
 rw[eM]at h⊢;split
 ·rfl
 split
 ·rfl
 split
 ·rfl
 rename_i c b d;rw[zh c,zh b,zh d]at h;exact absurd rfl h
theorem rS (most:Int)(s:ByteArray)(h:(an most s).1=0):(an most s).2.2.1.size<=s.size/\(an most s).2.2.2<=s.size/\(an most s).2.1<18446744073709551616:=by
 rw[eM]at h⊢;split at h
 ·rename_i b;exact absurd h b
 split at h
 ·simp at h
 split at h
 ·simp at h
 rename_i b d c
 rw[zh b,zh d,zh c];simp only[ne_eq,zH]at b c;have e:=ib _ c;have hz:=aq s (au most s).2.1 ((au most s).2.1+(au most s).1) (by omega);refine⟨?_,by simp only;omega,e.2.2.2⟩;simp only;rw[ByteArray.size_extract,hz];omega
theorem lU (s:ByteArray)(most:Int)(h:(bd s most).1≠0)(hx:(aE s).2.2=0)(d:((aE s).1:Int)<=most):(bd s most).1=2\/(bd s most).1=3:=by
 unfold bd at h⊢;rw[zh (by rw[hx];simp),zh (by omega)]at h⊢;unfold iW at h⊢;generalize (s.extract (aE s).2.1 s.size)=b at*;generalize b.size+1=f at*;have:∀(f k:Nat) (out:List UInt8),(gX b (aE s).1 f k out).1=0\/(gX b (aE s).1 f k out).1=2\/(gX b (aE s).1 f k out).1=3:=by
  intro f;induction f with
  |zero=>intro k out;right;left;rfl
  |succ f ih=>
   intro k out;unfold gX;split
   ·split
    ·exact ih _ _
    rename_i e i
    simp only;have:∀(size k c:Nat) (out:List UInt8),(cd b size k c out).1=0\/(cd b size k c out).1=2\/(cd b size k c out).1=3:=by
     intro size k c out;unfold cd;split
     ·right;left;rfl
     split
     ·right;right;rfl
     split
     ·split
      ·right;left;rfl
      left;rfl
     left;rfl
    exact this _ _ _ _
   split
   ·right;left;rfl
   left;rfl
 have:=this f 0 [];omega
theorem pw (s:ByteArray)(h:(aE s).2.2≠0):(aE s).2.2=2\/(aE s).2.2=3\/(aE s).2.2=5:=by
 unfold aE at h⊢;split
 ·split
  ·right;right;rfl
  rename_i b c;rw[zi b,zh c]at h;exact absurd b h
 rename_i b
 have:=Mm s 10 0 0 b;simp only;unfold aA;omega
theorem lz (h:af w g t #[i,j,e])(c b d:Value):af (((w.setCell ⟨g,0,none⟩ c).setCell ⟨g,1,none⟩ b).setCell ⟨g,2,none⟩ d) g t #[c,b,d]:=((h.set 0 c).set 1 b).set 2 d
theorem dT (h:af w g t #[i,j,e])(c b d:Value):(((w.setCell ⟨g,0,none⟩ c).setCell ⟨g,1,none⟩ b).setCell ⟨g,2,none⟩ d).cell? ⟨g,0,none⟩=some c/\(((w.setCell ⟨g,0,none⟩ c).setCell ⟨g,1,none⟩ b).setCell ⟨g,2,none⟩ d).cell? ⟨g,1,none⟩=some b/\(((w.setCell ⟨g,0,none⟩ c).setCell ⟨g,1,none⟩ b).setCell ⟨g,2,none⟩ d).cell? ⟨g,2,none⟩=some d:=
 ⟨(lz h c b d).cell 0,(lz h c b d).cell 1,(lz h c b d).cell 2⟩
theorem Lg (h:af w g t #[i,j,e])(o:Obj)(c b d:Value):((((w.setCell ⟨g,0,none⟩ c).setCell ⟨g,1,none⟩ b).setCell ⟨g,2,none⟩ d).alloc o).cell? ⟨g,0,none⟩=some c/\((((w.setCell ⟨g,0,none⟩ c).setCell ⟨g,1,none⟩ b).setCell ⟨g,2,none⟩ d).alloc o).cell? ⟨g,1,none⟩=some b/\((((w.setCell ⟨g,0,none⟩ c).setCell ⟨g,1,none⟩ b).setCell ⟨g,2,none⟩ d).alloc o).cell? ⟨g,2,none⟩=some d:=
 ⟨((lz h c b d).alloc o).cell 0,((lz h c b d).alloc o).cell 1,((lz h c b d).alloc o).cell 2⟩
theorem AT (most o:Int)(m:Nat)(s:ByteArray)(w:World)(hs:s.size<=9223372036854775807)(Y: -9223372036854775808<=most)(pQ:most<=9223372036854775807)
 (hx:(an most s).1≠0\/(aE (an most s).2.2.1).2.2≠0\/o<(aE (an most s).2.2.1).1):
 Calls prog 83 #[.int .i64 most,.int .i64 o,.pointer (some ⟨m,0,none⟩),.string s] w fun e w'=>e=Ch (aV most o s)/\ae [] w w':=by
 have L:=za (fun w=>kt most s w hs Y pQ);have q:=za (bO most o s);have J:=vW most s;have G:=rS most s;generalize aV most o s=X at*;generalize an most s=y at*;obtain⟨E,id,body,sz⟩:=y;dsimp only at*;rcases eP E with⟨r,h1,U⟩|⟨r,h1,U⟩
 ·subst r;obtain⟨c,aJ,p⟩:=G rfl;clear J G;have M:=za (fun m w=>FQ body o m w (by omega));have H:=za (fun m w=>Dc body o m w (by omega));have I:=pw body;generalize aE body=z at*;obtain⟨n,hd,es⟩:=z;dsimp only at*;rcases eP es with⟨g0,g1,g2⟩|⟨g0,g1,g2⟩
  ·subst g0;have N:o<n:=by omega
   have x:=za (by have:=q.out;rw[zh (by simp),zh (by simp),zi N]at this;exact this);have S:=za (fun m w=>H.out m w rfl N);have C:=za (fun w=>qK 5 w (by omega) (by omega));simp only[show¬((5:Int)=2)from by omega,xM]at C;clear M H q I hx;go_enter Zk,Zc
   go_wp2_with fail
   refine(L.out _).mono ?_;rintro e i ⟨rfl,c⟩;have b:af i w.heap.size 84 #[.int .u64 0,.string ⟨#[]⟩,.string ⟨#[]⟩]:=(c.block w.heap.size (by simp)).trans (af.new w _ _);have u:ae [] w i:=((ae.refl [] w).alloc _).trans' (ae.ah c (zg _)) (by simp);have R:w.heap.size<i.heap.size:=by have:=c.size;simp at this;omega
   clear c;dsimp only;have l:=b.cell 0;have j:=b.cell 1;have k:=b.cell 2;have B:=b.frozen 0;have A:=b.frozen 1;have F:=b.frozen 2;simp at l j k;go_wp2_with fail
   refine(S.out _ _).mono ?_;rintro e w' ⟨rfl,rfl⟩;go_wp2_with fail
   refine(C.out _).mono ?_;rintro e w3 ⟨rfl,p⟩;have d:af w3 w.heap.size 84 #[.int .u64 0,.string ⟨#[]⟩,.string ⟨#[]⟩]:=(p.block w.heap.size (by simp;omega)).trans (b.alloc _);have K:ae [] w w3:=(u.alloc _).trans' (ae.ah p (zg _)) (by simp);have l:=d.cell 0;have j:=d.cell 1;have k:=d.cell 2;have B:=d.frozen 0;have A:=d.frozen 1;have F:=d.frozen 2;simp at l j k;go_wp2;refine zk (v:= .tuple #[.agg #[.int .u64 0,.string ByteArray.empty,.string ByteArray.empty],.int .i64 0,.int .i64 5]) (by simp[results,xN,go_sem,ot,dT d]) rfl ?_;refine⟨lx x.out rfl, ?_⟩;exact(K.on fun _=>inferInstance)
  have D:∃t:Int,(if es=5 then(5:Int)else 3)=t/\∀w,Calls prog 118 #[.int .i64 es] w fun e w'=>e= .returned (.int .i64 t)/\Below w.heap.size w w':=by
   refine⟨_,rfl,fun w=>(qK es w (by omega) (by omega)).mono fun e w' ⟨Z,hb⟩=>⟨by rw[Z];rcases I g0 with h|h|h<;>subst h<;>rfl,hb⟩⟩
  obtain⟨t,O,D⟩:=D;have C:=za D;have x:=za (by have:=q.out;rw[zh (by simp),zi g0,O]at this;exact this);have W:=za (fun m w=>M.out m w g0);clear M H q I hx O D g0;go_enter Zk,Zc
  go_wp2_with fail
  refine(L.out _).mono ?_;rintro e i ⟨rfl,c⟩;have b:af i w.heap.size 84 #[.int .u64 0,.string ⟨#[]⟩,.string ⟨#[]⟩]:=(c.block w.heap.size (by simp)).trans (af.new w _ _);have u:ae [] w i:=((ae.refl [] w).alloc _).trans' (ae.ah c (zg _)) (by simp);have R:w.heap.size<i.heap.size:=by have:=c.size;simp at this;omega
  clear c;dsimp only;have l:=b.cell 0;have j:=b.cell 1;have k:=b.cell 2;have B:=b.frozen 0;have A:=b.frozen 1;have F:=b.frozen 2;simp at l j k;go_wp2_with fail
  refine(W.out _ _).mono ?_;rintro e w' ⟨rfl,rfl⟩;go_wp2_with fail
  refine(C.out _).mono ?_;rintro e w3 ⟨rfl,p⟩;have d:af w3 w.heap.size 84 #[.int .u64 0,.string ⟨#[]⟩,.string ⟨#[]⟩]:=(p.block w.heap.size (by simp;omega)).trans (b.alloc _);have K:ae [] w w3:=(u.alloc _).trans' (ae.ah p (zg _)) (by simp);have l:=d.cell 0;have j:=d.cell 1;have k:=d.cell 2;have B:=d.frozen 0;have A:=d.frozen 1;have F:=d.frozen 2;simp at l j k;go_wp2;refine zk (v:= .tuple #[.agg #[.int .u64 0,.string ByteArray.empty,.string ByteArray.empty],.int .i64 0,.int .i64 t]) (by simp[results,xN,go_sem,ot,dT d]) rfl ?_;refine⟨lx x.out rfl, ?_⟩;exact(K.on fun _=>inferInstance)
 obtain⟨_,rfl,rfl,rfl⟩:E=E/\id=0/\body=ByteArray.empty/\sz=0:=by have:=J r;simpa using this
 have x:=za (by have:=q.out;rw[zi r]at this;exact this);clear q J G r hx;go_enter Zk,Zc
 go_wp2_with fail
 refine(L.out _).mono ?_;rintro e i ⟨rfl,c⟩;have b:af i w.heap.size 84 #[.int .u64 0,.string ⟨#[]⟩,.string ⟨#[]⟩]:=(c.block w.heap.size (by simp)).trans (af.new w _ _);have u:ae [] w i:=((ae.refl [] w).alloc _).trans' (ae.ah c (zg _)) (by simp);have R:w.heap.size<i.heap.size:=by have:=c.size;simp at this;omega
 clear c;dsimp only;have l:=b.cell 0;have j:=b.cell 1;have k:=b.cell 2;have B:=b.frozen 0;have A:=b.frozen 1;have F:=b.frozen 2;simp at l j k;go_wp2;refine zk (v:= .tuple #[.agg #[.int .u64 0,.string ByteArray.empty,.string ByteArray.empty],.int .i64 0,.int .i64 E]) (by simp[results,xN,go_sem,ot,Lg b]) rfl ?_;refine⟨lx x.out rfl, ?_⟩;exact(u.on fun _=>inferInstance)
theorem AU (most r:Int)(m a u t p:Nat)(s:ByteArray)(w:World)(hs:s.size<=9223372036854775807)(cX: -9223372036854775808<=most)(pQ:most<=9223372036854775807)
 (C:tH w m a u t p) (ha:a<=9223372036854775807) (hx:(an most s).1=0) (I:(aE (an most s).2.2.1).2.2=0) (R:((aE (an most s).2.2.1).1:Int)<=r) (ho:u+(aE (an most s).2.2.1).1<=a) (ht:t+(aE (an most s).2.2.1).1<=9223372036854775807):
 Calls prog 83 #[.int .i64 most,.int .i64 r,.pointer (some ⟨m,0,none⟩),.string s] w fun e w'=>e=Ch (aV most r s)/\(∃q,tH w' m a (u+(aE (an most s).2.2.1).1) (t+(aE (an most s).2.2.1).1) q)/\ae [m] w w':=by
 have HN:=za (fun w=>kt most s w hs cX pQ);have HX:=za (bO most r s);have bC:=rS most s hx;generalize aV most r s=X at*;generalize an most s=ad at*;obtain⟨er,id,body,sz⟩:=ad;dsimp only at*;subst hx;obtain⟨d,aJ,H⟩:=bC;have F:=fun h=>lU body r h I R
 have Z:=za (fun w C=>I8 body r m a u t p w (by omega) C ha I R ho ht);have y:=HX.out;rw[zh (by simp),zh (by rw[I];simp),zh (by omega)]at y;generalize (aE body).1=n at*;generalize bd body r=aa at*;obtain⟨S,l⟩:=aa;dsimp only at*;generalize (⟨l.toArray⟩:ByteArray)=T at*;have ag:=C.lt;clear I R ho ht HX;rcases eP S with⟨x,r1,r2⟩|⟨x,r1,r2⟩
 ·subst x;rw[zh (by simp)]at y;have U:=za y;clear y F;go_enter Zk,Zc
  go_wp2_with fail
  refine(HN.out _).mono ?_;rintro e c ⟨rfl,d⟩;have b:af c w.heap.size 84 #[.int .u64 0,.string ⟨#[]⟩,.string ⟨#[]⟩]:=(d.block w.heap.size (by simp)).trans (af.new w _ _);have E:ae [] w c:=((ae.refl [] w).alloc _).trans' (ae.ah d (zg _)) (by simp);have cc:w.heap.size<c.heap.size:=by have:=d.size;simp at this;omega
  clear d;dsimp only;have M:=C.only E (by simp);have k:=b.cell 0;have i:=b.cell 1;have j:=b.cell 2;have D:=b.frozen 0;have B:=b.frozen 1;have G:=b.frozen 2;simp at k i j;go_wp2_with fail
  refine(Z.out _ (M.alloc _)).mono ?_;rintro e N ⟨rfl,J,o⟩;have W:=o.size;simp only[zp]at W;have L:=(b.alloc _).only o (by simp;omega);have Y:=(af.new c 84 #[.int .u64 id,.string ⟨#[]⟩,.string body]).only o (by simp;omega);have O:ae [m] w N:=((E.mono (by simp)).alloc _).trans o;clear k i j D B G;have d0:=Y.cell 2;have d1:=Y.frozen 2;have K:=Y.set 2 (.string T);have z:=L.dS (p:=⟨c.heap.size,2,none⟩) (by simp;omega) (.string T);have e0:=K.cell 0;have e1:=K.cell 1;have e2:=K.cell 2;have k:=z.cell 0;have i:=z.cell 1;have j:=z.cell 2;have D:=z.frozen 0;have B:=z.frozen 1;have G:=z.frozen 2;simp at k i j d0 e0 e1 e2;go_wp2;refine zk (v:= .tuple #[.agg #[.int .u64 id,.string ByteArray.empty,.string T],.int .i64 sz,.int .i64 0]) (by simp[results,xN,go_sem,ot,dT z]) rfl ?_;refine⟨lx U.out rfl,⟨max p (u+n), ?_⟩, ?_⟩
  ·exact(((J.dS (p:=⟨c.heap.size,2,none⟩) (by simp;omega) _).dS (by simp;omega) _).dS (by simp;omega) _).dS (by simp;omega) _
  exact(((O.setCell (p:=⟨c.heap.size,2,none⟩) (.inr (by simp;omega)) _).setCell (.inr (by simp)) _).setCell (.inr (by simp)) _).setCell (.inr (by simp)) _
 rw[zi x]at y;have U:=za y;have HT:Hid (∀w,Calls prog 118 #[.int .i64 S] w fun e w'=>e= .returned (.int .i64 3)/\Below w.heap.size w w'):=za (fun w=>(qK S w (by have:=F x;omega) (by have:=F x;omega)).mono fun e w' ⟨he,hb⟩=>⟨by rw[he];rcases F x with h|h<;>subst h<;>rfl,hb⟩);clear y F x;go_enter Zk,Zc
 go_wp2_with fail
 refine(HN.out _).mono ?_;rintro e c ⟨rfl,d⟩;have b:af c w.heap.size 84 #[.int .u64 0,.string ⟨#[]⟩,.string ⟨#[]⟩]:=(d.block w.heap.size (by simp)).trans (af.new w _ _);have E:ae [] w c:=((ae.refl [] w).alloc _).trans' (ae.ah d (zg _)) (by simp);have cc:w.heap.size<c.heap.size:=by have:=d.size;simp at this;omega
 clear d;dsimp only;have M:=C.only E (by simp);have k:=b.cell 0;have i:=b.cell 1;have j:=b.cell 2;have D:=b.frozen 0;have B:=b.frozen 1;have G:=b.frozen 2;simp at k i j;go_wp2_with fail
 refine(Z.out _ (M.alloc _)).mono ?_;rintro e N ⟨rfl,J,o⟩;have W:=o.size;simp only[zp]at W;have L:=(b.alloc _).only o (by simp;omega);have O:ae [m] w N:=((E.mono (by simp)).alloc _).trans o;clear k i j D B G;go_wp2_with fail
 refine(HT.out _).mono ?_;rintro e w3 ⟨rfl,H⟩;have Ee:ae [m] w w3:=O.trans (ae.ah H (zg _)|>.mono (by simp));have ab:tH w3 m a _ _ _:=J.only (ae.ah H (zg _)) (by simp);have A:af w3 w.heap.size 84 #[.int .u64 0,.string ⟨#[]⟩,.string ⟨#[]⟩]:=(H.block w.heap.size (by omega)).trans L;have k:=A.cell 0;have i:=A.cell 1;have j:=A.cell 2;have D:=A.frozen 0;have B:=A.frozen 1;have G:=A.frozen 2;simp at k i j;go_wp2;refine zk (v:= .tuple #[.agg #[.int .u64 0,.string ByteArray.empty,.string ByteArray.empty],.int .i64 0,.int .i64 3]) (by simp[results,xN,go_sem,ot,dT A]) rfl ?_;refine⟨lx U.out rfl,⟨max p (u+n), ?_⟩, ?_⟩
 ·exact((ab.dS (by simp;omega) _).dS (by simp;omega) _).dS (by simp;omega) _
 exact(Ee.on fun _=>inferInstance)
theorem acm (most c:Int)(s:ByteArray)(j:(an most s).1=0):
 ((bd (an most s).2.2.1 c).1=0->(aV most c s).1=0/\(aV most c s).2.1=(an most s).2.1/\(aV most c s).2.2.1=⟨(bd (an most s).2.2.1 c).2.toArray⟩/\(aV most c s).2.2.2.1=(an most s).2.2.2)/\
 ((bd (an most s).2.2.1 c).1≠0->(aV most c s).1=(if(bd (an most s).2.2.1 c).1=2 then 3 else(bd (an most s).2.2.1 c).1)/\(aV most c s).2.1=0/\(aV most c s).2.2.1=ByteArray.empty/\(aV most c s).2.2.2.1=0):=by
 rw[bO,zh (by rw[j];simp)];have l:=pw (an most s).2.2.1;have k:=fun h=>lU (an most s).2.2.1 c h
 generalize (an most s).2.2.1=b at*;have hz:bd b c=if(aE b).2.2≠0 then((aE b).2.2,[])else if c<(aE b).1 then(5,[])else iW (b.extract (aE b).2.1 b.size) (aE b).1:=rfl
 by_cases d:(aE b).2.2≠0
 ·rw[zi d]at hz;rw[zi d,hz];refine⟨fun h=>absurd h d,fun _=>⟨?_,rfl,rfl,rfl⟩⟩;rcases l d with h|h|h<;>rw[h]<;>rfl
 rw[zh d]at hz;rw[zh d];have d:=zH.1 d;by_cases i:c<(aE b).1
 ·rw[zi i]at hz;rw[zi i,hz];exact⟨(fun h=>by cases h),(fun _=>⟨rfl,rfl,rfl,rfl⟩)⟩
 rw[zh i];by_cases e:(bd b c).1≠0
 ·rw[zi e];refine⟨fun h=>absurd h e,fun _=>⟨?_,rfl,rfl,rfl⟩⟩;rcases k e d (by omega)with h|h<;>rw[h]<;>rfl
 rw[zh e];exact⟨fun _=>⟨rfl,rfl,rfl,rfl⟩,fun h=>absurd h e⟩
theorem F1 {x:Int×Nat×ByteArray×Nat×Nat}{b:Nat}{c:ByteArray}(i:x.1=a)(h:x.2.1=b)(j:x.2.2.1=c)(e:x.2.2.2.1=d):Ending.returned (.tuple #[.agg #[.int .u64 b,.string ByteArray.empty,.string c],.int .i64 d,.int .i64 a])=Ch x:=by
 subst i;subst h;subst j;subst e;rfl
theorem vX (most i:Int)(s:ByteArray)(w:World)(hs:s.size<=9223372036854775807)(cX: -9223372036854775808<=most)(pQ:most<=9223372036854775807):
 Calls prog 83 #[.int .i64 most,.int .i64 i,.pointer none,.string s] w fun e w'=>e=Ch (aV most i s)/\Below w.heap.size w w':=by
 have HN:=za (fun w=>kt most s w hs cX pQ);have aa:=acm most i s;have U:=bO most i s;have W:=vW most s;have M:=rS most s;generalize aV most i s=X at*;generalize an most s=ad at*;obtain⟨I,id,body,sz⟩:=ad;dsimp only at*;rcases eP I with⟨C,h1,h2⟩|⟨C,h1,h2⟩
 ·subst C;obtain⟨c,n,O⟩:=M rfl;obtain⟨S,Y⟩:=aa rfl;clear W M U aa;have HV:=za (fun w=>I7 body i w (by omega));have L:(bd body i).1≠0->0<=(bd body i).1/\(bd body i).1<=12:=fun h=>by
   have hz:bd body i=if(aE body).2.2≠0 then((aE body).2.2,[])else if i<(aE body).1 then(5,[])else iW (body.extract (aE body).2.1 body.size) (aE body).1:=rfl
   by_cases J:(aE body).2.2≠0
   ·rw[hz,zi J];have:=pw body J;simp only;omega
   by_cases g2:i<(aE body).1
   ·rw[hz,zh J,zi g2];simp
   have:=lU body i h (zH.1 J) (by omega);omega
  generalize bd body i=ab at*;obtain⟨K,l⟩:=ab;dsimp only at*;generalize (⟨l.toArray⟩:ByteArray)=T at*;rcases eP K with⟨y,r1,r2⟩|⟨y,r1,r2⟩
  ·subst y;obtain⟨o,r,D,G⟩:=S rfl;have H:=za (F1 o r D G);clear S Y o r D G L;go_enter Zk,Zc
   go_wp2_with fail
   refine(HN.out _).mono ?_;rintro e d ⟨rfl,c⟩;have b:af d w.heap.size 84 #[.int .u64 0,.string ⟨#[]⟩,.string ⟨#[]⟩]:=(c.block w.heap.size (by simp)).trans (af.new w _ _);have F:ae [] w d:=((ae.refl [] w).alloc _).trans' (ae.ah c (zg _)) (by simp);have cc:w.heap.size<d.heap.size:=by have:=c.size;simp at this;omega
   clear c;dsimp only;have m:=b.cell 0;have j:=b.cell 1;have k:=b.cell 2;have A:=b.frozen 0;have z:=b.frozen 1;have B:=b.frozen 2;simp at m j k;go_wp2_with fail
   refine(HV.out _).mono ?_;rintro e E ⟨rfl,n⟩;have cE:=n.size;simp only[zp]at cE;have Z:ae [] (d.alloc (.cells #[.int .u64 id,.string ⟨#[]⟩,.string body] 84)) E:=ae.ah n (zg _);have R:=(b.alloc _).only Z (by simp);have J6:=(af.new d 84 #[.int .u64 id,.string ⟨#[]⟩,.string body]).only Z (by simp);have J5:ae [] w E:=(F.alloc _).trans Z;clear m j k A z B;have d0:=J6.cell 2;have d1:=J6.frozen 2;have N:=J6.set 2 (.string T);have q:=R.dS (p:=⟨d.heap.size,2,none⟩) (by simp;omega) (.string T);have e0:=N.cell 0;have o:=N.cell 1;have r:=N.cell 2;have m:=q.cell 0;have j:=q.cell 1;have k:=q.cell 2;have A:=q.frozen 0;have z:=q.frozen 1;have B:=q.frozen 2;simp at m j k d0 e0 o r;have u:Below w.heap.size w E:=J5.below (zg _) (by simp);go_wp2;refine zk (v:= .tuple #[.agg #[.int .u64 id,.string ByteArray.empty,.string T],.int .i64 sz,.int .i64 0]) (by simp[results,xN,go_sem,ot,dT q]) rfl ?_;exact⟨H.out,(((u.setCell (by simp;omega) _).setCell (by simp) _).setCell (by simp) _).setCell (by simp) _⟩
  obtain⟨o,r,D,G⟩:=Y y;have H:=za (F1 o r D G);have HT:=za (fun w=>qK K w (L y).1 (by have:=(L y).2;omega));generalize (if K=2 then(3:Int)else K)=t at*;clear S Y o r D G L y;go_enter Zk,Zc
  go_wp2_with fail
  refine(HN.out _).mono ?_;rintro e d ⟨rfl,c⟩;have b:af d w.heap.size 84 #[.int .u64 0,.string ⟨#[]⟩,.string ⟨#[]⟩]:=(c.block w.heap.size (by simp)).trans (af.new w _ _);have F:ae [] w d:=((ae.refl [] w).alloc _).trans' (ae.ah c (zg _)) (by simp);have cc:w.heap.size<d.heap.size:=by have:=c.size;simp at this;omega
  clear c;dsimp only;have m:=b.cell 0;have j:=b.cell 1;have k:=b.cell 2;have A:=b.frozen 0;have z:=b.frozen 1;have B:=b.frozen 2;simp at m j k;go_wp2_with fail
  refine(HV.out _).mono ?_;rintro e E ⟨rfl,n⟩;have cE:=n.size;simp only[zp]at cE;have R:=(b.alloc _).only (ae.ah n (zg _)) (by simp);have J5:ae [] w E:=(F.alloc _).trans (ae.ah n (zg _));clear m j k A z B;go_wp2_with fail
  refine(HT.out _).mono ?_;rintro e w3 ⟨rfl,O⟩;have Ee:ae [] w w3:=J5.trans (ae.ah O (zg _));have u:Below w.heap.size w w3:=Ee.below (zg _) (by simp);have x:af w3 w.heap.size 84 #[.int .u64 0,.string ⟨#[]⟩,.string ⟨#[]⟩]:=(O.block w.heap.size (by omega)).trans R;have m:=x.cell 0;have j:=x.cell 1;have k:=x.cell 2;have A:=x.frozen 0;have z:=x.frozen 1;have B:=x.frozen 2;simp at m j k;go_wp2;refine zk (v:= .tuple #[.agg #[.int .u64 0,.string ByteArray.empty,.string ByteArray.empty],.int .i64 0,.int .i64 t]) (by simp[results,xN,go_sem,ot,dT x]) rfl ?_;exact⟨H.out,((u.setCell (by simp) _).setCell (by simp) _).setCell (by simp) _⟩
 obtain⟨_,rfl,rfl,rfl⟩:I=I/\id=0/\body=ByteArray.empty/\sz=0:=by have:=W C;simpa using this
 have H:=za (by have:=U;rw[zi C]at this;exact this);clear U W M C aa;go_enter Zk,Zc
 go_wp2_with fail
 refine(HN.out _).mono ?_;rintro e d ⟨rfl,c⟩;have b:af d w.heap.size 84 #[.int .u64 0,.string ⟨#[]⟩,.string ⟨#[]⟩]:=(c.block w.heap.size (by simp)).trans (af.new w _ _);have F:ae [] w d:=((ae.refl [] w).alloc _).trans' (ae.ah c (zg _)) (by simp);have cc:w.heap.size<d.heap.size:=by have:=c.size;simp at this;omega
 clear c;dsimp only;have u:Below w.heap.size w d:=F.below (zg _) (by simp);have m:=b.cell 0;have j:=b.cell 1;have k:=b.cell 2;have A:=b.frozen 0;have z:=b.frozen 1;have B:=b.frozen 2;simp at m j k;go_wp2;refine zk (v:= .tuple #[.agg #[.int .u64 0,.string ByteArray.empty,.string ByteArray.empty],.int .i64 0,.int .i64 I]) (by simp[results,xN,go_sem,ot,Lg b]) rfl ?_;refine⟨lx H.out rfl, ?_⟩;first
  |exact(((u.setCell (by simp) _).setCell (by simp) _).setCell (by simp) _).alloc (by have:=u.size;simp;omega) _
  |exact((u.setCell (by simp) _).setCell (by simp) _).setCell (by simp) _
theorem oN (id:Nat)(body:ByteArray)(w:World)(hid:id<18446744073709551616)(h:65536<(aR id).length+body.size)(j:body.size<=1000000):
 Calls prog 76 #[.int .u64 id,.string body] w fun e w'=>e= .returned (.tuple #[.string ByteArray.empty,.int .i64 5])/\Below w.heap.size w w':=by
 have b:=za (Cg id w hid);have d:=bB 10 id (by omega) (by omega);generalize (aR id).length=c at*;have i:(65536:Int)<(c:Int)+body.size:=by omega
 go_enter func76,ntmps76
 go_wp2_with fail
 refine b.out.mono ?_;rintro e w' ⟨rfl,rfl⟩;go_wp2;go_ret2
 exact⟨rfl,zl _ _⟩
def vY (id:Nat)(body:ByteArray):ByteArray:=if 65536<(aR id).length+(pack body.data.toList).length then ByteArray.empty else⟨(eI id (pack body.data.toList)).toArray⟩
def vZ (id:Nat)(body:ByteArray):Int:=if 65536<(aR id).length+(pack body.data.toList).length then 5 else 0
theorem AV (id:Nat)(body:ByteArray)(w:World)(hid:id<18446744073709551616)(j:body.size<=65536):
 Calls prog 81 #[.int .u64 id,.string body] w fun e w'=>e= .returned (.tuple #[.string (vY id body),.int .i64 (vZ id body)])/\Below w.heap.size w w':=by
 have d:=za (fun w=>Xu body w j);have c:=sK body.data.toList (by rw[aa];omega);rw[aa]at c;have hz:(⟨(pack body.data.toList).toArray⟩:ByteArray).size=(pack body.data.toList).length:=bI _;have k:Hid (∀w,Calls prog 76 #[.int .u64 id,.string ⟨(pack body.data.toList).toArray⟩] w fun e w'=>e= .returned (.tuple #[.string (vY id body),.int .i64 (vZ id body)])/\Below w.heap.size w w'):=za (fun w=>by
  unfold vY vZ;by_cases h:65536<(aR id).length+(pack body.data.toList).length
  ·rw[zi h,zi h];exact oN id ⟨(pack body.data.toList).toArray⟩ w hid (by rw[hz];exact h) (by rw[hz];omega)
  rw[zh h,zh h];exact vV id ⟨(pack body.data.toList).toArray⟩ w hid (by rw[hz];omega))
 generalize (⟨(pack body.data.toList).toArray⟩:ByteArray)=B at*;generalize vY id body=S at*;generalize vZ id body=E at*;clear c hz;go_enter func81,ntmps81
 go_wp2_with fail
 refine(d.out _).mono ?_;rintro e l ⟨rfl,b⟩;have hz:=b.size;go_wp2_with fail
 refine(k.out _).mono ?_;rintro e m ⟨rfl,i⟩;go_wp2;go_ret2
 exact⟨rfl,b.trans (i.mono hz)⟩
theorem QM :∀(f n:Nat),n<2^f->n<2^Dl f n/\(0<n->2^(Dl f n-1)<=n)
 |0,n,h=>by
  have:n=0:=by simpa using h
  subst this;simp[Dl]
 |f+1,n,h=>by
  by_cases e:n=0
  ·subst e;simp[Dl]
  have j:n/2<2^f:=by rw[Zm]at h;omega
  obtain⟨d,k⟩:=QM f (n/2) j;simp only[Dl,zh e,Nat.add_sub_cancel];refine⟨by rw[Zm];omega,fun _=> ?_⟩;by_cases hz:n/2=0
  ·rw[hz,lu];simp;omega
  have i:=k (by omega);obtain⟨b,c⟩:∃b,Dl f (n/2)=b+1:=by
   cases c:Dl f (n/2)with
   |zero=>rw[c]at d;simp at d;omega
   |succ b=>exact⟨b,rfl⟩
  rw[c]at i⊢;simp only[Nat.add_sub_cancel]at i;rw[Zm];omega
theorem Lh :∀(j n:Nat),2^(8*j)<=n->j+1<=(cN n).length
 |0,n,h=>by
  rw[gM (n:=n) (by simp at h;omega)];simp
 |j+1,n,h=>by
  rw[Tz]at h;have b:0<2^(8*j):=Nat.pow_pos (by omega);have:=Lh j (n/256) (by omega);rw[gM (n:=n) (by omega)];simp;omega
theorem QN (n:Nat)(h:n<18446744073709551616):(jw n ((bl n+7)/8)).reverse=cN n/\(bl n+7)/8<=8:=by
 by_cases i:n=0
 ·subst i;rw[show bl 0=0 from lu 64,dy];exact⟨rfl,by omega⟩
 obtain⟨c,d⟩:=QM 64 n (by simpa using h);have o:=Ld 64 n (by simpa using h) (by omega);change n<2^bl n at c
 change 0<n->2^(bl n-1)<=n at d
 generalize bl n=b at*;have m:n<2^(8*((b+7)/8)):=zU c (yp (by omega) (by omega));have l:=MG _ n m;refine⟨?_,by omega⟩;rw[<-l];have p:(b+7)/8<=(cN n).length:=by
  obtain⟨k,j⟩:∃k,(b+7)/8=k+1:=by
   refine⟨(b+7)/8-1, ?_⟩;have:0<b:=by
    rcases Zi b with e|e
    ·subst e;simp at c;omega
    exact e
   omega
  rw[j];refine Lh k n (zK (yp (by omega) ?_) (d (by omega)));omega
 rw[show(b+7)/8-(cN n).length=0 from by omega];rfl
theorem Li (n:Nat)(w:World)(c:n<18446744073709551616):
 Calls prog 174 #[.int .u64 n] w fun e w'=>e= .returned (.string ⟨(cN n).toArray⟩)/\Below w.heap.size w w':=by
 obtain⟨h,j⟩:=QN n c;have q:=za (Le n w c);obtain⟨k,l⟩:∃k,(bl n+7)/8=k:=⟨_,rfl⟩
 rw[l]at h j;have u:=za (fun w=>FC n k w c j);have y:=za h;have r:Hid ((((bl n:Nat):Int)+7)/8=(k:Int)):=za (by omega);have x:Hid (Int.tdiv (((bl n:Nat):Int)+7) 8=(k:Int)):=za (by rw[Int.tdiv_eq_ediv_of_nonneg (by omega)];omega);have A:=Ld 64 n (by simpa using c) (by omega);generalize bl n=b at*;clear h l;go_enter func174,ntmps174
 go_wp2_with fail
 refine q.out.mono ?_;rintro e w' ⟨rfl,rfl⟩;go_wp2_with fail
 first|rw[r.out]|rw[x.out]
 refine(u.out _).mono ?_;rintro e z ⟨rfl,i,m⟩;have d:=bg n k;have o:=za (Nh w.heap.size w.heap.size k (jw n k) z (by rw[d];exact i) (by rw[d];omega));rw[d,y.out]at o;have p:=za m;clear i m d;go_wp2_with fail
 refine o.out.mono ?_;rintro e B ⟨rfl,s⟩;go_wp2;go_ret;exact⟨rfl,(p.out.trans s).below⟩
theorem F2 (n:Nat)(w:World)(i:n<18446744073709551616):
 Calls prog 218 #[.int .u64 n] w fun e w'=>e= .returned (.agg #[.string ⟨(cN n).toArray⟩,.bool false,.slice none 0 0])/\Below w.heap.size w w':=by
 have j:=za (fun w=>Li n w i);generalize (⟨(cN n).toArray⟩:ByteArray)=T at*;go_enter func218,ntmps218
 go_wp2_with fail
 refine(j.out _).mono ?_;rintro e d ⟨rfl,b⟩;have l:=b.size;simp only[zp]at l;have u:w.heap.size<d.heap.size:=by omega
 have p:Hid (Below w.heap.size w d):=za (((zl w.heap.size w).alloc (zg _) _).trans (b.mono (by simp)));have m:=za ((af.new w 28 #[.string ⟨#[]⟩,.bool false,.slice none 0 0]).ag b (by simp));clear b;go_wp2_with fail
 refine(pf T d).mono ?_;rintro e q ⟨rfl,c⟩;have k:Hid (Below w.heap.size w q):=za (p.out.trans (c.mono (by omega)));obtain⟨r,o,h,y,x,s⟩:=aZ (m.out.ag c (by omega));clear c;go_wp2;refine zk (v:= .agg #[.string T,.bool false,.slice none 0 0]) (by simp[results,results218,go_sem,r,o,h]) rfl ⟨rfl, ?_⟩;exact((k.out.setCell (by simp) _).setCell (by simp) _).setCell (by simp) _
