/- packed.Next without a meter; plain.Put and packed.Put of what is too long. -/
import Derived.Test.YtdbmifjankgfpaaGreatDoorKA15
import Derived.Test.YtdbmifjankgfpaaGreatDoorKA16
set_option linter.all false
set_option maxRecDepth 100000
set_option maxHeartbeats 2000000
namespace Go.Proofs.YtdbmifjankgfpaaGreatDoor
open Tryz
open Go.RowKit Go.Maps
def xh:=@underlying37
def xI:=@results83
def xZ:=@ntmps83
def Zm:=@func83
theorem Nh (id:Nat)(body:ByteArray):(⟨(aQ ((aQ id).length+body.size)).toArray⟩++⟨(aQ id).toArray⟩++body:ByteArray)=⟨(eD id body.data.toList).toArray⟩:=by
 apply aB;rw[aP,aP,eD,zj,aa];simp
theorem we (id:Nat)(body:ByteArray)(w:World)(hid:id<18446744073709551616)(m:(aQ id).length+body.size<=65536):
 Calls prog 76 #[.int .u64 id,.string body] w fun e w'=>e= .returned (.tuple #[.string ⟨(eD id body.data.toList).toArray⟩,.int .i64 0])/\Below w.heap.size w w':=by
 have h:=za (Cu id w hid);have b:=za (fun w=>vJ ((aQ id).length+body.size) w (by omega));have l:=za (fun w=>vJ id w hid);have d:=za (Nh id body);have k:=bo 10 id (by omega) (by omega);have i:=bo 10 ((aQ id).length+body.size) (by omega) (by omega);rw[<-bB]at i;have p:(⟨(aQ id).toArray⟩:ByteArray).size<=10:=by rw[bB];exact k
 rw[show(((aQ id).length+body.size:Nat):Int)=((aQ id).length:Int)+body.size from by omega]at b;generalize (⟨(aQ id).toArray⟩:ByteArray)=TI at*;generalize (⟨(aQ ((aQ id).length+body.size)).toArray⟩:ByteArray)=TL at*;generalize (aQ id).length=li at*;go_enter func76,ntmps76
 go_wp2_with fail
 refine h.out.mono ?_;rintro e w' ⟨rfl,rfl⟩;go_wp2_with fail
 refine(b.out _).mono ?_;rintro e o ⟨rfl,c⟩;have hz:=c.size;go_wp2_with fail
 refine(l.out _).mono ?_;rintro e n ⟨rfl,j⟩;go_wp2;go_ret2
 exact⟨by rw[<-d.out];rfl,c.trans (j.mono hz)⟩
theorem KZ (w:World):(zeroValue 37).run prog w= .ok (.int .i64 0) w:=by kernel_rfl
theorem qL (b:Int)(w:World)(z:0<=b)(u:b<=100):
 Calls prog 118 #[.int .i64 b] w fun e w'=>e= .returned (.int .i64 (if b=2 then 3 else b))/\Below w.heap.size w w':=by
 have y:= @run_makeMap prog;obtain⟨q,x,j,k⟩:=(World.ownsMap_made (H:=Unit) w prog 37 (plainElem prog 37)).update (int_keyed xh) underlying191 (by decide) (keyOf_int_mk xh (a:=2) (by decide)) (plainElem_int xh (a:=3) (by decide));have i:Below w.heap.size w q:=((zl w.heap.size w).alloc (zd _) _).grown k (by simp) (by simp);have o:=keyOf_int_mk (P:=prog) xh (a:=b) (WalkArith.wf_i64 (by omega));have n:=za i;have m:=za o;clear i o k;by_cases h:b=2
 ·subst h;have r:Maps.has ((DataW.map []:DataW Unit).put (.int .i64 2) (.lit (.int .i64 3))) (.int .i64 2)=true:=rfl;have l:((DataW.map []:DataW Unit).put (.int .i64 2) (.lit (.int .i64 3))).atKey (.int .i64 2) (.lit (.int .i64 0))= .lit (.int .i64 3):=rfl;have p:=za l;generalize (DataW.map []:DataW Unit).put (.int .i64 2) (.lit (.int .i64 3))=D at*;clear l;go_enter func118,ntmps118
  go_wp2_with (at_lookup;refine Zd _ rfl _ _ 191 rfl 37 37 .i64 (int_keyed xh) underlying191 xh (KZ _) w.heap.size 1 D rfl j _ _ rfl m.out ?_;intro s c d;obtain rfl:=Qa (c.symm.trans p.out);clear c d)
  go_ret;exact⟨rfl,n.out⟩
 have r:Maps.has ((DataW.map []:DataW Unit).put (.int .i64 2) (.lit (.int .i64 3))) (.int .i64 b)=false:=by
  rw[Maps.has_put_other (by intro e;injection e;omega)];rfl
 generalize (DataW.map []:DataW Unit).put (.int .i64 2) (.lit (.int .i64 3))=D at*;rw[zh h];clear h;go_enter func118,ntmps118
 go_wp2_with (at_lookup;refine Zd _ rfl _ _ 191 rfl 37 37 .i64 (int_keyed xh) underlying191 xh (KZ _) w.heap.size 1 D rfl j _ _ rfl m.out ?_;intro s c d;clear c d)
 go_ret;exact⟨rfl,n.out⟩
open Go.RowKit
theorem ae.on {L:List Nat}{a w w':World}(h:ae L a w)(f:dS L a w->dS L a w'):ae L a w':=(f ⟨h⟩).out
def Cv (x:Int×Nat×ByteArray×Nat×Nat):Ending:= .returned (.tuple #[.agg #[.int .u64 x.2.1,.string ByteArray.empty,.string x.2.2.1],.int .i64 x.2.2.2.1,.int .i64 x.1])
theorem lA {x:Int×Nat×ByteArray×Nat×Nat}{a:Int}{b:Nat}{c:ByteArray}{d m:Nat}{e:Int}(h:x=(a,b,c,d,m))(hd:e=d):Ending.returned (.tuple #[.agg #[.int .u64 b,.string ByteArray.empty,.string c],.int .i64 e,.int .i64 a])=Cv x:=by
 subst h;subst hd;rfl
theorem wg (most:Int)(s:ByteArray)(h:(ai most s).1≠0):ai most s=((ai most s).1,0,ByteArray.empty,0):=by
 rw[dT]at h⊢;split
 ·rfl
 split
 ·rfl
 split
 ·rfl
 rename_i c b d;rw[zh c,zh b,zh d]at h;exact absurd rfl h
theorem rW (most:Int)(s:ByteArray)(h:(ai most s).1=0):(ai most s).2.2.1.size<=s.size/\(ai most s).2.2.2<=s.size/\(ai most s).2.1<18446744073709551616:=by
 rw[dT]at h⊢;split at h
 ·rename_i b;exact absurd h b
 split at h
 ·simp at h
 split at h
 ·simp at h
 rename_i b e c
 rw[zh b,zh e,zh c];simp only[ne_eq,zC]at b c;have d:=fZ _ c;have hz:=aj s (ar most s).2.1 ((ar most s).2.1+(ar most s).1) (by omega);refine⟨?_,by simp only;omega,d.2.2.2⟩;simp only;rw[ByteArray.size_extract,hz];omega
theorem l6 (s:ByteArray)(most:Int)(h:(aZ s most).1≠0)(hx:(ay s).2.2=0)(e:((ay s).1:Int)<=most):(aZ s most).1=2\/(aZ s most).1=3:=by
 unfold aZ at h⊢;rw[zh (by rw[hx];simp),zh (by omega)]at h⊢;unfold jd at h⊢;generalize (s.extract (ay s).2.1 s.size)=b at*;generalize b.size+1=f at*;have:∀(f k:Nat) (out:List UInt8),(fL b (ay s).1 f k out).1=0\/(fL b (ay s).1 f k out).1=2\/(fL b (ay s).1 f k out).1=3:=by
  intro f;induction f with
  |zero=>intro k out;right;left;rfl
  |succ f ih=>
   intro k out;unfold fL;split
   ·split
    ·exact ih _ _
    rename_i i d
    simp only;have:∀(size k c:Nat) (out:List UInt8),(bV b size k c out).1=0\/(bV b size k c out).1=2\/(bV b size k c out).1=3:=by
     intro size k c out;unfold bV;split
     ·right;left;rfl
     split
     ·right;right;rfl
     split
     ·split
      ·right;left;rfl
      left;rfl
     left;rfl
    exact this _ _ _ _
   split
   ·right;left;rfl
   left;rfl
 have:=this f 0 [];omega
theorem pD (s:ByteArray)(h:(ay s).2.2≠0):(ay s).2.2=2\/(ay s).2.2=3\/(ay s).2.2=5:=by
 unfold ay at h⊢;split
 ·split
  ·right;right;rfl
  rename_i b c;rw[zi b,zh c]at h;exact absurd b h
 rename_i b
 have:=Mc s 10 0 0 b;simp only;unfold au;omega
theorem lB {w:World}{g:Nat}{t:TypeId}{i e j:Value}(h:af w g t #[i,e,j])(b d c:Value):af (((w.setCell ⟨g,0,none⟩ b).setCell ⟨g,1,none⟩ d).setCell ⟨g,2,none⟩ c) g t #[b,d,c]:=((h.set 0 b).set 1 d).set 2 c
theorem dM {w:World}{g:Nat}{t:TypeId}{i e j:Value}(h:af w g t #[i,e,j])(b d c:Value):(((w.setCell ⟨g,0,none⟩ b).setCell ⟨g,1,none⟩ d).setCell ⟨g,2,none⟩ c).cell? ⟨g,0,none⟩=some b/\(((w.setCell ⟨g,0,none⟩ b).setCell ⟨g,1,none⟩ d).setCell ⟨g,2,none⟩ c).cell? ⟨g,1,none⟩=some d/\(((w.setCell ⟨g,0,none⟩ b).setCell ⟨g,1,none⟩ d).setCell ⟨g,2,none⟩ c).cell? ⟨g,2,none⟩=some c:=
 ⟨(lB h b d c).cell 0,(lB h b d c).cell 1,(lB h b d c).cell 2⟩
theorem K4 {w:World}{g:Nat}{t:TypeId}{i e j:Value}(h:af w g t #[i,e,j])(o:Obj)(b d c:Value):((((w.setCell ⟨g,0,none⟩ b).setCell ⟨g,1,none⟩ d).setCell ⟨g,2,none⟩ c).alloc o).cell? ⟨g,0,none⟩=some b/\((((w.setCell ⟨g,0,none⟩ b).setCell ⟨g,1,none⟩ d).setCell ⟨g,2,none⟩ c).alloc o).cell? ⟨g,1,none⟩=some d/\((((w.setCell ⟨g,0,none⟩ b).setCell ⟨g,1,none⟩ d).setCell ⟨g,2,none⟩ c).alloc o).cell? ⟨g,2,none⟩=some c:=
 ⟨((lB h b d c).alloc o).cell 0,((lB h b d c).alloc o).cell 1,((lB h b d c).alloc o).cell 2⟩
theorem Be (most o:Int)(j:Nat)(s:ByteArray)(w:World)(U:s.size<=9223372036854775807)(gJ: -9223372036854775808<=most)(Z:most<=9223372036854775807)
 (hx:(ai most s).1≠0\/(ay (ai most s).2.2.1).2.2≠0\/o<(ay (ai most s).2.2.1).1):
 Calls prog 83 #[.int .i64 most,.int .i64 o,.pointer (some ⟨j,0,none⟩),.string s] w fun e w'=>e=Cv (aR most o s)/\ae [] w w':=by
 have L:=za (fun w=>kB most s w U gJ Z);have p:=za (bu most o s);have G:=wg most s;have J:=rW most s;generalize aR most o s=X at*;generalize ai most s=aa at*;obtain⟨C,id,body,sz⟩:=aa;dsimp only at*;rcases eT C with⟨r,h1,W⟩|⟨r,h1,W⟩
 ·subst r;obtain⟨d,aS,q⟩:=J rfl;clear G J;have I:=za (fun j w=>FW body o j w (by omega));have H:=za (fun j w=>Du body o j w (by omega));have F:=pD body;generalize ay body=z at*;obtain⟨n,hd,es⟩:=z;dsimp only at*;rcases eT es with⟨g0,g1,g2⟩|⟨g0,g1,g2⟩
  ·subst g0;have M:o<n:=by omega
   have x:=za (by have:=p.out;rw[zh (by simp),zh (by simp),zi M]at this;exact this);have Eo:=za (fun j w=>H.out j w rfl M);have D:=za (fun w=>qL 5 w (by omega) (by omega));simp only[show¬((5:Int)=2)from by omega,xG]at D;clear I H p F hx;go_enter Zm,xZ
   go_wp2_with fail
   refine(L.out _).mono ?_;rintro e i ⟨rfl,d⟩;have b:af i w.heap.size 84 #[.int .u64 0,.string ⟨#[]⟩,.string ⟨#[]⟩]:=(d.block w.heap.size (by simp)).trans (af.new w _ _);have u:ae [] w i:=((ae.refl [] w).alloc _).trans' (ae.ah d (zd _)) (by simp);have O:w.heap.size<i.heap.size:=by have:=d.size;simp at this;omega
   clear d;dsimp only;have k:=b.cell 0;have m:=b.cell 1;have l:=b.cell 2;have B:=b.frozen 0;have y:=b.frozen 1;have A:=b.frozen 2;simp at k m l;go_wp2_with fail
   refine(Eo.out _ _).mono ?_;rintro e w' ⟨rfl,rfl⟩;go_wp2_with fail
   refine(D.out _).mono ?_;rintro e w3 ⟨rfl,q⟩;have c:af w3 w.heap.size 84 #[.int .u64 0,.string ⟨#[]⟩,.string ⟨#[]⟩]:=(q.block w.heap.size (by simp;omega)).trans (b.alloc _);have K:ae [] w w3:=(u.alloc _).trans' (ae.ah q (zd _)) (by simp);have k:=c.cell 0;have m:=c.cell 1;have l:=c.cell 2;have B:=c.frozen 0;have y:=c.frozen 1;have A:=c.frozen 2;simp at k m l;go_wp2;refine zk (v:= .tuple #[.agg #[.int .u64 0,.string ByteArray.empty,.string ByteArray.empty],.int .i64 0,.int .i64 5]) (by simp[results,xI,go_sem,oM,dM c]) rfl ?_;refine⟨lA x.out rfl, ?_⟩;exact(K.on fun _=>inferInstance)
  have E:∃t:Int,(if es=5 then(5:Int)else 3)=t/\∀w,Calls prog 118 #[.int .i64 es] w fun e w'=>e= .returned (.int .i64 t)/\Below w.heap.size w w':=by
   refine⟨_,rfl,fun w=>(qL es w (by omega) (by omega)).mono fun e w' ⟨R,S⟩=>⟨by rw[R];rcases F g0 with h|h|h<;>subst h<;>rfl,S⟩⟩
  obtain⟨t,N,E⟩:=E;have D:=za E;have x:=za (by have:=p.out;rw[zh (by simp),zi g0,N]at this;exact this);have Y:=za (fun j w=>I.out j w g0);clear I H p F hx N E g0;go_enter Zm,xZ
  go_wp2_with fail
  refine(L.out _).mono ?_;rintro e i ⟨rfl,d⟩;have b:af i w.heap.size 84 #[.int .u64 0,.string ⟨#[]⟩,.string ⟨#[]⟩]:=(d.block w.heap.size (by simp)).trans (af.new w _ _);have u:ae [] w i:=((ae.refl [] w).alloc _).trans' (ae.ah d (zd _)) (by simp);have O:w.heap.size<i.heap.size:=by have:=d.size;simp at this;omega
  clear d;dsimp only;have k:=b.cell 0;have m:=b.cell 1;have l:=b.cell 2;have B:=b.frozen 0;have y:=b.frozen 1;have A:=b.frozen 2;simp at k m l;go_wp2_with fail
  refine(Y.out _ _).mono ?_;rintro e w' ⟨rfl,rfl⟩;go_wp2_with fail
  refine(D.out _).mono ?_;rintro e w3 ⟨rfl,q⟩;have c:af w3 w.heap.size 84 #[.int .u64 0,.string ⟨#[]⟩,.string ⟨#[]⟩]:=(q.block w.heap.size (by simp;omega)).trans (b.alloc _);have K:ae [] w w3:=(u.alloc _).trans' (ae.ah q (zd _)) (by simp);have k:=c.cell 0;have m:=c.cell 1;have l:=c.cell 2;have B:=c.frozen 0;have y:=c.frozen 1;have A:=c.frozen 2;simp at k m l;go_wp2;refine zk (v:= .tuple #[.agg #[.int .u64 0,.string ByteArray.empty,.string ByteArray.empty],.int .i64 0,.int .i64 t]) (by simp[results,xI,go_sem,oM,dM c]) rfl ?_;refine⟨lA x.out rfl, ?_⟩;exact(K.on fun _=>inferInstance)
 obtain⟨_,rfl,rfl,rfl⟩:C=C/\id=0/\body=ByteArray.empty/\sz=0:=by have:=G r;simpa using this
 have x:=za (by have:=p.out;rw[zi r]at this;exact this);clear p G J r hx;go_enter Zm,xZ
 go_wp2_with fail
 refine(L.out _).mono ?_;rintro e i ⟨rfl,d⟩;have b:af i w.heap.size 84 #[.int .u64 0,.string ⟨#[]⟩,.string ⟨#[]⟩]:=(d.block w.heap.size (by simp)).trans (af.new w _ _);have u:ae [] w i:=((ae.refl [] w).alloc _).trans' (ae.ah d (zd _)) (by simp);have O:w.heap.size<i.heap.size:=by have:=d.size;simp at this;omega
 clear d;dsimp only;have k:=b.cell 0;have m:=b.cell 1;have l:=b.cell 2;have B:=b.frozen 0;have y:=b.frozen 1;have A:=b.frozen 2;simp at k m l;go_wp2;refine zk (v:= .tuple #[.agg #[.int .u64 0,.string ByteArray.empty,.string ByteArray.empty],.int .i64 0,.int .i64 C]) (by simp[results,xI,go_sem,oM,K4 b]) rfl ?_;refine⟨lA x.out rfl, ?_⟩;exact(u.on fun _=>inferInstance)
theorem Bf (most o:Int)(i a u t p:Nat)(s:ByteArray)(w:World)(hs:s.size<=9223372036854775807)(gJ: -9223372036854775808<=most)(su:most<=9223372036854775807)
 (F:tI w i a u t p) (ha:a<=9223372036854775807) (hx:(ai most s).1=0) (H:(ay (ai most s).2.2.1).2.2=0) (S:((ay (ai most s).2.2.1).1:Int)<=o) (ho:u+(ay (ai most s).2.2.1).1<=a) (ht:t+(ay (ai most s).2.2.1).1<=9223372036854775807):
 Calls prog 83 #[.int .i64 most,.int .i64 o,.pointer (some ⟨i,0,none⟩),.string s] w fun e w'=>e=Cv (aR most o s)/\(∃q,tI w' i a (u+(ay (ai most s).2.2.1).1) (t+(ay (ai most s).2.2.1).1) q)/\ae [i] w w':=by
 have HN:=za (fun w=>kB most s w hs gJ su);have Z:=za (bu most o s);have bF:=rW most s hx;generalize aR most o s=X at*;generalize ai most s=aa at*;obtain⟨er,id,body,sz⟩:=aa;dsimp only at*;subst hx;obtain⟨d,aS,I⟩:=bF;have B:=fun h=>l6 body o h H S
 have HV:=za (fun w F=>IY body o i a u t p w (by omega) F ha H S ho ht);have z:=Z.out;rw[zh (by simp),zh (by rw[H];simp),zh (by omega)]at z;generalize (ay body).1=n at*;generalize aZ body o=ad at*;obtain⟨K,l⟩:=ad;dsimp only at*;generalize (⟨l.toArray⟩:ByteArray)=T at*;have ag:=F.lt;clear H S ho ht Z;rcases eT K with⟨A,r1,r2⟩|⟨A,r1,r2⟩
 ·subst A;rw[zh (by simp)]at z;have N:=za z;clear z B;go_enter Zm,xZ
  go_wp2_with fail
  refine(HN.out _).mono ?_;rintro e c ⟨rfl,d⟩;have b:af c w.heap.size 84 #[.int .u64 0,.string ⟨#[]⟩,.string ⟨#[]⟩]:=(d.block w.heap.size (by simp)).trans (af.new w _ _);have G:ae [] w c:=((ae.refl [] w).alloc _).trans' (ae.ah d (zd _)) (by simp);have cl:w.heap.size<c.heap.size:=by have:=d.size;simp at this;omega
  clear d;dsimp only;have M:=F.only G (by simp);have j:=b.cell 0;have m:=b.cell 1;have k:=b.cell 2;have E:=b.frozen 0;have C:=b.frozen 1;have D:=b.frozen 2;simp at j m k;go_wp2_with fail
  refine(HV.out _ (M.alloc _)).mono ?_;rintro e Y ⟨rfl,R,r⟩;have W:=r.size;simp only[zp]at W;have J:=(b.alloc _).only r (by simp;omega);have O:=(af.new c 84 #[.int .u64 id,.string ⟨#[]⟩,.string body]).only r (by simp;omega);have U:ae [i] w Y:=((G.mono (by simp)).alloc _).trans r;clear j m k E C D;have d0:=O.cell 2;have d1:=O.frozen 2;have L:=O.set 2 (.string T);have y:=J.dK (p:=⟨c.heap.size,2,none⟩) (by simp;omega) (.string T);have e0:=L.cell 0;have e1:=L.cell 1;have e2:=L.cell 2;have j:=y.cell 0;have m:=y.cell 1;have k:=y.cell 2;have E:=y.frozen 0;have C:=y.frozen 1;have D:=y.frozen 2;simp at j m k d0 e0 e1 e2;go_wp2;refine zk (v:= .tuple #[.agg #[.int .u64 id,.string ByteArray.empty,.string T],.int .i64 sz,.int .i64 0]) (by simp[results,xI,go_sem,oM,dM y]) rfl ?_;refine⟨lA N.out rfl,⟨max p (u+n), ?_⟩, ?_⟩
  ·exact(((R.dK (p:=⟨c.heap.size,2,none⟩) (by simp;omega) _).dK (by simp;omega) _).dK (by simp;omega) _).dK (by simp;omega) _
  exact(((U.setCell (p:=⟨c.heap.size,2,none⟩) (.inr (by simp;omega)) _).setCell (.inr (by simp)) _).setCell (.inr (by simp)) _).setCell (.inr (by simp)) _
 rw[zi A]at z;have N:=za z;have HT:Hid (∀w,Calls prog 118 #[.int .i64 K] w fun e w'=>e= .returned (.int .i64 3)/\Below w.heap.size w w'):=za (fun w=>(qL K w (by have:=B A;omega) (by have:=B A;omega)).mono fun e w' ⟨he,hb⟩=>⟨by rw[he];rcases B A with h|h<;>subst h<;>rfl,hb⟩);clear z B A;go_enter Zm,xZ
 go_wp2_with fail
 refine(HN.out _).mono ?_;rintro e c ⟨rfl,d⟩;have b:af c w.heap.size 84 #[.int .u64 0,.string ⟨#[]⟩,.string ⟨#[]⟩]:=(d.block w.heap.size (by simp)).trans (af.new w _ _);have G:ae [] w c:=((ae.refl [] w).alloc _).trans' (ae.ah d (zd _)) (by simp);have cl:w.heap.size<c.heap.size:=by have:=d.size;simp at this;omega
 clear d;dsimp only;have M:=F.only G (by simp);have j:=b.cell 0;have m:=b.cell 1;have k:=b.cell 2;have E:=b.frozen 0;have C:=b.frozen 1;have D:=b.frozen 2;simp at j m k;go_wp2_with fail
 refine(HV.out _ (M.alloc _)).mono ?_;rintro e Y ⟨rfl,R,r⟩;have W:=r.size;simp only[zp]at W;have J:=(b.alloc _).only r (by simp;omega);have U:ae [i] w Y:=((G.mono (by simp)).alloc _).trans r;clear j m k E C D;go_wp2_with fail
 refine(HT.out _).mono ?_;rintro e w3 ⟨rfl,I⟩;have Er:ae [i] w w3:=U.trans (ae.ah I (zd _)|>.mono (by simp));have ab:tI w3 i a _ _ _:=R.only (ae.ah I (zd _)) (by simp);have x:af w3 w.heap.size 84 #[.int .u64 0,.string ⟨#[]⟩,.string ⟨#[]⟩]:=(I.block w.heap.size (by omega)).trans J;have j:=x.cell 0;have m:=x.cell 1;have k:=x.cell 2;have E:=x.frozen 0;have C:=x.frozen 1;have D:=x.frozen 2;simp at j m k;go_wp2;refine zk (v:= .tuple #[.agg #[.int .u64 0,.string ByteArray.empty,.string ByteArray.empty],.int .i64 0,.int .i64 3]) (by simp[results,xI,go_sem,oM,dM x]) rfl ?_;refine⟨lA N.out rfl,⟨max p (u+n), ?_⟩, ?_⟩
 ·exact((ab.dK (by simp;omega) _).dK (by simp;omega) _).dK (by simp;omega) _
 exact(Er.on fun _=>inferInstance)
theorem acs (most c:Int)(s:ByteArray)(l:(ai most s).1=0):
 ((aZ (ai most s).2.2.1 c).1=0->(aR most c s).1=0/\(aR most c s).2.1=(ai most s).2.1/\(aR most c s).2.2.1=⟨(aZ (ai most s).2.2.1 c).2.toArray⟩/\(aR most c s).2.2.2.1=(ai most s).2.2.2)/\
 ((aZ (ai most s).2.2.1 c).1≠0->(aR most c s).1=(if(aZ (ai most s).2.2.1 c).1=2 then 3 else(aZ (ai most s).2.2.1 c).1)/\(aR most c s).2.1=0/\(aR most c s).2.2.1=ByteArray.empty/\(aR most c s).2.2.2.1=0):=by
 rw[bu,zh (by rw[l];simp)];have k:=pD (ai most s).2.2.1;have j:=fun h=>l6 (ai most s).2.2.1 c h
 generalize (ai most s).2.2.1=b at*;have hz:aZ b c=if(ay b).2.2≠0 then((ay b).2.2,[])else if c<(ay b).1 then(5,[])else jd (b.extract (ay b).2.1 b.size) (ay b).1:=rfl
 by_cases d:(ay b).2.2≠0
 ·rw[zi d]at hz;rw[zi d,hz];refine⟨fun h=>absurd h d,fun _=>⟨?_,rfl,rfl,rfl⟩⟩;rcases k d with h|h|h<;>rw[h]<;>rfl
 rw[zh d]at hz;rw[zh d];have d:=zC.1 d;by_cases i:c<(ay b).1
 ·rw[zi i]at hz;rw[zi i,hz];exact⟨(fun h=>by cases h),(fun _=>⟨rfl,rfl,rfl,rfl⟩)⟩
 rw[zh i];by_cases e:(aZ b c).1≠0
 ·rw[zi e];refine⟨fun h=>absurd h e,fun _=>⟨?_,rfl,rfl,rfl⟩⟩;rcases j e d (by omega)with h|h<;>rw[h]<;>rfl
 rw[zh e];exact⟨fun _=>⟨rfl,rfl,rfl,rfl⟩,fun h=>absurd h e⟩
theorem F4 {x:Int×Nat×ByteArray×Nat×Nat}{a:Int}{b:Nat}{c:ByteArray}{d:Nat}(h:x.1=a)(e:x.2.1=b)(j:x.2.2.1=c)(i:x.2.2.2.1=d):Ending.returned (.tuple #[.agg #[.int .u64 b,.string ByteArray.empty,.string c],.int .i64 d,.int .i64 a])=Cv x:=by
 subst h;subst e;subst j;subst i;rfl
theorem wh (most i:Int)(s:ByteArray)(w:World)(hs:s.size<=9223372036854775807)(gJ: -9223372036854775808<=most)(su:most<=9223372036854775807):
 Calls prog 83 #[.int .i64 most,.int .i64 i,.pointer none,.string s] w fun e w'=>e=Cv (aR most i s)/\Below w.heap.size w w':=by
 have HN:=za (fun w=>kB most s w hs gJ su);have aa:=acs most i s;have R:=bu most i s;have O:=wg most s;have W:=rW most s;generalize aR most i s=X at*;generalize ai most s=ab at*;obtain⟨L,id,body,sz⟩:=ab;dsimp only at*;rcases eT L with⟨C,h1,h2⟩|⟨C,h1,h2⟩
 ·subst C;obtain⟨c,u,Y⟩:=W rfl;obtain⟨S,iB⟩:=aa rfl;clear O W R aa;have HV:=za (fun w=>IX body i w (by omega));have I:(aZ body i).1≠0->0<=(aZ body i).1/\(aZ body i).1<=12:=fun h=>by
   have hz:aZ body i=if(ay body).2.2≠0 then((ay body).2.2,[])else if i<(ay body).1 then(5,[])else jd (body.extract (ay body).2.1 body.size) (ay body).1:=rfl
   by_cases J:(ay body).2.2≠0
   ·rw[hz,zi J];have:=pD body J;simp only;omega
   by_cases g2:i<(ay body).1
   ·rw[hz,zh J,zi g2];simp
   have:=l6 body i h (zC.1 J) (by omega);omega
  generalize aZ body i=ad at*;obtain⟨K,l⟩:=ad;dsimp only at*;generalize (⟨l.toArray⟩:ByteArray)=T at*;rcases eT K with⟨B,r1,r2⟩|⟨B,r1,r2⟩
  ·subst B;obtain⟨n,x,G,F⟩:=S rfl;have E:=za (F4 n x G F);clear S iB n x G F I;go_enter Zm,xZ
   go_wp2_with fail
   refine(HN.out _).mono ?_;rintro e d ⟨rfl,c⟩;have b:af d w.heap.size 84 #[.int .u64 0,.string ⟨#[]⟩,.string ⟨#[]⟩]:=(c.block w.heap.size (by simp)).trans (af.new w _ _);have D:ae [] w d:=((ae.refl [] w).alloc _).trans' (ae.ah c (zd _)) (by simp);have cl:w.heap.size<d.heap.size:=by have:=c.size;simp at this;omega
   clear c;dsimp only;have j:=b.cell 0;have m:=b.cell 1;have k:=b.cell 2;have A:=b.frozen 0;have z:=b.frozen 1;have y:=b.frozen 2;simp at j m k;go_wp2_with fail
   refine(HV.out _).mono ?_;rintro e H ⟨rfl,u⟩;have Z:=u.size;simp only[zp]at Z;have cS:ae [] (d.alloc (.cells #[.int .u64 id,.string ⟨#[]⟩,.string body] 84)) H:=ae.ah u (zd _);have M:=(b.alloc _).only cS (by simp);have J2:=(af.new d 84 #[.int .u64 id,.string ⟨#[]⟩,.string body]).only cS (by simp);have U:ae [] w H:=(D.alloc _).trans cS;clear j m k A z y;have d0:=J2.cell 2;have d1:=J2.frozen 2;have N:=J2.set 2 (.string T);have r:=M.dK (p:=⟨d.heap.size,2,none⟩) (by simp;omega) (.string T);have e0:=N.cell 0;have n:=N.cell 1;have x:=N.cell 2;have j:=r.cell 0;have m:=r.cell 1;have k:=r.cell 2;have A:=r.frozen 0;have z:=r.frozen 1;have y:=r.frozen 2;simp at j m k d0 e0 n x;have q:Below w.heap.size w H:=U.below (zd _) (by simp);go_wp2;refine zk (v:= .tuple #[.agg #[.int .u64 id,.string ByteArray.empty,.string T],.int .i64 sz,.int .i64 0]) (by simp[results,xI,go_sem,oM,dM r]) rfl ?_;exact⟨E.out,(((q.setCell (by simp;omega) _).setCell (by simp) _).setCell (by simp) _).setCell (by simp) _⟩
  obtain⟨n,x,G,F⟩:=iB B;have E:=za (F4 n x G F);have HT:=za (fun w=>qL K w (I B).1 (by have:=(I B).2;omega));generalize (if K=2 then(3:Int)else K)=t at*;clear S iB n x G F I B;go_enter Zm,xZ
  go_wp2_with fail
  refine(HN.out _).mono ?_;rintro e d ⟨rfl,c⟩;have b:af d w.heap.size 84 #[.int .u64 0,.string ⟨#[]⟩,.string ⟨#[]⟩]:=(c.block w.heap.size (by simp)).trans (af.new w _ _);have D:ae [] w d:=((ae.refl [] w).alloc _).trans' (ae.ah c (zd _)) (by simp);have cl:w.heap.size<d.heap.size:=by have:=c.size;simp at this;omega
  clear c;dsimp only;have j:=b.cell 0;have m:=b.cell 1;have k:=b.cell 2;have A:=b.frozen 0;have z:=b.frozen 1;have y:=b.frozen 2;simp at j m k;go_wp2_with fail
  refine(HV.out _).mono ?_;rintro e H ⟨rfl,u⟩;have Z:=u.size;simp only[zp]at Z;have M:=(b.alloc _).only (ae.ah u (zd _)) (by simp);have U:ae [] w H:=(D.alloc _).trans (ae.ah u (zd _));clear j m k A z y;go_wp2_with fail
  refine(HT.out _).mono ?_;rintro e w3 ⟨rfl,Y⟩;have Er:ae [] w w3:=U.trans (ae.ah Y (zd _));have q:Below w.heap.size w w3:=Er.below (zd _) (by simp);have o:af w3 w.heap.size 84 #[.int .u64 0,.string ⟨#[]⟩,.string ⟨#[]⟩]:=(Y.block w.heap.size (by omega)).trans M;have j:=o.cell 0;have m:=o.cell 1;have k:=o.cell 2;have A:=o.frozen 0;have z:=o.frozen 1;have y:=o.frozen 2;simp at j m k;go_wp2;refine zk (v:= .tuple #[.agg #[.int .u64 0,.string ByteArray.empty,.string ByteArray.empty],.int .i64 0,.int .i64 t]) (by simp[results,xI,go_sem,oM,dM o]) rfl ?_;exact⟨E.out,((q.setCell (by simp) _).setCell (by simp) _).setCell (by simp) _⟩
 obtain⟨_,rfl,rfl,rfl⟩:L=L/\id=0/\body=ByteArray.empty/\sz=0:=by have:=O C;simpa using this
 have E:=za (by have:=R;rw[zi C]at this;exact this);clear R O W C aa;go_enter Zm,xZ
 go_wp2_with fail
 refine(HN.out _).mono ?_;rintro e d ⟨rfl,c⟩;have b:af d w.heap.size 84 #[.int .u64 0,.string ⟨#[]⟩,.string ⟨#[]⟩]:=(c.block w.heap.size (by simp)).trans (af.new w _ _);have D:ae [] w d:=((ae.refl [] w).alloc _).trans' (ae.ah c (zd _)) (by simp);have cl:w.heap.size<d.heap.size:=by have:=c.size;simp at this;omega
 clear c;dsimp only;have q:Below w.heap.size w d:=D.below (zd _) (by simp);have j:=b.cell 0;have m:=b.cell 1;have k:=b.cell 2;have A:=b.frozen 0;have z:=b.frozen 1;have y:=b.frozen 2;simp at j m k;go_wp2;refine zk (v:= .tuple #[.agg #[.int .u64 0,.string ByteArray.empty,.string ByteArray.empty],.int .i64 0,.int .i64 L]) (by simp[results,xI,go_sem,oM,K4 b]) rfl ?_;refine⟨lA E.out rfl, ?_⟩;first
  |exact(((q.setCell (by simp) _).setCell (by simp) _).setCell (by simp) _).alloc (by have:=q.size;simp;omega) _
  |exact((q.setCell (by simp) _).setCell (by simp) _).setCell (by simp) _
theorem oY (id:Nat)(body:ByteArray)(w:World)(hid:id<18446744073709551616)(d:65536<(aQ id).length+body.size)(h:body.size<=1000000):
 Calls prog 76 #[.int .u64 id,.string body] w fun e w'=>e= .returned (.tuple #[.string ByteArray.empty,.int .i64 5])/\Below w.heap.size w w':=by
 have b:=za (Cu id w hid);have j:=bo 10 id (by omega) (by omega);generalize (aQ id).length=c at*;have i:(65536:Int)<(c:Int)+body.size:=by omega
 go_enter func76,ntmps76
 go_wp2_with fail
 refine b.out.mono ?_;rintro e w' ⟨rfl,rfl⟩;go_wp2;go_ret2
 exact⟨rfl,zl _ _⟩
def wj (id:Nat)(body:ByteArray):ByteArray:=if 65536<(aQ id).length+(pack body.data.toList).length then ByteArray.empty else⟨(eD id (pack body.data.toList)).toArray⟩
def wm (id:Nat)(body:ByteArray):Int:=if 65536<(aQ id).length+(pack body.data.toList).length then 5 else 0
theorem Bg (id:Nat)(body:ByteArray)(w:World)(hid:id<18446744073709551616)(d:body.size<=65536):
 Calls prog 81 #[.int .u64 id,.string body] w fun e w'=>e= .returned (.tuple #[.string (wj id body),.int .i64 (wm id body)])/\Below w.heap.size w w':=by
 have i:=za (fun w=>Xu body w d);have b:=sR body.data.toList (by rw[aa];omega);rw[aa]at b;have hz:(⟨(pack body.data.toList).toArray⟩:ByteArray).size=(pack body.data.toList).length:=bB _;have k:Hid (∀w,Calls prog 76 #[.int .u64 id,.string ⟨(pack body.data.toList).toArray⟩] w fun e w'=>e= .returned (.tuple #[.string (wj id body),.int .i64 (wm id body)])/\Below w.heap.size w w'):=za (fun w=>by
  unfold wj wm;by_cases h:65536<(aQ id).length+(pack body.data.toList).length
  ·rw[zi h,zi h];exact oY id ⟨(pack body.data.toList).toArray⟩ w hid (by rw[hz];exact h) (by rw[hz];omega)
  rw[zh h,zh h];exact we id ⟨(pack body.data.toList).toArray⟩ w hid (by rw[hz];omega))
 generalize (⟨(pack body.data.toList).toArray⟩:ByteArray)=B at*;generalize wj id body=S at*;generalize wm id body=E at*;clear b hz;go_enter func81,ntmps81
 go_wp2_with fail
 refine(i.out _).mono ?_;rintro e m ⟨rfl,c⟩;have hz:=c.size;go_wp2_with fail
 refine(k.out _).mono ?_;rintro e l ⟨rfl,j⟩;go_wp2;go_ret2
 exact⟨rfl,c.trans (j.mono hz)⟩
theorem Qw :∀(f n:Nat),n<2^f->n<2^Dz f n/\(0<n->2^(Dz f n-1)<=n)
 |0,n,h=>by
  have:n=0:=by simpa using h
  subst this;simp[Dz]
 |f+1,n,h=>by
  by_cases d:n=0
  ·subst d;simp[Dz]
  have k:n/2<2^f:=by rw[Zq]at h;omega
  obtain⟨e,j⟩:=Qw f (n/2) k;simp only[Dz,zh d,Nat.add_sub_cancel];refine⟨by rw[Zq];omega,fun _=> ?_⟩;by_cases hz:n/2=0
  ·rw[hz,lz];simp;omega
  have i:=j (by omega);obtain⟨b,c⟩:∃b,Dz f (n/2)=b+1:=by
   cases c:Dz f (n/2)with
   |zero=>rw[c]at e;simp at e;omega
   |succ b=>exact⟨b,rfl⟩
  rw[c]at i⊢;simp only[Nat.add_sub_cancel]at i;rw[Zq];omega
theorem K5 :∀(j n:Nat),2^(8*j)<=n->j+1<=(cH n).length
 |0,n,h=>by
  rw[gQ (n:=n) (by simp at h;omega)];simp
 |j+1,n,h=>by
  rw[Tw]at h;have b:0<2^(8*j):=Nat.pow_pos (by omega);have:=K5 j (n/256) (by omega);rw[gQ (n:=n) (by omega)];simp;omega
theorem Qx (n:Nat)(h:n<18446744073709551616):(iq n ((bl n+7)/8)).reverse=cH n/\(bl n+7)/8<=8:=by
 by_cases l:n=0
 ·subst l;rw[show bl 0=0 from lz 64,dq];exact⟨rfl,by omega⟩
 obtain⟨c,d⟩:=Qw 64 n (by simpa using h);have o:=KX 64 n (by simpa using h) (by omega);change n<2^bl n at c
 change 0<n->2^(bl n-1)<=n at d
 generalize bl n=b at*;have i:n<2^(8*((b+7)/8)):=zT c (yp (by omega) (by omega));have j:=Mr _ n i;refine⟨?_,by omega⟩;rw[<-j];have p:(b+7)/8<=(cH n).length:=by
  obtain⟨k,m⟩:∃k,(b+7)/8=k+1:=by
   refine⟨(b+7)/8-1, ?_⟩;have:0<b:=by
    rcases Zj b with e|e
    ·subst e;simp at c;omega
    exact e
   omega
  rw[m];refine K5 k n (zF (yp (by omega) ?_) (d (by omega)));omega
 rw[show(b+7)/8-(cH n).length=0 from by omega];rfl
theorem K6 (n:Nat)(w:World)(d:n<18446744073709551616):
 Calls prog 174 #[.int .u64 n] w fun e w'=>e= .returned (.string ⟨(cH n).toArray⟩)/\Below w.heap.size w w':=by
 obtain⟨h,i⟩:=Qx n d;have p:=za (KY n w d);obtain⟨k,o⟩:∃k,(bl n+7)/8=k:=⟨_,rfl⟩
 rw[o]at h i;have r:=za (fun w=>FF n k w d i);have u:=za h;have y:Hid ((((bl n:Nat):Int)+7)/8=(k:Int)):=za (by omega);have q:Hid (Int.tdiv (((bl n:Nat):Int)+7) 8=(k:Int)):=za (by rw[Int.tdiv_eq_ediv_of_nonneg (by omega)];omega);have A:=KX 64 n (by simpa using d) (by omega);generalize bl n=b at*;clear h o;go_enter func174,ntmps174
 go_wp2_with fail
 refine p.out.mono ?_;rintro e w' ⟨rfl,rfl⟩;go_wp2_with fail
 first|rw[y.out]|rw[q.out]
 refine(r.out _).mono ?_;rintro e x ⟨rfl,l,m⟩;have c:=bh n k;have j:=za (MZ w.heap.size w.heap.size k (iq n k) x (by rw[c];exact l) (by rw[c];omega));rw[c,u.out]at j;have s:=za m;clear l m c;go_wp2_with fail
 refine j.out.mono ?_;rintro e B ⟨rfl,z⟩;go_wp2;go_ret;exact⟨rfl,(s.out.trans z).below⟩
theorem F5 (n:Nat)(w:World)(m:n<18446744073709551616):
 Calls prog 218 #[.int .u64 n] w fun e w'=>e= .returned (.agg #[.string ⟨(cH n).toArray⟩,.bool false,.slice none 0 0])/\Below w.heap.size w w':=by
 have l:=za (fun w=>K6 n w m);generalize (⟨(cH n).toArray⟩:ByteArray)=T at*;go_enter func218,ntmps218
 go_wp2_with fail
 refine(l.out _).mono ?_;rintro e c ⟨rfl,b⟩;have o:=b.size;simp only[zp]at o;have x:w.heap.size<c.heap.size:=by omega
 have p:Hid (Below w.heap.size w c):=za (((zl w.heap.size w).alloc (zd _) _).trans (b.mono (by simp)));have q:=za ((af.new w 28 #[.string ⟨#[]⟩,.bool false,.slice none 0 0]).ag b (by simp));clear b;go_wp2_with fail
 refine(pr T c).mono ?_;rintro e k ⟨rfl,d⟩;have i:Hid (Below w.heap.size w k):=za (p.out.trans (d.mono (by omega)));obtain⟨j,h,r,y,u,s⟩:=bg (q.out.ag d (by omega));clear d;go_wp2;refine zk (v:= .agg #[.string T,.bool false,.slice none 0 0]) (by simp[results,results218,go_sem,j,h,r]) rfl ⟨rfl, ?_⟩;exact((i.out.setCell (by simp) _).setCell (by simp) _).setCell (by simp) _
