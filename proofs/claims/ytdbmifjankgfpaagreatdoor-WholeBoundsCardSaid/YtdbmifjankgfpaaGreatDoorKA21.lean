/- packed.Next without a meter; plain.Put and packed.Put of what is too long. -/
import Derived.Test.YtdbmifjankgfpaaGreatDoorKA19
import Derived.Test.YtdbmifjankgfpaaGreatDoorKA26
set_option linter.all false
set_option maxRecDepth 100000
set_option maxHeartbeats 2000000
open Go.Proofs.Tryz
namespace Go.Proofs.YtdbmifjankgfpaaGreatDoor
open Go.RowKit Go.Maps
variable {w:World}{g d:Nat}{t:TypeId}{j e i:Value}{a:Int}
def xk:=@underlying37
def xM:=@results83
def Za:=@ntmps83
def Zk:=@func83
theorem Na (id:Nat)(body:ByteArray):(⟨(aR ((aR id).length+body.size)).toArray⟩++⟨(aR id).toArray⟩++body:ByteArray)=⟨(eF id body.data.toList).toArray⟩:=by
 apply aM;rw[bc,bc,eF,zl,aa];simp
theorem vS (id:Nat)(body:ByteArray)(w:World)(hid:id<18446744073709551616)(n:(aR id).length+body.size<=65536):
 Calls prog 76 #[.int .u64 id,.string body] w fun e w'=>e= .returned (.tuple #[.string ⟨(eF id body.data.toList).toArray⟩,.int .i64 0])/\Below w.heap.size w w':=by
 have h:=za (Cj id w hid);have b:=za (fun w=>vB ((aR id).length+body.size) w (by omega));have i:=za (fun w=>vB id w hid);have l:=za (Na id body);have j:=bA 10 id (by omega) (by omega);have k:=bA 10 ((aR id).length+body.size) (by omega) (by omega);rw[<-bP]at k;have p:(⟨(aR id).toArray⟩:ByteArray).size<=10:=by rw[bP];exact j
 rw[show(((aR id).length+body.size:Nat):Int)=((aR id).length:Int)+body.size from by omega]at b;generalize (⟨(aR id).toArray⟩:ByteArray)=TI at*;generalize (⟨(aR ((aR id).length+body.size)).toArray⟩:ByteArray)=TL at*;generalize (aR id).length=li at*;go_enter func76,ntmps76
 go_wp2_with fail
 refine h.out.mono ?_;rintro e w' ⟨rfl,rfl⟩;go_wp2_with fail
 refine(b.out _).mono ?_;rintro e o ⟨rfl,c⟩;have hz:=c.size;go_wp2_with fail
 refine(i.out _).mono ?_;rintro e m ⟨rfl,d⟩;go_wp2;go_ret2
 exact⟨by rw[<-l.out];rfl,c.trans (d.mono hz)⟩
theorem KR (w:World):(zeroValue 37).run prog w= .ok (.int .i64 0) w:=by kernel_rfl
theorem qA (b:Int)(w:World)(y:0<=b)(z:b<=100):
 Calls prog 118 #[.int .i64 b] w fun e w'=>e= .returned (.int .i64 (if b=2 then 3 else b))/\Below w.heap.size w w':=by
 have x:= @run_makeMap prog;obtain⟨r,u,l,k⟩:=(World.ownsMap_made (H:=Unit) w prog 37 (plainElem prog 37)).update (int_keyed xk) underlying191 (by decide) (keyOf_int_mk xk (a:=2) (by decide)) (plainElem_int xk (a:=3) (by decide));have n:Below w.heap.size w r:=((zm w.heap.size w).alloc (zg _) _).grown k (by simp) (by simp);have o:=keyOf_int_mk (P:=prog) xk (a:=b) (WalkArith.wf_i64 (by omega));have m:=za n;have i:=za o;clear n o k;by_cases h:b=2
 ·subst h;have q:Maps.has ((DataW.map []:DataW Unit).put (.int .i64 2) (.lit (.int .i64 3))) (.int .i64 2)=true:=rfl;have j:((DataW.map []:DataW Unit).put (.int .i64 2) (.lit (.int .i64 3))).atKey (.int .i64 2) (.lit (.int .i64 0))= .lit (.int .i64 3):=rfl;have s:=za j;generalize (DataW.map []:DataW Unit).put (.int .i64 2) (.lit (.int .i64 3))=D at*;clear j;go_enter func118,ntmps118
  go_wp2_with (at_lookup;refine Ze _ rfl _ _ 191 rfl 37 37 .i64 (int_keyed xk) underlying191 xk (KR _) w.heap.size 1 D rfl l _ _ rfl i.out ?_;intro p c d;obtain rfl:=Qa (c.symm.trans s.out);clear c d)
  go_ret;exact⟨rfl,m.out⟩
 have q:Maps.has ((DataW.map []:DataW Unit).put (.int .i64 2) (.lit (.int .i64 3))) (.int .i64 b)=false:=by
  rw[Maps.has_put_other (by intro e;injection e;omega)];rfl
 generalize (DataW.map []:DataW Unit).put (.int .i64 2) (.lit (.int .i64 3))=D at*;rw[zh h];clear h;go_enter func118,ntmps118
 go_wp2_with (at_lookup;refine Ze _ rfl _ _ 191 rfl 37 37 .i64 (int_keyed xk) underlying191 xk (KR _) w.heap.size 1 D rfl l _ _ rfl i.out ?_;intro p c d;clear c d)
 go_ret;exact⟨rfl,m.out⟩
open Go.RowKit
theorem ae.on {L:List Nat}{a w':World}(h:ae L a w)(f:dU L a w->dU L a w'):ae L a w':=(f ⟨h⟩).out
def Ck (x:Int×Nat×ByteArray×Nat×Nat):Ending:= .returned (.tuple #[.agg #[.int .u64 x.2.1,.string ByteArray.empty,.string x.2.2.1],.int .i64 x.2.2.2.1,.int .i64 x.1])
theorem lp {x:Int×Nat×ByteArray×Nat×Nat}{b:Nat}{c:ByteArray}{m:Nat}{e:Int}(h:x=(a,b,c,d,m))(hd:e=d):Ending.returned (.tuple #[.agg #[.int .u64 b,.string ByteArray.empty,.string c],.int .i64 e,.int .i64 a])=Ck x:=by
 subst h;subst hd;rfl
theorem vT (most:Int)(s:ByteArray)(h:(aj most s).1≠0):aj most s=((aj most s).1,0,ByteArray.empty,0):=by
 rw[dV]at h⊢;split
 ·rfl
 split
 ·rfl
 split
 ·rfl
 rename_i b c d;rw[zh b,zh c,zh d]at h;exact absurd rfl h
theorem rV (most:Int)(s:ByteArray)(h:(aj most s).1=0):(aj most s).2.2.1.size<=s.size/\(aj most s).2.2.2<=s.size/\(aj most s).2.1<18446744073709551616:=by
 rw[dV]at h⊢;split at h
 ·rename_i b;exact absurd h b
 split at h
 ·simp at h
 split at h
 ·simp at h
 rename_i b d c
 rw[zh b,zh d,zh c];simp only[ne_eq,zC]at b c;have e:=il _ c;have hz:=an s (au most s).2.1 ((au most s).2.1+(au most s).1) (by omega);refine⟨?_,by simp only;omega,e.2.2.2⟩;simp only;rw[ByteArray.size_extract,hz];omega
theorem lW (s:ByteArray)(most:Int)(h:(aY s most).1≠0)(hx:(aB s).2.2=0)(d:((aB s).1:Int)<=most):(aY s most).1=2\/(aY s most).1=3:=by
 unfold aY at h⊢;rw[zh (by rw[hx];simp),zh (by omega)]at h⊢;unfold jf at h⊢;generalize (s.extract (aB s).2.1 s.size)=b at*;generalize b.size+1=f at*;have:∀(f k:Nat) (out:List UInt8),(fR b (aB s).1 f k out).1=0\/(fR b (aB s).1 f k out).1=2\/(fR b (aB s).1 f k out).1=3:=by
  intro f;induction f with
  |zero=>intro k out;right;left;rfl
  |succ f ih=>
   intro k out;unfold fR;split
   ·split
    ·exact ih _ _
    rename_i i e
    simp only;have:∀(size k c:Nat) (out:List UInt8),(bX b size k c out).1=0\/(bX b size k c out).1=2\/(bX b size k c out).1=3:=by
     intro size k c out;unfold bX;split
     ·right;left;rfl
     split
     ·right;right;rfl
     split
     ·split
      ·right;left;rfl
      left;rfl
     left;rfl
    exact this _ _ _ _
   split
   ·right;left;rfl
   left;rfl
 have:=this f 0 [];omega
theorem px (s:ByteArray)(h:(aB s).2.2≠0):(aB s).2.2=2\/(aB s).2.2=3\/(aB s).2.2=5:=by
 unfold aB at h⊢;split
 ·split
  ·right;right;rfl
  rename_i b c;rw[zi b,zh c]at h;exact absurd b h
 rename_i b
 have:=LS s 10 0 0 b;simp only;unfold ay;omega
theorem kK (h:af w g t #[j,e,i])(c b d:Value):af (((w.setCell ⟨g,0,none⟩ c).setCell ⟨g,1,none⟩ b).setCell ⟨g,2,none⟩ d) g t #[c,b,d]:=((h.set 0 c).set 1 b).set 2 d
theorem dO (h:af w g t #[j,e,i])(c b d:Value):(((w.setCell ⟨g,0,none⟩ c).setCell ⟨g,1,none⟩ b).setCell ⟨g,2,none⟩ d).cell? ⟨g,0,none⟩=some c/\(((w.setCell ⟨g,0,none⟩ c).setCell ⟨g,1,none⟩ b).setCell ⟨g,2,none⟩ d).cell? ⟨g,1,none⟩=some b/\(((w.setCell ⟨g,0,none⟩ c).setCell ⟨g,1,none⟩ b).setCell ⟨g,2,none⟩ d).cell? ⟨g,2,none⟩=some d:=
 ⟨(kK h c b d).cell 0,(kK h c b d).cell 1,(kK h c b d).cell 2⟩
theorem KS (h:af w g t #[j,e,i])(o:Obj)(c b d:Value):((((w.setCell ⟨g,0,none⟩ c).setCell ⟨g,1,none⟩ b).setCell ⟨g,2,none⟩ d).alloc o).cell? ⟨g,0,none⟩=some c/\((((w.setCell ⟨g,0,none⟩ c).setCell ⟨g,1,none⟩ b).setCell ⟨g,2,none⟩ d).alloc o).cell? ⟨g,1,none⟩=some b/\((((w.setCell ⟨g,0,none⟩ c).setCell ⟨g,1,none⟩ b).setCell ⟨g,2,none⟩ d).alloc o).cell? ⟨g,2,none⟩=some d:=
 ⟨((kK h c b d).alloc o).cell 0,((kK h c b d).alloc o).cell 1,((kK h c b d).alloc o).cell 2⟩
theorem AP (most o:Int)(l:Nat)(s:ByteArray)(w:World)(Y:s.size<=9223372036854775807)(gP: -9223372036854775808<=most)(Z:most<=9223372036854775807)
 (hx:(aj most s).1≠0\/(aB (aj most s).2.2.1).2.2≠0\/o<(aB (aj most s).2.2.1).1):
 Calls prog 83 #[.int .i64 most,.int .i64 o,.pointer (some ⟨l,0,none⟩),.string s] w fun e w'=>e=Ck (aQ most o s)/\ae [] w w':=by
 have M:=za (fun w=>kv most s w Y gP Z);have p:=za (bC most o s);have I:=vT most s;have L:=rV most s;generalize aQ most o s=X at*;generalize aj most s=y at*;obtain⟨C,id,body,sz⟩:=y;dsimp only at*;rcases eY C with⟨u,h1,h2⟩|⟨u,h1,h2⟩
 ·subst u;obtain⟨c,aO,q⟩:=L rfl;clear I L;have K:=za (fun l w=>Fz body o l w (by omega));have H:=za (fun l w=>C' body o l w (by omega));have J:=px body;generalize aB body=z at*;obtain⟨n,hd,es⟩:=z;dsimp only at*;rcases eY es with⟨g0,g1,g2⟩|⟨g0,g1,g2⟩
  ·subst g0;have N:o<n:=by omega
   have r:=za (by have:=p.out;rw[zh (by simp),zh (by simp),zi N]at this;exact this);have SU:=za (fun l w=>H.out l w rfl N);have E:=za (fun w=>qA 5 w (by omega) (by omega));simp only[show¬((5:Int)=2)from by omega,xL]at E;clear K H p J hx;go_enter Zk,Za
   go_wp2_with fail
   refine(M.out _).mono ?_;rintro e i ⟨rfl,c⟩;have b:af i w.heap.size 84 #[.int .u64 0,.string ⟨#[]⟩,.string ⟨#[]⟩]:=(c.block w.heap.size (by simp)).trans (af.new w _ _);have x:ae [] w i:=((ae.refl [] w).alloc _).trans' (ae.ah c (zg _)) (by simp);have O:w.heap.size<i.heap.size:=by have:=c.size;simp at this;omega
   clear c;dsimp only;have m:=b.cell 0;have k:=b.cell 1;have j:=b.cell 2;have A:=b.frozen 0;have F:=b.frozen 1;have D:=b.frozen 2;simp at m k j;go_wp2_with fail
   refine(SU.out _ _).mono ?_;rintro e w' ⟨rfl,rfl⟩;go_wp2_with fail
   refine(E.out _).mono ?_;rintro e w3 ⟨rfl,q⟩;have d:af w3 w.heap.size 84 #[.int .u64 0,.string ⟨#[]⟩,.string ⟨#[]⟩]:=(q.block w.heap.size (by simp;omega)).trans (b.alloc _);have G:ae [] w w3:=(x.alloc _).trans' (ae.ah q (zg _)) (by simp);have m:=d.cell 0;have k:=d.cell 1;have j:=d.cell 2;have A:=d.frozen 0;have F:=d.frozen 1;have D:=d.frozen 2;simp at m k j;go_wp2;refine zj (v:= .tuple #[.agg #[.int .u64 0,.string ByteArray.empty,.string ByteArray.empty],.int .i64 0,.int .i64 5]) (by simp[results,xM,go_sem,oA,dO d]) rfl ?_;refine⟨lp r.out rfl, ?_⟩;exact(G.on fun _=>inferInstance)
  have B:∃t:Int,(if es=5 then(5:Int)else 3)=t/\∀w,Calls prog 118 #[.int .i64 es] w fun e w'=>e= .returned (.int .i64 t)/\Below w.heap.size w w':=by
   refine⟨_,rfl,fun w=>(qA es w (by omega) (by omega)).mono fun e w' ⟨W,U⟩=>⟨by rw[W];rcases J g0 with h|h|h<;>subst h<;>rfl,U⟩⟩
  obtain⟨t,R,B⟩:=B;have E:=za B;have r:=za (by have:=p.out;rw[zh (by simp),zi g0,R]at this;exact this);have S:=za (fun l w=>K.out l w g0);clear K H p J hx R B g0;go_enter Zk,Za
  go_wp2_with fail
  refine(M.out _).mono ?_;rintro e i ⟨rfl,c⟩;have b:af i w.heap.size 84 #[.int .u64 0,.string ⟨#[]⟩,.string ⟨#[]⟩]:=(c.block w.heap.size (by simp)).trans (af.new w _ _);have x:ae [] w i:=((ae.refl [] w).alloc _).trans' (ae.ah c (zg _)) (by simp);have O:w.heap.size<i.heap.size:=by have:=c.size;simp at this;omega
  clear c;dsimp only;have m:=b.cell 0;have k:=b.cell 1;have j:=b.cell 2;have A:=b.frozen 0;have F:=b.frozen 1;have D:=b.frozen 2;simp at m k j;go_wp2_with fail
  refine(S.out _ _).mono ?_;rintro e w' ⟨rfl,rfl⟩;go_wp2_with fail
  refine(E.out _).mono ?_;rintro e w3 ⟨rfl,q⟩;have d:af w3 w.heap.size 84 #[.int .u64 0,.string ⟨#[]⟩,.string ⟨#[]⟩]:=(q.block w.heap.size (by simp;omega)).trans (b.alloc _);have G:ae [] w w3:=(x.alloc _).trans' (ae.ah q (zg _)) (by simp);have m:=d.cell 0;have k:=d.cell 1;have j:=d.cell 2;have A:=d.frozen 0;have F:=d.frozen 1;have D:=d.frozen 2;simp at m k j;go_wp2;refine zj (v:= .tuple #[.agg #[.int .u64 0,.string ByteArray.empty,.string ByteArray.empty],.int .i64 0,.int .i64 t]) (by simp[results,xM,go_sem,oA,dO d]) rfl ?_;refine⟨lp r.out rfl, ?_⟩;exact(G.on fun _=>inferInstance)
 obtain⟨_,rfl,rfl,rfl⟩:C=C/\id=0/\body=ByteArray.empty/\sz=0:=by have:=I u;simpa using this
 have r:=za (by have:=p.out;rw[zi u]at this;exact this);clear p I L u hx;go_enter Zk,Za
 go_wp2_with fail
 refine(M.out _).mono ?_;rintro e i ⟨rfl,c⟩;have b:af i w.heap.size 84 #[.int .u64 0,.string ⟨#[]⟩,.string ⟨#[]⟩]:=(c.block w.heap.size (by simp)).trans (af.new w _ _);have x:ae [] w i:=((ae.refl [] w).alloc _).trans' (ae.ah c (zg _)) (by simp);have O:w.heap.size<i.heap.size:=by have:=c.size;simp at this;omega
 clear c;dsimp only;have m:=b.cell 0;have k:=b.cell 1;have j:=b.cell 2;have A:=b.frozen 0;have F:=b.frozen 1;have D:=b.frozen 2;simp at m k j;go_wp2;refine zj (v:= .tuple #[.agg #[.int .u64 0,.string ByteArray.empty,.string ByteArray.empty],.int .i64 0,.int .i64 C]) (by simp[results,xM,go_sem,oA,KS b]) rfl ?_;refine⟨lp r.out rfl, ?_⟩;exact(x.on fun _=>inferInstance)
theorem AQ (most r:Int)(k a u t p:Nat)(s:ByteArray)(w:World)(hs:s.size<=9223372036854775807)(gP: -9223372036854775808<=most)(sn:most<=9223372036854775807)
 (B:ra w k a u t p) (ha:a<=9223372036854775807) (hx:(aj most s).1=0) (H:(aB (aj most s).2.2.1).2.2=0) (J:((aB (aj most s).2.2.1).1:Int)<=r) (ho:u+(aB (aj most s).2.2.1).1<=a) (ht:t+(aB (aj most s).2.2.1).1<=9223372036854775807):
 Calls prog 83 #[.int .i64 most,.int .i64 r,.pointer (some ⟨k,0,none⟩),.string s] w fun e w'=>e=Ck (aQ most r s)/\(∃q,ra w' k a (u+(aB (aj most s).2.2.1).1) (t+(aB (aj most s).2.2.1).1) q)/\ae [k] w w':=by
 have HN:=za (fun w=>kv most s w hs gP sn);have HX:=za (bC most r s);have bG:=rV most s hx;generalize aQ most r s=X at*;generalize aj most s=aa at*;obtain⟨er,id,body,sz⟩:=aa;dsimp only at*;subst hx;obtain⟨d,aO,I⟩:=bG;have G:=fun h=>lW body r h H J
 have Z:=za (fun w B=>IM body r k a u t p w (by omega) B ha H J ho ht);have z:=HX.out;rw[zh (by simp),zh (by rw[H];simp),zh (by omega)]at z;generalize (aB body).1=n at*;generalize aY body r=ab at*;obtain⟨S,l⟩:=ab;dsimp only at*;generalize (⟨l.toArray⟩:ByteArray)=T at*;have ad:=B.lt;clear H J ho ht HX;rcases eY S with⟨y,r1,r2⟩|⟨y,r1,r2⟩
 ·subst y;rw[zh (by simp)]at z;have L:=za z;clear z G;go_enter Zk,Za
  go_wp2_with fail
  refine(HN.out _).mono ?_;rintro e c ⟨rfl,d⟩;have b:af c w.heap.size 84 #[.int .u64 0,.string ⟨#[]⟩,.string ⟨#[]⟩]:=(d.block w.heap.size (by simp)).trans (af.new w _ _);have E:ae [] w c:=((ae.refl [] w).alloc _).trans' (ae.ah d (zg _)) (by simp);have cr:w.heap.size<c.heap.size:=by have:=d.size;simp at this;omega
  clear d;dsimp only;have R:=B.only E (by simp);have m:=b.cell 0;have j:=b.cell 1;have i:=b.cell 2;have C:=b.frozen 0;have F:=b.frozen 1;have D:=b.frozen 2;simp at m j i;go_wp2_with fail
  refine(Z.out _ (R.alloc _)).mono ?_;rintro e W ⟨rfl,N,o⟩;have M:=o.size;simp only[zq]at M;have U:=(b.alloc _).only o (by simp;omega);have K:=(af.new c 84 #[.int .u64 id,.string ⟨#[]⟩,.string body]).only o (by simp;omega);have Y:ae [k] w W:=((E.mono (by simp)).alloc _).trans o;clear m j i C F D;have d0:=K.cell 2;have d1:=K.frozen 2;have O:=K.set 2 (.string T);have x:=U.dN (p:=⟨c.heap.size,2,none⟩) (by simp;omega) (.string T);have e0:=O.cell 0;have e1:=O.cell 1;have e2:=O.cell 2;have m:=x.cell 0;have j:=x.cell 1;have i:=x.cell 2;have C:=x.frozen 0;have F:=x.frozen 1;have D:=x.frozen 2;simp at m j i d0 e0 e1 e2;go_wp2;refine zj (v:= .tuple #[.agg #[.int .u64 id,.string ByteArray.empty,.string T],.int .i64 sz,.int .i64 0]) (by simp[results,xM,go_sem,oA,dO x]) rfl ?_;refine⟨lp L.out rfl,⟨max p (u+n), ?_⟩, ?_⟩
  ·exact(((N.dN (p:=⟨c.heap.size,2,none⟩) (by simp;omega) _).dN (by simp;omega) _).dN (by simp;omega) _).dN (by simp;omega) _
  exact(((Y.setCell (p:=⟨c.heap.size,2,none⟩) (.inr (by simp;omega)) _).setCell (.inr (by simp)) _).setCell (.inr (by simp)) _).setCell (.inr (by simp)) _
 rw[zi y]at z;have L:=za z;have HT:Hid (∀w,Calls prog 118 #[.int .i64 S] w fun e w'=>e= .returned (.int .i64 3)/\Below w.heap.size w w'):=za (fun w=>(qA S w (by have:=G y;omega) (by have:=G y;omega)).mono fun e w' ⟨he,hb⟩=>⟨by rw[he];rcases G y with h|h<;>subst h<;>rfl,hb⟩);clear z G y;go_enter Zk,Za
 go_wp2_with fail
 refine(HN.out _).mono ?_;rintro e c ⟨rfl,d⟩;have b:af c w.heap.size 84 #[.int .u64 0,.string ⟨#[]⟩,.string ⟨#[]⟩]:=(d.block w.heap.size (by simp)).trans (af.new w _ _);have E:ae [] w c:=((ae.refl [] w).alloc _).trans' (ae.ah d (zg _)) (by simp);have cr:w.heap.size<c.heap.size:=by have:=d.size;simp at this;omega
 clear d;dsimp only;have R:=B.only E (by simp);have m:=b.cell 0;have j:=b.cell 1;have i:=b.cell 2;have C:=b.frozen 0;have F:=b.frozen 1;have D:=b.frozen 2;simp at m j i;go_wp2_with fail
 refine(Z.out _ (R.alloc _)).mono ?_;rintro e W ⟨rfl,N,o⟩;have M:=o.size;simp only[zq]at M;have U:=(b.alloc _).only o (by simp;omega);have Y:ae [k] w W:=((E.mono (by simp)).alloc _).trans o;clear m j i C F D;go_wp2_with fail
 refine(HT.out _).mono ?_;rintro e w3 ⟨rfl,I⟩;have wW:ae [k] w w3:=Y.trans (ae.ah I (zg _)|>.mono (by simp));have UJ:ra w3 k a _ _ _:=N.only (ae.ah I (zg _)) (by simp);have A:af w3 w.heap.size 84 #[.int .u64 0,.string ⟨#[]⟩,.string ⟨#[]⟩]:=(I.block w.heap.size (by omega)).trans U;have m:=A.cell 0;have j:=A.cell 1;have i:=A.cell 2;have C:=A.frozen 0;have F:=A.frozen 1;have D:=A.frozen 2;simp at m j i;go_wp2;refine zj (v:= .tuple #[.agg #[.int .u64 0,.string ByteArray.empty,.string ByteArray.empty],.int .i64 0,.int .i64 3]) (by simp[results,xM,go_sem,oA,dO A]) rfl ?_;refine⟨lp L.out rfl,⟨max p (u+n), ?_⟩, ?_⟩
 ·exact((UJ.dN (by simp;omega) _).dN (by simp;omega) _).dN (by simp;omega) _
 exact(wW.on fun _=>inferInstance)
theorem abV (most c:Int)(s:ByteArray)(l:(aj most s).1=0):
 ((aY (aj most s).2.2.1 c).1=0->(aQ most c s).1=0/\(aQ most c s).2.1=(aj most s).2.1/\(aQ most c s).2.2.1=⟨(aY (aj most s).2.2.1 c).2.toArray⟩/\(aQ most c s).2.2.2.1=(aj most s).2.2.2)/\
 ((aY (aj most s).2.2.1 c).1≠0->(aQ most c s).1=(if(aY (aj most s).2.2.1 c).1=2 then 3 else(aY (aj most s).2.2.1 c).1)/\(aQ most c s).2.1=0/\(aQ most c s).2.2.1=ByteArray.empty/\(aQ most c s).2.2.2.1=0):=by
 rw[bC,zh (by rw[l];simp)];have k:=px (aj most s).2.2.1;have j:=fun h=>lW (aj most s).2.2.1 c h
 generalize (aj most s).2.2.1=b at*;have hz:aY b c=if(aB b).2.2≠0 then((aB b).2.2,[])else if c<(aB b).1 then(5,[])else jf (b.extract (aB b).2.1 b.size) (aB b).1:=rfl
 by_cases d:(aB b).2.2≠0
 ·rw[zi d]at hz;rw[zi d,hz];refine⟨fun h=>absurd h d,fun _=>⟨?_,rfl,rfl,rfl⟩⟩;rcases k d with h|h|h<;>rw[h]<;>rfl
 rw[zh d]at hz;rw[zh d];have d:=zC.1 d;by_cases i:c<(aB b).1
 ·rw[zi i]at hz;rw[zi i,hz];exact⟨(fun h=>by cases h),(fun _=>⟨rfl,rfl,rfl,rfl⟩)⟩
 rw[zh i];by_cases e:(aY b c).1≠0
 ·rw[zi e];refine⟨fun h=>absurd h e,fun _=>⟨?_,rfl,rfl,rfl⟩⟩;rcases j e d (by omega)with h|h<;>rw[h]<;>rfl
 rw[zh e];exact⟨fun _=>⟨rfl,rfl,rfl,rfl⟩,fun h=>absurd h e⟩
theorem FG {x:Int×Nat×ByteArray×Nat×Nat}{b:Nat}{c:ByteArray}(h:x.1=a)(i:x.2.1=b)(j:x.2.2.1=c)(e:x.2.2.2.1=d):Ending.returned (.tuple #[.agg #[.int .u64 b,.string ByteArray.empty,.string c],.int .i64 d,.int .i64 a])=Ck x:=by
 subst h;subst i;subst j;subst e;rfl
theorem vU (most i:Int)(s:ByteArray)(w:World)(hs:s.size<=9223372036854775807)(gP: -9223372036854775808<=most)(sn:most<=9223372036854775807):
 Calls prog 83 #[.int .i64 most,.int .i64 i,.pointer none,.string s] w fun e w'=>e=Ck (aQ most i s)/\Below w.heap.size w w':=by
 have HN:=za (fun w=>kv most s w hs gP sn);have U:=abV most i s;have N:=bC most i s;have W:=vT most s;have bG:=rV most s;generalize aQ most i s=X at*;generalize aj most s=ab at*;obtain⟨K,id,body,sz⟩:=ab;dsimp only at*;rcases eY K with⟨F,h1,h2⟩|⟨F,h1,h2⟩
 ·subst F;obtain⟨d,o,Y⟩:=bG rfl;obtain⟨S,iH⟩:=U rfl;clear W bG N U;have HV:=za (fun w=>IL body i w (by omega));have I:(aY body i).1≠0->0<=(aY body i).1/\(aY body i).1<=12:=fun h=>by
   have hz:aY body i=if(aB body).2.2≠0 then((aB body).2.2,[])else if i<(aB body).1 then(5,[])else jf (body.extract (aB body).2.1 body.size) (aB body).1:=rfl
   by_cases J:(aB body).2.2≠0
   ·rw[hz,zi J];have:=px body J;simp only;omega
   by_cases g2:i<(aB body).1
   ·rw[hz,zh J,zi g2];simp
   have:=lW body i h (zC.1 J) (by omega);omega
  generalize aY body i=aa at*;obtain⟨L,l⟩:=aa;dsimp only at*;generalize (⟨l.toArray⟩:ByteArray)=T at*;rcases eY L with⟨z,r1,r2⟩|⟨z,r1,r2⟩
  ·subst z;obtain⟨r,u,E,D⟩:=S rfl;have C:=za (FG r u E D);clear S iH r u E D I;go_enter Zk,Za
   go_wp2_with fail
   refine(HN.out _).mono ?_;rintro e c ⟨rfl,d⟩;have b:af c w.heap.size 84 #[.int .u64 0,.string ⟨#[]⟩,.string ⟨#[]⟩]:=(d.block w.heap.size (by simp)).trans (af.new w _ _);have G:ae [] w c:=((ae.refl [] w).alloc _).trans' (ae.ah d (zg _)) (by simp);have cr:w.heap.size<c.heap.size:=by have:=d.size;simp at this;omega
   clear d;dsimp only;have m:=b.cell 0;have k:=b.cell 1;have j:=b.cell 2;have y:=b.frozen 0;have B:=b.frozen 1;have A:=b.frozen 2;simp at m k j;go_wp2_with fail
   refine(HV.out _).mono ?_;rintro e H ⟨rfl,o⟩;have O:=o.size;simp only[zq]at O;have R:ae [] (c.alloc (.cells #[.int .u64 id,.string ⟨#[]⟩,.string body] 84)) H:=ae.ah o (zg _);have GX:=(b.alloc _).only R (by simp);have M:=(af.new c 84 #[.int .u64 id,.string ⟨#[]⟩,.string body]).only R (by simp);have JO:ae [] w H:=(G.alloc _).trans R;clear m k j y B A;have d0:=M.cell 2;have d1:=M.frozen 2;have Z:=M.set 2 (.string T);have n:=GX.dN (p:=⟨c.heap.size,2,none⟩) (by simp;omega) (.string T);have e0:=Z.cell 0;have r:=Z.cell 1;have u:=Z.cell 2;have m:=n.cell 0;have k:=n.cell 1;have j:=n.cell 2;have y:=n.frozen 0;have B:=n.frozen 1;have A:=n.frozen 2;simp at m k j d0 e0 r u;have q:Below w.heap.size w H:=JO.below (zg _) (by simp);go_wp2;refine zj (v:= .tuple #[.agg #[.int .u64 id,.string ByteArray.empty,.string T],.int .i64 sz,.int .i64 0]) (by simp[results,xM,go_sem,oA,dO n]) rfl ?_;exact⟨C.out,(((q.setCell (by simp;omega) _).setCell (by simp) _).setCell (by simp) _).setCell (by simp) _⟩
  obtain⟨r,u,E,D⟩:=iH z;have C:=za (FG r u E D);have HT:=za (fun w=>qA L w (I z).1 (by have:=(I z).2;omega));generalize (if L=2 then(3:Int)else L)=t at*;clear S iH r u E D I z;go_enter Zk,Za
  go_wp2_with fail
  refine(HN.out _).mono ?_;rintro e c ⟨rfl,d⟩;have b:af c w.heap.size 84 #[.int .u64 0,.string ⟨#[]⟩,.string ⟨#[]⟩]:=(d.block w.heap.size (by simp)).trans (af.new w _ _);have G:ae [] w c:=((ae.refl [] w).alloc _).trans' (ae.ah d (zg _)) (by simp);have cr:w.heap.size<c.heap.size:=by have:=d.size;simp at this;omega
  clear d;dsimp only;have m:=b.cell 0;have k:=b.cell 1;have j:=b.cell 2;have y:=b.frozen 0;have B:=b.frozen 1;have A:=b.frozen 2;simp at m k j;go_wp2_with fail
  refine(HV.out _).mono ?_;rintro e H ⟨rfl,o⟩;have O:=o.size;simp only[zq]at O;have GX:=(b.alloc _).only (ae.ah o (zg _)) (by simp);have JO:ae [] w H:=(G.alloc _).trans (ae.ah o (zg _));clear m k j y B A;go_wp2_with fail
  refine(HT.out _).mono ?_;rintro e w3 ⟨rfl,Y⟩;have wW:ae [] w w3:=JO.trans (ae.ah Y (zg _));have q:Below w.heap.size w w3:=wW.below (zg _) (by simp);have x:af w3 w.heap.size 84 #[.int .u64 0,.string ⟨#[]⟩,.string ⟨#[]⟩]:=(Y.block w.heap.size (by omega)).trans GX;have m:=x.cell 0;have k:=x.cell 1;have j:=x.cell 2;have y:=x.frozen 0;have B:=x.frozen 1;have A:=x.frozen 2;simp at m k j;go_wp2;refine zj (v:= .tuple #[.agg #[.int .u64 0,.string ByteArray.empty,.string ByteArray.empty],.int .i64 0,.int .i64 t]) (by simp[results,xM,go_sem,oA,dO x]) rfl ?_;exact⟨C.out,((q.setCell (by simp) _).setCell (by simp) _).setCell (by simp) _⟩
 obtain⟨_,rfl,rfl,rfl⟩:K=K/\id=0/\body=ByteArray.empty/\sz=0:=by have:=W F;simpa using this
 have C:=za (by have:=N;rw[zi F]at this;exact this);clear N W bG F U;go_enter Zk,Za
 go_wp2_with fail
 refine(HN.out _).mono ?_;rintro e c ⟨rfl,d⟩;have b:af c w.heap.size 84 #[.int .u64 0,.string ⟨#[]⟩,.string ⟨#[]⟩]:=(d.block w.heap.size (by simp)).trans (af.new w _ _);have G:ae [] w c:=((ae.refl [] w).alloc _).trans' (ae.ah d (zg _)) (by simp);have cr:w.heap.size<c.heap.size:=by have:=d.size;simp at this;omega
 clear d;dsimp only;have q:Below w.heap.size w c:=G.below (zg _) (by simp);have m:=b.cell 0;have k:=b.cell 1;have j:=b.cell 2;have y:=b.frozen 0;have B:=b.frozen 1;have A:=b.frozen 2;simp at m k j;go_wp2;refine zj (v:= .tuple #[.agg #[.int .u64 0,.string ByteArray.empty,.string ByteArray.empty],.int .i64 0,.int .i64 K]) (by simp[results,xM,go_sem,oA,KS b]) rfl ?_;refine⟨lp C.out rfl, ?_⟩;first
  |exact(((q.setCell (by simp) _).setCell (by simp) _).setCell (by simp) _).alloc (by have:=q.size;simp;omega) _
  |exact((q.setCell (by simp) _).setCell (by simp) _).setCell (by simp) _
theorem oQ (id:Nat)(body:ByteArray)(w:World)(hid:id<18446744073709551616)(j:65536<(aR id).length+body.size)(d:body.size<=1000000):
 Calls prog 76 #[.int .u64 id,.string body] w fun e w'=>e= .returned (.tuple #[.string ByteArray.empty,.int .i64 5])/\Below w.heap.size w w':=by
 have b:=za (Cj id w hid);have h:=bA 10 id (by omega) (by omega);generalize (aR id).length=c at*;have i:(65536:Int)<(c:Int)+body.size:=by omega
 go_enter func76,ntmps76
 go_wp2_with fail
 refine b.out.mono ?_;rintro e w' ⟨rfl,rfl⟩;go_wp2;go_ret2
 exact⟨rfl,zm _ _⟩
def vV (id:Nat)(body:ByteArray):ByteArray:=if 65536<(aR id).length+(pack body.data.toList).length then ByteArray.empty else⟨(eF id (pack body.data.toList)).toArray⟩
def vW (id:Nat)(body:ByteArray):Int:=if 65536<(aR id).length+(pack body.data.toList).length then 5 else 0
theorem AR (id:Nat)(body:ByteArray)(w:World)(hid:id<18446744073709551616)(j:body.size<=65536):
 Calls prog 81 #[.int .u64 id,.string body] w fun e w'=>e= .returned (.tuple #[.string (vV id body),.int .i64 (vW id body)])/\Below w.heap.size w w':=by
 have d:=za (fun w=>Xh body w j);have c:=sP body.data.toList (by rw[aa];omega);rw[aa]at c;have hz:(⟨(pack body.data.toList).toArray⟩:ByteArray).size=(pack body.data.toList).length:=bP _;have i:Hid (∀w,Calls prog 76 #[.int .u64 id,.string ⟨(pack body.data.toList).toArray⟩] w fun e w'=>e= .returned (.tuple #[.string (vV id body),.int .i64 (vW id body)])/\Below w.heap.size w w'):=za (fun w=>by
  unfold vV vW;by_cases h:65536<(aR id).length+(pack body.data.toList).length
  ·rw[zi h,zi h];exact oQ id ⟨(pack body.data.toList).toArray⟩ w hid (by rw[hz];exact h) (by rw[hz];omega)
  rw[zh h,zh h];exact vS id ⟨(pack body.data.toList).toArray⟩ w hid (by rw[hz];omega))
 generalize (⟨(pack body.data.toList).toArray⟩:ByteArray)=B at*;generalize vV id body=S at*;generalize vW id body=E at*;clear c hz;go_enter func81,ntmps81
 go_wp2_with fail
 refine(d.out _).mono ?_;rintro e m ⟨rfl,b⟩;have hz:=b.size;go_wp2_with fail
 refine(i.out _).mono ?_;rintro e l ⟨rfl,k⟩;go_wp2;go_ret2
 exact⟨rfl,b.trans (k.mono hz)⟩
theorem Qy :∀(f n:Nat),n<2^f->n<2^Dg f n/\(0<n->2^(Dg f n-1)<=n)
 |0,n,h=>by
  have:n=0:=by simpa using h
  subst this;simp[Dg]
 |f+1,n,h=>by
  by_cases d:n=0
  ·subst d;simp[Dg]
  have k:n/2<2^f:=by rw[Zl]at h;omega
  obtain⟨e,j⟩:=Qy f (n/2) k;simp only[Dg,zh d,Nat.add_sub_cancel];refine⟨by rw[Zl];omega,fun _=> ?_⟩;by_cases hz:n/2=0
  ·rw[hz,ll];simp;omega
  have i:=j (by omega);obtain⟨b,c⟩:∃b,Dg f (n/2)=b+1:=by
   cases c:Dg f (n/2)with
   |zero=>rw[c]at e;simp at e;omega
   |succ b=>exact⟨b,rfl⟩
  rw[c]at i⊢;simp only[Nat.add_sub_cancel]at i;rw[Zl];omega
theorem KT :∀(j n:Nat),2^(8*j)<=n->j+1<=(cJ n).length
 |0,n,h=>by
  rw[gV (n:=n) (by simp at h;omega)];simp
 |j+1,n,h=>by
  rw[Tt]at h;have b:0<2^(8*j):=Nat.pow_pos (by omega);have:=KT j (n/256) (by omega);rw[gV (n:=n) (by omega)];simp;omega
theorem Qz (n:Nat)(h:n<18446744073709551616):(jF n ((bl n+7)/8)).reverse=cJ n/\(bl n+7)/8<=8:=by
 by_cases l:n=0
 ·subst l;rw[show bl 0=0 from ll 64,dy];exact⟨rfl,by omega⟩
 obtain⟨c,d⟩:=Qy 64 n (by simpa using h);have p:=KP 64 n (by simpa using h) (by omega);change n<2^bl n at c
 change 0<n->2^(bl n-1)<=n at d
 generalize bl n=b at*;have m:n<2^(8*((b+7)/8)):=zU c (yu (by omega) (by omega));have j:=Mj _ n m;refine⟨?_,by omega⟩;rw[<-j];have o:(b+7)/8<=(cJ n).length:=by
  obtain⟨k,i⟩:∃k,(b+7)/8=k+1:=by
   refine⟨(b+7)/8-1, ?_⟩;have:0<b:=by
    rcases Zi b with e|e
    ·subst e;simp at c;omega
    exact e
   omega
  rw[i];refine KT k n (zF (yu (by omega) ?_) (d (by omega)));omega
 rw[show(b+7)/8-(cJ n).length=0 from by omega];rfl
theorem KU (n:Nat)(w:World)(d:n<18446744073709551616):
 Calls prog 174 #[.int .u64 n] w fun e w'=>e= .returned (.string ⟨(cJ n).toArray⟩)/\Below w.heap.size w w':=by
 obtain⟨h,o⟩:=Qz n d;have s:=za (KQ n w d);obtain⟨k,l⟩:∃k,(bl n+7)/8=k:=⟨_,rfl⟩
 rw[l]at h o;have u:=za (fun w=>Fj n k w d o);have x:=za h;have r:Hid ((((bl n:Nat):Int)+7)/8=(k:Int)):=za (by omega);have p:Hid (Int.tdiv (((bl n:Nat):Int)+7) 8=(k:Int)):=za (by rw[Int.tdiv_eq_ediv_of_nonneg (by omega)];omega);have B:=KP 64 n (by simpa using d) (by omega);generalize bl n=b at*;clear h l;go_enter func174,ntmps174
 go_wp2_with fail
 refine s.out.mono ?_;rintro e w' ⟨rfl,rfl⟩;go_wp2_with fail
 first|rw[r.out]|rw[p.out]
 refine(u.out _).mono ?_;rintro e z ⟨rfl,m,j⟩;have c:=bd n k;have i:=za (MO w.heap.size w.heap.size k (jF n k) z (by rw[c];exact m) (by rw[c];omega));rw[c,x.out]at i;have y:=za j;clear m j c;go_wp2_with fail
 refine i.out.mono ?_;rintro e A ⟨rfl,q⟩;go_wp2;go_ret;exact⟨rfl,(y.out.trans q).below⟩
theorem FH (n:Nat)(w:World)(k:n<18446744073709551616):
 Calls prog 218 #[.int .u64 n] w fun e w'=>e= .returned (.agg #[.string ⟨(cJ n).toArray⟩,.bool false,.slice none 0 0])/\Below w.heap.size w w':=by
 have r:=za (fun w=>KU n w k);generalize (⟨(cJ n).toArray⟩:ByteArray)=T at*;go_enter func218,ntmps218
 go_wp2_with fail
 refine(r.out _).mono ?_;rintro e c ⟨rfl,b⟩;have l:=b.size;simp only[zq]at l;have y:w.heap.size<c.heap.size:=by omega
 have m:Hid (Below w.heap.size w c):=za (((zm w.heap.size w).alloc (zg _) _).trans (b.mono (by simp)));have p:=za ((af.new w 28 #[.string ⟨#[]⟩,.bool false,.slice none 0 0]).ag b (by simp));clear b;go_wp2_with fail
 refine(pf T c).mono ?_;rintro e q ⟨rfl,d⟩;have i:Hid (Below w.heap.size w q):=za (m.out.trans (d.mono (by omega)));obtain⟨j,h,o,u,s,x⟩:=a8 (p.out.ag d (by omega));clear d;go_wp2;refine zj (v:= .agg #[.string T,.bool false,.slice none 0 0]) (by simp[results,results218,go_sem,j,h,o]) rfl ⟨rfl, ?_⟩;exact((i.out.setCell (by simp) _).setCell (by simp) _).setCell (by simp) _
