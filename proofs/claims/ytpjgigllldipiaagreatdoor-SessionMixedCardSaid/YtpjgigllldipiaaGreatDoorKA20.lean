/- packed.Next without a meter; plain.Put and packed.Put of what is too long. -/
import Derived.Test.YtpjgigllldipiaaGreatDoorKA18
import Derived.Test.YtpjgigllldipiaaGreatDoorKA19
set_option linter.all false
set_option maxRecDepth 100000
set_option maxHeartbeats 2000000
namespace Go.Proofs.YtpjgigllldipiaaGreatDoor
open Tryz
open Go.RowKit Go.Maps
def xr:=@underlying35
def xQ:=@results80
def Zj:=@ntmps80
def Zx:=@func80
theorem Ml (id:Nat)(body:ByteArray):(⟨(aQ ((aQ id).length+body.size)).toArray⟩++⟨(aQ id).toArray⟩++body:ByteArray)=⟨(eM id body.data.toList).toArray⟩:=by
 apply aL;rw[bn,bn,eM,zp,aa];simp
theorem vh (id:Nat)(body:ByteArray)(w:World)(hid:id<18446744073709551616)(m:(aQ id).length+body.size<=65536):
 Calls prog 73 #[.int .u64 id,.string body] w fun e w'=>e= .returned (.tuple #[.string ⟨(eM id body.data.toList).toArray⟩,.int .i64 0])/\Below w.heap.size w w':=by
 have k:=za (BH id w hid);have c:=za (fun w=>uT ((aQ id).length+body.size) w (by omega));have h:=za (fun w=>uT id w hid);have d:=za (Ml id body);have j:=bF 10 id (by omega) (by omega);have l:=bF 10 ((aQ id).length+body.size) (by omega) (by omega);rw[<-bH]at l;have p:(⟨(aQ id).toArray⟩:ByteArray).size<=10:=by rw[bH];exact j
 rw[show(((aQ id).length+body.size:Nat):Int)=((aQ id).length:Int)+body.size from by omega]at c;generalize (⟨(aQ id).toArray⟩:ByteArray)=TI at*;generalize (⟨(aQ ((aQ id).length+body.size)).toArray⟩:ByteArray)=TL at*;generalize (aQ id).length=li at*;go_enter func73,ntmps73
 go_wp2_with fail
 refine k.out.mono ?_;rintro e w' ⟨rfl,rfl⟩;go_wp2_with fail
 refine(c.out _).mono ?_;rintro e o ⟨rfl,b⟩;have hz:=b.size;go_wp2_with fail
 refine(h.out _).mono ?_;rintro e n ⟨rfl,i⟩;go_wp2;go_ret2
 exact⟨by rw[<-d.out];rfl,b.trans (i.mono hz)⟩
theorem Ke (w:World):(zeroValue 35).run prog w= .ok (.int .i64 0) w:=by kernel_rfl
theorem pZ (b:Int)(w:World)(x:0<=b)(z:b<=100):
 Calls prog 125 #[.int .i64 b] w fun e w'=>e= .returned (.int .i64 (if b=2 then 3 else b))/\Below w.heap.size w w':=by
 have u:= @run_makeMap prog;obtain⟨p,y,m,k⟩:=(World.ownsMap_made (H:=Unit) w prog 35 (plainElem prog 35)).update (int_keyed xr) underlying216 (by decide) (keyOf_int_mk xr (a:=2) (by decide)) (plainElem_int xr (a:=3) (by decide));have i:Below w.heap.size w p:=((zq w.heap.size w).alloc (zf _) _).grown k (by simp) (by simp);have l:=keyOf_int_mk (P:=prog) xr (a:=b) (WalkArith.wf_i64 (by omega));have n:=za i;have o:=za l;clear i l k;by_cases h:b=2
 ·subst h;have r:Maps.has ((DataW.map []:DataW Unit).put (.int .i64 2) (.lit (.int .i64 3))) (.int .i64 2)=true:=rfl;have j:((DataW.map []:DataW Unit).put (.int .i64 2) (.lit (.int .i64 3))).atKey (.int .i64 2) (.lit (.int .i64 0))= .lit (.int .i64 3):=rfl;have s:=za j;generalize (DataW.map []:DataW Unit).put (.int .i64 2) (.lit (.int .i64 3))=D at*;clear j;go_enter func125,ntmps125
  go_wp2_with (at_lookup;refine Zs _ rfl _ _ 216 rfl 35 35 .i64 (int_keyed xr) underlying216 xr (Ke _) w.heap.size 1 D rfl m _ _ rfl o.out ?_;intro q c d;obtain rfl:=Pu (c.symm.trans s.out);clear c d)
  go_ret;exact⟨rfl,n.out⟩
 have r:Maps.has ((DataW.map []:DataW Unit).put (.int .i64 2) (.lit (.int .i64 3))) (.int .i64 b)=false:=by
  rw[Maps.has_put_other (by intro e;injection e;omega)];rfl
 generalize (DataW.map []:DataW Unit).put (.int .i64 2) (.lit (.int .i64 3))=D at*;rw[zj h];clear h;go_enter func125,ntmps125
 go_wp2_with (at_lookup;refine Zs _ rfl _ _ 216 rfl 35 35 .i64 (int_keyed xr) underlying216 xr (Ke _) w.heap.size 1 D rfl m _ _ rfl o.out ?_;intro q c d;clear c d)
 go_ret;exact⟨rfl,n.out⟩
open Go.RowKit
theorem ae.on {L:List Nat}{a w w':World}(h:ae L a w)(f:dJ L a w->dJ L a w'):ae L a w':=(f ⟨h⟩).out
def BO (x:Int×Nat×ByteArray×Nat×Nat):Ending:= .returned (.tuple #[.agg #[.int .u64 x.2.1,.string ByteArray.empty,.string x.2.2.1],.int .i64 x.2.2.2.1,.int .i64 x.1])
theorem kQ {x:Int×Nat×ByteArray×Nat×Nat}{a:Int}{b:Nat}{c:ByteArray}{d m:Nat}{e:Int}(h:x=(a,b,c,d,m))(hd:e=d):Ending.returned (.tuple #[.agg #[.int .u64 b,.string ByteArray.empty,.string c],.int .i64 e,.int .i64 a])=BO x:=by
 subst h;subst hd;rfl
theorem vi (most:Int)(s:ByteArray)(h:(ai most s).1≠0):ai most s=((ai most s).1,0,ByteArray.empty,0):=by
 rw[eo]at h⊢;split
 ·rfl
 split
 ·rfl
 split
 ·rfl
 rename_i b d c;rw[zj b,zj d,zj c]at h;exact absurd rfl h
theorem rp (most:Int)(s:ByteArray)(h:(ai most s).1=0):(ai most s).2.2.1.size<=s.size/\(ai most s).2.2.2<=s.size/\(ai most s).2.1<18446744073709551616:=by
 rw[eo]at h⊢;split at h
 ·rename_i b;exact absurd h b
 split at h
 ·simp at h
 split at h
 ·simp at h
 rename_i b e c
 rw[zj b,zj e,zj c];simp only[ne_eq,zJ]at b c;have d:=gQ _ c;have hz:=an s (ar most s).2.1 ((ar most s).2.1+(ar most s).1) (by omega);refine⟨?_,by simp only;omega,d.2.2.2⟩;simp only;rw[ByteArray.size_extract,hz];omega
theorem lz (s:ByteArray)(most:Int)(h:(ba s most).1≠0)(hx:(aB s).2.2=0)(d:((aB s).1:Int)<=most):(ba s most).1=2\/(ba s most).1=3:=by
 unfold ba at h⊢;rw[zj (by rw[hx];simp),zj (by omega)]at h⊢;unfold iD at h⊢;generalize (s.extract (aB s).2.1 s.size)=b at*;generalize b.size+1=f at*;have:∀(f k:Nat) (out:List UInt8),(gK b (aB s).1 f k out).1=0\/(gK b (aB s).1 f k out).1=2\/(gK b (aB s).1 f k out).1=3:=by
  intro f;induction f with
  |zero=>intro k out;right;left;rfl
  |succ f ih=>
   intro k out;unfold gK;split
   ·split
    ·exact ih _ _
    rename_i i e
    simp only;have:∀(size k c:Nat) (out:List UInt8),(bT b size k c out).1=0\/(bT b size k c out).1=2\/(bT b size k c out).1=3:=by
     intro size k c out;unfold bT;split
     ·right;left;rfl
     split
     ·right;right;rfl
     split
     ·split
      ·right;left;rfl
      left;rfl
     left;rfl
    exact this _ _ _ _
   split
   ·right;left;rfl
   left;rfl
 have:=this f 0 [];omega
theorem oP (s:ByteArray)(h:(aB s).2.2≠0):(aB s).2.2=2\/(aB s).2.2=3\/(aB s).2.2=5:=by
 unfold aB at h⊢;split
 ·split
  ·right;right;rfl
  rename_i b c;rw[zl b,zj c]at h;exact absurd b h
 rename_i b
 have:=Ld s 10 0 0 b;simp only;unfold aw;omega
theorem kR {w:World}{g:Nat}{t:TypeId}{i j e:Value}(h:af w g t #[i,j,e])(b c d:Value):af (((w.setCell ⟨g,0,none⟩ b).setCell ⟨g,1,none⟩ c).setCell ⟨g,2,none⟩ d) g t #[b,c,d]:=((h.set 0 b).set 1 c).set 2 d
theorem dF {w:World}{g:Nat}{t:TypeId}{i j e:Value}(h:af w g t #[i,j,e])(b c d:Value):(((w.setCell ⟨g,0,none⟩ b).setCell ⟨g,1,none⟩ c).setCell ⟨g,2,none⟩ d).cell? ⟨g,0,none⟩=some b/\(((w.setCell ⟨g,0,none⟩ b).setCell ⟨g,1,none⟩ c).setCell ⟨g,2,none⟩ d).cell? ⟨g,1,none⟩=some c/\(((w.setCell ⟨g,0,none⟩ b).setCell ⟨g,1,none⟩ c).setCell ⟨g,2,none⟩ d).cell? ⟨g,2,none⟩=some d:=
 ⟨(kR h b c d).cell 0,(kR h b c d).cell 1,(kR h b c d).cell 2⟩
theorem Kf {w:World}{g:Nat}{t:TypeId}{i j e:Value}(h:af w g t #[i,j,e])(o:Obj)(b c d:Value):((((w.setCell ⟨g,0,none⟩ b).setCell ⟨g,1,none⟩ c).setCell ⟨g,2,none⟩ d).alloc o).cell? ⟨g,0,none⟩=some b/\((((w.setCell ⟨g,0,none⟩ b).setCell ⟨g,1,none⟩ c).setCell ⟨g,2,none⟩ d).alloc o).cell? ⟨g,1,none⟩=some c/\((((w.setCell ⟨g,0,none⟩ b).setCell ⟨g,1,none⟩ c).setCell ⟨g,2,none⟩ d).alloc o).cell? ⟨g,2,none⟩=some d:=
 ⟨((kR h b c d).alloc o).cell 0,((kR h b c d).alloc o).cell 1,((kR h b c d).alloc o).cell 2⟩
theorem Ah (most o:Int)(l:Nat)(s:ByteArray)(w:World)(W:s.size<=9223372036854775807)(R: -9223372036854775808<=most)(rF:most<=9223372036854775807)
 (hx:(ai most s).1≠0\/(aB (ai most s).2.2.1).2.2≠0\/o<(aB (ai most s).2.2.1).1):
 Calls prog 80 #[.int .i64 most,.int .i64 o,.pointer (some ⟨l,0,none⟩),.string s] w fun e w'=>e=BO (aS most o s)/\ae [] w w':=by
 have L:=za (fun w=>jZ most s w W R rF);have q:=za (bI most o s);have I:=vi most s;have F:=rp most s;generalize aS most o s=X at*;generalize ai most s=y at*;obtain⟨C,id,body,sz⟩:=y;dsimp only at*;rcases eF C with⟨u,h1,Z⟩|⟨u,h1,Z⟩
 ·subst u;obtain⟨d,aM,p⟩:=F rfl;clear I F;have H:=za (fun l w=>Fo body o l w (by omega));have G:=za (fun l w=>CX body o l w (by omega));have J:=oP body;generalize aB body=aa at*;obtain⟨n,hd,es⟩:=aa;dsimp only at*;rcases eF es with⟨g0,g1,g2⟩|⟨g0,g1,g2⟩
  ·subst g0;have N:o<n:=by omega
   have x:=za (by have:=q.out;rw[zj (by simp),zj (by simp),zl N]at this;exact this);have S:=za (fun l w=>G.out l w rfl N);have B:=za (fun w=>pZ 5 w (by omega) (by omega));simp only[show¬((5:Int)=2)from by omega,Zq]at B;clear H G q J hx;go_enter Zx,Zj
   go_wp2_with fail
   refine(L.out _).mono ?_;rintro e i ⟨rfl,d⟩;have b:af i w.heap.size 74 #[.int .u64 0,.string ⟨#[]⟩,.string ⟨#[]⟩]:=(d.block w.heap.size (by simp)).trans (af.new w _ _);have r:ae [] w i:=((ae.refl [] w).alloc _).trans' (ae.ag d (zf _)) (by simp);have O:w.heap.size<i.heap.size:=by have:=d.size;simp at this;omega
   clear d;dsimp only;have k:=b.cell 0;have j:=b.cell 1;have m:=b.cell 2;have A:=b.frozen 0;have z:=b.frozen 1;have E:=b.frozen 2;simp at k j m;go_wp2_with fail
   refine(S.out _ _).mono ?_;rintro e w' ⟨rfl,rfl⟩;go_wp2_with fail
   refine(B.out _).mono ?_;rintro e w3 ⟨rfl,p⟩;have c:af w3 w.heap.size 74 #[.int .u64 0,.string ⟨#[]⟩,.string ⟨#[]⟩]:=(p.block w.heap.size (by simp;omega)).trans (b.alloc _);have K:ae [] w w3:=(r.alloc _).trans' (ae.ag p (zf _)) (by simp);have k:=c.cell 0;have j:=c.cell 1;have m:=c.cell 2;have A:=c.frozen 0;have z:=c.frozen 1;have E:=c.frozen 2;simp at k j m;go_wp2;refine zo (v:= .tuple #[.agg #[.int .u64 0,.string ByteArray.empty,.string ByteArray.empty],.int .i64 0,.int .i64 5]) (by simp[results,xQ,go_sem,nQ,dF c]) rfl ?_;refine⟨kQ x.out rfl, ?_⟩;exact(K.on fun _=>inferInstance)
  have D:∃t:Int,(if es=5 then(5:Int)else 3)=t/\∀w,Calls prog 125 #[.int .i64 es] w fun e w'=>e= .returned (.int .i64 t)/\Below w.heap.size w w':=by
   refine⟨_,rfl,fun w=>(pZ es w (by omega) (by omega)).mono fun e w' ⟨he,Y⟩=>⟨by rw[he];rcases J g0 with h|h|h<;>subst h<;>rfl,Y⟩⟩
  obtain⟨t,M,D⟩:=D;have B:=za D;have x:=za (by have:=q.out;rw[zj (by simp),zl g0,M]at this;exact this);have U:=za (fun l w=>H.out l w g0);clear H G q J hx M D g0;go_enter Zx,Zj
  go_wp2_with fail
  refine(L.out _).mono ?_;rintro e i ⟨rfl,d⟩;have b:af i w.heap.size 74 #[.int .u64 0,.string ⟨#[]⟩,.string ⟨#[]⟩]:=(d.block w.heap.size (by simp)).trans (af.new w _ _);have r:ae [] w i:=((ae.refl [] w).alloc _).trans' (ae.ag d (zf _)) (by simp);have O:w.heap.size<i.heap.size:=by have:=d.size;simp at this;omega
  clear d;dsimp only;have k:=b.cell 0;have j:=b.cell 1;have m:=b.cell 2;have A:=b.frozen 0;have z:=b.frozen 1;have E:=b.frozen 2;simp at k j m;go_wp2_with fail
  refine(U.out _ _).mono ?_;rintro e w' ⟨rfl,rfl⟩;go_wp2_with fail
  refine(B.out _).mono ?_;rintro e w3 ⟨rfl,p⟩;have c:af w3 w.heap.size 74 #[.int .u64 0,.string ⟨#[]⟩,.string ⟨#[]⟩]:=(p.block w.heap.size (by simp;omega)).trans (b.alloc _);have K:ae [] w w3:=(r.alloc _).trans' (ae.ag p (zf _)) (by simp);have k:=c.cell 0;have j:=c.cell 1;have m:=c.cell 2;have A:=c.frozen 0;have z:=c.frozen 1;have E:=c.frozen 2;simp at k j m;go_wp2;refine zo (v:= .tuple #[.agg #[.int .u64 0,.string ByteArray.empty,.string ByteArray.empty],.int .i64 0,.int .i64 t]) (by simp[results,xQ,go_sem,nQ,dF c]) rfl ?_;refine⟨kQ x.out rfl, ?_⟩;exact(K.on fun _=>inferInstance)
 obtain⟨_,rfl,rfl,rfl⟩:C=C/\id=0/\body=ByteArray.empty/\sz=0:=by have:=I u;simpa using this
 have x:=za (by have:=q.out;rw[zl u]at this;exact this);clear q I F u hx;go_enter Zx,Zj
 go_wp2_with fail
 refine(L.out _).mono ?_;rintro e i ⟨rfl,d⟩;have b:af i w.heap.size 74 #[.int .u64 0,.string ⟨#[]⟩,.string ⟨#[]⟩]:=(d.block w.heap.size (by simp)).trans (af.new w _ _);have r:ae [] w i:=((ae.refl [] w).alloc _).trans' (ae.ag d (zf _)) (by simp);have O:w.heap.size<i.heap.size:=by have:=d.size;simp at this;omega
 clear d;dsimp only;have k:=b.cell 0;have j:=b.cell 1;have m:=b.cell 2;have A:=b.frozen 0;have z:=b.frozen 1;have E:=b.frozen 2;simp at k j m;go_wp2;refine zo (v:= .tuple #[.agg #[.int .u64 0,.string ByteArray.empty,.string ByteArray.empty],.int .i64 0,.int .i64 C]) (by simp[results,xQ,go_sem,nQ,Kf b]) rfl ?_;refine⟨kQ x.out rfl, ?_⟩;exact(r.on fun _=>inferInstance)
theorem Ai (most o:Int)(k a u t p:Nat)(s:ByteArray)(w:World)(hs:s.size<=9223372036854775807)(eH: -9223372036854775808<=most)(rF:most<=9223372036854775807)
 (F:s0 w k a u t p) (ha:a<=9223372036854775807) (hx:(ai most s).1=0) (H:(aB (ai most s).2.2.1).2.2=0) (U:((aB (ai most s).2.2.1).1:Int)<=o) (Z:u+(aB (ai most s).2.2.1).1<=a) (ht:t+(aB (ai most s).2.2.1).1<=9223372036854775807):
 Calls prog 80 #[.int .i64 most,.int .i64 o,.pointer (some ⟨k,0,none⟩),.string s] w fun e w'=>e=BO (aS most o s)/\(∃q,s0 w' k a (u+(aB (ai most s).2.2.1).1) (t+(aB (ai most s).2.2.1).1) q)/\ae [k] w w':=by
 have HN:=za (fun w=>jZ most s w hs eH rF);have HX:=za (bI most o s);have bC:=rp most s hx;generalize aS most o s=X at*;generalize ai most s=ad at*;obtain⟨er,id,body,sz⟩:=ad;dsimp only at*;subst hx;obtain⟨d,aM,I⟩:=bC;have E:=fun h=>lz body o h H U
 have HV:=za (fun w F=>Ir body o k a u t p w (by omega) F ha H U Z ht);have y:=HX.out;rw[zj (by simp),zj (by rw[H];simp),zj (by omega)]at y;generalize (aB body).1=n at*;generalize ba body o=ab at*;obtain⟨M,l⟩:=ab;dsimp only at*;generalize (⟨l.toArray⟩:ByteArray)=T at*;have ag:=F.lt;clear H U Z ht HX;rcases eF M with⟨A,r1,r2⟩|⟨A,r1,r2⟩
 ·subst A;rw[zj (by simp)]at y;have S:=za y;clear y E;go_enter Zx,Zj
  go_wp2_with fail
  refine(HN.out _).mono ?_;rintro e c ⟨rfl,d⟩;have b:af c w.heap.size 74 #[.int .u64 0,.string ⟨#[]⟩,.string ⟨#[]⟩]:=(d.block w.heap.size (by simp)).trans (af.new w _ _);have D:ae [] w c:=((ae.refl [] w).alloc _).trans' (ae.ag d (zf _)) (by simp);have cg:w.heap.size<c.heap.size:=by have:=d.size;simp at this;omega
  clear d;dsimp only;have O:=F.only D (by simp);have j:=b.cell 0;have i:=b.cell 1;have m:=b.cell 2;have C:=b.frozen 0;have B:=b.frozen 1;have G:=b.frozen 2;simp at j i m;go_wp2_with fail
  refine(HV.out _ (O.alloc _)).mono ?_;rintro e W ⟨rfl,J,r⟩;have L:=r.size;simp only[zt]at L;have N:=(b.alloc _).only r (by simp;omega);have R:=(af.new c 74 #[.int .u64 id,.string ⟨#[]⟩,.string body]).only r (by simp;omega);have Y:ae [k] w W:=((D.mono (by simp)).alloc _).trans r;clear j i m C B G;have d0:=R.cell 2;have d1:=R.frozen 2;have K:=R.set 2 (.string T);have z:=N.dE (p:=⟨c.heap.size,2,none⟩) (by simp;omega) (.string T);have e0:=K.cell 0;have e1:=K.cell 1;have e2:=K.cell 2;have j:=z.cell 0;have i:=z.cell 1;have m:=z.cell 2;have C:=z.frozen 0;have B:=z.frozen 1;have G:=z.frozen 2;simp at j i m d0 e0 e1 e2;go_wp2;refine zo (v:= .tuple #[.agg #[.int .u64 id,.string ByteArray.empty,.string T],.int .i64 sz,.int .i64 0]) (by simp[results,xQ,go_sem,nQ,dF z]) rfl ?_;refine⟨kQ S.out rfl,⟨max p (u+n), ?_⟩, ?_⟩
  ·exact(((J.dE (p:=⟨c.heap.size,2,none⟩) (by simp;omega) _).dE (by simp;omega) _).dE (by simp;omega) _).dE (by simp;omega) _
  exact(((Y.setCell (p:=⟨c.heap.size,2,none⟩) (.inr (by simp;omega)) _).setCell (.inr (by simp)) _).setCell (.inr (by simp)) _).setCell (.inr (by simp)) _
 rw[zl A]at y;have S:=za y;have HT:Hid (∀w,Calls prog 125 #[.int .i64 M] w fun e w'=>e= .returned (.int .i64 3)/\Below w.heap.size w w'):=za (fun w=>(pZ M w (by have:=E A;omega) (by have:=E A;omega)).mono fun e w' ⟨he,hb⟩=>⟨by rw[he];rcases E A with h|h<;>subst h<;>rfl,hb⟩);clear y E A;go_enter Zx,Zj
 go_wp2_with fail
 refine(HN.out _).mono ?_;rintro e c ⟨rfl,d⟩;have b:af c w.heap.size 74 #[.int .u64 0,.string ⟨#[]⟩,.string ⟨#[]⟩]:=(d.block w.heap.size (by simp)).trans (af.new w _ _);have D:ae [] w c:=((ae.refl [] w).alloc _).trans' (ae.ag d (zf _)) (by simp);have cg:w.heap.size<c.heap.size:=by have:=d.size;simp at this;omega
 clear d;dsimp only;have O:=F.only D (by simp);have j:=b.cell 0;have i:=b.cell 1;have m:=b.cell 2;have C:=b.frozen 0;have B:=b.frozen 1;have G:=b.frozen 2;simp at j i m;go_wp2_with fail
 refine(HV.out _ (O.alloc _)).mono ?_;rintro e W ⟨rfl,J,r⟩;have L:=r.size;simp only[zt]at L;have N:=(b.alloc _).only r (by simp;omega);have Y:ae [k] w W:=((D.mono (by simp)).alloc _).trans r;clear j i m C B G;go_wp2_with fail
 refine(HT.out _).mono ?_;rintro e w3 ⟨rfl,I⟩;have DN:ae [k] w w3:=Y.trans (ae.ag I (zf _)|>.mono (by simp));have aa:s0 w3 k a _ _ _:=J.only (ae.ag I (zf _)) (by simp);have x:af w3 w.heap.size 74 #[.int .u64 0,.string ⟨#[]⟩,.string ⟨#[]⟩]:=(I.block w.heap.size (by omega)).trans N;have j:=x.cell 0;have i:=x.cell 1;have m:=x.cell 2;have C:=x.frozen 0;have B:=x.frozen 1;have G:=x.frozen 2;simp at j i m;go_wp2;refine zo (v:= .tuple #[.agg #[.int .u64 0,.string ByteArray.empty,.string ByteArray.empty],.int .i64 0,.int .i64 3]) (by simp[results,xQ,go_sem,nQ,dF x]) rfl ?_;refine⟨kQ S.out rfl,⟨max p (u+n), ?_⟩, ?_⟩
 ·exact((aa.dE (by simp;omega) _).dE (by simp;omega) _).dE (by simp;omega) _
 exact(DN.on fun _=>inferInstance)
theorem abd (most c:Int)(s:ByteArray)(k:(ai most s).1=0):
 ((ba (ai most s).2.2.1 c).1=0->(aS most c s).1=0/\(aS most c s).2.1=(ai most s).2.1/\(aS most c s).2.2.1=⟨(ba (ai most s).2.2.1 c).2.toArray⟩/\(aS most c s).2.2.2.1=(ai most s).2.2.2)/\
 ((ba (ai most s).2.2.1 c).1≠0->(aS most c s).1=(if(ba (ai most s).2.2.1 c).1=2 then 3 else(ba (ai most s).2.2.1 c).1)/\(aS most c s).2.1=0/\(aS most c s).2.2.1=ByteArray.empty/\(aS most c s).2.2.2.1=0):=by
 rw[bI,zj (by rw[k];simp)];have l:=oP (ai most s).2.2.1;have j:=fun h=>lz (ai most s).2.2.1 c h
 generalize (ai most s).2.2.1=b at*;have hz:ba b c=if(aB b).2.2≠0 then((aB b).2.2,[])else if c<(aB b).1 then(5,[])else iD (b.extract (aB b).2.1 b.size) (aB b).1:=rfl
 by_cases d:(aB b).2.2≠0
 ·rw[zl d]at hz;rw[zl d,hz];refine⟨fun h=>absurd h d,fun _=>⟨?_,rfl,rfl,rfl⟩⟩;rcases l d with h|h|h<;>rw[h]<;>rfl
 rw[zj d]at hz;rw[zj d];have d:=zJ.1 d;by_cases i:c<(aB b).1
 ·rw[zl i]at hz;rw[zl i,hz];exact⟨(fun h=>by cases h),(fun _=>⟨rfl,rfl,rfl,rfl⟩)⟩
 rw[zj i];by_cases e:(ba b c).1≠0
 ·rw[zl e];refine⟨fun h=>absurd h e,fun _=>⟨?_,rfl,rfl,rfl⟩⟩;rcases j e d (by omega)with h|h<;>rw[h]<;>rfl
 rw[zj e];exact⟨fun _=>⟨rfl,rfl,rfl,rfl⟩,fun h=>absurd h e⟩
theorem Fp {x:Int×Nat×ByteArray×Nat×Nat}{a:Int}{b:Nat}{c:ByteArray}{d:Nat}(e:x.1=a)(j:x.2.1=b)(h:x.2.2.1=c)(i:x.2.2.2.1=d):Ending.returned (.tuple #[.agg #[.int .u64 b,.string ByteArray.empty,.string c],.int .i64 d,.int .i64 a])=BO x:=by
 subst e;subst j;subst h;subst i;rfl
theorem vj (most i:Int)(s:ByteArray)(w:World)(hs:s.size<=9223372036854775807)(eH: -9223372036854775808<=most)(rF:most<=9223372036854775807):
 Calls prog 80 #[.int .i64 most,.int .i64 i,.pointer none,.string s] w fun e w'=>e=BO (aS most i s)/\Below w.heap.size w w':=by
 have HN:=za (fun w=>jZ most s w hs eH rF);have aa:=abd most i s;have U:=bI most i s;have S:=vi most s;have R:=rp most s;generalize aS most i s=X at*;generalize ai most s=ad at*;obtain⟨L,id,body,sz⟩:=ad;dsimp only at*;rcases eF L with⟨E,h1,h2⟩|⟨E,h1,h2⟩
 ·subst E;obtain⟨d,q,bS⟩:=R rfl;obtain⟨W,M⟩:=aa rfl;clear S R U aa;have HV:=za (fun w=>Iq body i w (by omega));have I:(ba body i).1≠0->0<=(ba body i).1/\(ba body i).1<=12:=fun h=>by
   have hz:ba body i=if(aB body).2.2≠0 then((aB body).2.2,[])else if i<(aB body).1 then(5,[])else iD (body.extract (aB body).2.1 body.size) (aB body).1:=rfl
   by_cases K:(aB body).2.2≠0
   ·rw[hz,zl K];have:=oP body K;simp only;omega
   by_cases g2:i<(aB body).1
   ·rw[hz,zj K,zl g2];simp
   have:=lz body i h (zJ.1 K) (by omega);omega
  generalize ba body i=ab at*;obtain⟨J,l⟩:=ab;dsimp only at*;generalize (⟨l.toArray⟩:ByteArray)=T at*;rcases eF J with⟨B,r1,r2⟩|⟨B,r1,r2⟩
  ·subst B;obtain⟨x,o,H,C⟩:=W rfl;have F:=za (Fp x o H C);clear W M x o H C I;go_enter Zx,Zj
   go_wp2_with fail
   refine(HN.out _).mono ?_;rintro e c ⟨rfl,d⟩;have b:af c w.heap.size 74 #[.int .u64 0,.string ⟨#[]⟩,.string ⟨#[]⟩]:=(d.block w.heap.size (by simp)).trans (af.new w _ _);have D:ae [] w c:=((ae.refl [] w).alloc _).trans' (ae.ag d (zf _)) (by simp);have cg:w.heap.size<c.heap.size:=by have:=d.size;simp at this;omega
   clear d;dsimp only;have k:=b.cell 0;have j:=b.cell 1;have m:=b.cell 2;have z:=b.frozen 0;have y:=b.frozen 1;have A:=b.frozen 2;simp at k j m;go_wp2_with fail
   refine(HV.out _).mono ?_;rintro e G ⟨rfl,q⟩;have O:=q.size;simp only[zt]at O;have cL:ae [] (c.alloc (.cells #[.int .u64 id,.string ⟨#[]⟩,.string body] 74)) G:=ae.ag q (zf _);have Y:=(b.alloc _).only cL (by simp);have Z:=(af.new c 74 #[.int .u64 id,.string ⟨#[]⟩,.string body]).only cL (by simp);have Je:ae [] w G:=(D.alloc _).trans cL;clear k j m z y A;have d0:=Z.cell 2;have d1:=Z.frozen 2;have N:=Z.set 2 (.string T);have r:=Y.dE (p:=⟨c.heap.size,2,none⟩) (by simp;omega) (.string T);have e0:=N.cell 0;have x:=N.cell 1;have o:=N.cell 2;have k:=r.cell 0;have j:=r.cell 1;have m:=r.cell 2;have z:=r.frozen 0;have y:=r.frozen 1;have A:=r.frozen 2;simp at k j m d0 e0 x o;have u:Below w.heap.size w G:=Je.below (zf _) (by simp);go_wp2;refine zo (v:= .tuple #[.agg #[.int .u64 id,.string ByteArray.empty,.string T],.int .i64 sz,.int .i64 0]) (by simp[results,xQ,go_sem,nQ,dF r]) rfl ?_;exact⟨F.out,(((u.setCell (by simp;omega) _).setCell (by simp) _).setCell (by simp) _).setCell (by simp) _⟩
  obtain⟨x,o,H,C⟩:=M B;have F:=za (Fp x o H C);have HT:=za (fun w=>pZ J w (I B).1 (by have:=(I B).2;omega));generalize (if J=2 then(3:Int)else J)=t at*;clear W M x o H C I B;go_enter Zx,Zj
  go_wp2_with fail
  refine(HN.out _).mono ?_;rintro e c ⟨rfl,d⟩;have b:af c w.heap.size 74 #[.int .u64 0,.string ⟨#[]⟩,.string ⟨#[]⟩]:=(d.block w.heap.size (by simp)).trans (af.new w _ _);have D:ae [] w c:=((ae.refl [] w).alloc _).trans' (ae.ag d (zf _)) (by simp);have cg:w.heap.size<c.heap.size:=by have:=d.size;simp at this;omega
  clear d;dsimp only;have k:=b.cell 0;have j:=b.cell 1;have m:=b.cell 2;have z:=b.frozen 0;have y:=b.frozen 1;have A:=b.frozen 2;simp at k j m;go_wp2_with fail
  refine(HV.out _).mono ?_;rintro e G ⟨rfl,q⟩;have O:=q.size;simp only[zt]at O;have Y:=(b.alloc _).only (ae.ag q (zf _)) (by simp);have Je:ae [] w G:=(D.alloc _).trans (ae.ag q (zf _));clear k j m z y A;go_wp2_with fail
  refine(HT.out _).mono ?_;rintro e w3 ⟨rfl,bS⟩;have DN:ae [] w w3:=Je.trans (ae.ag bS (zf _));have u:Below w.heap.size w w3:=DN.below (zf _) (by simp);have n:af w3 w.heap.size 74 #[.int .u64 0,.string ⟨#[]⟩,.string ⟨#[]⟩]:=(bS.block w.heap.size (by omega)).trans Y;have k:=n.cell 0;have j:=n.cell 1;have m:=n.cell 2;have z:=n.frozen 0;have y:=n.frozen 1;have A:=n.frozen 2;simp at k j m;go_wp2;refine zo (v:= .tuple #[.agg #[.int .u64 0,.string ByteArray.empty,.string ByteArray.empty],.int .i64 0,.int .i64 t]) (by simp[results,xQ,go_sem,nQ,dF n]) rfl ?_;exact⟨F.out,((u.setCell (by simp) _).setCell (by simp) _).setCell (by simp) _⟩
 obtain⟨_,rfl,rfl,rfl⟩:L=L/\id=0/\body=ByteArray.empty/\sz=0:=by have:=S E;simpa using this
 have F:=za (by have:=U;rw[zl E]at this;exact this);clear U S R E aa;go_enter Zx,Zj
 go_wp2_with fail
 refine(HN.out _).mono ?_;rintro e c ⟨rfl,d⟩;have b:af c w.heap.size 74 #[.int .u64 0,.string ⟨#[]⟩,.string ⟨#[]⟩]:=(d.block w.heap.size (by simp)).trans (af.new w _ _);have D:ae [] w c:=((ae.refl [] w).alloc _).trans' (ae.ag d (zf _)) (by simp);have cg:w.heap.size<c.heap.size:=by have:=d.size;simp at this;omega
 clear d;dsimp only;have u:Below w.heap.size w c:=D.below (zf _) (by simp);have k:=b.cell 0;have j:=b.cell 1;have m:=b.cell 2;have z:=b.frozen 0;have y:=b.frozen 1;have A:=b.frozen 2;simp at k j m;go_wp2;refine zo (v:= .tuple #[.agg #[.int .u64 0,.string ByteArray.empty,.string ByteArray.empty],.int .i64 0,.int .i64 L]) (by simp[results,xQ,go_sem,nQ,Kf b]) rfl ?_;refine⟨kQ F.out rfl, ?_⟩;first
  |exact(((u.setCell (by simp) _).setCell (by simp) _).setCell (by simp) _).alloc (by have:=u.size;simp;omega) _
  |exact((u.setCell (by simp) _).setCell (by simp) _).setCell (by simp) _
theorem n7 (id:Nat)(body:ByteArray)(w:World)(hid:id<18446744073709551616)(d:65536<(aQ id).length+body.size)(i:body.size<=1000000):
 Calls prog 73 #[.int .u64 id,.string body] w fun e w'=>e= .returned (.tuple #[.string ByteArray.empty,.int .i64 5])/\Below w.heap.size w w':=by
 have b:=za (BH id w hid);have h:=bF 10 id (by omega) (by omega);generalize (aQ id).length=c at*;have j:(65536:Int)<(c:Int)+body.size:=by omega
 go_enter func73,ntmps73
 go_wp2_with fail
 refine b.out.mono ?_;rintro e w' ⟨rfl,rfl⟩;go_wp2;go_ret2
 exact⟨rfl,zq _ _⟩
def vl (id:Nat)(body:ByteArray):ByteArray:=if 65536<(aQ id).length+(pack body.data.toList).length then ByteArray.empty else⟨(eM id (pack body.data.toList)).toArray⟩
def vm (id:Nat)(body:ByteArray):Int:=if 65536<(aQ id).length+(pack body.data.toList).length then 5 else 0
theorem Aj (id:Nat)(body:ByteArray)(w:World)(hid:id<18446744073709551616)(d:body.size<=65536):
 Calls prog 78 #[.int .u64 id,.string body] w fun e w'=>e= .returned (.tuple #[.string (vl id body),.int .i64 (vm id body)])/\Below w.heap.size w w':=by
 have k:=za (fun w=>Wp body w d);have c:=rY body.data.toList (by rw[aa];omega);rw[aa]at c;have hz:(⟨(pack body.data.toList).toArray⟩:ByteArray).size=(pack body.data.toList).length:=bH _;have i:Hid (∀w,Calls prog 73 #[.int .u64 id,.string ⟨(pack body.data.toList).toArray⟩] w fun e w'=>e= .returned (.tuple #[.string (vl id body),.int .i64 (vm id body)])/\Below w.heap.size w w'):=za (fun w=>by
  unfold vl vm;by_cases h:65536<(aQ id).length+(pack body.data.toList).length
  ·rw[zl h,zl h];exact n7 id ⟨(pack body.data.toList).toArray⟩ w hid (by rw[hz];exact h) (by rw[hz];omega)
  rw[zj h,zj h];exact vh id ⟨(pack body.data.toList).toArray⟩ w hid (by rw[hz];omega))
 generalize (⟨(pack body.data.toList).toArray⟩:ByteArray)=B at*;generalize vl id body=S at*;generalize vm id body=E at*;clear c hz;go_enter func78,ntmps78
 go_wp2_with fail
 refine(k.out _).mono ?_;rintro e m ⟨rfl,b⟩;have hz:=b.size;go_wp2_with fail
 refine(i.out _).mono ?_;rintro e l ⟨rfl,j⟩;go_wp2;go_ret2
 exact⟨rfl,b.trans (j.mono hz)⟩
theorem Pv :∀(f n:Nat),n<2^f->n<2^CQ f n/\(0<n->2^(CQ f n-1)<=n)
 |0,n,h=>by
  have:n=0:=by simpa using h
  subst this;simp[CQ]
 |f+1,n,h=>by
  by_cases d:n=0
  ·subst d;simp[CQ]
  have j:n/2<2^f:=by rw[Zy]at h;omega
  obtain⟨e,k⟩:=Pv f (n/2) j;simp only[CQ,zj d,Nat.add_sub_cancel];refine⟨by rw[Zy];omega,fun _=> ?_⟩;by_cases hz:n/2=0
  ·rw[hz,kO];simp;omega
  have i:=k (by omega);obtain⟨b,c⟩:∃b,CQ f (n/2)=b+1:=by
   cases c:CQ f (n/2)with
   |zero=>rw[c]at e;simp at e;omega
   |succ b=>exact⟨b,rfl⟩
  rw[c]at i⊢;simp only[Nat.add_sub_cancel]at i;rw[Zy];omega
theorem Kg :∀(j n:Nat),2^(8*j)<=n->j+1<=(cA n).length
 |0,n,h=>by
  rw[gA (n:=n) (by simp at h;omega)];simp
 |j+1,n,h=>by
  rw[Sv]at h;have b:0<2^(8*j):=Nat.pow_pos (by omega);have:=Kg j (n/256) (by omega);rw[gA (n:=n) (by omega)];simp;omega
theorem Pw (n:Nat)(h:n<18446744073709551616):(je n ((bl n+7)/8)).reverse=cA n/\(bl n+7)/8<=8:=by
 by_cases m:n=0
 ·subst m;rw[show bl 0=0 from kO 64,da];exact⟨rfl,by omega⟩
 obtain⟨c,d⟩:=Pv 64 n (by simpa using h);have o:=J7 64 n (by simpa using h) (by omega);change n<2^bl n at c
 change 0<n->2^(bl n-1)<=n at d
 generalize bl n=b at*;have j:n<2^(8*((b+7)/8)):=yg c (yy (by omega) (by omega));have l:=Lu _ n j;refine⟨?_,by omega⟩;rw[<-l];have p:(b+7)/8<=(cA n).length:=by
  obtain⟨k,i⟩:∃k,(b+7)/8=k+1:=by
   refine⟨(b+7)/8-1, ?_⟩;have:0<b:=by
    rcases Zv b with e|e
    ·subst e;simp at c;omega
    exact e
   omega
  rw[i];refine Kg k n (zK (yy (by omega) ?_) (d (by omega)));omega
 rw[show(b+7)/8-(cA n).length=0 from by omega];rfl
theorem Kh (n:Nat)(w:World)(c:n<18446744073709551616):
 Calls prog 134 #[.int .u64 n] w fun e w'=>e= .returned (.string ⟨(cA n).toArray⟩)/\Below w.heap.size w w':=by
 obtain⟨h,o⟩:=Pw n c;have z:=za (J8 n w c);obtain⟨k,i⟩:∃k,(bl n+7)/8=k:=⟨_,rfl⟩
 rw[i]at h o;have q:=za (fun w=>ET n k w c o);have p:=za h;have y:Hid ((((bl n:Nat):Int)+7)/8=(k:Int)):=za (by omega);have s:Hid (Int.tdiv (((bl n:Nat):Int)+7) 8=(k:Int)):=za (by rw[Int.tdiv_eq_ediv_of_nonneg (by omega)];omega);have A:=J7 64 n (by simpa using c) (by omega);generalize bl n=b at*;clear h i;go_enter func134,ntmps134
 go_wp2_with fail
 refine z.out.mono ?_;rintro e w' ⟨rfl,rfl⟩;go_wp2_with fail
 first|rw[y.out]|rw[s.out]
 refine(q.out _).mono ?_;rintro e r ⟨rfl,m,l⟩;have d:=bc n k;have j:=za (L5 w.heap.size w.heap.size k (je n k) r (by rw[d];exact m) (by rw[d];omega));rw[d,p.out]at j;have x:=za l;clear m l d;go_wp2_with fail
 refine j.out.mono ?_;rintro e B ⟨rfl,u⟩;go_wp2;go_ret;exact⟨rfl,(x.out.trans u).below⟩
theorem Fq (n:Nat)(w:World)(k:n<18446744073709551616):
 Calls prog 186 #[.int .u64 n] w fun e w'=>e= .returned (.agg #[.string ⟨(cA n).toArray⟩,.bool false,.slice none 0 0])/\Below w.heap.size w w':=by
 have p:=za (fun w=>Kh n w k);generalize (⟨(cA n).toArray⟩:ByteArray)=T at*;go_enter func186,ntmps186
 go_wp2_with fail
 refine(p.out _).mono ?_;rintro e c ⟨rfl,b⟩;have i:=b.size;simp only[zt]at i;have s:w.heap.size<c.heap.size:=by omega
 have o:Hid (Below w.heap.size w c):=za (((zq w.heap.size w).alloc (zf _) _).trans (b.mono (by simp)));have r:=za ((af.new w 28 #[.string ⟨#[]⟩,.bool false,.slice none 0 0]).ah b (by simp));clear b;go_wp2_with fail
 refine(oI T c).mono ?_;rintro e j ⟨rfl,d⟩;have l:Hid (Below w.heap.size w j):=za (o.out.trans (d.mono (by omega)));obtain⟨q,m,h,x,y,u⟩:=a8 (r.out.ah d (by omega));clear d;go_wp2;refine zo (v:= .agg #[.string T,.bool false,.slice none 0 0]) (by simp[results,results186,go_sem,q,m,h]) rfl ⟨rfl, ?_⟩;exact((l.out.setCell (by simp) _).setCell (by simp) _).setCell (by simp) _
