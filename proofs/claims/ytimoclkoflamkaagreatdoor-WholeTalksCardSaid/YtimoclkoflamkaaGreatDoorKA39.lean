/- peer: New. -/
import Derived.Test.YtimoclkoflamkaaGreatDoorKA29
import Derived.Test.YtimoclkoflamkaaGreatDoorKA32
import Derived.Test.YtimoclkoflamkaaGreatDoorKA38
set_option linter.all false
set_option maxRecDepth 100000
set_option maxHeartbeats 8000000
open Go.Proofs.Tryz
namespace Go.Proofs.YtimoclkoflamkaaGreatDoor
open Go.RowKit
theorem rC (j hi g:Nat)(i:Value)(c:aF)(l:List aV)(x:gW)(sent:Nat)(w:World)(h:eH w j hi g i c l x sent):
 Calls prog 40 #[(g,0)] w fun e w'=>e= .returned (.int .i64 (x.buf.size:Nat))/\w=w':=by
 obtain⟨_,_,_,_,_,_,_,b,_⟩:=h.reg;have d:=h.buf.form;rw[aa]at d;obtain⟨A,cap,rfl,_,_⟩:=d;obtain⟨_,o,k,n,q,p,m⟩:=b.parts;clear b h;go_enter func40,ntmps40
 go_wp2;go_ret;exact⟨rfl,rfl⟩
def aeO (w:World)(c:aF)(l:List aV)(e:Ending)(w':World):Prop:=
 Below w.heap.size w w'/\((mF c l=0/\∃lo hi g,w.heap.size<=lo/\e= .returned (.tuple #[.pointer (some ⟨g,0,none⟩),.int .i64 0])/\eH w' lo hi g (.slice none 0 0) c l gW.new 0)\/(mF c l≠0/\e= .returned (.tuple #[.pointer none,.int .i64 (mF c l)])))
theorem MT (c:aF)(l:List aV)(v:Value)(B:Nat)(w:World)(m:oA w B v l)(K:B<=w.heap.size)(q:Laid w)(y:∀e∈l,mr e):
 Calls prog 28 #[c.val,v] w (aeO w c l):=by
 obtain⟨X,n,cap,rfl,W,Y,Z⟩:=m.bK;obtain⟨b,h⟩:∃b,w.alloc (.cells #[c.fm,.int .u32 c.mg,c.fr,c.un,c.de,c.it] 24)=b:=⟨_,rfl⟩
 have i:Below w.heap.size w b:=by rw[<-h];exact(zi _ w).alloc (ze _) _
 have z:b.heap.size=w.heap.size+1:=by rw[<-h];simp
 have r:af b w.heap.size 24 #[c.fm,.int .u32 c.mg,c.fr,c.un,c.de,c.it]:=by rw[<-h];exact af.new w _ _
 have A:=za (V8 c l _ B b (m.below (i.mono K)) (by omega) (q.below i q.pos) y);obtain⟨N,M,U,I,S,D⟩:=fy r;have u:=za i;have J:=za z;have C:=za h;unfold aF.val at*;clear m q y i z r h;go_enter func28,ntmps28
 go_wp2_with fail
 rw[C.out];refine A.out.mono ?_;rintro e j ⟨p,L⟩;have k:=za (u.out.trans (p.mono (by have:=J.out;omega)));have O:=p.size;clear p A N M U I S D;rcases L with⟨d,H,G,F,rows,rfl,s,x⟩|⟨d,rfl⟩
 ·have R:=za s;have E:=za x;have o:=za d;clear s x d;go_wp2;refine zj (v:= .tuple #[(j.heap.size,0),(0:Int)]) (by simp[results,results28,go_sem]) rfl ?_;refine⟨k.out.alloc k.out.size _,.inl ⟨o.out,b.heap.size,j.heap.size,j.heap.size,u.out.size,rfl,O,ze _,⟨H,G,F,rows,0,R.out.below ((zi _ j).alloc (ze _) _),E.out,af.new _ _ _,fun _=>iM.zero _ _⟩,bR.nil _ _ _⟩⟩
 have z2:(mF c l !=0)=true:=yL.2 d;have o:=za d;clear d;go_wp2;refine zj (v:= .tuple #[.pointer none,.int .i64 (mF c l)]) (by simp[results,results28,go_sem]) rfl ?_;exact⟨k.out,.inr ⟨o.out,rfl⟩⟩
theorem H7 (O hi g:Nat)(J:Value)(c:aF)(l:List aV)(x:gW)(sent:Nat)(nm:ByteArray)(it:It)(B:Nat)(w:World)(c0 c1 c2:Value)(hc:c.ok)(h:eH w O hi g J c l x sent)(hI:bH w B it c0 c1 c2)(hB:B<=w.heap.size)(hL:Laid w)(gz:aW w)
 (Z:c.fm≠1->it.fB.length<=1000000) (Y7:(bB c l nm it).1.ok) (WH:sent<=1000000000):
 Calls prog 31 #[(g,0),.agg #[nm,c0,c1,c2]] w fun e w'=>e= .returned (.tuple #[.string (bw c l nm it).1,.int .i64 (bw c l nm it).2])/\eH w' O hi g J c l x (if(bw c l nm it).2=0 then sent+1 else sent)/\ae [g] w w':=by
 obtain⟨q,gn,gi,rows,nd,N,hr,hS,uX⟩:=h.reg;have Bu:=hS.lt;obtain⟨R,U,rfl,rfl,rfl,_⟩:=hI.open_;obtain⟨b,W⟩:∃b,w.alloc (.cells #[nm,it.text,it.list,.slice R it.sub.length U] 30)=b:=⟨_,rfl⟩
 have M:Below w.heap.size w b:=by rw[<-W];exact(zi _ w).alloc (ze _) _
 have dB:b.heap.size=w.heap.size+1:=by rw[<-W];simp
 have Dy:af b w.heap.size 30 #[nm,it.text,it.list,.slice R it.sub.length U]:=by rw[<-W];exact af.new w _ _
 have ad:=N.below (M.mono N.his);have aj:c.fm=1\/(bB c l nm it).1.body.size<=1000000:=by
  by_cases X:c.fm=1
  ·exact .inl X
  by_cases y:(bB c l nm it).2=0
  ·obtain⟨e,r,I,h3⟩:=k8 y;have h4:=(sJ X I (by have:=Z X;omega)).2;rw[h3,zf X];show _\/(bU c e.shape it).1.size<=_
   rw[h4,<-aa];have:=Z X;simp;exact .inr (by omega)
  rw[CX y];exact .inr (by simp[oR,ByteArray.size])
 have HE:Hid (∀V,Below b.heap.size b V->Calls prog 47 #[(q,0),.agg #[nm,it.text,it.list,.slice R it.sub.length U]] V fun e w'=>e= .returned (.tuple #[(bB c l nm it).1.val,.int .i64 (bB c l nm it).2])/\(V,w')):=za (fun V d=>by
  have aK:=M.trans (d.mono (by omega));have:=V6 O hi q gn gi c rows nm it B V _ _ _ (N.below (aK.mono N.his)) (hI.below (aK.mono hB)) (by have:=d.size;omega) (hL.below aK hL.pos) (gz.below aK gz.pos) (fun h=>by have:=Z h;omega);rwa [hr]at this)
 have WT:=za (fun V (d:Below b.heap.size b V)=>ML O hi q gn gi c rows V (ad.below (d.mono ad.his)));have HP:=za (fun V=>Wl c (bB c l nm it).1 hc Y7 aj V);have A:Hid (bw c l nm it=if(bB c l nm it).2≠0 then(ByteArray.empty,(bB c l nm it).2)else gQ c (bB c l nm it).1):=za rfl;have ai:Hid ((gQ c (bB c l nm it).1).2≠0->(gQ c (bB c l nm it).1).1=ByteArray.empty):=za Gu;generalize bw c l nm it=SP at*;obtain⟨S,qi⟩:∃S,(if SP.2=0 then sent+1 else sent)=S:=⟨_,rfl⟩
 rw[qi];have H:=za qi;clear qi;generalize gQ c (bB c l nm it).1=PP at*;generalize bB c l nm it=al at*;obtain⟨F,E⟩:=al;obtain⟨Y,D⟩:=PP;obtain⟨s,fn,u⟩:=F;simp only at HE HP A ai;have Ln:=za (hS.ah M Bu);have TK:=za h;have lJ:=za M;have E4:=za dB;have dm:=za W;have Ls:=za Dy;have p:Hid (∀V,Below b.heap.size b V->(V,g,0,q,0)/\(V,w.heap.size,0,nm)/\(V,w.heap.size,1,it.text)/\(V,w.heap.size,2,it.list)/\(V,w.heap.size,3,Value.slice R it.sub.length U)):=za (fun V d=>by
  have r:fj V g q J nd x.fault x.laid x.told sent:=Ln.out.ah d Ln.out.lt;have I:=Ls.out.ah d Ls.out.lt;exact⟨r.parts.1,I.cell 0,I.cell 1,I.cell 2,I.cell 3⟩)
 unfold aF.val Fr.val at*;clear h N hr uX hI hL gz Z Y7 M dB Dy ad aj W hS;go_enter func31,ntmps31
 go_upto_region 3 with fail
 rw[dm.out];go_cut [6,7] (fun v1 v2 i=>∃bf:Nat,v1= .pointer (some (bf,0))/\v2= .int .i64 E/\Hid (b,i)/\Hid (af i bf 103 #[.int .u64 s,fn,u]))
 case rest=>
  obtain⟨bf,rfl,rfl,n,C⟩:=hcut;obtain⟨i,an⟩:∃i,i=wc:=⟨_,rfl⟩
  subst an;have K9:=n.out.size;have Fc:=za (lJ.out.trans (n.out.mono (by have:=E4.out;omega)));have QA:w.heap.size<=i.heap.size:=Fc.out.size;rcases eR E with⟨y,z1,z2⟩|⟨y,z1,z2⟩
  ·subst y;rw[zf (by simp)]at A;have p0:=(p.out i n.out).1;go_wp2_with fail
   refine fX (by kernel_rfl) (by kernel_rfl) ?_;refine ag (.pointer (some (g,0))) (by rfl) (fun _ _=>by first|rfl|go_simp) ?_;simp only[Act.put,zb,zc,zd];refine ag (.pointer (some (g,0))) (by rfl) (fun _ _=>by first|rfl|go_simp) ?_;simp only[Act.put,zb,zc,zd];refine ag (.pointer (some (g,0))) (by rfl) (fun _ _=>by first|rfl|go_simp) ?_;simp only[Act.put,zb,zc,zd];refine ag (.pointer (some (q,0))) (by rfl) (fun V d=>by have p0:=(p.out V (n.out.trans (d.mono K9))).1;go_simp) ?_;simp only[Act.put,zb,zc,zd];refine eN 49 _ (.agg #[c.fm,.int .u32 c.mg,c.fr,c.un,c.de,c.it]) (by rfl) (fun _=>by first|rfl|go_simp) (fun V d=>WT.out V (n.out.trans (d.mono K9))) ?_;simp only[Act.put,zb,zc,zd];refine ag (.agg #[.int .u64 s,fn,u]) (by rfl) (fun V d=>by obtain⟨f0,f1,f2⟩:=kt (C.out.ah d C.out.lt);go_simp) ?_;simp only[Act.put,zb,zc,zd];refine eN 48 _ (.tuple #[Y,D]) (by rfl) (fun _=>by first|rfl|go_simp) (fun V d=>HP.out V) ?_;simp only[Act.put,zb,zc,zd];refine ag (.tuple #[Y,D]) (by rfl) (fun _ _=>by first|rfl|go_simp) ?_;simp only[Act.put,zb,zc,zd];refine ag (.string Y) (by rfl) (fun _ _=>by first|rfl|go_simp) ?_;simp only[Act.put,zb,zc,zd];refine ag (.int .i64 D) (by rfl) (fun _ _=>by first|rfl|go_simp) ?_;simp only[Act.put,zb,zc,zd];refine ag (.string Y) (by rfl) (fun _ _=>by first|rfl|go_simp) ?_;simp only[Act.put,zb,zc,zd];refine ag (.int .i64 D) (by rfl) (fun _ _=>by first|rfl|go_simp) ?_;simp only[Act.put,zb,zc,zd];refine xr ?_;intro V d
   have kE:Hid (w,V):=za (Fc.out.trans (d.mono QA));have z:Hid (eH V O hi g J c l x sent):=za (TK.out.below kE.out);have ab:fj V g q J nd x.fault x.laid x.told sent:=Ln.out.ah (n.out.trans (d.mono K9)) Ln.out.lt;have av:g<V.heap.size:=ab.lt;obtain⟨_,_,_,_,_,_,p6⟩:=ab.parts;obtain⟨_,_,_,_,_,f6⟩:=ab.Ed;clear d ab p0;rcases eR D with⟨r,u1,u2⟩|⟨r,u1,u2⟩
   ·subst r;go_wp2;refine zj (v:= .tuple #[Y,(0:Int)]) (by simp[results,results31,go_sem]) rfl ?_;rw[A.out]at H⊢;obtain rfl:sent+1=S:=by rw[<-H.out,zg rfl]
    have ho:ae [g] V (V.setCell (g,6) (.int .i64 ((sent:Int)+1))):=(ae.refl _ _).setCell (by simp) _;refine⟨rfl, ?_,((ae.ai kE.out (ze _)).mono (by simp)).trans ho⟩;obtain⟨ar,ao,au,ak,aq,k1,k2,k3,k4⟩:=z.out.reg;have e1:((sent:Int)+1)=((sent+1:Nat):Int):=by omega
    have Dr:=z.out.Dr;have bX:=z.out.buf.cw k3 (by decide);exact⟨z.out.lohi,z.out.Dr,⟨ar,ao,au,ak,aq,k1.only ho (by simp;omega),k2,by rw[e1];exact fj.VA k3 _,k4⟩,z.out.buf.qF ho (by intro j e hj;simp at hj;subst hj;exact bX e)⟩
   have hp:=ai.out r;subst hp;go_wp2;refine zj (v:= .tuple #[eS,D]) (by simp[results,results31,go_sem]) rfl ?_;rw[A.out]at H⊢;obtain rfl:sent=S:=by rw[<-H.out,zf r]
   exact⟨rfl,z.out,(ae.ai kE.out (ze _)).mono (by simp)⟩
  rw[zg y]at A;go_wp2;refine zj (v:= .tuple #[eS,E]) (by simp[results,results31,go_sem]) rfl ?_;rw[A.out]at H⊢;obtain rfl:sent=S:=by rw[<-H.out,zf y]
  exact⟨rfl,TK.out.below Fc.out,(ae.ai Fc.out (ze _)).mono (by simp)⟩
 go_wp2_with fail
 have hHeld:=p.out b.drew (zi _ _).drew;refine aL 11 (fun V=>(V,g,0,q,0)/\(V,w.heap.size,0,nm)/\(V,w.heap.size,1,it.text)/\(V,w.heap.size,2,it.list)/\(V,w.heap.size,3,Value.slice R it.sub.length U)) (by kernel_rfl) (by kernel_rfl) ?_;refine GT.iv [0,1,2,3,4] hHeld (fun _ _ _ _ _ h=>h) (by kernel_rfl) ?_;repeat(refine .c rfl rfl (fun V d=>by go_simp<;>with_reducible rfl) ?_;simp only[Act.put,zb,zc,zd])
 refine .nil ?_;refine GT.VL 5 9 rfl rfl (by kernel_rfl) (fun K k=> ?_) (fun K k=> ?_)
 ·go_simp;refine(HE.out b.drew (zi _ _).drew).mono ?_;rintro en w3 ⟨rfl,G⟩;have m:Below b.heap.size b w3:=(show Below b.heap.size b b.drew from(zi _ _).drew).trans G;go_wp2_with fail
  refine k.out _ _ (p.out w3 m) (fun hHeld=> ?_);clear k K;try simp only[Act.put,zb,zc,zd]
  refine GT.iv [6,7,8] hHeld (fun _ _ _ _ _ h=>h) (by kernel_rfl) ?_;repeat(refine .c rfl rfl (fun V d=>by go_simp<;>with_reducible rfl) ?_;simp only[Act.put,zb,zc,zd])
  refine .nil ?_;refine GT.fx 9 (fun K k=> ?_) rfl (by kernel_rfl);go_simp;refine k.out _ _ (p.out _ (m.alloc m.size _)) (fun hHeld=> ?_);clear k K;try simp only[Act.put,zb,zc,zd]
  refine GT.fx 10 (fun K k=> ?_) rfl (by kernel_rfl);go_simp;refine k.out _ _ (p.out _ (m.alloc m.size _)) (fun hHeld=> ?_);clear k K;try simp only[Act.put,zb,zc,zd]
  refine GT.oF 11 ?_ rfl (by kernel_rfl);go_simp;obtain⟨i,o⟩:∃i,w3.alloc (.cells #[.int .u64 s,fn,u] 103)=i:=⟨_,rfl⟩
  have n:Hid (b,i):=za (by rw[<-o];exact m.alloc m.size _);have C:Hid (af i w3.heap.size 103 #[.int .u64 s,fn,u]):=za (by rw[<-o];exact af.new _ _ _);rw[o];clear o G m hHeld;go_wp2_with fail
  go_meet;case rel=>exact⟨_,rfl,rfl,n,C⟩
 go_simp;have L:Below b.heap.size b (b.alloc (.cells #[.int .u64 0,eS,eS] 103)).drew:=((zi b.heap.size b).alloc (ze _) _).drew;have ah:af (b.alloc (.cells #[.int .u64 0,eS,eS] 103)).drew b.heap.size 103 #[.int .u64 0,eS,eS]:=(af.new b _ _).drew;refine k.out _ _ (p.out _ L) (fun hHeld=> ?_);clear k K;try simp only[Act.put,zb,zc,zd]
 refine GT.fx 5 (fun K k=> ?_) rfl (by kernel_rfl);go_simp;refine(HE.out _ L).mono ?_;rintro en w3 ⟨rfl,G⟩;have m:Below b.heap.size b w3:=L.trans (G.mono L.size);have IM:=ah.ah G ah.lt;go_wp2_with fail
 refine k.out _ _ (p.out w3 m) (fun hHeld=> ?_);clear k K;try simp only[Act.put,zb,zc,zd]
 refine GT.iv [6,7,8] hHeld (fun _ _ _ _ _ h=>h) (by kernel_rfl) ?_;repeat(refine .c rfl rfl (fun V d=>by go_simp<;>with_reducible rfl) ?_;simp only[Act.put,zb,zc,zd])
 refine .nil ?_;obtain⟨t0,t1,t2,Nt,PO,US⟩:=bq IM;refine GT.fx 10 (fun K k=> ?_) rfl (by kernel_rfl);go_simp;have rT:Below b.heap.size b (((w3.setCell (b.heap.size,0) (.int .u64 s)).setCell (b.heap.size,1) fn).setCell (b.heap.size,2) u):=((m.setCell (by simp) _).setCell (by simp) _).setCell (by simp) _;refine k.out _ _ (p.out _ rT) (fun hHeld=> ?_);clear k K;try simp only[Act.put,zb,zc,zd]
 refine GT.oF 11 ?_ rfl (by kernel_rfl);go_simp;obtain⟨i,o⟩:∃i,((w3.setCell (b.heap.size,0) (.int .u64 s)).setCell (b.heap.size,1) fn).setCell (b.heap.size,2) u=i:=⟨_,rfl⟩
 have n:Hid (b,i):=za (by rw[<-o];exact rT);have C:Hid (af i b.heap.size 103 #[.int .u64 s,fn,u]):=za (by rw[<-o];exact gZ IM _ _ _);rw[o];clear o G m hHeld L ah IM rT t0 t1 t2 Nt PO US;go_wp2_with fail
 go_meet;case rel=>exact⟨_,rfl,rfl,n,C⟩
def dJ.new :dJ:=⟨fun _=>gW.new,fun _=>0,fun _=>ByteArray.empty,fun _=> []⟩
theorem EG (c:aF)(l:List aV)(v:Value)(B:Nat)(w:World)(K:oA w B v l)(hB:B<=w.heap.size)(U:Laid w)(hs:∀e∈l,mr e)(h0:mF c l=0)(r:Nat)(hr:r<=1048576):
 Calls prog 10 #[c.val,v,r] w fun e w'=>∃L V,e= .returned (.tuple #[(L.p,0),(0:Int)])/\gp w' L V (fun _=>False) c l dJ.new/\Below w.heap.size w w'/\w.heap.size<=L.p/\L.room=r:=by
 obtain⟨Av,n,cap,rfl,hn,PC,jf⟩:=K.bK;have KU:¬((r:Int)<0):=by omega
 have Ng:¬((1048576:Int)<r):=by omega
 obtain⟨W,j⟩:=dY ((w.alloc (.cells #[c.fm,.int .u32 c.mg,c.fr,c.un,c.de,c.it] 24)).alloc (.cells #[.pointer none,nS,nS,.pointer none,nS,nS,r] 80));have hb:Below w.heap.size w W:=by rw[<-j];exact((zi _ w).alloc (ze _) _).alloc (by simp) _
 have Ch:W.heap.size=w.heap.size+2:=by rw[<-j];simp
 have Y:af W w.heap.size 24 #[c.fm,.int .u32 c.mg,c.fr,c.un,c.de,c.it]:=by rw[<-j];exact(af.new w _ _).alloc _
 have b1:af W (w.heap.size+1) 80 #[.pointer none,nS,nS,.pointer none,nS,nS,r]:=by rw[<-j];exact af.at_ (by simp)
 have HN:=za (fun ah (S:Below w.heap.size w ah)=>MT c l (.slice Av n cap) B ah (K.below (S.mono hB)) (by have:=S.size;omega) (U.below S U.pos) hs);have H0:=za h0;have HB:=za hb;have HZ:=za Ch;have O:=za Y;have HP:=za b1;have HW:=za j;unfold aF.val at*;clear K U hs h0 hb Ch j Y b1;go_enter func10,ntmps10
 go_wp2_with fail
 rw[HW.out];refine zZ 3 ?_;rw[yh];obtain⟨N,M,I,H,G,J⟩:=fy O.out;go_wp2_with fail
 refine(HN.out W HB.out).mono ?_;rintro e w2 ⟨y,F⟩;rcases F with⟨_,A,R,g0,aj,rfl,d⟩|⟨E,_⟩
 ·have q:=HP.out.ah y HP.out.lt;have p0:=q.cell 0;have f0:=q.frozen 0;have s8:=q.lt;obtain⟨p,z⟩:=dY (w2.setCell (w.heap.size+1,0) (g0,0));have hz:=HZ.out;have E3:Hid (af p (w.heap.size+1) 80 #[(g0,0),nS,nS,.pointer none,nS,nS,r]):=za (by rw[<-z];exact q.store rfl);have u:ae [w.heap.size+1] w2 p:=by rw[<-z];exact(ae.refl _ _).setCell (.inl (by simp)) _
  have D:Hid (w,p):=za ((HB.out.trans (y.mono (by omega))).trans (u.below (by omega) (by simp)));have Cl:=za ((O.out.ah y O.out.lt).only u (by simp));have lG:=za (d.only u (fun k b=>by simp at b;subst b;have:=d.lohi;have:=d.Dr;exact⟨by omega,by omega,fun e=>by cases e⟩));have IK:Hid (w.heap.size+2<=A/\A<=R/\R<=g0/\g0<p.heap.size):=za (by
   have Z:=d.lohi;have h2:=d.Dr;have h3:=d.lt;have h4:=u.size;exact⟨by omega,Z,h2,by omega⟩)
  have sk:=za z;clear y d aj z u q N M I H G J;obtain⟨N,M,I,H,G,J⟩:=fy Cl.out;go_wp2_with fail
  rw[sk.out];rw[yh];go_wp2_with fail
  refine(HN.out p D.out).mono ?_;rintro e w4 ⟨m,F⟩;rcases F with⟨_,ag,kQ,g1,P5,rfl,o⟩|⟨E,_⟩
  ·have C:=E3.out.ah m E3.out.lt;have p3:=C.cell 3;have f3:=C.frozen 3;obtain⟨h,x⟩:=dY (w4.setCell (w.heap.size+1,3) (g1,0));have X:=m.size;obtain⟨z1,z2,z3,z4⟩:=IK.out;have aa:af h (w.heap.size+1) 80 #[(g0,0),nS,nS,(g1,0),nS,nS,r]:=by rw[<-x];exact C.store rfl
   have s:ae [w.heap.size+1] w4 h:=by rw[<-x];exact(ae.refl _ _).setCell (.inl (by simp)) _
   have Z:=o.lohi;have h2:=o.Dr;have h3:=o.lt;have h4:=s.size;have fk:Below w.heap.size w h:=(D.out.trans (m.mono D.out.size)).trans (s.below (zz D.out.size X) (by simp));have ad:=(lG.out.below m).only s (fun k b=>by simp at b;subst b;exact⟨by omega,by omega,fun e=>by cases e⟩);have ab:=o.only s (fun k b=>by simp at b;subst b;exact⟨by omega,by omega,fun e=>by cases e⟩);have ai:Hid (gp h ⟨fun i=>if i=0 then A else ag,fun i=>if i=0 then R else kQ,fun i=>if i=0 then g0 else g1,w.heap.size+1,h.heap.size,r,hr⟩ (fun _=>nS) (fun _=>False) c l dJ.new):=za ⟨aa,fun i hi=>by
    rcases(by omega:i=0\/i=1)with rfl|rfl
    ·exact ad
    exact ab,fun _ _=>Way.nil _ _ _,fun _ _=>bA.nil _ _ _,(fun _ _ _ e=>by cases e),(fun _ _ _ _ _ e=>by cases e),(fun _ (e:False)=>e.elim),⟨by show w.heap.size+1<A;omega,by show g0<ag;omega,by show g1<h.heap.size;omega⟩,ze _⟩
   have fC:=za fk;have mz:=za x;clear m o P5 x s C X ad ab aa fk N M I H G J;go_wp2_with fail
   rw[mz.out];rw[yh];go_wp2;go_ret2
   exact⟨_,_,rfl,ai.out,fC.out,Nat.le_succ _,rfl⟩
  exact absurd H0.out E
 exact absurd H0.out E
structure Wm (w:World)(cb mb tb ab sb g gm:Nat)(c:aF)(b:ByteArray)(k:Nat):Prop where
 cf:af w cb 24 #[c.fm,.int .u32 c.mg,c.fr,c.un,c.de,c.it]
 me:af w mb 108 #[(gm,0)]
 tx:af w tb 9 #[b]
 at_:af w ab 3 #[k]
 se:af w sb 74 #[(g,0)]
structure NxN (lo hi cb mb tb ab sb g gm:Nat):Prop where
 m1:gm≠cb/\gm≠mb/\gm≠tb/\gm≠ab/\gm≠sb/\gm≠g
 a1:ab≠cb/\ab≠mb/\ab≠tb/\ab≠sb/\ab≠g
 r1:(gm<lo\/hi<=gm)/\(ab<lo\/hi<=ab)
theorem Wm.only {w w':World}{cb i m l j g n:Nat}{c:aF}{b:ByteArray}{k:Nat}{L:List Nat}(h:Wm w cb i m l j g n c b k)(d:ae L w w')(e:cb∉L/\i∉L/\m∉L/\l∉L/\j∉L):Wm w' cb i m l j g n c b k:=
 ⟨h.cf.only d e.1,h.me.only d e.2.1,h.tx.only d e.2.2.1,h.at_.only d e.2.2.2.1,h.se.only d e.2.2.2.2⟩
def EH (cb mb tb ab sb:Nat):Array Value:= #[(cb,0),(mb,0),(tb,0),(ab,0),(sb,0)]
theorem H' {w:World}{g:Nat}{t:TypeId}{n j e z3:Value}(h:af w g t #[n,j,e,z3])(b c d v3:Value):af ((((w.setCell (g,0) b).setCell (g,1) c).setCell (g,2) d).setCell (g,3) v3) g t #[b,c,d,v3]:=by
 have m:af _ g t #[b,j,e,z3]:=h.store (i:=0) (u:=b) rfl;have k:af _ g t #[b,c,e,z3]:=m.store (i:=1) (u:=c) rfl;have l:af _ g t #[b,c,d,z3]:=k.store (i:=2) (u:=d) rfl;exact l.store (i:=3) (u:=v3) rfl
def SY (w:World)(ab gm t R k:Nat)(X:Int×Ms×Nat×Nat)(e:Ending)(w':World):Prop:=
 ∃d0 d1 d2 d3,e= .returned (.tuple #[.agg #[d0,d1,d2,d3],X.1])/\nC w' (w.heap.size<= ·) X.2.1 d0 d1 d2 d3/\Met w' (some gm) (t+X.2.2.2) (R-X.2.2.2)/\ae [gm,ab] w w'/\af w' ab 3 #[(if X.1=0 then k+X.2.2.1 else k:Nat)]
theorem SZ (c:aF)(l:List aV)(lo hi N gn gi:Nat)(rows:List bY)(g q cb mb tb x sb:Nat)(b:ByteArray)(k:Nat)(bv:Value)(nd:Nat)(fault:Int)(laid ao sent t R:Nat)(w:World)
 (hr:c.right=true) (hc:c.ok) (hb:b.size<=5000000) (I:k<=b.size) (hM:lg w lo hi N gn gi c rows) (rN:aJ rows=l) (hS:fj w g N bv nd fault laid ao sent) (hm:Met w (some q) t R) (hR:70000<=R)
 (hB:Wm w cb mb tb x sb g q c b k) (hN:NxN lo hi cb mb tb x sb g q) (aD:∀V,ae [q,x] w V->Laid V/\aW V):
 Calls prog 70 (EH cb mb tb x sb) w (SY w x q t R k (aQ c l (b.extract k b.size))):=by
 obtain⟨r,YN⟩:∃r,b.extract k b.size=r:=⟨_,rfl⟩
 have Uw:r.size=b.size-k:=by rw[<-YN,ar _ _ _ (ze _)]
 rw[YN];have rH:(k:Int)<=b.size:=by omega
 obtain⟨W,hW⟩:∃W,w.alloc (.cells #[eS,eS,false,nS] 30)=W:=⟨_,rfl⟩
 have jj:Below w.heap.size w W:=by rw[<-hW];exact(zi _ w).alloc (ze _) _
 have Ch:w.heap.size<W.heap.size:=by rw[<-hW];simp
 have Qv:q<w.heap.size:=hm.lt q rfl;have KV:x<w.heap.size:=hB.at_.lt;have aA:af W w.heap.size 30 #[eS,eS,false,nS]:=by rw[<-hW];exact af.new _ _ _
 have aC:Met W (some q) t R:=(MS.refl hm|>.below jj).met;obtain⟨n1,n2,n3,n4,n5,n6⟩:=hN.m1;have vh:Hid (∀V,ae [q] w V->Wm V cb mb tb x sb g q c b k/\lg V lo hi N gn gi c rows/\fj V g N bv nd fault laid ao sent/\Laid V/\aW V):=za (fun V o=>⟨hB.only o (by simp;omega),hM.only o (by have:=hN.r1;simp;omega),hS.only o (by simp;omega),aD V (o.mono (by simp))⟩);have Lk:Hid (∀V,ae [q] W V->ae [q] w V):=za (fun V o=>((ae.ai jj (ze _)).mono (by simp)).trans o);have Y:Hid (∀V,ae [q] W V->(V,cb,0,c.fm)/\(V,cb,1,Value.int .u32 c.mg)/\(V,cb,2,c.fr)/\(V,cb,3,c.un)/\(V,cb,4,c.de)/\(V,cb,5,c.it)/\(V,mb,0,q,0)/\(V,tb,0,b)/\(V,x,0,k)):=za (fun V o=>by
  obtain⟨hx,_⟩:=vh.out V (Lk.out V o);exact⟨hx.cf.cell 0,hx.cf.cell 1,hx.cf.cell 2,hx.cf.cell 3,hx.cf.cell 4,hx.cf.cell 5,hx.me.cell 0,hx.tx.cell 0,hx.at_.cell 0⟩)
 have HN:=za (fun W0 V o=>SX c (some q) t R r hc hR (by omega) W0 V o);have S:Hid (aQ c l r=if(bj c r).1≠0 then((bj c r).1,sI,(bj c r).2.2.1,(bj c r).2.2.2)else((eX c l (bj c r).2.1).1,(eX c l (bj c r).2.1).2,(bj c r).2.2.1,(bj c r).2.2.2)):=za rfl;have ff:=(wH c).pos r;have Fp:(bj c r).2.1.body.size<=1099511627776:=JR c r (by omega);generalize aQ c l r=X at*;obtain⟨au,hY⟩:∃au,bj c r=au:=⟨_,rfl⟩
 rw[hY]at HN S ff Fp;clear hY;obtain⟨y5,⟨D,B,C⟩,y4,m⟩:=au;simp only at ff Fp S;unfold ED Fr.val s6 aF.val at HN;simp only at HN;have HW:=za hW;have WK:=za (MS.refl aC);have aZ:=za aA;have YM:=za hN;have vK:=za rN;have E5:=za ff;have aX:=za Fp;unfold EH;clear hm hR hB hN aD hM rN hS jj aA aC hW ff Fp n1 n2 n3 n4 n5 n6;go_enter func70,ntmps70
 go_upto_region 1 with fail
 rw[HW.out];go_cut [7,8,9] (fun v1 v2 v3 d=>∃F:Nat,v1= .pointer (some (F,0))/\v2= .int .i64 y4/\v3= .int .i64 y5/\Hid (MS (some q) (t+m) (R-m) W d)/\Hid (af d F 103 #[.int .u64 D,B,C])/\W.heap.size<=F)
 case rest=>
  obtain⟨F,rfl,rfl,rfl,aa,U,aj⟩:=hcut;obtain⟨d,aU⟩:∃d,d=wc:=⟨_,rfl⟩
  subst aU;have NA:=aa.out.only;have z:=za (vh.out d (Lk.out d NA));have Tw:Hid (af d w.heap.size 30 #[eS,eS,false,nS]):=za (aZ.out.only NA (by simp;omega));have a8:F<d.heap.size:=U.out.lt;have Bu:g<d.heap.size:=z.out.2.2.1.lt;have aE:=za (Lk.out d NA);clear NA;rcases eR y5 with⟨h0,z1,z2⟩|⟨h0,z1,z2⟩
  ·subst h0;obtain⟨jv,kd⟩:=E5.out rfl;rw[zf (by simp)]at S;have HD:Hid (∀V,Below d.heap.size d V->Calls prog 72 #[(N,0),.agg #[.int .u64 D,B,C]] V (XL V (eX c l ⟨D,B,C⟩))):=za (fun V o=>by
    have:=V9 lo hi N gn gi c rows ⟨D,B,C⟩ V (z.out.2.1.below (o.mono z.out.2.1.his)) (z.out.2.2.2.1.below o z.out.2.2.2.1.pos) (z.out.2.2.2.2.below o z.out.2.2.2.2.pos) aX.out;rwa [vK.out]at this)
   have Bl:Hid (∀V,Below d.heap.size d V->(V,sb,0,g,0)/\(V,g,0,N,0)/\(V,F,0,Value.int .u64 D)/\(V,F,1,B)/\(V,F,2,C)):=za (fun V o=>by
    have J:=z.out.1.se.ah o z.out.1.se.lt;have h2:fj V g N bv nd fault laid ao sent:=z.out.2.2.1.ah o Bu;have h3:=U.out.ah o U.out.lt;exact⟨J.cell 0,h2.parts.1,h3.cell 0,h3.cell 1,h3.cell 2⟩)
   generalize eX c l ⟨D,B,C⟩=aS at*;obtain⟨D1,i⟩:=aS;simp only at S;go_upto_region 4 with fail
   go_cut [9,10] (fun v1 v2 p=>∃(bm:Nat) (u:Option Addr) (s:Nat),v1= .int .i64 D1/\v2= .pointer (some (bm,0))/\Hid (d,p)/\Hid (af p bm 30 #[i.name,i.x.text,i.x.list,.slice u i.x.sub.length s])/\Hid (nC p (d.heap.size<= ·) i i.name i.x.text i.x.list (.slice u i.x.sub.length s))/\d.heap.size<=bm)
   case rest=>
    obtain⟨bm,u,s,rfl,rfl,M,Ls,P7,aB⟩:=hcut;obtain⟨p,aT⟩:∃p,p=wc:=⟨_,rfl⟩
    subst aT;have ak:=za (z.out.1.at_.ah M.out z.out.1.at_.lt);have an:=za (Tw.out.ah M.out Tw.out.lt);have ay:Hid (Met p (some q) (t+m) (R-m)):=za (aa.out.below M.out).met;have az:Hid (ae [q] w p):=za ((aE.out.trans' (ae.ai M.out (ze _)) (by simp)));have UN:=M.out.size;rcases eR D1 with⟨J,u1,u2⟩|⟨J,u1,u2⟩
    ·subst J;have q0:p.cell? (x,0)=some (.int .i64 k):=ak.out.cell 0;have YT:p.frozen? (x,0)=false:=ak.out.frozen 0;go_upto_region 7 with fail
     obtain⟨W9,UU⟩:∃W9,p.setCell (x,0) (.int .i64 ((k:Int)+y4))=W9:=⟨_,rfl⟩
     have so:ae [x] p W9:=by rw[<-UU];exact(ae.refl _ _).setCell (by simp) _
     have a1:Hid (af W9 x 3 #[(k+y4:Nat)]):=za (by rw[<-UU];exact ak.out.store rfl);have aI:=za (an.out.only so (by simp;omega));have ax:=Ls.out.only so (by simp;omega);have aR:=za (P7.out.only so (by simp;omega) (fun _ _ h=>h));have aP:=za (ay.out.only so (by intro j e;injection e with e;have:=YM.out.m1;simp;omega));have aO:Hid (ae [q,x] w W9):=za ((az.out.mono (by simp)).trans (so.mono (by simp)));obtain⟨v0,v1,v2,v3,_⟩:=aY ax;obtain⟨m0,m1,m2,m3,aK,aN,aH,aM⟩:=aY aI.out;rw[UU];clear UU so ax q0 YT;go_wp2;obtain⟨ah,ad,ai,ag⟩:=iz aI.out i.name i.x.text i.x.list (.slice u i.x.sub.length s);refine zj (v:= .tuple #[.agg #[i.name,i.x.text,i.x.list,.slice u i.x.sub.length s],(0:Int)]) (by simp[results,results70,go_sem,ah,ad,ai,ag]) rfl ?_;have y:=eP W9 w.heap.size i.name i.x.text i.x.list (.slice u i.x.sub.length s);rw[S.out];refine⟨_,_,_,_,rfl,aR.out.only y (by simp;omega) (fun k _ I=>by have I:d.heap.size<=k:=I;show w.heap.size<=k;omega),aP.out.only y (by intro j e;injection e with e;simp;omega),aO.out.trans' y (by simp), ?_⟩;have J:=a1.out.only y (by simp;omega);rw[zg rfl];exact J
    obtain⟨v0,v1,v2,v3,_⟩:=aY Ls.out;obtain⟨m0,m1,m2,m3,aK,aN,aH,aM⟩:=aY an.out;go_wp2;obtain⟨ah,ad,ai,ag⟩:=iz an.out i.name i.x.text i.x.list (.slice u i.x.sub.length s);refine zj (v:= .tuple #[.agg #[i.name,i.x.text,i.x.list,.slice u i.x.sub.length s],D1]) (by simp[results,results70,go_sem,ah,ad,ai,ag]) rfl ?_;have y:=eP p w.heap.size i.name i.x.text i.x.list (.slice u i.x.sub.length s);rw[S.out];refine⟨_,_,_,_,rfl,P7.out.only y (by simp;omega) (fun k _ I=>by have I:d.heap.size<=k:=I;show w.heap.size<=k;omega),ay.out.only y (by intro j e;injection e with e;simp;omega),(az.out.mono (by simp)).trans' y (by simp), ?_⟩;have h2:=ak.out.only y (by simp;omega);rw[zf J];exact h2
   go_wp2_with fail
   have hHeld:=Bl.out d.drew (zi _ _).drew;refine aL 11 (fun V=>(V,sb,0,g,0)/\(V,g,0,N,0)/\(V,F,0,Value.int .u64 D)/\(V,F,1,B)/\(V,F,2,C)) (by kernel_rfl) (by kernel_rfl) ?_;refine GT.iv [0,1,2,3,4] hHeld (fun _ _ _ _ _ h=>h) (by kernel_rfl) ?_;repeat(refine .c rfl rfl (fun V o=>by go_simp<;>with_reducible rfl) ?_;simp only[Act.put,zb,zc,zd])
   refine .nil ?_;refine GT.VL 5 9 rfl rfl (by kernel_rfl) (fun K n=> ?_) (fun K n=> ?_)
   ·go_simp;refine(HD.out d.drew (zi _ _).drew).mono ?_;rintro en E ⟨qm,d0,d1,d2,d3,rfl,Z⟩;obtain⟨u,s,rfl,rfl,rfl,rfl,_⟩:=Z.open_;have A:Below d.heap.size d E:=(show Below d.heap.size d d.drew from(zi _ _).drew).trans qm;go_wp2_with fail
    refine n.out _ _ (Bl.out E A) (fun hHeld=> ?_);clear n K;try simp only[Act.put,zb,zc,zd]
    refine GT.iv [6,7,8] hHeld (fun _ _ _ _ _ h=>h) (by kernel_rfl) ?_;repeat(refine .c rfl rfl (fun V o=>by go_simp<;>with_reducible rfl) ?_;simp only[Act.put,zb,zc,zd])
    refine .nil ?_;refine GT.fx 9 (fun K n=> ?_) rfl (by kernel_rfl);go_simp;refine n.out _ _ (Bl.out _ (A.alloc A.size _)) (fun hHeld=> ?_);clear n K;try simp only[Act.put,zb,zc,zd]
    refine GT.fx 10 (fun K n=> ?_) rfl (by kernel_rfl);go_simp;refine n.out _ _ (Bl.out _ (A.alloc A.size _)) (fun hHeld=> ?_);clear n K;try simp only[Act.put,zb,zc,zd]
    refine GT.oF 11 ?_ rfl (by kernel_rfl);go_simp;obtain⟨p,G⟩:∃p,E.alloc (.cells #[i.name,i.x.text,i.x.list,.slice u i.x.sub.length s] 30)=p:=⟨_,rfl⟩
    have M:Hid (d,p):=za (by rw[<-G];exact A.alloc A.size _);have Ls:Hid (af p E.heap.size 30 #[i.name,i.x.text,i.x.list,.slice u i.x.sub.length s]):=za (by rw[<-G];exact af.new _ _ _);have P7:Hid (nC p (d.heap.size<= ·) i i.name i.x.text i.x.list (.slice u i.x.sub.length s)):=za (by rw[<-G];exact Z.below ((zi _ _).alloc (ze _) _));have aB:d.heap.size<=E.heap.size:=A.size;rw[G];clear G qm A Z hHeld;go_wp2_with fail
    go_meet;case rel=>exact⟨_,_,_,rfl,rfl,M,Ls,P7,aB⟩
   go_simp;have ke:Below d.heap.size d (d.alloc (.cells #[eS,eS,false,nS] 30)).drew:=((zi d.heap.size d).alloc (ze _) _).drew;have aw:af (d.alloc (.cells #[eS,eS,false,nS] 30)).drew d.heap.size 30 #[eS,eS,false,nS]:=(af.new d _ _).drew;refine n.out _ _ (Bl.out _ ke) (fun hHeld=> ?_);clear n K;try simp only[Act.put,zb,zc,zd]
   refine GT.fx 5 (fun K n=> ?_) rfl (by kernel_rfl);go_simp;refine(HD.out _ ke).mono ?_;rintro en E ⟨qm,d0,d1,d2,d3,rfl,Z⟩;obtain⟨u,s,rfl,rfl,rfl,rfl,_⟩:=Z.open_;have A:Below d.heap.size d E:=ke.trans (qm.mono ke.size);have Bo:=aw.ah qm aw.lt;go_wp2_with fail
   refine n.out _ _ (Bl.out E A) (fun hHeld=> ?_);clear n K;try simp only[Act.put,zb,zc,zd]
   refine GT.iv [6,7,8] hHeld (fun _ _ _ _ _ h=>h) (by kernel_rfl) ?_;repeat(refine .c rfl rfl (fun V o=>by go_simp<;>with_reducible rfl) ?_;simp only[Act.put,zb,zc,zd])
   refine .nil ?_;obtain⟨t0,t1,t2,t3,Nt,PO,US,a6⟩:=aY Bo;refine GT.fx 10 (fun K n=> ?_) rfl (by kernel_rfl);go_simp;have rT:Below d.heap.size d ((((E.setCell (d.heap.size,0) i.name).setCell (d.heap.size,1) i.x.text).setCell (d.heap.size,2) i.x.list).setCell (d.heap.size,3) (.slice u i.x.sub.length s)):=(((A.setCell (by simp) _).setCell (by simp) _).setCell (by simp) _).setCell (by simp) _;refine n.out _ _ (Bl.out _ rT) (fun hHeld=> ?_);clear n K;try simp only[Act.put,zb,zc,zd]
   refine GT.oF 11 ?_ rfl (by kernel_rfl);go_simp;obtain⟨p,G⟩:∃p,(((E.setCell (d.heap.size,0) i.name).setCell (d.heap.size,1) i.x.text).setCell (d.heap.size,2) i.x.list).setCell (d.heap.size,3) (.slice u i.x.sub.length s)=p:=⟨_,rfl⟩
   have M:Hid (d,p):=za (by rw[<-G];exact rT);have Ls:Hid (af p d.heap.size 30 #[i.name,i.x.text,i.x.list,.slice u i.x.sub.length s]):=za (by rw[<-G];exact H' Bo _ _ _ _);have P7:Hid (nC p (d.heap.size<= ·) i i.name i.x.text i.x.list (.slice u i.x.sub.length s)):=za (by rw[<-G];exact Z.only (L:= [d.heap.size]) (eP E d.heap.size _ _ _ _) (by simp[World.drew]) (fun k _ I=>by have I:(d.alloc (.cells #[eS,eS,false,nS] 30)).heap.size<=k:=I;simp at I;show d.heap.size<=k;omega));rw[G];clear G qm A Z hHeld ke aw Bo rT t0 t1 t2 t3 Nt PO US a6;go_wp2_with fail
   go_meet;case rel=>exact⟨_,_,_,rfl,rfl,M,Ls,P7,ze _⟩
  rw[zg h0]at S;obtain⟨m0,m1,m2,m3,aK,aN,aH,aM⟩:=aY Tw.out;have a7:=za aa.out.met;go_wp2;obtain⟨ah,ad,ai,ag⟩:=iz Tw.out eS eS false nS;refine zj (v:= .tuple #[.agg #[eS,eS,false,nS],y5]) (by simp[results,results70,go_sem,ah,ad,ai,ag]) rfl ?_;have y:=eP d w.heap.size eS eS false nS;rw[S.out];refine⟨_,_,_,_,rfl,Ez _ _,a7.out.only y (by intro j e;injection e with e;simp;omega),(aE.out.mono (by simp)).trans' y (by simp), ?_⟩;have J:=z.out.1.at_.only y (by simp;omega);rw[zf h0];exact J
 go_wp2_with fail
 have hHeld:=Y.out W.drew WK.out.drew.only;refine aL 13 (fun V=>(V,cb,0,c.fm)/\(V,cb,1,Value.int .u32 c.mg)/\(V,cb,2,c.fr)/\(V,cb,3,c.un)/\(V,cb,4,c.de)/\(V,cb,5,c.it)/\(V,mb,0,q,0)/\(V,tb,0,b)/\(V,x,0,k)) (by kernel_rfl) (by kernel_rfl) ?_;refine GT.iv [0,1,2,3,4] hHeld (fun _ _ _ _ _ h=>h) (by kernel_rfl) ?_;iterate 4 (refine .c rfl rfl (fun V o=>by go_simp<;>with_reducible rfl) ?_;simp only[Act.put,zb,zc,zd])
 refine .c (v:= .string r) rfl rfl (fun V o=>by go_simp<;>with_reducible rfl) ?_;try simp only[Act.put,zb,zc,zd];refine .nil ?_;refine GT.VL 5 10 rfl rfl (by kernel_rfl) (fun K n=> ?_) (fun K n=> ?_)
 ·go_simp;refine(HN.out W W.drew WK.out.drew).mono ?_;rintro en w3 ⟨rfl,H⟩;go_wp2_with fail
  refine n.out _ _ (Y.out w3 H.only) (fun hHeld=> ?_);clear n K;try simp only[Act.put,zb,zc,zd]
  refine GT.iv [6,7,8,9] hHeld (fun _ _ _ _ _ h=>h) (by kernel_rfl) ?_;repeat(refine .c rfl rfl (fun V o=>by go_simp<;>with_reducible rfl) ?_;simp only[Act.put,zb,zc,zd])
  refine .nil ?_;refine GT.fx 10 (fun K n=> ?_) rfl (by kernel_rfl);go_simp;refine n.out _ _ (Y.out _ (H.alloc _).only) (fun hHeld=> ?_);clear n K;try simp only[Act.put,zb,zc,zd]
  refine GT.fx 11 (fun K n=> ?_) rfl (by kernel_rfl);go_simp;refine n.out _ _ (Y.out _ (H.alloc _).only) (fun hHeld=> ?_);clear n K;try simp only[Act.put,zb,zc,zd]
  refine GT.iv [12] hHeld (fun _ _ _ _ _ h=>h) (by kernel_rfl) ?_;refine .c rfl rfl (fun V o=>by go_simp<;>with_reducible rfl) ?_;simp only[Act.put,zb,zc,zd];refine .nil ?_;refine GT.oF 13 ?_ rfl (by kernel_rfl);go_simp;obtain⟨d,O⟩:∃d,w3.alloc (.cells #[.int .u64 D,B,C] 103)=d:=⟨_,rfl⟩
  have aa:Hid (MS (some q) (t+m) (R-m) W d):=za (by rw[<-O];exact H.alloc _);have U:Hid (af d w3.heap.size 103 #[.int .u64 D,B,C]):=za (by rw[<-O];exact af.new _ _ _);have aj:W.heap.size<=w3.heap.size:=H.size;rw[O];clear O H hHeld;go_wp2_with fail
  go_meet;case rel=>exact⟨_,rfl,rfl,rfl,aa,U,aj⟩
 go_simp;have al:MS (some q) t R W (W.alloc (.cells #[.int .u64 0,eS,eS] 103)).drew:=(WK.out.alloc _).drew;have aG:af (W.alloc (.cells #[.int .u64 0,eS,eS] 103)).drew W.heap.size 103 #[.int .u64 0,eS,eS]:=(af.new W _ _).drew;refine n.out _ _ (Y.out _ al.only) (fun hHeld=> ?_);clear n K;try simp only[Act.put,zb,zc,zd]
 refine GT.fx 5 (fun K n=> ?_) rfl (by kernel_rfl);go_simp;refine(HN.out _ _ (MS.refl al.met)).mono ?_;rintro en w3 ⟨rfl,av⟩;have H:=av.from al.only;have IM:=aG.only av.only (by simp;omega);go_wp2_with fail
 refine n.out _ _ (Y.out w3 H.only) (fun hHeld=> ?_);clear n K;try simp only[Act.put,zb,zc,zd]
 refine GT.iv [6,7,8,9] hHeld (fun _ _ _ _ _ h=>h) (by kernel_rfl) ?_;repeat(refine .c rfl rfl (fun V o=>by go_simp<;>with_reducible rfl) ?_;simp only[Act.put,zb,zc,zd])
 refine .nil ?_;obtain⟨t0,t1,t2,Nt,PO,US⟩:=bq IM;refine GT.fx 11 (fun K n=> ?_) rfl (by kernel_rfl);go_simp;have aq:=H.gZ (ze _) (by intro j e;injection e with e;omega) (.int .u64 D) B C;refine n.out _ _ (Y.out _ aq.only) (fun hHeld=> ?_);clear n K;try simp only[Act.put,zb,zc,zd]
 refine GT.iv [12] hHeld (fun _ _ _ _ _ h=>h) (by kernel_rfl) ?_;refine .c rfl rfl (fun V o=>by go_simp<;>with_reducible rfl) ?_;simp only[Act.put,zb,zc,zd];refine .nil ?_;refine GT.oF 13 ?_ rfl (by kernel_rfl);go_simp;obtain⟨d,O⟩:∃d,((w3.setCell (W.heap.size,0) (.int .u64 D)).setCell (W.heap.size,1) B).setCell (W.heap.size,2) C=d:=⟨_,rfl⟩
 have aa:Hid (MS (some q) (t+m) (R-m) W d):=za (by rw[<-O];exact aq);have U:Hid (af d W.heap.size 103 #[.int .u64 D,B,C]):=za (by rw[<-O];exact gZ IM _ _ _);have aj:W.heap.size<=W.heap.size:=ze _;rw[O];clear O H hHeld av al aG IM aq t0 t1 t2 Nt PO US;go_wp2_with fail
 go_meet;case rel=>exact⟨_,rfl,rfl,rfl,aa,U,aj⟩
def lenOf :Value->Nat
 | .slice _ n _=>n
 |_=>0
theorem S2 (c:aF)(l:List aV)(s:ByteArray):(aQ c l s).2.2.2<=65536:=by rw[lW];exact CZ c s
structure CuW (w V:World)(cb mb tb ab sb tm z g gm:Nat)(c:aF)(l:List aV)(b:ByteArray)(k t R:Nat)(lv:Value):Prop where
 only:ae [gm] w V
 met:Met V (some gm) (t+(aQ c l (b.extract k b.size)).2.2.2) (R-(aQ c l (b.extract k b.size)).2.2.2)
 nx:Wm V cb mb tb ab sb g gm c b (if(aQ c l (b.extract k b.size)).1=0 then k+(aQ c l (b.extract k b.size)).2.2.1 else k)
 msg:∃d0 d1 d2 d3,af V tm 30 #[d0,d1,d2,d3]/\nC V (fun j=>z<=j/\j≠tm/\lv.ownBlock≠some j) (aQ c l (b.extract k b.size)).2.1 d0 d1 d2 d3
theorem Wn (c:aF)(l:List aV)(lo hi D gn gi:Nat)(rows:List bY)(g p:Nat)(bv:Value)(b:ByteArray)(F laid H sent t R:Nat)(w:World)(hr:c.right=true)(hc:c.ok)(hb:b.size<=5000000)(hM:lg w lo hi D gn gi c rows)(rN:aJ rows=l)(hS:fj w g D bv F 0 laid H sent)(bM:bR w hi 5 bv b.data.toList)
 (Dr:hi<=g) (Bp:Met w (some p) t R) (Qv:p≠g) (a8:hi<=p) (a1:bv.ownBlock≠some p) (hR:1099511627776<=R) (uX:iM c b F) (bj:∀V,ae (p::g::bv.ownBlock.toList) w V->Laid V/\aW V):
 Calls prog 52 #[(g,0),(p,0)] w fun e w'=>∃rv qh bs,e= .returned rv/\bA w' (fun j=>w.heap.size<=j/\qh.ownBlock≠some j) w.heap.size (split (aQ c l) b).1 rv/\fj w' g D qh bs (split (aQ c l) b).2.2.2 laid H sent/\bR w' hi 5 qh (split (aQ c l) b).2.1.data.toList/\
  Met w' (some p) (t+(split (aQ c l) b).2.2.1) (R-(split (aQ c l) b).2.2.1)/\ae (p::g::bv.ownBlock.toList) w w'/\(∀k,qh.ownBlock=some k->bv.ownBlock=some k\/w.heap.size<=k)/\((split (aQ c l) b).2.2.2=0->iM c (split (aQ c l) b).2.1 bs):=by
 have bX:bv.ownBlock≠some g:=bM.cw hS (by decide);have bg:=bM.form;rw[aa]at bg;obtain⟨A,cap,rfl,uu,jf⟩:=bg;have br:∀V,Below w.heap.size w V->(convert 75 9 (.slice A b.size cap)).run prog V= .ok b V:=fun V o=>by
  have:=bR.Jt (P:=prog) (src:=75) (dst:=9) zm ym zH (bM.below o);rwa [jD]at this
 have bt:=za br;have Bu:g<w.heap.size:=hS.lt;have b8:p<w.heap.size:=Bp.lt p rfl;have HS:=za hS;have oV:=za bM;have HM:=za Bp;have Jc:=za hM;have XX:=za uX;have Qw:=za (And.intro bX a1);have I8:=za bj;have vK:=za rN;have WR:=za (dz c l);obtain⟨J,du⟩:∃J,(w.alloc (.cells #[(g,0)] 74)).alloc (.cells #[(p,0)] 108)=J:=⟨_,rfl⟩
 have jY:Below w.heap.size w J:=by rw[<-du];exact((zi _ w).alloc (ze _) _).alloc (by simp) _
 have dB:J.heap.size=w.heap.size+2:=by rw[<-du];simp
 have QB:Hid (af J w.heap.size 74 #[(g,0)]):=za (by rw[<-du];exact(af.new w _ _).alloc _);have Ls:Hid (af J (w.heap.size+1) 108 #[(p,0)]):=za (by rw[<-du];exact af.at_ (by simp));have lJ:=za jY;have E4:=za dB;have dm:=za du;have b2:J.cell? (w.heap.size,0)=some (.pointer (some (g,0))):=QB.out.cell 0;obtain⟨p0,p1,I,p3,p4,p5,p6⟩:=fj.parts (hS.ah jY Bu);clear hS bM Bp hM uX bX a1 bj rN br jY dB du;by_cases aD:b.size<F
 ·have al:Hid (split (aQ c l) b=([],b,0,0)):=za (dv WR.out (k9.2 (XX.out.here aD)));rw[al.out];go_enter func52,ntmps52
  go_wp2_with fail
  rw[dm.out];go_quiet (fail)
  go_wp2;go_ret;have eD:Below w.heap.size w (J.drewN nq):=Below.bI lJ.out nq;exact⟨_,_,F,rfl,bA.nil _ _ _,HS.out.ah eD Bu,oV.out.below eD,(MS.refl HM.out|>.below eD).met,(ae.ai eD (ze _)).mono (by simp),fun k hk=> .inl hk,fun _=>XX.out⟩
 skip
 go_enter func52,ntmps52
 go_wp2_with fail
 rw[dm.out];go_quiet (fail)
 obtain⟨w1,kR⟩:∃w1,J.drewN nq=w1:=⟨_,rfl⟩
 have cr:Hid (J,w1):=za (by rw[<-kR];exact Below.bI (zi _ _) nq);rw[kR];clear kR b2 p0 p1 I p3 p4 p5 p6;have Xh:=lJ.out.trans (cr.out.mono (by have:=E4.out;omega));have bJ:=za Xh;have b2:w1.cell? (w.heap.size,0)=some (.pointer (some (g,0))):=(QB.out.ah cr.out QB.out.lt).cell 0;obtain⟨p0,p1,I,p3,p4,p5,p6⟩:=fj.parts (HS.out.ah Xh Bu);have WT:=za (ML lo hi D gn gi c rows w1 (Jc.out.below (Xh.mono Jc.out.his)));unfold aF.val at WT;clear Xh;go_wp2_with fail
 refine WT.out.mono ?_;rintro e q ⟨rfl,aI⟩;obtain⟨y,ee⟩:∃y,((q.alloc (.cells #[c.fm,.int .u32 c.mg,c.fr,c.un,c.de,c.it] 24)).alloc (.cells #[b] 9)).alloc (.cells #[(0:Int)] 3)=y:=⟨_,rfl⟩
 have cg:=cr.out.size;have cC:=aI.size;have aP:Below q.heap.size q y:=by rw[<-ee];exact(((zi _ q).alloc (ze _) _).alloc (by simp) _).alloc (by simp;omega) _
 have bh:Below w1.heap.size w1 y:=aI.trans (aP.mono cC);have aK:Below J.heap.size J y:=cr.out.trans (bh.mono cg);have Xf:Below w.heap.size w q:=bJ.out.trans (aI.mono (by have:=E4.out;omega));have ba:Below w.heap.size w y:=Xf.trans (aP.mono (by have:=E4.out;omega));have K9:y.heap.size=q.heap.size+3:=by rw[<-ee];simp
 have bB:=bt.out (q.alloc (.cells #[c.fm,.int .u32 c.mg,c.fr,c.un,c.de,c.it] 24)) (Xf.alloc (by have:=E4.out;omega) _);have bd:Hid (af y q.heap.size 24 #[c.fm,.int .u32 c.mg,c.fr,c.un,c.de,c.it]):=za (by rw[<-ee];exact((af.new _ _ _).alloc _).alloc _);have bf:Hid (af y (q.heap.size+1) 9 #[b]):=za (by rw[<-ee];exact af.alloc (af.at_ (by simp)) _);have bb:Hid (af y (q.heap.size+1+1) 3 #[(0:Int)]):=za (by rw[<-ee];exact af.at_ (by simp));have bo:=za (QB.out.ah aK QB.out.lt);have bc:=za (Ls.out.ah aK Ls.out.lt);have Fc:=za ba;have ay:Hid (w.heap.size+2<=q.heap.size/\y.heap.size=q.heap.size+3):=za ⟨by have:=E4.out;omega,K9⟩;clear b2 p0 p1 I p3 p4 p5 p6;have b2:q.cell? (w.heap.size,0)=some (.pointer (some (g,0))):=((QB.out.ah cr.out QB.out.lt).ah aI (by have:=E4.out;omega)).cell 0;obtain⟨p0,p1,I,p3,p4,p5,p6⟩:=fj.parts (HS.out.ah Xf Bu);have Br:w.heap.size<q.heap.size:=by have:=E4.out;omega
 have Fq:g<q.heap.size:=by omega
 have mz:=za ee;have YM:Hid (NxN lo hi q.heap.size (w.heap.size+1) (q.heap.size+1) (q.heap.size+1+1) w.heap.size g p):=za ⟨⟨by omega,by omega,by omega,by omega,by omega,Qv⟩,⟨by omega,by omega,by omega,by omega,by omega⟩,⟨.inr a8,.inr (by have:=Jc.out.his;omega)⟩⟩;have vH:Hid (∀V k t' R',ae [p] w V->Wm V q.heap.size (w.heap.size+1) (q.heap.size+1) (q.heap.size+1+1) w.heap.size g p c b k->Met V (some p) t' R'->70000<=R'->k<=b.size->Calls prog 70 (EH q.heap.size (w.heap.size+1) (q.heap.size+1) (q.heap.size+1+1) w.heap.size) V (SY V (q.heap.size+1+1) p t' R' k (aQ c l (b.extract k b.size)))):=za (fun V k t' R' o hB hm bw hk=>
  SZ c l lo hi D gn gi rows g p _ _ _ _ _ b k (.slice A b.size cap) F 0 laid H sent t' R' V hr hc hb hk (Jc.out.only o (by simp;exact .inr a8)) vK.out (HS.out.only o (by simp;omega)) hm bw hB YM.out (fun V' bV=>I8.out V' (((o.mono (by simp)).trans' bV (by have:=ay.out;simp;omega)))))
 clear aI aP bh aK Xf ba ee K9 WT;go_wp2_with fail
 rw[mz.out];have Ft:Hid (Wm y q.heap.size (w.heap.size+1) (q.heap.size+1) (q.heap.size+1+1) w.heap.size g p c b 0):=za ⟨bd.out,bc.out,bf.out,bb.out,bo.out⟩;have au:=za (vH.out y 0 t R ((ae.ai Fc.out (ze _)).mono (by simp)) Ft.out (MS.refl HM.out|>.below Fc.out).met (by omega) (ya _));unfold EH at au vH;have M0:w.heap.size+2<=q.heap.size:=ay.out.1;have KW:y.heap.size=q.heap.size+3:=ay.out.2;obtain⟨cb,bl⟩:∃cb,q.heap.size=cb:=⟨_,rfl⟩
 have PY:Hid (ae [p] w y):=za ((ae.ai Fc.out (ze _)).mono (by simp));rw[bl]at Ft au vH YM M0 KW⊢;clear bl b2 p0 p1 I p3 p4 p5 p6 Br Fq bB bd bf bb bo bc ay mz cg cC;obtain⟨X0,ax⟩:∃X0,aQ c l (b.extract 0 b.size)=X0:=⟨_,rfl⟩
 rw[ax]at au;refine au.out.mono ?_;rintro e w6 ⟨d0,d1,d2,d3,rfl,rP,Ql,Bw,KV⟩;obtain⟨M,K,rfl,rfl,rfl,rfl,_⟩:=rP.open_;have ao:Hid (CuW w (w6.alloc (.cells #[X0.2.1.name,X0.2.1.x.text,X0.2.1.x.list,.slice M X0.2.1.x.sub.length K] 30)) cb (w.heap.size+1) (cb+1) (cb+1+1) w.heap.size w6.heap.size y.heap.size g p c l b 0 (t+0) (R-0) nS):=za (by
  subst ax;have ha:=YM.out.a1;have aw:=Bw.size;have bU:Wm w6 cb (w.heap.size+1) (cb+1) (cb+1+1) w.heap.size g p c b (if(aQ c l (b.extract 0 b.size)).1=0 then 0+(aQ c l (b.extract 0 b.size)).2.2.1 else 0):=⟨Ft.out.cf.only Bw (by simp;omega),Ft.out.me.only Bw (by simp;omega),Ft.out.tx.only Bw (by simp;omega),KV,Ft.out.se.only Bw (by simp;omega)⟩
  have Dx:=(zi w6.heap.size w6).alloc (ze _) (.cells #[.string (aQ c l (b.extract 0 b.size)).2.1.name,.string (aQ c l (b.extract 0 b.size)).2.1.x.text,.bool (aQ c l (b.extract 0 b.size)).2.1.x.list,.slice M (aQ c l (b.extract 0 b.size)).2.1.x.sub.length K] 30);have aB:=ae.ai Dx (ze _);exact⟨(PY.out.trans' Bw (by simp;omega)).trans' aB (by simp),Ql.only aB (by simp),bU.only aB (by simp),_,_,_,_,af.new _ _ _,(rP.eG (S':=fun j=>y.heap.size<=j/\j≠w6.heap.size/\(Value.slice none 0 0).ownBlock≠some j) (fun j d h=>⟨h,by omega,by intro e;cases e⟩)).below Dx⟩)
 obtain⟨W7,sm⟩:∃W7,w6.alloc (.cells #[X0.2.1.name,X0.2.1.x.text,X0.2.1.x.list,.slice M X0.2.1.x.sub.length K] 30)=W7:=⟨_,rfl⟩
 have aw:=Bw.size;have bn:W7.heap.size=w6.heap.size+1:=by rw[<-sm];simp
 rw[sm]at ao;have ID:=za sm;obtain⟨z,hz⟩:∃z,y.heap.size=z:=⟨_,rfl⟩
 rw[hz]at ao KW aw;have bQ:=za ax;have Cm:Hid (w.heap.size+2<=cb/\z=cb+3):=za ⟨M0,KW⟩;have aN:=za aw;have aC:=za bn;clear ax rP Ql Bw KV sm bn hz Ft au M0 KW aw Fc PY bt;go_wp2_with fail
 rw[ID.out];obtain⟨u,a6⟩:∃u,w6.heap.size=u:=⟨_,rfl⟩
 rw[a6]at ao aN aC⊢;have Z:Hid (w.heap.size+2<=cb/\z=cb+3/\z<=u):=za ⟨Cm.out.1,Cm.out.2,aN.out⟩;clear a6 Cm aN;go_loopw [9,11] (fun lv ev wr=>∃(acc:List Ms) (k a:Nat),bA wr (fun j=>z<=j/\j≠u) (u+1) acc lv/\ev= .int .i64 (aQ c l (b.extract k b.size)).1/\k<=b.size/\acc.length<=k/\a<=65536*acc.length/\Hid (split (aQ c l) b=(acc++(split (aQ c l) (b.extract k b.size)).1,(split (aQ c l) (b.extract k b.size)).2.1,a+(split (aQ c l) (b.extract k b.size)).2.2.1,(split (aQ c l) (b.extract k b.size)).2.2.2))/\Hid (CuW w wr cb (w.heap.size+1) (cb+1) (cb+1+1) w.heap.size u z g p c l b k (t+a) (R-a) lv)/\u+1<=wr.heap.size) (fun lv _ _=>b.size-lenOf lv)
 case atStart=>exact⟨[],0,0,bA.nil _ _ _,by rw[bQ.out],by omega,by simp,by simp,za (by rw[Lx];simp),ao,by have:=aC.out;omega⟩
 case round=>
  clear ao ID aC;obtain⟨acc,k,a,ju,rfl,hk,Dx,ha,al,a',b9⟩:=hrel;obtain⟨A5,n5,fh,rfl,bS,b1,b6⟩:=ju.bK;have tp:=za ju;have Bp:=S2 c l (b.extract k b.size);have ff:=WR.out.pos (b.extract k b.size);have mQ:Hid ((aQ c l (b.extract k b.size)).1≠0->split (aQ c l) b=(acc,b.extract k b.size,a+(aQ c l (b.extract k b.size)).2.2.2,if(aQ c l (b.extract k b.size)).1=2 then 0 else(aQ c l (b.extract k b.size)).1)):=za (fun h=>by
   rw[al.out,jE WR.out (b.extract k b.size),zf h];simp)
  have I5:Hid ((aQ c l (b.extract k b.size)).1=0->split (aQ c l) b=((acc++ [(aQ c l (b.extract k b.size)).2.1])++(split (aQ c l) (b.extract (k+(aQ c l (b.extract k b.size)).2.2.1) b.size)).1,(split (aQ c l) (b.extract (k+(aQ c l (b.extract k b.size)).2.2.1) b.size)).2.1,(a+(aQ c l (b.extract k b.size)).2.2.2)+(split (aQ c l) (b.extract (k+(aQ c l (b.extract k b.size)).2.2.1) b.size)).2.2.1,(split (aQ c l) (b.extract (k+(aQ c l (b.extract k b.size)).2.2.1) b.size)).2.2.2)):=za (fun h=>by
   obtain⟨p1,I⟩:=WR.out.pos _ h;rw[ar _ _ _ (ze _)]at I;have e:(b.extract k b.size).extract (aQ c l (b.extract k b.size)).2.2.1 (b.extract k b.size).size=b.extract (k+(aQ c l (b.extract k b.size)).2.2.1) b.size:=by
    rw[DD _ _ _ _ (by rw[ar _ _ _ (ze _)];omega),ar _ _ _ (ze _)];congr 1;omega
   rw[al.out,iF WR.out h,e];simp[Xp.cons,yd])
  have ab:Hid ((aQ c l (b.extract k b.size)).1=2->iM c (b.extract k b.size) (gR c (b.extract k b.size))):=za (fun h=>iM.of hr (k9.1 h));rw[ar _ _ _ (ze _)]at ff;obtain⟨uo,um,ux,d0,d1,d2,d3,ut,us⟩:=a'.out;clear al a' ju;obtain⟨r,YN⟩:∃r,b.extract k b.size=r:=⟨_,rfl⟩
  rw[YN]at Bp ff mQ I5 ab um ux us⊢;have av:=za YN;clear YN;obtain⟨X,hX⟩:∃X,aQ c l r=X:=⟨_,rfl⟩
  rw[hX]at Bp ff mQ I5 ab um ux us⊢;clear hX;obtain⟨y5,X2,y4,m⟩:=X;simp only at Bp ff mQ I5 ab um ux us⊢;obtain⟨Ay,Lt,rfl,rfl,rfl,rfl,_⟩:=us.open_;have b5:lenOf (.slice A5 n5 fh)=n5:=rfl;by_cases Y:y5=0
  ·subst Y;obtain⟨p1,I⟩:=ff rfl;have lG:=za (I5.out rfl);rw[zg rfl]at ux;obtain⟨v0,v1,v2,v3,_⟩:=aY ut;have Xg:=(zi wr.heap.size wr).alloc (ze _) (.cells #[X2.name,X2.x.text,X2.x.list,.slice Ay X2.x.sub.length Lt] 30);have Um:=za (tp.out.below Xg);have bm:=za ((us.below Xg).eG (S':=fun j=>(z<=j/\j≠u)/\(Value.slice A5 n5 fh).ownBlock≠some j) (fun j _ h=>⟨⟨h.1,h.2.1⟩,h.2.2⟩));have Uh:=ae.ai Xg (ze _);have ah:=za (uo.trans' Uh (by simp));have ad:=za (um.only Uh (by simp));have s:=za (ux.only Uh (by simp));have bp:=za (ut.only Uh (by simp));have Uj:=za (Um.out.ge);clear uo um ux ut us Xg Uh I5 mQ ab tp;go_wp2_with (
    refine qP (by rfl) (.tmp 40) (.tmp 42) (by rfl) (fun j=>z<=j/\j≠u) (u+1) acc (by rfl) Um.out X2 bm.out wr.heap.size (by rfl) (by simp) (by simp) (by simp) (by simp) (by omega) (by simp;omega) ?_;intro g' n' aj w8 Tn aG dM b0)
   have E:=ae.cn dM;have C:∀j,j∈(Value.slice A5 n5 fh).ownBlock.toList->u+1<=j:=fun j d=>(Uj.out j (aM.1 d)).1
   obtain⟨z1,z2,z3⟩:=Z.out;have bq:Hid (ae [p] w w8):=za (ah.out.trans' E (fun j d=> .inr (by have:=C j d;omega)));have bC:=za (ad.out.only E (by intro j e d;injection e with e;have:=C j d;omega));have Ul:=za (s.out.only E ⟨fun d=>by have:=C _ d;omega,fun d=>by have:=C _ d;omega,fun d=>by have:=C _ d;omega,fun d=>by have:=C _ d;omega,fun d=>by have:=C _ d;omega⟩);have bL:=za (bp.out.only E (fun d=>by have:=C _ d;omega));have UN:wr.heap.size+1<=w8.heap.size:=by have:=dM.size;simpa using this
   have bH:=za aG;have Tu:=za aG.ge;have dW:k+y4<=b.size:=by omega
   have az:=za (vH.out w8 (k+y4) (t+a+m) (R-a-m) bq.out Ul.out bC.out (by omega) dW);obtain⟨ai,hY⟩:∃ai,aQ c l (b.extract (k+y4) b.size)=ai:=⟨_,rfl⟩
   rw[hY]at az;have bk:=za hY;have a7:=za (And.intro z1 (And.intro z2 z3));clear E C dM aG hY ah ad s bp Um bm Uj z1 z2 z3;refine az.out.mono ?_;rintro e w9 ⟨d0,d1,d2,d3,rfl,rP,Ql,W,KV⟩;obtain⟨Az,bT,rfl,rfl,rfl,rfl,_⟩:=rP.open_;have b4:=W.size;have aE:=bL.out.only W (by have:=a7.out;simp;omega);obtain⟨t0,t1,t2,t3,Nt,PO,US,b7⟩:=aY aE;have bN:=za aE;have bD:=za rP;have bE:=za Ql;have bx:=za W;have bI:=za KV;clear rP Ql W KV aE az;go_wp2;go_roundw
   case rel=>
    have W:=bx.out;have Cn:=eP w9 u ai.2.1.name ai.2.1.x.text ai.2.1.x.list (.slice Az ai.2.1.x.sub.length bT);have lK:∀j,(Value.slice (some (g',0)) n' aj).ownBlock=some j->u+1<=j/\j<w8.heap.size:=fun j e=>Tu.out j e
    obtain⟨z1,z2,z3⟩:=a7.out;have ha:=YM.out.a1;refine⟨acc++ [X2],k+y4,a+m,(bH.out.only W (by simp;omega) (fun j d e=>by have:=lK j e;simp at d;omega)).only Cn (by simp) (fun j d e=>by have:=lK j e;simp at d;omega),by rw[bk.out],dW,by rw[zh];simp;omega,by rw[zh];simp;omega,by rw[show k+y4=k+y4 from rfl];exact lG,za ?_,by have:=Cn.size;omega⟩;have e1:t+(a+m)=t+a+m:=by omega
    have e2:R-(a+m)=R-a-m:=by omega
    rw[e1,e2];have hY:=bk.out;subst hY;exact⟨(bq.out.trans' W (by simp;omega)).trans' Cn (by simp;omega),bE.out.only Cn (by intro j e;injection e with e;simp;omega),
     ⟨(Ul.out.cf.only W (by simp;omega)).only Cn (by simp;omega),(Ul.out.me.only W (by simp;omega)).only Cn (by simp;omega),(Ul.out.tx.only W (by simp;omega)).only Cn (by simp;omega),bI.out.only Cn (by simp;omega),(Ul.out.se.only W (by simp;omega)).only Cn (by simp;omega)⟩,
     _,_,_,_,H' bN.out _ _ _ _,bD.out.only Cn (by simp;omega) (fun j _ d=>by have d:w8.heap.size<=j:=d;exact⟨by omega,by omega,fun e=>by have:=lK j e;omega⟩)⟩
   case measure=>
    have q1:=Tn.out;have q2:=bS.out;simp[lenOf];omega
  have B:=mQ.out Y;rw[zf Y]at ux;have Qz:Hid (fj wr g D (.slice A b.size cap) F 0 laid H sent):=za (HS.out.only uo (by simp;omega));have Xi:Hid (bR wr hi 5 (.slice A b.size cap) b.data.toList):=za (oV.out.qF uo (fun j e=>by have:=Qw.out.2;rw[e]at this;simpa using Zj (fun h=>this (by rw[h]))));have ah:=za uo;have ad:=za um;have s:=za ux;have rH:(k:Int)<=b.size:=by omega
  have Uw:r.size<=5000000:=by rw[<-av.out,ar _ _ _ (ze _)];omega
  have bZ:=av.out;have b3:w.heap.size<cb+1+1:=by have:=Z.out.1;omega
  clear uo um ux ut us mQ I5 ff;by_cases O:y5=2
  ·subst O;rw[zg rfl]at B;have B:=za B;have bO:=za (ab.out rfl);have TH:=za (fun V=>KA c r V hr (by omega));unfold aF.val at TH;clear ab;go_wp2_with fail
   refine nM 8 (by kernel_rfl) (by kernel_rfl) ?_;simp only[zO,yq,zV,zG];refine ag (.pointer (some (g,0))) (by rfl) (fun V o=>by have b2:=(s.out.se.ah o s.out.se.lt).cell 0;go_simp) ?_;simp only[Act.put,zb,zc,zd];refine ag (.agg #[c.fm,.int .u32 c.mg,c.fr,c.un,c.de,c.it]) (by rfl) (fun V o=>by obtain⟨q0,q1,q2,q3,q4,q5⟩:=fy (s.out.cf.ah o s.out.cf.lt);go_simp) ?_;simp only[Act.put,zb,zc,zd];refine ag (.string b) (by rfl) (fun V o=>by have b2:=(s.out.tx.ah o s.out.tx.lt).cell 0;go_simp) ?_;simp only[Act.put,zb,zc,zd];refine ag (.int .i64 k) (by rfl) (fun V o=>by have b2:=(s.out.at_.ah o s.out.at_.lt).cell 0;go_simp) ?_;simp only[Act.put,zb,zc,zd];refine ag (.string r) (by rfl) (fun _ _=>by first|rfl|go_simp) ?_;simp only[Act.put,zb,zc,zd];refine eN 73 _ _ (by rfl) (fun _=>by first|rfl|go_simp) (fun V _=>TH.out V) ?_;simp only[Act.put,zb,zc,zd];refine ag (.pointer (some (g,0))) (by rfl) (fun _ _=>by first|rfl|go_simp) ?_;simp only[Act.put,zb,zc,zd];refine ag (.pointer (some (g,2))) (by rfl) (fun _ _=>by first|rfl|go_simp) ?_;simp only[Act.put,zb,zc,zd];refine xr ?_;intro V o;have Xj:fj V g D (.slice A b.size cap) F 0 laid H sent:=Qz.out.ah o Qz.out.lt;obtain⟨_,_,I,p3,_,_,_⟩:=fj.parts Xj;obtain⟨_,f2,f3,_,_,_⟩:=fj.Ed Xj;have aT:g<V.heap.size:=zJ Qz.out.lt o.size;go_upto_region 15 with fail
   obtain⟨n,L⟩:∃n,V.setCell (g,2) (.int .i64 (gR c r:Nat))=n:=⟨_,rfl⟩
   rw[L];have ak:ae [p,g] w V:=(ah.out.mono (by simp)).trans' (ae.ai o (ze _)) (by simp);have Nv:Hid (ae (p::g::(Value.slice A b.size cap).ownBlock.toList) w n):=za (by rw[<-L];exact(ak.setCell (.inl (by simp)) _).mono (by intro i hi;simp at hi⊢;rcases hi with h|h<;>simp[h]));have G:ae [g] V n:=by rw[<-L];exact(ae.refl _ _).setCell (.inl (by simp)) _
   have P8:Hid (bR n hi 5 (.slice A b.size cap) b.data.toList):=za ((Xi.out.below o).qF G (by intro j e h;simp at h;subst h;exact Qw.out.1 e));have UY:Hid (Met n (some p) (t+a+m) (R-a-m)):=za ((ad.out.only (ae.ai o (ze _)) (by simp)).only G (by intro j e;injection e with e;subst e;simpa using Qv));have bu:g<w.heap.size:=Bu;have an:Hid (bA n (fun j=>z<=j/\j≠u) (u+1) acc (.slice A5 n5 fh)):=za ((tp.out.below o).only G (by have:=Z.out;simp;omega) (fun j d e=>by have:=(tp.out.ge j e).1;have:=Z.out;simp at d;omega));have Ud:Hid (af n w.heap.size 74 #[(g,0)]):=za ((s.out.se.ah o s.out.se.lt).only G (by simp;omega));have Ug:Hid (af n (cb+1+1) 3 #[k]):=za ((s.out.at_.ah o s.out.at_.lt).only G (by have:=Z.out;simp;omega));have IK:Hid (w.heap.size<=n.heap.size):=za Nv.out.size;clear ak G I p3 f2 f3 aT;have fT:Hid (fj n g D (.slice A b.size cap) (gR c r) 0 laid H sent):=za (by rw[<-L];exact fj.Vy Xj _);clear L o Xj Qz Xi ah ad s tp;have aH:Hid ((split (aQ c l) b).2.2.2=0->iM c (split (aQ c l) b).2.1 (gR c r)):=za (fun _=>by rw[B.out];exact bO.out);have Iv:g<n.heap.size:=fT.out.lt;have WL:=za (Ho hi (.slice A b.size cap) b.data.toList k n.drew (P8.out.below (zi _ _).drew) (by have:=IK.out;show hi<=n.heap.size;omega) (by rw[aa];omega) (by rw[aa];omega));have aU:Hid (b.data.toList.drop k=r.data.toList):=za (by rw[<-av.out,aq,cQ]);have Lk:Hid (∀j,(Value.slice A b.size cap).ownBlock=some j->j<w.heap.size):=za (fun j e=>(oV.out.ge j e).2.1)
   have hHeld:(fun V:World=>(V,w.heap.size,0,g,0)/\(V,g,1,Value.slice A b.size cap)/\(V,cb+1+1,0,k)) n.drew:=⟨Ud.out.cell 0,(fj.parts fT.out).2.1,Ug.out.cell 0⟩
   refine aL 9 (fun V=>(V,w.heap.size,0,g,0)/\(V,g,1,Value.slice A b.size cap)/\(V,cb+1+1,0,k)) (by kernel_rfl) (by kernel_rfl) ?_;refine GT.iv [0,1,2,3,4,5] hHeld (fun _ _ _ _ _ h=>h) (by kernel_rfl) ?_;repeat(refine .c rfl rfl (fun V o=>by go_simp<;>with_reducible rfl) ?_;simp only[Act.put,zb,zc,zd])
   refine .nil ?_;refine GT.fx 6 (fun aZ hK=> ?_) rfl (by kernel_rfl);go_simp;refine WL.out.mono ?_;rintro e x ⟨v',rfl,cP,N⟩;rw[aU.out]at cP;have Uk:fj n.drew g D (.slice A b.size cap) (gR c r) 0 laid H sent:=af.drew fT.out;have S:fj x g D (.slice A b.size cap) (gR c r) 0 laid H sent:=af.Ur Uk N (Qw.out.1);have Uf:af x w.heap.size 74 #[(g,0)]:=af.Ur Ud.out.drew N (fun e=>by have:=Lk.out _ e;omega);have Ui:af x (cb+1+1) 3 #[k]:=af.Ur Ug.out.drew N (fun e=>by have:=Lk.out _ e;omega);obtain⟨_,aO,_,_,_,_,_⟩:=fj.parts S;obtain⟨bz,_,_,_,_,_⟩:=fj.Ed S;have bK:g<x.heap.size:=S.lt;obtain⟨M,n6,K,rfl,bG,bP,bW⟩:=cP.bK;have dK:=za S;have IN:=za N;have Co:=za cP;clear S Uk N cP WL;go_wp2_with fail
   refine hK.out _ _ ⟨Uf.cell 0,aO,Ui.cell 0⟩ (fun hHeld=> ?_);clear hK aZ;try simp only[Act.put,zb,zc,zd]
   refine GT.iv [7,8] hHeld (fun _ _ _ _ _ h=>h) (by kernel_rfl) ?_;repeat(refine .c rfl rfl (fun V o=>by go_simp<;>with_reducible rfl) ?_;simp only[Act.put,zb,zc,zd])
   refine .nil ?_;refine GT.oF 9 ?_ rfl (by kernel_rfl);go_simp;clear hHeld Uf Ui;go_wp2;go_ret;have aX:ae [] n n.drew:=ae.ai (zi _ _).drew (ze _);have E:ae (Value.slice A b.size cap).ownBlock.toList n x:=(aX.mono (by simp)).trans IN.out.only;have aA:ae (p::g::(Value.slice A b.size cap).ownBlock.toList) w x:=Nv.out.trans' E (fun i hi=> .inl (by simp at hi⊢;exact .inr (.inr hi)));have Un:ae [g] x (x.setCell (g,1) (.slice M n6 K)):=(ae.refl [g] x).setCell (.inl (by simp)) _;have KW:=Z.out;refine⟨.slice A5 n5 fh,.slice M n6 K,(gR c r),rfl, ?_, ?_, ?_, ?_, ?_, ?_,aH.out⟩
   ·rw[B.out];have C:∀j,j∈(Value.slice A b.size cap).ownBlock.toList->j<w.heap.size:=fun j d=>Lk.out j (aM.1 d)
    have lK:=an.out.ge;have aR:∀j,j<n.heap.size->(z<=j/\j≠u)->w.heap.size<=j/\(Value.slice M n6 K).ownBlock≠some j:=fun j d hz=>⟨by omega,fun e=>by
     rcases IN.out.own with e2|⟨j',e2,U⟩
     ·have:=Lk.out j (by rw[<-e2];exact e);omega
     rw[e2]at e;injection e with e;have U:n.heap.size<=j':=U;omega⟩
    exact((an.out.eG aR (show w.heap.size<=u+1 by omega)).only E (fun j d hS=>by have:=C j d;have:=hS.1;omega) (fun j d e=>by have:=C j d;have:=lK j e;omega)).only Un (fun j d hS=>by simp at d;have:=hS.1;omega) (fun j d e=>by have:=lK j e;simp at d;omega)
   ·rw[B.out];exact fj.JX dK.out _
   ·rw[B.out];refine Co.out.ah (fun j Y O=>zR _ _ _ _ ?_);rintro rfl;exact(Co.out.cw dK.out (by decide)) O
   ·rw[B.out];have Y:=UY.out.only E (by intro j e;injection e with e;subst e;exact fun h=>Qw.out.2 (aM.1 h));have O:=Y.only Un (by intro j e;injection e with e;subst e;simpa using Qv);simpa only[yd,Nat.sub_sub]using O
   ·exact aA.setCell (.inl (by simp)) _
   intro j d;rcases IN.out.own with e|⟨j',e,U⟩
   ·exact .inl (by rw[<-e];exact d)
   rw[e]at d;injection d with d;exact .inr (by have:=IK.out;have U:n.heap.size<=j':=U;omega)
  rw[zf O]at B;have B:=za B;have Y0:(y5==2)=false:=zl.2 O;obtain⟨V,aS⟩:∃V,wr=V:=⟨_,rfl⟩
  have o:Below wr.heap.size wr V:=by rw[<-aS];exact zi _ _
  have b2:V.cell? (w.heap.size,0)=some (.pointer (some (g,0))):=(s.out.se.ah o s.out.se.lt).cell 0;rw[aS];clear aS ab;have Xj:fj V g D (.slice A b.size cap) F 0 laid H sent:=Qz.out.ah o Qz.out.lt;obtain⟨_,_,I,p3,_,_,_⟩:=fj.parts Xj;obtain⟨_,f2,f3,_,_,_⟩:=fj.Ed Xj;have aT:g<V.heap.size:=zJ Qz.out.lt o.size;go_upto_region 15 with fail
  obtain⟨n,L⟩:∃n,V.setCell (g,3) (.int .i64 y5)=n:=⟨_,rfl⟩
  rw[L];have ak:ae [p,g] w V:=(ah.out.mono (by simp)).trans' (ae.ai o (ze _)) (by simp);have Nv:Hid (ae (p::g::(Value.slice A b.size cap).ownBlock.toList) w n):=za (by rw[<-L];exact(ak.setCell (.inl (by simp)) _).mono (by intro i hi;simp at hi⊢;rcases hi with h|h<;>simp[h]));have G:ae [g] V n:=by rw[<-L];exact(ae.refl _ _).setCell (.inl (by simp)) _
  have P8:Hid (bR n hi 5 (.slice A b.size cap) b.data.toList):=za ((Xi.out.below o).qF G (by intro j e h;simp at h;subst h;exact Qw.out.1 e));have UY:Hid (Met n (some p) (t+a+m) (R-a-m)):=za ((ad.out.only (ae.ai o (ze _)) (by simp)).only G (by intro j e;injection e with e;subst e;simpa using Qv));have bu:g<w.heap.size:=Bu;have an:Hid (bA n (fun j=>z<=j/\j≠u) (u+1) acc (.slice A5 n5 fh)):=za ((tp.out.below o).only G (by have:=Z.out;simp;omega) (fun j d e=>by have:=(tp.out.ge j e).1;have:=Z.out;simp at d;omega));have Ud:Hid (af n w.heap.size 74 #[(g,0)]):=za ((s.out.se.ah o s.out.se.lt).only G (by simp;omega));have Ug:Hid (af n (cb+1+1) 3 #[k]):=za ((s.out.at_.ah o s.out.at_.lt).only G (by have:=Z.out;simp;omega));have IK:Hid (w.heap.size<=n.heap.size):=za Nv.out.size;clear ak G I p3 f2 f3 aT;have fT:Hid (fj n g D (.slice A b.size cap) F y5 laid H sent):=za (by rw[<-L];exact fj.RK Xj _);clear L o Xj Qz Xi ah ad s tp b2;have aH:Hid ((split (aQ c l) b).2.2.2=0->iM c (split (aQ c l) b).2.1 F):=za (fun h=>by rw[B.out]at h;exact absurd h Y);have Iv:g<n.heap.size:=fT.out.lt;have WL:=za (Ho hi (.slice A b.size cap) b.data.toList k n.drew (P8.out.below (zi _ _).drew) (by have:=IK.out;show hi<=n.heap.size;omega) (by rw[aa];omega) (by rw[aa];omega));have aU:Hid (b.data.toList.drop k=r.data.toList):=za (by rw[<-av.out,aq,cQ]);have Lk:Hid (∀j,(Value.slice A b.size cap).ownBlock=some j->j<w.heap.size):=za (fun j e=>(oV.out.ge j e).2.1)
  have hHeld:(fun V:World=>(V,w.heap.size,0,g,0)/\(V,g,1,Value.slice A b.size cap)/\(V,cb+1+1,0,k)) n.drew:=⟨Ud.out.cell 0,(fj.parts fT.out).2.1,Ug.out.cell 0⟩
  refine aL 9 (fun V=>(V,w.heap.size,0,g,0)/\(V,g,1,Value.slice A b.size cap)/\(V,cb+1+1,0,k)) (by kernel_rfl) (by kernel_rfl) ?_;refine GT.iv [0,1,2,3,4,5] hHeld (fun _ _ _ _ _ h=>h) (by kernel_rfl) ?_;repeat(refine .c rfl rfl (fun V o=>by go_simp<;>with_reducible rfl) ?_;simp only[Act.put,zb,zc,zd])
  refine .nil ?_;refine GT.fx 6 (fun aZ hK=> ?_) rfl (by kernel_rfl);go_simp;refine WL.out.mono ?_;rintro e x ⟨v',rfl,cP,N⟩;rw[aU.out]at cP;have Uk:fj n.drew g D (.slice A b.size cap) F y5 laid H sent:=af.drew fT.out;have S:fj x g D (.slice A b.size cap) F y5 laid H sent:=af.Ur Uk N (Qw.out.1);have Uf:af x w.heap.size 74 #[(g,0)]:=af.Ur Ud.out.drew N (fun e=>by have:=Lk.out _ e;omega);have Ui:af x (cb+1+1) 3 #[k]:=af.Ur Ug.out.drew N (fun e=>by have:=Lk.out _ e;omega);obtain⟨_,aO,_,_,_,_,_⟩:=fj.parts S;obtain⟨bz,_,_,_,_,_⟩:=fj.Ed S;have bK:g<x.heap.size:=S.lt;obtain⟨M,n6,K,rfl,bG,bP,bW⟩:=cP.bK;have dK:=za S;have IN:=za N;have Co:=za cP;clear S Uk N cP WL;go_wp2_with fail
  refine hK.out _ _ ⟨Uf.cell 0,aO,Ui.cell 0⟩ (fun hHeld=> ?_);clear hK aZ;try simp only[Act.put,zb,zc,zd]
  refine GT.iv [7,8] hHeld (fun _ _ _ _ _ h=>h) (by kernel_rfl) ?_;repeat(refine .c rfl rfl (fun V o=>by go_simp<;>with_reducible rfl) ?_;simp only[Act.put,zb,zc,zd])
  refine .nil ?_;refine GT.oF 9 ?_ rfl (by kernel_rfl);go_simp;clear hHeld Uf Ui;go_wp2;go_ret;have aX:ae [] n n.drew:=ae.ai (zi _ _).drew (ze _);have E:ae (Value.slice A b.size cap).ownBlock.toList n x:=(aX.mono (by simp)).trans IN.out.only;have aA:ae (p::g::(Value.slice A b.size cap).ownBlock.toList) w x:=Nv.out.trans' E (fun i hi=> .inl (by simp at hi⊢;exact .inr (.inr hi)));have Un:ae [g] x (x.setCell (g,1) (.slice M n6 K)):=(ae.refl [g] x).setCell (.inl (by simp)) _;have KW:=Z.out;refine⟨.slice A5 n5 fh,.slice M n6 K,F,rfl, ?_, ?_, ?_, ?_, ?_, ?_,aH.out⟩
  ·rw[B.out];have C:∀j,j∈(Value.slice A b.size cap).ownBlock.toList->j<w.heap.size:=fun j d=>Lk.out j (aM.1 d)
   have lK:=an.out.ge;have aR:∀j,j<n.heap.size->(z<=j/\j≠u)->w.heap.size<=j/\(Value.slice M n6 K).ownBlock≠some j:=fun j d hz=>⟨by omega,fun e=>by
    rcases IN.out.own with e2|⟨j',e2,U⟩
    ·have:=Lk.out j (by rw[<-e2];exact e);omega
    rw[e2]at e;injection e with e;have U:n.heap.size<=j':=U;omega⟩
   exact((an.out.eG aR (show w.heap.size<=u+1 by omega)).only E (fun j d hS=>by have:=C j d;have:=hS.1;omega) (fun j d e=>by have:=C j d;have:=lK j e;omega)).only Un (fun j d hS=>by simp at d;have:=hS.1;omega) (fun j d e=>by have:=lK j e;simp at d;omega)
  ·rw[B.out];exact fj.JX dK.out _
  ·rw[B.out];refine Co.out.ah (fun j Y O=>zR _ _ _ _ ?_);rintro rfl;exact(Co.out.cw dK.out (by decide)) O
  ·rw[B.out];have Y:=UY.out.only E (by intro j e;injection e with e;subst e;exact fun h=>Qw.out.2 (aM.1 h));have O:=Y.only Un (by intro j e;injection e with e;subst e;simpa using Qv);simpa only[yd,Nat.sub_sub]using O
  ·exact aA.setCell (.inl (by simp)) _
  intro j d;rcases IN.out.own with e|⟨j',e,U⟩
  ·exact .inl (by rw[<-e];exact d)
  rw[e]at d;injection d with d;exact .inr (by have:=IK.out;have U:n.heap.size<=j':=U;omega)
