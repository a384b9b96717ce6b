/- peer: New. -/
import Derived.Test.YtimoclkoflamkaaGreatDoorKA29
import Derived.Test.YtimoclkoflamkaaGreatDoorKA32
import Derived.Test.YtimoclkoflamkaaGreatDoorKA38
set_option linter.all false
set_option maxRecDepth 100000
set_option maxHeartbeats 8000000
open Go.Proofs.Tryz
namespace Go.Proofs.YtimoclkoflamkaaGreatDoor
open Go.RowKit
def acE (w:World)(c:aM)(l:List bj)(e:Ending)(w':World):Prop:=
 Below w.heap.size w w'/\((oy c l=0/\∃lo hi g,w.heap.size<=lo/\e= .returned (.tuple #[.pointer (some ⟨g,0,none⟩),.int .i64 0])/\fq w' lo hi g (.slice none 0 0) c l iZ.new 0)\/(oy c l≠0/\e= .returned (.tuple #[.pointer none,.int .i64 (oy c l)])))
theorem Un (c:aM)(l:List bj)(v:Value)(B:Nat)(w:World)(q:rf w B v l)(K:B<=w.heap.size)(o:Laid w)(u:∀e∈l,oC e):
 Calls prog 28 #[c.val,v] w (acE w c l):=by
 obtain⟨Z,n,cap,rfl,W,SB,Y⟩:=q.cy;obtain⟨b,h⟩:∃b,w.alloc (.cells #[c.fm,.int .u32 c.mg,c.fr,c.un,c.de,c.it] 24)=b:=⟨_,rfl⟩
 have i:Below w.heap.size w b:=by rw[<-h];exact(zm _ w).alloc (zd _) _
 have A:b.heap.size=w.heap.size+1:=by rw[<-h];simp
 have z:ag b w.heap.size 24 #[c.fm,.int .u32 c.mg,c.fr,c.un,c.de,c.it]:=by rw[<-h];exact ag.new w _ _
 have x:=za (T' c l _ B b (q.below (i.mono K)) (by omega) (o.below i o.pos) u);obtain⟨R,C,I,S,M,N⟩:=ga z;have y:=za i;have L:=za A;have J:=za h;unfold aM.val at*;clear q o u i A z h;go_enter func28,ntmps28
 go_wp2_with fail
 rw[J.out];refine x.out.mono ?_;rintro e j ⟨m,G⟩;have k:=za (y.out.trans (m.mono (by have:=L.out;omega)));have E:=m.size;clear m x R C I S M N;rcases G with⟨d,O,F,H,rows,rfl,r,s⟩|⟨d,rfl⟩
 ·have U:=za r;have D:=za s;have p:=za d;clear r s d;go_wp2;refine zl (v:= .tuple #[(j.heap.size,0),(0:Int)]) (by simp[results,results28,go_sem]) rfl ?_;refine⟨k.out.alloc k.out.size _,.inl ⟨p.out,b.heap.size,j.heap.size,j.heap.size,y.out.size,rfl,E,zd _,⟨O,F,H,rows,0,U.out.below ((zm _ j).alloc (zd _) _),D.out,ag.new _ _ _,fun _=>iJ.zero _ _⟩,bP.nil _ _ _⟩⟩
 have X:(oy c l !=0)=true:=yN.2 d;have p:=za d;clear d;go_wp2;refine zl (v:= .tuple #[.pointer none,.int .i64 (oy c l)]) (by simp[results,results28,go_sem]) rfl ?_;exact⟨k.out,.inr ⟨p.out,rfl⟩⟩
theorem QO (O hi g:Nat)(J:Value)(c:aM)(l:List bj)(x:iZ)(sent:Nat)(nm:ByteArray)(it:It)(B:Nat)(w:World)(c0 c1 c2:Value)(hc:c.ok)(h:fq w O hi g J c l x sent)(hI:bI w B it c0 c1 c2)(hB:B<=w.heap.size)(hL:Laid w)(iY:ba w)
 (hl:c.fm≠1->it.fy.length<=1000000) (Wx:(bB c l nm it).1.ok) (V9:sent<=1000000000):
 Calls prog 31 #[(g,0),.agg #[nm,c0,c1,c2]] w fun e w'=>e= .returned (.tuple #[.string (bA c l nm it).1,.int .i64 (bA c l nm it).2])/\fq w' O hi g J c l x (if(bA c l nm it).2=0 then sent+1 else sent)/\ae [g] w w':=by
 obtain⟨q,gn,gi,rows,nd,R,hr,hS,uF⟩:=h.reg;have Ai:=hS.lt;obtain⟨S,M,rfl,rfl,rfl,_⟩:=hI.open_;obtain⟨b,N⟩:∃b,w.alloc (.cells #[nm,it.text,it.list,.slice S it.sub.length M] 30)=b:=⟨_,rfl⟩
 have U:Below w.heap.size w b:=by rw[<-N];exact(zm _ w).alloc (zd _) _
 have dF:b.heap.size=w.heap.size+1:=by rw[<-N];simp
 have Cs:ag b w.heap.size 30 #[nm,it.text,it.list,.slice S it.sub.length M]:=by rw[<-N];exact ag.new w _ _
 have af:=R.below (U.mono R.his);have ai:c.fm=1\/(bB c l nm it).1.body.size<=1000000:=by
  by_cases W:c.fm=1
  ·exact .inl W
  by_cases s:(bB c l nm it).2=0
  ·obtain⟨e,r,A,h3⟩:=kS s;have h4:=(rM W A (by have:=hl W;omega)).2;rw[h3,zi W];show _\/(bS c e.shape it).1.size<=_
   rw[h4,<-aa];have:=hl W;simp;exact .inr (by omega)
  rw[BS s];exact .inr (by simp[om,ByteArray.size])
 have HE:Hid (∀V,Below b.heap.size b V->Calls prog 47 #[(q,0),.agg #[nm,it.text,it.list,.slice S it.sub.length M]] V fun e w'=>e= .returned (.tuple #[(bB c l nm it).1.val,.int .i64 (bB c l nm it).2])/\(V,w')):=za (fun V d=>by
  have aL:=U.trans (d.mono (by omega));have:=T8 O hi q gn gi c rows nm it B V _ _ _ (R.below (aL.mono R.his)) (hI.below (aL.mono hB)) (by have:=d.size;omega) (hL.below aL hL.pos) (iY.below aL iY.pos) (fun h=>by have:=hl h;omega);rwa [hr]at this)
 have ar:=za (fun V (d:Below b.heap.size b V)=>K5 O hi q gn gi c rows V (af.below (d.mono af.his)));have HP:=za (fun V=>Um c (bB c l nm it).1 hc Wx ai V);have G:Hid (bA c l nm it=if(bB c l nm it).2≠0 then(ByteArray.empty,(bB c l nm it).2)else gR c (bB c l nm it).1):=za rfl;have ah:Hid ((gR c (bB c l nm it).1).2≠0->(gR c (bB c l nm it).1).1=ByteArray.empty):=za Fm;generalize bA c l nm it=SP at*;obtain⟨L,uN⟩:∃L,(if SP.2=0 then sent+1 else sent)=L:=⟨_,rfl⟩
 rw[uN];have H:=za uN;clear uN;generalize gR c (bB c l nm it).1=PP at*;generalize bB c l nm it=an at*;obtain⟨F,E⟩:=an;obtain⟨Y,I⟩:=PP;obtain⟨y,fn,z⟩:=F;simp only at HE HP G ah;have Z:=za (hS.ah U Ai);have RH:=za h;have mq:=za U;have DQ:=za dF;have dw:=za N;have J4:=za Cs;have p:Hid (∀V,Below b.heap.size b V->(V,g,0,q,0)/\(V,w.heap.size,0,nm)/\(V,w.heap.size,1,it.text)/\(V,w.heap.size,2,it.list)/\(V,w.heap.size,3,Value.slice S it.sub.length M)):=za (fun V d=>by
  have r:fg V g q J nd x.fault x.laid x.told sent:=Z.out.ah d Z.out.lt;have A:=J4.out.ah d J4.out.lt;exact⟨r.parts.1,A.cell 0,A.cell 1,A.cell 2,A.cell 3⟩)
 unfold aM.val Fr.val at*;clear h R hr uF hI hL iY hl Wx U dF Cs af ai N hS;go_enter func31,ntmps31
 go_upto_region 3 with fail
 rw[dw.out];go_cut [6,7] (fun v1 v2 i=>∃bf:Nat,v1= .pointer (some (bf,0))/\v2= .int .i64 E/\Hid (b,i)/\Hid (ag i bf 103 #[.int .u64 y,fn,z]))
 case rest=>
  obtain⟨bf,rfl,rfl,n,C⟩:=hcut;obtain⟨i,ak⟩:∃i,i=wc:=⟨_,rfl⟩
  subst ak;have NX:=n.out.size;have DU:=za (mq.out.trans (n.out.mono (by have:=DQ.out;omega)));have OB:w.heap.size<=i.heap.size:=DU.out.size;rcases eN E with⟨s,z1,z2⟩|⟨s,z1,z2⟩
  ·subst s;rw[zi (by simp)]at G;have p0:=(p.out i n.out).1;go_wp2_with fail
   refine iV (by kernel_rfl) (by kernel_rfl) ?_;refine aE (.pointer (some (g,0))) (by rfl) (fun _ _=>by first|rfl|go_simp) ?_;simp only[Act.put,zb,ze,zg];refine aE (.pointer (some (g,0))) (by rfl) (fun _ _=>by first|rfl|go_simp) ?_;simp only[Act.put,zb,ze,zg];refine aE (.pointer (some (g,0))) (by rfl) (fun _ _=>by first|rfl|go_simp) ?_;simp only[Act.put,zb,ze,zg];refine aE (.pointer (some (q,0))) (by rfl) (fun V d=>by have p0:=(p.out V (n.out.trans (d.mono NX))).1;go_simp) ?_;simp only[Act.put,zb,ze,zg];refine eI 49 _ (.agg #[c.fm,.int .u32 c.mg,c.fr,c.un,c.de,c.it]) (by rfl) (fun _=>by first|rfl|go_simp) (fun V d=>ar.out V (n.out.trans (d.mono NX))) ?_;simp only[Act.put,zb,ze,zg];refine aE (.agg #[.int .u64 y,fn,z]) (by rfl) (fun V d=>by obtain⟨f0,f1,f2⟩:=kf (C.out.ah d C.out.lt);go_simp) ?_;simp only[Act.put,zb,ze,zg];refine eI 48 _ (.tuple #[Y,I]) (by rfl) (fun _=>by first|rfl|go_simp) (fun V d=>HP.out V) ?_;simp only[Act.put,zb,ze,zg];refine aE (.tuple #[Y,I]) (by rfl) (fun _ _=>by first|rfl|go_simp) ?_;simp only[Act.put,zb,ze,zg];refine aE (.string Y) (by rfl) (fun _ _=>by first|rfl|go_simp) ?_;simp only[Act.put,zb,ze,zg];refine aE (.int .i64 I) (by rfl) (fun _ _=>by first|rfl|go_simp) ?_;simp only[Act.put,zb,ze,zg];refine aE (.string Y) (by rfl) (fun _ _=>by first|rfl|go_simp) ?_;simp only[Act.put,zb,ze,zg];refine aE (.int .i64 I) (by rfl) (fun _ _=>by first|rfl|go_simp) ?_;simp only[Act.put,zb,ze,zg];refine xO ?_;intro V d
   have ku:Hid (w,V):=za (DU.out.trans (d.mono OB));have u:Hid (fq V O hi g J c l x sent):=za (RH.out.below ku.out);have ab:fg V g q J nd x.fault x.laid x.told sent:=Z.out.ah (n.out.trans (d.mono NX)) Z.out.lt;have av:g<V.heap.size:=ab.lt;obtain⟨_,_,_,_,_,_,p6⟩:=ab.parts;obtain⟨_,_,_,_,_,f6⟩:=ab.C7;clear d ab p0;rcases eN I with⟨r,u1,u2⟩|⟨r,u1,u2⟩
   ·subst r;go_wp2;refine zl (v:= .tuple #[Y,(0:Int)]) (by simp[results,results31,go_sem]) rfl ?_;rw[G.out]at H⊢;obtain rfl:sent+1=L:=by rw[<-H.out,zj rfl]
    have ho:ae [g] V (V.setCell (g,6) (.int .i64 ((sent:Int)+1))):=(ae.refl _ _).setCell (by simp) _;refine⟨rfl, ?_,((ae.ai ku.out (zd _)).mono (by simp)).trans ho⟩;obtain⟨ao,aq,aj,al,au,k1,k2,k3,k4⟩:=u.out.reg;have e1:((sent:Int)+1)=((sent+1:Nat):Int):=by omega
    have GS:=u.out.GS;have bY:=u.out.buf.cx k3 (by decide);exact⟨u.out.lohi,u.out.GS,⟨ao,aq,aj,al,au,k1.only ho (by simp;omega),k2,by rw[e1];exact fg.TB k3 _,k4⟩,u.out.buf.qf ho (by intro j e hj;simp at hj;subst hj;exact bY e)⟩
   have hp:=ah.out r;subst hp;go_wp2;refine zl (v:= .tuple #[eS,I]) (by simp[results,results31,go_sem]) rfl ?_;rw[G.out]at H⊢;obtain rfl:sent=L:=by rw[<-H.out,zi r]
   exact⟨rfl,u.out,(ae.ai ku.out (zd _)).mono (by simp)⟩
  rw[zj s]at G;go_wp2;refine zl (v:= .tuple #[eS,E]) (by simp[results,results31,go_sem]) rfl ?_;rw[G.out]at H⊢;obtain rfl:sent=L:=by rw[<-H.out,zi s]
  exact⟨rfl,RH.out.below DU.out,(ae.ai DU.out (zd _)).mono (by simp)⟩
 go_wp2_with fail
 have hHeld:=p.out b.drew (zm _ _).drew;refine aK 11 (fun V=>(V,g,0,q,0)/\(V,w.heap.size,0,nm)/\(V,w.heap.size,1,it.text)/\(V,w.heap.size,2,it.list)/\(V,w.heap.size,3,Value.slice S it.sub.length M)) (by kernel_rfl) (by kernel_rfl) ?_;refine GT.jM [0,1,2,3,4] hHeld (fun _ _ _ _ _ h=>h) (by kernel_rfl) ?_;repeat(refine .c rfl rfl (fun V d=>by go_simp<;>with_reducible rfl) ?_;simp only[Act.put,zb,ze,zg])
 refine .nil ?_;refine GT.TQ 5 9 rfl rfl (by kernel_rfl) (fun K k=> ?_) (fun K k=> ?_)
 ·go_simp;refine(HE.out b.drew (zm _ _).drew).mono ?_;rintro en w3 ⟨rfl,D⟩;have m:Below b.heap.size b w3:=(show Below b.heap.size b b.drew from(zm _ _).drew).trans D;go_wp2_with fail
  refine k.out _ _ (p.out w3 m) (fun hHeld=> ?_);clear k K;try simp only[Act.put,zb,ze,zg]
  refine GT.jM [6,7,8] hHeld (fun _ _ _ _ _ h=>h) (by kernel_rfl) ?_;repeat(refine .c rfl rfl (fun V d=>by go_simp<;>with_reducible rfl) ?_;simp only[Act.put,zb,ze,zg])
  refine .nil ?_;refine GT.gw 9 (fun K k=> ?_) rfl (by kernel_rfl);go_simp;refine k.out _ _ (p.out _ (m.alloc m.size _)) (fun hHeld=> ?_);clear k K;try simp only[Act.put,zb,ze,zg]
  refine GT.gw 10 (fun K k=> ?_) rfl (by kernel_rfl);go_simp;refine k.out _ _ (p.out _ (m.alloc m.size _)) (fun hHeld=> ?_);clear k K;try simp only[Act.put,zb,ze,zg]
  refine GT.pF 11 ?_ rfl (by kernel_rfl);go_simp;obtain⟨i,o⟩:∃i,w3.alloc (.cells #[.int .u64 y,fn,z] 103)=i:=⟨_,rfl⟩
  have n:Hid (b,i):=za (by rw[<-o];exact m.alloc m.size _);have C:Hid (ag i w3.heap.size 103 #[.int .u64 y,fn,z]):=za (by rw[<-o];exact ag.new _ _ _);rw[o];clear o D m hHeld;go_wp2_with fail
  go_meet;case rel=>exact⟨_,rfl,rfl,n,C⟩
 go_simp;have X:Below b.heap.size b (b.alloc (.cells #[.int .u64 0,eS,eS] 103)).drew:=((zm b.heap.size b).alloc (zd _) _).drew;have ad:ag (b.alloc (.cells #[.int .u64 0,eS,eS] 103)).drew b.heap.size 103 #[.int .u64 0,eS,eS]:=(ag.new b _ _).drew;refine k.out _ _ (p.out _ X) (fun hHeld=> ?_);clear k K;try simp only[Act.put,zb,ze,zg]
 refine GT.gw 5 (fun K k=> ?_) rfl (by kernel_rfl);go_simp;refine(HE.out _ X).mono ?_;rintro en w3 ⟨rfl,D⟩;have m:Below b.heap.size b w3:=X.trans (D.mono X.size);have Cz:=ad.ah D ad.lt;go_wp2_with fail
 refine k.out _ _ (p.out w3 m) (fun hHeld=> ?_);clear k K;try simp only[Act.put,zb,ze,zg]
 refine GT.jM [6,7,8] hHeld (fun _ _ _ _ _ h=>h) (by kernel_rfl) ?_;repeat(refine .c rfl rfl (fun V d=>by go_simp<;>with_reducible rfl) ?_;simp only[Act.put,zb,ze,zg])
 refine .nil ?_;obtain⟨t0,t1,t2,LA,N4,SR⟩:=bp Cz;refine GT.gw 10 (fun K k=> ?_) rfl (by kernel_rfl);go_simp;have Ly:Below b.heap.size b (((w3.setCell (b.heap.size,0) (.int .u64 y)).setCell (b.heap.size,1) fn).setCell (b.heap.size,2) z):=((m.setCell (by simp) _).setCell (by simp) _).setCell (by simp) _;refine k.out _ _ (p.out _ Ly) (fun hHeld=> ?_);clear k K;try simp only[Act.put,zb,ze,zg]
 refine GT.pF 11 ?_ rfl (by kernel_rfl);go_simp;obtain⟨i,o⟩:∃i,((w3.setCell (b.heap.size,0) (.int .u64 y)).setCell (b.heap.size,1) fn).setCell (b.heap.size,2) z=i:=⟨_,rfl⟩
 have n:Hid (b,i):=za (by rw[<-o];exact Ly);have C:Hid (ag i b.heap.size 103 #[.int .u64 y,fn,z]):=za (by rw[<-o];exact gS Cz _ _ _);rw[o];clear o D m hHeld X ad Cz Ly t0 t1 t2 LA N4 SR;go_wp2_with fail
 go_meet;case rel=>exact⟨_,rfl,rfl,n,C⟩
def gC.new :gC:=⟨fun _=>iZ.new,fun _=>0,fun _=>ByteArray.empty,fun _=> []⟩
theorem Le (c:aM)(l:List bj)(v:Value)(B:Nat)(w:World)(F:rf w B v l)(hB:B<=w.heap.size)(E:Laid w)(hs:∀e∈l,oC e)(h0:oy c l=0)(r:Nat)(hr:r<=1048576):
 Calls prog 10 #[c.val,v,r] w fun e w'=>∃L V,e= .returned (.tuple #[(L.p,0),(0:Int)])/\gT w' L V (fun _=>False) c l gC.new/\Below w.heap.size w w'/\w.heap.size<=L.p/\L.room=r:=by
 obtain⟨Av,n,cap,rfl,hn,SB,kr⟩:=F.cy;have JF:¬((r:Int)<0):=by omega
 have Rw:¬((1048576:Int)<r):=by omega
 obtain⟨W,j⟩:=gL ((w.alloc (.cells #[c.fm,.int .u32 c.mg,c.fr,c.un,c.de,c.it] 24)).alloc (.cells #[.pointer none,nS,nS,.pointer none,nS,nS,r] 80));have hb:Below w.heap.size w W:=by rw[<-j];exact((zm _ w).alloc (zd _) _).alloc (by simp) _
 have GP:W.heap.size=w.heap.size+2:=by rw[<-j];simp
 have b0:ag W w.heap.size 24 #[c.fm,.int .u32 c.mg,c.fr,c.un,c.de,c.it]:=by rw[<-j];exact(ag.new w _ _).alloc _
 have b1:ag W (w.heap.size+1) 80 #[.pointer none,nS,nS,.pointer none,nS,nS,r]:=by rw[<-j];exact ag.at_ (by simp)
 have HN:=za (fun U (J:Below w.heap.size w U)=>Un c l (.slice Av n cap) B U (F.below (J.mono hB)) (by have:=J.size;omega) (E.below J E.pos) hs);have H0:=za h0;have HB:=za hb;have HZ:=za GP;have N:=za b0;have HP:=za b1;have HW:=za j;unfold aM.val at*;clear F E hs h0 hb GP j b0 b1;go_enter func10,ntmps10
 go_wp2_with fail
 rw[HW.out];refine yc 3 ?_;rw[yk];obtain⟨G,M,I,X,R,K⟩:=ga N.out;go_wp2_with fail
 refine(HN.out W HB.out).mono ?_;rintro e w2 ⟨z,H⟩;rcases H with⟨_,x,S,g0,ai,rfl,d⟩|⟨O,_⟩
 ·have o:=HP.out.ah z HP.out.lt;have p0:=o.cell 0;have f0:=o.frozen 0;have Ch:=o.lt;obtain⟨s,D⟩:=gL (w2.setCell (w.heap.size+1,0) (g0,0));have hz:=HZ.out;have DP:Hid (ag s (w.heap.size+1) 80 #[(g0,0),nS,nS,.pointer none,nS,nS,r]):=za (by rw[<-D];exact o.store rfl);have m:ae [w.heap.size+1] w2 s:=by rw[<-D];exact(ae.refl _ _).setCell (.inl (by simp)) _
  have A:Hid (w,s):=za ((HB.out.trans (z.mono (by omega))).trans (m.below (by omega) (by simp)));have Bf:=za ((N.out.ah z N.out.lt).only m (by simp));have lu:=za (d.only m (fun k b=>by simp at b;subst b;have:=d.lohi;have:=d.GS;exact⟨by omega,by omega,fun e=>by cases e⟩));have GO:Hid (w.heap.size+2<=x/\x<=S/\S<=g0/\g0<s.heap.size):=za (by
   have Z:=d.lohi;have Y:=d.GS;have h3:=d.lt;have h4:=m.size;exact⟨by omega,Z,Y,by omega⟩)
  have rm:=za D;clear z d ai D m o G M I X R K;obtain⟨G,M,I,X,R,K⟩:=ga Bf.out;go_wp2_with fail
  rw[rm.out];rw[yk];go_wp2_with fail
  refine(HN.out s A.out).mono ?_;rintro e w4 ⟨p,H⟩;rcases H with⟨_,aa,kF,g1,Oc,rfl,q⟩|⟨O,_⟩
  ·have C:=DP.out.ah p DP.out.lt;have p3:=C.cell 3;have f3:=C.frozen 3;obtain⟨h,y⟩:=gL (w4.setCell (w.heap.size+1,3) (g1,0));have SI:=p.size;obtain⟨z1,z2,z3,z4⟩:=GO.out;have af:ag h (w.heap.size+1) 80 #[(g0,0),nS,nS,(g1,0),nS,nS,r]:=by rw[<-y];exact C.store rfl
   have u:ae [w.heap.size+1] w4 h:=by rw[<-y];exact(ae.refl _ _).setCell (.inl (by simp)) _
   have Z:=q.lohi;have Y:=q.GS;have h3:=q.lt;have h4:=u.size;have gZ:Below w.heap.size w h:=(A.out.trans (p.mono A.out.size)).trans (u.below (zG A.out.size SI) (by simp));have ab:=(lu.out.below p).only u (fun k b=>by simp at b;subst b;exact⟨by omega,by omega,fun e=>by cases e⟩);have ad:=q.only u (fun k b=>by simp at b;subst b;exact⟨by omega,by omega,fun e=>by cases e⟩);have ah:Hid (gT h ⟨fun i=>if i=0 then x else aa,fun i=>if i=0 then S else kF,fun i=>if i=0 then g0 else g1,w.heap.size+1,h.heap.size,r,hr⟩ (fun _=>nS) (fun _=>False) c l gC.new):=za ⟨af,fun i hi=>by
    rcases(by omega:i=0\/i=1)with rfl|rfl
    ·exact ab
    exact ad,fun _ _=>Way.nil _ _ _,fun _ _=>bL.nil _ _ _,(fun _ _ _ e=>by cases e),(fun _ _ _ _ _ e=>by cases e),(fun _ (e:False)=>e.elim),⟨by show w.heap.size+1<x;omega,by show g0<aa;omega,by show g1<h.heap.size;omega⟩,zd _⟩
   have fD:=za gZ;have oS:=za y;clear p q Oc y u C SI ab ad af gZ G M I X R K;go_wp2_with fail
   rw[oS.out];rw[yk];go_wp2;go_ret2
   exact⟨_,_,rfl,ah.out,fD.out,Nat.le_succ _,rfl⟩
  exact absurd H0.out O
 exact absurd H0.out O
structure Uo (w:World)(cb mb tb ab sb g gm:Nat)(c:aM)(b:ByteArray)(k:Nat):Prop where
 cf:ag w cb 24 #[c.fm,.int .u32 c.mg,c.fr,c.un,c.de,c.it]
 me:ag w mb 108 #[(gm,0)]
 tx:ag w tb 9 #[b]
 at_:ag w ab 3 #[k]
 se:ag w sb 74 #[(g,0)]
structure NxN (lo hi cb mb tb ab sb g gm:Nat):Prop where
 m1:gm≠cb/\gm≠mb/\gm≠tb/\gm≠ab/\gm≠sb/\gm≠g
 a1:ab≠cb/\ab≠mb/\ab≠tb/\ab≠sb/\ab≠g
 r1:(gm<lo\/hi<=gm)/\(ab<lo\/hi<=ab)
theorem Uo.only {w w':World}{cb j i l m g n:Nat}{c:aM}{b:ByteArray}{k:Nat}{L:List Nat}(h:Uo w cb j i l m g n c b k)(d:ae L w w')(e:cb∉L/\j∉L/\i∉L/\l∉L/\m∉L):Uo w' cb j i l m g n c b k:=
 ⟨h.cf.only d e.1,h.me.only d e.2.1,h.tx.only d e.2.2.1,h.at_.only d e.2.2.2.1,h.se.only d e.2.2.2.2⟩
def Dx (cb mb tb ab sb:Nat):Array Value:= #[(cb,0),(mb,0),(tb,0),(ab,0),(sb,0)]
theorem Gl {w:World}{g:Nat}{t:TypeId}{k j e z3:Value}(h:ag w g t #[k,j,e,z3])(b c d v3:Value):ag ((((w.setCell (g,0) b).setCell (g,1) c).setCell (g,2) d).setCell (g,3) v3) g t #[b,c,d,v3]:=by
 have m:ag _ g t #[b,j,e,z3]:=h.store (i:=0) (u:=b) rfl;have n:ag _ g t #[b,c,e,z3]:=m.store (i:=1) (u:=c) rfl;have l:ag _ g t #[b,c,d,z3]:=n.store (i:=2) (u:=d) rfl;exact l.store (i:=3) (u:=v3) rfl
def QP (w:World)(ab gm t R k:Nat)(X:Int×Ms×Nat×Nat)(e:Ending)(w':World):Prop:=
 ∃d0 d1 d2 d3,e= .returned (.tuple #[.agg #[d0,d1,d2,d3],X.1])/\oB w' (w.heap.size<= ·) X.2.1 d0 d1 d2 d3/\Met w' (some gm) (t+X.2.2.2) (R-X.2.2.2)/\ae [gm,ab] w w'/\ag w' ab 3 #[(if X.1=0 then k+X.2.2.1 else k:Nat)]
theorem QQ (c:aM)(l:List bj)(lo hi M gn gi:Nat)(rows:List bX)(g q cb mb tb x sb:Nat)(b:ByteArray)(k:Nat)(bv:Value)(nd:Nat)(fault:Int)(laid aw sent t R:Nat)(w:World)
 (hr:c.right=true) (hc:c.ok) (hb:b.size<=5000000) (I:k<=b.size) (hM:kV w lo hi M gn gi c rows) (qT:aJ rows=l) (hS:fg w g M bv nd fault laid aw sent) (hm:Met w (some q) t R) (hR:70000<=R)
 (hB:Uo w cb mb tb x sb g q c b k) (hN:NxN lo hi cb mb tb x sb g q) (aO:∀V,ae [q,x] w V->Laid V/\ba V):
 Calls prog 70 (Dx cb mb tb x sb) w (QP w x q t R k (aQ c l (b.extract k b.size))):=by
 obtain⟨r,Wc⟩:∃r,b.extract k b.size=r:=⟨_,rfl⟩
 have Sw:r.size=b.size-k:=by rw[<-Wc,ar _ _ _ (zd _)]
 rw[Wc];have qO:(k:Int)<=b.size:=by omega
 obtain⟨W,hW⟩:∃W,w.alloc (.cells #[eS,eS,false,nS] 30)=W:=⟨_,rfl⟩
 have kt:Below w.heap.size w W:=by rw[<-hW];exact(zm _ w).alloc (zd _) _
 have GP:w.heap.size<W.heap.size:=by rw[<-hW];simp
 have RP:q<w.heap.size:=hm.lt q rfl;have JG:x<w.heap.size:=hB.at_.lt;have aI:ag W w.heap.size 30 #[eS,eS,false,nS]:=by rw[<-hW];exact ag.new _ _ _
 have ay:Met W (some q) t R:=(MS.refl hm|>.below kt).met;obtain⟨n1,n2,n3,n4,n5,n6⟩:=hN.m1;have ud:Hid (∀V,ae [q] w V->Uo V cb mb tb x sb g q c b k/\kV V lo hi M gn gi c rows/\fg V g M bv nd fault laid aw sent/\Laid V/\ba V):=za (fun V o=>⟨hB.only o (by simp;omega),hM.only o (by have:=hN.r1;simp;omega),hS.only o (by simp;omega),aO V (o.mono (by simp))⟩);have JX:Hid (∀V,ae [q] W V->ae [q] w V):=za (fun V o=>((ae.ai kt (zd _)).mono (by simp)).trans o);have Z:Hid (∀V,ae [q] W V->(V,cb,0,c.fm)/\(V,cb,1,Value.int .u32 c.mg)/\(V,cb,2,c.fr)/\(V,cb,3,c.un)/\(V,cb,4,c.de)/\(V,cb,5,c.it)/\(V,mb,0,q,0)/\(V,tb,0,b)/\(V,x,0,k)):=za (fun V o=>by
  obtain⟨hx,_⟩:=ud.out V (JX.out V o);exact⟨hx.cf.cell 0,hx.cf.cell 1,hx.cf.cell 2,hx.cf.cell 3,hx.cf.cell 4,hx.cf.cell 5,hx.me.cell 0,hx.tx.cell 0,hx.at_.cell 0⟩)
 have HN:=za (fun W0 V o=>QN c (some q) t R r hc hR (by omega) W0 V o);have S:Hid (aQ c l r=if(bh c r).1≠0 then((bh c r).1,rL,(bh c r).2.2.1,(bh c r).2.2.2)else((eU c l (bh c r).2.1).1,(eU c l (bh c r).2.1).2,(bh c r).2.2.1,(bh c r).2.2.2)):=za rfl;have fc:=(vu c).pos r;have D7:(bh c r).2.1.body.size<=1099511627776:=IB c r (by omega);generalize aQ c l r=X at*;obtain⟨ax,hY⟩:∃ax,bh c r=ax:=⟨_,rfl⟩
 rw[hY]at HN S fc D7;clear hY;obtain⟨y5,⟨B,D,C⟩,y4,m⟩:=ax;simp only at fc D7 S;unfold Dv Fr.val sn aM.val at HN;simp only at HN;have HW:=za hW;have UH:=za (MS.refl ay);have aX:=za aI;have Wb:=za hN;have uK:=za qT;have DS:=za fc;have aY:=za D7;unfold Dx;clear hm hR hB hN aO hM qT hS kt aI ay hW fc D7 n1 n2 n3 n4 n5 n6;go_enter func70,ntmps70
 go_upto_region 1 with fail
 rw[HW.out];go_cut [7,8,9] (fun v1 v2 v3 d=>∃G:Nat,v1= .pointer (some (G,0))/\v2= .int .i64 y4/\v3= .int .i64 y5/\Hid (MS (some q) (t+m) (R-m) W d)/\Hid (ag d G 103 #[.int .u64 B,D,C])/\W.heap.size<=G)
 case rest=>
  obtain⟨G,rfl,rfl,rfl,aa,Y,ak⟩:=hcut;obtain⟨d,aS⟩:∃d,d=wc:=⟨_,rfl⟩
  subst aS;have LG:=aa.out.only;have z:=za (ud.out d (JX.out d LG));have Rv:Hid (ag d w.heap.size 30 #[eS,eS,false,nS]):=za (aX.out.only LG (by simp;omega));have a7:G<d.heap.size:=Y.out.lt;have Ai:g<d.heap.size:=z.out.2.2.1.lt;have aD:=za (JX.out d LG);clear LG;rcases eN y5 with⟨h0,z1,z2⟩|⟨h0,z1,z2⟩
  ·subst h0;obtain⟨jm,jZ⟩:=DS.out rfl;rw[zi (by simp)]at S;have HD:Hid (∀V,Below d.heap.size d V->Calls prog 72 #[(M,0),.agg #[.int .u64 B,D,C]] V (Vz V (eU c l ⟨B,D,C⟩))):=za (fun V o=>by
    have:=Ua lo hi M gn gi c rows ⟨B,D,C⟩ V (z.out.2.1.below (o.mono z.out.2.1.his)) (z.out.2.2.2.1.below o z.out.2.2.2.1.pos) (z.out.2.2.2.2.below o z.out.2.2.2.2.pos) aY.out;rwa [uK.out]at this)
   have Cy:Hid (∀V,Below d.heap.size d V->(V,sb,0,g,0)/\(V,g,0,M,0)/\(V,G,0,Value.int .u64 B)/\(V,G,1,D)/\(V,G,2,C)):=za (fun V o=>by
    have J:=z.out.1.se.ah o z.out.1.se.lt;have h2:fg V g M bv nd fault laid aw sent:=z.out.2.2.1.ah o Ai;have h3:=Y.out.ah o Y.out.lt;exact⟨J.cell 0,h2.parts.1,h3.cell 0,h3.cell 1,h3.cell 2⟩)
   generalize eU c l ⟨B,D,C⟩=aW at*;obtain⟨D1,i⟩:=aW;simp only at S;go_upto_region 4 with fail
   go_cut [9,10] (fun v1 v2 p=>∃(bm:Nat) (u:Option Addr) (s:Nat),v1= .int .i64 D1/\v2= .pointer (some (bm,0))/\Hid (d,p)/\Hid (ag p bm 30 #[i.name,i.x.text,i.x.list,.slice u i.x.sub.length s])/\Hid (oB p (d.heap.size<= ·) i i.name i.x.text i.x.list (.slice u i.x.sub.length s))/\d.heap.size<=bm)
   case rest=>
    obtain⟨bm,u,s,rfl,rfl,O,J4,Od,aN⟩:=hcut;obtain⟨p,aT⟩:∃p,p=wc:=⟨_,rfl⟩
    subst aT;have al:=za (z.out.1.at_.ah O.out z.out.1.at_.lt);have av:=za (Rv.out.ah O.out Rv.out.lt);have aE:Hid (Met p (some q) (t+m) (R-m)):=za (aa.out.below O.out).met;have aF:Hid (ae [q] w p):=za ((aD.out.trans' (ae.ai O.out (zd _)) (by simp)));have SL:=O.out.size;rcases eN D1 with⟨J,u1,u2⟩|⟨J,u1,u2⟩
    ·subst J;have q0:p.cell? (x,0)=some (.int .i64 k):=al.out.cell 0;have Wj:p.frozen? (x,0)=false:=al.out.frozen 0;go_upto_region 7 with fail
     obtain⟨W9,SV⟩:∃W9,p.setCell (x,0) (.int .i64 ((k:Int)+y4))=W9:=⟨_,rfl⟩
     have rq:ae [x] p W9:=by rw[<-SV];exact(ae.refl _ _).setCell (by simp) _
     have aR:Hid (ag W9 x 3 #[(k+y4:Nat)]):=za (by rw[<-SV];exact al.out.store rfl);have aH:=za (av.out.only rq (by simp;omega));have aL:=J4.out.only rq (by simp;omega);have aP:=za (Od.out.only rq (by simp;omega) (fun _ _ h=>h));have a6:=za (aE.out.only rq (by intro j e;injection e with e;have:=Wb.out.m1;simp;omega));have aZ:Hid (ae [q,x] w W9):=za ((aF.out.mono (by simp)).trans (rq.mono (by simp)));obtain⟨v0,v1,v2,v3,_⟩:=aU aL;obtain⟨m0,m1,m2,m3,aG,az,aC,aA⟩:=aU aH.out;rw[SV];clear SV rq aL q0 Wj;go_wp2;obtain⟨ah,ai,af,ad⟩:=ir aH.out i.name i.x.text i.x.list (.slice u i.x.sub.length s);refine zl (v:= .tuple #[.agg #[i.name,i.x.text,i.x.list,.slice u i.x.sub.length s],(0:Int)]) (by simp[results,results70,go_sem,ah,ai,af,ad]) rfl ?_;have y:=eK W9 w.heap.size i.name i.x.text i.x.list (.slice u i.x.sub.length s);rw[S.out];refine⟨_,_,_,_,rfl,aP.out.only y (by simp;omega) (fun k _ I=>by have I:d.heap.size<=k:=I;show w.heap.size<=k;omega),a6.out.only y (by intro j e;injection e with e;simp;omega),aZ.out.trans' y (by simp), ?_⟩;have J:=aR.out.only y (by simp;omega);rw[zj rfl];exact J
    obtain⟨v0,v1,v2,v3,_⟩:=aU J4.out;obtain⟨m0,m1,m2,m3,aG,az,aC,aA⟩:=aU av.out;go_wp2;obtain⟨ah,ai,af,ad⟩:=ir av.out i.name i.x.text i.x.list (.slice u i.x.sub.length s);refine zl (v:= .tuple #[.agg #[i.name,i.x.text,i.x.list,.slice u i.x.sub.length s],D1]) (by simp[results,results70,go_sem,ah,ai,af,ad]) rfl ?_;have y:=eK p w.heap.size i.name i.x.text i.x.list (.slice u i.x.sub.length s);rw[S.out];refine⟨_,_,_,_,rfl,Od.out.only y (by simp;omega) (fun k _ I=>by have I:d.heap.size<=k:=I;show w.heap.size<=k;omega),aE.out.only y (by intro j e;injection e with e;simp;omega),(aF.out.mono (by simp)).trans' y (by simp), ?_⟩;have h2:=al.out.only y (by simp;omega);rw[zi J];exact h2
   go_wp2_with fail
   have hHeld:=Cy.out d.drew (zm _ _).drew;refine aK 11 (fun V=>(V,sb,0,g,0)/\(V,g,0,M,0)/\(V,G,0,Value.int .u64 B)/\(V,G,1,D)/\(V,G,2,C)) (by kernel_rfl) (by kernel_rfl) ?_;refine GT.jM [0,1,2,3,4] hHeld (fun _ _ _ _ _ h=>h) (by kernel_rfl) ?_;repeat(refine .c rfl rfl (fun V o=>by go_simp<;>with_reducible rfl) ?_;simp only[Act.put,zb,ze,zg])
   refine .nil ?_;refine GT.TQ 5 9 rfl rfl (by kernel_rfl) (fun K n=> ?_) (fun K n=> ?_)
   ·go_simp;refine(HD.out d.drew (zm _ _).drew).mono ?_;rintro en F ⟨mh,d0,d1,d2,d3,rfl,U⟩;obtain⟨u,s,rfl,rfl,rfl,rfl,_⟩:=U.open_;have A:Below d.heap.size d F:=(show Below d.heap.size d d.drew from(zm _ _).drew).trans mh;go_wp2_with fail
    refine n.out _ _ (Cy.out F A) (fun hHeld=> ?_);clear n K;try simp only[Act.put,zb,ze,zg]
    refine GT.jM [6,7,8] hHeld (fun _ _ _ _ _ h=>h) (by kernel_rfl) ?_;repeat(refine .c rfl rfl (fun V o=>by go_simp<;>with_reducible rfl) ?_;simp only[Act.put,zb,ze,zg])
    refine .nil ?_;refine GT.gw 9 (fun K n=> ?_) rfl (by kernel_rfl);go_simp;refine n.out _ _ (Cy.out _ (A.alloc A.size _)) (fun hHeld=> ?_);clear n K;try simp only[Act.put,zb,ze,zg]
    refine GT.gw 10 (fun K n=> ?_) rfl (by kernel_rfl);go_simp;refine n.out _ _ (Cy.out _ (A.alloc A.size _)) (fun hHeld=> ?_);clear n K;try simp only[Act.put,zb,ze,zg]
    refine GT.pF 11 ?_ rfl (by kernel_rfl);go_simp;obtain⟨p,E⟩:∃p,F.alloc (.cells #[i.name,i.x.text,i.x.list,.slice u i.x.sub.length s] 30)=p:=⟨_,rfl⟩
    have O:Hid (d,p):=za (by rw[<-E];exact A.alloc A.size _);have J4:Hid (ag p F.heap.size 30 #[i.name,i.x.text,i.x.list,.slice u i.x.sub.length s]):=za (by rw[<-E];exact ag.new _ _ _);have Od:Hid (oB p (d.heap.size<= ·) i i.name i.x.text i.x.list (.slice u i.x.sub.length s)):=za (by rw[<-E];exact U.below ((zm _ _).alloc (zd _) _));have aN:d.heap.size<=F.heap.size:=A.size;rw[E];clear E mh A U hHeld;go_wp2_with fail
    go_meet;case rel=>exact⟨_,_,_,rfl,rfl,O,J4,Od,aN⟩
   go_simp;have Ap:Below d.heap.size d (d.alloc (.cells #[eS,eS,false,nS] 30)).drew:=((zm d.heap.size d).alloc (zd _) _).drew;have au:ag (d.alloc (.cells #[eS,eS,false,nS] 30)).drew d.heap.size 30 #[eS,eS,false,nS]:=(ag.new d _ _).drew;refine n.out _ _ (Cy.out _ Ap) (fun hHeld=> ?_);clear n K;try simp only[Act.put,zb,ze,zg]
   refine GT.gw 5 (fun K n=> ?_) rfl (by kernel_rfl);go_simp;refine(HD.out _ Ap).mono ?_;rintro en F ⟨mh,d0,d1,d2,d3,rfl,U⟩;obtain⟨u,s,rfl,rfl,rfl,rfl,_⟩:=U.open_;have A:Below d.heap.size d F:=Ap.trans (mh.mono Ap.size);have an:=au.ah mh au.lt;go_wp2_with fail
   refine n.out _ _ (Cy.out F A) (fun hHeld=> ?_);clear n K;try simp only[Act.put,zb,ze,zg]
   refine GT.jM [6,7,8] hHeld (fun _ _ _ _ _ h=>h) (by kernel_rfl) ?_;repeat(refine .c rfl rfl (fun V o=>by go_simp<;>with_reducible rfl) ?_;simp only[Act.put,zb,ze,zg])
   refine .nil ?_;obtain⟨t0,t1,t2,t3,LA,N4,SR,a1⟩:=aU an;refine GT.gw 10 (fun K n=> ?_) rfl (by kernel_rfl);go_simp;have Ly:Below d.heap.size d ((((F.setCell (d.heap.size,0) i.name).setCell (d.heap.size,1) i.x.text).setCell (d.heap.size,2) i.x.list).setCell (d.heap.size,3) (.slice u i.x.sub.length s)):=(((A.setCell (by simp) _).setCell (by simp) _).setCell (by simp) _).setCell (by simp) _;refine n.out _ _ (Cy.out _ Ly) (fun hHeld=> ?_);clear n K;try simp only[Act.put,zb,ze,zg]
   refine GT.pF 11 ?_ rfl (by kernel_rfl);go_simp;obtain⟨p,E⟩:∃p,(((F.setCell (d.heap.size,0) i.name).setCell (d.heap.size,1) i.x.text).setCell (d.heap.size,2) i.x.list).setCell (d.heap.size,3) (.slice u i.x.sub.length s)=p:=⟨_,rfl⟩
   have O:Hid (d,p):=za (by rw[<-E];exact Ly);have J4:Hid (ag p d.heap.size 30 #[i.name,i.x.text,i.x.list,.slice u i.x.sub.length s]):=za (by rw[<-E];exact Gl an _ _ _ _);have Od:Hid (oB p (d.heap.size<= ·) i i.name i.x.text i.x.list (.slice u i.x.sub.length s)):=za (by rw[<-E];exact U.only (L:= [d.heap.size]) (eK F d.heap.size _ _ _ _) (by simp[World.drew]) (fun k _ I=>by have I:(d.alloc (.cells #[eS,eS,false,nS] 30)).heap.size<=k:=I;simp at I;show d.heap.size<=k;omega));rw[E];clear E mh A U hHeld Ap au an Ly t0 t1 t2 t3 LA N4 SR a1;go_wp2_with fail
   go_meet;case rel=>exact⟨_,_,_,rfl,rfl,O,J4,Od,zd _⟩
  rw[zj h0]at S;obtain⟨m0,m1,m2,m3,aG,az,aC,aA⟩:=aU Rv.out;have aV:=za aa.out.met;go_wp2;obtain⟨ah,ai,af,ad⟩:=ir Rv.out eS eS false nS;refine zl (v:= .tuple #[.agg #[eS,eS,false,nS],y5]) (by simp[results,results70,go_sem,ah,ai,af,ad]) rfl ?_;have y:=eK d w.heap.size eS eS false nS;rw[S.out];refine⟨_,_,_,_,rfl,Ds _ _,aV.out.only y (by intro j e;injection e with e;simp;omega),(aD.out.mono (by simp)).trans' y (by simp), ?_⟩;have J:=z.out.1.at_.only y (by simp;omega);rw[zi h0];exact J
 go_wp2_with fail
 have hHeld:=Z.out W.drew UH.out.drew.only;refine aK 13 (fun V=>(V,cb,0,c.fm)/\(V,cb,1,Value.int .u32 c.mg)/\(V,cb,2,c.fr)/\(V,cb,3,c.un)/\(V,cb,4,c.de)/\(V,cb,5,c.it)/\(V,mb,0,q,0)/\(V,tb,0,b)/\(V,x,0,k)) (by kernel_rfl) (by kernel_rfl) ?_;refine GT.jM [0,1,2,3,4] hHeld (fun _ _ _ _ _ h=>h) (by kernel_rfl) ?_;iterate 4 (refine .c rfl rfl (fun V o=>by go_simp<;>with_reducible rfl) ?_;simp only[Act.put,zb,ze,zg])
 refine .c (v:= .string r) rfl rfl (fun V o=>by go_simp<;>with_reducible rfl) ?_;try simp only[Act.put,zb,ze,zg];refine .nil ?_;refine GT.TQ 5 10 rfl rfl (by kernel_rfl) (fun K n=> ?_) (fun K n=> ?_)
 ·go_simp;refine(HN.out W W.drew UH.out.drew).mono ?_;rintro en w3 ⟨rfl,H⟩;go_wp2_with fail
  refine n.out _ _ (Z.out w3 H.only) (fun hHeld=> ?_);clear n K;try simp only[Act.put,zb,ze,zg]
  refine GT.jM [6,7,8,9] hHeld (fun _ _ _ _ _ h=>h) (by kernel_rfl) ?_;repeat(refine .c rfl rfl (fun V o=>by go_simp<;>with_reducible rfl) ?_;simp only[Act.put,zb,ze,zg])
  refine .nil ?_;refine GT.gw 10 (fun K n=> ?_) rfl (by kernel_rfl);go_simp;refine n.out _ _ (Z.out _ (H.alloc _).only) (fun hHeld=> ?_);clear n K;try simp only[Act.put,zb,ze,zg]
  refine GT.gw 11 (fun K n=> ?_) rfl (by kernel_rfl);go_simp;refine n.out _ _ (Z.out _ (H.alloc _).only) (fun hHeld=> ?_);clear n K;try simp only[Act.put,zb,ze,zg]
  refine GT.jM [12] hHeld (fun _ _ _ _ _ h=>h) (by kernel_rfl) ?_;refine .c rfl rfl (fun V o=>by go_simp<;>with_reducible rfl) ?_;simp only[Act.put,zb,ze,zg];refine .nil ?_;refine GT.pF 13 ?_ rfl (by kernel_rfl);go_simp;obtain⟨d,N⟩:∃d,w3.alloc (.cells #[.int .u64 B,D,C] 103)=d:=⟨_,rfl⟩
  have aa:Hid (MS (some q) (t+m) (R-m) W d):=za (by rw[<-N];exact H.alloc _);have Y:Hid (ag d w3.heap.size 103 #[.int .u64 B,D,C]):=za (by rw[<-N];exact ag.new _ _ _);have ak:W.heap.size<=w3.heap.size:=H.size;rw[N];clear N H hHeld;go_wp2_with fail
  go_meet;case rel=>exact⟨_,rfl,rfl,rfl,aa,Y,ak⟩
 go_simp;have aj:MS (some q) t R W (W.alloc (.cells #[.int .u64 0,eS,eS] 103)).drew:=(UH.out.alloc _).drew;have aB:ag (W.alloc (.cells #[.int .u64 0,eS,eS] 103)).drew W.heap.size 103 #[.int .u64 0,eS,eS]:=(ag.new W _ _).drew;refine n.out _ _ (Z.out _ aj.only) (fun hHeld=> ?_);clear n K;try simp only[Act.put,zb,ze,zg]
 refine GT.gw 5 (fun K n=> ?_) rfl (by kernel_rfl);go_simp;refine(HN.out _ _ (MS.refl aj.met)).mono ?_;rintro en w3 ⟨rfl,ao⟩;have H:=ao.from aj.only;have Cz:=aB.only ao.only (by simp;omega);go_wp2_with fail
 refine n.out _ _ (Z.out w3 H.only) (fun hHeld=> ?_);clear n K;try simp only[Act.put,zb,ze,zg]
 refine GT.jM [6,7,8,9] hHeld (fun _ _ _ _ _ h=>h) (by kernel_rfl) ?_;repeat(refine .c rfl rfl (fun V o=>by go_simp<;>with_reducible rfl) ?_;simp only[Act.put,zb,ze,zg])
 refine .nil ?_;obtain⟨t0,t1,t2,LA,N4,SR⟩:=bp Cz;refine GT.gw 11 (fun K n=> ?_) rfl (by kernel_rfl);go_simp;have aq:=H.gS (zd _) (by intro j e;injection e with e;omega) (.int .u64 B) D C;refine n.out _ _ (Z.out _ aq.only) (fun hHeld=> ?_);clear n K;try simp only[Act.put,zb,ze,zg]
 refine GT.jM [12] hHeld (fun _ _ _ _ _ h=>h) (by kernel_rfl) ?_;refine .c rfl rfl (fun V o=>by go_simp<;>with_reducible rfl) ?_;simp only[Act.put,zb,ze,zg];refine .nil ?_;refine GT.pF 13 ?_ rfl (by kernel_rfl);go_simp;obtain⟨d,N⟩:∃d,((w3.setCell (W.heap.size,0) (.int .u64 B)).setCell (W.heap.size,1) D).setCell (W.heap.size,2) C=d:=⟨_,rfl⟩
 have aa:Hid (MS (some q) (t+m) (R-m) W d):=za (by rw[<-N];exact aq);have Y:Hid (ag d W.heap.size 103 #[.int .u64 B,D,C]):=za (by rw[<-N];exact gS Cz _ _ _);have ak:W.heap.size<=W.heap.size:=zd _;rw[N];clear N H hHeld ao aj aB Cz aq t0 t1 t2 LA N4 SR;go_wp2_with fail
 go_meet;case rel=>exact⟨_,rfl,rfl,rfl,aa,Y,ak⟩
def lenOf :Value->Nat
 | .slice _ n _=>n
 |_=>0
theorem QR (c:aM)(l:List bj)(s:ByteArray):(aQ c l s).2.2.2<=65536:=by rw[lL];exact BU c s
structure CuW (w V:World)(cb mb tb ab sb tm z g gm:Nat)(c:aM)(l:List bj)(b:ByteArray)(k t R:Nat)(lv:Value):Prop where
 only:ae [gm] w V
 met:Met V (some gm) (t+(aQ c l (b.extract k b.size)).2.2.2) (R-(aQ c l (b.extract k b.size)).2.2.2)
 nx:Uo V cb mb tb ab sb g gm c b (if(aQ c l (b.extract k b.size)).1=0 then k+(aQ c l (b.extract k b.size)).2.2.1 else k)
 msg:∃d0 d1 d2 d3,ag V tm 30 #[d0,d1,d2,d3]/\oB V (fun j=>z<=j/\j≠tm/\lv.ownBlock≠some j) (aQ c l (b.extract k b.size)).2.1 d0 d1 d2 d3
theorem Up (c:aM)(l:List bj)(lo hi D gn gi:Nat)(rows:List bX)(g p:Nat)(bv:Value)(b:ByteArray)(F laid I sent t R:Nat)(w:World)(hr:c.right=true)(hc:c.ok)(hb:b.size<=5000000)(hM:kV w lo hi D gn gi c rows)(qT:aJ rows=l)(hS:fg w g D bv F 0 laid I sent)(bH:bP w hi 5 bv b.data.toList)
 (GS:hi<=g) (Af:Met w (some p) t R) (RP:p≠g) (br:hi<=p) (bg:bv.ownBlock≠some p) (hR:1099511627776<=R) (uF:iJ c b F) (bq:∀V,ae (p::g::bv.ownBlock.toList) w V->Laid V/\ba V):
 Calls prog 52 #[(g,0),(p,0)] w fun e w'=>∃rv pI bh,e= .returned rv/\bL w' (fun j=>w.heap.size<=j/\pI.ownBlock≠some j) w.heap.size (split (aQ c l) b).1 rv/\fg w' g D pI bh (split (aQ c l) b).2.2.2 laid I sent/\bP w' hi 5 pI (split (aQ c l) b).2.1.data.toList/\
  Met w' (some p) (t+(split (aQ c l) b).2.2.1) (R-(split (aQ c l) b).2.2.1)/\ae (p::g::bv.ownBlock.toList) w w'/\(∀k,pI.ownBlock=some k->bv.ownBlock=some k\/w.heap.size<=k)/\((split (aQ c l) b).2.2.2=0->iJ c (split (aQ c l) b).2.1 bh):=by
 have bY:bv.ownBlock≠some g:=bH.cx hS (by decide);have bf:=bH.form;rw[aa]at bf;obtain⟨A,cap,rfl,uB,kr⟩:=bf;have bb:∀V,Below w.heap.size w V->(convert 75 9 (.slice A b.size cap)).run prog V= .ok b V:=fun V o=>by
  have:=bP.H' (P:=prog) (src:=75) (dst:=9) zq yt zM (bH.below o);rwa [jv]at this
 have bs:=za bb;have Ai:g<w.heap.size:=hS.lt;have b3:p<w.heap.size:=Af.lt p rfl;have HS:=za hS;have ot:=za bH;have HM:=za Af;have Hd:=za hM;have VL:=za uF;have Oy:=za (And.intro bY bg);have Bb:=za bq;have uK:=za qT;have UN:=za (du c l);obtain⟨J,dS⟩:∃J,(w.alloc (.cells #[(g,0)] 74)).alloc (.cells #[(p,0)] 108)=J:=⟨_,rfl⟩
 have kG:Below w.heap.size w J:=by rw[<-dS];exact((zm _ w).alloc (zd _) _).alloc (by simp) _
 have dF:J.heap.size=w.heap.size+2:=by rw[<-dS];simp
 have U5:Hid (ag J w.heap.size 74 #[(g,0)]):=za (by rw[<-dS];exact(ag.new w _ _).alloc _);have J4:Hid (ag J (w.heap.size+1) 108 #[(p,0)]):=za (by rw[<-dS];exact ag.at_ (by simp));have mq:=za kG;have DQ:=za dF;have dw:=za dS;have b2:J.cell? (w.heap.size,0)=some (.pointer (some (g,0))):=U5.out.cell 0;obtain⟨p0,p1,H,p3,p4,p5,p6⟩:=fg.parts (hS.ah kG Ai);clear hS bH Af hM uF bY bg bq qT bb kG dF dS;by_cases aD:b.size<F
 ·have ao:Hid (split (aQ c l) b=([],b,0,0)):=za (dm UN.out (kT.2 (VL.out.here aD)));rw[ao.out];go_enter func52,ntmps52
  go_wp2_with fail
  rw[dw.out];go_quiet (fail)
  go_wp2;go_ret;have eA:Below w.heap.size w (J.drewN nq):=Below.bF mq.out nq;exact⟨_,_,F,rfl,bL.nil _ _ _,HS.out.ah eA Ai,ot.out.below eA,(MS.refl HM.out|>.below eA).met,(ae.ai eA (zd _)).mono (by simp),fun k hk=> .inl hk,fun _=>VL.out⟩
 skip
 go_enter func52,ntmps52
 go_wp2_with fail
 rw[dw.out];go_quiet (fail)
 obtain⟨w1,kH⟩:∃w1,J.drewN nq=w1:=⟨_,rfl⟩
 have cO:Hid (J,w1):=za (by rw[<-kH];exact Below.bF (zm _ _) nq);rw[kH];clear kH b2 p0 p1 H p3 p4 p5 p6;have U7:=mq.out.trans (cO.out.mono (by have:=DQ.out;omega));have bI:=za U7;have b2:w1.cell? (w.heap.size,0)=some (.pointer (some (g,0))):=(U5.out.ah cO.out U5.out.lt).cell 0;obtain⟨p0,p1,H,p3,p4,p5,p6⟩:=fg.parts (HS.out.ah U7 Ai);have aN:=za (K5 lo hi D gn gi c rows w1 (Hd.out.below (U7.mono Hd.out.his)));unfold aM.val at aN;clear U7;go_wp2_with fail
 refine aN.out.mono ?_;rintro e q ⟨rfl,aI⟩;obtain⟨y,fu⟩:∃y,((q.alloc (.cells #[c.fm,.int .u32 c.mg,c.fr,c.un,c.de,c.it] 24)).alloc (.cells #[b] 9)).alloc (.cells #[(0:Int)] 3)=y:=⟨_,rfl⟩
 have cw:=cO.out.size;have cF:=aI.size;have aH:Below q.heap.size q y:=by rw[<-fu];exact(((zm _ q).alloc (zd _) _).alloc (by simp) _).alloc (by simp;omega) _
 have bm:Below w1.heap.size w1 y:=aI.trans (aH.mono cF);have ay:Below J.heap.size J y:=cO.out.trans (bm.mono cw);have U9:Below w.heap.size w q:=bI.out.trans (aI.mono (by have:=DQ.out;omega));have a1:Below w.heap.size w y:=U9.trans (aH.mono (by have:=DQ.out;omega));have NX:y.heap.size=q.heap.size+3:=by rw[<-fu];simp
 have bD:=bs.out (q.alloc (.cells #[c.fm,.int .u32 c.mg,c.fr,c.un,c.de,c.it] 24)) (U9.alloc (by have:=DQ.out;omega) _);have bd:Hid (ag y q.heap.size 24 #[c.fm,.int .u32 c.mg,c.fr,c.un,c.de,c.it]):=za (by rw[<-fu];exact((ag.new _ _ _).alloc _).alloc _);have a6:Hid (ag y (q.heap.size+1) 9 #[b]):=za (by rw[<-fu];exact ag.alloc (ag.at_ (by simp)) _);have bc:Hid (ag y (q.heap.size+1+1) 3 #[(0:Int)]):=za (by rw[<-fu];exact ag.at_ (by simp));have aZ:=za (U5.out.ah ay U5.out.lt);have bo:=za (J4.out.ah ay J4.out.lt);have DU:=za a1;have au:Hid (w.heap.size+2<=q.heap.size/\y.heap.size=q.heap.size+3):=za ⟨by have:=DQ.out;omega,NX⟩;clear b2 p0 p1 H p3 p4 p5 p6;have b2:q.cell? (w.heap.size,0)=some (.pointer (some (g,0))):=((U5.out.ah cO.out U5.out.lt).ah aI (by have:=DQ.out;omega)).cell 0;obtain⟨p0,p1,H,p3,p4,p5,p6⟩:=fg.parts (HS.out.ah U9 Ai);have Ag:w.heap.size<q.heap.size:=by have:=DQ.out;omega
 have Rq:g<q.heap.size:=by omega
 have oS:=za fu;have Wb:Hid (NxN lo hi q.heap.size (w.heap.size+1) (q.heap.size+1) (q.heap.size+1+1) w.heap.size g p):=za ⟨⟨by omega,by omega,by omega,by omega,by omega,RP⟩,⟨by omega,by omega,by omega,by omega,by omega⟩,⟨.inr br,.inr (by have:=Hd.out.his;omega)⟩⟩;have uG:Hid (∀V k t' R',ae [p] w V->Uo V q.heap.size (w.heap.size+1) (q.heap.size+1) (q.heap.size+1+1) w.heap.size g p c b k->Met V (some p) t' R'->70000<=R'->k<=b.size->Calls prog 70 (Dx q.heap.size (w.heap.size+1) (q.heap.size+1) (q.heap.size+1+1) w.heap.size) V (QP V (q.heap.size+1+1) p t' R' k (aQ c l (b.extract k b.size)))):=za (fun V k t' R' o hB hm bT hk=>
  QQ c l lo hi D gn gi rows g p _ _ _ _ _ b k (.slice A b.size cap) F 0 laid I sent t' R' V hr hc hb hk (Hd.out.only o (by simp;exact .inr br)) uK.out (HS.out.only o (by simp;omega)) hm bT hB Wb.out (fun V' bx=>Bb.out V' (((o.mono (by simp)).trans' bx (by have:=au.out;simp;omega)))))
 clear aI aH bm ay U9 a1 fu NX aN;go_wp2_with fail
 rw[oS.out];have Eb:Hid (Uo y q.heap.size (w.heap.size+1) (q.heap.size+1) (q.heap.size+1+1) w.heap.size g p c b 0):=za ⟨bd.out,bo.out,a6.out,bc.out,aZ.out⟩;have ai:=za (uG.out y 0 t R ((ae.ai DU.out (zd _)).mono (by simp)) Eb.out (MS.refl HM.out|>.below DU.out).met (by omega) (yb _));unfold Dx at ai uG;have Li:w.heap.size+2<=q.heap.size:=au.out.1;have JI:y.heap.size=q.heap.size+3:=au.out.2;obtain⟨cb,aY⟩:∃cb,q.heap.size=cb:=⟨_,rfl⟩
 have N':Hid (ae [p] w y):=za ((ae.ai DU.out (zd _)).mono (by simp));rw[aY]at Eb ai uG Wb Li JI⊢;clear aY b2 p0 p1 H p3 p4 p5 p6 Ag Rq bD bd a6 bc aZ bo au oS cw cF;obtain⟨X0,ax⟩:∃X0,aQ c l (b.extract 0 b.size)=X0:=⟨_,rfl⟩
 rw[ax]at ai;refine ai.out.mono ?_;rintro e w6 ⟨d0,d1,d2,d3,rfl,Al,VZ,Aj,JG⟩;obtain⟨M,L,rfl,rfl,rfl,rfl,_⟩:=Al.open_;have ak:Hid (CuW w (w6.alloc (.cells #[X0.2.1.name,X0.2.1.x.text,X0.2.1.x.list,.slice M X0.2.1.x.sub.length L] 30)) cb (w.heap.size+1) (cb+1) (cb+1+1) w.heap.size w6.heap.size y.heap.size g p c l b 0 (t+0) (R-0) nS):=za (by
  subst ax;have ha:=Wb.out.a1;have aw:=Aj.size;have bz:Uo w6 cb (w.heap.size+1) (cb+1) (cb+1+1) w.heap.size g p c b (if(aQ c l (b.extract 0 b.size)).1=0 then 0+(aQ c l (b.extract 0 b.size)).2.2.1 else 0):=⟨Eb.out.cf.only Aj (by simp;omega),Eb.out.me.only Aj (by simp;omega),Eb.out.tx.only Aj (by simp;omega),JG,Eb.out.se.only Aj (by simp;omega)⟩
  have Cr:=(zm w6.heap.size w6).alloc (zd _) (.cells #[.string (aQ c l (b.extract 0 b.size)).2.1.name,.string (aQ c l (b.extract 0 b.size)).2.1.x.text,.bool (aQ c l (b.extract 0 b.size)).2.1.x.list,.slice M (aQ c l (b.extract 0 b.size)).2.1.x.sub.length L] 30);have aF:=ae.ai Cr (zd _);exact⟨(N'.out.trans' Aj (by simp;omega)).trans' aF (by simp),VZ.only aF (by simp),bz.only aF (by simp),_,_,_,_,ag.new _ _ _,(Al.ef (S':=fun j=>y.heap.size<=j/\j≠w6.heap.size/\(Value.slice none 0 0).ownBlock≠some j) (fun j d h=>⟨h,by omega,by intro e;cases e⟩)).below Cr⟩)
 obtain⟨W7,rp⟩:∃W7,w6.alloc (.cells #[X0.2.1.name,X0.2.1.x.text,X0.2.1.x.list,.slice M X0.2.1.x.sub.length L] 30)=W7:=⟨_,rfl⟩
 have aw:=Aj.size;have a':W7.heap.size=w6.heap.size+1:=by rw[<-rp];simp
 rw[rp]at ak;have GH:=za rp;obtain⟨z,hz⟩:∃z,y.heap.size=z:=⟨_,rfl⟩
 rw[hz]at ak JI aw;have bE:=za ax;have Bg:Hid (w.heap.size+2<=cb/\z=cb+3):=za ⟨Li,JI⟩;have aV:=za aw;have az:=za a';clear ax Al VZ Aj JG rp a' hz Eb ai Li JI aw DU N' bs;go_wp2_with fail
 rw[GH.out];obtain⟨u,bp⟩:∃u,w6.heap.size=u:=⟨_,rfl⟩
 rw[bp]at ak aV az⊢;have Z:Hid (w.heap.size+2<=cb/\z=cb+3/\z<=u):=za ⟨Bg.out.1,Bg.out.2,aV.out⟩;clear bp Bg aV;go_loopw [9,11] (fun lv ev wr=>∃(acc:List Ms) (k a:Nat),bL wr (fun j=>z<=j/\j≠u) (u+1) acc lv/\ev= .int .i64 (aQ c l (b.extract k b.size)).1/\k<=b.size/\acc.length<=k/\a<=65536*acc.length/\Hid (split (aQ c l) b=(acc++(split (aQ c l) (b.extract k b.size)).1,(split (aQ c l) (b.extract k b.size)).2.1,a+(split (aQ c l) (b.extract k b.size)).2.2.1,(split (aQ c l) (b.extract k b.size)).2.2.2))/\Hid (CuW w wr cb (w.heap.size+1) (cb+1) (cb+1+1) w.heap.size u z g p c l b k (t+a) (R-a) lv)/\u+1<=wr.heap.size) (fun lv _ _=>b.size-lenOf lv)
 case atStart=>exact⟨[],0,0,bL.nil _ _ _,by rw[bE.out],by omega,by simp,by simp,za (by rw[J5];simp),ak,by have:=az.out;omega⟩
 case round=>
  clear ak GH az;obtain⟨acc,k,a,ll,rfl,hk,Cr,ha,ao,a7,b9⟩:=hrel;obtain⟨A5,n5,ff,rfl,bA,b5,b1⟩:=ll.cy;have ss:=za ll;have Af:=QR c l (b.extract k b.size);have fc:=UN.out.pos (b.extract k b.size);have mD:Hid ((aQ c l (b.extract k b.size)).1≠0->split (aQ c l) b=(acc,b.extract k b.size,a+(aQ c l (b.extract k b.size)).2.2.2,if(aQ c l (b.extract k b.size)).1=2 then 0 else(aQ c l (b.extract k b.size)).1)):=za (fun h=>by
   rw[ao.out,jw UN.out (b.extract k b.size),zi h];simp)
  have N7:Hid ((aQ c l (b.extract k b.size)).1=0->split (aQ c l) b=((acc++ [(aQ c l (b.extract k b.size)).2.1])++(split (aQ c l) (b.extract (k+(aQ c l (b.extract k b.size)).2.2.1) b.size)).1,(split (aQ c l) (b.extract (k+(aQ c l (b.extract k b.size)).2.2.1) b.size)).2.1,(a+(aQ c l (b.extract k b.size)).2.2.2)+(split (aQ c l) (b.extract (k+(aQ c l (b.extract k b.size)).2.2.1) b.size)).2.2.1,(split (aQ c l) (b.extract (k+(aQ c l (b.extract k b.size)).2.2.1) b.size)).2.2.2)):=za (fun h=>by
   obtain⟨p1,H⟩:=UN.out.pos _ h;rw[ar _ _ _ (zd _)]at H;have e:(b.extract k b.size).extract (aQ c l (b.extract k b.size)).2.2.1 (b.extract k b.size).size=b.extract (k+(aQ c l (b.extract k b.size)).2.2.1) b.size:=by
    rw[CA _ _ _ _ (by rw[ar _ _ _ (zd _)];omega),ar _ _ _ (zd _)];congr 1;omega
   rw[ao.out,iC UN.out h,e];simp[Vd.cons,yg])
  have af:Hid ((aQ c l (b.extract k b.size)).1=2->iJ c (b.extract k b.size) (gJ c (b.extract k b.size))):=za (fun h=>iJ.of hr (kT.1 h));rw[ar _ _ _ (zd _)]at fc;obtain⟨uo,um,ux,d0,d1,d2,d3,ut,us⟩:=a7.out;clear ao a7 ll;obtain⟨r,Wc⟩:∃r,b.extract k b.size=r:=⟨_,rfl⟩
  rw[Wc]at Af fc mD N7 af um ux us⊢;have av:=za Wc;clear Wc;obtain⟨X,hX⟩:∃X,aQ c l r=X:=⟨_,rfl⟩
  rw[hX]at Af fc mD N7 af um ux us⊢;clear hX;obtain⟨y5,X2,y4,m⟩:=X;simp only at Af fc mD N7 af um ux us⊢;obtain⟨Ay,J3,rfl,rfl,rfl,rfl,_⟩:=us.open_;have b0:lenOf (.slice A5 n5 ff)=n5:=rfl;by_cases Y:y5=0
  ·subst Y;obtain⟨p1,H⟩:=fc rfl;have lu:=za (N7.out rfl);rw[zj rfl]at ux;obtain⟨v0,v1,v2,v3,_⟩:=aU ut;have U8:=(zm wr.heap.size wr).alloc (zd _) (.cells #[X2.name,X2.x.text,X2.x.list,.slice Ay X2.x.sub.length J3] 30);have Sj:=za (ss.out.below U8);have a8:=za ((us.below U8).ef (S':=fun j=>(z<=j/\j≠u)/\(Value.slice A5 n5 ff).ownBlock≠some j) (fun j _ h=>⟨⟨h.1,h.2.1⟩,h.2.2⟩));have Sn:=ae.ai U8 (zd _);have ab:=za (uo.trans' Sn (by simp));have ad:=za (um.only Sn (by simp));have s:=za (ux.only Sn (by simp));have bl:=za (ut.only Sn (by simp));have Sq:=za (Sj.out.ge);clear uo um ux ut us U8 Sn N7 mD af ss;go_wp2_with (
    refine qo (by rfl) (.tmp 40) (.tmp 42) (by rfl) (fun j=>z<=j/\j≠u) (u+1) acc (by rfl) Sj.out X2 a8.out wr.heap.size (by rfl) (by simp) (by simp) (by simp) (by simp) (by omega) (by simp;omega) ?_;intro g' n' an w8 Uz aB gB b6)
   have E:=ae.eR gB;have C:∀j,j∈(Value.slice A5 n5 ff).ownBlock.toList->u+1<=j:=fun j d=>(Sq.out j (bV.1 d)).1
   obtain⟨z1,z2,z3⟩:=Z.out;have bn:Hid (ae [p] w w8):=za (ab.out.trans' E (fun j d=> .inr (by have:=C j d;omega)));have bU:=za (ad.out.only E (by intro j e d;injection e with e;have:=C j d;omega));have Sg:=za (s.out.only E ⟨fun d=>by have:=C _ d;omega,fun d=>by have:=C _ d;omega,fun d=>by have:=C _ d;omega,fun d=>by have:=C _ d;omega,fun d=>by have:=C _ d;omega⟩);have bM:=za (bl.out.only E (fun d=>by have:=C _ d;omega));have SL:wr.heap.size+1<=w8.heap.size:=by have:=gB.size;simpa using this
   have bK:=za aB;have Rt:=za aB.ge;have dT:k+y4<=b.size:=by omega
   have aL:=za (uG.out w8 (k+y4) (t+a+m) (R-a-m) bn.out Sg.out bU.out (by omega) dT);obtain⟨ah,hY⟩:∃ah,aQ c l (b.extract (k+y4) b.size)=ah:=⟨_,rfl⟩
   rw[hY]at aL;have bk:=za hY;have bt:=za (And.intro z1 (And.intro z2 z3));clear E C gB aB hY ab ad s bl Sj a8 Sq z1 z2 z3;refine aL.out.mono ?_;rintro e w9 ⟨d0,d1,d2,d3,rfl,Al,VZ,S,JG⟩;obtain⟨Az,bw,rfl,rfl,rfl,rfl,_⟩:=Al.open_;have b8:=S.size;have aC:=bM.out.only S (by have:=bt.out;simp;omega);obtain⟨t0,t1,t2,t3,LA,N4,SR,b7⟩:=aU aC;have bR:=za aC;have bu:=za Al;have bB:=za VZ;have bJ:=za S;have bZ:=za JG;clear Al VZ S JG aC aL;go_wp2;go_roundw
   case rel=>
    have S:=bJ.out;have Bi:=eK w9 u ah.2.1.name ah.2.1.x.text ah.2.1.x.list (.slice Az ah.2.1.x.sub.length bw);have ma:∀j,(Value.slice (some (g',0)) n' an).ownBlock=some j->u+1<=j/\j<w8.heap.size:=fun j e=>Rt.out j e
    obtain⟨z1,z2,z3⟩:=bt.out;have ha:=Wb.out.a1;refine⟨acc++ [X2],k+y4,a+m,(bK.out.only S (by simp;omega) (fun j d e=>by have:=ma j e;simp at d;omega)).only Bi (by simp) (fun j d e=>by have:=ma j e;simp at d;omega),by rw[bk.out],dT,by rw[zk];simp;omega,by rw[zk];simp;omega,by rw[show k+y4=k+y4 from rfl];exact lu,za ?_,by have:=Bi.size;omega⟩;have e1:t+(a+m)=t+a+m:=by omega
    have e2:R-(a+m)=R-a-m:=by omega
    rw[e1,e2];have hY:=bk.out;subst hY;exact⟨(bn.out.trans' S (by simp;omega)).trans' Bi (by simp;omega),bB.out.only Bi (by intro j e;injection e with e;simp;omega),
     ⟨(Sg.out.cf.only S (by simp;omega)).only Bi (by simp;omega),(Sg.out.me.only S (by simp;omega)).only Bi (by simp;omega),(Sg.out.tx.only S (by simp;omega)).only Bi (by simp;omega),bZ.out.only Bi (by simp;omega),(Sg.out.se.only S (by simp;omega)).only Bi (by simp;omega)⟩,
     _,_,_,_,Gl bR.out _ _ _ _,bu.out.only Bi (by simp;omega) (fun j _ d=>by have d:w8.heap.size<=j:=d;exact⟨by omega,by omega,fun e=>by have:=ma j e;omega⟩)⟩
   case measure=>
    have q1:=Uz.out;have q2:=bA.out;simp[lenOf];omega
  have B:=mD.out Y;rw[zi Y]at ux;have OA:Hid (fg wr g D (.slice A b.size cap) F 0 laid I sent):=za (HS.out.only uo (by simp;omega));have U':Hid (bP wr hi 5 (.slice A b.size cap) b.data.toList):=za (ot.out.qf uo (fun j e=>by have:=Oy.out.2;rw[e]at this;simpa using Zf (fun h=>this (by rw[h]))));have ab:=za uo;have ad:=za um;have s:=za ux;have qO:(k:Int)<=b.size:=by omega
  have Sw:r.size<=5000000:=by rw[<-av.out,ar _ _ _ (zd _)];omega
  have b4:=av.out;have b':w.heap.size<cb+1+1:=by have:=Z.out.1;omega
  clear uo um ux ut us mD N7 fc;by_cases K:y5=2
  ·subst K;rw[zj rfl]at B;have B:=za B;have bQ:=za (af.out rfl);have RG:=za (fun V=>Jo c r V hr (by omega));unfold aM.val at RG;clear af;go_wp2_with fail
   refine nz 8 (by kernel_rfl) (by kernel_rfl) ?_;simp only[zR,yv,ya,zL];refine aE (.pointer (some (g,0))) (by rfl) (fun V o=>by have b2:=(s.out.se.ah o s.out.se.lt).cell 0;go_simp) ?_;simp only[Act.put,zb,ze,zg];refine aE (.agg #[c.fm,.int .u32 c.mg,c.fr,c.un,c.de,c.it]) (by rfl) (fun V o=>by obtain⟨q0,q1,q2,q3,q4,q5⟩:=ga (s.out.cf.ah o s.out.cf.lt);go_simp) ?_;simp only[Act.put,zb,ze,zg];refine aE (.string b) (by rfl) (fun V o=>by have b2:=(s.out.tx.ah o s.out.tx.lt).cell 0;go_simp) ?_;simp only[Act.put,zb,ze,zg];refine aE (.int .i64 k) (by rfl) (fun V o=>by have b2:=(s.out.at_.ah o s.out.at_.lt).cell 0;go_simp) ?_;simp only[Act.put,zb,ze,zg];refine aE (.string r) (by rfl) (fun _ _=>by first|rfl|go_simp) ?_;simp only[Act.put,zb,ze,zg];refine eI 73 _ _ (by rfl) (fun _=>by first|rfl|go_simp) (fun V _=>RG.out V) ?_;simp only[Act.put,zb,ze,zg];refine aE (.pointer (some (g,0))) (by rfl) (fun _ _=>by first|rfl|go_simp) ?_;simp only[Act.put,zb,ze,zg];refine aE (.pointer (some (g,2))) (by rfl) (fun _ _=>by first|rfl|go_simp) ?_;simp only[Act.put,zb,ze,zg];refine xO ?_;intro V o;have U6:fg V g D (.slice A b.size cap) F 0 laid I sent:=OA.out.ah o OA.out.lt;obtain⟨_,_,H,p3,_,_,_⟩:=fg.parts U6;obtain⟨_,f2,f3,_,_,_⟩:=fg.C7 U6;have aT:g<V.heap.size:=zQ OA.out.lt o.size;go_upto_region 15 with fail
   obtain⟨n,W⟩:∃n,V.setCell (g,2) (.int .i64 (gJ c r:Nat))=n:=⟨_,rfl⟩
   rw[W];have al:ae [p,g] w V:=(ab.out.mono (by simp)).trans' (ae.ai o (zd _)) (by simp);have LC:Hid (ae (p::g::(Value.slice A b.size cap).ownBlock.toList) w n):=za (by rw[<-W];exact(al.setCell (.inl (by simp)) _).mono (by intro i hi;simp at hi⊢;rcases hi with h|h<;>simp[h]));have G:ae [g] V n:=by rw[<-W];exact(ae.refl _ _).setCell (.inl (by simp)) _
   have Of:Hid (bP n hi 5 (.slice A b.size cap) b.data.toList):=za ((U'.out.below o).qf G (by intro j e h;simp at h;subst h;exact Oy.out.1 e));have SW:Hid (Met n (some p) (t+a+m) (R-a-m)):=za ((ad.out.only (ae.ai o (zd _)) (by simp)).only G (by intro j e;injection e with e;subst e;simpa using RP));have bO:g<w.heap.size:=Ai;have aj:Hid (bL n (fun j=>z<=j/\j≠u) (u+1) acc (.slice A5 n5 ff)):=za ((ss.out.below o).only G (by have:=Z.out;simp;omega) (fun j d e=>by have:=(ss.out.ge j e).1;have:=Z.out;simp at d;omega));have Si:Hid (ag n w.heap.size 74 #[(g,0)]):=za ((s.out.se.ah o s.out.se.lt).only G (by simp;omega));have Sl:Hid (ag n (cb+1+1) 3 #[k]):=za ((s.out.at_.ah o s.out.at_.lt).only G (by have:=Z.out;simp;omega));have GO:Hid (w.heap.size<=n.heap.size):=za LC.out.size;clear al G H p3 f2 f3 aT;have gy:Hid (fg n g D (.slice A b.size cap) (gJ c r) 0 laid I sent):=za (by rw[<-W];exact fg.Tz U6 _);clear W o U6 OA U' ab ad s ss;have aG:Hid ((split (aQ c l) b).2.2.2=0->iJ c (split (aQ c l) b).2.1 (gJ c r)):=za (fun _=>by rw[B.out];exact bQ.out);have JJ:g<n.heap.size:=gy.out.lt;have UG:=za (Gb hi (.slice A b.size cap) b.data.toList k n.drew (Of.out.below (zm _ _).drew) (by have:=GO.out;show hi<=n.heap.size;omega) (by rw[aa];omega) (by rw[aa];omega));have aP:Hid (b.data.toList.drop k=r.data.toList):=za (by rw[<-av.out,aq,cP]);have JX:Hid (∀j,(Value.slice A b.size cap).ownBlock=some j->j<w.heap.size):=za (fun j e=>(ot.out.ge j e).2.1)
   have hHeld:(fun V:World=>(V,w.heap.size,0,g,0)/\(V,g,1,Value.slice A b.size cap)/\(V,cb+1+1,0,k)) n.drew:=⟨Si.out.cell 0,(fg.parts gy.out).2.1,Sl.out.cell 0⟩
   refine aK 9 (fun V=>(V,w.heap.size,0,g,0)/\(V,g,1,Value.slice A b.size cap)/\(V,cb+1+1,0,k)) (by kernel_rfl) (by kernel_rfl) ?_;refine GT.jM [0,1,2,3,4,5] hHeld (fun _ _ _ _ _ h=>h) (by kernel_rfl) ?_;repeat(refine .c rfl rfl (fun V o=>by go_simp<;>with_reducible rfl) ?_;simp only[Act.put,zb,ze,zg])
   refine .nil ?_;refine GT.gw 6 (fun aR hK=> ?_) rfl (by kernel_rfl);go_simp;refine UG.out.mono ?_;rintro e x ⟨v',rfl,cT,U⟩;rw[aP.out]at cT;have Sm:fg n.drew g D (.slice A b.size cap) (gJ c r) 0 laid I sent:=ag.drew gy.out;have N:fg x g D (.slice A b.size cap) (gJ c r) 0 laid I sent:=ag.Sr Sm U (Oy.out.1);have Sp:ag x w.heap.size 74 #[(g,0)]:=ag.Sr Si.out.drew U (fun e=>by have:=JX.out _ e;omega);have Sf:ag x (cb+1+1) 3 #[k]:=ag.Sr Sl.out.drew U (fun e=>by have:=JX.out _ e;omega);obtain⟨_,aO,_,_,_,_,_⟩:=fg.parts N;obtain⟨bF,_,_,_,_,_⟩:=fg.C7 N;have bG:g<x.heap.size:=N.lt;obtain⟨M,n6,L,rfl,bN,bS,bW⟩:=cT.cy;have ey:=za N;have GQ:=za U;have Bh:=za cT;clear N Sm U cT UG;go_wp2_with fail
   refine hK.out _ _ ⟨Sp.cell 0,aO,Sf.cell 0⟩ (fun hHeld=> ?_);clear hK aR;try simp only[Act.put,zb,ze,zg]
   refine GT.jM [7,8] hHeld (fun _ _ _ _ _ h=>h) (by kernel_rfl) ?_;repeat(refine .c rfl rfl (fun V o=>by go_simp<;>with_reducible rfl) ?_;simp only[Act.put,zb,ze,zg])
   refine .nil ?_;refine GT.pF 9 ?_ rfl (by kernel_rfl);go_simp;clear hHeld Sp Sf;go_wp2;go_ret;have aS:ae [] n n.drew:=ae.ai (zm _ _).drew (zd _);have E:ae (Value.slice A b.size cap).ownBlock.toList n x:=(aS.mono (by simp)).trans GQ.out.only;have aW:ae (p::g::(Value.slice A b.size cap).ownBlock.toList) w x:=LC.out.trans' E (fun i hi=> .inl (by simp at hi⊢;exact .inr (.inr hi)));have Sk:ae [g] x (x.setCell (g,1) (.slice M n6 L)):=(ae.refl [g] x).setCell (.inl (by simp)) _;have JI:=Z.out;refine⟨.slice A5 n5 ff,.slice M n6 L,(gJ c r),rfl, ?_, ?_, ?_, ?_, ?_, ?_,aG.out⟩
   ·rw[B.out];have C:∀j,j∈(Value.slice A b.size cap).ownBlock.toList->j<w.heap.size:=fun j d=>JX.out j (bV.1 d)
    have ma:=aj.out.ge;have aA:∀j,j<n.heap.size->(z<=j/\j≠u)->w.heap.size<=j/\(Value.slice M n6 L).ownBlock≠some j:=fun j d hz=>⟨by omega,fun e=>by
     rcases GQ.out.own with e2|⟨j',e2,O⟩
     ·have:=JX.out j (by rw[<-e2];exact e);omega
     rw[e2]at e;injection e with e;have O:n.heap.size<=j':=O;omega⟩
    exact((aj.out.ef aA (show w.heap.size<=u+1 by omega)).only E (fun j d hS=>by have:=C j d;have:=hS.1;omega) (fun j d e=>by have:=C j d;have:=ma j e;omega)).only Sk (fun j d hS=>by simp at d;have:=hS.1;omega) (fun j d e=>by have:=ma j e;simp at d;omega)
   ·rw[B.out];exact fg.II ey.out _
   ·rw[B.out];refine Bh.out.ah (fun j Y K=>zS _ _ _ _ ?_);rintro rfl;exact(Bh.out.cx ey.out (by decide)) K
   ·rw[B.out];have Y:=SW.out.only E (by intro j e;injection e with e;subst e;exact fun h=>Oy.out.2 (bV.1 h));have K:=Y.only Sk (by intro j e;injection e with e;subst e;simpa using RP);simpa only[yg,Nat.sub_sub]using K
   ·exact aW.setCell (.inl (by simp)) _
   intro j d;rcases GQ.out.own with e|⟨j',e,O⟩
   ·exact .inl (by rw[<-e];exact d)
   rw[e]at d;injection d with d;exact .inr (by have:=GO.out;have O:n.heap.size<=j':=O;omega)
  rw[zi K]at B;have B:=za B;have Wp:(y5==2)=false:=zp.2 K;obtain⟨V,aX⟩:∃V,wr=V:=⟨_,rfl⟩
  have o:Below wr.heap.size wr V:=by rw[<-aX];exact zm _ _
  have b2:V.cell? (w.heap.size,0)=some (.pointer (some (g,0))):=(s.out.se.ah o s.out.se.lt).cell 0;rw[aX];clear aX af;have U6:fg V g D (.slice A b.size cap) F 0 laid I sent:=OA.out.ah o OA.out.lt;obtain⟨_,_,H,p3,_,_,_⟩:=fg.parts U6;obtain⟨_,f2,f3,_,_,_⟩:=fg.C7 U6;have aT:g<V.heap.size:=zQ OA.out.lt o.size;go_upto_region 15 with fail
  obtain⟨n,W⟩:∃n,V.setCell (g,3) (.int .i64 y5)=n:=⟨_,rfl⟩
  rw[W];have al:ae [p,g] w V:=(ab.out.mono (by simp)).trans' (ae.ai o (zd _)) (by simp);have LC:Hid (ae (p::g::(Value.slice A b.size cap).ownBlock.toList) w n):=za (by rw[<-W];exact(al.setCell (.inl (by simp)) _).mono (by intro i hi;simp at hi⊢;rcases hi with h|h<;>simp[h]));have G:ae [g] V n:=by rw[<-W];exact(ae.refl _ _).setCell (.inl (by simp)) _
  have Of:Hid (bP n hi 5 (.slice A b.size cap) b.data.toList):=za ((U'.out.below o).qf G (by intro j e h;simp at h;subst h;exact Oy.out.1 e));have SW:Hid (Met n (some p) (t+a+m) (R-a-m)):=za ((ad.out.only (ae.ai o (zd _)) (by simp)).only G (by intro j e;injection e with e;subst e;simpa using RP));have bO:g<w.heap.size:=Ai;have aj:Hid (bL n (fun j=>z<=j/\j≠u) (u+1) acc (.slice A5 n5 ff)):=za ((ss.out.below o).only G (by have:=Z.out;simp;omega) (fun j d e=>by have:=(ss.out.ge j e).1;have:=Z.out;simp at d;omega));have Si:Hid (ag n w.heap.size 74 #[(g,0)]):=za ((s.out.se.ah o s.out.se.lt).only G (by simp;omega));have Sl:Hid (ag n (cb+1+1) 3 #[k]):=za ((s.out.at_.ah o s.out.at_.lt).only G (by have:=Z.out;simp;omega));have GO:Hid (w.heap.size<=n.heap.size):=za LC.out.size;clear al G H p3 f2 f3 aT;have gy:Hid (fg n g D (.slice A b.size cap) F y5 laid I sent):=za (by rw[<-W];exact fg.PG U6 _);clear W o U6 OA U' ab ad s ss b2;have aG:Hid ((split (aQ c l) b).2.2.2=0->iJ c (split (aQ c l) b).2.1 F):=za (fun h=>by rw[B.out]at h;exact absurd h Y);have JJ:g<n.heap.size:=gy.out.lt;have UG:=za (Gb hi (.slice A b.size cap) b.data.toList k n.drew (Of.out.below (zm _ _).drew) (by have:=GO.out;show hi<=n.heap.size;omega) (by rw[aa];omega) (by rw[aa];omega));have aP:Hid (b.data.toList.drop k=r.data.toList):=za (by rw[<-av.out,aq,cP]);have JX:Hid (∀j,(Value.slice A b.size cap).ownBlock=some j->j<w.heap.size):=za (fun j e=>(ot.out.ge j e).2.1)
  have hHeld:(fun V:World=>(V,w.heap.size,0,g,0)/\(V,g,1,Value.slice A b.size cap)/\(V,cb+1+1,0,k)) n.drew:=⟨Si.out.cell 0,(fg.parts gy.out).2.1,Sl.out.cell 0⟩
  refine aK 9 (fun V=>(V,w.heap.size,0,g,0)/\(V,g,1,Value.slice A b.size cap)/\(V,cb+1+1,0,k)) (by kernel_rfl) (by kernel_rfl) ?_;refine GT.jM [0,1,2,3,4,5] hHeld (fun _ _ _ _ _ h=>h) (by kernel_rfl) ?_;repeat(refine .c rfl rfl (fun V o=>by go_simp<;>with_reducible rfl) ?_;simp only[Act.put,zb,ze,zg])
  refine .nil ?_;refine GT.gw 6 (fun aR hK=> ?_) rfl (by kernel_rfl);go_simp;refine UG.out.mono ?_;rintro e x ⟨v',rfl,cT,U⟩;rw[aP.out]at cT;have Sm:fg n.drew g D (.slice A b.size cap) F y5 laid I sent:=ag.drew gy.out;have N:fg x g D (.slice A b.size cap) F y5 laid I sent:=ag.Sr Sm U (Oy.out.1);have Sp:ag x w.heap.size 74 #[(g,0)]:=ag.Sr Si.out.drew U (fun e=>by have:=JX.out _ e;omega);have Sf:ag x (cb+1+1) 3 #[k]:=ag.Sr Sl.out.drew U (fun e=>by have:=JX.out _ e;omega);obtain⟨_,aO,_,_,_,_,_⟩:=fg.parts N;obtain⟨bF,_,_,_,_,_⟩:=fg.C7 N;have bG:g<x.heap.size:=N.lt;obtain⟨M,n6,L,rfl,bN,bS,bW⟩:=cT.cy;have ey:=za N;have GQ:=za U;have Bh:=za cT;clear N Sm U cT UG;go_wp2_with fail
  refine hK.out _ _ ⟨Sp.cell 0,aO,Sf.cell 0⟩ (fun hHeld=> ?_);clear hK aR;try simp only[Act.put,zb,ze,zg]
  refine GT.jM [7,8] hHeld (fun _ _ _ _ _ h=>h) (by kernel_rfl) ?_;repeat(refine .c rfl rfl (fun V o=>by go_simp<;>with_reducible rfl) ?_;simp only[Act.put,zb,ze,zg])
  refine .nil ?_;refine GT.pF 9 ?_ rfl (by kernel_rfl);go_simp;clear hHeld Sp Sf;go_wp2;go_ret;have aS:ae [] n n.drew:=ae.ai (zm _ _).drew (zd _);have E:ae (Value.slice A b.size cap).ownBlock.toList n x:=(aS.mono (by simp)).trans GQ.out.only;have aW:ae (p::g::(Value.slice A b.size cap).ownBlock.toList) w x:=LC.out.trans' E (fun i hi=> .inl (by simp at hi⊢;exact .inr (.inr hi)));have Sk:ae [g] x (x.setCell (g,1) (.slice M n6 L)):=(ae.refl [g] x).setCell (.inl (by simp)) _;have JI:=Z.out;refine⟨.slice A5 n5 ff,.slice M n6 L,F,rfl, ?_, ?_, ?_, ?_, ?_, ?_,aG.out⟩
  ·rw[B.out];have C:∀j,j∈(Value.slice A b.size cap).ownBlock.toList->j<w.heap.size:=fun j d=>JX.out j (bV.1 d)
   have ma:=aj.out.ge;have aA:∀j,j<n.heap.size->(z<=j/\j≠u)->w.heap.size<=j/\(Value.slice M n6 L).ownBlock≠some j:=fun j d hz=>⟨by omega,fun e=>by
    rcases GQ.out.own with e2|⟨j',e2,O⟩
    ·have:=JX.out j (by rw[<-e2];exact e);omega
    rw[e2]at e;injection e with e;have O:n.heap.size<=j':=O;omega⟩
   exact((aj.out.ef aA (show w.heap.size<=u+1 by omega)).only E (fun j d hS=>by have:=C j d;have:=hS.1;omega) (fun j d e=>by have:=C j d;have:=ma j e;omega)).only Sk (fun j d hS=>by simp at d;have:=hS.1;omega) (fun j d e=>by have:=ma j e;simp at d;omega)
  ·rw[B.out];exact fg.II ey.out _
  ·rw[B.out];refine Bh.out.ah (fun j Y K=>zS _ _ _ _ ?_);rintro rfl;exact(Bh.out.cx ey.out (by decide)) K
  ·rw[B.out];have Y:=SW.out.only E (by intro j e;injection e with e;subst e;exact fun h=>Oy.out.2 (bV.1 h));have K:=Y.only Sk (by intro j e;injection e with e;subst e;simpa using RP);simpa only[yg,Nat.sub_sub]using K
  ·exact aW.setCell (.inl (by simp)) _
  intro j d;rcases GQ.out.own with e|⟨j',e,O⟩
  ·exact .inl (by rw[<-e];exact d)
  rw[e]at d;injection d with d;exact .inr (by have:=GO.out;have O:n.heap.size<=j':=O;omega)
