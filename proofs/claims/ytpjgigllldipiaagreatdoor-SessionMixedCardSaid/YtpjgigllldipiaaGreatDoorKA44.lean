/- session.New, Send, and what is asked of a session. -/
import Derived.Test.YtpjgigllldipiaaGreatDoorKA42
import Derived.Test.YtpjgigllldipiaaGreatDoorKA45
set_option linter.all false
set_option maxRecDepth 100000
set_option maxHeartbeats 16000000
open Go.Proofs.Tryz
namespace Go.Proofs.YtpjgigllldipiaaGreatDoor
open Go.RowKit
theorem C' (i hi g:Nat)(k:Value)(c:aR)(l:List bA)(x:jb)(j:Nat)(w:World)(h:dt w i hi g k c l x j):
 Calls prog 13 #[.pointer (some ⟨g,0,none⟩)] w fun e w'=>e= .returned (.int .i64 (x.buf.size:Nat))/\w=w':=by
 obtain⟨_,_,_,_,_,_,_,d,_⟩:=h.reg;have b:=h.buf.form;rw[aa]at b;obtain⟨A,cap,rfl,_,_⟩:=b;obtain⟨_,p,m,n,q,r,o⟩:=d.parts;clear d h;go_enter func13,ntmps13
 go_wp2;go_ret;exact⟨rfl,rfl⟩
theorem FZ (i hi g:Nat)(k:Value)(c:aR)(l:List bA)(x:jb)(j:Nat)(w:World)(h:dt w i hi g k c l x j):
 Calls prog 14 #[.pointer (some ⟨g,0,none⟩)] w fun e w'=>e= .returned (.int .i64 (x.told:Nat))/\w=w':=by
 obtain⟨_,_,_,_,_,_,_,d,_⟩:=h.reg;have b:=h.buf.form;rw[aa]at b;obtain⟨A,cap,rfl,_,_⟩:=b;obtain⟨_,p,m,n,q,r,o⟩:=d.parts;clear d h;go_enter func14,ntmps14
 go_wp2;go_ret;exact⟨rfl,rfl⟩
theorem Qe (j hi g:Nat)(k:Value)(c:aR)(l:List bA)(x:jb)(d:Nat)(w:World)(h:dt w j hi g k c l x d):
 Calls prog 11 #[.pointer (some ⟨g,0,none⟩)] w fun e w'=>e= .returned (.int .i64 (d:Nat))/\w=w':=by
 obtain⟨_,_,_,_,_,_,_,i,_⟩:=h.reg;have b:=h.buf.form;rw[aa]at b;obtain⟨A,cap,rfl,_,_⟩:=b;obtain⟨_,p,m,n,q,r,o⟩:=i.parts;clear i h;go_enter func11,ntmps11
 go_wp2;go_ret;exact⟨rfl,rfl⟩
def UK (w:World)(c:aR)(l:List bA)(e:Ending)(w':World):Prop:=
 Below w.heap.size w w'/\((oH c l=0/\∃lo hi g,w.heap.size<=lo/\e= .returned (.tuple #[.pointer (some ⟨g,0,none⟩),.int .i64 0])/\dt w' lo hi g (.slice none 0 0) c l jb.new 0)\/(oH c l≠0/\e= .returned (.tuple #[.pointer none,.int .i64 (oH c l)])))
theorem Kw (c:aR)(l:List bA)(v:Value)(B:Nat)(w:World)(k:rj w B v l)(N:B<=w.heap.size)(q:Laid w)(x:∀e∈l,pN e):
 Calls prog 9 #[c.val,v] w (UK w c l):=by
 obtain⟨X,n,cap,rfl,Z,W,lI⟩:=k.dk;obtain⟨b,h⟩:∃b,w.alloc (.cells #[.int .i64 c.fm,.int .u32 c.mg,.int .i64 c.fr,.int .i64 c.un,.int .i64 c.de,.int .i64 c.it] 24)=b:=⟨_,rfl⟩
 have j:Below w.heap.size w b:=by rw[<-h];exact(zq _ w).alloc (zf _) _
 have s:b.heap.size=w.heap.size+1:=by rw[<-h];simp
 have u:af b w.heap.size 24 #[.int .i64 c.fm,.int .u32 c.mg,.int .i64 c.fr,.int .i64 c.un,.int .i64 c.de,.int .i64 c.it]:=by rw[<-h];exact af.new w _ _
 have A:=za (Tt c l _ B b (k.below (j.mono N)) (by omega) (q.below j q.pos) x);obtain⟨R,U,G,E,L,J⟩:=fB u;have r:=za j;have S:=za s;have F:=za h;unfold aR.val at*;clear k q x j s u h;go_enter func9,ntmps9
 go_wp2_with fail
 rw[F.out];refine A.out.mono ?_;rintro e i ⟨o,C⟩;have m:=za (r.out.trans (o.mono (by have:=S.out;omega)));have K:=o.size;clear o A R U G E L J;rcases C with⟨d,I,H,D,rows,rfl,z,y⟩|⟨d,rfl⟩
 ·have M:=za z;have O:=za y;have p:=za d;clear z y d;go_wp2;refine zo (v:= .tuple #[.pointer (some ⟨i.heap.size,0,none⟩),.int .i64 0]) (by simp[results,results9,go_sem]) rfl ?_;refine⟨m.out.alloc m.out.size _,.inl ⟨p.out,b.heap.size,i.heap.size,i.heap.size,r.out.size,rfl,K,zf _,⟨I,H,D,rows,0,M.out.below ((zq _ i).alloc (zf _) _),O.out,af.new _ _ _,fun _=>iq.zero _ _⟩,bJ.nil _ _ _⟩⟩
 have Y:(oH c l !=0)=true:=yQ.2 d;have p:=za d;clear d;go_wp2;refine zo (v:= .tuple #[.pointer none,.int .i64 (oH c l)]) (by simp[results,results9,go_sem]) rfl ?_;exact⟨m.out,.inr ⟨p.out,rfl⟩⟩
theorem F0 (X hi g:Nat)(Y:Value)(c:aR)(l:List bA)(x:jb)(m:Nat)(nm:ByteArray)(it:It)(B:Nat)(w:World)(c0 c1 c2:Value)(hc:c.ok)(h:dt w X hi g Y c l x m)(hI:bZ w B it c0 c1 c2)(hB:B<=w.heap.size)(hL:Laid w)(iM:bj w)
 (hl:c.fm≠1->it.fA.length<=1000000) (ai:(bD c l nm it).1.ok) (U6:m<=1000000000):
 Calls prog 10 #[.pointer (some ⟨g,0,none⟩),.agg #[.string nm,c0,c1,c2]] w fun e w'=>e= .returned (.tuple #[.string (cT c l nm it).1,.int .i64 (cT c l nm it).2])/\dt w' X hi g Y c l x (if(cT c l nm it).2=0 then m+1 else m)/\ae [g] w w':=by
 obtain⟨r,gn,gi,rows,nd,U,hr,hS,tM⟩:=h.reg;have wJ:=hS.lt;obtain⟨Z,S,rfl,rfl,rfl,_⟩:=hI.open_;obtain⟨b,W⟩:∃b,w.alloc (.cells #[.string nm,.string it.text,.bool it.list,.slice Z it.sub.length S] 30)=b:=⟨_,rfl⟩
 have R:Below w.heap.size w b:=by rw[<-W];exact(zq _ w).alloc (zf _) _
 have eA:b.heap.size=w.heap.size+1:=by rw[<-W];simp
 have B3:af b w.heap.size 30 #[.string nm,.string it.text,.bool it.list,.slice Z it.sub.length S]:=by rw[<-W];exact af.new w _ _
 have ad:=U.below (R.mono U.his);have ag:c.fm=1\/(bD c l nm it).1.body.size<=1000000:=by
  by_cases O:c.fm=1
  ·exact .inl O
  by_cases s:(bD c l nm it).2=0
  ·obtain⟨e,y,J,h3⟩:=mI s;have h4:=(qY O J (by have:=hl O;omega)).2;rw[h3,zj O];show _\/(bQ c e.shape it).1.size<=_
   rw[h4,<-aa];have:=hl O;simp;exact .inr (by omega)
  rw[BC s];exact .inr (by simp[nM,ByteArray.size])
 have HE:Hid (∀V,Below b.heap.size b V->Calls prog 27 #[.pointer (some ⟨r,0,none⟩),.agg #[.string nm,.string it.text,.bool it.list,.slice Z it.sub.length S]] V fun e w'=>e= .returned (.tuple #[(bD c l nm it).1.val,.int .i64 (bD c l nm it).2])/\Below V.heap.size V w'):=za (fun V d=>by
  have aI:=R.trans (d.mono (by omega));have:=Tq X hi r gn gi c rows nm it B V _ _ _ (U.below (aI.mono U.his)) (hI.below (aI.mono hB)) (by have:=d.size;omega) (hL.below aI hL.pos) (iM.below aI iM.pos) (fun h=>by have:=hl h;omega);rwa [hr]at this)
 have T0:=za (fun V (d:Below b.heap.size b V)=>Kq X hi r gn gi c rows V (ad.below (d.mono ad.his)));have HP:=za (fun V=>TG c (bD c l nm it).1 hc ai ag V);have D:Hid (cT c l nm it=if(bD c l nm it).2≠0 then(ByteArray.empty,(bD c l nm it).2)else fM c (bD c l nm it).1):=za rfl;have ah:Hid ((fM c (bD c l nm it).1).2≠0->(fM c (bD c l nm it).1).1=ByteArray.empty):=za OK;generalize cT c l nm it=SP at*;obtain⟨L,Gf⟩:∃L,(if SP.2=0 then m+1 else m)=L:=⟨_,rfl⟩
 rw[Gf];have C:=za Gf;clear Gf;generalize fM c (bD c l nm it).1=PP at*;generalize bD c l nm it=al at*;obtain⟨F,E⟩:=al;obtain⟨M,H⟩:=PP;obtain⟨z,fn,A⟩:=F;simp only at HE HP D ah;have NS:=za (hS.ah R wJ);have QR:=za h;have lZ:=za R;have AL:=za eA;have cJ:=za W;have NX:=za B3;have q:Hid (∀V,Below b.heap.size b V->V.cell? ⟨g,0,none⟩=some (.pointer (some ⟨r,0,none⟩))/\V.cell? ⟨w.heap.size,0,none⟩=some (.string nm)/\V.cell? ⟨w.heap.size,1,none⟩=some (.string it.text)/\V.cell? ⟨w.heap.size,2,none⟩=some (.bool it.list)/\V.cell? ⟨w.heap.size,3,none⟩=some (.slice Z it.sub.length S)):=za (fun V d=>by
  have y:eX V g r Y nd x.fault x.laid x.told m:=NS.out.ah d NS.out.lt;have J:=NX.out.ah d NX.out.lt;exact⟨y.parts.1,J.cell 0,J.cell 1,J.cell 2,J.cell 3⟩)
 unfold aR.val Fr.val at*;clear h U hr tM hI hL iM hl ai R eA B3 ad ag W hS;go_enter func10,ntmps10
 go_upto_region 3 with fail
 rw[cJ.out];go_cut [6,7] (fun v1 v2 k=>∃bf:Nat,v1= .pointer (some ⟨bf,0,none⟩)/\v2= .int .i64 E/\Hid (Below b.heap.size b k)/\Hid (af k bf 74 #[.int .u64 z,.string fn,.string A]))
 case rest=>
  obtain⟨bf,rfl,rfl,o,I⟩:=hcut;obtain⟨k,Y0⟩:∃k,k=wc:=⟨_,rfl⟩
  subst Y0;have DR:=o.out.size;have DA:=za (lZ.out.trans (o.out.mono (by have:=AL.out;omega)));have ak:w.heap.size<=k.heap.size:=DA.out.size;rcases eF E with⟨s,z1,z2⟩|⟨s,z1,z2⟩
  ·subst s;rw[zj (by simp)]at D;have p0:=(q.out k o.out).1;go_wp2_with fail
   refine iH (by kernel_rfl) (by kernel_rfl) ?_;refine aD (.pointer (some ⟨g,0,none⟩)) (by rfl) (fun _ _=>by first|rfl|go_simp) ?_;simp only[Act.put,zb,ze,zg];refine aD (.pointer (some ⟨g,0,none⟩)) (by rfl) (fun _ _=>by first|rfl|go_simp) ?_;simp only[Act.put,zb,ze,zg];refine aD (.pointer (some ⟨g,0,none⟩)) (by rfl) (fun _ _=>by first|rfl|go_simp) ?_;simp only[Act.put,zb,ze,zg];refine aD (.pointer (some ⟨r,0,none⟩)) (by rfl) (fun V d=>by have p0:=(q.out V (o.out.trans (d.mono DR))).1;go_simp) ?_;simp only[Act.put,zb,ze,zg];refine ep 29 _ (.agg #[.int .i64 c.fm,.int .u32 c.mg,.int .i64 c.fr,.int .i64 c.un,.int .i64 c.de,.int .i64 c.it]) (by rfl) (fun _=>by first|rfl|go_simp) (fun V d=>T0.out V (o.out.trans (d.mono DR))) ?_;simp only[Act.put,zb,ze,zg];refine aD (.agg #[.int .u64 z,.string fn,.string A]) (by rfl) (fun V d=>by obtain⟨f0,f1,f2⟩:=jY (I.out.ah d I.out.lt);go_simp) ?_;simp only[Act.put,zb,ze,zg];refine ep 28 _ (.tuple #[.string M,.int .i64 H]) (by rfl) (fun _=>by first|rfl|go_simp) (fun V d=>HP.out V) ?_;simp only[Act.put,zb,ze,zg];refine aD (.tuple #[.string M,.int .i64 H]) (by rfl) (fun _ _=>by first|rfl|go_simp) ?_;simp only[Act.put,zb,ze,zg];refine aD (.string M) (by rfl) (fun _ _=>by first|rfl|go_simp) ?_;simp only[Act.put,zb,ze,zg];refine aD (.int .i64 H) (by rfl) (fun _ _=>by first|rfl|go_simp) ?_;simp only[Act.put,zb,ze,zg];refine aD (.string M) (by rfl) (fun _ _=>by first|rfl|go_simp) ?_;simp only[Act.put,zb,ze,zg]
   refine aD (.int .i64 H) (by rfl) (fun _ _=>by first|rfl|go_simp) ?_;simp only[Act.put,zb,ze,zg];refine xS ?_;intro V d;have gj:Hid (Below w.heap.size w V):=za (DA.out.trans (d.mono ak));have u:Hid (dt V X hi g Y c l x m):=za (QR.out.below gj.out);have ab:eX V g r Y nd x.fault x.laid x.told m:=NS.out.ah (o.out.trans (d.mono DR)) NS.out.lt;have ar:g<V.heap.size:=ab.lt;obtain⟨_,_,_,_,_,_,p6⟩:=ab.parts;obtain⟨_,_,_,_,_,f6⟩:=ab.CI;clear d ab p0;rcases eF H with⟨y,u1,u2⟩|⟨y,u1,u2⟩
   ·subst y;go_wp2;refine zo (v:= .tuple #[.string M,.int .i64 0]) (by simp[results,results10,go_sem]) rfl ?_;rw[D.out]at C⊢;obtain rfl:m+1=L:=by rw[<-C.out,zl rfl]
    have ho:ae [g] V (V.setCell ⟨g,6,none⟩ (.int .i64 ((m:Int)+1))):=(ae.refl _ _).setCell (by simp) _;refine⟨rfl, ?_,((ae.ag gj.out (zf _)).mono (by simp)).trans ho⟩;obtain⟨aq,ao,aj,an,Y6,k1,k2,k3,k4⟩:=u.out.reg;have e1:((m:Int)+1)=((m+1:Nat):Int):=by omega
    have DU:=u.out.DU;have cd:=u.out.buf.dX k3 (by decide);exact⟨u.out.lohi,u.out.DU,⟨aq,ao,aj,an,Y6,k1.only ho (by simp;omega),k2,by rw[e1];exact eX.SV k3 _,k4⟩,u.out.buf.pF ho (by intro j e hj;simp at hj;subst hj;exact cd e)⟩
   have hp:=ah.out y;subst hp;go_wp2;refine zo (v:= .tuple #[.string ⟨#[]⟩,.int .i64 H]) (by simp[results,results10,go_sem]) rfl ?_;rw[D.out]at C⊢;obtain rfl:m=L:=by rw[<-C.out,zj y]
   exact⟨rfl,u.out,(ae.ag gj.out (zf _)).mono (by simp)⟩
  rw[zl s]at D;go_wp2;refine zo (v:= .tuple #[.string ⟨#[]⟩,.int .i64 E]) (by simp[results,results10,go_sem]) rfl ?_;rw[D.out]at C⊢;obtain rfl:m=L:=by rw[<-C.out,zj s]
  exact⟨rfl,QR.out.below DA.out,(ae.ag DA.out (zf _)).mono (by simp)⟩
 go_wp2_with fail
 have hHeld:=q.out b.drew (zq _ _).drew;refine aA 11 (fun V=>V.cell? ⟨g,0,none⟩=some (.pointer (some ⟨r,0,none⟩))/\V.cell? ⟨w.heap.size,0,none⟩=some (.string nm)/\V.cell? ⟨w.heap.size,1,none⟩=some (.string it.text)/\V.cell? ⟨w.heap.size,2,none⟩=some (.bool it.list)/\V.cell? ⟨w.heap.size,3,none⟩=some (.slice Z it.sub.length S)) (by kernel_rfl) (by kernel_rfl) ?_;refine GT.jy [0,1,2,3,4] hHeld (fun _ _ _ _ _ h=>h) (by kernel_rfl) ?_;repeat(refine .c rfl rfl (fun V d=>by go_simp<;>with_reducible rfl) ?_;simp only[Act.put,zb,ze,zg])
 refine .nil ?_;refine GT.SW 5 9 rfl rfl (by kernel_rfl) (fun K i=> ?_) (fun K i=> ?_)
 ·go_simp;refine(HE.out b.drew (zq _ _).drew).mono ?_;rintro en w3 ⟨rfl,G⟩;have n:Below b.heap.size b w3:=(show Below b.heap.size b b.drew from(zq _ _).drew).trans G;go_wp2_with fail
  refine i.out _ _ (q.out w3 n) (fun hHeld=> ?_);clear i K;try simp only[Act.put,zb,ze,zg]
  refine GT.jy [6,7,8] hHeld (fun _ _ _ _ _ h=>h) (by kernel_rfl) ?_;repeat(refine .c rfl rfl (fun V d=>by go_simp<;>with_reducible rfl) ?_;simp only[Act.put,zb,ze,zg])
  refine .nil ?_;refine GT.fw 9 (fun K i=> ?_) rfl (by kernel_rfl);go_simp;refine i.out _ _ (q.out _ (n.alloc n.size _)) (fun hHeld=> ?_);clear i K;try simp only[Act.put,zb,ze,zg]
  refine GT.fw 10 (fun K i=> ?_) rfl (by kernel_rfl);go_simp;refine i.out _ _ (q.out _ (n.alloc n.size _)) (fun hHeld=> ?_);clear i K;try simp only[Act.put,zb,ze,zg]
  refine GT.oL 11 ?_ rfl (by kernel_rfl);go_simp;obtain⟨k,p⟩:∃k,w3.alloc (.cells #[.int .u64 z,.string fn,.string A] 74)=k:=⟨_,rfl⟩
  have o:Hid (Below b.heap.size b k):=za (by rw[<-p];exact n.alloc n.size _);have I:Hid (af k w3.heap.size 74 #[.int .u64 z,.string fn,.string A]):=za (by rw[<-p];exact af.new _ _ _);rw[p];clear p G n hHeld;go_wp2_with fail
  go_meet;case rel=>exact⟨_,rfl,rfl,o,I⟩
 go_simp;have N:Below b.heap.size b (b.alloc (.cells #[.int .u64 0,.string ⟨#[]⟩,.string ⟨#[]⟩] 74)).drew:=((zq b.heap.size b).alloc (zf _) _).drew;have YY:af (b.alloc (.cells #[.int .u64 0,.string ⟨#[]⟩,.string ⟨#[]⟩] 74)).drew b.heap.size 74 #[.int .u64 0,.string ⟨#[]⟩,.string ⟨#[]⟩]:=(af.new b _ _).drew;refine i.out _ _ (q.out _ N) (fun hHeld=> ?_);clear i K;try simp only[Act.put,zb,ze,zg]
 refine GT.fw 5 (fun K i=> ?_) rfl (by kernel_rfl);go_simp;refine(HE.out _ N).mono ?_;rintro en w3 ⟨rfl,G⟩;have n:Below b.heap.size b w3:=N.trans (G.mono N.size);have Ro:=YY.ah G YY.lt;go_wp2_with fail
 refine i.out _ _ (q.out w3 n) (fun hHeld=> ?_);clear i K;try simp only[Act.put,zb,ze,zg]
 refine GT.jy [6,7,8] hHeld (fun _ _ _ _ _ h=>h) (by kernel_rfl) ?_;repeat(refine .c rfl rfl (fun V d=>by go_simp<;>with_reducible rfl) ?_;simp only[Act.put,zb,ze,zg])
 refine .nil ?_;obtain⟨t0,t1,t2,KV,Np,Sb⟩:=a8 Ro;refine GT.fw 10 (fun K i=> ?_) rfl (by kernel_rfl);go_simp;have R8:Below b.heap.size b (((w3.setCell ⟨b.heap.size,0,none⟩ (.int .u64 z)).setCell ⟨b.heap.size,1,none⟩ (.string fn)).setCell ⟨b.heap.size,2,none⟩ (.string A)):=((n.setCell (by simp) _).setCell (by simp) _).setCell (by simp) _;refine i.out _ _ (q.out _ R8) (fun hHeld=> ?_);clear i K;try simp only[Act.put,zb,ze,zg]
 refine GT.oL 11 ?_ rfl (by kernel_rfl);go_simp;obtain⟨k,p⟩:∃k,((w3.setCell ⟨b.heap.size,0,none⟩ (.int .u64 z)).setCell ⟨b.heap.size,1,none⟩ (.string fn)).setCell ⟨b.heap.size,2,none⟩ (.string A)=k:=⟨_,rfl⟩
 have o:Hid (Below b.heap.size b k):=za (by rw[<-p];exact R8);have I:Hid (af k b.heap.size 74 #[.int .u64 z,.string fn,.string A]):=za (by rw[<-p];exact dP Ro _ _ _);rw[p];clear p G n hHeld N YY Ro R8 t0 t1 t2 KV Np Sb;go_wp2_with fail
 go_meet;case rel=>exact⟨_,rfl,rfl,o,I⟩
theorem M4 :fM fj ⟨5,⟨#[]⟩,⟨#[7]⟩⟩=(⟨#[2,5,7]⟩,0):=by decide+kernel
theorem M5 :(aW fj ⟨#[2,5]⟩).1=2:=by decide+kernel
theorem M6 :(aW fj ⟨#[2]⟩).1=2:=by decide+kernel
theorem vN :cT fj [eS] ⟨#[112,105,110,103]⟩ kY=(⟨#[2,5,7]⟩,0):=by
 unfold cT;rw[FW,zj (by simp)];exact M4
theorem TK :SL [eS]:=fun e b=>by
 obtain rfl:=y8.1 b;simp[eS]
theorem Qf :DW (aY fj [eS]) jb.new ⟨#[2,5]⟩=(⟨⟨#[2,5]⟩,0,2,0⟩,[],0):=by
 rw[kE rfl,show jb.new.buf++(⟨#[2,5]⟩:ByteArray)=⟨#[2,5]⟩from by decide,fU (gF _ _) (jw.2 M5)];rfl
theorem Qg :∃k,DW (aY fj [eS]) ⟨⟨#[2,5]⟩,0,2,0⟩ ⟨#[7,2]⟩=(⟨⟨#[2]⟩,0,2+k,1⟩,[⟨⟨#[112,105,110,103]⟩,kY⟩],0):=by
 obtain⟨d,_,c⟩:=OI C9;obtain⟨y,k,h,_,i,_⟩:=OM (nm:=⟨#[112,105,110,103]⟩) (x:=kY) d c TK (by rw[vN]) (by rw[vM];simp);obtain rfl:=i (by decide);have b:=h ⟨#[2]⟩;rw[vN,fU (gF _ _) (jw.2 M6)]at b;refine⟨k, ?_⟩;have e:(⟨#[2,5]⟩:ByteArray)++(⟨#[7,2]⟩:ByteArray)=(⟨#[2,5,7]⟩:ByteArray)++(⟨#[2]⟩:ByteArray):=by decide
 rw[kE rfl];simp only;rw[e,b];simp[VF.cons];rfl
theorem vO :fj.ok:=⟨by decide,by decide,by decide,by decide,by decide,by decide⟩
structure Kx (lo:Nat):Prop where
 a:1<lo
 b:0<lo
theorem BS {w w':World}{c:Nat}{L:List Nat}(d:Laid w/\bj w)(e:Kx c)(i:ae L w w')(h:∀k∈L,c<=k):Laid w'/\bj w':=
 ⟨d.1.only i (fun b=>by have:=h _ b;have:=e.a;omega),d.2.only i (fun b=>by have:=h _ b;have:=e.b;omega)⟩
theorem dt.tK {w:World}{d hi g:Nat}{b:Value}{c:aR}{l:List bA}{x:jb}{e:Nat}(h:dt w d hi g b c l x e):∀k∈oC g b,d<=k:=fun k i=>by have:=h.JW k i;have:=h.lohi;omega
theorem TM (w:World)(i:Laid w)(y:bj w):Calls prog 5 #[] w fun e w'=>e= .returned (.bool true)/\Below w.heap.size w w':=by
 obtain⟨W,l⟩:∃W,w.alloc (.cells #[.int .u64 5,.string ⟨#[112,105,110,103]⟩,.string ⟨#[117,56]⟩] 57)=W:=⟨_,rfl⟩
 have m:Below w.heap.size w W:=by rw[<-l];exact(zq _ w).alloc (zf _) _
 have Vr:w.heap.size<W.heap.size:=by rw[<-l];simp
 have u:af W w.heap.size 57 #[.int .u64 5,.string ⟨#[112,105,110,103]⟩,.string ⟨#[117,56]⟩]:=by rw[<-l];exact af.new _ _ _
 have S:rj W W.heap.size (.slice (some ⟨w.heap.size,0,none⟩) 1 1) [eS]:=⟨_,1,rfl,by simp,by simp,fun j hj=>by
  obtain rfl:j=0:=by simp at hj;omega
  exact⟨_,_,rfl,by omega,u.cell 0,u.cell 1,u.cell 2⟩⟩
 have HN:=za (Kw fj [eS] _ W.heap.size W S (zf _) (i.below m i.pos) (by
  intro e he;obtain rfl:=y8.1 he;exact⟨by decide,by simp[eS,ByteArray.size],by simp[eS,ByteArray.size]⟩))
 have q:=za (And.intro (i.below m i.pos) (y.below m y.pos));have R:Hid (Kx w.heap.size):=za ⟨i.pos,y.pos⟩;have HW:=za l;have fE:=za m;obtain⟨O,_,_⟩:=OI C9;have Z:=za O;clear l m u S i y O;unfold fj aR.val at HN;go_enter func5,ntmps5
 go_wp2_with fail
 rw[HW.out];refine HN.out.mono ?_;rintro e n ⟨s,dB⟩;rcases dB with⟨_,b,hi,g,oX,rfl,r⟩|⟨cd,_⟩
 ·have M:=za (fE.out.trans (s.mono (by omega)));have A:=za (And.intro (q.out.1.below s q.out.1.pos) (q.out.2.below s q.out.2.pos));have RM:Hid (dt n b hi g (.slice none 0 0) fj [eS] jb.new 0):=za r;have c:Hid (Kx b):=za ⟨by have:=R.out.a;omega,by have:=R.out.b;omega⟩;have Y:w.heap.size<=b:=by omega
  have ai:b<=g:=by have:=r.lohi;have:=r.DU;omega
  have z:=za (F0 b hi g _ fj [eS] jb.new 0 ⟨#[112,105,110,103]⟩ kY n.heap.size n _ _ _ vO RM.out (M3 n _ ⟨#[7]⟩ false (by simp[ByteArray.size])) (zf _) A.out.1 A.out.2 (fun _=>by rw[vM];simp) (by rw[FW];exact⟨by decide,by decide,by decide⟩) (by omega));rw[vN]at z;simp only[zl]at z;clear s r;go_wp2_with fail
  refine z.out.mono ?_;rintro e w2 ⟨rfl,C,E⟩;have L:=za (M.out.trans (E.below M.out.size (by simp;omega)));have D:=za (BS A.out c.out E (by simp;omega));have p:=za (vK b hi g _ fj [eS] jb.new 1 ⟨#[2,5]⟩ w2 Z.out vO C D.out.1 D.out.2 c.out.a c.out.b (by decide) (by decide));rw[Qf]at p;simp only at p;have aa:=za C.tK;clear C E z;go_wp2_with fail
  refine p.out.mono ?_;rintro e w3 ⟨rv,ak,rfl,I,B,F,_⟩;have N:=za (L.out.trans (F.below L.out.size (fun k d=>zK Y (aa.out k d))));have ab:=za (BS D.out c.out F aa.out);have x:=za (vK b hi g _ fj [eS] ⟨⟨#[2,5]⟩,0,2,0⟩ 1 ⟨#[7,2]⟩ w3 Z.out vO B ab.out.1 ab.out.2 c.out.a c.out.b (by decide) (by decide));obtain⟨k,d⟩:=Qg;rw[d]at x;simp only at x;have ae:=za B.tK;obtain⟨A3,n3,nh,rfl,J,al,aj⟩:=dM.dk I;obtain rfl:n3=0:=J.out;clear B F I J d p;go_wp2_with fail
  refine x.out.mono ?_;rintro e w4 ⟨rv,ag,rfl,U,G,K,_⟩;have dT:=za (N.out.trans (K.below N.out.size (fun k d=>zK Y (ae.out k d))));obtain⟨A4,Dr,rfl,ah,an,X⟩:=wZ.reads (dM.gh U (S1:=(w3.heap.size<= ·)) (fun _ _ h=>h.1) (zf _));obtain⟨gg,o,d0,d1,d2,d3,rfl,_,e0,_,_,_,H⟩:=X.at_ 0 (by simp);obtain⟨_,_,rfl,_⟩:=H.open_;have ad:=za (C' b hi g ag fj _ _ _ w4 G);simp at e0;have hz:(⟨#[2]⟩:ByteArray).size=1:=rfl;clear U G K X H x;simp only[yF]at ah⊢;go_wp2_with fail
  refine ad.out.mono ?_;rintro e w5 ⟨rfl,rfl⟩;go_wp2;go_ret;exact⟨rfl,dT.out⟩
 exact absurd C9 cd
structure MxV (w V:World)(c:aR)(l:List bA)(v:Value)(ops:List tG)(ov:Value):Prop where
 en:rj V w.heap.size v l
 op:J' V w.heap.size ov ops
 laid:Laid V/\bj V
 siz:w.heap.size+1<=V.heap.size
 bel:Below w.heap.size w V
 cf:af V w.heap.size 24 #[.int .i64 c.fm,.int .u32 c.mg,.int .i64 c.fr,.int .i64 c.un,.int .i64 c.de,.int .i64 c.it]
theorem MxV.mk' {w W V:World}{c:aR}{l:List bA}{v:Value}{ops:List tG}{h:Value}(e:w.alloc (.cells #[.int .i64 c.fm,.int .u32 c.mg,.int .i64 c.fr,.int .i64 c.un,.int .i64 c.de,.int .i64 c.it] 24)=W)
 (m:rj w w.heap.size v l) (n:J' w w.heap.size h ops) (i:Laid w) (j:bj w) (d:Below (w.heap.size+1) W V):MxV w V c l v ops h:=by
 have hz:W.heap.size=w.heap.size+1:=by rw[<-e];simp
 have k:Below w.heap.size w W:=by rw[<-e];exact(zq _ w).alloc (zf _) _
 have o:af W w.heap.size 24 #[.int .i64 c.fm,.int .u32 c.mg,.int .i64 c.fr,.int .i64 c.un,.int .i64 c.de,.int .i64 c.it]:=by rw[<-e];exact af.new w _ _
 have b:Below w.heap.size w V:=k.trans (d.mono (by omega));exact⟨m.below b,n.below b,⟨i.below b i.pos,j.below b j.pos⟩,by have:=d.size;omega,b,o.ah d (by omega)⟩
structure rD (wr:World)(qz fk g1 qA ch g2 qL:Nat)(b1 b2:Value)(c:aR)(l:List bA)(x:jb)(aH:Nat):Prop where
 s1:dt wr qz fk g1 b1 c l x aH
 s2:dt wr qA ch g2 b2 c l x 0
 o1:∀k,b1.ownBlock=some k->qL<=k
 o2:∀k,b2.ownBlock=some k->qL<=k
 ne:∀k,b1.ownBlock=some k->b2.ownBlock≠some k
 lo:qL<=wr.heap.size
theorem rD.below {w w':World}{k e m i o g2 j:Nat}{p d:Value}{c:aR}{l:List bA}{x:jb}{n:Nat}(h:rD w k e m i o g2 j p d c l x n)(b:Below w.heap.size w w'):rD w' k e m i o g2 j p d c l x n:=
 ⟨h.s1.below b,h.s2.below b,h.o1,h.o2,h.ne,zK h.lo b.size⟩
theorem rD.send {w w':World}{m i b j n g2 d:Nat}{o q:Value}{c:aR}{l:List bA}{x:jb}{u p:Nat}(h:rD w m i b j n g2 d o q c l x u)(B:b<j)(D:n<=d)(C:b<d)(y:dt w' m i b o c l x p)(r:ae [b] w w'):rD w' m i b j n g2 d o q c l x p:=
 ⟨y,h.s2.only r (fun k s=>by
  have z:=h.s2.lohi;have A:=h.s2.DU;simp only[y8]at s;subst s;exact⟨by omega,by omega,fun e=>by have:=h.o2 _ e;omega⟩),h.o1,h.o2,h.ne,zK h.lo r.size⟩
theorem rD.afF {w w':World}{s p b i u g2 n:Nat}{m j d:Value}{c:aR}{l:List bA}{x y:jb}{q:Nat}(h:rD w s p b i u g2 n m j c l x q)(G:b<i)(F:g2<n)(D:dt w' s p b d c l y q)(z:ae (oC b m) w w')
 (r:∀k,d.ownBlock=some k->m.ownBlock=some k\/w.heap.size<=k):dt w' i u g2 j c l x 0/\(∀k,d.ownBlock=some k->n<=k)/\∀k,d.ownBlock=some k->j.ownBlock≠some k:=by
 have B:=h.s2.lohi;have C:=h.s2.DU;have E:=h.lo;refine⟨h.s2.only z (fun k A=> ?_),fun k e=> ?_,fun k e o=> ?_⟩
 ·rcases jt.1 A with rfl|e
  ·exact⟨by omega,by omega,fun e=>by have:=h.o2 _ e;omega⟩
  have:=h.o1 k e;exact⟨by omega,by omega,h.ne k e⟩
 ·rcases r k e with e1|e1
  ·exact h.o1 k e1
  omega
 rcases r k e with e1|e1
 ·exact h.ne k e1 o
 have:=(h.s2.own k o).2;omega
theorem rD.afG {h w':World}{A s o m B g2 d:Nat}{j i q:Value}{c:aR}{l:List bA}{y:jb}{u:Nat}(J:o<m)(G:g2<d)(p:dt h A s o j c l y u)(w:∀k,j.ownBlock=some k->d<=k)(x:∀k,i.ownBlock=some k->d<=k)(ne:∀k,j.ownBlock=some k->i.ownBlock≠some k)(E:d<=h.heap.size)
 (n:dt w' m B g2 q c l y 0) (r:ae (oC g2 i) h w') (z:∀k,q.ownBlock=some k->i.ownBlock=some k\/h.heap.size<=k):rD w' A s o m B g2 d j q c l y u:=by
 have F:=p.DU;have H:=n.lohi;have I:=n.DU;refine⟨p.only r (fun k D=> ?_),n,w,fun k e=> ?_,fun k e C=> ?_,zK E r.size⟩
 ·rcases jt.1 D with rfl|e
  ·exact⟨by omega,by omega,fun e=>by have:=w _ e;omega⟩
  have:=x k e;exact⟨by omega,by omega,fun b=>ne k b e⟩
 ·rcases z k e with b|b
  ·exact x k b
  omega
 rcases z k C with b|b
 ·exact ne k e b
 have:=(p.own k e).2;omega
theorem vP (c:aR)(l:List bA)(v:Value)(ops:List tG)(ov:Value)(w:World)(hc:c.ok)(hv:rj w w.heap.size v l)(hid:∀e∈l,e.id<18446744073709551616)(ho:J' w w.heap.size ov ops)(hL:Laid w)(iM:bj w):
 Calls prog 4 #[c.val,v,ov] w fun e w'=>e= .returned (.bool true)/\Below w.heap.size w w':=by
 obtain⟨Av,n,cap,rfl,hn,bl,lI⟩:=hv.dk;obtain⟨Ao,I,nh,rfl,RR,bf,bk⟩:=ho.dk;obtain⟨W,hW⟩:∃W,w.alloc (.cells #[.int .i64 c.fm,.int .u32 c.mg,.int .i64 c.fr,.int .i64 c.un,.int .i64 c.de,.int .i64 c.it] 24)=W:=⟨_,rfl⟩
 have Vr:W.heap.size=w.heap.size+1:=by rw[<-hW];simp
 have b:Hid (∀V,Below (w.heap.size+1) W V->MxV w V c l (.slice Av n cap) ops (.slice Ao I nh)):=za (fun V m=>MxV.mk' hW hv ho hL iM m);have HA:=za (TM W (b.out W (zq _ _)).laid.1 (b.out W (zq _ _)).laid.2);have aD:Hid (Kx w.heap.size):=za ⟨hL.pos,iM.pos⟩;have HW:=za hW;have HZ:=za Vr;have aZ:=za hid;have aL:=za hc;unfold aR.val;clear hv ho hL iM hW hid hc Vr;obtain⟨gr,fQ⟩:∃gr,mX l=gr:=⟨_,rfl⟩
 have Nr:=za fQ;clear fQ;go_enter func4,ntmps4
 go_wp2_with fail
 rw[HW.out];refine HA.out.mono ?_;rintro e C ⟨rfl,aI⟩;have S:Hid (Below (w.heap.size+1) W C):=za (aI.mono (by have:=HZ.out;omega));have ah:=za (MH l _ _ C (b.out C S.out).en);rw[Nr.out]at ah;clear aI HA;obtain⟨F,G,K,J,E,L⟩:=fB (b.out C S.out).cf;have y:=(b.out C S.out).siz;go_wp2_with fail
 refine ah.out.mono ?_;rintro e w' ⟨rfl,d⟩;rw[d];clear d w' ah;cases gr with
 |true=>
  go_wp2;go_ret;exact⟨rfl,(b.out C S.out).bel⟩
 |false=>
  obtain⟨a7,U7⟩:=MG Nr.out aZ.out;have aj:=za U7;clear a7 U7;have ao:=za (Mh ops _ w.heap.size C (b.out C S.out).op (by omega));obtain⟨g8,an⟩:∃g8,sC ops=g8:=⟨_,rfl⟩
  rw[an]at ao;have Vn:=za an;clear an;go_wp2_with fail
  refine ao.out.mono ?_;rintro e H ⟨rfl,aM⟩;have O:Hid (Below (w.heap.size+1) W H):=za (S.out.trans (aM.mono y));clear aM ao F G K J E L y;cases g8 with
  |true=>
   go_wp2;go_ret;exact⟨rfl,(b.out H O.out).bel⟩
  |false=>
   obtain⟨vV,oW,Na⟩:=Pm Vn.out;have T4:=za oW;have a8:=za Na;have Gl:Hid (I<=200):=za (by rw[RR.out];exact vV);clear vV oW Na;have Js:=za (IM c l _ w.heap.size H (b.out H O.out).en (by have:=(b.out H O.out).siz;omega) aj.out);obtain⟨E0,aq⟩:∃E0,oH c l=E0:=⟨_,rfl⟩
   rw[aq]at Js;have sT:=za aq;unfold aR.val at Js;clear aq;obtain⟨F,G,K,J,E,L⟩:=fB (b.out H O.out).cf;have y:=(b.out H O.out).siz;go_wp2_with fail
   refine Js.out.mono ?_;rintro e w3 ⟨rfl,bS⟩;have Y:Hid (Below (w.heap.size+1) W w3):=za (O.out.trans (bS.mono y));clear bS Js F G K J E L y;rcases eF E0 with⟨h0,z1,z2⟩|⟨h0,z1,z2⟩
   ·subst h0;obtain⟨U',_,bC⟩:=OI sT.out;have HR:=za U';have QM:Hid (∀V,Below (w.heap.size+1) W V->Calls prog 9 #[c.val,.slice Av n cap] V (UK V c l)):=za (fun V m=>Kw c l _ w.heap.size V (b.out V m).en (by have:=(b.out V m).siz;omega) (b.out V m).laid.1 aj.out);unfold aR.val at QM;clear U' bC;obtain⟨F,G,K,J,E,L⟩:=fB (b.out w3 Y.out).cf;have y:=(b.out w3 Y.out).siz;go_wp2_with fail
    refine(QM.out w3 Y.out).mono ?_;rintro e w4 ⟨bP,dB⟩;have dT:Hid (Below (w.heap.size+1) W w4):=za (Y.out.trans (bP.mono y));rcases dB with⟨_,u,r,g1,a',rfl,KH⟩|⟨cd,_⟩
    ·have B5:=KH.lohi;have BV:=KH.DU;have R9:=KH.lt;have gp:Hid (w.heap.size+1<=u/\u<=r/\r<=g1/\g1<w4.heap.size):=za ⟨by omega,B5,BV,R9⟩;have QX:=za KH;clear bP KH B5 BV R9 a' F G K J E L y;obtain⟨F,G,K,J,E,L⟩:=fB (b.out w4 dT.out).cf;have y:=(b.out w4 dT.out).siz;go_wp2_with fail
     refine(QM.out w4 dT.out).mono ?_;rintro e w5 ⟨jj,dB⟩;have gJ:Hid (Below (w.heap.size+1) W w5):=za (dT.out.trans (jj.mono y));rcases dB with⟨_,A,z,g2,a1,rfl,aa⟩|⟨cd,_⟩
     ·have B5:=aa.lohi;have BV:=aa.DU;have R9:=aa.lt;obtain⟨R,XZ⟩:∃R,w5.heap.size=R:=⟨_,rfl⟩
      have q:Hid (w.heap.size+1<=u/\u<=r/\r<=g1/\g1<A/\A<=z/\z<=g2/\g2<R):=za (by have:=gp.out;omega);have KP:Hid (rD w5 u r g1 A z g2 R (.slice none 0 0) (.slice none 0 0) c l jb.new 0):=za ⟨QX.out.below jj,aa,(fun k e=>by cases e),(fun k e=>by cases e),(fun k e=>by cases e),by omega⟩;have aO:=za (fun lo hi g bv x h (bc:ByteArray) V (Z:dt V lo hi g bv c l x h) (oX:w.heap.size+1<=lo) m h1 h2=>vK lo hi g bv c l x h bc V HR.out aL.out Z (b.out V m).laid.1 (b.out V m).laid.2 (by have:=aD.out.1;omega) (by have:=aD.out.2;omega) h1 h2);have ba:=za (fun bv x h nm it V c0 c1 c2 (Z:dt V u r g1 bv c l x h) (hI:bZ V w.heap.size it c0 c1 c2) m h1 h2 h3=>F0 u r g1 bv c l x h nm it w.heap.size V c0 c1 c2 aL.out Z hI (by have:=(b.out V m).siz;omega) (b.out V m).laid.1 (b.out V m).laid.2 h1 h2 h3);clear jj aa B5 BV R9 a1 XZ QM QX gp F G K J E L y;go_wp2_with fail
      go_loopw [11] (fun iv wr=>∃(k:Nat) (x:jb) (U B:Value) (h:Nat),iv= .int .i64 k/\k<=I/\Hid (rD wr u r g1 A z g2 R U B c l x h)/\x.buf.size<=ea (ops.take k)/\x.told<=4000*k/\h<=k/\Hid (Below (w.heap.size+1) W wr)) (fun iv _=>I-(intOf iv).toNat)
      case atStart=>exact⟨0,jb.new,_,_,0,rfl,by omega,KP,by simp[jb.new],by simp[jb.new],by omega,gJ⟩
      case round=>
       clear KP gJ;obtain⟨k,x,U,B,h,rfl,hk,s,bz,Qp,br,D⟩:=hrel;by_cases aC:k<I
       ·have pe:(k:Int)<I:=by omega
        have k9:k<ops.length:=by rw[<-RR.out];exact aC
        have Xf:k<200:=by have:=Gl.out;omega
        obtain⟨g,o,c0,c1,c2,rfl,hg,e0,e1,e2,e3,e4,e5,hi⟩:=(b.out wr D.out).op.at_ k9;obtain⟨UQ,Sa⟩:=T4.out _ (zM k9);have Dt:=Fh k9;have lY:=Mg ops (k+1);have bt:=a8.out;obtain⟨p,hp⟩:∃p,ops[k]=p:=⟨_,rfl⟩
        rw[hp]at e0 e1 e2 hi UQ Sa Dt;obtain⟨bb,text,name,it⟩:=p;simp only at e0 e1 e2 hi UQ Sa Dt;have au:=za Sa;have aw:=(b.out wr D.out).siz;have lT:=lt_of_cell e0;clear hp Sa;cases bb with
        |false=>
         have GD:=za hi;have aG:=za (ba.out U x h name it wr c0 c1 c2 s.out.s1 hi D.out (fun _=>by have:=Bv it au.out;omega) (FX aj.out (by have:=rT it au.out;omega) (by have:=Bv it au.out;omega)) (by omega));obtain⟨Ax,jO,rfl,rfl,rfl,_⟩:=hi.open_;clear hi;go_wp2_with fail
         refine aG.out.mono ?_;rintro e w6 ⟨rfl,aJ,wK⟩;have wM:Hid (Below (w.heap.size+1) W w6):=za (D.out.trans (wK.below aw (fun i hi=>by simp only[y8]at hi;have:=q.out;omega)));have KQ:=za (s.out.send (by have:=q.out;omega) (by have:=q.out;omega) (by have:=q.out;omega) aJ wK);have Sf:(if(cT c l name it).2=0 then h+1 else h)<=k+1:=by split<;>omega
         generalize (if(cT c l name it).2=0 then h+1 else h)=Lb at*;clear aJ wK aG s;go_wp2;go_roundw
         case rel=>exact⟨k+1,x,U,B,Lb,by go_num,by omega,KQ,by omega,by omega,Sf,wM⟩
         case measure=>simp[intOf];omega
        |true=>
         have Uj:=za (aO.out u r g1 U x h text wr s.out.s1 (by have:=q.out;omega) D.out (by omega) (by omega));have af:=I4 c l x text;have aE:=Qd (aY c l) x text;have Xm:=fun V (Z:dt V A z g2 B c l x 0) (m:Below (w.heap.size+1) W V)=>aO.out A z g2 B x 0 text V Z (by have:=q.out;omega) m (by omega) (by omega)
         obtain⟨X,hX⟩:∃X,DW (aY c l) x text=X:=⟨_,rfl⟩
         rw[hX]at Uj af aE;simp only[hX]at Xm;obtain⟨ab,fs,er⟩:=X;simp only at Uj af aE Xm;have TY:=za Xm;clear hX hi Xm;go_wp2_with fail
         refine Uj.out.mono ?_;rintro e M ⟨bh,ak,rfl,M9,TU,N,VC⟩;obtain⟨Aa,na,bw,rfl,bo,bn,bu⟩:=M9.dk;have av:=s.out.s1.tK;have al:Hid (Below (w.heap.size+1) W M):=za (D.out.trans (N.below aw (fun i hi=>by have:=av i hi;have:=q.out;omega)));obtain⟨t2,t3,t4⟩:=s.out.afF (by have:=q.out;omega) (by have:=q.out;omega) TU N VC;have ay:=za (TY.out M t2 al.out);have Jg:=za t2;have Gk:=za t3;have aB:=za t4;have Qy:=za s.out.o2;have ag:=za M9;have aQ:=za TU;have Jp:Hid (R<=M.heap.size):=za (zK s.out.lo N.size);have Du:Hid (∀j,j∈oC g2 B->j<wr.heap.size):=za (fun j hj=>(s.out.s2.JW j hj).2);have f1:M.cell? ⟨g,o+k*6+1,none⟩=some (.string text):=by
          refine(N.cell (p:=⟨g,_,none⟩) (by simpa using lT) (fun hm=> ?_)).trans e1;have:=av g hm;have:=q.out;omega
         have bg:g<M.heap.size:=by have:=N.size;omega
         clear M9 TU N VC t2 t3 t4 Uj TY av e0 e1 e2 e3 e4 e5;go_wp2_with fail
         refine ay.out.mono ?_;rintro e wb ⟨bs,ar,rfl,ai,aT,ae,VD⟩;obtain⟨Ab,nb,bq,rfl,bm,bp,bd⟩:=ai.dk;have aW:=za (rD.afG (by have:=q.out;omega) (by have:=q.out;omega) aQ.out Gk.out Qy.out aB.out Jp.out aT ae VD);have aA:=(b.out M al.out).siz;have Ca:Hid (Below (w.heap.size+1) W wb):=za (al.out.trans (ae.below aA (fun i hi=>by have:=Jg.out.tK i hi;have:=q.out;omega)));have aP:=ag.out.only ae (fun i hi hS=>by have:=Du.out i hi;have:=hS.1;omega) (fun i hi e=>by have:=Du.out i hi;have:=(ag.out.ge i e).1;omega);have aX:=za (FY fs _ _ _ _ _ _ wb aP ai);clear aP ai aT ae VD ay Jg ag aQ Qy Gk aB Du f1 aA;go_wp2_with fail
         refine aX.out.mono ?_;rintro e wc ⟨rfl,AH⟩;have ad:=za (aW.out.below AH);have aK:=(b.out wb Ca.out).siz;have a6:Hid (Below (w.heap.size+1) W wc):=za (Ca.out.trans (AH.mono aK));have az:=za (EX u r g1 ak c l ab h wc ad.out.s1);have aN:=za (EX A z g2 ar c l ab 0 wc ad.out.s2);have ax:=za (su u r g1 ak c l ab h wc ad.out.s1);have aF:=za (su A z g2 ar c l ab 0 wc ad.out.s2);clear AH aX aW Ca aK;go_wp2_with fail
         refine az.out.mono ?_;rintro e w' ⟨rfl,d⟩;rw[<-d];clear d w' az;go_wp2_with fail
         refine aN.out.mono ?_;rintro e w' ⟨rfl,d⟩;rw[<-d];clear d w' aN;go_wp2_with fail
         refine ax.out.mono ?_;rintro e w' ⟨rfl,d⟩;rw[<-d];clear d w' ax;go_wp2_with fail
         refine aF.out.mono ?_;rintro e w' ⟨rfl,d⟩;rw[<-d];clear d w' aF;go_wp2;go_roundw
         case rel=>exact⟨k+1,ab,ak,ar,h,by go_num,by omega,ad,by have:=af.1;omega,by have:=af.2;omega,by omega,a6⟩
         case measure=>simp[intOf];omega
       have pe:¬(k:Int)<I:=by omega
       have aU:=za (FZ u r g1 U c l x h wr s.out.s1);have aS:=za (FZ A z g2 B c l x 0 wr s.out.s2);have aV:=za (Qe A z g2 B c l x 0 wr s.out.s2);go_wp2_with fail
       refine aU.out.mono ?_;rintro e w' ⟨rfl,d⟩;rw[<-d];clear d w' aU;go_wp2_with fail
       refine aS.out.mono ?_;rintro e w' ⟨rfl,d⟩;rw[<-d];clear d w' aS;go_wp2_with fail
       refine aV.out.mono ?_;rintro e w' ⟨rfl,d⟩;rw[<-d];clear d w' aV;go_wp2;go_ret;exact⟨rfl,(b.out wr D.out).bel⟩
     exact absurd sT.out cd
    exact absurd sT.out cd
   go_wp2;go_ret;exact⟨rfl,(b.out w3 Y.out).bel⟩
theorem vQ (c:aR)(l:List bA)(u:Value)(ops:List tG)(b:Value)(W:World)(i:c.ok)(h:rj W W.heap.size u l/\∀e∈l,vC e)(k:J' W W.heap.size b ops)(d:Laid W/\bj W):
 Calls prog 4 #[c.val,u,b] W fun e w'=>e= .returned (.bool true)/\Below W.heap.size W w':=
 vP c l u ops b W i h.1 (fun e j=>(h.2 e j).id) k d.1 d.2
open Go.ChangeShapes Go.WideShapes Go.ChangeAt Go.RowKit
theorem vR :prog.cellsOf 51=6:=by kernel_rfl
theorem Aq :prog.cellsOf 4=1:=by kernel_rfl
theorem Da :prog.cellsOf 9=1:=by kernel_rfl
theorem BT {w:World}{base:Nat}{a:Addr}{l:List Value}(h:w.cells? base a 6=some l):∃d c j k b i,l= [d,c,j,k,b,i]/\w.cell? a=some d/\w.cell? (a.add 1)=some c/\w.cell? (a.add 2)=some j/\w.cell? (a.add 3)=some k/\w.cell? (a.add 4)=some b/\w.cell? (a.add 5)=some i:=by
 unfold World.cells? at h;split at h
 ·have e:List.range 6= [0,1,2,3,4,5]:=rfl;rw[e]at h;simp only[List.mapM_cons,List.mapM_nil,Option.bind_eq_bind,Option.pure_def,xu]at h;obtain⟨d,x,F,⟨c,z,E,⟨j,u,D,⟨k,y,A,⟨b,r,B,⟨i,s,C,o,k1⟩,k2⟩,n⟩,p⟩,q⟩,m⟩:=h;simp at o k1 k2 n p q m;subst o;subst k1;subst k2;subst n;subst p;subst q;subst m;exact⟨d,c,j,k,b,i,rfl,by simpa[Addr.add]using x,z,u,y,r,s⟩
 cases h
theorem TN {H:Type}{enc:TypeId×Value->H}{w:World}{base:Nat}{spare:Nat->Bool}{held:Bool}(s:Nat)(k:List Value)(x:DataW H×List MemPlace)(h:DataW.trod enc prog w base spare held s 51 k=some x):
 ∃(f:tG) (c b d:Value),k= [.bool f.feed,.string f.text,.string f.name,c,b,d]/\bZ w w.heap.size f.x c b d:=by
 obtain⟨xs,n,rfl,_,q,u,l⟩:=ZC underlying51 h;rw[vR]at q;match k,q with
 | [c,b,d,c3,c4,c5],_=>
  have e:DataW.trod enc prog w base spare held n 4 ((([c,b,d,c3,c4,c5]:List Value).drop 0).take (prog.cellsOf 4))=xs[0]?:=l 0 _ rfl;have i:DataW.trod enc prog w base spare held n 9 ((([c,b,d,c3,c4,c5]:List Value).drop 1).take (prog.cellsOf 9))=xs[1]?:=l 1 _ rfl;have j:DataW.trod enc prog w base spare held n 30 ((([c,b,d,c3,c4,c5]:List Value).drop 2).take (prog.cellsOf 30))=xs[2]?:=l 2 _ rfl;have z:xs.length=3:=u;rw[zB (by omega)]at e i j;rw[Aq]at e;rw[Da]at i;rw[sK]at j;simp only[zQ,zR,yB,yf]at e i j;obtain⟨i0,o,_⟩:=DataW.trod_bool underlying4 e;obtain⟨t1,p,_,_⟩:=ZD zO i;obtain⟨nm,y,d0,d1,d2,m,_,r⟩:=P4 _ _ _ j;simp at o p m;obtain⟨rfl,rfl,rfl,rfl⟩:=m;subst o;subst p;exact⟨⟨i0,t1,nm,y⟩,_,_,_,rfl,r⟩
theorem Qh {H:Type}{enc:TypeId×Value->H}{w:World}{base:Nat}{spare:Nat->Bool}{held:Bool}(O:Nat)(A:List Value)(x:DataW H×List MemPlace)(h:DataW.trod enc prog w base spare held O 48 A=some x):
 ∃(l:List tG) (v:Value),A= [v]/\J' w w.heap.size v l:=by
 rcases DataW.trod_slice underlying48 h with⟨p,_⟩|⟨a,len,cap,W,rest,m,rfl,p,_,S,N,M,X,E,_,_⟩
 ·exact⟨[],_,p,none,0,rfl,by simp,by simp,fun j r=>by simp at r⟩
 have key:∀i,i<len->∃y:tG,a.spot=none/\∃n e o,w.cell? ⟨a.block,a.off+i*6,none⟩=some (.bool y.feed)/\w.cell? ⟨a.block,a.off+i*6+1,none⟩=some (.string y.text)/\w.cell? ⟨a.block,a.off+i*6+2,none⟩=some (.string y.name)/\
  w.cell? ⟨a.block,a.off+i*6+3,none⟩=some n/\w.cell? ⟨a.block,a.off+i*6+4,none⟩=some e/\w.cell? ⟨a.block,a.off+i*6+5,none⟩=some o/\bZ w w.heap.size y.x n e o:=by
  have first:∀i,i<len->∃c,w.cells? base (a.add (i*6)) 6=some c/\∃z,DataW.trod enc prog w base spare held m 51 c=some z:=by
   intro i hi;have u:=E i hi;rw[vR,zB (by omega)]at u;rw[xu]at u;obtain⟨c,d,b⟩:=u;exact⟨c,d,_,b⟩
  have k:0<len->a.spot=none:=by
   intro K;obtain⟨c,d,_⟩:=first 0 K
   obtain⟨d0,_,_,_,_,_,_,b,_⟩:=BT d;have b:w.cell? a=some d0:=by simpa[Addr.add]using b
   exact JX b
  intro i hi;obtain⟨c,d,z,b⟩:=first i hi
  obtain⟨d0,d1,d2,d3,d4,d5,rfl,g0,g1,g2,g3,g4,g5⟩:=BT d;obtain⟨y,U,k1,k2,C,G⟩:=TN m _ _ b;simp at C;obtain⟨rfl,rfl,rfl,rfl,rfl,rfl⟩:=C;have q:=k (by omega);have D:∀j,(a.add (i*6)).add j=⟨a.block,a.off+i*6+j,none⟩:=by
   intro j;obtain⟨I,R,F⟩:=a;simp only at q;subst q;unfold Addr.add;split<;>split<;>simp_all
  have B:=D 0;rw[show(a.add (i*6)).add 0=a.add (i*6)from by simp[Addr.add]]at B;rw[B]at g0;rw[D]at g1 g2 g3 g4 g5;exact⟨y,q,_,_,_,g0,g1,g2,g3,g4,g5,G⟩
 obtain⟨s,J,L⟩:=mM _ len key;subst J;refine⟨s,_,p,some a,cap,rfl,N,by simpa[maxLen]using M,fun j r=> ?_⟩;obtain⟨k,n,e,o,g0,g1,g2,g3,g4,g5,hi⟩:=L j r;refine⟨a.block,a.off,n,e,o, ?_,(by have:=JY g0;simpa using this),by simpa using g0,by simpa using g1,by simpa using g2,by simpa using g3,by simpa using g4,by simpa using g5,hi⟩;obtain⟨I,R,F⟩:=a;simp only at k;subst k;rfl
theorem M7 {H:Type}{enc:TypeId×Value->H}{w:World}{base k:Nat}{r:Reach}{spare:Nat->Bool}{held:Bool}{v:Value}{d:DataW H}{h:List MemPlace}(j:Value.okWide prog w r k 48 v)(hd:DataW.Trod enc prog w base spare held 48 v d h):
 ∃(l:List tG) (u:Value),v=u/\J' w w.heap.size u l:=by
 obtain⟨A,n,cap,rfl⟩:=okWide_slice underlying48 j;obtain⟨i,e⟩:=hd;obtain⟨l,u,b,c⟩:=Qh i _ _ e;simp[Value.cells]at b;subst b;exact⟨l,_,rfl,c⟩
