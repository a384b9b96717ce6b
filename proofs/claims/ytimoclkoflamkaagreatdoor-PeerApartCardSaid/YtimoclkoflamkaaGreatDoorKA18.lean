/- layout.Next, layout.Get. -/
import Derived.Test.YtimoclkoflamkaaGreatDoorKA16
import Derived.Test.YtimoclkoflamkaaGreatDoorKA17
set_option linter.all false
set_option maxRecDepth 100000
set_option maxHeartbeats 4000000
open Go.Proofs.Tryz
namespace Go.Proofs.YtimoclkoflamkaaGreatDoor
open Go.RowKit
theorem agE (g:Nat)(s:ByteArray)(k:Nat)(f:Int)(w:World)(h:iL w g s k f):
 Calls prog 165 #[(g,0)] w fun e w'=>e= .returned k/\w=w':=by
 have b:=h.cell 1;simp at b;clear h;go_enter func165,ntmps165
 go_wp2;go_ret;exact⟨rfl,rfl⟩
def acn (w w':World)(R:Int×It×Nat)(e:Ending):Prop:=
 (w,w')/\∃d0 d1 d2,e= .returned (.tuple #[.agg #[d0,d1,d2],R.2.2,R.1])/\fR w' (w.heap.size<= ·) R.2.1 d0 d1 d2
theorem ju.fresh {V:World}{s:ByteArray}{m:Int}{g:Nat}(b:V.heap.size=g):ju (((V.alloc (.cells #[s,(0:Int),(0:Int)] 234)).alloc (.cells #[(g,0)] 191)).alloc (.cells #[m] 3)) g (g+1+1) (g+1) s 0 0 m:=
 ⟨(ag.alloc (ag.at_ b) _).alloc _,ag.at_ (by simp[b]),ag.alloc (ag.at_ (by simp[b])) _⟩
theorem Qs (ty:Ty)(s:ByteArray)(M:Int)(B:Nat)(w:World)(F C N t3:Value)(hT:cq w B ty F C N t3)(hB:B<=w.heap.size)(hL:Laid w)(iY:ba w)(hs:s.size<=1099511627776):
 Calls prog 122 #[.agg #[F,C,N,t3],s,M] w fun e w'=>acn w w' (dh ty s M) e:=by
 obtain⟨W,hW⟩:∃W,(w.alloc (.cells #[F,C,N,t3] 70)).alloc (.cells #[eS,false,nS] 28)=W:=⟨_,rfl⟩
 obtain⟨hz,r,p,j⟩:=acd hW;have NV:=hT.below (r.mono hB);have hp:=hL.pos;have aq:=iY.pos;have HF:=za (Je ty B W F C N t3 NV (by omega) (hL.below r hp));have G9:=za NV;have DL:=za (iY.below r aq);have H4:=za p;have G:=za j;have HB:=za r;have o:=za hz;have HW:=za hW;obtain⟨q0,q1,q2,q3,_⟩:=aU p;obtain⟨A,cap,rfl,rfl,rfl,rfl,_⟩:=hT.open_;have n:Hid (dh ty s M=if ty.flat=false then(1,kx,0)else if(oo ty s M).e≠0 then((oo ty s M).e,kx,0)else(0,(oo ty s M).x,s.size-(oo ty s M).q.length)):=za rfl;have ar:=za (fun h=>jE (t:=ty) h);generalize dh ty s M=ai at*;clear hT NV hL iY p j r hz hW;go_enter func122,ntmps122
 go_wp2_with fail
 rw[HW.out];refine HF.out.mono ?_;rintro e b ⟨rfl,m⟩;have p:=H4.out.ah m (by have:=o.out;omega);have j:=G.out.ah m (by have:=o.out;omega);have al:=za (DL.out.below m (by have:=o.out;omega));have ao:=za (G9.out.below (m.mono (by have:=o.out;omega)));have cw:w.heap.size+2<=b.heap.size:=by have:=m.size;have:=o.out;omega
 have iB:Hid (w,b):=za (HB.out.trans (m.mono (by have:=o.out;omega)));have J:=za j;clear q0 q1 q2 q3 m;obtain⟨q0,q1,q2,q3,_⟩:=aU p;obtain⟨S,R,D,O,z,K⟩:=bp j;clear p j;cases mA:ty.flat with
 |false=>
  rw[mA,zj rfl]at n;obtain⟨y0,y1,y2⟩:=fp J.out eS false nS;go_wp2;refine zl (v:= .tuple #[.agg #[eS,false,nS],(0:Int),(1:Int)]) (by simp[results,results122,go_sem,y0,y1,y2]) rfl ?_;rw[n.out];exact⟨(((iB.out.setCell (by simp) _).setCell (by simp) _).setCell (by simp) _),_,_,_,rfl,nh _ _⟩
 |true=>
  rw[mA,zi (by simp)]at n;obtain⟨_,hr,_,_,_⟩:=ar.out mA;obtain⟨k,q⟩:∃k,(((b.alloc (.cells #[s,(0:Int),(0:Int)] 234)).alloc (.cells #[(b.heap.size,0)] 191)).alloc (.cells #[.int .i64 (min M 1024)] 3)).alloc (.cells (jW b.heap.size (b.heap.size+1+1) (b.heap.size+1)) 223)=k:=⟨_,rfl⟩
  have U:Below b.heap.size b k:=by rw[<-q];exact bO
  have l:ju k b.heap.size (b.heap.size+1+1) (b.heap.size+1) s 0 0 (min M 1024-(0:Nat)):=by
   rw[<-q,show(min M 1024-((0:Nat):Int))=min M 1024 from by simp];exact(ju.fresh (V:=b) rfl).below ((zm _ _).alloc (zd _) _)
  have H:k.heap.size=b.heap.size+4:=by rw[<-q];simp
  have I:=za (TX ty B k _ _ _ _ b.heap.size (b.heap.size+1+1) (b.heap.size+1) s 0 0 (min M 1024) (ao.out.below (U.mono (by omega))) (by omega) (by omega) (by omega) hr l (by omega) hs (by omega) (al.out.below U (by omega)) (by omega) (by omega));rw[zL]at I;change Hid (Calls _ _ _ _ fun e w'=>gM k _ _ _ s (min M 1024) (oo ty s M) e w')at I
  have au:=za H;have ey:=za U;have wW:=za q;unfold jk at I;unfold jW at wW;have ay:w.heap.size<b.heap.size:=by omega
  have AX:w.heap.size<b.heap.size+1:=by omega
  have av:w.heap.size<b.heap.size+1+1:=by omega
  have aw:w.heap.size<b.heap.size+1+1+1:=by omega
  clear l U q H;generalize oo ty s M=L at*;go_wp2_with fail
  refine(rS s b).mono ?_;rintro e w' ⟨rfl,rfl⟩;go_wp2_with fail
  rw[wW.out];refine I.out.mono ?_;rintro e c ⟨X,c0,c1,c2,Y,m',rfl,hX,l,ho,wS,iP⟩;obtain⟨d,bx,rfl,rfl,rfl,_⟩:=hX.open_;have H:=au.out;have ad:Below b.heap.size k c:=ho.below (by omega) (by simp;omega);have j:=(J.out.ah ey.out (by omega)).ah ad (by omega);have Bc:Hid (w,c):=za (iB.out.trans ((ey.out.trans ad).mono (by omega)));have HX:=za (hX.ef (S':=(w.heap.size+2<= ·)) (fun _ _ h=>by omega));have E:=za l;have UJ:=za iP;have G:=za j;have r0:c.cell? (b.heap.size+1,0)=some (.pointer (some (b.heap.size,0))):=l.box.cell 0;have an:=l.box.lt;have ak:w.heap.size+1<c.heap.size:=j.lt;clear S R D O z K q0 q1 q2 q3 hX l ho iP ad H;obtain⟨S,R,D,O,z,K⟩:=bp j;clear j;go_wp2_with fail
  refine(bs b.heap.size s Y L.e _ (E.out.rdr.alloc _)).mono ?_;rintro e w' ⟨rfl,rfl⟩;by_cases x:L.e=0
  ·have ah:(L.e !=0)=false:=by simp[x]
   have aj:=za (ag.new c 28 #[X.text,X.list,.slice d X.sub.length bx]);have u:=za ((zm c.heap.size c).alloc (zd _) (.cells #[X.text,X.list,.slice d X.sub.length bx] 28));generalize fu:c.alloc (.cells #[X.text,X.list,.slice d X.sub.length bx] 28)=i at*;have HK:Hid (∀V:World,i.heap[c.heap.size]?=V.heap[c.heap.size]?/\i.heap[b.heap.size+1]?=V.heap[b.heap.size+1]?->(V,c.heap.size,0,X.text)/\(V,c.heap.size,1,X.list)/\(V,c.heap.size,2,Value.slice d X.sub.length bx)/\(V,b.heap.size+1,0,b.heap.size,0)):=za (fun V Z=>by
    have h1:ag V c.heap.size 28 #[X.text,X.list,.slice d X.sub.length bx]:=Z.1.symm.trans aj.out;have h2:ag V (b.heap.size+1) 191 #[(b.heap.size,0)]:=Z.2.symm.trans ((u.out.block _ an).trans E.out.box);exact⟨h1.cell 0,h1.cell 1,h1.cell 2,h2.cell 0⟩)
   have ab:=G.out.ah u.out ak;have J:=za ab;clear S R D O z K;obtain⟨S,R,D,O,z,K⟩:=bp ab;have Cq:=za (agE b.heap.size s Y L.e i.drew (ag.drew ((u.out.block _ E.out.rdr.lt).trans E.out.rdr)));clear ab;go_wp2_with fail
   refine aK 5 (fun V=>(V,c.heap.size,0,X.text)/\(V,c.heap.size,1,X.list)/\(V,c.heap.size,2,Value.slice d X.sub.length bx)/\(V,b.heap.size+1,0,b.heap.size,0)) (by kernel_rfl) (by kernel_rfl) ?_;have hHeld:=HK.out i.drew ⟨rfl,rfl⟩;refine GT.jM [0,1] hHeld (fun _ _ _ _ _ h=>h) (by kernel_rfl) ?_;repeat(refine .c rfl rfl (fun V Z=>by go_simp<;>with_reducible rfl) ?_;simp only[Act.put,zb,ze,zg])
   refine .nil ?_;refine GT.gw 2 (fun af y=> ?_) rfl (by kernel_rfl);go_simp;refine Cq.out.mono ?_;rintro e w' ⟨rfl,rfl⟩;go_wp2_with fail
   refine y.out _ _ (HK.out i.drew ⟨rfl,rfl⟩) (fun hHeld=> ?_);clear y af;try simp only[Act.put,zb,ze,zg]
   refine GT.gw 3 (fun af y=> ?_) rfl (by kernel_rfl);go_simp;have oQ:i.heap[c.heap.size]?=(((i.drew.setCell (w.heap.size+1,0) X.text).setCell (w.heap.size+1,1) X.list).setCell (w.heap.size+1,2) (.slice d X.sub.length bx)).heap[c.heap.size]?/\i.heap[b.heap.size+1]?=(((i.drew.setCell (w.heap.size+1,0) X.text).setCell (w.heap.size+1,1) X.list).setCell (w.heap.size+1,2) (.slice d X.sub.length bx)).heap[b.heap.size+1]?:=by
    rw[zS _ _ _ _ (by simp;omega),zS _ _ _ _ (by simp;omega),zS _ _ _ _ (by simp;omega),zS _ _ _ _ (by simp;omega),zS _ _ _ _ (by simp;omega),zS _ _ _ _ (by simp;omega)];exact⟨rfl,rfl⟩
   refine y.out _ _ (HK.out _ oQ) (fun hHeld=> ?_);clear y af;try simp only[Act.put,zb,ze,zg]
   refine GT.jM [4] hHeld (fun _ _ _ _ _ h=>h) (by kernel_rfl) ?_;refine .c rfl rfl (fun V Z=>by go_simp<;>with_reducible rfl) ?_;simp only[Act.put,zb,ze,zg];refine .nil ?_;refine GT.pF 5 ?_ rfl (by kernel_rfl);go_simp;obtain⟨y0,y1,y2⟩:=fp J.out X.text X.list (.slice d X.sub.length bx);rw[zi (by simp[x])]at n;obtain⟨g1,g2,g3⟩:=UJ.out x;have Wb:Hid (ai=(0,X,Y)):=za (by rw[n.out,g1,g2,zP,aa];congr 2;omega);clear oQ;go_wp2;refine zl (v:= .tuple #[.agg #[X.text,X.list,.slice d X.sub.length bx],Y,(0:Int)]) (by simp[results,results122,go_sem,y0,y1,y2]) rfl ?_;rw[Wb.out];have gZ:Below w.heap.size w i:=Bc.out.trans (u.out.mono Bc.out.size);exact⟨(((gZ.setCell (by simp) _).setCell (by simp) _).setCell (by simp) _).drew,_,_,_,rfl,(HX.out.below u.out).only (L:= [w.heap.size+1]) ((((ae.refl _ i).setCell (by simp) _).setCell (by simp) _).setCell (by simp) _).drew (by simp) (fun _ _ h=>by omega)⟩
  have ah:(L.e !=0)=true:=yN.2 x;rw[zj x]at n;obtain⟨d0,d1,d2,_⟩:=bp ((gS G.out eS false nS).alloc (.cells #[X.text,X.list,.slice d X.sub.length bx] 28));go_wp2;refine zl (v:= .tuple #[.agg #[eS,false,nS],(0:Int),L.e]) (by simp[results,results122,go_sem,d0,d1,d2]) rfl ?_;rw[n.out];exact⟨((((Bc.out.setCell (by simp) _).setCell (by simp) _).setCell (by simp) _).alloc (by simp[World.setCell]<;>omega) _),_,_,_,rfl,nh _ _⟩
theorem TZ (ty:Ty)(s:ByteArray)(M:Int)(B:Nat)(w:World)(i l k t3:Value)(q:cq w B ty i l k t3)(hB:B<=w.heap.size)(z:Laid w)(C:ba w)(Y:s.size<=1099511627776):
 Calls prog 82 #[.agg #[i,l,k,t3],s,M] w fun e w'=>vI w w' (jD ty s M).2 (jD ty s M).1 e:=by
 obtain⟨W,p⟩:∃W,(w.alloc (.cells #[i,l,k,t3] 70)).alloc (.cells #[eS,false,nS] 28)=W:=⟨_,rfl⟩
 obtain⟨hz,d,D,c⟩:=acd p;have I:=q.below (d.mono hB);have HN:=za (Qs ty s M B W i l k t3 I (by omega) (z.below d z.pos) (C.below d C.pos) Y);have S:=za c;have Z:=za d;have u:=za hz;have R:=za p;obtain⟨q0,O,U,q3,_⟩:=aU D;obtain⟨A,cap,rfl,rfl,rfl,rfl,_⟩:=q.open_;have b:Hid (jD ty s M=if(dh ty s M).1≠0 then((dh ty s M).1,kx)else if(dh ty s M).2.2<s.size then(3,kx)else(0,(dh ty s M).2.1)):=za rfl;generalize jD ty s M=aa at*;generalize dh ty s M=N at*;obtain⟨E,X,n⟩:=N;clear q I D c d hz p;simp only at b;go_enter func82,ntmps82
 go_wp2_with fail
 rw[R.out];refine HN.out.mono ?_;rintro e x ⟨o,d0,d1,d2,rfl,m⟩;simp only at m⊢;obtain⟨j,bx,rfl,rfl,rfl,_⟩:=m.open_;have c:=S.out.ah o (by have:=u.out;omega);have HX:=za (m.ef (S':=(w.heap.size+2<= ·)) (fun _ _ h=>by have:=u.out;omega));have r:Hid (w,x):=za (Z.out.trans (o.mono (by have:=u.out;omega)));have pA:w.heap.size+1<x.heap.size:=c.lt;have H:=za c;clear q0 O U q3 o m;obtain⟨p0,p1,p2,Ej,Ei,Eh⟩:=bp c;clear c;obtain⟨J,G,K,_⟩:=bp ((gS H.out eS false nS).alloc (.cells #[X.text,X.list,.slice j X.sub.length bx] 28));obtain⟨y0,y1,y2,_⟩:=bp ((gS H.out X.text X.list (.slice j X.sub.length bx)).alloc (.cells #[X.text,X.list,.slice j X.sub.length bx] 28));rcases eN E with⟨y,k1,k2⟩|⟨y,k1,k2⟩
 ·subst y;rw[zi (by simp)]at b;by_cases F:n<s.size
  ·rw[zj F]at b;go_wp2;refine zl (v:= .tuple #[.agg #[eS,false,nS],(3:Int)]) (by simp[results,results82,go_sem,J,G,K]) rfl ?_;rw[b.out];exact⟨((((r.out.setCell (by simp) _).setCell (by simp) _).setCell (by simp) _).alloc (by simp[World.setCell]<;>omega) _),_,_,_,rfl,nh _ _⟩
  rw[zi F]at b;go_wp2;refine zl (v:= .tuple #[.agg #[X.text,X.list,.slice j X.sub.length bx],(0:Int)]) (by simp[results,results82,go_sem,y0,y1,y2]) rfl ?_;rw[b.out];exact⟨((((r.out.setCell (by simp) _).setCell (by simp) _).setCell (by simp) _).alloc (by simp[World.setCell]<;>omega) _),_,_,_,rfl,HX.out.only (L:= [w.heap.size+1]) (((((ae.refl _ x).setCell (by simp) _).setCell (by simp) _).setCell (by simp) _).alloc _) (by simp) (fun _ _ h=>by omega)⟩
 rw[zj y]at b;go_wp2;refine zl (v:= .tuple #[.agg #[eS,false,nS],E]) (by simp[results,results82,go_sem,J,G,K]) rfl ?_;rw[b.out];exact⟨((((r.out.setCell (by simp) _).setCell (by simp) _).setCell (by simp) _).alloc (by simp[World.setCell]<;>omega) _),_,_,_,rfl,nh _ _⟩
