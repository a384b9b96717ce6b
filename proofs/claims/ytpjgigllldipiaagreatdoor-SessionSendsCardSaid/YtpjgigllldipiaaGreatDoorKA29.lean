/- layout.Next, layout.Get. -/
import Derived.Test.YtpjgigllldipiaaGreatDoorKA27
import Derived.Test.YtpjgigllldipiaaGreatDoorKA28
set_option linter.all false
set_option maxRecDepth 100000
set_option maxHeartbeats 4000000
namespace Go.Proofs.YtpjgigllldipiaaGreatDoor
open Go.RowKit
theorem afO (g:Nat)(s:ByteArray)(k:Nat)(f:Int)(w:World)(h:iO w g s k f):
 Calls Tryz.prog 146 #[.pointer (some ⟨g,0,none⟩)] w fun e w'=>e= .returned (.int .i64 k)/\w=w':=by
 have b:=h.cell 1;simp at b;clear h;go_enter Tryz.func146,Tryz.ntmps146
 go_wp2;go_ret;exact⟨rfl,rfl⟩
def abI (w w':World)(R:Int×It×Nat)(e:Ending):Prop:=
 Below w.heap.size w w'/\∃d0 d1 d2,e= .returned (.tuple #[.agg #[d0,d1,d2],.int .i64 R.2.2,.int .i64 R.1])/\fV w' (w.heap.size<= ·) R.2.1 d0 d1 d2
theorem jn.fresh {V:World}{s:ByteArray}{m:Int}{g:Nat}(b:V.heap.size=g):jn (((V.alloc (.cells #[.string s,.int .i64 0,.int .i64 0] 208)).alloc (.cells #[.pointer (some ⟨g,0,none⟩)] 163)).alloc (.cells #[.int .i64 m] 3)) g (g+1+1) (g+1) s 0 0 m:=
 ⟨(af.alloc (af.at_ b) _).alloc _,af.at_ (by simp[b]),af.alloc (af.at_ (by simp[b])) _⟩
theorem P4 (ty:Ty)(s:ByteArray)(M:Int)(B:Nat)(w:World)(U G I t3:Value)(hT:cw w B ty U G I t3)(hB:B<=w.heap.size)(hL:Laid w)(iS:bn w)(hs:s.size<=1099511627776):
 Calls Tryz.prog 100 #[.agg #[U,G,I,t3],.string s,.int .i64 M] w fun e w'=>abI w w' (dk ty s M) e:=by
 obtain⟨W,hW⟩:∃W,(w.alloc (.cells #[U,G,I,t3] 64)).alloc (.cells #[.string ⟨#[]⟩,.bool false,.slice none 0 0] 28)=W:=⟨_,rfl⟩
 obtain⟨hz,q,p,d⟩:=abA hW;have Nw:=hT.below (q.mono hB);have hp:=hL.pos;have ai:=iS.pos;have HF:=za (IP ty B W U G I t3 Nw (by omega) (hL.below q hp));have Oa:=za Nw;have wX:=za (iS.below q ai);have H4:=za p;have E:=za d;have HB:=za q;have o:=za hz;have HW:=za hW;obtain⟨q0,q1,q2,q3,_⟩:=aL p;obtain⟨A,cap,rfl,rfl,rfl,rfl,_⟩:=hT.open_;have n:Hid (dk ty s M=if ty.flat=false then(1,i',0)else if(nS ty s M).e≠0 then((nS ty s M).e,i',0)else(0,(nS ty s M).x,s.size-(nS ty s M).q.length)):=za rfl;have aq:=za (fun h=>jx (t:=ty) h);generalize dk ty s M=ag at*;clear hT Nw hL iS p d q hz hW;go_enter Tryz.func100,Tryz.ntmps100
 go_wp2_with fail
 rw[HW.out];refine HF.out.mono ?_;rintro e b ⟨rfl,l⟩;have p:=H4.out.ag l (by have:=o.out;omega);have d:=E.out.ag l (by have:=o.out;omega);have al:=za (wX.out.below l (by have:=o.out;omega));have aj:=za (Oa.out.below (l.mono (by have:=o.out;omega)));have cc:w.heap.size+2<=b.heap.size:=by have:=l.size;have:=o.out;omega
 have fL:Hid (Below w.heap.size w b):=za (HB.out.trans (l.mono (by have:=o.out;omega)));have H:=za d;clear q0 q1 q2 q3 l;obtain⟨q0,q1,q2,q3,_⟩:=aL p;obtain⟨S,C,N,J,Z,R⟩:=a8 d;clear p d;cases lg:ty.flat with
 |false=>
  rw[lg,zl rfl]at n;obtain⟨y0,y1,y2⟩:=fq H.out (.string ⟨#[]⟩) (.bool false) (.slice none 0 0);go_wp2;refine zp (v:= .tuple #[.agg #[.string ⟨#[]⟩,.bool false,.slice none 0 0],.int .i64 0,.int .i64 1]) (by simp[results,Tryz.results100,go_sem,y0,y1,y2]) rfl ?_;rw[n.out];exact⟨(((fL.out.setCell (by simp) _).setCell (by simp) _).setCell (by simp) _),_,_,_,rfl,mX _ _⟩
 |true=>
  rw[lg,zj (by simp)]at n;obtain⟨_,hr,_,_,_⟩:=aq.out lg;obtain⟨k,u⟩:∃k,(((b.alloc (.cells #[.string s,.int .i64 0,.int .i64 0] 208)).alloc (.cells #[.pointer (some ⟨b.heap.size,0,none⟩)] 163)).alloc (.cells #[.int .i64 (min M 1024)] 3)).alloc (.cells (jS b.heap.size (b.heap.size+1+1) (b.heap.size+1)) 197)=k:=⟨_,rfl⟩
  have z:Below b.heap.size b k:=by rw[<-u];exact bM
  have m:jn k b.heap.size (b.heap.size+1+1) (b.heap.size+1) s 0 0 (min M 1024-(0:Nat)):=by
   rw[<-u,show(min M 1024-((0:Nat):Int))=min M 1024 from by simp];exact(jn.fresh (V:=b) rfl).below ((zq _ _).alloc (zi _) _)
  have K:k.heap.size=b.heap.size+4:=by rw[<-u];simp
  have O:=za (Tv ty B k _ _ _ _ b.heap.size (b.heap.size+1+1) (b.heap.size+1) s 0 0 (min M 1024) (aj.out.below (z.mono (by omega))) (by omega) (by omega) (by omega) hr m (by omega) hs (by omega) (al.out.below z (by omega)) (by omega) (by omega));rw[zN]at O;change Hid (Calls _ _ _ _ fun e w'=>gJ k _ _ _ s (min M 1024) (nS ty s M) e w')at O
  have ao:=za K;have dM:=za z;have AQ:=za u;unfold hC at O;unfold jS at AQ;have av:w.heap.size<b.heap.size:=by omega
  have rR:w.heap.size<b.heap.size+1:=by omega
  have au:w.heap.size<b.heap.size+1+1:=by omega
  have aw:w.heap.size<b.heap.size+1+1+1:=by omega
  clear m z u K;generalize nS ty s M=L at*;go_wp2_with fail
  refine(ru s b).mono ?_;rintro e w' ⟨rfl,rfl⟩;go_wp2_with fail
  rw[AQ.out];refine O.out.mono ?_;rintro e c ⟨X,c0,c1,c2,D,m',rfl,hX,m,ho,wu,iF⟩;obtain⟨j,bx,rfl,rfl,rfl,_⟩:=hX.open_;have K:=ao.out;have YS:Below b.heap.size k c:=ho.below (by omega) (by simp;omega);have d:=(H.out.ag dM.out (by omega)).ag YS (by omega);have GN:Hid (Below w.heap.size w c):=za (fL.out.trans ((dM.out.trans YS).mono (by omega)));have HX:=za (hX.fW (S':=(w.heap.size+2<= ·)) (fun _ _ h=>by omega));have Y:=za m;have Ub:=za iF;have E:=za d;have r0:c.cell? ⟨b.heap.size+1,0,none⟩=some (.pointer (some ⟨b.heap.size,0,none⟩)):=m.box.cell 0;have an:=m.box.lt;have ar:w.heap.size+1<c.heap.size:=d.lt;clear S C N J Z R q0 q1 q2 q3 hX m ho iF YS K;obtain⟨S,C,N,J,Z,R⟩:=a8 d;clear d;go_wp2_with fail
  refine(bs b.heap.size s D L.e _ (Y.out.rdr.alloc _)).mono ?_;rintro e w' ⟨rfl,rfl⟩;by_cases y:L.e=0
  ·have ak:(L.e !=0)=false:=by simp[y]
   have ah:=za (af.new c 28 #[.string X.text,.bool X.list,.slice j X.sub.length bx]);have r:=za ((zq c.heap.size c).alloc (zi _) (.cells #[.string X.text,.bool X.list,.slice j X.sub.length bx] 28));generalize fQ:c.alloc (.cells #[.string X.text,.bool X.list,.slice j X.sub.length bx] 28)=i at*;have HK:Hid (∀V:World,i.heap[c.heap.size]?=V.heap[c.heap.size]?/\i.heap[b.heap.size+1]?=V.heap[b.heap.size+1]?->V.cell? ⟨c.heap.size,0,none⟩=some (.string X.text)/\V.cell? ⟨c.heap.size,1,none⟩=some (.bool X.list)/\V.cell? ⟨c.heap.size,2,none⟩=some (.slice j X.sub.length bx)/\V.cell? ⟨b.heap.size+1,0,none⟩=some (.pointer (some ⟨b.heap.size,0,none⟩))):=za (fun V F=>by
    have h1:af V c.heap.size 28 #[.string X.text,.bool X.list,.slice j X.sub.length bx]:=F.1.symm.trans ah.out;have h2:af V (b.heap.size+1) 163 #[.pointer (some ⟨b.heap.size,0,none⟩)]:=F.2.symm.trans ((r.out.block _ an).trans Y.out.box);exact⟨h1.cell 0,h1.cell 1,h1.cell 2,h2.cell 0⟩)
   have ad:=E.out.ag r.out ar;have H:=za ad;clear S C N J Z R;obtain⟨S,C,N,J,Z,R⟩:=a8 ad;have qA:=za (afO b.heap.size s D L.e i.drew (af.drew ((r.out.block _ Y.out.rdr.lt).trans Y.out.rdr)));clear ad;go_wp2_with fail
   refine aB 5 (fun V=>V.cell? ⟨c.heap.size,0,none⟩=some (.string X.text)/\V.cell? ⟨c.heap.size,1,none⟩=some (.bool X.list)/\V.cell? ⟨c.heap.size,2,none⟩=some (.slice j X.sub.length bx)/\V.cell? ⟨b.heap.size+1,0,none⟩=some (.pointer (some ⟨b.heap.size,0,none⟩))) (by kernel_rfl) (by kernel_rfl) ?_;have hHeld:=HK.out i.drew ⟨rfl,rfl⟩;refine GT.jD [0,1] hHeld (fun _ _ _ _ _ h=>h) (by kernel_rfl) ?_;repeat(refine .c rfl rfl (fun V F=>by go_simp<;>with_reducible rfl) ?_;simp only[Act.put,zc,ze,zg])
   refine .nil ?_;refine GT.fF 2 (fun ab x=> ?_) rfl (by kernel_rfl);go_simp;refine qA.out.mono ?_;rintro e w' ⟨rfl,rfl⟩;go_wp2_with fail
   refine x.out _ _ (HK.out i.drew ⟨rfl,rfl⟩) (fun hHeld=> ?_);clear x ab;try simp only[Act.put,zc,ze,zg]
   refine GT.fF 3 (fun ab x=> ?_) rfl (by kernel_rfl);go_simp;have Dl:i.heap[c.heap.size]?=(((i.drew.setCell ⟨w.heap.size+1,0,none⟩ (.string X.text)).setCell ⟨w.heap.size+1,1,none⟩ (.bool X.list)).setCell ⟨w.heap.size+1,2,none⟩ (.slice j X.sub.length bx)).heap[c.heap.size]?/\i.heap[b.heap.size+1]?=(((i.drew.setCell ⟨w.heap.size+1,0,none⟩ (.string X.text)).setCell ⟨w.heap.size+1,1,none⟩ (.bool X.list)).setCell ⟨w.heap.size+1,2,none⟩ (.slice j X.sub.length bx)).heap[b.heap.size+1]?:=by
    rw[zY _ _ _ _ (by simp;omega),zY _ _ _ _ (by simp;omega),zY _ _ _ _ (by simp;omega),zY _ _ _ _ (by simp;omega),zY _ _ _ _ (by simp;omega),zY _ _ _ _ (by simp;omega)];exact⟨rfl,rfl⟩
   refine x.out _ _ (HK.out _ Dl) (fun hHeld=> ?_);clear x ab;try simp only[Act.put,zc,ze,zg]
   refine GT.jD [4] hHeld (fun _ _ _ _ _ h=>h) (by kernel_rfl) ?_;refine .c rfl rfl (fun V F=>by go_simp<;>with_reducible rfl) ?_;simp only[Act.put,zc,ze,zg];refine .nil ?_;refine GT.oP 5 ?_ rfl (by kernel_rfl);go_simp;obtain⟨y0,y1,y2⟩:=fq H.out (.string X.text) (.bool X.list) (.slice j X.sub.length bx);rw[zj (by simp[y])]at n;obtain⟨g1,g2,g3⟩:=Ub.out y;have Vy:Hid (ag=(0,X,D)):=za (by rw[n.out,g1,g2,zZ,aa];congr 2;omega);clear Dl;go_wp2;refine zp (v:= .tuple #[.agg #[.string X.text,.bool X.list,.slice j X.sub.length bx],.int .i64 D,.int .i64 0]) (by simp[results,Tryz.results100,go_sem,y0,y1,y2]) rfl ?_;rw[Vy.out];have kn:Below w.heap.size w i:=GN.out.trans (r.out.mono GN.out.size);exact⟨(((kn.setCell (by simp) _).setCell (by simp) _).setCell (by simp) _).drew,_,_,_,rfl,(HX.out.below r.out).only (L:= [w.heap.size+1]) ((((ae.refl _ i).setCell (by simp) _).setCell (by simp) _).setCell (by simp) _).drew (by simp) (fun _ _ h=>by omega)⟩
  have ak:(L.e !=0)=true:=yP.2 y;rw[zl y]at n;obtain⟨d0,d1,d2,_⟩:=a8 ((dV E.out (.string ⟨#[]⟩) (.bool false) (.slice none 0 0)).alloc (.cells #[.string X.text,.bool X.list,.slice j X.sub.length bx] 28));go_wp2;refine zp (v:= .tuple #[.agg #[.string ⟨#[]⟩,.bool false,.slice none 0 0],.int .i64 0,.int .i64 L.e]) (by simp[results,Tryz.results100,go_sem,d0,d1,d2]) rfl ?_;rw[n.out];exact⟨((((GN.out.setCell (by simp) _).setCell (by simp) _).setCell (by simp) _).alloc (by simp[World.setCell]<;>omega) _),_,_,_,rfl,mX _ _⟩
theorem Tx (ty:Ty)(s:ByteArray)(M:Int)(B:Nat)(w:World)(k j m t3:Value)(y:cw w B ty k j m t3)(hB:B<=w.heap.size)(I:Laid w)(D:bn w)(N:s.size<=1099511627776):
 Calls Tryz.prog 61 #[.agg #[k,j,m,t3],.string s,.int .i64 M] w fun e w'=>ve w w' (jw ty s M).2 (jw ty s M).1 e:=by
 obtain⟨W,o⟩:∃W,(w.alloc (.cells #[k,j,m,t3] 64)).alloc (.cells #[.string ⟨#[]⟩,.bool false,.slice none 0 0] 28)=W:=⟨_,rfl⟩
 obtain⟨hz,d,H,c⟩:=abA o;have C:=y.below (d.mono hB);have S:=za (P4 ty s M B W k j m t3 C (by omega) (I.below d I.pos) (D.below d D.pos) N);have H5:=za c;have O:=za d;have p:=za hz;have HW:=za o;obtain⟨U,q1,Z,Y,_⟩:=aL H;obtain⟨A,cap,rfl,rfl,rfl,rfl,_⟩:=y.open_;have b:Hid (jw ty s M=if(dk ty s M).1≠0 then((dk ty s M).1,i')else if(dk ty s M).2.2<s.size then(3,i')else(0,(dk ty s M).2.1)):=za rfl;generalize jw ty s M=ab at*;generalize dk ty s M=aa at*;obtain⟨E,X,n⟩:=aa;clear y C H c d hz o;simp only at b;go_enter Tryz.func61,Tryz.ntmps61
 go_wp2_with fail
 rw[HW.out];refine S.out.mono ?_;rintro e x ⟨u,d0,d1,d2,rfl,i⟩;simp only at i⊢;obtain⟨l,bx,rfl,rfl,rfl,_⟩:=i.open_;have c:=H5.out.ag u (by have:=p.out;omega);have HX:=za (i.fW (S':=(w.heap.size+2<= ·)) (fun _ _ h=>by have:=p.out;omega));have q:Hid (Below w.heap.size w x):=za (O.out.trans (u.mono (by have:=p.out;omega)));have kJ:w.heap.size+1<x.heap.size:=c.lt;have J:=za c;clear U q1 Z Y u i;obtain⟨p0,p1,p2,DY,DZ,D0⟩:=a8 c;clear c;obtain⟨F,z,G,_⟩:=a8 ((dV J.out (.string ⟨#[]⟩) (.bool false) (.slice none 0 0)).alloc (.cells #[.string X.text,.bool X.list,.slice l X.sub.length bx] 28));obtain⟨y0,y1,R,_⟩:=a8 ((dV J.out (.string X.text) (.bool X.list) (.slice l X.sub.length bx)).alloc (.cells #[.string X.text,.bool X.list,.slice l X.sub.length bx] 28));rcases eH E with⟨r,k1,k2⟩|⟨r,k1,k2⟩
 ·subst r;rw[zj (by simp)]at b;by_cases K:n<s.size
  ·rw[zl K]at b;go_wp2;refine zp (v:= .tuple #[.agg #[.string ⟨#[]⟩,.bool false,.slice none 0 0],.int .i64 3]) (by simp[results,Tryz.results61,go_sem,F,z,G]) rfl ?_;rw[b.out];exact⟨((((q.out.setCell (by simp) _).setCell (by simp) _).setCell (by simp) _).alloc (by simp[World.setCell]<;>omega) _),_,_,_,rfl,mX _ _⟩
  rw[zj K]at b;go_wp2;refine zp (v:= .tuple #[.agg #[.string X.text,.bool X.list,.slice l X.sub.length bx],.int .i64 0]) (by simp[results,Tryz.results61,go_sem,y0,y1,R]) rfl ?_;rw[b.out];exact⟨((((q.out.setCell (by simp) _).setCell (by simp) _).setCell (by simp) _).alloc (by simp[World.setCell]<;>omega) _),_,_,_,rfl,HX.out.only (L:= [w.heap.size+1]) (((((ae.refl _ x).setCell (by simp) _).setCell (by simp) _).setCell (by simp) _).alloc _) (by simp) (fun _ _ h=>by omega)⟩
 rw[zl r]at b;go_wp2;refine zp (v:= .tuple #[.agg #[.string ⟨#[]⟩,.bool false,.slice none 0 0],.int .i64 E]) (by simp[results,Tryz.results61,go_sem,F,z,G]) rfl ?_;rw[b.out];exact⟨((((q.out.setCell (by simp) _).setCell (by simp) _).setCell (by simp) _).alloc (by simp[World.setCell]<;>omega) _),_,_,_,rfl,mX _ _⟩
