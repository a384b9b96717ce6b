/- layout.Next, layout.Get. -/
import Derived.Test.YtdbmifjankgfpaaGreatDoorKA22
import Derived.Test.YtdbmifjankgfpaaGreatDoorKA27
set_option linter.all false
set_option maxRecDepth 100000
set_option maxHeartbeats 4000000
open Go.Proofs.Tryz
namespace Go.Proofs.YtdbmifjankgfpaaGreatDoor
open Go.RowKit
theorem afO (g:Nat)(s:ByteArray)(k:Nat)(f:Int)(w:World)(h:ji w g s k f):
 Calls prog 184 #[.pointer (some ⟨g,0,none⟩)] w fun e w'=>e= .returned (.int .i64 k)/\w=w':=by
 have b:=h.cell 1;simp at b;clear h;go_enter func184,ntmps184
 go_wp2;go_ret;exact⟨rfl,rfl⟩
def abW (w w':World)(R:Int×It×Nat)(e:Ending):Prop:=
 Below w.heap.size w w'/\∃d0 d1 d2,e= .returned (.tuple #[.agg #[d0,d1,d2],.int .i64 R.2.2,.int .i64 R.1])/\gz w' (w.heap.size<= ·) R.2.1 d0 d1 d2
theorem jI.fresh {V:World}{s:ByteArray}{m:Int}{g:Nat}(b:V.heap.size=g):jI (((V.alloc (.cells #[.string s,.int .i64 0,.int .i64 0] 180)).alloc (.cells #[.pointer (some ⟨g,0,none⟩)] 164)).alloc (.cells #[.int .i64 m] 3)) g (g+1+1) (g+1) s 0 0 m:=
 ⟨(af.alloc (af.at_ b) _).alloc _,af.at_ (by simp[b]),af.alloc (af.at_ (by simp[b])) _⟩
theorem QD (ty:Ty)(s:ByteArray)(M:Int)(B:Nat)(w:World)(K C Z t3:Value)(hT:cG w B ty K C Z t3)(hB:B<=w.heap.size)(hL:Laid w)(jl:bq w)(hs:s.size<=1099511627776):
 Calls prog 156 #[.agg #[K,C,Z,t3],.string s,.int .i64 M] w fun e w'=>abW w w' (dt ty s M) e:=by
 obtain⟨W,hW⟩:∃W,(w.alloc (.cells #[K,C,Z,t3] 43)).alloc (.cells #[.string ⟨#[]⟩,.bool false,.slice none 0 0] 28)=W:=⟨_,rfl⟩
 obtain⟨hz,x,o,d⟩:=abO hW;have NX:=hT.below (x.mono hB);have hp:=hL.pos;have ak:=jl.pos;have HF:=za (I4 ty B W K C Z t3 NX (by omega) (hL.below x hp));have OB:=za NX;have Am:=za (jl.below x ak);have H4:=za o;have J:=za d;have HB:=za x;have p:=za hz;have HW:=za hW;obtain⟨q0,q1,q2,q3,_⟩:=aS o;obtain⟨A,cap,rfl,rfl,rfl,rfl,_⟩:=hT.open_;have m:Hid (dt ty s M=if ty.flat=false then(1,ju,0)else if(ox ty s M).e≠0 then((ox ty s M).e,ju,0)else(0,(ox ty s M).x,s.size-(ox ty s M).q.length)):=za rfl;have ar:=za (fun h=>lQ (t:=ty) h);generalize dt ty s M=ao at*;clear hT NX hL jl o d x hz hW;go_enter func156,ntmps156
 go_wp2_with fail
 rw[HW.out];refine HF.out.mono ?_;rintro e b ⟨rfl,l⟩;have o:=H4.out.ag l (by have:=p.out;omega);have d:=J.out.ag l (by have:=p.out;omega);have ah:=za (Am.out.below l (by have:=p.out;omega));have ai:=za (OB.out.below (l.mono (by have:=p.out;omega)));have cr:w.heap.size+2<=b.heap.size:=by have:=l.size;have:=p.out;omega
 have fZ:Hid (Below w.heap.size w b):=za (HB.out.trans (l.mono (by have:=p.out;omega)));have F:=za d;clear q0 q1 q2 q3 l;obtain⟨q0,q1,q2,q3,_⟩:=aS o;obtain⟨I,R,D,O,E,S⟩:=a8 d;clear o d;cases mf:ty.flat with
 |false=>
  rw[mf,zi rfl]at m;obtain⟨y0,y1,y2⟩:=fG F.out (.string ⟨#[]⟩) (.bool false) (.slice none 0 0);go_wp2;refine zj (v:= .tuple #[.agg #[.string ⟨#[]⟩,.bool false,.slice none 0 0],.int .i64 0,.int .i64 1]) (by simp[results,results156,go_sem,y0,y1,y2]) rfl ?_;rw[m.out];exact⟨(((fZ.out.setCell (by simp) _).setCell (by simp) _).setCell (by simp) _),_,_,_,rfl,nF _ _⟩
 |true=>
  rw[mf,zh (by simp)]at m;obtain⟨_,hr,_,_,_⟩:=ar.out mf;obtain⟨k,u⟩:∃k,(((b.alloc (.cells #[.string s,.int .i64 0,.int .i64 0] 180)).alloc (.cells #[.pointer (some ⟨b.heap.size,0,none⟩)] 164)).alloc (.cells #[.int .i64 (min M 1024)] 3)).alloc (.cells (kf b.heap.size (b.heap.size+1+1) (b.heap.size+1)) 240)=k:=⟨_,rfl⟩
  have G:Below b.heap.size b k:=by rw[<-u];exact bT
  have n:jI k b.heap.size (b.heap.size+1+1) (b.heap.size+1) s 0 0 (min M 1024-(0:Nat)):=by
   rw[<-u,show(min M 1024-((0:Nat):Int))=min M 1024 from by simp];exact(jI.fresh (V:=b) rfl).below ((zm _ _).alloc (zg _) _)
  have z:k.heap.size=b.heap.size+4:=by rw[<-u];simp
  have U:=za (T7 ty B k _ _ _ _ b.heap.size (b.heap.size+1+1) (b.heap.size+1) s 0 0 (min M 1024) (ai.out.below (G.mono (by omega))) (by omega) (by omega) (by omega) hr n (by omega) hs (by omega) (ah.out.below G (by omega)) (by omega) (by omega));rw[zL]at U;change Hid (Calls _ _ _ _ fun e w'=>gY k _ _ _ s (min M 1024) (ox ty s M) e w')at U
  have al:=za z;have cZ:=za G;have Bk:=za u;unfold iB at U;unfold kf at Bk;have au:w.heap.size<b.heap.size:=by omega
  have sA:w.heap.size<b.heap.size+1:=by omega
  have aw:w.heap.size<b.heap.size+1+1:=by omega
  have av:w.heap.size<b.heap.size+1+1+1:=by omega
  clear n G u z;generalize ox ty s M=L at*;go_wp2_with fail
  refine(rR s b).mono ?_;rintro e w' ⟨rfl,rfl⟩;go_wp2_with fail
  rw[Bk.out];refine U.out.mono ?_;rintro e c ⟨X,c0,c1,c2,N,m',rfl,hX,n,ho,wO,jb⟩;obtain⟨i,bx,rfl,rfl,rfl,_⟩:=hX.open_;have z:=al.out;have Y1:Below b.heap.size k c:=ho.below (by omega) (by simp;omega);have d:=(F.out.ag cZ.out (by omega)).ag Y1 (by omega);have G0:Hid (Below w.heap.size w c):=za (fZ.out.trans ((cZ.out.trans Y1).mono (by omega)));have HX:=za (hX.iz (S':=(w.heap.size+2<= ·)) (fun _ _ h=>by omega));have Y:=za n;have UM:=za jb;have J:=za d;have r0:c.cell? ⟨b.heap.size+1,0,none⟩=some (.pointer (some ⟨b.heap.size,0,none⟩)):=n.box.cell 0;have ag:=n.box.lt;have an:w.heap.size+1<c.heap.size:=d.lt;clear I R D O E S q0 q1 q2 q3 hX n ho jb Y1 z;obtain⟨I,R,D,O,E,S⟩:=a8 d;clear d;go_wp2_with fail
  refine(bw b.heap.size s N L.e _ (Y.out.rdr.alloc _)).mono ?_;rintro e w' ⟨rfl,rfl⟩;by_cases r:L.e=0
  ·have aj:(L.e !=0)=false:=by simp[r]
   have aq:=za (af.new c 28 #[.string X.text,.bool X.list,.slice i X.sub.length bx]);have y:=za ((zm c.heap.size c).alloc (zg _) (.cells #[.string X.text,.bool X.list,.slice i X.sub.length bx] 28));generalize fB:c.alloc (.cells #[.string X.text,.bool X.list,.slice i X.sub.length bx] 28)=j at*;have HK:Hid (∀V:World,j.heap[c.heap.size]?=V.heap[c.heap.size]?/\j.heap[b.heap.size+1]?=V.heap[b.heap.size+1]?->V.cell? ⟨c.heap.size,0,none⟩=some (.string X.text)/\V.cell? ⟨c.heap.size,1,none⟩=some (.bool X.list)/\V.cell? ⟨c.heap.size,2,none⟩=some (.slice i X.sub.length bx)/\V.cell? ⟨b.heap.size+1,0,none⟩=some (.pointer (some ⟨b.heap.size,0,none⟩))):=za (fun V H=>by
    have h1:af V c.heap.size 28 #[.string X.text,.bool X.list,.slice i X.sub.length bx]:=H.1.symm.trans aq.out;have h2:af V (b.heap.size+1) 164 #[.pointer (some ⟨b.heap.size,0,none⟩)]:=H.2.symm.trans ((y.out.block _ ag).trans Y.out.box);exact⟨h1.cell 0,h1.cell 1,h1.cell 2,h2.cell 0⟩)
   have ad:=J.out.ag y.out an;have F:=za ad;clear I R D O E S;obtain⟨I,R,D,O,E,S⟩:=a8 ad;have qT:=za (afO b.heap.size s N L.e j.drew (af.drew ((y.out.block _ Y.out.rdr.lt).trans Y.out.rdr)));clear ad;go_wp2_with fail
   refine aD 5 (fun V=>V.cell? ⟨c.heap.size,0,none⟩=some (.string X.text)/\V.cell? ⟨c.heap.size,1,none⟩=some (.bool X.list)/\V.cell? ⟨c.heap.size,2,none⟩=some (.slice i X.sub.length bx)/\V.cell? ⟨b.heap.size+1,0,none⟩=some (.pointer (some ⟨b.heap.size,0,none⟩))) (by kernel_rfl) (by kernel_rfl) ?_;have hHeld:=HK.out j.drew ⟨rfl,rfl⟩;refine GT.jV [0,1] hHeld (fun _ _ _ _ _ h=>h) (by kernel_rfl) ?_;repeat(refine .c rfl rfl (fun V H=>by go_simp<;>with_reducible rfl) ?_;simp only[Act.put,zb,zd,ze])
   refine .nil ?_;refine GT.fP 2 (fun ab q=> ?_) rfl (by kernel_rfl);go_simp;refine qT.out.mono ?_;rintro e w' ⟨rfl,rfl⟩;go_wp2_with fail
   refine q.out _ _ (HK.out j.drew ⟨rfl,rfl⟩) (fun hHeld=> ?_);clear q ab;try simp only[Act.put,zb,zd,ze]
   refine GT.fP 3 (fun ab q=> ?_) rfl (by kernel_rfl);go_simp;have Dy:j.heap[c.heap.size]?=(((j.drew.setCell ⟨w.heap.size+1,0,none⟩ (.string X.text)).setCell ⟨w.heap.size+1,1,none⟩ (.bool X.list)).setCell ⟨w.heap.size+1,2,none⟩ (.slice i X.sub.length bx)).heap[c.heap.size]?/\j.heap[b.heap.size+1]?=(((j.drew.setCell ⟨w.heap.size+1,0,none⟩ (.string X.text)).setCell ⟨w.heap.size+1,1,none⟩ (.bool X.list)).setCell ⟨w.heap.size+1,2,none⟩ (.slice i X.sub.length bx)).heap[b.heap.size+1]?:=by
    rw[zM _ _ _ _ (by simp;omega),zM _ _ _ _ (by simp;omega),zM _ _ _ _ (by simp;omega),zM _ _ _ _ (by simp;omega),zM _ _ _ _ (by simp;omega),zM _ _ _ _ (by simp;omega)];exact⟨rfl,rfl⟩
   refine q.out _ _ (HK.out _ Dy) (fun hHeld=> ?_);clear q ab;try simp only[Act.put,zb,zd,ze]
   refine GT.jV [4] hHeld (fun _ _ _ _ _ h=>h) (by kernel_rfl) ?_;refine .c rfl rfl (fun V H=>by go_simp<;>with_reducible rfl) ?_;simp only[Act.put,zb,zd,ze];refine .nil ?_;refine GT.pt 5 ?_ rfl (by kernel_rfl);go_simp;obtain⟨y0,y1,y2⟩:=fG F.out (.string X.text) (.bool X.list) (.slice i X.sub.length bx);rw[zh (by simp[r])]at m;obtain⟨g1,g2,g3⟩:=UM.out r;have V3:Hid (ao=(0,X,N)):=za (by rw[m.out,g1,g2,zK,aa];congr 2;omega);clear Dy;go_wp2;refine zj (v:= .tuple #[.agg #[.string X.text,.bool X.list,.slice i X.sub.length bx],.int .i64 N,.int .i64 0]) (by simp[results,results156,go_sem,y0,y1,y2]) rfl ?_;rw[V3.out];have jB:Below w.heap.size w j:=G0.out.trans (y.out.mono G0.out.size);exact⟨(((jB.setCell (by simp) _).setCell (by simp) _).setCell (by simp) _).drew,_,_,_,rfl,(HX.out.below y.out).only (L:= [w.heap.size+1]) ((((ae.refl _ j).setCell (by simp) _).setCell (by simp) _).setCell (by simp) _).drew (by simp) (fun _ _ h=>by omega)⟩
  have aj:(L.e !=0)=true:=yz.2 r;rw[zi r]at m;obtain⟨d0,d1,d2,_⟩:=a8 ((dK J.out (.string ⟨#[]⟩) (.bool false) (.slice none 0 0)).alloc (.cells #[.string X.text,.bool X.list,.slice i X.sub.length bx] 28));go_wp2;refine zj (v:= .tuple #[.agg #[.string ⟨#[]⟩,.bool false,.slice none 0 0],.int .i64 0,.int .i64 L.e]) (by simp[results,results156,go_sem,d0,d1,d2]) rfl ?_;rw[m.out];exact⟨((((G0.out.setCell (by simp) _).setCell (by simp) _).setCell (by simp) _).alloc (by simp[World.setCell]<;>omega) _),_,_,_,rfl,nF _ _⟩
theorem T9 (ty:Ty)(s:ByteArray)(M:Int)(B:Nat)(w:World)(i l m t3:Value)(r:cG w B ty i l m t3)(Y:B<=w.heap.size)(I:Laid w)(G:bq w)(hs:s.size<=1099511627776):
 Calls prog 122 #[.agg #[i,l,m,t3],.string s,.int .i64 M] w fun e w'=>vD w w' (jP ty s M).2 (jP ty s M).1 e:=by
 obtain⟨W,p⟩:∃W,(w.alloc (.cells #[i,l,m,t3] 43)).alloc (.cells #[.string ⟨#[]⟩,.bool false,.slice none 0 0] 28)=W:=⟨_,rfl⟩
 obtain⟨hz,d,F,c⟩:=abO p;have D:=r.below (d.mono Y);have HN:=za (QD ty s M B W i l m t3 D (by omega) (I.below d I.pos) (G.below d G.pos) hs);have S:=za c;have Z:=za d;have x:=za hz;have HW:=za p;obtain⟨O,N,U,q3,_⟩:=aS F;obtain⟨A,cap,rfl,rfl,rfl,rfl,_⟩:=r.open_;have b:Hid (jP ty s M=if(dt ty s M).1≠0 then((dt ty s M).1,ju)else if(dt ty s M).2.2<s.size then(3,ju)else(0,(dt ty s M).2.1)):=za rfl;generalize jP ty s M=ab at*;generalize dt ty s M=aa at*;obtain⟨E,X,n⟩:=aa;clear r D F c d hz p;simp only at b;go_enter func122,ntmps122
 go_wp2_with fail
 rw[HW.out];refine HN.out.mono ?_;rintro e o ⟨q,d0,d1,d2,rfl,j⟩;simp only at j⊢;obtain⟨k,bx,rfl,rfl,rfl,_⟩:=j.open_;have c:=S.out.ag q (by have:=x.out;omega);have HX:=za (j.iz (S':=(w.heap.size+2<= ·)) (fun _ _ h=>by have:=x.out;omega));have y:Hid (Below w.heap.size w o):=za (Z.out.trans (q.mono (by have:=x.out;omega)));have kV:w.heap.size+1<o.heap.size:=c.lt;have H:=za c;clear O N U q3 q j;obtain⟨p0,p1,p2,Eb,Ec,Ea⟩:=a8 c;clear c;obtain⟨K,z,C,_⟩:=a8 ((dK H.out (.string ⟨#[]⟩) (.bool false) (.slice none 0 0)).alloc (.cells #[.string X.text,.bool X.list,.slice k X.sub.length bx] 28));obtain⟨R,y1,y2,_⟩:=a8 ((dK H.out (.string X.text) (.bool X.list) (.slice k X.sub.length bx)).alloc (.cells #[.string X.text,.bool X.list,.slice k X.sub.length bx] 28));rcases eY E with⟨u,k1,k2⟩|⟨u,k1,k2⟩
 ·subst u;rw[zh (by simp)]at b;by_cases J:n<s.size
  ·rw[zi J]at b;go_wp2;refine zj (v:= .tuple #[.agg #[.string ⟨#[]⟩,.bool false,.slice none 0 0],.int .i64 3]) (by simp[results,results122,go_sem,K,z,C]) rfl ?_;rw[b.out];exact⟨((((y.out.setCell (by simp) _).setCell (by simp) _).setCell (by simp) _).alloc (by simp[World.setCell]<;>omega) _),_,_,_,rfl,nF _ _⟩
  rw[zh J]at b;go_wp2;refine zj (v:= .tuple #[.agg #[.string X.text,.bool X.list,.slice k X.sub.length bx],.int .i64 0]) (by simp[results,results122,go_sem,R,y1,y2]) rfl ?_;rw[b.out];exact⟨((((y.out.setCell (by simp) _).setCell (by simp) _).setCell (by simp) _).alloc (by simp[World.setCell]<;>omega) _),_,_,_,rfl,HX.out.only (L:= [w.heap.size+1]) (((((ae.refl _ o).setCell (by simp) _).setCell (by simp) _).setCell (by simp) _).alloc _) (by simp) (fun _ _ h=>by omega)⟩
 rw[zi u]at b;go_wp2;refine zj (v:= .tuple #[.agg #[.string ⟨#[]⟩,.bool false,.slice none 0 0],.int .i64 E]) (by simp[results,results122,go_sem,K,z,C]) rfl ?_;rw[b.out];exact⟨((((y.out.setCell (by simp) _).setCell (by simp) _).setCell (by simp) _).alloc (by simp[World.setCell]<;>omega) _),_,_,_,rfl,nF _ _⟩
