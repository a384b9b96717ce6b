/- layout.Next, layout.Get. -/
import Derived.Test.YtpjgigllldipiaaGreatDoorKA27
import Derived.Test.YtpjgigllldipiaaGreatDoorKA28
set_option linter.all false
set_option maxRecDepth 100000
set_option maxHeartbeats 4000000
namespace Go.Proofs.YtpjgigllldipiaaGreatDoor
open Tryz
open Go.RowKit
theorem afs (g:Nat)(s:ByteArray)(k:Nat)(f:Int)(w:World)(h:iI w g s k f):
 Calls prog 146 #[.pointer (some ⟨g,0,none⟩)] w fun e w'=>e= .returned (.int .i64 k)/\w=w':=by
 have b:=h.cell 1;simp at b;clear h;go_enter func146,ntmps146
 go_wp2;go_ret;exact⟨rfl,rfl⟩
def abf (w w':World)(R:Int×It×Nat)(e:Ending):Prop:=
 Below w.heap.size w w'/\∃d0 d1 d2,e= .returned (.tuple #[.agg #[d0,d1,d2],.int .i64 R.2.2,.int .i64 R.1])/\fO w' (w.heap.size<= ·) R.2.1 d0 d1 d2
theorem jh.fresh {V:World}{s:ByteArray}{m:Int}{g:Nat}(b:V.heap.size=g):jh (((V.alloc (.cells #[.string s,.int .i64 0,.int .i64 0] 208)).alloc (.cells #[.pointer (some ⟨g,0,none⟩)] 163)).alloc (.cells #[.int .i64 m] 3)) g (g+1+1) (g+1) s 0 0 m:=
 ⟨(af.alloc (af.at_ b) _).alloc _,af.at_ (by simp[b]),af.alloc (af.at_ (by simp[b])) _⟩
theorem PI (ty:Ty)(s:ByteArray)(M:Int)(B:Nat)(w:World)(U K N t3:Value)(hT:cx w B ty U K N t3)(hB:B<=w.heap.size)(hL:Laid w)(iM:bj w)(hs:s.size<=1099511627776):
 Calls prog 100 #[.agg #[U,K,N,t3],.string s,.int .i64 M] w fun e w'=>abf w w' (cY ty s M) e:=by
 obtain⟨W,hW⟩:∃W,(w.alloc (.cells #[U,K,N,t3] 64)).alloc (.cells #[.string ⟨#[]⟩,.bool false,.slice none 0 0] 28)=W:=⟨_,rfl⟩
 obtain⟨hz,u,o,d⟩:=aa8 hW;have Nc:=hT.below (u.mono hB);have hp:=hL.pos;have ar:=iM.pos;have HF:=za (Iz ty B W U K N t3 Nc (by omega) (hL.below u hp));have Jg:=za Nc;have wL:=za (iM.below u ar);have H4:=za o;have H:=za d;have HB:=za u;have p:=za hz;have HW:=za hW;obtain⟨q0,q1,q2,q3,_⟩:=aO o;obtain⟨A,cap,rfl,rfl,rfl,rfl,_⟩:=hT.open_;have l:Hid (cY ty s M=if ty.flat=false then(1,iU,0)else if(nO ty s M).e≠0 then((nO ty s M).e,iU,0)else(0,(nO ty s M).x,s.size-(nO ty s M).q.length)):=za rfl;have ak:=za (fun h=>jv (t:=ty) h);generalize cY ty s M=ag at*;clear hT Nc hL iM o d u hz hW;go_enter func100,ntmps100
 go_wp2_with fail
 rw[HW.out];refine HF.out.mono ?_;rintro e b ⟨rfl,m⟩;have o:=H4.out.ah m (by have:=p.out;omega);have d:=H.out.ah m (by have:=p.out;omega);have ai:=za (wL.out.below m (by have:=p.out;omega));have ah:=za (Jg.out.below (m.mono (by have:=p.out;omega)));have cg:w.heap.size+2<=b.heap.size:=by have:=m.size;have:=p.out;omega
 have fE:Hid (Below w.heap.size w b):=za (HB.out.trans (m.mono (by have:=p.out;omega)));have Z:=za d;clear q0 q1 q2 q3 m;obtain⟨q0,q1,q2,q3,_⟩:=aO o;obtain⟨G,J,C,I,E,R⟩:=a8 d;clear o d;cases lY:ty.flat with
 |false=>
  rw[lY,zl rfl]at l;obtain⟨y0,y1,y2⟩:=fe Z.out (.string ⟨#[]⟩) (.bool false) (.slice none 0 0);go_wp2;refine zo (v:= .tuple #[.agg #[.string ⟨#[]⟩,.bool false,.slice none 0 0],.int .i64 0,.int .i64 1]) (by simp[results,results100,go_sem,y0,y1,y2]) rfl ?_;rw[l.out];exact⟨(((fE.out.setCell (by simp) _).setCell (by simp) _).setCell (by simp) _),_,_,_,rfl,mS _ _⟩
 |true=>
  rw[lY,zj (by simp)]at l;obtain⟨_,hr,_,_,_⟩:=ak.out lY;obtain⟨k,r⟩:∃k,(((b.alloc (.cells #[.string s,.int .i64 0,.int .i64 0] 208)).alloc (.cells #[.pointer (some ⟨b.heap.size,0,none⟩)] 163)).alloc (.cells #[.int .i64 (min M 1024)] 3)).alloc (.cells (jN b.heap.size (b.heap.size+1+1) (b.heap.size+1)) 197)=k:=⟨_,rfl⟩
  have O:Below b.heap.size b k:=by rw[<-r];exact bN
  have n:jh k b.heap.size (b.heap.size+1+1) (b.heap.size+1) s 0 0 (min M 1024-(0:Nat)):=by
   rw[<-r,show(min M 1024-((0:Nat):Int))=min M 1024 from by simp];exact(jh.fresh (V:=b) rfl).below ((zq _ _).alloc (zf _) _)
  have z:k.heap.size=b.heap.size+4:=by rw[<-r];simp
  have D:=za (Th ty B k _ _ _ _ b.heap.size (b.heap.size+1+1) (b.heap.size+1) s 0 0 (min M 1024) (ah.out.below (O.mono (by omega))) (by omega) (by omega) (by omega) hr n (by omega) hs (by omega) (ai.out.below O (by omega)) (by omega) (by omega));rw[zQ]at D;change Hid (Calls _ _ _ _ fun e w'=>gG k _ _ _ s (min M 1024) (nO ty s M) e w')at D
  have aq:=za z;have dT:=za O;have AJ:=za r;unfold gX at D;unfold jN at AJ;have av:w.heap.size<b.heap.size:=by omega
  have rK:w.heap.size<b.heap.size+1:=by omega
  have aw:w.heap.size<b.heap.size+1+1:=by omega
  have au:w.heap.size<b.heap.size+1+1+1:=by omega
  clear n O r z;generalize nO ty s M=L at*;go_wp2_with fail
  refine(rk s b).mono ?_;rintro e w' ⟨rfl,rfl⟩;go_wp2_with fail
  rw[AJ.out];refine D.out.mono ?_;rintro e c ⟨X,c0,c1,c2,F,m',rfl,hX,n,ho,vT,iA⟩;obtain⟨i,bx,rfl,rfl,rfl,_⟩:=hX.open_;have z:=aq.out;have X6:Below b.heap.size k c:=ho.below (by omega) (by simp;omega);have d:=(Z.out.ah dT.out (by omega)).ah X6 (by omega);have Ca:Hid (Below w.heap.size w c):=za (fE.out.trans ((dT.out.trans X6).mono (by omega)));have HX:=za (hX.gh (S':=(w.heap.size+2<= ·)) (fun _ _ h=>by omega));have Y:=za n;have TW:=za iA;have H:=za d;have r0:c.cell? ⟨b.heap.size+1,0,none⟩=some (.pointer (some ⟨b.heap.size,0,none⟩)):=n.box.cell 0;have ao:=n.box.lt;have al:w.heap.size+1<c.heap.size:=d.lt;clear G J C I E R q0 q1 q2 q3 hX n ho iA X6 z;obtain⟨G,J,C,I,E,R⟩:=a8 d;clear d;go_wp2_with fail
  refine(bs b.heap.size s F L.e _ (Y.out.rdr.alloc _)).mono ?_;rintro e w' ⟨rfl,rfl⟩;by_cases y:L.e=0
  ·have aj:(L.e !=0)=false:=by simp[y]
   have an:=za (af.new c 28 #[.string X.text,.bool X.list,.slice i X.sub.length bx]);have x:=za ((zq c.heap.size c).alloc (zf _) (.cells #[.string X.text,.bool X.list,.slice i X.sub.length bx] 28));generalize fI:c.alloc (.cells #[.string X.text,.bool X.list,.slice i X.sub.length bx] 28)=j at*;have HK:Hid (∀V:World,j.heap[c.heap.size]?=V.heap[c.heap.size]?/\j.heap[b.heap.size+1]?=V.heap[b.heap.size+1]?->V.cell? ⟨c.heap.size,0,none⟩=some (.string X.text)/\V.cell? ⟨c.heap.size,1,none⟩=some (.bool X.list)/\V.cell? ⟨c.heap.size,2,none⟩=some (.slice i X.sub.length bx)/\V.cell? ⟨b.heap.size+1,0,none⟩=some (.pointer (some ⟨b.heap.size,0,none⟩))):=za (fun V S=>by
    have h1:af V c.heap.size 28 #[.string X.text,.bool X.list,.slice i X.sub.length bx]:=S.1.symm.trans an.out;have h2:af V (b.heap.size+1) 163 #[.pointer (some ⟨b.heap.size,0,none⟩)]:=S.2.symm.trans ((x.out.block _ ao).trans Y.out.box);exact⟨h1.cell 0,h1.cell 1,h1.cell 2,h2.cell 0⟩)
   have ad:=H.out.ah x.out al;have Z:=za ad;clear G J C I E R;obtain⟨G,J,C,I,E,R⟩:=a8 ad;have qu:=za (afs b.heap.size s F L.e j.drew (af.drew ((x.out.block _ Y.out.rdr.lt).trans Y.out.rdr)));clear ad;go_wp2_with fail
   refine aA 5 (fun V=>V.cell? ⟨c.heap.size,0,none⟩=some (.string X.text)/\V.cell? ⟨c.heap.size,1,none⟩=some (.bool X.list)/\V.cell? ⟨c.heap.size,2,none⟩=some (.slice i X.sub.length bx)/\V.cell? ⟨b.heap.size+1,0,none⟩=some (.pointer (some ⟨b.heap.size,0,none⟩))) (by kernel_rfl) (by kernel_rfl) ?_;have hHeld:=HK.out j.drew ⟨rfl,rfl⟩;refine GT.jy [0,1] hHeld (fun _ _ _ _ _ h=>h) (by kernel_rfl) ?_;repeat(refine .c rfl rfl (fun V S=>by go_simp<;>with_reducible rfl) ?_;simp only[Act.put,zc,ze,zh])
   refine .nil ?_;refine GT.fw 2 (fun ab q=> ?_) rfl (by kernel_rfl);go_simp;refine qu.out.mono ?_;rintro e w' ⟨rfl,rfl⟩;go_wp2_with fail
   refine q.out _ _ (HK.out j.drew ⟨rfl,rfl⟩) (fun hHeld=> ?_);clear q ab;try simp only[Act.put,zc,ze,zh]
   refine GT.fw 3 (fun ab q=> ?_) rfl (by kernel_rfl);go_simp;have Dd:j.heap[c.heap.size]?=(((j.drew.setCell ⟨w.heap.size+1,0,none⟩ (.string X.text)).setCell ⟨w.heap.size+1,1,none⟩ (.bool X.list)).setCell ⟨w.heap.size+1,2,none⟩ (.slice i X.sub.length bx)).heap[c.heap.size]?/\j.heap[b.heap.size+1]?=(((j.drew.setCell ⟨w.heap.size+1,0,none⟩ (.string X.text)).setCell ⟨w.heap.size+1,1,none⟩ (.bool X.list)).setCell ⟨w.heap.size+1,2,none⟩ (.slice i X.sub.length bx)).heap[b.heap.size+1]?:=by
    rw[zY _ _ _ _ (by simp;omega),zY _ _ _ _ (by simp;omega),zY _ _ _ _ (by simp;omega),zY _ _ _ _ (by simp;omega),zY _ _ _ _ (by simp;omega),zY _ _ _ _ (by simp;omega)];exact⟨rfl,rfl⟩
   refine q.out _ _ (HK.out _ Dd) (fun hHeld=> ?_);clear q ab;try simp only[Act.put,zc,ze,zh]
   refine GT.jy [4] hHeld (fun _ _ _ _ _ h=>h) (by kernel_rfl) ?_;refine .c rfl rfl (fun V S=>by go_simp<;>with_reducible rfl) ?_;simp only[Act.put,zc,ze,zh];refine .nil ?_;refine GT.oL 5 ?_ rfl (by kernel_rfl);go_simp;obtain⟨y0,y1,y2⟩:=fe Z.out (.string X.text) (.bool X.list) (.slice i X.sub.length bx);rw[zj (by simp[y])]at l;obtain⟨g1,g2,g3⟩:=TW.out y;have Vb:Hid (ag=(0,X,F)):=za (by rw[l.out,g1,g2,zZ,aa];congr 2;omega);clear Dd;go_wp2;refine zo (v:= .tuple #[.agg #[.string X.text,.bool X.list,.slice i X.sub.length bx],.int .i64 F,.int .i64 0]) (by simp[results,results100,go_sem,y0,y1,y2]) rfl ?_;rw[Vb.out];have jj:Below w.heap.size w j:=Ca.out.trans (x.out.mono Ca.out.size);exact⟨(((jj.setCell (by simp) _).setCell (by simp) _).setCell (by simp) _).drew,_,_,_,rfl,(HX.out.below x.out).only (L:= [w.heap.size+1]) ((((ae.refl _ j).setCell (by simp) _).setCell (by simp) _).setCell (by simp) _).drew (by simp) (fun _ _ h=>by omega)⟩
  have aj:(L.e !=0)=true:=yQ.2 y;rw[zl y]at l;obtain⟨d0,d1,d2,_⟩:=a8 ((dP H.out (.string ⟨#[]⟩) (.bool false) (.slice none 0 0)).alloc (.cells #[.string X.text,.bool X.list,.slice i X.sub.length bx] 28));go_wp2;refine zo (v:= .tuple #[.agg #[.string ⟨#[]⟩,.bool false,.slice none 0 0],.int .i64 0,.int .i64 L.e]) (by simp[results,results100,go_sem,d0,d1,d2]) rfl ?_;rw[l.out];exact⟨((((Ca.out.setCell (by simp) _).setCell (by simp) _).setCell (by simp) _).alloc (by simp[World.setCell]<;>omega) _),_,_,_,rfl,mS _ _⟩
theorem Tj (ty:Ty)(s:ByteArray)(M:Int)(B:Nat)(w:World)(k i j t3:Value)(x:cx w B ty k i j t3)(hB:B<=w.heap.size)(K:Laid w)(H:bj w)(U:s.size<=1099511627776):
 Calls prog 61 #[.agg #[k,i,j,t3],.string s,.int .i64 M] w fun e w'=>uV w w' (ju ty s M).2 (ju ty s M).1 e:=by
 obtain⟨W,r⟩:∃W,(w.alloc (.cells #[k,i,j,t3] 64)).alloc (.cells #[.string ⟨#[]⟩,.bool false,.slice none 0 0] 28)=W:=⟨_,rfl⟩
 obtain⟨hz,d,C,c⟩:=aa8 r;have I:=x.below (d.mono hB);have HN:=za (PI ty s M B W k i j t3 I (by omega) (K.below d K.pos) (H.below d H.pos) U);have R:=za c;have HB:=za d;have u:=za hz;have HW:=za r;obtain⟨q0,q1,Z,S,_⟩:=aO C;obtain⟨A,cap,rfl,rfl,rfl,rfl,_⟩:=x.open_;have b:Hid (ju ty s M=if(cY ty s M).1≠0 then((cY ty s M).1,iU)else if(cY ty s M).2.2<s.size then(3,iU)else(0,(cY ty s M).2.1)):=za rfl;generalize ju ty s M=aa at*;generalize cY ty s M=N at*;obtain⟨E,X,n⟩:=N;clear x I C c d hz r;simp only at b;go_enter func61,ntmps61
 go_wp2_with fail
 rw[HW.out];refine HN.out.mono ?_;rintro e o ⟨q,d0,d1,d2,rfl,l⟩;simp only at l⊢;obtain⟨m,bx,rfl,rfl,rfl,_⟩:=l.open_;have c:=R.out.ah q (by have:=u.out;omega);have HX:=za (l.gh (S':=(w.heap.size+2<= ·)) (fun _ _ h=>by have:=u.out;omega));have p:Hid (Below w.heap.size w o):=za (HB.out.trans (q.mono (by have:=u.out;omega)));have kC:w.heap.size+1<o.heap.size:=c.lt;have F:=za c;clear q0 q1 Z S q l;obtain⟨p0,p1,p2,DO,DP,DQ⟩:=a8 c;clear c;obtain⟨J,D,z,_⟩:=a8 ((dP F.out (.string ⟨#[]⟩) (.bool false) (.slice none 0 0)).alloc (.cells #[.string X.text,.bool X.list,.slice m X.sub.length bx] 28));obtain⟨y0,O,Y,_⟩:=a8 ((dP F.out (.string X.text) (.bool X.list) (.slice m X.sub.length bx)).alloc (.cells #[.string X.text,.bool X.list,.slice m X.sub.length bx] 28));rcases eF E with⟨y,k1,k2⟩|⟨y,k1,k2⟩
 ·subst y;rw[zj (by simp)]at b;by_cases G:n<s.size
  ·rw[zl G]at b;go_wp2;refine zo (v:= .tuple #[.agg #[.string ⟨#[]⟩,.bool false,.slice none 0 0],.int .i64 3]) (by simp[results,results61,go_sem,J,D,z]) rfl ?_;rw[b.out];exact⟨((((p.out.setCell (by simp) _).setCell (by simp) _).setCell (by simp) _).alloc (by simp[World.setCell]<;>omega) _),_,_,_,rfl,mS _ _⟩
  rw[zj G]at b;go_wp2;refine zo (v:= .tuple #[.agg #[.string X.text,.bool X.list,.slice m X.sub.length bx],.int .i64 0]) (by simp[results,results61,go_sem,y0,O,Y]) rfl ?_;rw[b.out];exact⟨((((p.out.setCell (by simp) _).setCell (by simp) _).setCell (by simp) _).alloc (by simp[World.setCell]<;>omega) _),_,_,_,rfl,HX.out.only (L:= [w.heap.size+1]) (((((ae.refl _ o).setCell (by simp) _).setCell (by simp) _).setCell (by simp) _).alloc _) (by simp) (fun _ _ h=>by omega)⟩
 rw[zl y]at b;go_wp2;refine zo (v:= .tuple #[.agg #[.string ⟨#[]⟩,.bool false,.slice none 0 0],.int .i64 E]) (by simp[results,results61,go_sem,J,D,z]) rfl ?_;rw[b.out];exact⟨((((p.out.setCell (by simp) _).setCell (by simp) _).setCell (by simp) _).alloc (by simp[World.setCell]<;>omega) _),_,_,_,rfl,mS _ _⟩
