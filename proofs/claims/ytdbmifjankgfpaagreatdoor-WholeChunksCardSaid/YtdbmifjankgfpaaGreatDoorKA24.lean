/- layout.Next, layout.Get. -/
import Derived.Test.YtdbmifjankgfpaaGreatDoorKA18
import Derived.Test.YtdbmifjankgfpaaGreatDoorKA22
set_option linter.all false
set_option maxRecDepth 100000
set_option maxHeartbeats 4000000
open Go.Proofs.Tryz
namespace Go.Proofs.YtdbmifjankgfpaaGreatDoor
open Go.RowKit
theorem agQ (g:Nat)(s:ByteArray)(k:Nat)(f:Int)(w:World)(h:ji w g s k f):
 Calls prog 184 #[.pointer (some ⟨g,0,none⟩)] w fun e w'=>e= .returned (.int .i64 k)/\w=w':=by
 have b:=h.cell 1;simp at b;clear h;go_enter func184,ntmps184
 go_wp2;go_ret;exact⟨rfl,rfl⟩
def acu (w w':World)(R:Int×It×Nat)(e:Ending):Prop:=
 Below w.heap.size w w'/\∃d0 d1 d2,e= .returned (.tuple #[.agg #[d0,d1,d2],.int .i64 R.2.2,.int .i64 R.1])/\gq w' (w.heap.size<= ·) R.2.1 d0 d1 d2
theorem jG.fresh {V:World}{s:ByteArray}{m:Int}{g:Nat}(b:V.heap.size=g):jG (((V.alloc (.cells #[.string s,.int .i64 0,.int .i64 0] 180)).alloc (.cells #[.pointer (some ⟨g,0,none⟩)] 164)).alloc (.cells #[.int .i64 m] 3)) g (g+1+1) (g+1) s 0 0 m:=
 ⟨(af.alloc (af.at_ b) _).alloc _,af.at_ (by simp[b]),af.alloc (af.at_ (by simp[b])) _⟩
theorem QB (ty:Ty)(s:ByteArray)(M:Int)(B:Nat)(w:World)(J z S t3:Value)(hT:cD w B ty J z S t3)(hB:B<=w.heap.size)(hL:Laid w)(ic:ba w)(hs:s.size<=1099511627776):
 Calls prog 156 #[.agg #[J,z,S,t3],.string s,.int .i64 M] w fun e w'=>acu w w' (dk ty s M) e:=by
 obtain⟨W,hW⟩:∃W,(w.alloc (.cells #[J,z,S,t3] 43)).alloc (.cells #[.string ⟨#[]⟩,.bool false,.slice none 0 0] 28)=W:=⟨_,rfl⟩
 obtain⟨hz,r,o,j⟩:=ack hW;have N2:=hT.below (r.mono hB);have hp:=hL.pos;have ai:=ic.pos;have HF:=za (Je ty B W J z S t3 N2 (by omega) (hL.below r hp));have OF:=za N2;have AM:=za (ic.below r ai);have H4:=za o;have N:=za j;have HB:=za r;have p:=za hz;have HW:=za hW;obtain⟨q0,q1,q2,q3,_⟩:=aU o;obtain⟨A,cap,rfl,rfl,rfl,rfl,_⟩:=hT.open_;have n:Hid (dk ty s M=if ty.flat=false then(1,jv,0)else if(oK ty s M).e≠0 then((oK ty s M).e,jv,0)else(0,(oK ty s M).x,s.size-(oK ty s M).q.length)):=za rfl;have aq:=za (fun h=>lY (t:=ty) h);generalize dk ty s M=ar at*;clear hT N2 hL ic o j r hz hW;go_enter func156,ntmps156
 go_wp2_with fail
 rw[HW.out];refine HF.out.mono ?_;rintro e b ⟨rfl,l⟩;have o:=H4.out.ag l (by have:=p.out;omega);have j:=N.out.ag l (by have:=p.out;omega);have ak:=za (AM.out.below l (by have:=p.out;omega));have ao:=za (OF.out.below (l.mono (by have:=p.out;omega)));have cl:w.heap.size+2<=b.heap.size:=by have:=l.size;have:=p.out;omega
 have fS:Hid (Below w.heap.size w b):=za (HB.out.trans (l.mono (by have:=p.out;omega)));have G:=za j;clear q0 q1 q2 q3 l;obtain⟨q0,q1,q2,q3,_⟩:=aU o;obtain⟨E,K,R,C,H,Y⟩:=bg j;clear o j;cases mD:ty.flat with
 |false=>
  rw[mD,zi rfl]at n;obtain⟨y0,y1,y2⟩:=fz G.out (.string ⟨#[]⟩) (.bool false) (.slice none 0 0);go_wp2;refine zk (v:= .tuple #[.agg #[.string ⟨#[]⟩,.bool false,.slice none 0 0],.int .i64 0,.int .i64 1]) (by simp[results,results156,go_sem,y0,y1,y2]) rfl ?_;rw[n.out];exact⟨(((fS.out.setCell (by simp) _).setCell (by simp) _).setCell (by simp) _),_,_,_,rfl,nN _ _⟩
 |true=>
  rw[mD,zh (by simp)]at n;obtain⟨_,hr,_,_,_⟩:=aq.out mD;obtain⟨k,x⟩:∃k,(((b.alloc (.cells #[.string s,.int .i64 0,.int .i64 0] 180)).alloc (.cells #[.pointer (some ⟨b.heap.size,0,none⟩)] 164)).alloc (.cells #[.int .i64 (min M 1024)] 3)).alloc (.cells (kh b.heap.size (b.heap.size+1+1) (b.heap.size+1)) 240)=k:=⟨_,rfl⟩
  have F:Below b.heap.size b k:=by rw[<-x];exact bQ
  have m:jG k b.heap.size (b.heap.size+1+1) (b.heap.size+1) s 0 0 (min M 1024-(0:Nat)):=by
   rw[<-x,show(min M 1024-((0:Nat):Int))=min M 1024 from by simp];exact(jG.fresh (V:=b) rfl).below ((zl _ _).alloc (zd _) _)
  have I:k.heap.size=b.heap.size+4:=by rw[<-x];simp
  have O:=za (Uc ty B k _ _ _ _ b.heap.size (b.heap.size+1+1) (b.heap.size+1) s 0 0 (min M 1024) (ao.out.below (F.mono (by omega))) (by omega) (by omega) (by omega) hr m (by omega) hs (by omega) (ak.out.below F (by omega)) (by omega) (by omega));rw[zK]at O;change Hid (Calls _ _ _ _ fun e w'=>gV k _ _ _ s (min M 1024) (oK ty s M) e w')at O
  have au:=za I;have ei:=za F;have Bw:=za x;unfold iw at O;unfold kh at Bw;have av:w.heap.size<b.heap.size:=by omega
  have sC:w.heap.size<b.heap.size+1:=by omega
  have ay:w.heap.size<b.heap.size+1+1:=by omega
  have aw:w.heap.size<b.heap.size+1+1+1:=by omega
  clear m F x I;generalize oK ty s M=L at*;go_wp2_with fail
  refine(rS s b).mono ?_;rintro e w' ⟨rfl,rfl⟩;go_wp2_with fail
  rw[Bw.out];refine O.out.mono ?_;rintro e c ⟨X,c0,c1,c2,D,m',rfl,hX,m,ho,Ad,i'⟩;obtain⟨d,bx,rfl,rfl,rfl,_⟩:=hX.open_;have I:=au.out;have ad:Below b.heap.size k c:=ho.below (by omega) (by simp;omega);have j:=(G.out.ag ei.out (by omega)).ag ad (by omega);have He:Hid (Below w.heap.size w c):=za (fS.out.trans ((ei.out.trans ad).mono (by omega)));have HX:=za (hX.fe (S':=(w.heap.size+2<= ·)) (fun _ _ h=>by omega));have U:=za m;have UO:=za i';have N:=za j;have r0:c.cell? ⟨b.heap.size+1,0,none⟩=some (.pointer (some ⟨b.heap.size,0,none⟩)):=m.box.cell 0;have aj:=m.box.lt;have al:w.heap.size+1<c.heap.size:=j.lt;clear E K R C H Y q0 q1 q2 q3 hX m ho i' ad I;obtain⟨E,K,R,C,H,Y⟩:=bg j;clear j;go_wp2_with fail
  refine(bw b.heap.size s D L.e _ (U.out.rdr.alloc _)).mono ?_;rintro e w' ⟨rfl,rfl⟩;by_cases y:L.e=0
  ·have an:(L.e !=0)=false:=by simp[y]
   have ah:=za (af.new c 28 #[.string X.text,.bool X.list,.slice d X.sub.length bx]);have q:=za ((zl c.heap.size c).alloc (zd _) (.cells #[.string X.text,.bool X.list,.slice d X.sub.length bx] 28));generalize fW:c.alloc (.cells #[.string X.text,.bool X.list,.slice d X.sub.length bx] 28)=i at*;have HK:Hid (∀V:World,i.heap[c.heap.size]?=V.heap[c.heap.size]?/\i.heap[b.heap.size+1]?=V.heap[b.heap.size+1]?->V.cell? ⟨c.heap.size,0,none⟩=some (.string X.text)/\V.cell? ⟨c.heap.size,1,none⟩=some (.bool X.list)/\V.cell? ⟨c.heap.size,2,none⟩=some (.slice d X.sub.length bx)/\V.cell? ⟨b.heap.size+1,0,none⟩=some (.pointer (some ⟨b.heap.size,0,none⟩))):=za (fun V Z=>by
    have h1:af V c.heap.size 28 #[.string X.text,.bool X.list,.slice d X.sub.length bx]:=Z.1.symm.trans ah.out;have h2:af V (b.heap.size+1) 164 #[.pointer (some ⟨b.heap.size,0,none⟩)]:=Z.2.symm.trans ((q.out.block _ aj).trans U.out.box);exact⟨h1.cell 0,h1.cell 1,h1.cell 2,h2.cell 0⟩)
   have ab:=N.out.ag q.out al;have G:=za ab;clear E K R C H Y;obtain⟨E,K,R,C,H,Y⟩:=bg ab;have rk:=za (agQ b.heap.size s D L.e i.drew (af.drew ((q.out.block _ U.out.rdr.lt).trans U.out.rdr)));clear ab;go_wp2_with fail
   refine aC 5 (fun V=>V.cell? ⟨c.heap.size,0,none⟩=some (.string X.text)/\V.cell? ⟨c.heap.size,1,none⟩=some (.bool X.list)/\V.cell? ⟨c.heap.size,2,none⟩=some (.slice d X.sub.length bx)/\V.cell? ⟨b.heap.size+1,0,none⟩=some (.pointer (some ⟨b.heap.size,0,none⟩))) (by kernel_rfl) (by kernel_rfl) ?_;have hHeld:=HK.out i.drew ⟨rfl,rfl⟩;refine GT.jV [0,1] hHeld (fun _ _ _ _ _ h=>h) (by kernel_rfl) ?_;repeat(refine .c rfl rfl (fun V Z=>by go_simp<;>with_reducible rfl) ?_;simp only[Act.put,zb,ze,zf])
   refine .nil ?_;refine GT.fJ 2 (fun ag u=> ?_) rfl (by kernel_rfl);go_simp;refine rk.out.mono ?_;rintro e w' ⟨rfl,rfl⟩;go_wp2_with fail
   refine u.out _ _ (HK.out i.drew ⟨rfl,rfl⟩) (fun hHeld=> ?_);clear u ag;try simp only[Act.put,zb,ze,zf]
   refine GT.fJ 3 (fun ag u=> ?_) rfl (by kernel_rfl);go_simp;have DS:i.heap[c.heap.size]?=(((i.drew.setCell ⟨w.heap.size+1,0,none⟩ (.string X.text)).setCell ⟨w.heap.size+1,1,none⟩ (.bool X.list)).setCell ⟨w.heap.size+1,2,none⟩ (.slice d X.sub.length bx)).heap[c.heap.size]?/\i.heap[b.heap.size+1]?=(((i.drew.setCell ⟨w.heap.size+1,0,none⟩ (.string X.text)).setCell ⟨w.heap.size+1,1,none⟩ (.bool X.list)).setCell ⟨w.heap.size+1,2,none⟩ (.slice d X.sub.length bx)).heap[b.heap.size+1]?:=by
    rw[zQ _ _ _ _ (by simp;omega),zQ _ _ _ _ (by simp;omega),zQ _ _ _ _ (by simp;omega),zQ _ _ _ _ (by simp;omega),zQ _ _ _ _ (by simp;omega),zQ _ _ _ _ (by simp;omega)];exact⟨rfl,rfl⟩
   refine u.out _ _ (HK.out _ DS) (fun hHeld=> ?_);clear u ag;try simp only[Act.put,zb,ze,zf]
   refine GT.jV [4] hHeld (fun _ _ _ _ _ h=>h) (by kernel_rfl) ?_;refine .c rfl rfl (fun V Z=>by go_simp<;>with_reducible rfl) ?_;simp only[Act.put,zb,ze,zf];refine .nil ?_;refine GT.pA 5 ?_ rfl (by kernel_rfl);go_simp;obtain⟨y0,y1,y2⟩:=fz G.out (.string X.text) (.bool X.list) (.slice d X.sub.length bx);rw[zh (by simp[y])]at n;obtain⟨g1,g2,g3⟩:=UO.out y;have We:Hid (ar=(0,X,D)):=za (by rw[n.out,g1,g2,zR,aa];congr 2;omega);clear DS;go_wp2;refine zk (v:= .tuple #[.agg #[.string X.text,.bool X.list,.slice d X.sub.length bx],.int .i64 D,.int .i64 0]) (by simp[results,results156,go_sem,y0,y1,y2]) rfl ?_;rw[We.out];have jl:Below w.heap.size w i:=He.out.trans (q.out.mono He.out.size);exact⟨(((jl.setCell (by simp) _).setCell (by simp) _).setCell (by simp) _).drew,_,_,_,rfl,(HX.out.below q.out).only (L:= [w.heap.size+1]) ((((ae.refl _ i).setCell (by simp) _).setCell (by simp) _).setCell (by simp) _).drew (by simp) (fun _ _ h=>by omega)⟩
  have an:(L.e !=0)=true:=yL.2 y;rw[zi y]at n;obtain⟨d0,d1,d2,_⟩:=bg ((ec N.out (.string ⟨#[]⟩) (.bool false) (.slice none 0 0)).alloc (.cells #[.string X.text,.bool X.list,.slice d X.sub.length bx] 28));go_wp2;refine zk (v:= .tuple #[.agg #[.string ⟨#[]⟩,.bool false,.slice none 0 0],.int .i64 0,.int .i64 L.e]) (by simp[results,results156,go_sem,d0,d1,d2]) rfl ?_;rw[n.out];exact⟨((((He.out.setCell (by simp) _).setCell (by simp) _).setCell (by simp) _).alloc (by simp[World.setCell]<;>omega) _),_,_,_,rfl,nN _ _⟩
theorem Ue (ty:Ty)(s:ByteArray)(M:Int)(B:Nat)(w:World)(k i j t3:Value)(y:cD w B ty k i j t3)(hB:B<=w.heap.size)(G:Laid w)(F:ba w)(S:s.size<=1099511627776):
 Calls prog 122 #[.agg #[k,i,j,t3],.string s,.int .i64 M] w fun e w'=>vM w w' (jP ty s M).2 (jP ty s M).1 e:=by
 obtain⟨W,x⟩:∃W,(w.alloc (.cells #[k,i,j,t3] 43)).alloc (.cells #[.string ⟨#[]⟩,.bool false,.slice none 0 0] 28)=W:=⟨_,rfl⟩
 obtain⟨hz,d,C,c⟩:=ack x;have D:=y.below (d.mono hB);have HN:=za (QB ty s M B W k i j t3 D (by omega) (G.below d G.pos) (F.below d F.pos) S);have U:=za c;have HB:=za d;have p:=za hz;have O:=za x;obtain⟨q0,q1,q2,q3,_⟩:=aU C;obtain⟨A,cap,rfl,rfl,rfl,rfl,_⟩:=y.open_;have b:Hid (jP ty s M=if(dk ty s M).1≠0 then((dk ty s M).1,jv)else if(dk ty s M).2.2<s.size then(3,jv)else(0,(dk ty s M).2.1)):=za rfl;generalize jP ty s M=aa at*;generalize dk ty s M=N at*;obtain⟨E,X,n⟩:=N;clear y D C c d hz x;simp only at b;go_enter func122,ntmps122
 go_wp2_with fail
 rw[O.out];refine HN.out.mono ?_;rintro e u ⟨r,d0,d1,d2,rfl,l⟩;simp only at l⊢;obtain⟨m,bx,rfl,rfl,rfl,_⟩:=l.open_;have c:=U.out.ag r (by have:=p.out;omega);have Z:=za (l.fe (S':=(w.heap.size+2<= ·)) (fun _ _ h=>by have:=p.out;omega));have q:Hid (Below w.heap.size w u):=za (HB.out.trans (r.mono (by have:=p.out;omega)));have jI:w.heap.size+1<u.heap.size:=c.lt;have z:=za c;clear q0 q1 q2 q3 r l;obtain⟨p0,p1,p2,Ev,Eu,Ew⟩:=bg c;clear c;obtain⟨H,K,I,_⟩:=bg ((ec z.out (.string ⟨#[]⟩) (.bool false) (.slice none 0 0)).alloc (.cells #[.string X.text,.bool X.list,.slice m X.sub.length bx] 28));obtain⟨Y,R,y2,_⟩:=bg ((ec z.out (.string X.text) (.bool X.list) (.slice m X.sub.length bx)).alloc (.cells #[.string X.text,.bool X.list,.slice m X.sub.length bx] 28));rcases eT E with⟨o,k1,k2⟩|⟨o,k1,k2⟩
 ·subst o;rw[zh (by simp)]at b;by_cases J:n<s.size
  ·rw[zi J]at b;go_wp2;refine zk (v:= .tuple #[.agg #[.string ⟨#[]⟩,.bool false,.slice none 0 0],.int .i64 3]) (by simp[results,results122,go_sem,H,K,I]) rfl ?_;rw[b.out];exact⟨((((q.out.setCell (by simp) _).setCell (by simp) _).setCell (by simp) _).alloc (by simp[World.setCell]<;>omega) _),_,_,_,rfl,nN _ _⟩
  rw[zh J]at b;go_wp2;refine zk (v:= .tuple #[.agg #[.string X.text,.bool X.list,.slice m X.sub.length bx],.int .i64 0]) (by simp[results,results122,go_sem,Y,R,y2]) rfl ?_;rw[b.out];exact⟨((((q.out.setCell (by simp) _).setCell (by simp) _).setCell (by simp) _).alloc (by simp[World.setCell]<;>omega) _),_,_,_,rfl,Z.out.only (L:= [w.heap.size+1]) (((((ae.refl _ u).setCell (by simp) _).setCell (by simp) _).setCell (by simp) _).alloc _) (by simp) (fun _ _ h=>by omega)⟩
 rw[zi o]at b;go_wp2;refine zk (v:= .tuple #[.agg #[.string ⟨#[]⟩,.bool false,.slice none 0 0],.int .i64 E]) (by simp[results,results122,go_sem,H,K,I]) rfl ?_;rw[b.out];exact⟨((((q.out.setCell (by simp) _).setCell (by simp) _).setCell (by simp) _).alloc (by simp[World.setCell]<;>omega) _),_,_,_,rfl,nN _ _⟩
