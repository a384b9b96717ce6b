/- layout.Next, layout.Get. -/
import Derived.Test.YtdbmifjankgfpaaGreatDoorKA20
import Derived.Test.YtdbmifjankgfpaaGreatDoorKA25
set_option linter.all false
set_option maxRecDepth 100000
set_option maxHeartbeats 4000000
open Go.Proofs.Tryz
namespace Go.Proofs.YtdbmifjankgfpaaGreatDoor
open Go.RowKit
theorem agA (g:Nat)(s:ByteArray)(k:Nat)(f:Int)(w:World)(h:i' w g s k f):
 Calls prog 184 #[.pointer (some ⟨g,0,none⟩)] w fun e w'=>e= .returned (.int .i64 k)/\w=w':=by
 have b:=h.cell 1;simp at b;clear h;go_enter func184,ntmps184
 go_wp2;go_ret;exact⟨rfl,rfl⟩
def acn (w w':World)(R:Int×It×Nat)(e:Ending):Prop:=
 Below w.heap.size w w'/\∃d0 d1 d2,e= .returned (.tuple #[.agg #[d0,d1,d2],.int .i64 R.2.2,.int .i64 R.1])/\ga w' (w.heap.size<= ·) R.2.1 d0 d1 d2
theorem jz.fresh {V:World}{s:ByteArray}{m:Int}{g:Nat}(b:V.heap.size=g):jz (((V.alloc (.cells #[.string s,.int .i64 0,.int .i64 0] 180)).alloc (.cells #[.pointer (some ⟨g,0,none⟩)] 164)).alloc (.cells #[.int .i64 m] 3)) g (g+1+1) (g+1) s 0 0 m:=
 ⟨(af.alloc (af.at_ b) _).alloc _,af.at_ (by simp[b]),af.alloc (af.at_ (by simp[b])) _⟩
theorem QR (ty:Ty)(s:ByteArray)(M:Int)(B:Nat)(w:World)(S J F t3:Value)(hT:cC w B ty S J F t3)(hB:B<=w.heap.size)(hL:Laid w)(iR:bj w)(hs:s.size<=1099511627776):
 Calls prog 156 #[.agg #[S,J,F,t3],.string s,.int .i64 M] w fun e w'=>acn w w' (dv ty s M) e:=by
 obtain⟨W,hW⟩:∃W,(w.alloc (.cells #[S,J,F,t3] 43)).alloc (.cells #[.string ⟨#[]⟩,.bool false,.slice none 0 0] 28)=W:=⟨_,rfl⟩
 obtain⟨hz,u,o,i⟩:=ace hW;have Oj:=hT.below (u.mono hB);have hp:=hL.pos;have ao:=iR.pos;have HF:=za (Jo ty B W S J F t3 Oj (by omega) (hL.below u hp));have OX:=za Oj;have Ar:=za (iR.below u ao);have H4:=za o;have N:=za i;have HB:=za u;have p:=za hz;have HW:=za hW;obtain⟨q0,q1,q2,q3,_⟩:=aN o;obtain⟨A,cap,rfl,rfl,rfl,rfl,_⟩:=hT.open_;have m:Hid (dv ty s M=if ty.flat=false then(1,jk,0)else if(oo ty s M).e≠0 then((oo ty s M).e,jk,0)else(0,(oo ty s M).x,s.size-(oo ty s M).q.length)):=za rfl;have aj:=za (fun h=>jI (t:=ty) h);generalize dv ty s M=aq at*;clear hT Oj hL iR o i u hz hW;go_enter func156,ntmps156
 go_wp2_with fail
 rw[HW.out];refine HF.out.mono ?_;rintro e b ⟨rfl,n⟩;have o:=H4.out.ag n (by have:=p.out;omega);have i:=N.out.ag n (by have:=p.out;omega);have an:=za (Ar.out.below n (by have:=p.out;omega));have ah:=za (OX.out.below (n.mono (by have:=p.out;omega)));have cc:w.heap.size+2<=b.heap.size:=by have:=n.size;have:=p.out;omega
 have eE:Hid (Below w.heap.size w b):=za (HB.out.trans (n.mono (by have:=p.out;omega)));have O:=za i;clear q0 q1 q2 q3 n;obtain⟨q0,q1,q2,q3,_⟩:=aN o;obtain⟨R,G,U,Z,K,D⟩:=aZ i;clear o i;cases mu:ty.flat with
 |false=>
  rw[mu,zi rfl]at m;obtain⟨y0,y1,y2⟩:=fz O.out (.string ⟨#[]⟩) (.bool false) (.slice none 0 0);go_wp2;refine zk (v:= .tuple #[.agg #[.string ⟨#[]⟩,.bool false,.slice none 0 0],.int .i64 0,.int .i64 1]) (by simp[results,results156,go_sem,y0,y1,y2]) rfl ?_;rw[m.out];exact⟨(((eE.out.setCell (by simp) _).setCell (by simp) _).setCell (by simp) _),_,_,_,rfl,ny _ _⟩
 |true=>
  rw[mu,zh (by simp)]at m;obtain⟨_,hr,_,_,_⟩:=aj.out mu;obtain⟨k,q⟩:∃k,(((b.alloc (.cells #[.string s,.int .i64 0,.int .i64 0] 180)).alloc (.cells #[.pointer (some ⟨b.heap.size,0,none⟩)] 164)).alloc (.cells #[.int .i64 (min M 1024)] 3)).alloc (.cells (j7 b.heap.size (b.heap.size+1+1) (b.heap.size+1)) 240)=k:=⟨_,rfl⟩
  have E:Below b.heap.size b k:=by rw[<-q];exact bD
  have l:jz k b.heap.size (b.heap.size+1+1) (b.heap.size+1) s 0 0 (min M 1024-(0:Nat)):=by
   rw[<-q,show(min M 1024-((0:Nat):Int))=min M 1024 from by simp];exact(jz.fresh (V:=b) rfl).below ((zl _ _).alloc (zg _) _)
  have z:k.heap.size=b.heap.size+4:=by rw[<-q];simp
  have H:=za (Ud ty B k _ _ _ _ b.heap.size (b.heap.size+1+1) (b.heap.size+1) s 0 0 (min M 1024) (ah.out.below (E.mono (by omega))) (by omega) (by omega) (by omega) hr l (by omega) hs (by omega) (an.out.below E (by omega)) (by omega) (by omega));rw[zJ]at H;change Hid (Calls _ _ _ _ fun e w'=>gR k _ _ _ s (min M 1024) (oo ty s M) e w')at H
  have ak:=za z;have dB:=za E;have Bj:=za q;unfold il at H;unfold j7 at Bj;have ay:w.heap.size<b.heap.size:=by omega
  have ss:w.heap.size<b.heap.size+1:=by omega
  have av:w.heap.size<b.heap.size+1+1:=by omega
  have aw:w.heap.size<b.heap.size+1+1+1:=by omega
  clear l E q z;generalize oo ty s M=L at*;go_wp2_with fail
  refine(rO s b).mono ?_;rintro e w' ⟨rfl,rfl⟩;go_wp2_with fail
  rw[Bj.out];refine H.out.mono ?_;rintro e c ⟨X,c0,c1,c2,C,m',rfl,hX,l,ho,wT,iQ⟩;obtain⟨d,bx,rfl,rfl,rfl,_⟩:=hX.open_;have z:=ak.out;have ad:Below b.heap.size k c:=ho.below (by omega) (by simp;omega);have i:=(O.out.ag dB.out (by omega)).ag ad (by omega);have Ej:Hid (Below w.heap.size w c):=za (eE.out.trans ((dB.out.trans ad).mono (by omega)));have HX:=za (hX.gQ (S':=(w.heap.size+2<= ·)) (fun _ _ h=>by omega));have I:=za l;have UR:=za iQ;have N:=za i;have r0:c.cell? ⟨b.heap.size+1,0,none⟩=some (.pointer (some ⟨b.heap.size,0,none⟩)):=l.box.cell 0;have ai:=l.box.lt;have ar:w.heap.size+1<c.heap.size:=i.lt;clear R G U Z K D q0 q1 q2 q3 hX l ho iQ ad z;obtain⟨R,G,U,Z,K,D⟩:=aZ i;clear i;go_wp2_with fail
  refine(bu b.heap.size s C L.e _ (I.out.rdr.alloc _)).mono ?_;rintro e w' ⟨rfl,rfl⟩;by_cases y:L.e=0
  ·have au:(L.e !=0)=false:=by simp[y]
   have al:=za (af.new c 28 #[.string X.text,.bool X.list,.slice d X.sub.length bx]);have x:=za ((zl c.heap.size c).alloc (zg _) (.cells #[.string X.text,.bool X.list,.slice d X.sub.length bx] 28));generalize fV:c.alloc (.cells #[.string X.text,.bool X.list,.slice d X.sub.length bx] 28)=j at*;have HK:Hid (∀V:World,j.heap[c.heap.size]?=V.heap[c.heap.size]?/\j.heap[b.heap.size+1]?=V.heap[b.heap.size+1]?->V.cell? ⟨c.heap.size,0,none⟩=some (.string X.text)/\V.cell? ⟨c.heap.size,1,none⟩=some (.bool X.list)/\V.cell? ⟨c.heap.size,2,none⟩=some (.slice d X.sub.length bx)/\V.cell? ⟨b.heap.size+1,0,none⟩=some (.pointer (some ⟨b.heap.size,0,none⟩))):=za (fun V Y=>by
    have h1:af V c.heap.size 28 #[.string X.text,.bool X.list,.slice d X.sub.length bx]:=Y.1.symm.trans al.out;have h2:af V (b.heap.size+1) 164 #[.pointer (some ⟨b.heap.size,0,none⟩)]:=Y.2.symm.trans ((x.out.block _ ai).trans I.out.box);exact⟨h1.cell 0,h1.cell 1,h1.cell 2,h2.cell 0⟩)
   have ab:=N.out.ag x.out ar;have O:=za ab;clear R G U Z K D;obtain⟨R,G,U,Z,K,D⟩:=aZ ab;have oy:=za (agA b.heap.size s C L.e j.drew (af.drew ((x.out.block _ I.out.rdr.lt).trans I.out.rdr)));clear ab;go_wp2_with fail
   refine aB 5 (fun V=>V.cell? ⟨c.heap.size,0,none⟩=some (.string X.text)/\V.cell? ⟨c.heap.size,1,none⟩=some (.bool X.list)/\V.cell? ⟨c.heap.size,2,none⟩=some (.slice d X.sub.length bx)/\V.cell? ⟨b.heap.size+1,0,none⟩=some (.pointer (some ⟨b.heap.size,0,none⟩))) (by kernel_rfl) (by kernel_rfl) ?_;have hHeld:=HK.out j.drew ⟨rfl,rfl⟩;refine GT.jr [0,1] hHeld (fun _ _ _ _ _ h=>h) (by kernel_rfl) ?_;repeat(refine .c rfl rfl (fun V Y=>by go_simp<;>with_reducible rfl) ?_;simp only[Act.put,zb,zd,ze])
   refine .nil ?_;refine GT.fF 2 (fun ag r=> ?_) rfl (by kernel_rfl);go_simp;refine oy.out.mono ?_;rintro e w' ⟨rfl,rfl⟩;go_wp2_with fail
   refine r.out _ _ (HK.out j.drew ⟨rfl,rfl⟩) (fun hHeld=> ?_);clear r ag;try simp only[Act.put,zb,zd,ze]
   refine GT.fF 3 (fun ag r=> ?_) rfl (by kernel_rfl);go_simp;have DF:j.heap[c.heap.size]?=(((j.drew.setCell ⟨w.heap.size+1,0,none⟩ (.string X.text)).setCell ⟨w.heap.size+1,1,none⟩ (.bool X.list)).setCell ⟨w.heap.size+1,2,none⟩ (.slice d X.sub.length bx)).heap[c.heap.size]?/\j.heap[b.heap.size+1]?=(((j.drew.setCell ⟨w.heap.size+1,0,none⟩ (.string X.text)).setCell ⟨w.heap.size+1,1,none⟩ (.bool X.list)).setCell ⟨w.heap.size+1,2,none⟩ (.slice d X.sub.length bx)).heap[b.heap.size+1]?:=by
    rw[zR _ _ _ _ (by simp;omega),zR _ _ _ _ (by simp;omega),zR _ _ _ _ (by simp;omega),zR _ _ _ _ (by simp;omega),zR _ _ _ _ (by simp;omega),zR _ _ _ _ (by simp;omega)];exact⟨rfl,rfl⟩
   refine r.out _ _ (HK.out _ DF) (fun hHeld=> ?_);clear r ag;try simp only[Act.put,zb,zd,ze]
   refine GT.jr [4] hHeld (fun _ _ _ _ _ h=>h) (by kernel_rfl) ?_;refine .c rfl rfl (fun V Y=>by go_simp<;>with_reducible rfl) ?_;simp only[Act.put,zb,zd,ze];refine .nil ?_;refine GT.oL 5 ?_ rfl (by kernel_rfl);go_simp;obtain⟨y0,y1,y2⟩:=fz O.out (.string X.text) (.bool X.list) (.slice d X.sub.length bx);rw[zh (by simp[y])]at m;obtain⟨g1,g2,g3⟩:=UR.out y;have We:Hid (aq=(0,X,C)):=za (by rw[m.out,g1,g2,zS,aa];congr 2;omega);clear DF;go_wp2;refine zk (v:= .tuple #[.agg #[.string X.text,.bool X.list,.slice d X.sub.length bx],.int .i64 C,.int .i64 0]) (by simp[results,results156,go_sem,y0,y1,y2]) rfl ?_;rw[We.out];have jA:Below w.heap.size w j:=Ej.out.trans (x.out.mono Ej.out.size);exact⟨(((jA.setCell (by simp) _).setCell (by simp) _).setCell (by simp) _).drew,_,_,_,rfl,(HX.out.below x.out).only (L:= [w.heap.size+1]) ((((ae.refl _ j).setCell (by simp) _).setCell (by simp) _).setCell (by simp) _).drew (by simp) (fun _ _ h=>by omega)⟩
  have au:(L.e !=0)=true:=yO.2 y;rw[zi y]at m;obtain⟨d0,d1,d2,_⟩:=aZ ((ef N.out (.string ⟨#[]⟩) (.bool false) (.slice none 0 0)).alloc (.cells #[.string X.text,.bool X.list,.slice d X.sub.length bx] 28));go_wp2;refine zk (v:= .tuple #[.agg #[.string ⟨#[]⟩,.bool false,.slice none 0 0],.int .i64 0,.int .i64 L.e]) (by simp[results,results156,go_sem,d0,d1,d2]) rfl ?_;rw[m.out];exact⟨((((Ej.out.setCell (by simp) _).setCell (by simp) _).setCell (by simp) _).alloc (by simp[World.setCell]<;>omega) _),_,_,_,rfl,ny _ _⟩
theorem Uf (ty:Ty)(s:ByteArray)(M:Int)(B:Nat)(w:World)(i k m t3:Value)(q:cC w B ty i k m t3)(hB:B<=w.heap.size)(C:Laid w)(H:bj w)(hs:s.size<=1099511627776):
 Calls prog 122 #[.agg #[i,k,m,t3],.string s,.int .i64 M] w fun e w'=>vG w w' (jH ty s M).2 (jH ty s M).1 e:=by
 obtain⟨W,u⟩:∃W,(w.alloc (.cells #[i,k,m,t3] 43)).alloc (.cells #[.string ⟨#[]⟩,.bool false,.slice none 0 0] 28)=W:=⟨_,rfl⟩
 obtain⟨hz,d,I,c⟩:=ace u;have J:=q.below (d.mono hB);have HN:=za (QR ty s M B W i k m t3 J (by omega) (C.below d C.pos) (H.below d H.pos) hs);have H5:=za c;have U:=za d;have o:=za hz;have R:=za u;obtain⟨N,q1,S,Z,_⟩:=aN I;obtain⟨A,cap,rfl,rfl,rfl,rfl,_⟩:=q.open_;have b:Hid (jH ty s M=if(dv ty s M).1≠0 then((dv ty s M).1,jk)else if(dv ty s M).2.2<s.size then(3,jk)else(0,(dv ty s M).2.1)):=za rfl;generalize jH ty s M=ab at*;generalize dv ty s M=aa at*;obtain⟨E,X,n⟩:=aa;clear q J I c d hz u;simp only at b;go_enter func122,ntmps122
 go_wp2_with fail
 rw[R.out];refine HN.out.mono ?_;rintro e x ⟨p,d0,d1,d2,rfl,j⟩;simp only at j⊢;obtain⟨l,bx,rfl,rfl,rfl,_⟩:=j.open_;have c:=H5.out.ag p (by have:=o.out;omega);have HX:=za (j.gQ (S':=(w.heap.size+2<= ·)) (fun _ _ h=>by have:=o.out;omega));have y:Hid (Below w.heap.size w x):=za (U.out.trans (p.mono (by have:=o.out;omega)));have kW:w.heap.size+1<x.heap.size:=c.lt;have K:=za c;clear N q1 S Z p j;obtain⟨p0,p1,p2,Ei,Ek,Eh⟩:=aZ c;clear c;obtain⟨F,G,D,_⟩:=aZ ((ef K.out (.string ⟨#[]⟩) (.bool false) (.slice none 0 0)).alloc (.cells #[.string X.text,.bool X.list,.slice l X.sub.length bx] 28));obtain⟨O,Y,y2,_⟩:=aZ ((ef K.out (.string X.text) (.bool X.list) (.slice l X.sub.length bx)).alloc (.cells #[.string X.text,.bool X.list,.slice l X.sub.length bx] 28));rcases eP E with⟨r,k1,k2⟩|⟨r,k1,k2⟩
 ·subst r;rw[zh (by simp)]at b;by_cases z:n<s.size
  ·rw[zi z]at b;go_wp2;refine zk (v:= .tuple #[.agg #[.string ⟨#[]⟩,.bool false,.slice none 0 0],.int .i64 3]) (by simp[results,results122,go_sem,F,G,D]) rfl ?_;rw[b.out];exact⟨((((y.out.setCell (by simp) _).setCell (by simp) _).setCell (by simp) _).alloc (by simp[World.setCell]<;>omega) _),_,_,_,rfl,ny _ _⟩
  rw[zh z]at b;go_wp2;refine zk (v:= .tuple #[.agg #[.string X.text,.bool X.list,.slice l X.sub.length bx],.int .i64 0]) (by simp[results,results122,go_sem,O,Y,y2]) rfl ?_;rw[b.out];exact⟨((((y.out.setCell (by simp) _).setCell (by simp) _).setCell (by simp) _).alloc (by simp[World.setCell]<;>omega) _),_,_,_,rfl,HX.out.only (L:= [w.heap.size+1]) (((((ae.refl _ x).setCell (by simp) _).setCell (by simp) _).setCell (by simp) _).alloc _) (by simp) (fun _ _ h=>by omega)⟩
 rw[zi r]at b;go_wp2;refine zk (v:= .tuple #[.agg #[.string ⟨#[]⟩,.bool false,.slice none 0 0],.int .i64 E]) (by simp[results,results122,go_sem,F,G,D]) rfl ?_;rw[b.out];exact⟨((((y.out.setCell (by simp) _).setCell (by simp) _).setCell (by simp) _).alloc (by simp[World.setCell]<;>omega) _),_,_,_,rfl,ny _ _⟩
