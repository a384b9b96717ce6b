/- layout.Next, layout.Get. -/
import Derived.Test.YtimoclkoflamkaaGreatDoorKA16
import Derived.Test.YtimoclkoflamkaaGreatDoorKA17
set_option linter.all false
set_option maxRecDepth 100000
set_option maxHeartbeats 4000000
open Go.Proofs.Tryz
namespace Go.Proofs.YtimoclkoflamkaaGreatDoor
open Go.RowKit
theorem aiS (g:Nat)(s:ByteArray)(k:Nat)(f:Int)(w:World)(h:iP w g s k f):
 Calls prog 165 #[(g,0)] w fun e w'=>e= .returned k/\w=w':=by
 have b:=h.cell 1;simp at b;clear h;go_enter func165,ntmps165
 go_wp2;go_ret;exact⟨rfl,rfl⟩
def aey (w w':World)(R:Int×It×Nat)(e:Ending):Prop:=
 (w,w')/\∃d0 d1 d2,e= .returned (.tuple #[.agg #[d0,d1,d2],R.2.2,R.1])/\fV w' (w.heap.size<= ·) R.2.1 d0 d1 d2
theorem jC.fresh {V:World}{s:ByteArray}{m:Int}{g:Nat}(b:V.heap.size=g):jC (((V.alloc (.cells #[s,(0:Int),(0:Int)] 234)).alloc (.cells #[(g,0)] 191)).alloc (.cells #[m] 3)) g (g+1+1) (g+1) s 0 0 m:=
 ⟨(af.alloc (af.at_ b) _).alloc _,af.at_ (by simp[b]),af.alloc (af.at_ (by simp[b])) _⟩
theorem Sy (ty:Ty)(s:ByteArray)(M:Int)(B:Nat)(w:World)(F N z t3:Value)(hT:cz w B ty F N z t3)(hB:B<=w.heap.size)(hL:Laid w)(gz:aW w)(hs:s.size<=1099511627776):
 Calls prog 122 #[.agg #[F,N,z,t3],s,M] w fun e w'=>aey w w' (dk ty s M) e:=by
 obtain⟨W,hW⟩:∃W,(w.alloc (.cells #[F,N,z,t3] 70)).alloc (.cells #[eS,false,nS] 28)=W:=⟨_,rfl⟩
 obtain⟨hz,y,p,j⟩:=aep hW;have PG:=hT.below (y.mono hB);have hp:=hL.pos;have au:=gz.pos;have HF:=za (Kq ty B W F N z t3 PG (by omega) (hL.below y hp));have I9:=za PG;have EV:=za (gz.below y au);have H4:=za p;have Y:=za j;have HB:=za y;have o:=za hz;have HW:=za hW;obtain⟨q0,q1,q2,q3,_⟩:=aY p;obtain⟨A,cap,rfl,rfl,rfl,rfl,_⟩:=hT.open_;have m:Hid (dk ty s M=if ty.flat=false then(1,kG,0)else if(oS ty s M).e≠0 then((oS ty s M).e,kG,0)else(0,(oS ty s M).x,s.size-(oS ty s M).q.length)):=za rfl;have an:=za (fun h=>jM (t:=ty) h);generalize dk ty s M=ak at*;clear hT PG hL gz p j y hz hW;go_enter func122,ntmps122
 go_wp2_with fail
 rw[HW.out];refine HF.out.mono ?_;rintro e b ⟨rfl,n⟩;have p:=H4.out.ah n (by have:=o.out;omega);have j:=Y.out.ah n (by have:=o.out;omega);have ao:=za (EV.out.below n (by have:=o.out;omega));have ai:=za (I9.out.below (n.mono (by have:=o.out;omega)));have cg:w.heap.size+2<=b.heap.size:=by have:=n.size;have:=o.out;omega
 have ic:Hid (w,b):=za (HB.out.trans (n.mono (by have:=o.out;omega)));have O:=za j;clear q0 q1 q2 q3 n;obtain⟨q0,q1,q2,q3,_⟩:=aY p;obtain⟨H,C,K,I,U,S⟩:=bq j;clear p j;cases mP:ty.flat with
 |false=>
  rw[mP,zg rfl]at m;obtain⟨y0,y1,y2⟩:=fw O.out eS false nS;go_wp2;refine zj (v:= .tuple #[.agg #[eS,false,nS],(0:Int),(1:Int)]) (by simp[results,results122,go_sem,y0,y1,y2]) rfl ?_;rw[m.out];exact⟨(((ic.out.setCell (by simp) _).setCell (by simp) _).setCell (by simp) _),_,_,_,rfl,nH _ _⟩
 |true=>
  rw[mP,zf (by simp)]at m;obtain⟨_,hr,_,_,_⟩:=an.out mP;obtain⟨k,x⟩:∃k,(((b.alloc (.cells #[s,(0:Int),(0:Int)] 234)).alloc (.cells #[(b.heap.size,0)] 191)).alloc (.cells #[.int .i64 (min M 1024)] 3)).alloc (.cells (j8 b.heap.size (b.heap.size+1+1) (b.heap.size+1)) 223)=k:=⟨_,rfl⟩
  have E:Below b.heap.size b k:=by rw[<-x];exact bQ
  have l:jC k b.heap.size (b.heap.size+1+1) (b.heap.size+1) s 0 0 (min M 1024-(0:Nat)):=by
   rw[<-x,show(min M 1024-((0:Nat):Int))=min M 1024 from by simp];exact(jC.fresh (V:=b) rfl).below ((zi _ _).alloc (ze _) _)
  have R:k.heap.size=b.heap.size+4:=by rw[<-x];simp
  have Z:=za (VS ty B k _ _ _ _ b.heap.size (b.heap.size+1+1) (b.heap.size+1) s 0 0 (min M 1024) (ai.out.below (E.mono (by omega))) (by omega) (by omega) (by omega) hr l (by omega) hs (by omega) (ao.out.below E (by omega)) (by omega) (by omega));rw[zG]at Z;change Hid (Calls _ _ _ _ fun e w'=>gU k _ _ _ s (min M 1024) (oS ty s M) e w')at Z
  have aq:=za R;have dK:=za E;have Be:=za x;unfold js at Z;unfold j8 at Be;have ay:w.heap.size<b.heap.size:=by omega
  have B8:w.heap.size<b.heap.size+1:=by omega
  have av:w.heap.size<b.heap.size+1+1:=by omega
  have aw:w.heap.size<b.heap.size+1+1+1:=by omega
  clear l E x R;generalize oS ty s M=L at*;go_wp2_with fail
  refine(sO s b).mono ?_;rintro e w' ⟨rfl,rfl⟩;go_wp2_with fail
  rw[Be.out];refine Z.out.mono ?_;rintro e c ⟨X,c0,c1,c2,G,m',rfl,hX,l,ho,AY,iW⟩;obtain⟨i,bx,rfl,rfl,rfl,_⟩:=hX.open_;have R:=aq.out;have ad:Below b.heap.size k c:=ho.below (by omega) (by simp;omega);have j:=(O.out.ah dK.out (by omega)).ah ad (by omega);have Ce:Hid (w,c):=za (ic.out.trans ((dK.out.trans ad).mono (by omega)));have HX:=za (hX.eG (S':=(w.heap.size+2<= ·)) (fun _ _ h=>by omega));have D:=za l;have WN:=za iW;have Y:=za j;have r0:c.cell? (b.heap.size+1,0)=some (.pointer (some (b.heap.size,0))):=l.box.cell 0;have aj:=l.box.lt;have al:w.heap.size+1<c.heap.size:=j.lt;clear H C K I U S q0 q1 q2 q3 hX l ho iW ad R;obtain⟨H,C,K,I,U,S⟩:=bq j;clear j;go_wp2_with fail
  refine(bu b.heap.size s G L.e _ (D.out.rdr.alloc _)).mono ?_;rintro e w' ⟨rfl,rfl⟩;by_cases q:L.e=0
  ·have ar:(L.e !=0)=false:=by simp[q]
   have ah:=za (af.new c 28 #[X.text,X.list,.slice i X.sub.length bx]);have u:=za ((zi c.heap.size c).alloc (ze _) (.cells #[X.text,X.list,.slice i X.sub.length bx] 28));generalize ee:c.alloc (.cells #[X.text,X.list,.slice i X.sub.length bx] 28)=d at*;have HK:Hid (∀V:World,d.heap[c.heap.size]?=V.heap[c.heap.size]?/\d.heap[b.heap.size+1]?=V.heap[b.heap.size+1]?->(V,c.heap.size,0,X.text)/\(V,c.heap.size,1,X.list)/\(V,c.heap.size,2,Value.slice i X.sub.length bx)/\(V,b.heap.size+1,0,b.heap.size,0)):=za (fun V J=>by
    have h1:af V c.heap.size 28 #[X.text,X.list,.slice i X.sub.length bx]:=J.1.symm.trans ah.out;have h2:af V (b.heap.size+1) 191 #[(b.heap.size,0)]:=J.2.symm.trans ((u.out.block _ aj).trans D.out.box);exact⟨h1.cell 0,h1.cell 1,h1.cell 2,h2.cell 0⟩)
   have ab:=Y.out.ah u.out al;have O:=za ab;clear H C K I U S;obtain⟨H,C,K,I,U,S⟩:=bq ab;have Dw:=za (aiS b.heap.size s G L.e d.drew (af.drew ((u.out.block _ D.out.rdr.lt).trans D.out.rdr)));clear ab;go_wp2_with fail
   refine aL 5 (fun V=>(V,c.heap.size,0,X.text)/\(V,c.heap.size,1,X.list)/\(V,c.heap.size,2,Value.slice i X.sub.length bx)/\(V,b.heap.size+1,0,b.heap.size,0)) (by kernel_rfl) (by kernel_rfl) ?_;have hHeld:=HK.out d.drew ⟨rfl,rfl⟩;refine GT.iv [0,1] hHeld (fun _ _ _ _ _ h=>h) (by kernel_rfl) ?_;repeat(refine .c rfl rfl (fun V J=>by go_simp<;>with_reducible rfl) ?_;simp only[Act.put,zb,zc,zd])
   refine .nil ?_;refine GT.fx 2 (fun ag r=> ?_) rfl (by kernel_rfl);go_simp;refine Dw.out.mono ?_;rintro e w' ⟨rfl,rfl⟩;go_wp2_with fail
   refine r.out _ _ (HK.out d.drew ⟨rfl,rfl⟩) (fun hHeld=> ?_);clear r ag;try simp only[Act.put,zb,zc,zd]
   refine GT.fx 3 (fun ag r=> ?_) rfl (by kernel_rfl);go_simp;have pt:d.heap[c.heap.size]?=(((d.drew.setCell (w.heap.size+1,0) X.text).setCell (w.heap.size+1,1) X.list).setCell (w.heap.size+1,2) (.slice i X.sub.length bx)).heap[c.heap.size]?/\d.heap[b.heap.size+1]?=(((d.drew.setCell (w.heap.size+1,0) X.text).setCell (w.heap.size+1,1) X.list).setCell (w.heap.size+1,2) (.slice i X.sub.length bx)).heap[b.heap.size+1]?:=by
    rw[zR _ _ _ _ (by simp;omega),zR _ _ _ _ (by simp;omega),zR _ _ _ _ (by simp;omega),zR _ _ _ _ (by simp;omega),zR _ _ _ _ (by simp;omega),zR _ _ _ _ (by simp;omega)];exact⟨rfl,rfl⟩
   refine r.out _ _ (HK.out _ pt) (fun hHeld=> ?_);clear r ag;try simp only[Act.put,zb,zc,zd]
   refine GT.iv [4] hHeld (fun _ _ _ _ _ h=>h) (by kernel_rfl) ?_;refine .c rfl rfl (fun V J=>by go_simp<;>with_reducible rfl) ?_;simp only[Act.put,zb,zc,zd];refine .nil ?_;refine GT.oF 5 ?_ rfl (by kernel_rfl);go_simp;obtain⟨y0,y1,y2⟩:=fw O.out X.text X.list (.slice i X.sub.length bx);rw[zf (by simp[q])]at m;obtain⟨g1,g2,g3⟩:=WN.out q;have YM:Hid (ak=(0,X,G)):=za (by rw[m.out,g1,g2,zN,aa];congr 2;omega);clear pt;go_wp2;refine zj (v:= .tuple #[.agg #[X.text,X.list,.slice i X.sub.length bx],G,(0:Int)]) (by simp[results,results122,go_sem,y0,y1,y2]) rfl ?_;rw[YM.out];have fk:Below w.heap.size w d:=Ce.out.trans (u.out.mono Ce.out.size);exact⟨(((fk.setCell (by simp) _).setCell (by simp) _).setCell (by simp) _).drew,_,_,_,rfl,(HX.out.below u.out).only (L:= [w.heap.size+1]) ((((ae.refl _ d).setCell (by simp) _).setCell (by simp) _).setCell (by simp) _).drew (by simp) (fun _ _ h=>by omega)⟩
  have ar:(L.e !=0)=true:=yL.2 q;rw[zg q]at m;obtain⟨d0,d1,d2,_⟩:=bq ((gZ Y.out eS false nS).alloc (.cells #[X.text,X.list,.slice i X.sub.length bx] 28));go_wp2;refine zj (v:= .tuple #[.agg #[eS,false,nS],(0:Int),L.e]) (by simp[results,results122,go_sem,d0,d1,d2]) rfl ?_;rw[m.out];exact⟨((((Ce.out.setCell (by simp) _).setCell (by simp) _).setCell (by simp) _).alloc (by simp[World.setCell]<;>omega) _),_,_,_,rfl,nH _ _⟩
theorem VU (ty:Ty)(s:ByteArray)(M:Int)(B:Nat)(w:World)(j k i t3:Value)(y:cz w B ty j k i t3)(hB:B<=w.heap.size)(K:Laid w)(z:aW w)(U:s.size<=1099511627776):
 Calls prog 82 #[.agg #[j,k,i,t3],s,M] w fun e w'=>wV w w' (jL ty s M).2 (jL ty s M).1 e:=by
 obtain⟨W,x⟩:∃W,(w.alloc (.cells #[j,k,i,t3] 70)).alloc (.cells #[eS,false,nS] 28)=W:=⟨_,rfl⟩
 obtain⟨hz,d,G,c⟩:=aep x;have F:=y.below (d.mono hB);have HN:=za (Sy ty s M B W j k i t3 F (by omega) (K.below d K.pos) (z.below d z.pos) U);have H5:=za c;have O:=za d;have o:=za hz;have HW:=za x;obtain⟨q0,q1,q2,S,_⟩:=aY G;obtain⟨A,cap,rfl,rfl,rfl,rfl,_⟩:=y.open_;have b:Hid (jL ty s M=if(dk ty s M).1≠0 then((dk ty s M).1,kG)else if(dk ty s M).2.2<s.size then(3,kG)else(0,(dk ty s M).2.1)):=za rfl;generalize jL ty s M=aa at*;generalize dk ty s M=N at*;obtain⟨E,X,n⟩:=N;clear y F G c d hz x;simp only at b;go_enter func82,ntmps82
 go_wp2_with fail
 rw[HW.out];refine HN.out.mono ?_;rintro e u ⟨r,d0,d1,d2,rfl,l⟩;simp only at l⊢;obtain⟨m,bx,rfl,rfl,rfl,_⟩:=l.open_;have c:=H5.out.ah r (by have:=o.out;omega);have Y:=za (l.eG (S':=(w.heap.size+2<= ·)) (fun _ _ h=>by have:=o.out;omega));have p:Hid (w,u):=za (O.out.trans (r.mono (by have:=o.out;omega)));have qb:w.heap.size+1<u.heap.size:=c.lt;have C:=za c;clear q0 q1 q2 S r l;obtain⟨p0,p1,p2,FA,Fy,Fz⟩:=bq c;clear c;obtain⟨I,H,J,_⟩:=bq ((gZ C.out eS false nS).alloc (.cells #[X.text,X.list,.slice m X.sub.length bx] 28));obtain⟨R,y1,Z,_⟩:=bq ((gZ C.out X.text X.list (.slice m X.sub.length bx)).alloc (.cells #[X.text,X.list,.slice m X.sub.length bx] 28));rcases eR E with⟨q,k1,k2⟩|⟨q,k1,k2⟩
 ·subst q;rw[zf (by simp)]at b;by_cases D:n<s.size
  ·rw[zg D]at b;go_wp2;refine zj (v:= .tuple #[.agg #[eS,false,nS],(3:Int)]) (by simp[results,results82,go_sem,I,H,J]) rfl ?_;rw[b.out];exact⟨((((p.out.setCell (by simp) _).setCell (by simp) _).setCell (by simp) _).alloc (by simp[World.setCell]<;>omega) _),_,_,_,rfl,nH _ _⟩
  rw[zf D]at b;go_wp2;refine zj (v:= .tuple #[.agg #[X.text,X.list,.slice m X.sub.length bx],(0:Int)]) (by simp[results,results82,go_sem,R,y1,Z]) rfl ?_;rw[b.out];exact⟨((((p.out.setCell (by simp) _).setCell (by simp) _).setCell (by simp) _).alloc (by simp[World.setCell]<;>omega) _),_,_,_,rfl,Y.out.only (L:= [w.heap.size+1]) (((((ae.refl _ u).setCell (by simp) _).setCell (by simp) _).setCell (by simp) _).alloc _) (by simp) (fun _ _ h=>by omega)⟩
 rw[zg q]at b;go_wp2;refine zj (v:= .tuple #[.agg #[eS,false,nS],E]) (by simp[results,results82,go_sem,I,H,J]) rfl ?_;rw[b.out];exact⟨((((p.out.setCell (by simp) _).setCell (by simp) _).setCell (by simp) _).alloc (by simp[World.setCell]<;>omega) _),_,_,_,rfl,nH _ _⟩
