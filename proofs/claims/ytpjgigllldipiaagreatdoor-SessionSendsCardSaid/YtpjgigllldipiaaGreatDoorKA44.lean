/- The document's parse of types: numbers, and no type. -/
import Derived.Test.YtpjgigllldipiaaGreatDoorKA17
set_option linter.all false
set_option maxRecDepth 100000
set_option maxHeartbeats 3200000
namespace Go.Proofs.YtpjgigllldipiaaGreatDoor
open Go.RowKit
def yb:=@Tryz.results35
def yG:=@Tryz.ntmps35
def yN:=@Tryz.func35
theorem FP (f deep:Nat)(M:deep<=8)(X:Hid (∀(s:ByteArray) (at_:Nat) (w:World),at_<=s.size->s.size<=100000->
 Calls Tryz.prog 35 #[.string s,.int .i64 at_,.int .i64 ((deep+1:Nat):Int)] w fun e w'=>lU s w (aK f (s.data.toList.drop at_)) e w')) (s:ByteArray) (at_:Nat) (w:World) (O:at_<=s.size) (F:s.size<=100000)
 (R:Option (Ty×List UInt8)) (C:Hid (aK (f+1) (s.data.toList.drop at_)=R)) (K:at_<s.size) (E:s[at_].toNat≠91) (B:s[at_].toNat≠123):
 Calls Tryz.prog 35 #[.string s,.int .i64 at_,.int .i64 deep] w fun e w'=>lU s w R e w':=by
 have S:decide (s.size<=at_)=false:=by simp;omega
 have W:decide ((8:Int)<(deep:Int))=false:=by simp;omega
 have h:Hid (aK (f+1) (s[at_]::s.data.toList.drop (at_+1))=R):=za (by rw[<-drop_cons s at_ K];exact C.out);have j:=za (fun w=>oS s (at_+1) w (by omega) F);have I:Hid (((at_+1:Nat):Int)=(at_:Int)+1):=za (by omega);obtain⟨N,k⟩:∃N,Hid (cg (s.data.toList.drop (at_+1))=N):=⟨_,za rfl⟩
 rw[k.out,I.out]at j;clear C;by_cases hu:s[at_].toNat=117
 ·have H:((s[at_].toNat:Int)==117)=true:=by simp[hu]
  have b:Hid (Ae N=R):=za (by rw[<-h.out,show s[at_]=117 from zW.1 hu,JX,k.out]);clear hu h;cases N with
  |none=>
   have c:Hid (R=none):=za b.out.symm;clear b;go_enter yN,yG
   go_wp2_with fail
   refine(j.out _).mono ?_;rintro e w' ⟨rfl,rfl⟩;simp only[ef];go_wp2;refine zp (v:=bG 1 0) (by simp[bG,results,yb,go_sem]) rfl ?_;rw[c.out];exact⟨bM,1,0,rfl⟩
  |some z=>
   obtain⟨n,r⟩:=z;obtain⟨m,x,p,A⟩:=pJ (by omega) k.out;by_cases i:n%8=0
   ·have c:Hid (R=some (Ty.mk 1 ((n/8:Nat):Int) [] 0,r)):=za (by rw[<-b.out];simp[Ae,i]);have D:((n:Int)%8 !=0)=false:=by simp;omega
    have o:Hid (((n/8:Nat):Int)=(n:Int)/8):=za (by omega);clear b i m;obtain⟨q,d⟩:∃q,s.size-r.length=q:=⟨_,rfl⟩
    have y:=za d;rw[d]at x p;go_enter yN,yG
    go_wp2_with fail
    refine(j.out _).mono ?_;rintro e w' ⟨rfl,rfl⟩;simp only[ef,d];clear d;go_wp2;refine zp (v:= .tuple #[.agg #[.int .i64 1,.int .i64 ((n:Int)/8),.slice none 0 0,.int .i64 0],.int .i64 (q:Int)]) (by simp[results,yb,go_sem]) rfl ?_;rw[c.out];refine⟨bM,_,_,_,_,by rw[y.out], ?_⟩;first|exact fy.leaf (aA (by omega) (by omega)) (aA (by omega) (by omega)) (aA (by omega) (by omega))|(rw[o.out];exact fy.leaf (aA (by omega) (by omega)) (aA (by omega) (by omega)) (aA (by omega) (by omega)))
   have c:Hid (R=none):=za (by rw[<-b.out];simp[Ae,i]);have D:((n:Int)%8 !=0)=true:=by simp;omega
   clear b i m;go_enter yN,yG
   go_wp2_with fail
   refine(j.out _).mono ?_;rintro e w' ⟨rfl,rfl⟩;simp only[ef];go_wp2;refine zp (v:=bG 0 0) (by simp[bG,results,yb,go_sem,]) rfl ?_;rw[c.out];exact⟨bM,0,0,rfl⟩
 have H:((s[at_].toNat:Int)==117)=false:=zr.2 (by omega);have D:True:=trivial;by_cases l:s[at_].toNat=98
 ·have J:((s[at_].toNat:Int)==98)=true:=by simp[l]
  have b:Hid (s7 2 N=R):=za (by rw[<-h.out,show s[at_]=98 from zW.1 l,JY,k.out]);clear hu l h;cases N with
  |none=>
   have c:Hid (R=none):=za b.out.symm;clear b;go_enter yN,yG
   go_wp2_with fail
   refine(j.out _).mono ?_;rintro e w' ⟨rfl,rfl⟩;simp only[ef];go_wp2;refine zp (v:=bG 2 0) (by simp[bG,results,yb,go_sem]) rfl ?_;rw[c.out];exact⟨bM,2,0,rfl⟩
  |some z=>
   obtain⟨n,r⟩:=z;obtain⟨m,x,p,A⟩:=pJ (by omega) k.out;have c:Hid (R=some (Ty.mk 2 (n:Int) [] 0,r)):=za b.out.symm;have i:True:=trivial;have o:Hid (((n/8:Nat):Int)=(n:Int)/8):=za (by omega);clear b i m;obtain⟨q,d⟩:∃q,s.size-r.length=q:=⟨_,rfl⟩
   have y:=za d;rw[d]at x p;go_enter yN,yG
   go_wp2_with fail
   refine(j.out _).mono ?_;rintro e w' ⟨rfl,rfl⟩;simp only[ef,d];clear d;go_wp2;refine zp (v:= .tuple #[.agg #[.int .i64 2,.int .i64 (n:Int),.slice none 0 0,.int .i64 0],.int .i64 (q:Int)]) (by simp[results,yb,go_sem]) rfl ?_;rw[c.out];refine⟨bM,_,_,_,_,by rw[y.out], ?_⟩;first|exact fy.leaf (aA (by omega) (by omega)) (aA (by omega) (by omega)) (aA (by omega) (by omega))|(rw[o.out];exact fy.leaf (aA (by omega) (by omega)) (aA (by omega) (by omega)) (aA (by omega) (by omega)))
 have J:((s[at_].toNat:Int)==98)=false:=zr.2 (by omega);by_cases u:s[at_].toNat=115
 ·have G:((s[at_].toNat:Int)==115)=true:=by simp[u]
  have b:Hid (s7 3 N=R):=za (by rw[<-h.out,show s[at_]=115 from zW.1 u,JZ,k.out]);clear hu l u h;cases N with
  |none=>
   have c:Hid (R=none):=za b.out.symm;clear b;go_enter yN,yG
   go_wp2_with fail
   refine(j.out _).mono ?_;rintro e w' ⟨rfl,rfl⟩;simp only[ef];go_wp2;refine zp (v:=bG 3 0) (by simp[bG,results,yb,go_sem]) rfl ?_;rw[c.out];exact⟨bM,3,0,rfl⟩
  |some z=>
   obtain⟨n,r⟩:=z;obtain⟨m,x,p,A⟩:=pJ (by omega) k.out;have c:Hid (R=some (Ty.mk 3 (n:Int) [] 0,r)):=za b.out.symm;have i:True:=trivial;have o:Hid (((n/8:Nat):Int)=(n:Int)/8):=za (by omega);clear b i m;obtain⟨q,d⟩:∃q,s.size-r.length=q:=⟨_,rfl⟩
   have y:=za d;rw[d]at x p;go_enter yN,yG
   go_wp2_with fail
   refine(j.out _).mono ?_;rintro e w' ⟨rfl,rfl⟩;simp only[ef,d];clear d;go_wp2;refine zp (v:= .tuple #[.agg #[.int .i64 3,.int .i64 (n:Int),.slice none 0 0,.int .i64 0],.int .i64 (q:Int)]) (by simp[results,yb,go_sem]) rfl ?_;rw[c.out];refine⟨bM,_,_,_,_,by rw[y.out], ?_⟩;first|exact fy.leaf (aA (by omega) (by omega)) (aA (by omega) (by omega)) (aA (by omega) (by omega))|(rw[o.out];exact fy.leaf (aA (by omega) (by omega)) (aA (by omega) (by omega)) (aA (by omega) (by omega)))
 have G:((s[at_].toNat:Int)==115)=false:=zr.2 (by omega);have U:((s[at_].toNat:Int)==91)=false:=zr.2 (by omega);have L:((s[at_].toNat:Int) !=123)=true:=by simp;omega
 have c:Hid (R=none):=za (by rw[<-h.out,Ey _ _ _ hu l u E B]);clear hu l u E B h;go_enter yN,yG
 go_wp2;refine zp (v:=bG 0 0) (by simp[bG,results,yb,go_sem,]) rfl ?_;rw[c.out];exact⟨bM,0,0,rfl⟩
theorem C' (f deep:Nat)(Y7:deep<=8)(IH:Hid (∀(s:ByteArray) (at_:Nat) (w:World),at_<=s.size->s.size<=100000->
 Calls Tryz.prog 35 #[.string s,.int .i64 at_,.int .i64 ((deep+1:Nat):Int)] w fun e w'=>lU s w (aK f (s.data.toList.drop at_)) e w')) (s:ByteArray) (at_:Nat) (w:World) (cU:at_<=s.size) (E:s.size<=100000)
 (R:Option (Ty×List UInt8)) (HR:Hid (aK (f+1) (s.data.toList.drop at_)=R)) (aD:at_<s.size) (QB:s[at_].toNat=91):
 Calls Tryz.prog 35 #[.string s,.int .i64 at_,.int .i64 deep] w fun e w'=>lU s w R e w':=by
 have d1:decide (s.size<=at_)=false:=by simp;omega
 have d2:decide ((8:Int)<(deep:Int))=false:=by simp;omega
 have HC:Hid (aK (f+1) (s[at_]::s.data.toList.drop (at_+1))=R):=za (by rw[<-drop_cons s at_ aD];exact HR.out);have J:=za (fun w=>oS s (at_+1) w (by omega) E);have E8:Hid (((at_+1:Nat):Int)=(at_:Int)+1):=za (by omega);obtain⟨N,W⟩:∃N,Hid (cg (s.data.toList.drop (at_+1))=N):=⟨_,za rfl⟩
 rw[W.out,E8.out]at J;clear HR;have e1:((s[at_].toNat:Int)==117)=false:=zr.2 (by omega);have e2:((s[at_].toNat:Int)==98)=false:=zr.2 (by omega);have e3:((s[at_].toNat:Int)==115)=false:=zr.2 (by omega);have e4:((s[at_].toNat:Int)==91)=true:=by simp[QB]
 have s0:Hid (uK (aK f (s.data.toList.drop (at_+1)))=R):=za (by rw[<-HC.out,show s[at_]=91 from zW.1 QB,J0]);have F:=za (IH.out s (at_+1) (w.alloc (.cells #[.int .i64 0,.int .i64 0,.slice none 0 0,.int .i64 0] 64)) (by omega) E);have M:Hid ((deep:Int)+1=((deep+1:Nat):Int)):=za (by omega);obtain⟨T,HT⟩:∃T,Hid (aK f (s.data.toList.drop (at_+1))=T):=⟨_,za rfl⟩
 rw[HT.out]at s0 F;rw[E8.out]at F;clear QB HC J W;cases T with
 |none=>
  have u:Hid (R=none):=za s0.out.symm;clear s0;go_enter yN,yG
  go_wp2_with fail
  rw[M.out];refine F.out.mono ?_;rintro e b ⟨c,v0,v1,rfl⟩;have h:=(af.new w 64 #[.int .i64 0,.int .i64 0,.slice none 0 0,.int .i64 0]).ag c (by simp);obtain⟨p,l,o,j,O,S,U,Y⟩:=aL h;have hz:=c.size;simp only[zu]at hz;have m:w.heap.size<b.heap.size:=by omega
  have K:w.heap.size<b.heap.size+1:=by omega
  have i:Hid (Below w.heap.size w b):=za (((zq w.heap.size w).alloc (zi _) _).trans (c.mono (by simp)));clear c h;go_wp2;refine zp (v:=bG 0 0) (by simp[bG,results,yb,go_sem,p,l,o,j,zE,m]) rfl ?_;rw[u.out];refine⟨?_,0,0,rfl⟩;exact(((((i.out.setCell (by simp) _).setCell (by simp) _).setCell (by simp) _).setCell (by simp) _).alloc (by simp[World.setCell];omega) _)
 |some z=>
  obtain⟨x,r⟩:=z;obtain⟨k1,k2⟩:=gh _ _ _ _ HT.out;obtain⟨k3,k4⟩:=uN (by omega) k1;have k5:s.size-r.length<=s.size:=by omega
  have JH:=za k3;obtain⟨q,hq⟩:∃q,s.size-r.length=q:=⟨_,rfl⟩
  rw[hq]at k4 k5 JH;have Z:=za hq;have X:Hid (gG x (s.data.toList.drop q)=R):=za (by rw[JH.out];exact s0.out);clear s0 k1 k2 k3;by_cases AP:q<s.size
  ·by_cases Sl:s[q].toNat=58
   ·have f1:((s[q].toNat:Int) !=58)=false:=by simp[Sl]
    obtain⟨N,W⟩:∃N,Hid (cg (s.data.toList.drop (q+1))=N):=⟨_,za rfl⟩
    have H:Hid (iL x N=R):=za (by rw[<-W.out,<-mD,<-X.out,drop_cons s q AP,show s[q]=58 from zW.1 Sl]);have J:=za (fun w=>oS s (q+1) w (by omega) E);have E7:Hid (((q+1:Nat):Int)=(q:Int)+1):=za (by omega);rw[W.out,E7.out]at J;clear X Sl;cases N with
    |none=>
     have u:Hid (R=none):=za H.out.symm;clear H;go_enter yN,yG
     go_wp2_with fail
     rw[M.out];refine F.out.mono ?_;rintro e b ⟨c,c0,c1,c2,c3,rfl,d⟩;rw[Z.out];have h:=(af.new w 64 #[.int .i64 0,.int .i64 0,.slice none 0 0,.int .i64 0]).ag c (by simp);obtain⟨p,l,o,j,O,S,U,Y⟩:=aL h;have hz:=c.size;simp only[zu]at hz;have m:w.heap.size<b.heap.size:=by omega
     have K:w.heap.size<b.heap.size+1:=by omega
     have i:Hid (Below w.heap.size w b):=za (((zq w.heap.size w).alloc (zi _) _).trans (c.mono (by simp)));have y:=za d;simp only[zu]at y;obtain⟨G,I,rfl,rfl,rfl,rfl,D,C,B,_⟩:=d.open_;clear c h d D C B;go_wp2_with fail
     refine(J.out _).mono ?_;rintro e w' ⟨rfl,rfl⟩;simp only[ef];go_wp2;refine zp (v:=bG 0 0) (by simp[bG,results,yb,go_sem,p,l,o,j,zE,m]) rfl ?_;rw[u.out];refine⟨?_,0,0,rfl⟩;exact(((((i.out.setCell (by simp) _).setCell (by simp) _).setCell (by simp) _).setCell (by simp) _).alloc (by simp[World.setCell];omega) _)
    |some z2=>
     obtain⟨n,r2⟩:=z2;obtain⟨gu,ia,DA,Rk⟩:=pJ (by omega) W.out;obtain⟨A,aa⟩:∃A,s.size-r2.length=A:=⟨_,rfl⟩
     rw[aa]at gu ia DA;have Ny:=za aa;have ab:=za gu;clear gu;by_cases ag:A<s.size
     ·have qL:Hid (r2=s[A]::s.data.toList.drop (A+1)):=za (by rw[<-ab.out,drop_cons s A ag]);by_cases Vu:s[A].toNat=93
      ·have f2:((s[A].toNat:Int) !=93)=false:=by simp[Vu]
       have u:Hid (R=some (.mk 4 n [x] 0,s.data.toList.drop (A+1))):=za (by rw[<-H.out,qL.out];simp[iL,Vu]);have ad:=za (sK s (A+1) (by omega));clear H Vu;go_enter yN,yG
       go_wp2_with fail
       rw[M.out];refine F.out.mono ?_;rintro e b ⟨c,c0,c1,c2,c3,rfl,d⟩;rw[Z.out];have h:=(af.new w 64 #[.int .i64 0,.int .i64 0,.slice none 0 0,.int .i64 0]).ag c (by simp);obtain⟨p,l,o,j,O,S,U,Y⟩:=aL h;have hz:=c.size;simp only[zu]at hz;have m:w.heap.size<b.heap.size:=by omega
       have K:w.heap.size<b.heap.size+1:=by omega
       have i:Hid (Below w.heap.size w b):=za (((zq w.heap.size w).alloc (zi _) _).trans (c.mono (by simp)));have y:=za d;simp only[zu]at y;obtain⟨G,I,rfl,rfl,rfl,rfl,D,C,B,_⟩:=d.open_;clear c h d D C B;go_wp2_with fail
       refine(J.out _).mono ?_;rintro e w' ⟨rfl,rfl⟩;simp only[ef,Ny.out];go_wp2;refine zp (v:= .tuple #[.agg #[.int .i64 4,.int .i64 n,.slice (some ⟨b.heap.size+1,0,none⟩) 1 1,.int .i64 0],.int .i64 ((A:Int)+1)]) (by simp[results,yb,go_sem,p,l,o,j,zE,m,K]) rfl ?_;rw[u.out];refine⟨((((((i.out.setCell (by simp) _).setCell (by simp) _).setCell (by simp) _).setCell (by simp) _).alloc (by simp[World.setCell];omega) _).alloc (by simp[World.setCell];omega) _),_,_,_,_,by rw[ad.out];go_num, ?_⟩;have ky:ae [w.heap.size] b ((((((b.setCell ⟨w.heap.size,0,none⟩ (.int .i64 4)).setCell ⟨w.heap.size,1,none⟩ (.int .i64 n)).setCell ⟨w.heap.size,2,none⟩ (.slice (some ⟨b.heap.size+1,0,none⟩) 1 1)).setCell ⟨w.heap.size,3,none⟩ (.int .i64 0)).alloc (.cells #[.int .i64 x.kind,.int .i64 x.size,.slice G x.sub.length I,.int .i64 x.tail] 64)).alloc (.cells #[.int .i64 x.kind,.int .i64 x.size,.slice G x.sub.length I,.int .i64 x.tail] 64)):=Cx;refine⟨rfl,rfl,rfl,aA (by omega) (by omega),aA (by omega) (by omega),aA (by omega) (by omega),by simp,_,1,rfl,by simp,by simp,⟨⟨b.heap.size+1,0,.int .i64 x.kind,.int .i64 x.size,.slice G x.sub.length I,.int .i64 x.tail,rfl, ?_, ?_, ?_, ?_, ?_, ?_⟩,trivial⟩⟩
       ·show w.heap.size<=b.heap.size+1
        omega
       ·exact(C3 _ _ _ (b.heap.size+1) (by simp[World.setCell])).cell 0
       ·exact(C3 _ _ _ (b.heap.size+1) (by simp[World.setCell])).cell 1
       ·exact(C3 _ _ _ (b.heap.size+1) (by simp[World.setCell])).cell 2
       ·exact(C3 _ _ _ (b.heap.size+1) (by simp[World.setCell])).cell 3
       refine y.out.only (L:= [w.heap.size]) ky ?_ ?_
       ·intro k hk E;have hk:k=w.heap.size:=by simpa using hk
        have E:w.heap.size+1<=k:=E;omega
       intro k _ E;have E:w.heap.size+1<=k:=E;show w.heap.size<=k
       omega
      have f2:((s[A].toNat:Int) !=93)=true:=by simp;omega
      have u:Hid (R=none):=za (by rw[<-H.out,qL.out];simp[iL,Vu]);clear H Vu;go_enter yN,yG
      go_wp2_with fail
      rw[M.out];refine F.out.mono ?_;rintro e b ⟨c,c0,c1,c2,c3,rfl,d⟩;rw[Z.out];have h:=(af.new w 64 #[.int .i64 0,.int .i64 0,.slice none 0 0,.int .i64 0]).ag c (by simp);obtain⟨p,l,o,j,O,S,U,Y⟩:=aL h;have hz:=c.size;simp only[zu]at hz;have m:w.heap.size<b.heap.size:=by omega
      have K:w.heap.size<b.heap.size+1:=by omega
      have i:Hid (Below w.heap.size w b):=za (((zq w.heap.size w).alloc (zi _) _).trans (c.mono (by simp)));have y:=za d;simp only[zu]at y;obtain⟨G,I,rfl,rfl,rfl,rfl,D,C,B,_⟩:=d.open_;clear c h d D C B;go_wp2_with fail
      refine(J.out _).mono ?_;rintro e w' ⟨rfl,rfl⟩;simp only[ef,Ny.out];go_wp2;refine zp (v:=bG 0 0) (by simp[bG,results,yb,go_sem,p,l,o,j,zE,m]) rfl ?_;rw[u.out];refine⟨?_,0,0,rfl⟩;exact(((((i.out.setCell (by simp) _).setCell (by simp) _).setCell (by simp) _).setCell (by simp) _).alloc (by simp[World.setCell];omega) _)
     have u:Hid (R=none):=za (by rw[<-H.out,<-ab.out,zR (by simp;omega)];rfl);clear H;go_enter yN,yG
     go_wp2_with fail
     rw[M.out];refine F.out.mono ?_;rintro e b ⟨c,c0,c1,c2,c3,rfl,d⟩;rw[Z.out];have h:=(af.new w 64 #[.int .i64 0,.int .i64 0,.slice none 0 0,.int .i64 0]).ag c (by simp);obtain⟨p,l,o,j,O,S,U,Y⟩:=aL h;have hz:=c.size;simp only[zu]at hz;have m:w.heap.size<b.heap.size:=by omega
     have K:w.heap.size<b.heap.size+1:=by omega
     have i:Hid (Below w.heap.size w b):=za (((zq w.heap.size w).alloc (zi _) _).trans (c.mono (by simp)));have y:=za d;simp only[zu]at y;obtain⟨G,I,rfl,rfl,rfl,rfl,D,C,B,_⟩:=d.open_;clear c h d D C B;go_wp2_with fail
     refine(J.out _).mono ?_;rintro e w' ⟨rfl,rfl⟩;simp only[ef,Ny.out];go_wp2;refine zp (v:=bG 0 0) (by simp[bG,results,yb,go_sem,p,l,o,j,zE,m]) rfl ?_;rw[u.out];refine⟨?_,0,0,rfl⟩;exact(((((i.out.setCell (by simp) _).setCell (by simp) _).setCell (by simp) _).setCell (by simp) _).alloc (by simp[World.setCell];omega) _)
   have f1:((s[q].toNat:Int) !=58)=true:=by simp;omega
   have u:Hid (R=none):=za (by rw[<-X.out,drop_cons s q AP,uL _ _ _ Sl]);clear X Sl;go_enter yN,yG
   go_wp2_with fail
   rw[M.out];refine F.out.mono ?_;rintro e b ⟨c,c0,c1,c2,c3,rfl,d⟩;rw[Z.out];have h:=(af.new w 64 #[.int .i64 0,.int .i64 0,.slice none 0 0,.int .i64 0]).ag c (by simp);obtain⟨p,l,o,j,O,S,U,Y⟩:=aL h;have hz:=c.size;simp only[zu]at hz;have m:w.heap.size<b.heap.size:=by omega
   have K:w.heap.size<b.heap.size+1:=by omega
   have i:Hid (Below w.heap.size w b):=za (((zq w.heap.size w).alloc (zi _) _).trans (c.mono (by simp)));have y:=za d;simp only[zu]at y;obtain⟨G,I,rfl,rfl,rfl,rfl,D,C,B,_⟩:=d.open_;clear c h d D C B;go_wp2;refine zp (v:=bG 0 0) (by simp[bG,results,yb,go_sem,p,l,o,j,zE,m]) rfl ?_;rw[u.out];refine⟨?_,0,0,rfl⟩;exact(((((i.out.setCell (by simp) _).setCell (by simp) _).setCell (by simp) _).setCell (by simp) _).alloc (by simp[World.setCell];omega) _)
  have u:Hid (R=none):=za (by rw[<-X.out,zR (by simp;omega)];rfl);clear X;go_enter yN,yG
  go_wp2_with fail
  rw[M.out];refine F.out.mono ?_;rintro e b ⟨c,c0,c1,c2,c3,rfl,d⟩;rw[Z.out];have h:=(af.new w 64 #[.int .i64 0,.int .i64 0,.slice none 0 0,.int .i64 0]).ag c (by simp);obtain⟨p,l,o,j,O,S,U,Y⟩:=aL h;have hz:=c.size;simp only[zu]at hz;have m:w.heap.size<b.heap.size:=by omega
  have K:w.heap.size<b.heap.size+1:=by omega
  have i:Hid (Below w.heap.size w b):=za (((zq w.heap.size w).alloc (zi _) _).trans (c.mono (by simp)));have y:=za d;simp only[zu]at y;obtain⟨G,I,rfl,rfl,rfl,rfl,D,C,B,_⟩:=d.open_;clear c h d D C B;go_wp2;refine zp (v:=bG 0 0) (by simp[bG,results,yb,go_sem,p,l,o,j,zE,m]) rfl ?_;rw[u.out];refine⟨?_,0,0,rfl⟩;exact(((((i.out.setCell (by simp) _).setCell (by simp) _).setCell (by simp) _).setCell (by simp) _).alloc (by simp[World.setCell];omega) _)
theorem vL (f deep:Nat)(Y7:deep<=8)(IH:Hid (∀(s:ByteArray) (at_:Nat) (w:World),at_<=s.size->s.size<=100000->
 Calls Tryz.prog 35 #[.string s,.int .i64 at_,.int .i64 ((deep+1:Nat):Int)] w fun e w'=>lU s w (aK f (s.data.toList.drop at_)) e w')) (s:ByteArray) (at_:Nat) (w:World) (cU:at_<=s.size) (hs:s.size<=100000)
 (aa:Option (Ty×List UInt8)) (HR:Hid (aK (f+1) (s.data.toList.drop at_)=aa)) (aD:at_<s.size) (Y3:s[at_].toNat=123):
 Calls Tryz.prog 35 #[.string s,.int .i64 at_,.int .i64 deep] w fun e w'=>lU s w aa e w':=by
 have d1:decide (s.size<=at_)=false:=by simp;omega
 have d2:decide ((8:Int)<(deep:Int))=false:=by simp;omega
 have HC:Hid (aK (f+1) (s[at_]::s.data.toList.drop (at_+1))=aa):=za (by rw[<-drop_cons s at_ aD];exact HR.out);obtain⟨ag,HN⟩:∃ag,Hid (cg (s.data.toList.drop (at_+1))=ag):=⟨_,za rfl⟩
 clear HR;have e1:((s[at_].toNat:Int)==117)=false:=zr.2 (by omega);have e2:((s[at_].toNat:Int)==98)=false:=zr.2 (by omega);have e3:((s[at_].toNat:Int)==115)=false:=zr.2 (by omega);have e4:((s[at_].toNat:Int)==91)=false:=zr.2 (by omega);have e5:((s[at_].toNat:Int) !=123)=false:=by simp[Y3]
 have AU:Hid (eL f s aa (at_+1) [] 0):=za ⟨_,by
  have h1:=HC.out;rw[show s[at_]=123 from zW.1 Y3,J1]at h1;exact h1,by omega⟩
 clear Y3 HC HN;go_enter yN,yG
 go_wp2_with fail
 go_loopw [1] (fun i wr=>∃(p:Nat) (acc:List Ty) (j:Nat) (vv:Value),p<=s.size/\i= .int .i64 p/\Hid (eL f s aa p acc j)/\acc.length<=p/\j<=p/\af wr w.heap.size 64 #[.int .i64 0,.int .i64 0,.slice none 0 0,.int .i64 0]/\af wr (w.heap.size+1) 64 #[.int .i64 5,.int .i64 0,vv,.int .i64 j]/\eJ wr (w.heap.size+2) acc vv/\Below w.heap.size w wr/\w.heap.size+2<=wr.heap.size) (fun i _=>s.size-(intOf i).toNat)
 case atStart=>
  have aI:=af.new (w.alloc (.cells #[.int .i64 0,.int .i64 0,.slice none 0 0,.int .i64 0] 64)) 64 #[.int .i64 5,.int .i64 0,.slice none 0 0,.int .i64 0];exact⟨at_+1,[],0,.slice none 0 0,by omega,by go_num,AU,by simp,by omega,(af.new _ _ _).alloc _,by simpa using aI,eJ.nil _ _,bM,by simp⟩
 case round=>
  obtain⟨p,acc,j,vv,hp,rfl,hrel,ad,qJ,La,jR,jI,ah,U8⟩:=hrel;have po:=za La;have wK:=za jR;have jT:=za jI;have HB:=za ah;obtain⟨H,n2,G,rfl,Jn,al,ak⟩:=jI.df;obtain⟨C,A,B,x,jL,jM,jN,jQ⟩:=aL La;obtain⟨K,M,I,X,J,O,N,U⟩:=aL jR;clear La jR jI ah AU;by_cases ab:p<s.size
  ·by_cases iR:s[p].toNat=125
   ·have e6:((s[p].toNat:Int) !=125)=false:=by simp[iR]
    have R:=za (hrel.out.ends ab iR);have ai:=za (sK s (p+1) (by omega));clear iR;go_wp2;refine zp (v:= .tuple #[.agg #[.int .i64 5,.int .i64 0,.slice H n2 G,.int .i64 j],.int .i64 ((p:Int)+1)]) (by simp[results,yb,go_sem,C,A,B,x]) rfl ?_;rw[R.out];refine⟨(((HB.out.setCell (by simp) _).setCell (by simp) _).setCell (by simp) _).setCell (by simp) _,_,_,_,_,by rw[ai.out];go_num, ?_⟩;have aj:eJ _ (w.heap.size+2) acc (.slice H n2 G):=jT.out.only (L:= [w.heap.size]) (w':=(((wr.setCell ⟨w.heap.size,0,none⟩ (.int .i64 5)).setCell ⟨w.heap.size,1,none⟩ (.int .i64 0)).setCell ⟨w.heap.size,2,none⟩ (.slice H n2 G)).setCell ⟨w.heap.size,3,none⟩ (.int .i64 j)) (((((ae.refl _ _).setCell (by simp) _).setCell (by simp) _).setCell (by simp) _).setCell (by simp) _) (by simp);refine fy.fW (aj.ty (by omega) (aA (by omega) (by omega)) (aA (by omega) (by omega)) (aA (by omega) (by omega))) fun k _ Z=> ?_
    have Z:w.heap.size+2<=k:=Z;show w.heap.size<=k
    omega
   have e6:((s[p].toNat:Int) !=125)=true:=by simp;omega
   by_cases ha:acc= []
   ·subst ha;have qF:=za (hrel.out.first ab iR);obtain rfl:n2=0:=Jn.out;clear iR;have AP:=ab;by_cases Dv:s[p].toNat=63
    ·have e8:((s[p].toNat:Int)==63)=true:=by simp[Dv]
     have qA:=za (qF.out.mark AP Dv);obtain⟨W,d⟩:∃W,wr.setCell ⟨w.heap.size+1,3,none⟩ (.int .i64 ((j:Int)+1))=W:=⟨_,rfl⟩
     have VN:Hid (af W (w.heap.size+1) 64 #[.int .i64 5,.int .i64 0,.slice H 0 G,.int .i64 ((j:Int)+1)]):=za (by rw[<-d];exact wK.out.store rfl);have NQ:Hid (af W w.heap.size 64 #[.int .i64 0,.int .i64 0,.slice none 0 0,.int .i64 0]):=za (by rw[<-d];exact po.out.dz (by simp) _);have Of:Hid (eJ W (w.heap.size+2) [] (.slice H 0 G)):=za (by rw[<-d];exact jT.out.only ((ae.refl [w.heap.size+1] wr).setCell (by simp) _) (by simp));have AR:Hid (Below w.heap.size w W):=za (by rw[<-d];exact HB.out.setCell (by simp) _);have Un:Hid (W.heap.size=wr.heap.size):=za (by rw[<-d];simp[World.setCell]);have HW:=za d;have D:p+1<=s.size:=by omega
     have VO:Hid (((j+1:Nat):Int)=(j:Int)+1):=za (by omega);clear Dv d qF;have HI:Hid (∀(V:World) (i:Int),i=(((p+1):Nat):Int)->Calls Tryz.prog 35 #[.string s,.int .i64 i,.int .i64 ((deep+1:Nat):Int)] V fun e w'=>lU s V (aK f (s.data.toList.drop ((p+1)))) e w'):=za (fun V i hi=>by subst hi;exact IH.out s ((p+1)) V D hs);have E9:Hid ((deep:Int)+1=((deep+1:Nat):Int)):=za (by omega);go_wp2_with fail
     rw[E9.out];refine(HI.out _ _ (by first|rfl|omega)).mono ?_;rintro e S F;rw[HW.out]at F;obtain⟨T,Y⟩:∃T,Hid (aK f (s.data.toList.drop ((p+1)))=T):=⟨_,za rfl⟩
     rw[Y.out]at F;have Lp:=Un.out;cases T with
     |none=>
      obtain⟨c,v0,v1,rfl⟩:=F;have R:=za (qA.out.none Y.out);have NF:=c.size;have kJ:w.heap.size<S.heap.size:=by omega
      have dM:=za (AR.out.trans (c.mono (by omega)));clear C A B x jL jM jN jQ K M I X J O N U;obtain⟨C,A,B,x,jL,jM,jN,jQ⟩:=aL (NQ.out.ag c (by omega));clear c Lp;go_wp2;refine zp (v:=bG 0 0) (by simp[bG,results,yb,go_sem,C,A,B,x,zE,kJ]) rfl ?_;rw[R.out];refine⟨?_,0,0,rfl⟩;exact(((((dM.out.setCell (by simp) _).setCell (by simp) _).setCell (by simp) _).setCell (by simp) _).alloc (by simp[World.setCell];omega) _)
     |some z=>
      obtain⟨y,r⟩:=z;obtain⟨c,c0,c1,c2,c3,rfl,hy⟩:=F;obtain⟨HN,qI,JJ⟩:=qA.out.some D Y.out;have AU:=za HN;have NF:=c.size;have Ln:=za (VN.out.ag c (by omega));have Y8:=za (NQ.out.ag c (by omega));have Y':=za (Of.out.below c);have dM:=za (AR.out.trans (c.mono (by omega)));have jP:=Of.out.ge;have HY:Hid (∀o o',fy ((S.alloc o).alloc o') (fun k=>w.heap.size+2<=k/\(Value.slice H 0 G).ownBlock≠some k) y c0 c1 c2 c3):=za (by
       intro o o';refine fy.ag ?_ ?_ y hy
       ·intro k Z hS;have hS:W.heap.size<=k:=hS;exact⟨by omega,fun e=>by have:=(jP k e).2;omega⟩
       intro q D _;rw[zE _ _ _ (by rw[zu];omega),zE _ _ _ D])
      have kJ:w.heap.size<S.heap.size:=by omega
      have rR:w.heap.size+1<S.heap.size:=by omega
      have wN:=za jP;obtain⟨AA,lQ,rfl,rfl,rfl,rfl,_⟩:=hy.open_;clear C A B x jL jM jN jQ K M I X J O N U hy HN jP c Lp;obtain⟨K,M,I,X,J,O,N,U⟩:=aL Ln.out;generalize s.size-r.length=pq at*;go_wp2_with (at_builtin;refine cq (by rfl) (.tmp 181) (.tmp 183) (by rfl) (w.heap.size+2) [] (by rfl) ((Y'.out.below ((zq _ _).alloc (zi _) _)).below ((zq _ _).alloc (zi _) _)) y (HY.out _ _) _ (by rfl) (by simp) (by simp) (by simp) (by simp) (by first|omega|simp) (by simp only[zu];omega) ?_)
      intro n m u l Sg km E pj;have wA:∀k,k<w.heap.size+2->(Value.slice H 0 G).ownBlock≠some k:=fun k Z e=>by
       have:=(wN.out k e).1;omega
      have GO:=za (((Ln.out.alloc _).alloc _).grown E (wA _ (by omega)));have Y9:=za (((Y8.out.alloc _).alloc _).grown E (wA _ (by omega)));have fZ:Hid (Below w.heap.size w l):=za (((dM.out.alloc (by omega) _).alloc (by simp;omega) _).grown E (by simp;omega) (fun k Z=>by have:=(wN.out k Z).1;omega));have D3:=E.size;simp only[zu]at D3;have Z':=za km;clear K M I X J O N U E km wA;obtain⟨K,M,I,X,J,O,N,U⟩:=aL GO.out;go_wp2;go_roundw
      case rel=>
       have key:∃(p:Nat) (acc:List Ty) (j:Nat) (vv:Value),p<=s.size/\Value.int .i64 (pq:Int)= .int .i64 p/\Hid (eL f s aa p acc j)/\acc.length<=p/\j<=p/\af (l.setCell ⟨w.heap.size+1,2,none⟩ (.slice (some ⟨n,0,none⟩) m u)) w.heap.size 64 #[.int .i64 0,.int .i64 0,.slice none 0 0,.int .i64 0]/\af (l.setCell ⟨w.heap.size+1,2,none⟩ (.slice (some ⟨n,0,none⟩) m u)) (w.heap.size+1) 64 #[.int .i64 5,.int .i64 0,vv,.int .i64 j]/\eJ (l.setCell ⟨w.heap.size+1,2,none⟩ (.slice (some ⟨n,0,none⟩) m u)) (w.heap.size+2) acc vv/\Below w.heap.size w (l.setCell ⟨w.heap.size+1,2,none⟩ (.slice (some ⟨n,0,none⟩) m u))/\w.heap.size+2<=(l.setCell ⟨w.heap.size+1,2,none⟩ (.slice (some ⟨n,0,none⟩) m u)).heap.size:=by
        refine⟨pq,[]++ [y],(j+1),.slice (some ⟨n,0,none⟩) m u,JJ,rfl,AU, ?_,by omega,Y9.out.dz (by simp) _, ?_, ?_,fZ.out.setCell (by simp) _, ?_⟩
        ·simp only[zo,zB,zO]at ad⊢;omega
        ·rw[VO.out];exact GO.out.store rfl
        ·exact Z'.out.only ((ae.refl [w.heap.size+1] l).setCell (p:=⟨w.heap.size+1,2,none⟩) (by simp) _) (by simp)
        simp[World.setCell];omega
       first|exact key|((repeat apply Exists.intro);exact⟨key,rfl⟩)
      case measure=>simp[intOf];omega
    have e8:((s[p].toNat:Int)==63)=false:=zr.2 (by omega);have wO:Hid (∀D:p<s.size,s[p].toNat≠63):=za (fun _=>Dv);clear Dv;by_cases RA:0<j
    ·have R:=za (qF.out.none_ wO.out RA);go_wp2;refine zp (v:=bG 0 0) (by simp[bG,results,yb,go_sem,C,A,B,x]) rfl ?_;rw[R.out];exact⟨(((HB.out.setCell (by simp) _).setCell (by simp) _).setCell (by simp) _).setCell (by simp) _,0,0,rfl⟩
    obtain rfl:j=0:=by omega
    have qA:=za (qF.out.plain wO.out);obtain⟨W,d⟩:∃W,wr=W:=⟨_,rfl⟩
    have VN:Hid (af W (w.heap.size+1) 64 #[.int .i64 5,.int .i64 0,.slice H 0 G,.int .i64 0]):=za (by rw[<-d];exact wK.out);have NQ:Hid (af W w.heap.size 64 #[.int .i64 0,.int .i64 0,.slice none 0 0,.int .i64 0]):=za (by rw[<-d];exact po.out);have Of:Hid (eJ W (w.heap.size+2) [] (.slice H 0 G)):=za (by rw[<-d];exact jT.out);have AR:Hid (Below w.heap.size w W):=za (by rw[<-d];exact HB.out);have Un:Hid (W.heap.size=wr.heap.size):=za (by rw[<-d]);have HW:=za d;have D:p<=s.size:=by omega
    have VO:Hid (((0:Nat):Int)=(0:Int)):=za rfl;clear d qF wO;have HI:Hid (∀(V:World) (i:Int),i=(((p):Nat):Int)->Calls Tryz.prog 35 #[.string s,.int .i64 i,.int .i64 ((deep+1:Nat):Int)] V fun e w'=>lU s V (aK f (s.data.toList.drop ((p)))) e w'):=za (fun V i hi=>by subst hi;exact IH.out s ((p)) V D hs);have E9:Hid ((deep:Int)+1=((deep+1:Nat):Int)):=za (by omega);go_wp2_with fail
    rw[E9.out];refine(HI.out _ _ (by first|rfl|omega)).mono ?_;rintro e S F;rw[HW.out]at F;obtain⟨T,Y⟩:∃T,Hid (aK f (s.data.toList.drop ((p)))=T):=⟨_,za rfl⟩
    rw[Y.out]at F;have Lp:=Un.out;cases T with
    |none=>
     obtain⟨c,v0,v1,rfl⟩:=F;have R:=za (qA.out.none Y.out);have NF:=c.size;have kJ:w.heap.size<S.heap.size:=by omega
     have dM:=za (AR.out.trans (c.mono (by omega)));clear C A B x jL jM jN jQ K M I X J O N U;obtain⟨C,A,B,x,jL,jM,jN,jQ⟩:=aL (NQ.out.ag c (by omega));clear c Lp;go_wp2;refine zp (v:=bG 0 0) (by simp[bG,results,yb,go_sem,C,A,B,x,zE,kJ]) rfl ?_;rw[R.out];refine⟨?_,0,0,rfl⟩;exact(((((dM.out.setCell (by simp) _).setCell (by simp) _).setCell (by simp) _).setCell (by simp) _).alloc (by simp[World.setCell];omega) _)
    |some z=>
     obtain⟨y,r⟩:=z;obtain⟨c,c0,c1,c2,c3,rfl,hy⟩:=F;obtain⟨HN,qI,JJ⟩:=qA.out.some D Y.out;have AU:=za HN;have NF:=c.size;have Ln:=za (VN.out.ag c (by omega));have Y8:=za (NQ.out.ag c (by omega));have Y':=za (Of.out.below c);have dM:=za (AR.out.trans (c.mono (by omega)));have jP:=Of.out.ge;have HY:Hid (∀o o',fy ((S.alloc o).alloc o') (fun k=>w.heap.size+2<=k/\(Value.slice H 0 G).ownBlock≠some k) y c0 c1 c2 c3):=za (by
      intro o o';refine fy.ag ?_ ?_ y hy
      ·intro k Z hS;have hS:W.heap.size<=k:=hS;exact⟨by omega,fun e=>by have:=(jP k e).2;omega⟩
      intro q D _;rw[zE _ _ _ (by rw[zu];omega),zE _ _ _ D])
     have kJ:w.heap.size<S.heap.size:=by omega
     have rR:w.heap.size+1<S.heap.size:=by omega
     have wN:=za jP;obtain⟨AA,lQ,rfl,rfl,rfl,rfl,_⟩:=hy.open_;clear C A B x jL jM jN jQ K M I X J O N U hy HN jP c Lp;obtain⟨K,M,I,X,J,O,N,U⟩:=aL Ln.out;generalize s.size-r.length=pq at*;go_wp2_with (at_builtin;refine cq (by rfl) (.tmp 181) (.tmp 183) (by rfl) (w.heap.size+2) [] (by rfl) ((Y'.out.below ((zq _ _).alloc (zi _) _)).below ((zq _ _).alloc (zi _) _)) y (HY.out _ _) _ (by rfl) (by simp) (by simp) (by simp) (by simp) (by first|omega|simp) (by simp only[zu];omega) ?_)
     intro n m u l Sg km E pj;have wA:∀k,k<w.heap.size+2->(Value.slice H 0 G).ownBlock≠some k:=fun k Z e=>by
      have:=(wN.out k e).1;omega
     have GO:=za (((Ln.out.alloc _).alloc _).grown E (wA _ (by omega)));have Y9:=za (((Y8.out.alloc _).alloc _).grown E (wA _ (by omega)));have fZ:Hid (Below w.heap.size w l):=za (((dM.out.alloc (by omega) _).alloc (by simp;omega) _).grown E (by simp;omega) (fun k Z=>by have:=(wN.out k Z).1;omega));have D3:=E.size;simp only[zu]at D3;have Z':=za km;clear K M I X J O N U E km wA;obtain⟨K,M,I,X,J,O,N,U⟩:=aL GO.out;go_wp2;go_roundw
     case rel=>
      have key:∃(p:Nat) (acc:List Ty) (j:Nat) (vv:Value),p<=s.size/\Value.int .i64 (pq:Int)= .int .i64 p/\Hid (eL f s aa p acc j)/\acc.length<=p/\j<=p/\af (l.setCell ⟨w.heap.size+1,2,none⟩ (.slice (some ⟨n,0,none⟩) m u)) w.heap.size 64 #[.int .i64 0,.int .i64 0,.slice none 0 0,.int .i64 0]/\af (l.setCell ⟨w.heap.size+1,2,none⟩ (.slice (some ⟨n,0,none⟩) m u)) (w.heap.size+1) 64 #[.int .i64 5,.int .i64 0,vv,.int .i64 j]/\eJ (l.setCell ⟨w.heap.size+1,2,none⟩ (.slice (some ⟨n,0,none⟩) m u)) (w.heap.size+2) acc vv/\Below w.heap.size w (l.setCell ⟨w.heap.size+1,2,none⟩ (.slice (some ⟨n,0,none⟩) m u))/\w.heap.size+2<=(l.setCell ⟨w.heap.size+1,2,none⟩ (.slice (some ⟨n,0,none⟩) m u)).heap.size:=by
       refine⟨pq,[]++ [y],0,.slice (some ⟨n,0,none⟩) m u,JJ,rfl,AU, ?_,by omega,Y9.out.dz (by simp) _, ?_, ?_,fZ.out.setCell (by simp) _, ?_⟩
       ·simp only[zo,zB,zO]at ad⊢;omega
       ·rw[VO.out];exact GO.out.store rfl
       ·exact Z'.out.only ((ae.refl [w.heap.size+1] l).setCell (p:=⟨w.heap.size+1,2,none⟩) (by simp) _) (by simp)
       simp[World.setCell];omega
      first|exact key|((repeat apply Exists.intro);exact⟨key,rfl⟩)
     case measure=>simp[intOf];omega
   have ow:0<n2:=by
    rw[Jn.out];cases acc with
    |nil=>exact absurd rfl ha
    |cons a b=>simp
   by_cases tu:s[p].toNat=44
   ·have e7:((s[p].toNat:Int) !=44)=false:=by simp[tu]
    have qF:=za (hrel.out.more ab tu ha);clear iR ha tu;by_cases AP:(p+1)<s.size
    ·by_cases Dv:s[(p+1)].toNat=63
     ·have e8:((s[(p+1)].toNat:Int)==63)=true:=by simp[Dv]
      have qA:=za (qF.out.mark AP Dv);obtain⟨W,d⟩:∃W,wr.setCell ⟨w.heap.size+1,3,none⟩ (.int .i64 ((j:Int)+1))=W:=⟨_,rfl⟩
      have VN:Hid (af W (w.heap.size+1) 64 #[.int .i64 5,.int .i64 0,.slice H n2 G,.int .i64 ((j:Int)+1)]):=za (by rw[<-d];exact wK.out.store rfl);have NQ:Hid (af W w.heap.size 64 #[.int .i64 0,.int .i64 0,.slice none 0 0,.int .i64 0]):=za (by rw[<-d];exact po.out.dz (by simp) _);have Of:Hid (eJ W (w.heap.size+2) acc (.slice H n2 G)):=za (by rw[<-d];exact jT.out.only ((ae.refl [w.heap.size+1] wr).setCell (by simp) _) (by simp));have AR:Hid (Below w.heap.size w W):=za (by rw[<-d];exact HB.out.setCell (by simp) _);have Un:Hid (W.heap.size=wr.heap.size):=za (by rw[<-d];simp[World.setCell]);have HW:=za d;have D:(p+1)+1<=s.size:=by omega
      have VO:Hid (((j+1:Nat):Int)=(j:Int)+1):=za (by omega);clear Dv d qF;have HI:Hid (∀(V:World) (i:Int),i=((((p+1)+1):Nat):Int)->Calls Tryz.prog 35 #[.string s,.int .i64 i,.int .i64 ((deep+1:Nat):Int)] V fun e w'=>lU s V (aK f (s.data.toList.drop (((p+1)+1)))) e w'):=za (fun V i hi=>by subst hi;exact IH.out s (((p+1)+1)) V D hs);have E9:Hid ((deep:Int)+1=((deep+1:Nat):Int)):=za (by omega);go_wp2_with fail
      rw[E9.out];refine(HI.out _ _ (by first|rfl|omega)).mono ?_;rintro e S F;rw[HW.out]at F;obtain⟨T,Y⟩:∃T,Hid (aK f (s.data.toList.drop (((p+1)+1)))=T):=⟨_,za rfl⟩
      rw[Y.out]at F;have Lp:=Un.out;cases T with
      |none=>
       obtain⟨c,v0,v1,rfl⟩:=F;have R:=za (qA.out.none Y.out);have NF:=c.size;have kJ:w.heap.size<S.heap.size:=by omega
       have dM:=za (AR.out.trans (c.mono (by omega)));clear C A B x jL jM jN jQ K M I X J O N U;obtain⟨C,A,B,x,jL,jM,jN,jQ⟩:=aL (NQ.out.ag c (by omega));clear c Lp;go_wp2;refine zp (v:=bG 0 0) (by simp[bG,results,yb,go_sem,C,A,B,x,zE,kJ]) rfl ?_;rw[R.out];refine⟨?_,0,0,rfl⟩;exact(((((dM.out.setCell (by simp) _).setCell (by simp) _).setCell (by simp) _).setCell (by simp) _).alloc (by simp[World.setCell];omega) _)
      |some z=>
       obtain⟨y,r⟩:=z;obtain⟨c,c0,c1,c2,c3,rfl,hy⟩:=F;obtain⟨HN,qI,JJ⟩:=qA.out.some D Y.out;have AU:=za HN;have NF:=c.size;have Ln:=za (VN.out.ag c (by omega));have Y8:=za (NQ.out.ag c (by omega));have Y':=za (Of.out.below c);have dM:=za (AR.out.trans (c.mono (by omega)));have jP:=Of.out.ge;have HY:Hid (∀o o',fy ((S.alloc o).alloc o') (fun k=>w.heap.size+2<=k/\(Value.slice H n2 G).ownBlock≠some k) y c0 c1 c2 c3):=za (by
        intro o o';refine fy.ag ?_ ?_ y hy
        ·intro k Z hS;have hS:W.heap.size<=k:=hS;exact⟨by omega,fun e=>by have:=(jP k e).2;omega⟩
        intro q D _;rw[zE _ _ _ (by rw[zu];omega),zE _ _ _ D])
       have kJ:w.heap.size<S.heap.size:=by omega
       have rR:w.heap.size+1<S.heap.size:=by omega
       have wN:=za jP;obtain⟨AA,lQ,rfl,rfl,rfl,rfl,_⟩:=hy.open_;clear C A B x jL jM jN jQ K M I X J O N U hy HN jP c Lp;obtain⟨K,M,I,X,J,O,N,U⟩:=aL Ln.out;generalize s.size-r.length=pq at*;go_wp2_with (at_builtin;refine cq (by rfl) (.tmp 181) (.tmp 183) (by rfl) (w.heap.size+2) acc (by rfl) ((Y'.out.below ((zq _ _).alloc (zi _) _)).below ((zq _ _).alloc (zi _) _)) y (HY.out _ _) _ (by rfl) (by simp) (by simp) (by simp) (by simp) (by first|omega|simp) (by simp only[zu];omega) ?_)
       intro n m u l Sg km E pj;have wA:∀k,k<w.heap.size+2->(Value.slice H n2 G).ownBlock≠some k:=fun k Z e=>by
        have:=(wN.out k e).1;omega
       have GO:=za (((Ln.out.alloc _).alloc _).grown E (wA _ (by omega)));have Y9:=za (((Y8.out.alloc _).alloc _).grown E (wA _ (by omega)));have fZ:Hid (Below w.heap.size w l):=za (((dM.out.alloc (by omega) _).alloc (by simp;omega) _).grown E (by simp;omega) (fun k Z=>by have:=(wN.out k Z).1;omega));have D3:=E.size;simp only[zu]at D3;have Z':=za km;clear K M I X J O N U E km wA;obtain⟨K,M,I,X,J,O,N,U⟩:=aL GO.out;go_wp2;go_roundw
       case rel=>
        have key:∃(p:Nat) (acc:List Ty) (j:Nat) (vv:Value),p<=s.size/\Value.int .i64 (pq:Int)= .int .i64 p/\Hid (eL f s aa p acc j)/\acc.length<=p/\j<=p/\af (l.setCell ⟨w.heap.size+1,2,none⟩ (.slice (some ⟨n,0,none⟩) m u)) w.heap.size 64 #[.int .i64 0,.int .i64 0,.slice none 0 0,.int .i64 0]/\af (l.setCell ⟨w.heap.size+1,2,none⟩ (.slice (some ⟨n,0,none⟩) m u)) (w.heap.size+1) 64 #[.int .i64 5,.int .i64 0,vv,.int .i64 j]/\eJ (l.setCell ⟨w.heap.size+1,2,none⟩ (.slice (some ⟨n,0,none⟩) m u)) (w.heap.size+2) acc vv/\Below w.heap.size w (l.setCell ⟨w.heap.size+1,2,none⟩ (.slice (some ⟨n,0,none⟩) m u))/\w.heap.size+2<=(l.setCell ⟨w.heap.size+1,2,none⟩ (.slice (some ⟨n,0,none⟩) m u)).heap.size:=by
         refine⟨pq,acc++ [y],(j+1),.slice (some ⟨n,0,none⟩) m u,JJ,rfl,AU, ?_,by omega,Y9.out.dz (by simp) _, ?_, ?_,fZ.out.setCell (by simp) _, ?_⟩
         ·simp only[zo,zB,zO]at ad⊢;omega
         ·rw[VO.out];exact GO.out.store rfl
         ·exact Z'.out.only ((ae.refl [w.heap.size+1] l).setCell (p:=⟨w.heap.size+1,2,none⟩) (by simp) _) (by simp)
         simp[World.setCell];omega
        first|exact key|((repeat apply Exists.intro);exact⟨key,rfl⟩)
       case measure=>simp[intOf];omega
     have e8:((s[(p+1)].toNat:Int)==63)=false:=zr.2 (by omega);have wO:Hid (∀D:(p+1)<s.size,s[(p+1)].toNat≠63):=za (fun _=>Dv);clear Dv;by_cases RA:0<j
     ·have R:=za (qF.out.none_ wO.out RA);go_wp2;refine zp (v:=bG 0 0) (by simp[bG,results,yb,go_sem,C,A,B,x]) rfl ?_;rw[R.out];exact⟨(((HB.out.setCell (by simp) _).setCell (by simp) _).setCell (by simp) _).setCell (by simp) _,0,0,rfl⟩
     obtain rfl:j=0:=by omega
     have qA:=za (qF.out.plain wO.out);obtain⟨W,d⟩:∃W,wr=W:=⟨_,rfl⟩
     have VN:Hid (af W (w.heap.size+1) 64 #[.int .i64 5,.int .i64 0,.slice H n2 G,.int .i64 0]):=za (by rw[<-d];exact wK.out);have NQ:Hid (af W w.heap.size 64 #[.int .i64 0,.int .i64 0,.slice none 0 0,.int .i64 0]):=za (by rw[<-d];exact po.out);have Of:Hid (eJ W (w.heap.size+2) acc (.slice H n2 G)):=za (by rw[<-d];exact jT.out);have AR:Hid (Below w.heap.size w W):=za (by rw[<-d];exact HB.out);have Un:Hid (W.heap.size=wr.heap.size):=za (by rw[<-d]);have HW:=za d;have D:(p+1)<=s.size:=by omega
     have VO:Hid (((0:Nat):Int)=(0:Int)):=za rfl;clear d qF wO;have HI:Hid (∀(V:World) (i:Int),i=((((p+1)):Nat):Int)->Calls Tryz.prog 35 #[.string s,.int .i64 i,.int .i64 ((deep+1:Nat):Int)] V fun e w'=>lU s V (aK f (s.data.toList.drop (((p+1))))) e w'):=za (fun V i hi=>by subst hi;exact IH.out s (((p+1))) V D hs);have E9:Hid ((deep:Int)+1=((deep+1:Nat):Int)):=za (by omega);go_wp2_with fail
     rw[E9.out];refine(HI.out _ _ (by first|rfl|omega)).mono ?_;rintro e S F;rw[HW.out]at F;obtain⟨T,Y⟩:∃T,Hid (aK f (s.data.toList.drop (((p+1))))=T):=⟨_,za rfl⟩
     rw[Y.out]at F;have Lp:=Un.out;cases T with
     |none=>
      obtain⟨c,v0,v1,rfl⟩:=F;have R:=za (qA.out.none Y.out);have NF:=c.size;have kJ:w.heap.size<S.heap.size:=by omega
      have dM:=za (AR.out.trans (c.mono (by omega)));clear C A B x jL jM jN jQ K M I X J O N U;obtain⟨C,A,B,x,jL,jM,jN,jQ⟩:=aL (NQ.out.ag c (by omega));clear c Lp;go_wp2;refine zp (v:=bG 0 0) (by simp[bG,results,yb,go_sem,C,A,B,x,zE,kJ]) rfl ?_;rw[R.out];refine⟨?_,0,0,rfl⟩;exact(((((dM.out.setCell (by simp) _).setCell (by simp) _).setCell (by simp) _).setCell (by simp) _).alloc (by simp[World.setCell];omega) _)
     |some z=>
      obtain⟨y,r⟩:=z;obtain⟨c,c0,c1,c2,c3,rfl,hy⟩:=F;obtain⟨HN,qI,JJ⟩:=qA.out.some D Y.out;have AU:=za HN;have NF:=c.size;have Ln:=za (VN.out.ag c (by omega));have Y8:=za (NQ.out.ag c (by omega));have Y':=za (Of.out.below c);have dM:=za (AR.out.trans (c.mono (by omega)));have jP:=Of.out.ge;have HY:Hid (∀o o',fy ((S.alloc o).alloc o') (fun k=>w.heap.size+2<=k/\(Value.slice H n2 G).ownBlock≠some k) y c0 c1 c2 c3):=za (by
       intro o o';refine fy.ag ?_ ?_ y hy
       ·intro k Z hS;have hS:W.heap.size<=k:=hS;exact⟨by omega,fun e=>by have:=(jP k e).2;omega⟩
       intro q D _;rw[zE _ _ _ (by rw[zu];omega),zE _ _ _ D])
      have kJ:w.heap.size<S.heap.size:=by omega
      have rR:w.heap.size+1<S.heap.size:=by omega
      have wN:=za jP;obtain⟨AA,lQ,rfl,rfl,rfl,rfl,_⟩:=hy.open_;clear C A B x jL jM jN jQ K M I X J O N U hy HN jP c Lp;obtain⟨K,M,I,X,J,O,N,U⟩:=aL Ln.out;generalize s.size-r.length=pq at*;go_wp2_with (at_builtin;refine cq (by rfl) (.tmp 181) (.tmp 183) (by rfl) (w.heap.size+2) acc (by rfl) ((Y'.out.below ((zq _ _).alloc (zi _) _)).below ((zq _ _).alloc (zi _) _)) y (HY.out _ _) _ (by rfl) (by simp) (by simp) (by simp) (by simp) (by first|omega|simp) (by simp only[zu];omega) ?_)
      intro n m u l Sg km E pj;have wA:∀k,k<w.heap.size+2->(Value.slice H n2 G).ownBlock≠some k:=fun k Z e=>by
       have:=(wN.out k e).1;omega
      have GO:=za (((Ln.out.alloc _).alloc _).grown E (wA _ (by omega)));have Y9:=za (((Y8.out.alloc _).alloc _).grown E (wA _ (by omega)));have fZ:Hid (Below w.heap.size w l):=za (((dM.out.alloc (by omega) _).alloc (by simp;omega) _).grown E (by simp;omega) (fun k Z=>by have:=(wN.out k Z).1;omega));have D3:=E.size;simp only[zu]at D3;have Z':=za km;clear K M I X J O N U E km wA;obtain⟨K,M,I,X,J,O,N,U⟩:=aL GO.out;go_wp2;go_roundw
      case rel=>
       have key:∃(p:Nat) (acc:List Ty) (j:Nat) (vv:Value),p<=s.size/\Value.int .i64 (pq:Int)= .int .i64 p/\Hid (eL f s aa p acc j)/\acc.length<=p/\j<=p/\af (l.setCell ⟨w.heap.size+1,2,none⟩ (.slice (some ⟨n,0,none⟩) m u)) w.heap.size 64 #[.int .i64 0,.int .i64 0,.slice none 0 0,.int .i64 0]/\af (l.setCell ⟨w.heap.size+1,2,none⟩ (.slice (some ⟨n,0,none⟩) m u)) (w.heap.size+1) 64 #[.int .i64 5,.int .i64 0,vv,.int .i64 j]/\eJ (l.setCell ⟨w.heap.size+1,2,none⟩ (.slice (some ⟨n,0,none⟩) m u)) (w.heap.size+2) acc vv/\Below w.heap.size w (l.setCell ⟨w.heap.size+1,2,none⟩ (.slice (some ⟨n,0,none⟩) m u))/\w.heap.size+2<=(l.setCell ⟨w.heap.size+1,2,none⟩ (.slice (some ⟨n,0,none⟩) m u)).heap.size:=by
        refine⟨pq,acc++ [y],0,.slice (some ⟨n,0,none⟩) m u,JJ,rfl,AU, ?_,by omega,Y9.out.dz (by simp) _, ?_, ?_,fZ.out.setCell (by simp) _, ?_⟩
        ·simp only[zo,zB,zO]at ad⊢;omega
        ·rw[VO.out];exact GO.out.store rfl
        ·exact Z'.out.only ((ae.refl [w.heap.size+1] l).setCell (p:=⟨w.heap.size+1,2,none⟩) (by simp) _) (by simp)
        simp[World.setCell];omega
       first|exact key|((repeat apply Exists.intro);exact⟨key,rfl⟩)
      case measure=>simp[intOf];omega
    have wO:Hid (∀D:(p+1)<s.size,s[(p+1)].toNat≠63):=za (fun h=>absurd h AP);by_cases RA:0<j
    ·have R:=za (qF.out.none_ wO.out RA);go_wp2;refine zp (v:=bG 0 0) (by simp[bG,results,yb,go_sem,C,A,B,x]) rfl ?_;rw[R.out];exact⟨(((HB.out.setCell (by simp) _).setCell (by simp) _).setCell (by simp) _).setCell (by simp) _,0,0,rfl⟩
    obtain rfl:j=0:=by omega
    have qA:=za (qF.out.plain wO.out);obtain⟨W,d⟩:∃W,wr=W:=⟨_,rfl⟩
    have VN:Hid (af W (w.heap.size+1) 64 #[.int .i64 5,.int .i64 0,.slice H n2 G,.int .i64 0]):=za (by rw[<-d];exact wK.out);have NQ:Hid (af W w.heap.size 64 #[.int .i64 0,.int .i64 0,.slice none 0 0,.int .i64 0]):=za (by rw[<-d];exact po.out);have Of:Hid (eJ W (w.heap.size+2) acc (.slice H n2 G)):=za (by rw[<-d];exact jT.out);have AR:Hid (Below w.heap.size w W):=za (by rw[<-d];exact HB.out);have Un:Hid (W.heap.size=wr.heap.size):=za (by rw[<-d]);have HW:=za d;have D:(p+1)<=s.size:=by omega
    have VO:Hid (((0:Nat):Int)=(0:Int)):=za rfl;clear d qF wO;have HI:Hid (∀(V:World) (i:Int),i=((((p+1)):Nat):Int)->Calls Tryz.prog 35 #[.string s,.int .i64 i,.int .i64 ((deep+1:Nat):Int)] V fun e w'=>lU s V (aK f (s.data.toList.drop (((p+1))))) e w'):=za (fun V i hi=>by subst hi;exact IH.out s (((p+1))) V D hs);have E9:Hid ((deep:Int)+1=((deep+1:Nat):Int)):=za (by omega);go_wp2_with fail
    rw[E9.out];refine(HI.out _ _ (by first|rfl|omega)).mono ?_;rintro e S F;rw[HW.out]at F;have Y:Hid (aK f (s.data.toList.drop (((p+1))))=none):=za (by rw[zR (by simp;omega),BW]);rw[Y.out]at F;have Lp:=Un.out;obtain⟨c,v0,v1,rfl⟩:=F;have R:=za (qA.out.none Y.out);have NF:=c.size;have kJ:w.heap.size<S.heap.size:=by omega
    have dM:=za (AR.out.trans (c.mono (by omega)));clear C A B x jL jM jN jQ K M I X J O N U;obtain⟨C,A,B,x,jL,jM,jN,jQ⟩:=aL (NQ.out.ag c (by omega));clear c Lp;go_wp2;refine zp (v:=bG 0 0) (by simp[bG,results,yb,go_sem,C,A,B,x,zE,kJ]) rfl ?_;rw[R.out];refine⟨?_,0,0,rfl⟩;exact(((((dM.out.setCell (by simp) _).setCell (by simp) _).setCell (by simp) _).setCell (by simp) _).alloc (by simp[World.setCell];omega) _)
   have e7:((s[p].toNat:Int) !=44)=true:=by simp;omega
   have R:=za (hrel.out.bad ab iR tu ha);clear iR ha tu;go_wp2;refine zp (v:=bG 0 0) (by simp[bG,results,yb,go_sem,C,A,B,x]) rfl ?_;rw[R.out];exact⟨(((HB.out.setCell (by simp) _).setCell (by simp) _).setCell (by simp) _).setCell (by simp) _,0,0,rfl⟩
  have R:=za (hrel.out.stop (by omega));go_wp2;refine zp (v:=bG 0 0) (by simp[bG,results,yb,go_sem,C,A,B,x]) rfl ?_;rw[R.out];exact⟨(((HB.out.setCell (by simp) _).setCell (by simp) _).setCell (by simp) _).setCell (by simp) _,0,0,rfl⟩
theorem M7 :∀(f deep:Nat),deep+f=9->∀(s:ByteArray) (at_:Nat) (w:World),at_<=s.size->s.size<=100000->
 Calls Tryz.prog 35 #[.string s,.int .i64 at_,.int .i64 deep] w fun e w'=>lU s w (aK f (s.data.toList.drop at_)) e w':=by
 intro f;induction f with
 |zero=>
  intro deep l s at_ w i d;have b:Hid (aK 0 (s.data.toList.drop at_)=none):=za rfl;generalize aK 0 (s.data.toList.drop at_)=R at*;have h:8<deep:=by omega
  clear l;by_cases j:at_<s.size
  ·go_enter yN,yG
   go_wp2;refine zp (v:=bG 0 0) (by simp[bG,results,yb,go_sem,b]) rfl ?_;rw[b.out];exact⟨bM,0,0,rfl⟩
  go_enter yN,yG
  go_wp2;refine zp (v:=bG 0 0) (by simp[bG,results,yb,go_sem,b]) rfl ?_;rw[b.out];exact⟨bM,0,0,rfl⟩
 |succ f ih=>
  intro deep l s at_ w i d;have k:=za (fun s at_ w=>ih (deep+1) (by omega) s at_ w);have h:deep<=8:=by omega
  clear ih l;obtain⟨R,c⟩:∃R,Hid (aK (f+1) (s.data.toList.drop at_)=R):=⟨_,za rfl⟩
  rw[c.out];by_cases j:at_<s.size
  ·by_cases n:s[at_].toNat=91
   ·exact C' f deep h k s at_ w i d R c j n
   by_cases m:s[at_].toNat=123
   ·exact vL f deep h k s at_ w i d R c j m
   exact FP f deep h k s at_ w i d R c j n m
  have b:Hid (R=none):=za (by rw[<-c.out,zR (by simp;omega),BW]);clear c;go_enter yN,yG
  go_wp2;refine zp (v:=bG 0 0) (by simp[bG,results,yb,go_sem,b]) rfl ?_;rw[b.out];exact⟨bM,0,0,rfl⟩
theorem sN {p:List UInt8->Option (Ty×List UInt8)}(j:∀l y r,p l=some (y,r)->y.count+r.length<=l.length):∀n l acc i y r,fx p n l acc i=some (y,r)->y.count+r.length<=aZ acc+l.length
 |0,_,_,_,_,_,h=>by simp[fx]at h
 |n+1,[],_,_,_,_,h=>by simp[fx]at h
 |n+1,c::l,acc,i,y,r,h=>by
  unfold fx at h;split at h
  ·injection h with h;injection h with d b;rw[<-d,<-b];simp[Ty.count];omega
  split at h
  ·cases h
  rename_i o d
  split at h
  ·cases h
  rename_i m s b
  split at h
  ·cases h
  rename_i u q k
  have k1:=(Bs d).length_le;have k2:=(J2 b).length_le;have w:=j _ _ _ k;have e:=sN j n _ _ _ _ _ h;rw[fH]at e;simp only[aZ]at e;omega
theorem ni :∀(f:Nat) (l:List UInt8) (y:Ty) (r:List UInt8),aK f l=some (y,r)->y.count+r.length<=l.length
 |0,_,_,_,h=>by simp[aK]at h
 |f+1,[],_,_,h=>by simp[aK]at h
 |f+1,c::l,y,r,h=>by
  have e:=(gh _ _ _ _ h).2;have j:=gh _ _ _ _ h;unfold aK at h;split at h
  ·split at h
   ·cases h
   split at h
   ·injection h with h;injection h with b h2;subst b;simp[Ty.count,aZ]at e⊢;omega
   cases h
  split at h
  ·split at h
   ·cases h
   injection h with h;injection h with b h2;subst b;simp[Ty.count,aZ]at e⊢;omega
  split at h
  ·split at h
   ·cases h
   injection h with h;injection h with b h2;subst b;simp[Ty.count,aZ]at e⊢;omega
  split at h
  ·split at h
   ·cases h
   rename_i x i b
   have k1:=ni f _ _ _ b;have k2:=Bu h;have m:y.count=1+x.count:=by
    unfold gG at h;match i,h with
    |d::i,h=>
     simp only at h;split at h
     ·split at h
      ·cases h
      ·cases h
      split at h
      ·injection h with h;injection h with h3 h4;rw[<-h3];simp[Ty.count,aZ]
      cases h
     cases h
   have:=k2.2;simp;omega
  split at h
  ·have k:=sN (ni f) _ _ _ _ _ _ h;simp[aZ]at k⊢;omega
  cases h
def U0 :Option (Ty×List UInt8)->Option Ty
 |none=>none
 |some (x,[])=>if x.may then some x else none
 |some (_,_::_)=>none
theorem M8 (l:List UInt8):cI l=U0 (aK 8 l):=by
 unfold cI;rcases aK 8 l with _|⟨x,r⟩
 ·rfl
 cases r<;>rfl
theorem I4 (s:ByteArray)(w:World)(i:s.size<=100000):
 Calls Tryz.prog 24 #[.string s] w fun e w'=>Fi w (cI s.data.toList) e w':=by
 have M:=za (M7 8 1 rfl s 0 (w.alloc (.cells #[.int .i64 0,.int .i64 0,.slice none 0 0,.int .i64 0] 64)) (yo _) i);obtain⟨T,K⟩:∃T,Hid (aK 8 s.data.toList=T):=⟨_,za rfl⟩
 rw[zN,K.out]at M;obtain⟨R,N⟩:∃R,Hid (cI s.data.toList=R):=⟨_,za rfl⟩
 rw[N.out];have S:Hid (U0 T=R):=za (by rw[<-N.out,M8,K.out]);clear N;cases T with
 |none=>
  have p:Hid (R=none):=za S.out.symm;go_enter Tryz.func24,Tryz.ntmps24
  go_wp2_with fail
  refine M.out.mono ?_;rintro e h ⟨b,v0,v1,rfl⟩;have d:=(af.new w 64 #[.int .i64 0,.int .i64 0,.slice none 0 0,.int .i64 0]).ag b (by simp);have U:=za d;obtain⟨j,n,o,l,F,H,G,E⟩:=aL d;have hz:=b.size;simp only[zu]at hz;have D:w.heap.size<h.heap.size:=by omega
  have B:Hid (Below w.heap.size w h):=za (((zq w.heap.size w).alloc (zi _) _).trans (b.mono (by simp)));clear b d;have n1:((-1:Int) !=(s.size:Int))=true:=by simp
  go_wp2;refine zp (v:= .tuple #[.agg #[.int .i64 0,.int .i64 0,.slice none 0 0,.int .i64 0],.int .i64 3]) (by simp[results,Tryz.results24,go_sem,j,n,o,l,zE,D]) rfl ?_;rw[p.out];exact⟨(((((B.out.setCell (by simp) _).setCell (by simp) _).setCell (by simp) _).setCell (by simp) _).alloc (by simp[World.setCell];omega) _),rfl⟩
 |some z=>
  obtain⟨x,r⟩:=z;have O:=ni _ _ _ _ K.out;have I:=(gh _ _ _ _ K.out).2;rw[aa]at O I;cases r with
  |cons c r=>
   have p:Hid (R=none):=za S.out.symm;have n1:(((s.size-(c::r).length:Nat):Int) !=(s.size:Int))=true:=by simp at I⊢;omega
   have n2:((s.size-(c::r).length) !=s.size)=true:=by simp at I⊢;omega
   generalize s.size-(c::r).length=q at*;go_enter Tryz.func24,Tryz.ntmps24
   go_wp2_with fail
   refine M.out.mono ?_;rintro e h ⟨b,c0,c1,c2,c3,rfl,C⟩;obtain⟨u,y,rfl,rfl,rfl,rfl,_⟩:=C.open_;have d:=(af.new w 64 #[.int .i64 0,.int .i64 0,.slice none 0 0,.int .i64 0]).ag b (by simp);have U:=za d;obtain⟨j,n,o,l,F,H,G,E⟩:=aL d;have hz:=b.size;simp only[zu]at hz;have D:w.heap.size<h.heap.size:=by omega
   have B:Hid (Below w.heap.size w h):=za (((zq w.heap.size w).alloc (zi _) _).trans (b.mono (by simp)));clear b d;go_wp2;refine zp (v:= .tuple #[.agg #[.int .i64 0,.int .i64 0,.slice none 0 0,.int .i64 0],.int .i64 3]) (by simp[results,Tryz.results24,go_sem,j,n,o,l,zE,D]) rfl ?_;rw[p.out];exact⟨(((((B.out.setCell (by simp) _).setCell (by simp) _).setCell (by simp) _).setCell (by simp) _).alloc (by simp[World.setCell];omega) _),rfl⟩
  |nil=>
   have n1:((s.size:Int) !=(s.size:Int))=false:=by simp
   have n2:(s.size !=s.size)=false:=by simp
   have ad:=za O;obtain⟨m,J⟩:∃m,x.may=m:=⟨_,rfl⟩
   have p:Hid (R=if m then some x else none):=za (by rw[<-J];exact S.out.symm);clear O I;go_enter Tryz.func24,Tryz.ntmps24
   go_wp2_with fail
   refine M.out.mono ?_;rintro e h ⟨b,c0,c1,c2,c3,rfl,C⟩;have X:=za C;obtain⟨u,y,rfl,rfl,rfl,rfl,_⟩:=C.open_;have d:=(af.new w 64 #[.int .i64 0,.int .i64 0,.slice none 0 0,.int .i64 0]).ag b (by simp);have U:=za d;obtain⟨j,n,o,l,F,H,G,E⟩:=aL d;have hz:=b.size;simp only[zu]at hz;have D:w.heap.size<h.heap.size:=by omega
   have B:Hid (Below w.heap.size w h):=za (((zq w.heap.size w).alloc (zi _) _).trans (b.mono (by simp)));clear b d;have Y:=fy.Aj x (X.out.below ((zq _ _).alloc (zi _) (.cells #[.int .i64 x.kind,.int .i64 x.size,.slice u x.sub.length y,.int .i64 x.tail] 64)));have HM:=za (Ku x _ (h.alloc (.cells #[.int .i64 x.kind,.int .i64 x.size,.slice u x.sub.length y,.int .i64 x.tail] 64)) _ _ _ _ Y (zi _) (by have:=ad.out;omega));rw[J]at HM;have ae:=za J;clear Y J C;go_wp2_with fail
   refine HM.out.mono ?_;rintro e w5 ⟨rfl,A⟩;clear j n o l F H G E;obtain⟨j,n,o,l,F,H,G,E⟩:=aL ((U.out.alloc _).ag A (by simp;omega));obtain⟨b0,b1,b2,b3,kC,kB,kz,kD⟩:=aL ((af.new h 64 #[.int .i64 x.kind,.int .i64 x.size,.slice u x.sub.length y,.int .i64 x.tail]).ag A (by simp));have W:Hid (Below w.heap.size w w5):=za ((B.out.alloc (by omega) _).trans (A.mono (by simp;omega)));have ab:=za ((X.out.below ((zq _ _).alloc (zi _) (.cells #[.int .i64 x.kind,.int .i64 x.size,.slice u x.sub.length y,.int .i64 x.tail] 64))).below A);clear A;cases m with
   |true=>
    go_wp2;refine zp (v:= .tuple #[.agg #[.int .i64 x.kind,.int .i64 x.size,.slice u x.sub.length y,.int .i64 x.tail],.int .i64 0]) (by simp[results,Tryz.results24,go_sem,j,n,o,l]) rfl ?_;rw[p.out];refine⟨(((W.out.setCell (by simp) _).setCell (by simp) _).setCell (by simp) _).setCell (by simp) _,_,_,_,_,rfl, ?_⟩;refine ab.out.only (L:= [w.heap.size]) Cx ?_ ?_
    ·intro k Z i;have Z:k=w.heap.size:=by simpa using Z
     have i:(w.alloc (.cells #[.int .i64 0,.int .i64 0,.slice none 0 0,.int .i64 0] 64)).heap.size<=k:=i;simp at i;omega
    intro k _ i;have i:(w.alloc (.cells #[.int .i64 0,.int .i64 0,.slice none 0 0,.int .i64 0] 64)).heap.size<=k:=i;simp at i;show w.heap.size<=k
    omega
   |false=>
    go_wp2;refine zp (v:= .tuple #[.agg #[.int .i64 0,.int .i64 0,.slice none 0 0,.int .i64 0],.int .i64 3]) (by simp[results,Tryz.results24,go_sem,j,n,o,l,zE,D]) rfl ?_;rw[p.out];exact⟨(((W.out.setCell (by simp) _).setCell (by simp) _).setCell (by simp) _).setCell (by simp) _,rfl⟩
