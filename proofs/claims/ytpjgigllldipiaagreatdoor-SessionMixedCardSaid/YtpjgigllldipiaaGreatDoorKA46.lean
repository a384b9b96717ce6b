/- The document's parse of types: numbers, and no type. -/
import Derived.Test.YtpjgigllldipiaaGreatDoorKA17
set_option linter.all false
set_option maxRecDepth 100000
set_option maxHeartbeats 3200000
namespace Go.Proofs.YtpjgigllldipiaaGreatDoor
open Tryz
open Go.RowKit
def yb:=@results35
def yG:=@ntmps35
def yM:=@func35
theorem FI (f deep:Nat)(X:deep<=8)(U:Hid (∀(s:ByteArray) (at_:Nat) (w:World),at_<=s.size->s.size<=100000->
 Calls prog 35 #[.string s,.int .i64 at_,.int .i64 ((deep+1:Nat):Int)] w fun e w'=>lQ s w (aK f (s.data.toList.drop at_)) e w')) (s:ByteArray) (at_:Nat) (w:World) (L:at_<=s.size) (G:s.size<=100000)
 (R:Option (Ty×List UInt8)) (E:Hid (aK (f+1) (s.data.toList.drop at_)=R)) (K:at_<s.size) (B:s[at_].toNat≠91) (A:s[at_].toNat≠123):
 Calls prog 35 #[.string s,.int .i64 at_,.int .i64 deep] w fun e w'=>lQ s w R e w':=by
 have S:decide (s.size<=at_)=false:=by simp;omega
 have W:decide ((8:Int)<(deep:Int))=false:=by simp;omega
 have h:Hid (aK (f+1) (s[at_]::s.data.toList.drop (at_+1))=R):=za (by rw[<-drop_cons s at_ K];exact E.out);have i:=za (fun w=>oN s (at_+1) w (by omega) G);have H:Hid (((at_+1:Nat):Int)=(at_:Int)+1):=za (by omega);obtain⟨N,k⟩:∃N,Hid (cc (s.data.toList.drop (at_+1))=N):=⟨_,za rfl⟩
 rw[k.out,H.out]at i;clear E;by_cases hu:s[at_].toNat=117
 ·have I:((s[at_].toNat:Int)==117)=true:=by simp[hu]
  have b:Hid (wT N=R):=za (by rw[<-h.out,show s[at_]=117 from zW.1 hu,JA,k.out]);clear hu h;cases N with
  |none=>
   have c:Hid (R=none):=za b.out.symm;clear b;go_enter yM,yG
   go_wp2_with fail
   refine(i.out _).mono ?_;rintro e w' ⟨rfl,rfl⟩;simp only[ec];go_wp2;refine zo (v:=bE 1 0) (by simp[bE,results,yb,go_sem]) rfl ?_;rw[c.out];exact⟨bN,1,0,rfl⟩
  |some z=>
   obtain⟨n,r⟩:=z;obtain⟨l,o,p,C⟩:=pC (by omega) k.out;by_cases j:n%8=0
   ·have c:Hid (R=some (Ty.mk 1 ((n/8:Nat):Int) [] 0,r)):=za (by rw[<-b.out];simp[wT,j]);have D:((n:Int)%8 !=0)=false:=by simp;omega
    have y:Hid (((n/8:Nat):Int)=(n:Int)/8):=za (by omega);clear b j l;obtain⟨q,d⟩:∃q,s.size-r.length=q:=⟨_,rfl⟩
    have x:=za d;rw[d]at o p;go_enter yM,yG
    go_wp2_with fail
    refine(i.out _).mono ?_;rintro e w' ⟨rfl,rfl⟩;simp only[ec,d];clear d;go_wp2;refine zo (v:= .tuple #[.agg #[.int .i64 1,.int .i64 ((n:Int)/8),.slice none 0 0,.int .i64 0],.int .i64 (q:Int)]) (by simp[results,yb,go_sem]) rfl ?_;rw[c.out];refine⟨bN,_,_,_,_,by rw[x.out], ?_⟩;first|exact fh.leaf (ay (by omega) (by omega)) (ay (by omega) (by omega)) (ay (by omega) (by omega))|(rw[y.out];exact fh.leaf (ay (by omega) (by omega)) (ay (by omega) (by omega)) (ay (by omega) (by omega)))
   have c:Hid (R=none):=za (by rw[<-b.out];simp[wT,j]);have D:((n:Int)%8 !=0)=true:=by simp;omega
   clear b j l;go_enter yM,yG
   go_wp2_with fail
   refine(i.out _).mono ?_;rintro e w' ⟨rfl,rfl⟩;simp only[ec];go_wp2;refine zo (v:=bE 0 0) (by simp[bE,results,yb,go_sem,]) rfl ?_;rw[c.out];exact⟨bN,0,0,rfl⟩
 have I:((s[at_].toNat:Int)==117)=false:=zr.2 (by omega);have D:True:=trivial;by_cases m:s[at_].toNat=98
 ·have F:((s[at_].toNat:Int)==98)=true:=by simp[m]
  have b:Hid (sW 2 N=R):=za (by rw[<-h.out,show s[at_]=98 from zW.1 m,JB,k.out]);clear hu m h;cases N with
  |none=>
   have c:Hid (R=none):=za b.out.symm;clear b;go_enter yM,yG
   go_wp2_with fail
   refine(i.out _).mono ?_;rintro e w' ⟨rfl,rfl⟩;simp only[ec];go_wp2;refine zo (v:=bE 2 0) (by simp[bE,results,yb,go_sem]) rfl ?_;rw[c.out];exact⟨bN,2,0,rfl⟩
  |some z=>
   obtain⟨n,r⟩:=z;obtain⟨l,o,p,C⟩:=pC (by omega) k.out;have c:Hid (R=some (Ty.mk 2 (n:Int) [] 0,r)):=za b.out.symm;have j:True:=trivial;have y:Hid (((n/8:Nat):Int)=(n:Int)/8):=za (by omega);clear b j l;obtain⟨q,d⟩:∃q,s.size-r.length=q:=⟨_,rfl⟩
   have x:=za d;rw[d]at o p;go_enter yM,yG
   go_wp2_with fail
   refine(i.out _).mono ?_;rintro e w' ⟨rfl,rfl⟩;simp only[ec,d];clear d;go_wp2;refine zo (v:= .tuple #[.agg #[.int .i64 2,.int .i64 (n:Int),.slice none 0 0,.int .i64 0],.int .i64 (q:Int)]) (by simp[results,yb,go_sem]) rfl ?_;rw[c.out];refine⟨bN,_,_,_,_,by rw[x.out], ?_⟩;first|exact fh.leaf (ay (by omega) (by omega)) (ay (by omega) (by omega)) (ay (by omega) (by omega))|(rw[y.out];exact fh.leaf (ay (by omega) (by omega)) (ay (by omega) (by omega)) (ay (by omega) (by omega)))
 have F:((s[at_].toNat:Int)==98)=false:=zr.2 (by omega);by_cases u:s[at_].toNat=115
 ·have J:((s[at_].toNat:Int)==115)=true:=by simp[u]
  have b:Hid (sW 3 N=R):=za (by rw[<-h.out,show s[at_]=115 from zW.1 u,JC,k.out]);clear hu m u h;cases N with
  |none=>
   have c:Hid (R=none):=za b.out.symm;clear b;go_enter yM,yG
   go_wp2_with fail
   refine(i.out _).mono ?_;rintro e w' ⟨rfl,rfl⟩;simp only[ec];go_wp2;refine zo (v:=bE 3 0) (by simp[bE,results,yb,go_sem]) rfl ?_;rw[c.out];exact⟨bN,3,0,rfl⟩
  |some z=>
   obtain⟨n,r⟩:=z;obtain⟨l,o,p,C⟩:=pC (by omega) k.out;have c:Hid (R=some (Ty.mk 3 (n:Int) [] 0,r)):=za b.out.symm;have j:True:=trivial;have y:Hid (((n/8:Nat):Int)=(n:Int)/8):=za (by omega);clear b j l;obtain⟨q,d⟩:∃q,s.size-r.length=q:=⟨_,rfl⟩
   have x:=za d;rw[d]at o p;go_enter yM,yG
   go_wp2_with fail
   refine(i.out _).mono ?_;rintro e w' ⟨rfl,rfl⟩;simp only[ec,d];clear d;go_wp2;refine zo (v:= .tuple #[.agg #[.int .i64 3,.int .i64 (n:Int),.slice none 0 0,.int .i64 0],.int .i64 (q:Int)]) (by simp[results,yb,go_sem]) rfl ?_;rw[c.out];refine⟨bN,_,_,_,_,by rw[x.out], ?_⟩;first|exact fh.leaf (ay (by omega) (by omega)) (ay (by omega) (by omega)) (ay (by omega) (by omega))|(rw[y.out];exact fh.leaf (ay (by omega) (by omega)) (ay (by omega) (by omega)) (ay (by omega) (by omega)))
 have J:((s[at_].toNat:Int)==115)=false:=zr.2 (by omega);have O:((s[at_].toNat:Int)==91)=false:=zr.2 (by omega);have M:((s[at_].toNat:Int) !=123)=true:=by simp;omega
 have c:Hid (R=none):=za (by rw[<-h.out,Er _ _ _ hu m u B A]);clear hu m u B A h;go_enter yM,yG
 go_wp2;refine zo (v:=bE 0 0) (by simp[bE,results,yb,go_sem,]) rfl ?_;rw[c.out];exact⟨bN,0,0,rfl⟩
theorem C1 (f deep:Nat)(YI:deep<=8)(IH:Hid (∀(s:ByteArray) (at_:Nat) (w:World),at_<=s.size->s.size<=100000->
 Calls prog 35 #[.string s,.int .i64 at_,.int .i64 ((deep+1:Nat):Int)] w fun e w'=>lQ s w (aK f (s.data.toList.drop at_)) e w')) (s:ByteArray) (at_:Nat) (w:World) (cZ:at_<=s.size) (D:s.size<=100000)
 (R:Option (Ty×List UInt8)) (HR:Hid (aK (f+1) (s.data.toList.drop at_)=R)) (aC:at_<s.size) (Qj:s[at_].toNat=91):
 Calls prog 35 #[.string s,.int .i64 at_,.int .i64 deep] w fun e w'=>lQ s w R e w':=by
 have d1:decide (s.size<=at_)=false:=by simp;omega
 have d2:decide ((8:Int)<(deep:Int))=false:=by simp;omega
 have HC:Hid (aK (f+1) (s[at_]::s.data.toList.drop (at_+1))=R):=za (by rw[<-drop_cons s at_ aC];exact HR.out);have F:=za (fun w=>oN s (at_+1) w (by omega) D);have E8:Hid (((at_+1:Nat):Int)=(at_:Int)+1):=za (by omega);obtain⟨N,O⟩:∃N,Hid (cc (s.data.toList.drop (at_+1))=N):=⟨_,za rfl⟩
 rw[O.out,E8.out]at F;clear HR;have e1:((s[at_].toNat:Int)==117)=false:=zr.2 (by omega);have e2:((s[at_].toNat:Int)==98)=false:=zr.2 (by omega);have e3:((s[at_].toNat:Int)==115)=false:=zr.2 (by omega);have e4:((s[at_].toNat:Int)==91)=true:=by simp[Qj]
 have sT:Hid (uA (aK f (s.data.toList.drop (at_+1)))=R):=za (by rw[<-HC.out,show s[at_]=91 from zW.1 Qj,JD]);have E:=za (IH.out s (at_+1) (w.alloc (.cells #[.int .i64 0,.int .i64 0,.slice none 0 0,.int .i64 0] 64)) (by omega) D);have J:Hid ((deep:Int)+1=((deep+1:Nat):Int)):=za (by omega);obtain⟨T,HT⟩:∃T,Hid (aK f (s.data.toList.drop (at_+1))=T):=⟨_,za rfl⟩
 rw[HT.out]at sT E;rw[E8.out]at E;clear Qj HC F O;cases T with
 |none=>
  have p:Hid (R=none):=za sT.out.symm;clear sT;go_enter yM,yG
  go_wp2_with fail
  rw[J.out];refine E.out.mono ?_;rintro e b ⟨c,v0,v1,rfl⟩;have h:=(af.new w 64 #[.int .i64 0,.int .i64 0,.slice none 0 0,.int .i64 0]).ah c (by simp);obtain⟨r,m,l,j,S,Y,U,X⟩:=aO h;have hz:=c.size;simp only[zt]at hz;have i:w.heap.size<b.heap.size:=by omega
  have K:w.heap.size<b.heap.size+1:=by omega
  have o:Hid (Below w.heap.size w b):=za (((zq w.heap.size w).alloc (zf _) _).trans (c.mono (by simp)));clear c h;go_wp2;refine zo (v:=bE 0 0) (by simp[bE,results,yb,go_sem,r,m,l,j,zE,i]) rfl ?_;rw[p.out];refine⟨?_,0,0,rfl⟩;exact(((((o.out.setCell (by simp) _).setCell (by simp) _).setCell (by simp) _).setCell (by simp) _).alloc (by simp[World.setCell];omega) _)
 |some z=>
  obtain⟨x,ad⟩:=z;obtain⟨k1,k2⟩:=fX _ _ _ _ HT.out;obtain⟨k3,k4⟩:=uD (by omega) k1;have k5:s.size-ad.length<=s.size:=by omega
  have Jk:=za k3;obtain⟨q,hq⟩:∃q,s.size-ad.length=q:=⟨_,rfl⟩
  rw[hq]at k4 k5 Jk;have M:=za hq;have W:Hid (gC x (s.data.toList.drop q)=R):=za (by rw[Jk.out];exact sT.out);clear sT k1 k2 k3;by_cases AI:q<s.size
  ·by_cases RZ:s[q].toNat=58
   ·have f1:((s[q].toNat:Int) !=58)=false:=by simp[RZ]
    obtain⟨N,O⟩:∃N,Hid (cc (s.data.toList.drop (q+1))=N):=⟨_,za rfl⟩
    have I:Hid (iE x N=R):=za (by rw[<-O.out,<-my,<-W.out,drop_cons s q AI,show s[q]=58 from zW.1 RZ]);have F:=za (fun w=>oN s (q+1) w (by omega) D);have E7:Hid (((q+1:Nat):Int)=(q:Int)+1):=za (by omega);rw[O.out,E7.out]at F;clear W RZ;cases N with
    |none=>
     have p:Hid (R=none):=za I.out.symm;clear I;go_enter yM,yG
     go_wp2_with fail
     rw[J.out];refine E.out.mono ?_;rintro e b ⟨c,c0,c1,Z,c3,rfl,d⟩;rw[M.out];have h:=(af.new w 64 #[.int .i64 0,.int .i64 0,.slice none 0 0,.int .i64 0]).ah c (by simp);obtain⟨r,m,l,j,S,Y,U,X⟩:=aO h;have hz:=c.size;simp only[zt]at hz;have i:w.heap.size<b.heap.size:=by omega
     have K:w.heap.size<b.heap.size+1:=by omega
     have o:Hid (Below w.heap.size w b):=za (((zq w.heap.size w).alloc (zf _) _).trans (c.mono (by simp)));have u:=za d;simp only[zt]at u;obtain⟨G,H,rfl,rfl,rfl,rfl,B,A,C,_⟩:=d.open_;clear c h d B A C;go_wp2_with fail
     refine(F.out _).mono ?_;rintro e w' ⟨rfl,rfl⟩;simp only[ec];go_wp2;refine zo (v:=bE 0 0) (by simp[bE,results,yb,go_sem,r,m,l,j,zE,i]) rfl ?_;rw[p.out];refine⟨?_,0,0,rfl⟩;exact(((((o.out.setCell (by simp) _).setCell (by simp) _).setCell (by simp) _).setCell (by simp) _).alloc (by simp[World.setCell];omega) _)
    |some z2=>
     obtain⟨n,r2⟩:=z2;obtain⟨gb,hU,Ds,QY⟩:=pC (by omega) O.out;obtain⟨y,ab⟩:∃y,s.size-r2.length=y:=⟨_,rfl⟩
     rw[ab]at gb hU Ds;have Nd:=za ab;have aa:=za gb;clear gb;by_cases ag:y<s.size
     ·have qE:Hid (r2=s[y]::s.data.toList.drop (y+1)):=za (by rw[<-aa.out,drop_cons s y ag]);by_cases U8:s[y].toNat=93
      ·have f2:((s[y].toNat:Int) !=93)=false:=by simp[U8]
       have p:Hid (R=some (.mk 4 n [x] 0,s.data.toList.drop (y+1))):=za (by rw[<-I.out,qE.out];simp[iE,U8]);have ah:=za (sD s (y+1) (by omega));clear I U8;go_enter yM,yG
       go_wp2_with fail
       rw[J.out];refine E.out.mono ?_;rintro e b ⟨c,c0,c1,Z,c3,rfl,d⟩;rw[M.out];have h:=(af.new w 64 #[.int .i64 0,.int .i64 0,.slice none 0 0,.int .i64 0]).ah c (by simp);obtain⟨r,m,l,j,S,Y,U,X⟩:=aO h;have hz:=c.size;simp only[zt]at hz;have i:w.heap.size<b.heap.size:=by omega
       have K:w.heap.size<b.heap.size+1:=by omega
       have o:Hid (Below w.heap.size w b):=za (((zq w.heap.size w).alloc (zf _) _).trans (c.mono (by simp)));have u:=za d;simp only[zt]at u;obtain⟨G,H,rfl,rfl,rfl,rfl,B,A,C,_⟩:=d.open_;clear c h d B A C;go_wp2_with fail
       refine(F.out _).mono ?_;rintro e w' ⟨rfl,rfl⟩;simp only[ec,Nd.out];go_wp2;refine zo (v:= .tuple #[.agg #[.int .i64 4,.int .i64 n,.slice (some ⟨b.heap.size+1,0,none⟩) 1 1,.int .i64 0],.int .i64 ((y:Int)+1)]) (by simp[results,yb,go_sem,r,m,l,j,zE,i,K]) rfl ?_;rw[p.out];refine⟨((((((o.out.setCell (by simp) _).setCell (by simp) _).setCell (by simp) _).setCell (by simp) _).alloc (by simp[World.setCell];omega) _).alloc (by simp[World.setCell];omega) _),_,_,_,_,by rw[ah.out];go_num, ?_⟩;have kq:ae [w.heap.size] b ((((((b.setCell ⟨w.heap.size,0,none⟩ (.int .i64 4)).setCell ⟨w.heap.size,1,none⟩ (.int .i64 n)).setCell ⟨w.heap.size,2,none⟩ (.slice (some ⟨b.heap.size+1,0,none⟩) 1 1)).setCell ⟨w.heap.size,3,none⟩ (.int .i64 0)).alloc (.cells #[.int .i64 x.kind,.int .i64 x.size,.slice G x.sub.length H,.int .i64 x.tail] 64)).alloc (.cells #[.int .i64 x.kind,.int .i64 x.size,.slice G x.sub.length H,.int .i64 x.tail] 64)):=Cr;refine⟨rfl,rfl,rfl,ay (by omega) (by omega),ay (by omega) (by omega),ay (by omega) (by omega),by simp,_,1,rfl,by simp,by simp,⟨⟨b.heap.size+1,0,.int .i64 x.kind,.int .i64 x.size,.slice G x.sub.length H,.int .i64 x.tail,rfl, ?_, ?_, ?_, ?_, ?_, ?_⟩,trivial⟩⟩
       ·show w.heap.size<=b.heap.size+1
        omega
       ·exact(CU _ _ _ (b.heap.size+1) (by simp[World.setCell])).cell 0
       ·exact(CU _ _ _ (b.heap.size+1) (by simp[World.setCell])).cell 1
       ·exact(CU _ _ _ (b.heap.size+1) (by simp[World.setCell])).cell 2
       ·exact(CU _ _ _ (b.heap.size+1) (by simp[World.setCell])).cell 3
       refine u.out.only (L:= [w.heap.size]) kq ?_ ?_
       ·intro k hk D;have hk:k=w.heap.size:=by simpa using hk
        have D:w.heap.size+1<=k:=D;omega
       intro k _ D;have D:w.heap.size+1<=k:=D;show w.heap.size<=k
       omega
      have f2:((s[y].toNat:Int) !=93)=true:=by simp;omega
      have p:Hid (R=none):=za (by rw[<-I.out,qE.out];simp[iE,U8]);clear I U8;go_enter yM,yG
      go_wp2_with fail
      rw[J.out];refine E.out.mono ?_;rintro e b ⟨c,c0,c1,Z,c3,rfl,d⟩;rw[M.out];have h:=(af.new w 64 #[.int .i64 0,.int .i64 0,.slice none 0 0,.int .i64 0]).ah c (by simp);obtain⟨r,m,l,j,S,Y,U,X⟩:=aO h;have hz:=c.size;simp only[zt]at hz;have i:w.heap.size<b.heap.size:=by omega
      have K:w.heap.size<b.heap.size+1:=by omega
      have o:Hid (Below w.heap.size w b):=za (((zq w.heap.size w).alloc (zf _) _).trans (c.mono (by simp)));have u:=za d;simp only[zt]at u;obtain⟨G,H,rfl,rfl,rfl,rfl,B,A,C,_⟩:=d.open_;clear c h d B A C;go_wp2_with fail
      refine(F.out _).mono ?_;rintro e w' ⟨rfl,rfl⟩;simp only[ec,Nd.out];go_wp2;refine zo (v:=bE 0 0) (by simp[bE,results,yb,go_sem,r,m,l,j,zE,i]) rfl ?_;rw[p.out];refine⟨?_,0,0,rfl⟩;exact(((((o.out.setCell (by simp) _).setCell (by simp) _).setCell (by simp) _).setCell (by simp) _).alloc (by simp[World.setCell];omega) _)
     have p:Hid (R=none):=za (by rw[<-I.out,<-aa.out,zU (by simp;omega)];rfl);clear I;go_enter yM,yG
     go_wp2_with fail
     rw[J.out];refine E.out.mono ?_;rintro e b ⟨c,c0,c1,Z,c3,rfl,d⟩;rw[M.out];have h:=(af.new w 64 #[.int .i64 0,.int .i64 0,.slice none 0 0,.int .i64 0]).ah c (by simp);obtain⟨r,m,l,j,S,Y,U,X⟩:=aO h;have hz:=c.size;simp only[zt]at hz;have i:w.heap.size<b.heap.size:=by omega
     have K:w.heap.size<b.heap.size+1:=by omega
     have o:Hid (Below w.heap.size w b):=za (((zq w.heap.size w).alloc (zf _) _).trans (c.mono (by simp)));have u:=za d;simp only[zt]at u;obtain⟨G,H,rfl,rfl,rfl,rfl,B,A,C,_⟩:=d.open_;clear c h d B A C;go_wp2_with fail
     refine(F.out _).mono ?_;rintro e w' ⟨rfl,rfl⟩;simp only[ec,Nd.out];go_wp2;refine zo (v:=bE 0 0) (by simp[bE,results,yb,go_sem,r,m,l,j,zE,i]) rfl ?_;rw[p.out];refine⟨?_,0,0,rfl⟩;exact(((((o.out.setCell (by simp) _).setCell (by simp) _).setCell (by simp) _).setCell (by simp) _).alloc (by simp[World.setCell];omega) _)
   have f1:((s[q].toNat:Int) !=58)=true:=by simp;omega
   have p:Hid (R=none):=za (by rw[<-W.out,drop_cons s q AI,uB _ _ _ RZ]);clear W RZ;go_enter yM,yG
   go_wp2_with fail
   rw[J.out];refine E.out.mono ?_;rintro e b ⟨c,c0,c1,Z,c3,rfl,d⟩;rw[M.out];have h:=(af.new w 64 #[.int .i64 0,.int .i64 0,.slice none 0 0,.int .i64 0]).ah c (by simp);obtain⟨r,m,l,j,S,Y,U,X⟩:=aO h;have hz:=c.size;simp only[zt]at hz;have i:w.heap.size<b.heap.size:=by omega
   have K:w.heap.size<b.heap.size+1:=by omega
   have o:Hid (Below w.heap.size w b):=za (((zq w.heap.size w).alloc (zf _) _).trans (c.mono (by simp)));have u:=za d;simp only[zt]at u;obtain⟨G,H,rfl,rfl,rfl,rfl,B,A,C,_⟩:=d.open_;clear c h d B A C;go_wp2;refine zo (v:=bE 0 0) (by simp[bE,results,yb,go_sem,r,m,l,j,zE,i]) rfl ?_;rw[p.out];refine⟨?_,0,0,rfl⟩;exact(((((o.out.setCell (by simp) _).setCell (by simp) _).setCell (by simp) _).setCell (by simp) _).alloc (by simp[World.setCell];omega) _)
  have p:Hid (R=none):=za (by rw[<-W.out,zU (by simp;omega)];rfl);clear W;go_enter yM,yG
  go_wp2_with fail
  rw[J.out];refine E.out.mono ?_;rintro e b ⟨c,c0,c1,Z,c3,rfl,d⟩;rw[M.out];have h:=(af.new w 64 #[.int .i64 0,.int .i64 0,.slice none 0 0,.int .i64 0]).ah c (by simp);obtain⟨r,m,l,j,S,Y,U,X⟩:=aO h;have hz:=c.size;simp only[zt]at hz;have i:w.heap.size<b.heap.size:=by omega
  have K:w.heap.size<b.heap.size+1:=by omega
  have o:Hid (Below w.heap.size w b):=za (((zq w.heap.size w).alloc (zf _) _).trans (c.mono (by simp)));have u:=za d;simp only[zt]at u;obtain⟨G,H,rfl,rfl,rfl,rfl,B,A,C,_⟩:=d.open_;clear c h d B A C;go_wp2;refine zo (v:=bE 0 0) (by simp[bE,results,yb,go_sem,r,m,l,j,zE,i]) rfl ?_;rw[p.out];refine⟨?_,0,0,rfl⟩;exact(((((o.out.setCell (by simp) _).setCell (by simp) _).setCell (by simp) _).setCell (by simp) _).alloc (by simp[World.setCell];omega) _)
theorem vA (f deep:Nat)(YI:deep<=8)(IH:Hid (∀(s:ByteArray) (at_:Nat) (w:World),at_<=s.size->s.size<=100000->
 Calls prog 35 #[.string s,.int .i64 at_,.int .i64 ((deep+1:Nat):Int)] w fun e w'=>lQ s w (aK f (s.data.toList.drop at_)) e w')) (s:ByteArray) (at_:Nat) (w:World) (cZ:at_<=s.size) (hs:s.size<=100000)
 (aa:Option (Ty×List UInt8)) (HR:Hid (aK (f+1) (s.data.toList.drop at_)=aa)) (aC:at_<s.size) (YC:s[at_].toNat=123):
 Calls prog 35 #[.string s,.int .i64 at_,.int .i64 deep] w fun e w'=>lQ s w aa e w':=by
 have d1:decide (s.size<=at_)=false:=by simp;omega
 have d2:decide ((8:Int)<(deep:Int))=false:=by simp;omega
 have HC:Hid (aK (f+1) (s[at_]::s.data.toList.drop (at_+1))=aa):=za (by rw[<-drop_cons s at_ aC];exact HR.out);obtain⟨ai,HN⟩:∃ai,Hid (cc (s.data.toList.drop (at_+1))=ai):=⟨_,za rfl⟩
 clear HR;have e1:((s[at_].toNat:Int)==117)=false:=zr.2 (by omega);have e2:((s[at_].toNat:Int)==98)=false:=zr.2 (by omega);have e3:((s[at_].toNat:Int)==115)=false:=zr.2 (by omega);have e4:((s[at_].toNat:Int)==91)=false:=zr.2 (by omega);have e5:((s[at_].toNat:Int) !=123)=false:=by simp[YC]
 have AP:Hid (eD f s aa (at_+1) [] 0):=za ⟨_,by
  have h1:=HC.out;rw[show s[at_]=123 from zW.1 YC,JE]at h1;exact h1,by omega⟩
 clear YC HC HN;go_enter yM,yG
 go_wp2_with fail
 go_loopw [1] (fun i wr=>∃(p:Nat) (acc:List Ty) (j:Nat) (vv:Value),p<=s.size/\i= .int .i64 p/\Hid (eD f s aa p acc j)/\acc.length<=p/\j<=p/\af wr w.heap.size 64 #[.int .i64 0,.int .i64 0,.slice none 0 0,.int .i64 0]/\af wr (w.heap.size+1) 64 #[.int .i64 5,.int .i64 0,vv,.int .i64 j]/\eC wr (w.heap.size+2) acc vv/\Below w.heap.size w wr/\w.heap.size+2<=wr.heap.size) (fun i _=>s.size-(intOf i).toNat)
 case atStart=>
  have aI:=af.new (w.alloc (.cells #[.int .i64 0,.int .i64 0,.slice none 0 0,.int .i64 0] 64)) 64 #[.int .i64 5,.int .i64 0,.slice none 0 0,.int .i64 0];exact⟨at_+1,[],0,.slice none 0 0,by omega,by go_num,AP,by simp,by omega,(af.new _ _ _).alloc _,by simpa using aI,eC.nil _ _,bN,by simp⟩
 case round=>
  obtain⟨p,acc,j,vv,hp,rfl,hrel,ag,As,KJ,jM,qo,ah,UL⟩:=hrel;have rL:=za KJ;have wv:=za jM;have o7:=za qo;have HB:=za ah;obtain⟨H,n2,M,rfl,Gv,an,ao⟩:=qo.dk;obtain⟨B,A,x,u,jI,jH,jJ,jL⟩:=aO KJ;obtain⟨K,U,F,R,S,J,G,I⟩:=aO jM;clear KJ jM qo ah AP;by_cases ad:p<s.size
  ·by_cases iL:s[p].toNat=125
   ·have e6:((s[p].toNat:Int) !=125)=false:=by simp[iL]
    have O:=za (hrel.out.ends ad iL);have ak:=za (sD s (p+1) (by omega));clear iL;go_wp2;refine zo (v:= .tuple #[.agg #[.int .i64 5,.int .i64 0,.slice H n2 M,.int .i64 j],.int .i64 ((p:Int)+1)]) (by simp[results,yb,go_sem,B,A,x,u]) rfl ?_;rw[O.out];refine⟨(((HB.out.setCell (by simp) _).setCell (by simp) _).setCell (by simp) _).setCell (by simp) _,_,_,_,_,by rw[ak.out];go_num, ?_⟩;have al:eC _ (w.heap.size+2) acc (.slice H n2 M):=o7.out.only (L:= [w.heap.size]) (w':=(((wr.setCell ⟨w.heap.size,0,none⟩ (.int .i64 5)).setCell ⟨w.heap.size,1,none⟩ (.int .i64 0)).setCell ⟨w.heap.size,2,none⟩ (.slice H n2 M)).setCell ⟨w.heap.size,3,none⟩ (.int .i64 j)) (((((ae.refl _ _).setCell (by simp) _).setCell (by simp) _).setCell (by simp) _).setCell (by simp) _) (by simp);refine fh.gh (al.ty (by omega) (ay (by omega) (by omega)) (ay (by omega) (by omega)) (ay (by omega) (by omega))) fun k _ X=> ?_
    have X:w.heap.size+2<=k:=X;show w.heap.size<=k
    omega
   have e6:((s[p].toNat:Int) !=125)=true:=by simp;omega
   by_cases ha:acc= []
   ·subst ha;have qy:=za (hrel.out.first ad iL);obtain rfl:n2=0:=Gv.out;clear iL;have AI:=ad;by_cases Dm:s[p].toNat=63
    ·have e8:((s[p].toNat:Int)==63)=true:=by simp[Dm]
     have qu:=za (qy.out.mark AI Dm);obtain⟨W,d⟩:∃W,wr.setCell ⟨w.heap.size+1,3,none⟩ (.int .i64 ((j:Int)+1))=W:=⟨_,rfl⟩
     have Vp:Hid (af W (w.heap.size+1) 64 #[.int .i64 5,.int .i64 0,.slice H 0 M,.int .i64 ((j:Int)+1)]):=za (by rw[<-d];exact wv.out.store rfl);have Ns:Hid (af W w.heap.size 64 #[.int .i64 0,.int .i64 0,.slice none 0 0,.int .i64 0]):=za (by rw[<-d];exact rL.out.dE (by simp) _);have NV:Hid (eC W (w.heap.size+2) [] (.slice H 0 M)):=za (by rw[<-d];exact o7.out.only ((ae.refl [w.heap.size+1] wr).setCell (by simp) _) (by simp));have AM:Hid (Below w.heap.size w W):=za (by rw[<-d];exact HB.out.setCell (by simp) _);have T6:Hid (W.heap.size=wr.heap.size):=za (by rw[<-d];simp[World.setCell]);have HW:=za d;have C:p+1<=s.size:=by omega
     have Vq:Hid (((j+1:Nat):Int)=(j:Int)+1):=za (by omega);clear Dm d qy;have HI:Hid (∀(V:World) (i:Int),i=(((p+1):Nat):Int)->Calls prog 35 #[.string s,.int .i64 i,.int .i64 ((deep+1:Nat):Int)] V fun e w'=>lQ s V (aK f (s.data.toList.drop ((p+1)))) e w'):=za (fun V i hi=>by subst hi;exact IH.out s ((p+1)) V C hs);have E9:Hid ((deep:Int)+1=((deep+1:Nat):Int)):=za (by omega);go_wp2_with fail
     rw[E9.out];refine(HI.out _ _ (by first|rfl|omega)).mono ?_;rintro e N D;rw[HW.out]at D;obtain⟨T,Y⟩:∃T,Hid (aK f (s.data.toList.drop ((p+1)))=T):=⟨_,za rfl⟩
     rw[Y.out]at D;have KY:=T6.out;cases T with
     |none=>
      obtain⟨c,v0,v1,rfl⟩:=D;have O:=za (qu.out.none Y.out);have Nj:=c.size;have kC:w.heap.size<N.heap.size:=by omega
      have Z:=za (AM.out.trans (c.mono (by omega)));clear B A x u jI jH jJ jL K U F R S J G I;obtain⟨B,A,x,u,jI,jH,jJ,jL⟩:=aO (Ns.out.ah c (by omega));clear c KY;go_wp2;refine zo (v:=bE 0 0) (by simp[bE,results,yb,go_sem,B,A,x,u,zE,kC]) rfl ?_;rw[O.out];refine⟨?_,0,0,rfl⟩;exact(((((Z.out.setCell (by simp) _).setCell (by simp) _).setCell (by simp) _).setCell (by simp) _).alloc (by simp[World.setCell];omega) _)
     |some z=>
      obtain⟨y,ab⟩:=z;obtain⟨c,c0,c1,c2,c3,rfl,hy⟩:=D;obtain⟨HN,qk,Jo⟩:=qu.out.some C Y.out;have AP:=za HN;have Nj:=c.size;have KW:=za (Vp.out.ah c (by omega));have YL:=za (Ns.out.ah c (by omega));have YM:=za (NV.out.below c);have Z:=za (AM.out.trans (c.mono (by omega)));have ko:=NV.out.ge;have HY:Hid (∀o o',fh ((N.alloc o).alloc o') (fun k=>w.heap.size+2<=k/\(Value.slice H 0 M).ownBlock≠some k) y c0 c1 c2 c3):=za (by
       intro o o';refine fh.ah ?_ ?_ y hy
       ·intro k X hS;have hS:W.heap.size<=k:=hS;exact⟨by omega,fun e=>by have:=(ko k e).2;omega⟩
       intro q C _;rw[zE _ _ _ (by rw[zt];omega),zE _ _ _ C])
      have kC:w.heap.size<N.heap.size:=by omega
      have rK:w.heap.size+1<N.heap.size:=by omega
      have Cc:=za ko;obtain⟨AA,lM,rfl,rfl,rfl,rfl,_⟩:=hy.open_;clear B A x u jI jH jJ jL K U F R S J G I hy HN ko c KY;obtain⟨K,U,F,R,S,J,G,I⟩:=aO KW.out;generalize s.size-ab.length=pq at*;go_wp2_with (at_builtin;refine cn (by rfl) (.tmp 181) (.tmp 183) (by rfl) (w.heap.size+2) [] (by rfl) ((YM.out.below ((zq _ _).alloc (zf _) _)).below ((zq _ _).alloc (zf _) _)) y (HY.out _ _) _ (by rfl) (by simp) (by simp) (by simp) (by simp) (by first|omega|simp) (by simp only[zt];omega) ?_)
      intro r m n l RU kd E oX;have vW:∀k,k<w.heap.size+2->(Value.slice H 0 M).ownBlock≠some k:=fun k X e=>by
       have:=(Cc.out k e).1;omega
      have GB:=za (((KW.out.alloc _).alloc _).grown E (vW _ (by omega)));have YK:=za (((YL.out.alloc _).alloc _).grown E (vW _ (by omega)));have gJ:Hid (Below w.heap.size w l):=za (((Z.out.alloc (by omega) _).alloc (by simp;omega) _).grown E (by simp;omega) (fun k X=>by have:=(Cc.out k X).1;omega));have DR:=E.size;simp only[zt]at DR;have YJ:=za kd;clear K U F R S J G I E kd vW;obtain⟨K,U,F,R,S,J,G,I⟩:=aO GB.out;go_wp2;go_roundw
      case rel=>
       have key:∃(p:Nat) (acc:List Ty) (j:Nat) (vv:Value),p<=s.size/\Value.int .i64 (pq:Int)= .int .i64 p/\Hid (eD f s aa p acc j)/\acc.length<=p/\j<=p/\af (l.setCell ⟨w.heap.size+1,2,none⟩ (.slice (some ⟨r,0,none⟩) m n)) w.heap.size 64 #[.int .i64 0,.int .i64 0,.slice none 0 0,.int .i64 0]/\af (l.setCell ⟨w.heap.size+1,2,none⟩ (.slice (some ⟨r,0,none⟩) m n)) (w.heap.size+1) 64 #[.int .i64 5,.int .i64 0,vv,.int .i64 j]/\eC (l.setCell ⟨w.heap.size+1,2,none⟩ (.slice (some ⟨r,0,none⟩) m n)) (w.heap.size+2) acc vv/\Below w.heap.size w (l.setCell ⟨w.heap.size+1,2,none⟩ (.slice (some ⟨r,0,none⟩) m n))/\w.heap.size+2<=(l.setCell ⟨w.heap.size+1,2,none⟩ (.slice (some ⟨r,0,none⟩) m n)).heap.size:=by
        refine⟨pq,[]++ [y],(j+1),.slice (some ⟨r,0,none⟩) m n,Jo,rfl,AP, ?_,by omega,YK.out.dE (by simp) _, ?_, ?_,gJ.out.setCell (by simp) _, ?_⟩
        ·simp only[zp,zD,zS]at ag⊢;omega
        ·rw[Vq.out];exact GB.out.store rfl
        ·exact YJ.out.only ((ae.refl [w.heap.size+1] l).setCell (p:=⟨w.heap.size+1,2,none⟩) (by simp) _) (by simp)
        simp[World.setCell];omega
       first|exact key|((repeat apply Exists.intro);exact⟨key,rfl⟩)
      case measure=>simp[intOf];omega
    have e8:((s[p].toNat:Int)==63)=false:=zr.2 (by omega);have wz:Hid (∀C:p<s.size,s[p].toNat≠63):=za (fun _=>Dm);clear Dm;by_cases Rk:0<j
    ·have O:=za (qy.out.none_ wz.out Rk);go_wp2;refine zo (v:=bE 0 0) (by simp[bE,results,yb,go_sem,B,A,x,u]) rfl ?_;rw[O.out];exact⟨(((HB.out.setCell (by simp) _).setCell (by simp) _).setCell (by simp) _).setCell (by simp) _,0,0,rfl⟩
    obtain rfl:j=0:=by omega
    have qu:=za (qy.out.plain wz.out);obtain⟨W,d⟩:∃W,wr=W:=⟨_,rfl⟩
    have Vp:Hid (af W (w.heap.size+1) 64 #[.int .i64 5,.int .i64 0,.slice H 0 M,.int .i64 0]):=za (by rw[<-d];exact wv.out);have Ns:Hid (af W w.heap.size 64 #[.int .i64 0,.int .i64 0,.slice none 0 0,.int .i64 0]):=za (by rw[<-d];exact rL.out);have NV:Hid (eC W (w.heap.size+2) [] (.slice H 0 M)):=za (by rw[<-d];exact o7.out);have AM:Hid (Below w.heap.size w W):=za (by rw[<-d];exact HB.out);have T6:Hid (W.heap.size=wr.heap.size):=za (by rw[<-d]);have HW:=za d;have C:p<=s.size:=by omega
    have Vq:Hid (((0:Nat):Int)=(0:Int)):=za rfl;clear d qy wz;have HI:Hid (∀(V:World) (i:Int),i=(((p):Nat):Int)->Calls prog 35 #[.string s,.int .i64 i,.int .i64 ((deep+1:Nat):Int)] V fun e w'=>lQ s V (aK f (s.data.toList.drop ((p)))) e w'):=za (fun V i hi=>by subst hi;exact IH.out s ((p)) V C hs);have E9:Hid ((deep:Int)+1=((deep+1:Nat):Int)):=za (by omega);go_wp2_with fail
    rw[E9.out];refine(HI.out _ _ (by first|rfl|omega)).mono ?_;rintro e N D;rw[HW.out]at D;obtain⟨T,Y⟩:∃T,Hid (aK f (s.data.toList.drop ((p)))=T):=⟨_,za rfl⟩
    rw[Y.out]at D;have KY:=T6.out;cases T with
    |none=>
     obtain⟨c,v0,v1,rfl⟩:=D;have O:=za (qu.out.none Y.out);have Nj:=c.size;have kC:w.heap.size<N.heap.size:=by omega
     have Z:=za (AM.out.trans (c.mono (by omega)));clear B A x u jI jH jJ jL K U F R S J G I;obtain⟨B,A,x,u,jI,jH,jJ,jL⟩:=aO (Ns.out.ah c (by omega));clear c KY;go_wp2;refine zo (v:=bE 0 0) (by simp[bE,results,yb,go_sem,B,A,x,u,zE,kC]) rfl ?_;rw[O.out];refine⟨?_,0,0,rfl⟩;exact(((((Z.out.setCell (by simp) _).setCell (by simp) _).setCell (by simp) _).setCell (by simp) _).alloc (by simp[World.setCell];omega) _)
    |some z=>
     obtain⟨y,ab⟩:=z;obtain⟨c,c0,c1,c2,c3,rfl,hy⟩:=D;obtain⟨HN,qk,Jo⟩:=qu.out.some C Y.out;have AP:=za HN;have Nj:=c.size;have KW:=za (Vp.out.ah c (by omega));have YL:=za (Ns.out.ah c (by omega));have YM:=za (NV.out.below c);have Z:=za (AM.out.trans (c.mono (by omega)));have ko:=NV.out.ge;have HY:Hid (∀o o',fh ((N.alloc o).alloc o') (fun k=>w.heap.size+2<=k/\(Value.slice H 0 M).ownBlock≠some k) y c0 c1 c2 c3):=za (by
      intro o o';refine fh.ah ?_ ?_ y hy
      ·intro k X hS;have hS:W.heap.size<=k:=hS;exact⟨by omega,fun e=>by have:=(ko k e).2;omega⟩
      intro q C _;rw[zE _ _ _ (by rw[zt];omega),zE _ _ _ C])
     have kC:w.heap.size<N.heap.size:=by omega
     have rK:w.heap.size+1<N.heap.size:=by omega
     have Cc:=za ko;obtain⟨AA,lM,rfl,rfl,rfl,rfl,_⟩:=hy.open_;clear B A x u jI jH jJ jL K U F R S J G I hy HN ko c KY;obtain⟨K,U,F,R,S,J,G,I⟩:=aO KW.out;generalize s.size-ab.length=pq at*;go_wp2_with (at_builtin;refine cn (by rfl) (.tmp 181) (.tmp 183) (by rfl) (w.heap.size+2) [] (by rfl) ((YM.out.below ((zq _ _).alloc (zf _) _)).below ((zq _ _).alloc (zf _) _)) y (HY.out _ _) _ (by rfl) (by simp) (by simp) (by simp) (by simp) (by first|omega|simp) (by simp only[zt];omega) ?_)
     intro r m n l RU kd E oX;have vW:∀k,k<w.heap.size+2->(Value.slice H 0 M).ownBlock≠some k:=fun k X e=>by
      have:=(Cc.out k e).1;omega
     have GB:=za (((KW.out.alloc _).alloc _).grown E (vW _ (by omega)));have YK:=za (((YL.out.alloc _).alloc _).grown E (vW _ (by omega)));have gJ:Hid (Below w.heap.size w l):=za (((Z.out.alloc (by omega) _).alloc (by simp;omega) _).grown E (by simp;omega) (fun k X=>by have:=(Cc.out k X).1;omega));have DR:=E.size;simp only[zt]at DR;have YJ:=za kd;clear K U F R S J G I E kd vW;obtain⟨K,U,F,R,S,J,G,I⟩:=aO GB.out;go_wp2;go_roundw
     case rel=>
      have key:∃(p:Nat) (acc:List Ty) (j:Nat) (vv:Value),p<=s.size/\Value.int .i64 (pq:Int)= .int .i64 p/\Hid (eD f s aa p acc j)/\acc.length<=p/\j<=p/\af (l.setCell ⟨w.heap.size+1,2,none⟩ (.slice (some ⟨r,0,none⟩) m n)) w.heap.size 64 #[.int .i64 0,.int .i64 0,.slice none 0 0,.int .i64 0]/\af (l.setCell ⟨w.heap.size+1,2,none⟩ (.slice (some ⟨r,0,none⟩) m n)) (w.heap.size+1) 64 #[.int .i64 5,.int .i64 0,vv,.int .i64 j]/\eC (l.setCell ⟨w.heap.size+1,2,none⟩ (.slice (some ⟨r,0,none⟩) m n)) (w.heap.size+2) acc vv/\Below w.heap.size w (l.setCell ⟨w.heap.size+1,2,none⟩ (.slice (some ⟨r,0,none⟩) m n))/\w.heap.size+2<=(l.setCell ⟨w.heap.size+1,2,none⟩ (.slice (some ⟨r,0,none⟩) m n)).heap.size:=by
       refine⟨pq,[]++ [y],0,.slice (some ⟨r,0,none⟩) m n,Jo,rfl,AP, ?_,by omega,YK.out.dE (by simp) _, ?_, ?_,gJ.out.setCell (by simp) _, ?_⟩
       ·simp only[zp,zD,zS]at ag⊢;omega
       ·rw[Vq.out];exact GB.out.store rfl
       ·exact YJ.out.only ((ae.refl [w.heap.size+1] l).setCell (p:=⟨w.heap.size+1,2,none⟩) (by simp) _) (by simp)
       simp[World.setCell];omega
      first|exact key|((repeat apply Exists.intro);exact⟨key,rfl⟩)
     case measure=>simp[intOf];omega
   have oo:0<n2:=by
    rw[Gv.out];cases acc with
    |nil=>exact absurd rfl ha
    |cons a b=>simp
   by_cases tj:s[p].toNat=44
   ·have e7:((s[p].toNat:Int) !=44)=false:=by simp[tj]
    have qy:=za (hrel.out.more ad tj ha);clear iL ha tj;by_cases AI:(p+1)<s.size
    ·by_cases Dm:s[(p+1)].toNat=63
     ·have e8:((s[(p+1)].toNat:Int)==63)=true:=by simp[Dm]
      have qu:=za (qy.out.mark AI Dm);obtain⟨W,d⟩:∃W,wr.setCell ⟨w.heap.size+1,3,none⟩ (.int .i64 ((j:Int)+1))=W:=⟨_,rfl⟩
      have Vp:Hid (af W (w.heap.size+1) 64 #[.int .i64 5,.int .i64 0,.slice H n2 M,.int .i64 ((j:Int)+1)]):=za (by rw[<-d];exact wv.out.store rfl);have Ns:Hid (af W w.heap.size 64 #[.int .i64 0,.int .i64 0,.slice none 0 0,.int .i64 0]):=za (by rw[<-d];exact rL.out.dE (by simp) _);have NV:Hid (eC W (w.heap.size+2) acc (.slice H n2 M)):=za (by rw[<-d];exact o7.out.only ((ae.refl [w.heap.size+1] wr).setCell (by simp) _) (by simp));have AM:Hid (Below w.heap.size w W):=za (by rw[<-d];exact HB.out.setCell (by simp) _);have T6:Hid (W.heap.size=wr.heap.size):=za (by rw[<-d];simp[World.setCell]);have HW:=za d;have C:(p+1)+1<=s.size:=by omega
      have Vq:Hid (((j+1:Nat):Int)=(j:Int)+1):=za (by omega);clear Dm d qy;have HI:Hid (∀(V:World) (i:Int),i=((((p+1)+1):Nat):Int)->Calls prog 35 #[.string s,.int .i64 i,.int .i64 ((deep+1:Nat):Int)] V fun e w'=>lQ s V (aK f (s.data.toList.drop (((p+1)+1)))) e w'):=za (fun V i hi=>by subst hi;exact IH.out s (((p+1)+1)) V C hs);have E9:Hid ((deep:Int)+1=((deep+1:Nat):Int)):=za (by omega);go_wp2_with fail
      rw[E9.out];refine(HI.out _ _ (by first|rfl|omega)).mono ?_;rintro e N D;rw[HW.out]at D;obtain⟨T,Y⟩:∃T,Hid (aK f (s.data.toList.drop (((p+1)+1)))=T):=⟨_,za rfl⟩
      rw[Y.out]at D;have KY:=T6.out;cases T with
      |none=>
       obtain⟨c,v0,v1,rfl⟩:=D;have O:=za (qu.out.none Y.out);have Nj:=c.size;have kC:w.heap.size<N.heap.size:=by omega
       have Z:=za (AM.out.trans (c.mono (by omega)));clear B A x u jI jH jJ jL K U F R S J G I;obtain⟨B,A,x,u,jI,jH,jJ,jL⟩:=aO (Ns.out.ah c (by omega));clear c KY;go_wp2;refine zo (v:=bE 0 0) (by simp[bE,results,yb,go_sem,B,A,x,u,zE,kC]) rfl ?_;rw[O.out];refine⟨?_,0,0,rfl⟩;exact(((((Z.out.setCell (by simp) _).setCell (by simp) _).setCell (by simp) _).setCell (by simp) _).alloc (by simp[World.setCell];omega) _)
      |some z=>
       obtain⟨y,ab⟩:=z;obtain⟨c,c0,c1,c2,c3,rfl,hy⟩:=D;obtain⟨HN,qk,Jo⟩:=qu.out.some C Y.out;have AP:=za HN;have Nj:=c.size;have KW:=za (Vp.out.ah c (by omega));have YL:=za (Ns.out.ah c (by omega));have YM:=za (NV.out.below c);have Z:=za (AM.out.trans (c.mono (by omega)));have ko:=NV.out.ge;have HY:Hid (∀o o',fh ((N.alloc o).alloc o') (fun k=>w.heap.size+2<=k/\(Value.slice H n2 M).ownBlock≠some k) y c0 c1 c2 c3):=za (by
        intro o o';refine fh.ah ?_ ?_ y hy
        ·intro k X hS;have hS:W.heap.size<=k:=hS;exact⟨by omega,fun e=>by have:=(ko k e).2;omega⟩
        intro q C _;rw[zE _ _ _ (by rw[zt];omega),zE _ _ _ C])
       have kC:w.heap.size<N.heap.size:=by omega
       have rK:w.heap.size+1<N.heap.size:=by omega
       have Cc:=za ko;obtain⟨AA,lM,rfl,rfl,rfl,rfl,_⟩:=hy.open_;clear B A x u jI jH jJ jL K U F R S J G I hy HN ko c KY;obtain⟨K,U,F,R,S,J,G,I⟩:=aO KW.out;generalize s.size-ab.length=pq at*;go_wp2_with (at_builtin;refine cn (by rfl) (.tmp 181) (.tmp 183) (by rfl) (w.heap.size+2) acc (by rfl) ((YM.out.below ((zq _ _).alloc (zf _) _)).below ((zq _ _).alloc (zf _) _)) y (HY.out _ _) _ (by rfl) (by simp) (by simp) (by simp) (by simp) (by first|omega|simp) (by simp only[zt];omega) ?_)
       intro r m n l RU kd E oX;have vW:∀k,k<w.heap.size+2->(Value.slice H n2 M).ownBlock≠some k:=fun k X e=>by
        have:=(Cc.out k e).1;omega
       have GB:=za (((KW.out.alloc _).alloc _).grown E (vW _ (by omega)));have YK:=za (((YL.out.alloc _).alloc _).grown E (vW _ (by omega)));have gJ:Hid (Below w.heap.size w l):=za (((Z.out.alloc (by omega) _).alloc (by simp;omega) _).grown E (by simp;omega) (fun k X=>by have:=(Cc.out k X).1;omega));have DR:=E.size;simp only[zt]at DR;have YJ:=za kd;clear K U F R S J G I E kd vW;obtain⟨K,U,F,R,S,J,G,I⟩:=aO GB.out;go_wp2;go_roundw
       case rel=>
        have key:∃(p:Nat) (acc:List Ty) (j:Nat) (vv:Value),p<=s.size/\Value.int .i64 (pq:Int)= .int .i64 p/\Hid (eD f s aa p acc j)/\acc.length<=p/\j<=p/\af (l.setCell ⟨w.heap.size+1,2,none⟩ (.slice (some ⟨r,0,none⟩) m n)) w.heap.size 64 #[.int .i64 0,.int .i64 0,.slice none 0 0,.int .i64 0]/\af (l.setCell ⟨w.heap.size+1,2,none⟩ (.slice (some ⟨r,0,none⟩) m n)) (w.heap.size+1) 64 #[.int .i64 5,.int .i64 0,vv,.int .i64 j]/\eC (l.setCell ⟨w.heap.size+1,2,none⟩ (.slice (some ⟨r,0,none⟩) m n)) (w.heap.size+2) acc vv/\Below w.heap.size w (l.setCell ⟨w.heap.size+1,2,none⟩ (.slice (some ⟨r,0,none⟩) m n))/\w.heap.size+2<=(l.setCell ⟨w.heap.size+1,2,none⟩ (.slice (some ⟨r,0,none⟩) m n)).heap.size:=by
         refine⟨pq,acc++ [y],(j+1),.slice (some ⟨r,0,none⟩) m n,Jo,rfl,AP, ?_,by omega,YK.out.dE (by simp) _, ?_, ?_,gJ.out.setCell (by simp) _, ?_⟩
         ·simp only[zp,zD,zS]at ag⊢;omega
         ·rw[Vq.out];exact GB.out.store rfl
         ·exact YJ.out.only ((ae.refl [w.heap.size+1] l).setCell (p:=⟨w.heap.size+1,2,none⟩) (by simp) _) (by simp)
         simp[World.setCell];omega
        first|exact key|((repeat apply Exists.intro);exact⟨key,rfl⟩)
       case measure=>simp[intOf];omega
     have e8:((s[(p+1)].toNat:Int)==63)=false:=zr.2 (by omega);have wz:Hid (∀C:(p+1)<s.size,s[(p+1)].toNat≠63):=za (fun _=>Dm);clear Dm;by_cases Rk:0<j
     ·have O:=za (qy.out.none_ wz.out Rk);go_wp2;refine zo (v:=bE 0 0) (by simp[bE,results,yb,go_sem,B,A,x,u]) rfl ?_;rw[O.out];exact⟨(((HB.out.setCell (by simp) _).setCell (by simp) _).setCell (by simp) _).setCell (by simp) _,0,0,rfl⟩
     obtain rfl:j=0:=by omega
     have qu:=za (qy.out.plain wz.out);obtain⟨W,d⟩:∃W,wr=W:=⟨_,rfl⟩
     have Vp:Hid (af W (w.heap.size+1) 64 #[.int .i64 5,.int .i64 0,.slice H n2 M,.int .i64 0]):=za (by rw[<-d];exact wv.out);have Ns:Hid (af W w.heap.size 64 #[.int .i64 0,.int .i64 0,.slice none 0 0,.int .i64 0]):=za (by rw[<-d];exact rL.out);have NV:Hid (eC W (w.heap.size+2) acc (.slice H n2 M)):=za (by rw[<-d];exact o7.out);have AM:Hid (Below w.heap.size w W):=za (by rw[<-d];exact HB.out);have T6:Hid (W.heap.size=wr.heap.size):=za (by rw[<-d]);have HW:=za d;have C:(p+1)<=s.size:=by omega
     have Vq:Hid (((0:Nat):Int)=(0:Int)):=za rfl;clear d qy wz;have HI:Hid (∀(V:World) (i:Int),i=((((p+1)):Nat):Int)->Calls prog 35 #[.string s,.int .i64 i,.int .i64 ((deep+1:Nat):Int)] V fun e w'=>lQ s V (aK f (s.data.toList.drop (((p+1))))) e w'):=za (fun V i hi=>by subst hi;exact IH.out s (((p+1))) V C hs);have E9:Hid ((deep:Int)+1=((deep+1:Nat):Int)):=za (by omega);go_wp2_with fail
     rw[E9.out];refine(HI.out _ _ (by first|rfl|omega)).mono ?_;rintro e N D;rw[HW.out]at D;obtain⟨T,Y⟩:∃T,Hid (aK f (s.data.toList.drop (((p+1))))=T):=⟨_,za rfl⟩
     rw[Y.out]at D;have KY:=T6.out;cases T with
     |none=>
      obtain⟨c,v0,v1,rfl⟩:=D;have O:=za (qu.out.none Y.out);have Nj:=c.size;have kC:w.heap.size<N.heap.size:=by omega
      have Z:=za (AM.out.trans (c.mono (by omega)));clear B A x u jI jH jJ jL K U F R S J G I;obtain⟨B,A,x,u,jI,jH,jJ,jL⟩:=aO (Ns.out.ah c (by omega));clear c KY;go_wp2;refine zo (v:=bE 0 0) (by simp[bE,results,yb,go_sem,B,A,x,u,zE,kC]) rfl ?_;rw[O.out];refine⟨?_,0,0,rfl⟩;exact(((((Z.out.setCell (by simp) _).setCell (by simp) _).setCell (by simp) _).setCell (by simp) _).alloc (by simp[World.setCell];omega) _)
     |some z=>
      obtain⟨y,ab⟩:=z;obtain⟨c,c0,c1,c2,c3,rfl,hy⟩:=D;obtain⟨HN,qk,Jo⟩:=qu.out.some C Y.out;have AP:=za HN;have Nj:=c.size;have KW:=za (Vp.out.ah c (by omega));have YL:=za (Ns.out.ah c (by omega));have YM:=za (NV.out.below c);have Z:=za (AM.out.trans (c.mono (by omega)));have ko:=NV.out.ge;have HY:Hid (∀o o',fh ((N.alloc o).alloc o') (fun k=>w.heap.size+2<=k/\(Value.slice H n2 M).ownBlock≠some k) y c0 c1 c2 c3):=za (by
       intro o o';refine fh.ah ?_ ?_ y hy
       ·intro k X hS;have hS:W.heap.size<=k:=hS;exact⟨by omega,fun e=>by have:=(ko k e).2;omega⟩
       intro q C _;rw[zE _ _ _ (by rw[zt];omega),zE _ _ _ C])
      have kC:w.heap.size<N.heap.size:=by omega
      have rK:w.heap.size+1<N.heap.size:=by omega
      have Cc:=za ko;obtain⟨AA,lM,rfl,rfl,rfl,rfl,_⟩:=hy.open_;clear B A x u jI jH jJ jL K U F R S J G I hy HN ko c KY;obtain⟨K,U,F,R,S,J,G,I⟩:=aO KW.out;generalize s.size-ab.length=pq at*;go_wp2_with (at_builtin;refine cn (by rfl) (.tmp 181) (.tmp 183) (by rfl) (w.heap.size+2) acc (by rfl) ((YM.out.below ((zq _ _).alloc (zf _) _)).below ((zq _ _).alloc (zf _) _)) y (HY.out _ _) _ (by rfl) (by simp) (by simp) (by simp) (by simp) (by first|omega|simp) (by simp only[zt];omega) ?_)
      intro r m n l RU kd E oX;have vW:∀k,k<w.heap.size+2->(Value.slice H n2 M).ownBlock≠some k:=fun k X e=>by
       have:=(Cc.out k e).1;omega
      have GB:=za (((KW.out.alloc _).alloc _).grown E (vW _ (by omega)));have YK:=za (((YL.out.alloc _).alloc _).grown E (vW _ (by omega)));have gJ:Hid (Below w.heap.size w l):=za (((Z.out.alloc (by omega) _).alloc (by simp;omega) _).grown E (by simp;omega) (fun k X=>by have:=(Cc.out k X).1;omega));have DR:=E.size;simp only[zt]at DR;have YJ:=za kd;clear K U F R S J G I E kd vW;obtain⟨K,U,F,R,S,J,G,I⟩:=aO GB.out;go_wp2;go_roundw
      case rel=>
       have key:∃(p:Nat) (acc:List Ty) (j:Nat) (vv:Value),p<=s.size/\Value.int .i64 (pq:Int)= .int .i64 p/\Hid (eD f s aa p acc j)/\acc.length<=p/\j<=p/\af (l.setCell ⟨w.heap.size+1,2,none⟩ (.slice (some ⟨r,0,none⟩) m n)) w.heap.size 64 #[.int .i64 0,.int .i64 0,.slice none 0 0,.int .i64 0]/\af (l.setCell ⟨w.heap.size+1,2,none⟩ (.slice (some ⟨r,0,none⟩) m n)) (w.heap.size+1) 64 #[.int .i64 5,.int .i64 0,vv,.int .i64 j]/\eC (l.setCell ⟨w.heap.size+1,2,none⟩ (.slice (some ⟨r,0,none⟩) m n)) (w.heap.size+2) acc vv/\Below w.heap.size w (l.setCell ⟨w.heap.size+1,2,none⟩ (.slice (some ⟨r,0,none⟩) m n))/\w.heap.size+2<=(l.setCell ⟨w.heap.size+1,2,none⟩ (.slice (some ⟨r,0,none⟩) m n)).heap.size:=by
        refine⟨pq,acc++ [y],0,.slice (some ⟨r,0,none⟩) m n,Jo,rfl,AP, ?_,by omega,YK.out.dE (by simp) _, ?_, ?_,gJ.out.setCell (by simp) _, ?_⟩
        ·simp only[zp,zD,zS]at ag⊢;omega
        ·rw[Vq.out];exact GB.out.store rfl
        ·exact YJ.out.only ((ae.refl [w.heap.size+1] l).setCell (p:=⟨w.heap.size+1,2,none⟩) (by simp) _) (by simp)
        simp[World.setCell];omega
       first|exact key|((repeat apply Exists.intro);exact⟨key,rfl⟩)
      case measure=>simp[intOf];omega
    have wz:Hid (∀C:(p+1)<s.size,s[(p+1)].toNat≠63):=za (fun h=>absurd h AI);by_cases Rk:0<j
    ·have O:=za (qy.out.none_ wz.out Rk);go_wp2;refine zo (v:=bE 0 0) (by simp[bE,results,yb,go_sem,B,A,x,u]) rfl ?_;rw[O.out];exact⟨(((HB.out.setCell (by simp) _).setCell (by simp) _).setCell (by simp) _).setCell (by simp) _,0,0,rfl⟩
    obtain rfl:j=0:=by omega
    have qu:=za (qy.out.plain wz.out);obtain⟨W,d⟩:∃W,wr=W:=⟨_,rfl⟩
    have Vp:Hid (af W (w.heap.size+1) 64 #[.int .i64 5,.int .i64 0,.slice H n2 M,.int .i64 0]):=za (by rw[<-d];exact wv.out);have Ns:Hid (af W w.heap.size 64 #[.int .i64 0,.int .i64 0,.slice none 0 0,.int .i64 0]):=za (by rw[<-d];exact rL.out);have NV:Hid (eC W (w.heap.size+2) acc (.slice H n2 M)):=za (by rw[<-d];exact o7.out);have AM:Hid (Below w.heap.size w W):=za (by rw[<-d];exact HB.out);have T6:Hid (W.heap.size=wr.heap.size):=za (by rw[<-d]);have HW:=za d;have C:(p+1)<=s.size:=by omega
    have Vq:Hid (((0:Nat):Int)=(0:Int)):=za rfl;clear d qy wz;have HI:Hid (∀(V:World) (i:Int),i=((((p+1)):Nat):Int)->Calls prog 35 #[.string s,.int .i64 i,.int .i64 ((deep+1:Nat):Int)] V fun e w'=>lQ s V (aK f (s.data.toList.drop (((p+1))))) e w'):=za (fun V i hi=>by subst hi;exact IH.out s (((p+1))) V C hs);have E9:Hid ((deep:Int)+1=((deep+1:Nat):Int)):=za (by omega);go_wp2_with fail
    rw[E9.out];refine(HI.out _ _ (by first|rfl|omega)).mono ?_;rintro e N D;rw[HW.out]at D;have Y:Hid (aK f (s.data.toList.drop (((p+1))))=none):=za (by rw[zU (by simp;omega),BM]);rw[Y.out]at D;have KY:=T6.out;obtain⟨c,v0,v1,rfl⟩:=D;have O:=za (qu.out.none Y.out);have Nj:=c.size;have kC:w.heap.size<N.heap.size:=by omega
    have Z:=za (AM.out.trans (c.mono (by omega)));clear B A x u jI jH jJ jL K U F R S J G I;obtain⟨B,A,x,u,jI,jH,jJ,jL⟩:=aO (Ns.out.ah c (by omega));clear c KY;go_wp2;refine zo (v:=bE 0 0) (by simp[bE,results,yb,go_sem,B,A,x,u,zE,kC]) rfl ?_;rw[O.out];refine⟨?_,0,0,rfl⟩;exact(((((Z.out.setCell (by simp) _).setCell (by simp) _).setCell (by simp) _).setCell (by simp) _).alloc (by simp[World.setCell];omega) _)
   have e7:((s[p].toNat:Int) !=44)=true:=by simp;omega
   have O:=za (hrel.out.bad ad iL tj ha);clear iL ha tj;go_wp2;refine zo (v:=bE 0 0) (by simp[bE,results,yb,go_sem,B,A,x,u]) rfl ?_;rw[O.out];exact⟨(((HB.out.setCell (by simp) _).setCell (by simp) _).setCell (by simp) _).setCell (by simp) _,0,0,rfl⟩
  have O:=za (hrel.out.stop (by omega));go_wp2;refine zo (v:=bE 0 0) (by simp[bE,results,yb,go_sem,B,A,x,u]) rfl ?_;rw[O.out];exact⟨(((HB.out.setCell (by simp) _).setCell (by simp) _).setCell (by simp) _).setCell (by simp) _,0,0,rfl⟩
theorem MK :∀(f deep:Nat),deep+f=9->∀(s:ByteArray) (at_:Nat) (w:World),at_<=s.size->s.size<=100000->
 Calls prog 35 #[.string s,.int .i64 at_,.int .i64 deep] w fun e w'=>lQ s w (aK f (s.data.toList.drop at_)) e w':=by
 intro f;induction f with
 |zero=>
  intro deep l s at_ w h j;have b:Hid (aK 0 (s.data.toList.drop at_)=none):=za rfl;generalize aK 0 (s.data.toList.drop at_)=R at*;have d:8<deep:=by omega
  clear l;by_cases i:at_<s.size
  ·go_enter yM,yG
   go_wp2;refine zo (v:=bE 0 0) (by simp[bE,results,yb,go_sem,b]) rfl ?_;rw[b.out];exact⟨bN,0,0,rfl⟩
  go_enter yM,yG
  go_wp2;refine zo (v:=bE 0 0) (by simp[bE,results,yb,go_sem,b]) rfl ?_;rw[b.out];exact⟨bN,0,0,rfl⟩
 |succ f ih=>
  intro deep l s at_ w h j;have k:=za (fun s at_ w=>ih (deep+1) (by omega) s at_ w);have d:deep<=8:=by omega
  clear ih l;obtain⟨R,c⟩:∃R,Hid (aK (f+1) (s.data.toList.drop at_)=R):=⟨_,za rfl⟩
  rw[c.out];by_cases i:at_<s.size
  ·by_cases m:s[at_].toNat=91
   ·exact C1 f deep d k s at_ w h j R c i m
   by_cases n:s[at_].toNat=123
   ·exact vA f deep d k s at_ w h j R c i n
   exact FI f deep d k s at_ w h j R c i m n
  have b:Hid (R=none):=za (by rw[<-c.out,zU (by simp;omega),BM]);clear c;go_enter yM,yG
  go_wp2;refine zo (v:=bE 0 0) (by simp[bE,results,yb,go_sem,b]) rfl ?_;rw[b.out];exact⟨bN,0,0,rfl⟩
theorem sH {p:List UInt8->Option (Ty×List UInt8)}(j:∀l y r,p l=some (y,r)->y.count+r.length<=l.length):∀n l acc e y r,fg p n l acc e=some (y,r)->y.count+r.length<=aZ acc+l.length
 |0,_,_,_,_,_,h=>by simp[fg]at h
 |n+1,[],_,_,_,_,h=>by simp[fg]at h
 |n+1,c::l,acc,e,y,r,h=>by
  unfold fg at h;split at h
  ·injection h with h;injection h with b d;rw[<-b,<-d];simp[Ty.count];omega
  split at h
  ·cases h
  rename_i q b
  split at h
  ·cases h
  rename_i s w d
  split at h
  ·cases h
  rename_i u o k
  have k1:=(Bl b).length_le;have k2:=(JF d).length_le;have m:=j _ _ _ k;have i:=sH j n _ _ _ _ _ h;rw[fy]at i;simp only[aZ]at i;omega
theorem mY :∀(f:Nat) (l:List UInt8) (y:Ty) (r:List UInt8),aK f l=some (y,r)->y.count+r.length<=l.length
 |0,_,_,_,h=>by simp[aK]at h
 |f+1,[],_,_,h=>by simp[aK]at h
 |f+1,c::l,y,r,h=>by
  have e:=(fX _ _ _ _ h).2;have m:=fX _ _ _ _ h;unfold aK at h;split at h
  ·split at h
   ·cases h
   split at h
   ·injection h with h;injection h with b h2;subst b;simp[Ty.count,aZ]at e⊢;omega
   cases h
  split at h
  ·split at h
   ·cases h
   injection h with h;injection h with b h2;subst b;simp[Ty.count,aZ]at e⊢;omega
  split at h
  ·split at h
   ·cases h
   injection h with h;injection h with b h2;subst b;simp[Ty.count,aZ]at e⊢;omega
  split at h
  ·split at h
   ·cases h
   rename_i x i b
   have k1:=mY f _ _ _ b;have k2:=Bn h;have j:y.count=1+x.count:=by
    unfold gC at h;match i,h with
    |d::i,h=>
     simp only at h;split at h
     ·split at h
      ·cases h
      ·cases h
      split at h
      ·injection h with h;injection h with h3 h4;rw[<-h3];simp[Ty.count,aZ]
      cases h
     cases h
   have:=k2.2;simp;omega
  split at h
  ·have k:=sH (mY f) _ _ _ _ _ _ h;simp[aZ]at k⊢;omega
  cases h
def UD :Option (Ty×List UInt8)->Option Ty
 |none=>none
 |some (x,[])=>if x.may then some x else none
 |some (_,_::_)=>none
theorem ML (l:List UInt8):cI l=UD (aK 8 l):=by
 unfold cI;rcases aK 8 l with _|⟨x,r⟩
 ·rfl
 cases r<;>rfl
theorem IK (s:ByteArray)(w:World)(i:s.size<=100000):
 Calls prog 24 #[.string s] w fun e w'=>E5 w (cI s.data.toList) e w':=by
 have E:=za (MK 8 1 rfl s 0 (w.alloc (.cells #[.int .i64 0,.int .i64 0,.slice none 0 0,.int .i64 0] 64)) (ym _) i);obtain⟨T,G⟩:∃T,Hid (aK 8 s.data.toList=T):=⟨_,za rfl⟩
 rw[zQ,G.out]at E;obtain⟨R,S⟩:∃R,Hid (cI s.data.toList=R):=⟨_,za rfl⟩
 rw[S.out];have U:Hid (UD T=R):=za (by rw[<-S.out,ML,G.out]);clear S;cases T with
 |none=>
  have u:Hid (R=none):=za U.out.symm;go_enter func24,ntmps24
  go_wp2_with fail
  refine E.out.mono ?_;rintro e h ⟨b,v0,v1,rfl⟩;have d:=(af.new w 64 #[.int .i64 0,.int .i64 0,.slice none 0 0,.int .i64 0]).ah b (by simp);have O:=za d;obtain⟨o,n,l,j,I,K,F,J⟩:=aO d;have hz:=b.size;simp only[zt]at hz;have C:w.heap.size<h.heap.size:=by omega
  have A:Hid (Below w.heap.size w h):=za (((zq w.heap.size w).alloc (zf _) _).trans (b.mono (by simp)));clear b d;have n1:((-1:Int) !=(s.size:Int))=true:=by simp
  go_wp2;refine zo (v:= .tuple #[.agg #[.int .i64 0,.int .i64 0,.slice none 0 0,.int .i64 0],.int .i64 3]) (by simp[results,results24,go_sem,o,n,l,j,zE,C]) rfl ?_;rw[u.out];exact⟨(((((A.out.setCell (by simp) _).setCell (by simp) _).setCell (by simp) _).setCell (by simp) _).alloc (by simp[World.setCell];omega) _),rfl⟩
 |some z=>
  obtain⟨x,r⟩:=z;have N:=mY _ _ _ _ G.out;have H:=(fX _ _ _ _ G.out).2;rw[aa]at N H;cases r with
  |cons c r=>
   have u:Hid (R=none):=za U.out.symm;have n1:(((s.size-(c::r).length:Nat):Int) !=(s.size:Int))=true:=by simp at H⊢;omega
   have n2:((s.size-(c::r).length) !=s.size)=true:=by simp at H⊢;omega
   generalize s.size-(c::r).length=q at*;go_enter func24,ntmps24
   go_wp2_with fail
   refine E.out.mono ?_;rintro e h ⟨b,c0,c1,c2,c3,rfl,B⟩;obtain⟨p,y,rfl,rfl,rfl,rfl,_⟩:=B.open_;have d:=(af.new w 64 #[.int .i64 0,.int .i64 0,.slice none 0 0,.int .i64 0]).ah b (by simp);have O:=za d;obtain⟨o,n,l,j,I,K,F,J⟩:=aO d;have hz:=b.size;simp only[zt]at hz;have C:w.heap.size<h.heap.size:=by omega
   have A:Hid (Below w.heap.size w h):=za (((zq w.heap.size w).alloc (zf _) _).trans (b.mono (by simp)));clear b d;go_wp2;refine zo (v:= .tuple #[.agg #[.int .i64 0,.int .i64 0,.slice none 0 0,.int .i64 0],.int .i64 3]) (by simp[results,results24,go_sem,o,n,l,j,zE,C]) rfl ?_;rw[u.out];exact⟨(((((A.out.setCell (by simp) _).setCell (by simp) _).setCell (by simp) _).setCell (by simp) _).alloc (by simp[World.setCell];omega) _),rfl⟩
  |nil=>
   have n1:((s.size:Int) !=(s.size:Int))=false:=by simp
   have n2:(s.size !=s.size)=false:=by simp
   have ad:=za N;obtain⟨m,M⟩:∃m,x.may=m:=⟨_,rfl⟩
   have u:Hid (R=if m then some x else none):=za (by rw[<-M];exact U.out.symm);clear N H;go_enter func24,ntmps24
   go_wp2_with fail
   refine E.out.mono ?_;rintro e h ⟨b,c0,c1,c2,c3,rfl,B⟩;have X:=za B;obtain⟨p,y,rfl,rfl,rfl,rfl,_⟩:=B.open_;have d:=(af.new w 64 #[.int .i64 0,.int .i64 0,.slice none 0 0,.int .i64 0]).ah b (by simp);have O:=za d;obtain⟨o,n,l,j,I,K,F,J⟩:=aO d;have hz:=b.size;simp only[zt]at hz;have C:w.heap.size<h.heap.size:=by omega
   have A:Hid (Below w.heap.size w h):=za (((zq w.heap.size w).alloc (zf _) _).trans (b.mono (by simp)));clear b d;have W:=fh.wY x (X.out.below ((zq _ _).alloc (zf _) (.cells #[.int .i64 x.kind,.int .i64 x.size,.slice p x.sub.length y,.int .i64 x.tail] 64)));have Z:=za (J9 x _ (h.alloc (.cells #[.int .i64 x.kind,.int .i64 x.size,.slice p x.sub.length y,.int .i64 x.tail] 64)) _ _ _ _ W (zf _) (by have:=ad.out;omega));rw[M]at Z;have ae:=za M;clear W M B;go_wp2_with fail
   refine Z.out.mono ?_;rintro e w5 ⟨rfl,D⟩;clear o n l j I K F J;obtain⟨o,n,l,j,I,K,F,J⟩:=aO ((O.out.alloc _).ah D (by simp;omega));obtain⟨b0,b1,b2,b3,kt,ku,ks,kr⟩:=aO ((af.new h 64 #[.int .i64 x.kind,.int .i64 x.size,.slice p x.sub.length y,.int .i64 x.tail]).ah D (by simp));have gJ:Hid (Below w.heap.size w w5):=za ((A.out.alloc (by omega) _).trans (D.mono (by simp;omega)));have ab:=za ((X.out.below ((zq _ _).alloc (zf _) (.cells #[.int .i64 x.kind,.int .i64 x.size,.slice p x.sub.length y,.int .i64 x.tail] 64))).below D);clear D;cases m with
   |true=>
    go_wp2;refine zo (v:= .tuple #[.agg #[.int .i64 x.kind,.int .i64 x.size,.slice p x.sub.length y,.int .i64 x.tail],.int .i64 0]) (by simp[results,results24,go_sem,o,n,l,j]) rfl ?_;rw[u.out];refine⟨(((gJ.out.setCell (by simp) _).setCell (by simp) _).setCell (by simp) _).setCell (by simp) _,_,_,_,_,rfl, ?_⟩;refine ab.out.only (L:= [w.heap.size]) Cr ?_ ?_
    ·intro k Y i;have Y:k=w.heap.size:=by simpa using Y
     have i:(w.alloc (.cells #[.int .i64 0,.int .i64 0,.slice none 0 0,.int .i64 0] 64)).heap.size<=k:=i;simp at i;omega
    intro k _ i;have i:(w.alloc (.cells #[.int .i64 0,.int .i64 0,.slice none 0 0,.int .i64 0] 64)).heap.size<=k:=i;simp at i;show w.heap.size<=k
    omega
   |false=>
    go_wp2;refine zo (v:= .tuple #[.agg #[.int .i64 0,.int .i64 0,.slice none 0 0,.int .i64 0],.int .i64 3]) (by simp[results,results24,go_sem,o,n,l,j,zE,C]) rfl ?_;rw[u.out];exact⟨(((gJ.out.setCell (by simp) _).setCell (by simp) _).setCell (by simp) _).setCell (by simp) _,rfl⟩
