/- The document's parse of types: numbers, and no type. -/
import Derived.Test.YtdbmifjankgfpaaGreatDoorKA34
set_option linter.all false
set_option maxRecDepth 100000
set_option maxHeartbeats 3200000
open Go.Proofs.Tryz
namespace Go.Proofs.YtdbmifjankgfpaaGreatDoor
open Go.RowKit
def zT:=@results36
def yz:=@ntmps36
def yJ:=@func36
theorem Gh (f deep:Nat)(U:deep<=8)(S:Hid (∀(s:ByteArray) (at_:Nat) (w:World),at_<=s.size->s.size<=100000->
 Calls prog 36 #[.string s,.int .i64 at_,.int .i64 ((deep+1:Nat):Int)] w fun e w'=>mn s w (aL f (s.data.toList.drop at_)) e w')) (s:ByteArray) (at_:Nat) (w:World) (X:at_<=s.size) (K:s.size<=100000)
 (R:Option (Ty×List UInt8)) (E:Hid (aL (f+1) (s.data.toList.drop at_)=R)) (H:at_<s.size) (A:s[at_].toNat≠91) (D:s[at_].toNat≠123):
 Calls prog 36 #[.string s,.int .i64 at_,.int .i64 deep] w fun e w'=>mn s w R e w':=by
 have M:decide (s.size<=at_)=false:=by simp;omega
 have O:decide ((8:Int)<(deep:Int))=false:=by simp;omega
 have h:Hid (aL (f+1) (s[at_]::s.data.toList.drop (at_+1))=R):=za (by rw[<-drop_cons s at_ H];exact E.out);have j:=za (fun w=>pr s (at_+1) w (by omega) K);have F:Hid (((at_+1:Nat):Int)=(at_:Int)+1):=za (by omega);obtain⟨N,k⟩:∃N,Hid (cx (s.data.toList.drop (at_+1))=N):=⟨_,za rfl⟩
 rw[k.out,F.out]at j;clear E;by_cases hu:s[at_].toNat=117
 ·have G:((s[at_].toNat:Int)==117)=true:=by simp[hu]
  have b:Hid (AH N=R):=za (by rw[<-h.out,show s[at_]=117 from zQ.1 hu,Ku,k.out]);clear hu h;cases N with
  |none=>
   have c:Hid (R=none):=za b.out.symm;clear b;go_enter yJ,yz
   go_wp2_with fail
   refine(j.out _).mono ?_;rintro e w' ⟨rfl,rfl⟩;simp only[eC];go_wp2;refine zk (v:=bL 1 0) (by simp[bL,results,zT,go_sem]) rfl ?_;rw[c.out];exact⟨bD,1,0,rfl⟩
  |some z=>
   obtain⟨n,r⟩:=z;obtain⟨l,x,y,C⟩:=qj (by omega) k.out;by_cases i:n%8=0
   ·have c:Hid (R=some (Ty.mk 1 ((n/8:Nat):Int) [] 0,r)):=za (by rw[<-b.out];simp[AH,i]);have B:((n:Int)%8 !=0)=false:=by simp;omega
    have u:Hid (((n/8:Nat):Int)=(n:Int)/8):=za (by omega);clear b i l;obtain⟨q,d⟩:∃q,s.size-r.length=q:=⟨_,rfl⟩
    have o:=za d;rw[d]at x y;go_enter yJ,yz
    go_wp2_with fail
    refine(j.out _).mono ?_;rintro e w' ⟨rfl,rfl⟩;simp only[eC,d];clear d;go_wp2;refine zk (v:= .tuple #[.agg #[.int .i64 1,.int .i64 ((n:Int)/8),.slice none 0 0,.int .i64 0],.int .i64 (q:Int)]) (by simp[results,zT,go_sem]) rfl ?_;rw[c.out];refine⟨bD,_,_,_,_,by rw[o.out], ?_⟩;first|exact fE.leaf (aD (by omega) (by omega)) (aD (by omega) (by omega)) (aD (by omega) (by omega))|(rw[u.out];exact fE.leaf (aD (by omega) (by omega)) (aD (by omega) (by omega)) (aD (by omega) (by omega)))
   have c:Hid (R=none):=za (by rw[<-b.out];simp[AH,i]);have B:((n:Int)%8 !=0)=true:=by simp;omega
   clear b i l;go_enter yJ,yz
   go_wp2_with fail
   refine(j.out _).mono ?_;rintro e w' ⟨rfl,rfl⟩;simp only[eC];go_wp2;refine zk (v:=bL 0 0) (by simp[bL,results,zT,go_sem,]) rfl ?_;rw[c.out];exact⟨bD,0,0,rfl⟩
 have G:((s[at_].toNat:Int)==117)=false:=zm.2 (by omega);have B:True:=trivial;by_cases m:s[at_].toNat=98
 ·have I:((s[at_].toNat:Int)==98)=true:=by simp[m]
  have b:Hid (tD 2 N=R):=za (by rw[<-h.out,show s[at_]=98 from zQ.1 m,Kv,k.out]);clear hu m h;cases N with
  |none=>
   have c:Hid (R=none):=za b.out.symm;clear b;go_enter yJ,yz
   go_wp2_with fail
   refine(j.out _).mono ?_;rintro e w' ⟨rfl,rfl⟩;simp only[eC];go_wp2;refine zk (v:=bL 2 0) (by simp[bL,results,zT,go_sem]) rfl ?_;rw[c.out];exact⟨bD,2,0,rfl⟩
  |some z=>
   obtain⟨n,r⟩:=z;obtain⟨l,x,y,C⟩:=qj (by omega) k.out;have c:Hid (R=some (Ty.mk 2 (n:Int) [] 0,r)):=za b.out.symm;have i:True:=trivial;have u:Hid (((n/8:Nat):Int)=(n:Int)/8):=za (by omega);clear b i l;obtain⟨q,d⟩:∃q,s.size-r.length=q:=⟨_,rfl⟩
   have o:=za d;rw[d]at x y;go_enter yJ,yz
   go_wp2_with fail
   refine(j.out _).mono ?_;rintro e w' ⟨rfl,rfl⟩;simp only[eC,d];clear d;go_wp2;refine zk (v:= .tuple #[.agg #[.int .i64 2,.int .i64 (n:Int),.slice none 0 0,.int .i64 0],.int .i64 (q:Int)]) (by simp[results,zT,go_sem]) rfl ?_;rw[c.out];refine⟨bD,_,_,_,_,by rw[o.out], ?_⟩;first|exact fE.leaf (aD (by omega) (by omega)) (aD (by omega) (by omega)) (aD (by omega) (by omega))|(rw[u.out];exact fE.leaf (aD (by omega) (by omega)) (aD (by omega) (by omega)) (aD (by omega) (by omega)))
 have I:((s[at_].toNat:Int)==98)=false:=zm.2 (by omega);by_cases p:s[at_].toNat=115
 ·have J:((s[at_].toNat:Int)==115)=true:=by simp[p]
  have b:Hid (tD 3 N=R):=za (by rw[<-h.out,show s[at_]=115 from zQ.1 p,Kw,k.out]);clear hu m p h;cases N with
  |none=>
   have c:Hid (R=none):=za b.out.symm;clear b;go_enter yJ,yz
   go_wp2_with fail
   refine(j.out _).mono ?_;rintro e w' ⟨rfl,rfl⟩;simp only[eC];go_wp2;refine zk (v:=bL 3 0) (by simp[bL,results,zT,go_sem]) rfl ?_;rw[c.out];exact⟨bD,3,0,rfl⟩
  |some z=>
   obtain⟨n,r⟩:=z;obtain⟨l,x,y,C⟩:=qj (by omega) k.out;have c:Hid (R=some (Ty.mk 3 (n:Int) [] 0,r)):=za b.out.symm;have i:True:=trivial;have u:Hid (((n/8:Nat):Int)=(n:Int)/8):=za (by omega);clear b i l;obtain⟨q,d⟩:∃q,s.size-r.length=q:=⟨_,rfl⟩
   have o:=za d;rw[d]at x y;go_enter yJ,yz
   go_wp2_with fail
   refine(j.out _).mono ?_;rintro e w' ⟨rfl,rfl⟩;simp only[eC,d];clear d;go_wp2;refine zk (v:= .tuple #[.agg #[.int .i64 3,.int .i64 (n:Int),.slice none 0 0,.int .i64 0],.int .i64 (q:Int)]) (by simp[results,zT,go_sem]) rfl ?_;rw[c.out];refine⟨bD,_,_,_,_,by rw[o.out], ?_⟩;first|exact fE.leaf (aD (by omega) (by omega)) (aD (by omega) (by omega)) (aD (by omega) (by omega))|(rw[u.out];exact fE.leaf (aD (by omega) (by omega)) (aD (by omega) (by omega)) (aD (by omega) (by omega)))
 have J:((s[at_].toNat:Int)==115)=false:=zm.2 (by omega);have W:((s[at_].toNat:Int)==91)=false:=zm.2 (by omega);have L:((s[at_].toNat:Int) !=123)=true:=by simp;omega
 have c:Hid (R=none):=za (by rw[<-h.out,EP _ _ _ hu m p A D]);clear hu m p A D h;go_enter yJ,yz
 go_wp2;refine zk (v:=bL 0 0) (by simp[bL,results,zT,go_sem,]) rfl ?_;rw[c.out];exact⟨bD,0,0,rfl⟩
theorem Dq (f deep:Nat)(ai:deep<=8)(IH:Hid (∀(s:ByteArray) (at_:Nat) (w:World),at_<=s.size->s.size<=100000->
 Calls prog 36 #[.string s,.int .i64 at_,.int .i64 ((deep+1:Nat):Int)] w fun e w'=>mn s w (aL f (s.data.toList.drop at_)) e w')) (s:ByteArray) (at_:Nat) (w:World) (dh:at_<=s.size) (D:s.size<=100000)
 (R:Option (Ty×List UInt8)) (HR:Hid (aL (f+1) (s.data.toList.drop at_)=R)) (aC:at_<s.size) (Rq:s[at_].toNat=91):
 Calls prog 36 #[.string s,.int .i64 at_,.int .i64 deep] w fun e w'=>mn s w R e w':=by
 have d1:decide (s.size<=at_)=false:=by simp;omega
 have d2:decide ((8:Int)<(deep:Int))=false:=by simp;omega
 have HC:Hid (aL (f+1) (s[at_]::s.data.toList.drop (at_+1))=R):=za (by rw[<-drop_cons s at_ aC];exact HR.out);have F:=za (fun w=>pr s (at_+1) w (by omega) D);have E8:Hid (((at_+1:Nat):Int)=(at_:Int)+1):=za (by omega);obtain⟨N,U⟩:∃N,Hid (cx (s.data.toList.drop (at_+1))=N):=⟨_,za rfl⟩
 rw[U.out,E8.out]at F;clear HR;have e1:((s[at_].toNat:Int)==117)=false:=zm.2 (by omega);have e2:((s[at_].toNat:Int)==98)=false:=zm.2 (by omega);have e3:((s[at_].toNat:Int)==115)=false:=zm.2 (by omega);have e4:((s[at_].toNat:Int)==91)=true:=by simp[Rq]
 have Au:Hid (uX (aL f (s.data.toList.drop (at_+1)))=R):=za (by rw[<-HC.out,show s[at_]=91 from zQ.1 Rq,Kx]);have E:=za (IH.out s (at_+1) (w.alloc (.cells #[.int .i64 0,.int .i64 0,.slice none 0 0,.int .i64 0] 43)) (by omega) D);have J:Hid ((deep:Int)+1=((deep+1:Nat):Int)):=za (by omega);obtain⟨T,HT⟩:∃T,Hid (aL f (s.data.toList.drop (at_+1))=T):=⟨_,za rfl⟩
 rw[HT.out]at Au E;rw[E8.out]at E;clear Rq HC F U;cases T with
 |none=>
  have l:Hid (R=none):=za Au.out.symm;clear Au;go_enter yJ,yz
  go_wp2_with fail
  rw[J.out];refine E.out.mono ?_;rintro e b ⟨c,v0,v1,rfl⟩;have h:=(af.new w 43 #[.int .i64 0,.int .i64 0,.slice none 0 0,.int .i64 0]).ag c (by simp);obtain⟨i,j,p,m,S,W,Y,M⟩:=aN h;have hz:=c.size;simp only[zp]at hz;have o:w.heap.size<b.heap.size:=by omega
  have K:w.heap.size<b.heap.size+1:=by omega
  have r:Hid (Below w.heap.size w b):=za (((zl w.heap.size w).alloc (zg _) _).trans (c.mono (by simp)));clear c h;go_wp2;refine zk (v:=bL 0 0) (by simp[bL,results,zT,go_sem,i,j,p,m,zA,o]) rfl ?_;rw[l.out];refine⟨?_,0,0,rfl⟩;exact(((((r.out.setCell (by simp) _).setCell (by simp) _).setCell (by simp) _).setCell (by simp) _).alloc (by simp[World.setCell];omega) _)
 |some z=>
  obtain⟨x,ad⟩:=z;obtain⟨k1,k2⟩:=gu _ _ _ _ HT.out;obtain⟨k3,k4⟩:=u9 (by omega) k1;have k5:s.size-ad.length<=s.size:=by omega
  have Kh:=za k3;obtain⟨q,hq⟩:∃q,s.size-ad.length=q:=⟨_,rfl⟩
  rw[hq]at k4 k5 Kh;have X:=za hq;have O:Hid (gL x (s.data.toList.drop q)=R):=za (by rw[Kh.out];exact Au.out);clear Au k1 k2 k3;by_cases Bi:q<s.size
  ·by_cases S6:s[q].toNat=58
   ·have f1:((s[q].toNat:Int) !=58)=false:=by simp[S6]
    obtain⟨N,U⟩:∃N,Hid (cx (s.data.toList.drop (q+1))=N):=⟨_,za rfl⟩
    have G:Hid (iX x N=R):=za (by rw[<-U.out,<-mU,<-O.out,drop_cons s q Bi,show s[q]=58 from zQ.1 S6]);have F:=za (fun w=>pr s (q+1) w (by omega) D);have E7:Hid (((q+1:Nat):Int)=(q:Int)+1):=za (by omega);rw[U.out,E7.out]at F;clear O S6;cases N with
    |none=>
     have l:Hid (R=none):=za G.out.symm;clear G;go_enter yJ,yz
     go_wp2_with fail
     rw[J.out];refine E.out.mono ?_;rintro e b ⟨c,c0,c1,c2,c3,rfl,d⟩;rw[X.out];have h:=(af.new w 43 #[.int .i64 0,.int .i64 0,.slice none 0 0,.int .i64 0]).ag c (by simp);obtain⟨i,j,p,m,S,W,Y,M⟩:=aN h;have hz:=c.size;simp only[zp]at hz;have o:w.heap.size<b.heap.size:=by omega
     have K:w.heap.size<b.heap.size+1:=by omega
     have r:Hid (Below w.heap.size w b):=za (((zl w.heap.size w).alloc (zg _) _).trans (c.mono (by simp)));have y:=za d;simp only[zp]at y;obtain⟨H,I,rfl,rfl,rfl,rfl,B,C,A,_⟩:=d.open_;clear c h d B C A;go_wp2_with fail
     refine(F.out _).mono ?_;rintro e w' ⟨rfl,rfl⟩;simp only[eC];go_wp2;refine zk (v:=bL 0 0) (by simp[bL,results,zT,go_sem,i,j,p,m,zA,o]) rfl ?_;rw[l.out];refine⟨?_,0,0,rfl⟩;exact(((((r.out.setCell (by simp) _).setCell (by simp) _).setCell (by simp) _).setCell (by simp) _).alloc (by simp[World.setCell];omega) _)
    |some z2=>
     obtain⟨n,r2⟩:=z2;obtain⟨gB,ir,DU,R8⟩:=qj (by omega) U.out;obtain⟨u,aa⟩:∃u,s.size-r2.length=u:=⟨_,rfl⟩
     rw[aa]at gB ir DU;have Ok:=za aa;have ab:=za gB;clear gB;by_cases ag:u<s.size
     ·have pS:Hid (r2=s[u]::s.data.toList.drop (u+1)):=za (by rw[<-ab.out,drop_cons s u ag]);by_cases Z:s[u].toNat=93
      ·have f2:((s[u].toNat:Int) !=93)=false:=by simp[Z]
       have l:Hid (R=some (.mk 4 n [x] 0,s.data.toList.drop (u+1))):=za (by rw[<-G.out,pS.out];simp[iX,Z]);have ah:=za (s5 s (u+1) (by omega));clear G Z;go_enter yJ,yz
       go_wp2_with fail
       rw[J.out];refine E.out.mono ?_;rintro e b ⟨c,c0,c1,c2,c3,rfl,d⟩;rw[X.out];have h:=(af.new w 43 #[.int .i64 0,.int .i64 0,.slice none 0 0,.int .i64 0]).ag c (by simp);obtain⟨i,j,p,m,S,W,Y,M⟩:=aN h;have hz:=c.size;simp only[zp]at hz;have o:w.heap.size<b.heap.size:=by omega
       have K:w.heap.size<b.heap.size+1:=by omega
       have r:Hid (Below w.heap.size w b):=za (((zl w.heap.size w).alloc (zg _) _).trans (c.mono (by simp)));have y:=za d;simp only[zp]at y;obtain⟨H,I,rfl,rfl,rfl,rfl,B,C,A,_⟩:=d.open_;clear c h d B C A;go_wp2_with fail
       refine(F.out _).mono ?_;rintro e w' ⟨rfl,rfl⟩;simp only[eC,Ok.out];go_wp2;refine zk (v:= .tuple #[.agg #[.int .i64 4,.int .i64 n,.slice (some ⟨b.heap.size+1,0,none⟩) 1 1,.int .i64 0],.int .i64 ((u:Int)+1)]) (by simp[results,zT,go_sem,i,j,p,m,zA,o,K]) rfl ?_;rw[l.out];refine⟨((((((r.out.setCell (by simp) _).setCell (by simp) _).setCell (by simp) _).setCell (by simp) _).alloc (by simp[World.setCell];omega) _).alloc (by simp[World.setCell];omega) _),_,_,_,_,by rw[ah.out];go_num, ?_⟩;have kO:ae [w.heap.size] b ((((((b.setCell ⟨w.heap.size,0,none⟩ (.int .i64 4)).setCell ⟨w.heap.size,1,none⟩ (.int .i64 n)).setCell ⟨w.heap.size,2,none⟩ (.slice (some ⟨b.heap.size+1,0,none⟩) 1 1)).setCell ⟨w.heap.size,3,none⟩ (.int .i64 0)).alloc (.cells #[.int .i64 x.kind,.int .i64 x.size,.slice H x.sub.length I,.int .i64 x.tail] 43)).alloc (.cells #[.int .i64 x.kind,.int .i64 x.size,.slice H x.sub.length I,.int .i64 x.tail] 43)):=CM;refine⟨rfl,rfl,rfl,aD (by omega) (by omega),aD (by omega) (by omega),aD (by omega) (by omega),by simp,_,1,rfl,by simp,by simp,⟨⟨b.heap.size+1,0,.int .i64 x.kind,.int .i64 x.size,.slice H x.sub.length I,.int .i64 x.tail,rfl, ?_, ?_, ?_, ?_, ?_, ?_⟩,trivial⟩⟩
       ·show w.heap.size<=b.heap.size+1
        omega
       ·exact(Di _ _ _ (b.heap.size+1) (by simp[World.setCell])).cell 0
       ·exact(Di _ _ _ (b.heap.size+1) (by simp[World.setCell])).cell 1
       ·exact(Di _ _ _ (b.heap.size+1) (by simp[World.setCell])).cell 2
       ·exact(Di _ _ _ (b.heap.size+1) (by simp[World.setCell])).cell 3
       refine y.out.only (L:= [w.heap.size]) kO ?_ ?_
       ·intro k hk D;have hk:k=w.heap.size:=by simpa using hk
        have D:w.heap.size+1<=k:=D;omega
       intro k _ D;have D:w.heap.size+1<=k:=D;show w.heap.size<=k
       omega
      have f2:((s[u].toNat:Int) !=93)=true:=by simp;omega
      have l:Hid (R=none):=za (by rw[<-G.out,pS.out];simp[iX,Z]);clear G Z;go_enter yJ,yz
      go_wp2_with fail
      rw[J.out];refine E.out.mono ?_;rintro e b ⟨c,c0,c1,c2,c3,rfl,d⟩;rw[X.out];have h:=(af.new w 43 #[.int .i64 0,.int .i64 0,.slice none 0 0,.int .i64 0]).ag c (by simp);obtain⟨i,j,p,m,S,W,Y,M⟩:=aN h;have hz:=c.size;simp only[zp]at hz;have o:w.heap.size<b.heap.size:=by omega
      have K:w.heap.size<b.heap.size+1:=by omega
      have r:Hid (Below w.heap.size w b):=za (((zl w.heap.size w).alloc (zg _) _).trans (c.mono (by simp)));have y:=za d;simp only[zp]at y;obtain⟨H,I,rfl,rfl,rfl,rfl,B,C,A,_⟩:=d.open_;clear c h d B C A;go_wp2_with fail
      refine(F.out _).mono ?_;rintro e w' ⟨rfl,rfl⟩;simp only[eC,Ok.out];go_wp2;refine zk (v:=bL 0 0) (by simp[bL,results,zT,go_sem,i,j,p,m,zA,o]) rfl ?_;rw[l.out];refine⟨?_,0,0,rfl⟩;exact(((((r.out.setCell (by simp) _).setCell (by simp) _).setCell (by simp) _).setCell (by simp) _).alloc (by simp[World.setCell];omega) _)
     have l:Hid (R=none):=za (by rw[<-G.out,<-ab.out,zI (by simp;omega)];rfl);clear G;go_enter yJ,yz
     go_wp2_with fail
     rw[J.out];refine E.out.mono ?_;rintro e b ⟨c,c0,c1,c2,c3,rfl,d⟩;rw[X.out];have h:=(af.new w 43 #[.int .i64 0,.int .i64 0,.slice none 0 0,.int .i64 0]).ag c (by simp);obtain⟨i,j,p,m,S,W,Y,M⟩:=aN h;have hz:=c.size;simp only[zp]at hz;have o:w.heap.size<b.heap.size:=by omega
     have K:w.heap.size<b.heap.size+1:=by omega
     have r:Hid (Below w.heap.size w b):=za (((zl w.heap.size w).alloc (zg _) _).trans (c.mono (by simp)));have y:=za d;simp only[zp]at y;obtain⟨H,I,rfl,rfl,rfl,rfl,B,C,A,_⟩:=d.open_;clear c h d B C A;go_wp2_with fail
     refine(F.out _).mono ?_;rintro e w' ⟨rfl,rfl⟩;simp only[eC,Ok.out];go_wp2;refine zk (v:=bL 0 0) (by simp[bL,results,zT,go_sem,i,j,p,m,zA,o]) rfl ?_;rw[l.out];refine⟨?_,0,0,rfl⟩;exact(((((r.out.setCell (by simp) _).setCell (by simp) _).setCell (by simp) _).setCell (by simp) _).alloc (by simp[World.setCell];omega) _)
   have f1:((s[q].toNat:Int) !=58)=true:=by simp;omega
   have l:Hid (R=none):=za (by rw[<-O.out,drop_cons s q Bi,uY _ _ _ S6]);clear O S6;go_enter yJ,yz
   go_wp2_with fail
   rw[J.out];refine E.out.mono ?_;rintro e b ⟨c,c0,c1,c2,c3,rfl,d⟩;rw[X.out];have h:=(af.new w 43 #[.int .i64 0,.int .i64 0,.slice none 0 0,.int .i64 0]).ag c (by simp);obtain⟨i,j,p,m,S,W,Y,M⟩:=aN h;have hz:=c.size;simp only[zp]at hz;have o:w.heap.size<b.heap.size:=by omega
   have K:w.heap.size<b.heap.size+1:=by omega
   have r:Hid (Below w.heap.size w b):=za (((zl w.heap.size w).alloc (zg _) _).trans (c.mono (by simp)));have y:=za d;simp only[zp]at y;obtain⟨H,I,rfl,rfl,rfl,rfl,B,C,A,_⟩:=d.open_;clear c h d B C A;go_wp2;refine zk (v:=bL 0 0) (by simp[bL,results,zT,go_sem,i,j,p,m,zA,o]) rfl ?_;rw[l.out];refine⟨?_,0,0,rfl⟩;exact(((((r.out.setCell (by simp) _).setCell (by simp) _).setCell (by simp) _).setCell (by simp) _).alloc (by simp[World.setCell];omega) _)
  have l:Hid (R=none):=za (by rw[<-O.out,zI (by simp;omega)];rfl);clear O;go_enter yJ,yz
  go_wp2_with fail
  rw[J.out];refine E.out.mono ?_;rintro e b ⟨c,c0,c1,c2,c3,rfl,d⟩;rw[X.out];have h:=(af.new w 43 #[.int .i64 0,.int .i64 0,.slice none 0 0,.int .i64 0]).ag c (by simp);obtain⟨i,j,p,m,S,W,Y,M⟩:=aN h;have hz:=c.size;simp only[zp]at hz;have o:w.heap.size<b.heap.size:=by omega
  have K:w.heap.size<b.heap.size+1:=by omega
  have r:Hid (Below w.heap.size w b):=za (((zl w.heap.size w).alloc (zg _) _).trans (c.mono (by simp)));have y:=za d;simp only[zp]at y;obtain⟨H,I,rfl,rfl,rfl,rfl,B,C,A,_⟩:=d.open_;clear c h d B C A;go_wp2;refine zk (v:=bL 0 0) (by simp[bL,results,zT,go_sem,i,j,p,m,zA,o]) rfl ?_;rw[l.out];refine⟨?_,0,0,rfl⟩;exact(((((r.out.setCell (by simp) _).setCell (by simp) _).setCell (by simp) _).setCell (by simp) _).alloc (by simp[World.setCell];omega) _)
theorem wA (f deep:Nat)(aw:deep<=8)(IH:Hid (∀(s:ByteArray) (at_:Nat) (w:World),at_<=s.size->s.size<=100000->
 Calls prog 36 #[.string s,.int .i64 at_,.int .i64 ((deep+1:Nat):Int)] w fun e w'=>mn s w (aL f (s.data.toList.drop at_)) e w')) (s:ByteArray) (at_:Nat) (w:World) (dh:at_<=s.size) (hs:s.size<=100000)
 (aa:Option (Ty×List UInt8)) (HR:Hid (aL (f+1) (s.data.toList.drop at_)=aa)) (aC:at_<s.size) (an:s[at_].toNat=123):
 Calls prog 36 #[.string s,.int .i64 at_,.int .i64 deep] w fun e w'=>mn s w aa e w':=by
 have d1:decide (s.size<=at_)=false:=by simp;omega
 have d2:decide ((8:Int)<(deep:Int))=false:=by simp;omega
 have HC:Hid (aL (f+1) (s[at_]::s.data.toList.drop (at_+1))=aa):=za (by rw[<-drop_cons s at_ aC];exact HR.out);obtain⟨aq,HN⟩:∃aq,Hid (cx (s.data.toList.drop (at_+1))=aq):=⟨_,za rfl⟩
 clear HR;have e1:((s[at_].toNat:Int)==117)=false:=zm.2 (by omega);have e2:((s[at_].toNat:Int)==98)=false:=zm.2 (by omega);have e3:((s[at_].toNat:Int)==115)=false:=zm.2 (by omega);have e4:((s[at_].toNat:Int)==91)=false:=zm.2 (by omega);have e5:((s[at_].toNat:Int) !=123)=false:=by simp[an]
 have Bn:Hid (eT f s aa (at_+1) [] 0):=za ⟨_,by
  have h1:=HC.out;rw[show s[at_]=123 from zQ.1 an,Ky]at h1;exact h1,by omega⟩
 clear an HC HN;go_enter yJ,yz
 go_wp2_with fail
 go_loopw [1] (fun i wr=>∃(p:Nat) (acc:List Ty) (j:Nat) (vv:Value),p<=s.size/\i= .int .i64 p/\Hid (eT f s aa p acc j)/\acc.length<=p/\j<=p/\af wr w.heap.size 43 #[.int .i64 0,.int .i64 0,.slice none 0 0,.int .i64 0]/\af wr (w.heap.size+1) 43 #[.int .i64 5,.int .i64 0,vv,.int .i64 j]/\eQ wr (w.heap.size+2) acc vv/\Below w.heap.size w wr/\w.heap.size+2<=wr.heap.size) (fun i _=>s.size-(intOf i).toNat)
 case atStart=>
  have aG:=af.new (w.alloc (.cells #[.int .i64 0,.int .i64 0,.slice none 0 0,.int .i64 0] 43)) 43 #[.int .i64 5,.int .i64 0,.slice none 0 0,.int .i64 0];exact⟨at_+1,[],0,.slice none 0 0,by omega,by go_num,Bn,by simp,by omega,(af.new _ _ _).alloc _,by simpa using aG,eQ.nil _ _,bD,by simp⟩
 case round=>
  obtain⟨p,acc,j,vv,hp,rfl,hrel,al,tv,LY,j4,lG,ao,UH⟩:=hrel;have tX:=za LY;have Ac:=za j4;have kU:=za lG;have HB:=za ao;obtain⟨O,n2,I,rfl,JW,av,ax⟩:=lG.cH;obtain⟨u,x,B,A,jW,jY,jX,j5⟩:=aN LY;obtain⟨N,G,R,M,F,H,J,S⟩:=aN j4;clear LY j4 lG ao Bn;by_cases ak:p<s.size
  ·by_cases jd:s[p].toNat=125
   ·have e6:((s[p].toNat:Int) !=125)=false:=by simp[jd]
    have K:=za (hrel.out.ends ak jd);have ar:=za (s5 s (p+1) (by omega));clear jd;go_wp2;refine zk (v:= .tuple #[.agg #[.int .i64 5,.int .i64 0,.slice O n2 I,.int .i64 j],.int .i64 ((p:Int)+1)]) (by simp[results,zT,go_sem,u,x,B,A]) rfl ?_;rw[K.out];refine⟨(((HB.out.setCell (by simp) _).setCell (by simp) _).setCell (by simp) _).setCell (by simp) _,_,_,_,_,by rw[ar.out];go_num, ?_⟩;have au:eQ _ (w.heap.size+2) acc (.slice O n2 I):=kU.out.only (L:= [w.heap.size]) (w':=(((wr.setCell ⟨w.heap.size,0,none⟩ (.int .i64 5)).setCell ⟨w.heap.size,1,none⟩ (.int .i64 0)).setCell ⟨w.heap.size,2,none⟩ (.slice O n2 I)).setCell ⟨w.heap.size,3,none⟩ (.int .i64 j)) (((((ae.refl _ _).setCell (by simp) _).setCell (by simp) _).setCell (by simp) _).setCell (by simp) _) (by simp);refine fE.gQ (au.ty (by omega) (aD (by omega) (by omega)) (aD (by omega) (by omega)) (aD (by omega) (by omega))) fun k _ X=> ?_
    have X:w.heap.size+2<=k:=X;show w.heap.size<=k
    omega
   have e6:((s[p].toNat:Int) !=125)=true:=by simp;omega
   by_cases ha:acc= []
   ·subst ha;have rl:=za (hrel.out.first ak jd);obtain rfl:n2=0:=JW.out;clear jd;have Bi:=ak;by_cases DQ:s[p].toNat=63
    ·have e8:((s[p].toNat:Int)==63)=true:=by simp[DQ]
     have oy:=za (rl.out.mark Bi DQ);obtain⟨W,d⟩:∃W,wr.setCell ⟨w.heap.size+1,3,none⟩ (.int .i64 ((j:Int)+1))=W:=⟨_,rfl⟩
     have Wr:Hid (af W (w.heap.size+1) 43 #[.int .i64 5,.int .i64 0,.slice O 0 I,.int .i64 ((j:Int)+1)]):=za (by rw[<-d];exact Ac.out.store rfl);have Oz:Hid (af W w.heap.size 43 #[.int .i64 0,.int .i64 0,.slice none 0 0,.int .i64 0]):=za (by rw[<-d];exact tX.out.dS (by simp) _);have O2:Hid (eQ W (w.heap.size+2) [] (.slice O 0 I)):=za (by rw[<-d];exact kU.out.only ((ae.refl [w.heap.size+1] wr).setCell (by simp) _) (by simp));have Bl:Hid (Below w.heap.size w W):=za (by rw[<-d];exact HB.out.setCell (by simp) _);have U4:Hid (W.heap.size=wr.heap.size):=za (by rw[<-d];simp[World.setCell]);have HW:=za d;have C:p+1<=s.size:=by omega
     have Ws:Hid (((j+1:Nat):Int)=(j:Int)+1):=za (by omega);clear DQ d rl;have HI:Hid (∀(V:World) (i:Int),i=(((p+1):Nat):Int)->Calls prog 36 #[.string s,.int .i64 i,.int .i64 ((deep+1:Nat):Int)] V fun e w'=>mn s V (aL f (s.data.toList.drop ((p+1)))) e w'):=za (fun V i hi=>by subst hi;exact IH.out s ((p+1)) V C hs);have E9:Hid ((deep:Int)+1=((deep+1:Nat):Int)):=za (by omega);go_wp2_with fail
     rw[E9.out];refine(HI.out _ _ (by first|rfl|omega)).mono ?_;rintro e U E;rw[HW.out]at E;obtain⟨T,Y⟩:∃T,Hid (aL f (s.data.toList.drop ((p+1)))=T):=⟨_,za rfl⟩
     rw[Y.out]at E;have Md:=U4.out;cases T with
     |none=>
      obtain⟨c,v0,v1,rfl⟩:=E;have K:=za (oy.out.none Y.out);have Om:=c.size;have kW:w.heap.size<U.heap.size:=by omega
      have Z:=za (Bl.out.trans (c.mono (by omega)));clear u x B A jW jY jX j5 N G R M F H J S;obtain⟨u,x,B,A,jW,jY,jX,j5⟩:=aN (Oz.out.ag c (by omega));clear c Md;go_wp2;refine zk (v:=bL 0 0) (by simp[bL,results,zT,go_sem,u,x,B,A,zA,kW]) rfl ?_;rw[K.out];refine⟨?_,0,0,rfl⟩;exact(((((Z.out.setCell (by simp) _).setCell (by simp) _).setCell (by simp) _).setCell (by simp) _).alloc (by simp[World.setCell];omega) _)
     |some z=>
      obtain⟨y,ah⟩:=z;obtain⟨c,c0,c1,c2,c3,rfl,hy⟩:=E;obtain⟨HN,qV,Kj⟩:=oy.out.some C Y.out;have Bn:=za HN;have Om:=c.size;have Mb:=za (Wr.out.ag c (by omega));have ad:=za (Oz.out.ag c (by omega));have ab:=za (O2.out.below c);have Z:=za (Bl.out.trans (c.mono (by omega)));have jS:=O2.out.ge;have HY:Hid (∀o o',fE ((U.alloc o).alloc o') (fun k=>w.heap.size+2<=k/\(Value.slice O 0 I).ownBlock≠some k) y c0 c1 c2 c3):=za (by
       intro o o';refine fE.ag ?_ ?_ y hy
       ·intro k X hS;have hS:W.heap.size<=k:=hS;exact⟨by omega,fun e=>by have:=(jS k e).2;omega⟩
       intro q C _;rw[zA _ _ _ (by rw[zp];omega),zA _ _ _ C])
      have kW:w.heap.size<U.heap.size:=by omega
      have ss:w.heap.size+1<U.heap.size:=by omega
      have Cx:=za jS;obtain⟨AA,mc,rfl,rfl,rfl,rfl,_⟩:=hy.open_;clear u x B A jW jY jX j5 N G R M F H J S hy HN jS c Md;obtain⟨N,G,R,M,F,H,J,S⟩:=aN Mb.out;generalize s.size-ah.length=pq at*;go_wp2_with (at_builtin;refine cD (by rfl) (.tmp 181) (.tmp 183) (by rfl) (w.heap.size+2) [] (by rfl) ((ab.out.below ((zl _ _).alloc (zg _) _)).below ((zl _ _).alloc (zg _) _)) y (HY.out _ _) _ (by rfl) (by simp) (by simp) (by simp) (by simp) (by first|omega|simp) (by simp only[zp];omega) ?_)
      intro n m r l OR kE D ox;have wV:∀k,k<w.heap.size+2->(Value.slice O 0 I).ownBlock≠some k:=fun k X e=>by
       have:=(Cx.out k e).1;omega
      have Hd:=za (((Mb.out.alloc _).alloc _).grown D (wV _ (by omega)));have ag:=za (((ad.out.alloc _).alloc _).grown D (wV _ (by omega)));have fL:Hid (Below w.heap.size w l):=za (((Z.out.alloc (by omega) _).alloc (by simp;omega) _).grown D (by simp;omega) (fun k X=>by have:=(Cx.out k X).1;omega));have El:=D.size;simp only[zp]at El;have ai:=za kE;clear N G R M F H J S D kE wV;obtain⟨N,G,R,M,F,H,J,S⟩:=aN Hd.out;go_wp2;go_roundw
      case rel=>
       have key:∃(p:Nat) (acc:List Ty) (j:Nat) (vv:Value),p<=s.size/\Value.int .i64 (pq:Int)= .int .i64 p/\Hid (eT f s aa p acc j)/\acc.length<=p/\j<=p/\af (l.setCell ⟨w.heap.size+1,2,none⟩ (.slice (some ⟨n,0,none⟩) m r)) w.heap.size 43 #[.int .i64 0,.int .i64 0,.slice none 0 0,.int .i64 0]/\af (l.setCell ⟨w.heap.size+1,2,none⟩ (.slice (some ⟨n,0,none⟩) m r)) (w.heap.size+1) 43 #[.int .i64 5,.int .i64 0,vv,.int .i64 j]/\eQ (l.setCell ⟨w.heap.size+1,2,none⟩ (.slice (some ⟨n,0,none⟩) m r)) (w.heap.size+2) acc vv/\Below w.heap.size w (l.setCell ⟨w.heap.size+1,2,none⟩ (.slice (some ⟨n,0,none⟩) m r))/\w.heap.size+2<=(l.setCell ⟨w.heap.size+1,2,none⟩ (.slice (some ⟨n,0,none⟩) m r)).heap.size:=by
        refine⟨pq,[]++ [y],(j+1),.slice (some ⟨n,0,none⟩) m r,Kj,rfl,Bn, ?_,by omega,ag.out.dS (by simp) _, ?_, ?_,fL.out.setCell (by simp) _, ?_⟩
        ·simp only[zj,zy,zL]at al⊢;omega
        ·rw[Ws.out];exact Hd.out.store rfl
        ·exact ai.out.only ((ae.refl [w.heap.size+1] l).setCell (p:=⟨w.heap.size+1,2,none⟩) (by simp) _) (by simp)
        simp[World.setCell];omega
       first|exact key|((repeat apply Exists.intro);exact⟨key,rfl⟩)
      case measure=>simp[intOf];omega
    have e8:((s[p].toNat:Int)==63)=false:=zm.2 (by omega);have Af:Hid (∀C:p<s.size,s[p].toNat≠63):=za (fun _=>DQ);clear DQ;by_cases Sp:0<j
    ·have K:=za (rl.out.none_ Af.out Sp);go_wp2;refine zk (v:=bL 0 0) (by simp[bL,results,zT,go_sem,u,x,B,A]) rfl ?_;rw[K.out];exact⟨(((HB.out.setCell (by simp) _).setCell (by simp) _).setCell (by simp) _).setCell (by simp) _,0,0,rfl⟩
    obtain rfl:j=0:=by omega
    have oy:=za (rl.out.plain Af.out);obtain⟨W,d⟩:∃W,wr=W:=⟨_,rfl⟩
    have Wr:Hid (af W (w.heap.size+1) 43 #[.int .i64 5,.int .i64 0,.slice O 0 I,.int .i64 0]):=za (by rw[<-d];exact Ac.out);have Oz:Hid (af W w.heap.size 43 #[.int .i64 0,.int .i64 0,.slice none 0 0,.int .i64 0]):=za (by rw[<-d];exact tX.out);have O2:Hid (eQ W (w.heap.size+2) [] (.slice O 0 I)):=za (by rw[<-d];exact kU.out);have Bl:Hid (Below w.heap.size w W):=za (by rw[<-d];exact HB.out);have U4:Hid (W.heap.size=wr.heap.size):=za (by rw[<-d]);have HW:=za d;have C:p<=s.size:=by omega
    have Ws:Hid (((0:Nat):Int)=(0:Int)):=za rfl;clear d rl Af;have HI:Hid (∀(V:World) (i:Int),i=(((p):Nat):Int)->Calls prog 36 #[.string s,.int .i64 i,.int .i64 ((deep+1:Nat):Int)] V fun e w'=>mn s V (aL f (s.data.toList.drop ((p)))) e w'):=za (fun V i hi=>by subst hi;exact IH.out s ((p)) V C hs);have E9:Hid ((deep:Int)+1=((deep+1:Nat):Int)):=za (by omega);go_wp2_with fail
    rw[E9.out];refine(HI.out _ _ (by first|rfl|omega)).mono ?_;rintro e U E;rw[HW.out]at E;obtain⟨T,Y⟩:∃T,Hid (aL f (s.data.toList.drop ((p)))=T):=⟨_,za rfl⟩
    rw[Y.out]at E;have Md:=U4.out;cases T with
    |none=>
     obtain⟨c,v0,v1,rfl⟩:=E;have K:=za (oy.out.none Y.out);have Om:=c.size;have kW:w.heap.size<U.heap.size:=by omega
     have Z:=za (Bl.out.trans (c.mono (by omega)));clear u x B A jW jY jX j5 N G R M F H J S;obtain⟨u,x,B,A,jW,jY,jX,j5⟩:=aN (Oz.out.ag c (by omega));clear c Md;go_wp2;refine zk (v:=bL 0 0) (by simp[bL,results,zT,go_sem,u,x,B,A,zA,kW]) rfl ?_;rw[K.out];refine⟨?_,0,0,rfl⟩;exact(((((Z.out.setCell (by simp) _).setCell (by simp) _).setCell (by simp) _).setCell (by simp) _).alloc (by simp[World.setCell];omega) _)
    |some z=>
     obtain⟨y,ah⟩:=z;obtain⟨c,c0,c1,c2,c3,rfl,hy⟩:=E;obtain⟨HN,qV,Kj⟩:=oy.out.some C Y.out;have Bn:=za HN;have Om:=c.size;have Mb:=za (Wr.out.ag c (by omega));have ad:=za (Oz.out.ag c (by omega));have ab:=za (O2.out.below c);have Z:=za (Bl.out.trans (c.mono (by omega)));have jS:=O2.out.ge;have HY:Hid (∀o o',fE ((U.alloc o).alloc o') (fun k=>w.heap.size+2<=k/\(Value.slice O 0 I).ownBlock≠some k) y c0 c1 c2 c3):=za (by
      intro o o';refine fE.ag ?_ ?_ y hy
      ·intro k X hS;have hS:W.heap.size<=k:=hS;exact⟨by omega,fun e=>by have:=(jS k e).2;omega⟩
      intro q C _;rw[zA _ _ _ (by rw[zp];omega),zA _ _ _ C])
     have kW:w.heap.size<U.heap.size:=by omega
     have ss:w.heap.size+1<U.heap.size:=by omega
     have Cx:=za jS;obtain⟨AA,mc,rfl,rfl,rfl,rfl,_⟩:=hy.open_;clear u x B A jW jY jX j5 N G R M F H J S hy HN jS c Md;obtain⟨N,G,R,M,F,H,J,S⟩:=aN Mb.out;generalize s.size-ah.length=pq at*;go_wp2_with (at_builtin;refine cD (by rfl) (.tmp 181) (.tmp 183) (by rfl) (w.heap.size+2) [] (by rfl) ((ab.out.below ((zl _ _).alloc (zg _) _)).below ((zl _ _).alloc (zg _) _)) y (HY.out _ _) _ (by rfl) (by simp) (by simp) (by simp) (by simp) (by first|omega|simp) (by simp only[zp];omega) ?_)
     intro n m r l OR kE D ox;have wV:∀k,k<w.heap.size+2->(Value.slice O 0 I).ownBlock≠some k:=fun k X e=>by
      have:=(Cx.out k e).1;omega
     have Hd:=za (((Mb.out.alloc _).alloc _).grown D (wV _ (by omega)));have ag:=za (((ad.out.alloc _).alloc _).grown D (wV _ (by omega)));have fL:Hid (Below w.heap.size w l):=za (((Z.out.alloc (by omega) _).alloc (by simp;omega) _).grown D (by simp;omega) (fun k X=>by have:=(Cx.out k X).1;omega));have El:=D.size;simp only[zp]at El;have ai:=za kE;clear N G R M F H J S D kE wV;obtain⟨N,G,R,M,F,H,J,S⟩:=aN Hd.out;go_wp2;go_roundw
     case rel=>
      have key:∃(p:Nat) (acc:List Ty) (j:Nat) (vv:Value),p<=s.size/\Value.int .i64 (pq:Int)= .int .i64 p/\Hid (eT f s aa p acc j)/\acc.length<=p/\j<=p/\af (l.setCell ⟨w.heap.size+1,2,none⟩ (.slice (some ⟨n,0,none⟩) m r)) w.heap.size 43 #[.int .i64 0,.int .i64 0,.slice none 0 0,.int .i64 0]/\af (l.setCell ⟨w.heap.size+1,2,none⟩ (.slice (some ⟨n,0,none⟩) m r)) (w.heap.size+1) 43 #[.int .i64 5,.int .i64 0,vv,.int .i64 j]/\eQ (l.setCell ⟨w.heap.size+1,2,none⟩ (.slice (some ⟨n,0,none⟩) m r)) (w.heap.size+2) acc vv/\Below w.heap.size w (l.setCell ⟨w.heap.size+1,2,none⟩ (.slice (some ⟨n,0,none⟩) m r))/\w.heap.size+2<=(l.setCell ⟨w.heap.size+1,2,none⟩ (.slice (some ⟨n,0,none⟩) m r)).heap.size:=by
       refine⟨pq,[]++ [y],0,.slice (some ⟨n,0,none⟩) m r,Kj,rfl,Bn, ?_,by omega,ag.out.dS (by simp) _, ?_, ?_,fL.out.setCell (by simp) _, ?_⟩
       ·simp only[zj,zy,zL]at al⊢;omega
       ·rw[Ws.out];exact Hd.out.store rfl
       ·exact ai.out.only ((ae.refl [w.heap.size+1] l).setCell (p:=⟨w.heap.size+1,2,none⟩) (by simp) _) (by simp)
       simp[World.setCell];omega
      first|exact key|((repeat apply Exists.intro);exact⟨key,rfl⟩)
     case measure=>simp[intOf];omega
   have oV:0<n2:=by
    rw[JW.out];cases acc with
    |nil=>exact absurd rfl ha
    |cons a b=>simp
   by_cases tS:s[p].toNat=44
   ·have e7:((s[p].toNat:Int) !=44)=false:=by simp[tS]
    have rl:=za (hrel.out.more ak tS ha);clear jd ha tS;by_cases Bi:(p+1)<s.size
    ·by_cases DQ:s[(p+1)].toNat=63
     ·have e8:((s[(p+1)].toNat:Int)==63)=true:=by simp[DQ]
      have oy:=za (rl.out.mark Bi DQ);obtain⟨W,d⟩:∃W,wr.setCell ⟨w.heap.size+1,3,none⟩ (.int .i64 ((j:Int)+1))=W:=⟨_,rfl⟩
      have Wr:Hid (af W (w.heap.size+1) 43 #[.int .i64 5,.int .i64 0,.slice O n2 I,.int .i64 ((j:Int)+1)]):=za (by rw[<-d];exact Ac.out.store rfl);have Oz:Hid (af W w.heap.size 43 #[.int .i64 0,.int .i64 0,.slice none 0 0,.int .i64 0]):=za (by rw[<-d];exact tX.out.dS (by simp) _);have O2:Hid (eQ W (w.heap.size+2) acc (.slice O n2 I)):=za (by rw[<-d];exact kU.out.only ((ae.refl [w.heap.size+1] wr).setCell (by simp) _) (by simp));have Bl:Hid (Below w.heap.size w W):=za (by rw[<-d];exact HB.out.setCell (by simp) _);have U4:Hid (W.heap.size=wr.heap.size):=za (by rw[<-d];simp[World.setCell]);have HW:=za d;have C:(p+1)+1<=s.size:=by omega
      have Ws:Hid (((j+1:Nat):Int)=(j:Int)+1):=za (by omega);clear DQ d rl;have HI:Hid (∀(V:World) (i:Int),i=((((p+1)+1):Nat):Int)->Calls prog 36 #[.string s,.int .i64 i,.int .i64 ((deep+1:Nat):Int)] V fun e w'=>mn s V (aL f (s.data.toList.drop (((p+1)+1)))) e w'):=za (fun V i hi=>by subst hi;exact IH.out s (((p+1)+1)) V C hs);have E9:Hid ((deep:Int)+1=((deep+1:Nat):Int)):=za (by omega);go_wp2_with fail
      rw[E9.out];refine(HI.out _ _ (by first|rfl|omega)).mono ?_;rintro e U E;rw[HW.out]at E;obtain⟨T,Y⟩:∃T,Hid (aL f (s.data.toList.drop (((p+1)+1)))=T):=⟨_,za rfl⟩
      rw[Y.out]at E;have Md:=U4.out;cases T with
      |none=>
       obtain⟨c,v0,v1,rfl⟩:=E;have K:=za (oy.out.none Y.out);have Om:=c.size;have kW:w.heap.size<U.heap.size:=by omega
       have Z:=za (Bl.out.trans (c.mono (by omega)));clear u x B A jW jY jX j5 N G R M F H J S;obtain⟨u,x,B,A,jW,jY,jX,j5⟩:=aN (Oz.out.ag c (by omega));clear c Md;go_wp2;refine zk (v:=bL 0 0) (by simp[bL,results,zT,go_sem,u,x,B,A,zA,kW]) rfl ?_;rw[K.out];refine⟨?_,0,0,rfl⟩;exact(((((Z.out.setCell (by simp) _).setCell (by simp) _).setCell (by simp) _).setCell (by simp) _).alloc (by simp[World.setCell];omega) _)
      |some z=>
       obtain⟨y,ah⟩:=z;obtain⟨c,c0,c1,c2,c3,rfl,hy⟩:=E;obtain⟨HN,qV,Kj⟩:=oy.out.some C Y.out;have Bn:=za HN;have Om:=c.size;have Mb:=za (Wr.out.ag c (by omega));have ad:=za (Oz.out.ag c (by omega));have ab:=za (O2.out.below c);have Z:=za (Bl.out.trans (c.mono (by omega)));have jS:=O2.out.ge;have HY:Hid (∀o o',fE ((U.alloc o).alloc o') (fun k=>w.heap.size+2<=k/\(Value.slice O n2 I).ownBlock≠some k) y c0 c1 c2 c3):=za (by
        intro o o';refine fE.ag ?_ ?_ y hy
        ·intro k X hS;have hS:W.heap.size<=k:=hS;exact⟨by omega,fun e=>by have:=(jS k e).2;omega⟩
        intro q C _;rw[zA _ _ _ (by rw[zp];omega),zA _ _ _ C])
       have kW:w.heap.size<U.heap.size:=by omega
       have ss:w.heap.size+1<U.heap.size:=by omega
       have Cx:=za jS;obtain⟨AA,mc,rfl,rfl,rfl,rfl,_⟩:=hy.open_;clear u x B A jW jY jX j5 N G R M F H J S hy HN jS c Md;obtain⟨N,G,R,M,F,H,J,S⟩:=aN Mb.out;generalize s.size-ah.length=pq at*;go_wp2_with (at_builtin;refine cD (by rfl) (.tmp 181) (.tmp 183) (by rfl) (w.heap.size+2) acc (by rfl) ((ab.out.below ((zl _ _).alloc (zg _) _)).below ((zl _ _).alloc (zg _) _)) y (HY.out _ _) _ (by rfl) (by simp) (by simp) (by simp) (by simp) (by first|omega|simp) (by simp only[zp];omega) ?_)
       intro n m r l OR kE D ox;have wV:∀k,k<w.heap.size+2->(Value.slice O n2 I).ownBlock≠some k:=fun k X e=>by
        have:=(Cx.out k e).1;omega
       have Hd:=za (((Mb.out.alloc _).alloc _).grown D (wV _ (by omega)));have ag:=za (((ad.out.alloc _).alloc _).grown D (wV _ (by omega)));have fL:Hid (Below w.heap.size w l):=za (((Z.out.alloc (by omega) _).alloc (by simp;omega) _).grown D (by simp;omega) (fun k X=>by have:=(Cx.out k X).1;omega));have El:=D.size;simp only[zp]at El;have ai:=za kE;clear N G R M F H J S D kE wV;obtain⟨N,G,R,M,F,H,J,S⟩:=aN Hd.out;go_wp2;go_roundw
       case rel=>
        have key:∃(p:Nat) (acc:List Ty) (j:Nat) (vv:Value),p<=s.size/\Value.int .i64 (pq:Int)= .int .i64 p/\Hid (eT f s aa p acc j)/\acc.length<=p/\j<=p/\af (l.setCell ⟨w.heap.size+1,2,none⟩ (.slice (some ⟨n,0,none⟩) m r)) w.heap.size 43 #[.int .i64 0,.int .i64 0,.slice none 0 0,.int .i64 0]/\af (l.setCell ⟨w.heap.size+1,2,none⟩ (.slice (some ⟨n,0,none⟩) m r)) (w.heap.size+1) 43 #[.int .i64 5,.int .i64 0,vv,.int .i64 j]/\eQ (l.setCell ⟨w.heap.size+1,2,none⟩ (.slice (some ⟨n,0,none⟩) m r)) (w.heap.size+2) acc vv/\Below w.heap.size w (l.setCell ⟨w.heap.size+1,2,none⟩ (.slice (some ⟨n,0,none⟩) m r))/\w.heap.size+2<=(l.setCell ⟨w.heap.size+1,2,none⟩ (.slice (some ⟨n,0,none⟩) m r)).heap.size:=by
         refine⟨pq,acc++ [y],(j+1),.slice (some ⟨n,0,none⟩) m r,Kj,rfl,Bn, ?_,by omega,ag.out.dS (by simp) _, ?_, ?_,fL.out.setCell (by simp) _, ?_⟩
         ·simp only[zj,zy,zL]at al⊢;omega
         ·rw[Ws.out];exact Hd.out.store rfl
         ·exact ai.out.only ((ae.refl [w.heap.size+1] l).setCell (p:=⟨w.heap.size+1,2,none⟩) (by simp) _) (by simp)
         simp[World.setCell];omega
        first|exact key|((repeat apply Exists.intro);exact⟨key,rfl⟩)
       case measure=>simp[intOf];omega
     have e8:((s[(p+1)].toNat:Int)==63)=false:=zm.2 (by omega);have Af:Hid (∀C:(p+1)<s.size,s[(p+1)].toNat≠63):=za (fun _=>DQ);clear DQ;by_cases Sp:0<j
     ·have K:=za (rl.out.none_ Af.out Sp);go_wp2;refine zk (v:=bL 0 0) (by simp[bL,results,zT,go_sem,u,x,B,A]) rfl ?_;rw[K.out];exact⟨(((HB.out.setCell (by simp) _).setCell (by simp) _).setCell (by simp) _).setCell (by simp) _,0,0,rfl⟩
     obtain rfl:j=0:=by omega
     have oy:=za (rl.out.plain Af.out);obtain⟨W,d⟩:∃W,wr=W:=⟨_,rfl⟩
     have Wr:Hid (af W (w.heap.size+1) 43 #[.int .i64 5,.int .i64 0,.slice O n2 I,.int .i64 0]):=za (by rw[<-d];exact Ac.out);have Oz:Hid (af W w.heap.size 43 #[.int .i64 0,.int .i64 0,.slice none 0 0,.int .i64 0]):=za (by rw[<-d];exact tX.out);have O2:Hid (eQ W (w.heap.size+2) acc (.slice O n2 I)):=za (by rw[<-d];exact kU.out);have Bl:Hid (Below w.heap.size w W):=za (by rw[<-d];exact HB.out);have U4:Hid (W.heap.size=wr.heap.size):=za (by rw[<-d]);have HW:=za d;have C:(p+1)<=s.size:=by omega
     have Ws:Hid (((0:Nat):Int)=(0:Int)):=za rfl;clear d rl Af;have HI:Hid (∀(V:World) (i:Int),i=((((p+1)):Nat):Int)->Calls prog 36 #[.string s,.int .i64 i,.int .i64 ((deep+1:Nat):Int)] V fun e w'=>mn s V (aL f (s.data.toList.drop (((p+1))))) e w'):=za (fun V i hi=>by subst hi;exact IH.out s (((p+1))) V C hs);have E9:Hid ((deep:Int)+1=((deep+1:Nat):Int)):=za (by omega);go_wp2_with fail
     rw[E9.out];refine(HI.out _ _ (by first|rfl|omega)).mono ?_;rintro e U E;rw[HW.out]at E;obtain⟨T,Y⟩:∃T,Hid (aL f (s.data.toList.drop (((p+1))))=T):=⟨_,za rfl⟩
     rw[Y.out]at E;have Md:=U4.out;cases T with
     |none=>
      obtain⟨c,v0,v1,rfl⟩:=E;have K:=za (oy.out.none Y.out);have Om:=c.size;have kW:w.heap.size<U.heap.size:=by omega
      have Z:=za (Bl.out.trans (c.mono (by omega)));clear u x B A jW jY jX j5 N G R M F H J S;obtain⟨u,x,B,A,jW,jY,jX,j5⟩:=aN (Oz.out.ag c (by omega));clear c Md;go_wp2;refine zk (v:=bL 0 0) (by simp[bL,results,zT,go_sem,u,x,B,A,zA,kW]) rfl ?_;rw[K.out];refine⟨?_,0,0,rfl⟩;exact(((((Z.out.setCell (by simp) _).setCell (by simp) _).setCell (by simp) _).setCell (by simp) _).alloc (by simp[World.setCell];omega) _)
     |some z=>
      obtain⟨y,ah⟩:=z;obtain⟨c,c0,c1,c2,c3,rfl,hy⟩:=E;obtain⟨HN,qV,Kj⟩:=oy.out.some C Y.out;have Bn:=za HN;have Om:=c.size;have Mb:=za (Wr.out.ag c (by omega));have ad:=za (Oz.out.ag c (by omega));have ab:=za (O2.out.below c);have Z:=za (Bl.out.trans (c.mono (by omega)));have jS:=O2.out.ge;have HY:Hid (∀o o',fE ((U.alloc o).alloc o') (fun k=>w.heap.size+2<=k/\(Value.slice O n2 I).ownBlock≠some k) y c0 c1 c2 c3):=za (by
       intro o o';refine fE.ag ?_ ?_ y hy
       ·intro k X hS;have hS:W.heap.size<=k:=hS;exact⟨by omega,fun e=>by have:=(jS k e).2;omega⟩
       intro q C _;rw[zA _ _ _ (by rw[zp];omega),zA _ _ _ C])
      have kW:w.heap.size<U.heap.size:=by omega
      have ss:w.heap.size+1<U.heap.size:=by omega
      have Cx:=za jS;obtain⟨AA,mc,rfl,rfl,rfl,rfl,_⟩:=hy.open_;clear u x B A jW jY jX j5 N G R M F H J S hy HN jS c Md;obtain⟨N,G,R,M,F,H,J,S⟩:=aN Mb.out;generalize s.size-ah.length=pq at*;go_wp2_with (at_builtin;refine cD (by rfl) (.tmp 181) (.tmp 183) (by rfl) (w.heap.size+2) acc (by rfl) ((ab.out.below ((zl _ _).alloc (zg _) _)).below ((zl _ _).alloc (zg _) _)) y (HY.out _ _) _ (by rfl) (by simp) (by simp) (by simp) (by simp) (by first|omega|simp) (by simp only[zp];omega) ?_)
      intro n m r l OR kE D ox;have wV:∀k,k<w.heap.size+2->(Value.slice O n2 I).ownBlock≠some k:=fun k X e=>by
       have:=(Cx.out k e).1;omega
      have Hd:=za (((Mb.out.alloc _).alloc _).grown D (wV _ (by omega)));have ag:=za (((ad.out.alloc _).alloc _).grown D (wV _ (by omega)));have fL:Hid (Below w.heap.size w l):=za (((Z.out.alloc (by omega) _).alloc (by simp;omega) _).grown D (by simp;omega) (fun k X=>by have:=(Cx.out k X).1;omega));have El:=D.size;simp only[zp]at El;have ai:=za kE;clear N G R M F H J S D kE wV;obtain⟨N,G,R,M,F,H,J,S⟩:=aN Hd.out;go_wp2;go_roundw
      case rel=>
       have key:∃(p:Nat) (acc:List Ty) (j:Nat) (vv:Value),p<=s.size/\Value.int .i64 (pq:Int)= .int .i64 p/\Hid (eT f s aa p acc j)/\acc.length<=p/\j<=p/\af (l.setCell ⟨w.heap.size+1,2,none⟩ (.slice (some ⟨n,0,none⟩) m r)) w.heap.size 43 #[.int .i64 0,.int .i64 0,.slice none 0 0,.int .i64 0]/\af (l.setCell ⟨w.heap.size+1,2,none⟩ (.slice (some ⟨n,0,none⟩) m r)) (w.heap.size+1) 43 #[.int .i64 5,.int .i64 0,vv,.int .i64 j]/\eQ (l.setCell ⟨w.heap.size+1,2,none⟩ (.slice (some ⟨n,0,none⟩) m r)) (w.heap.size+2) acc vv/\Below w.heap.size w (l.setCell ⟨w.heap.size+1,2,none⟩ (.slice (some ⟨n,0,none⟩) m r))/\w.heap.size+2<=(l.setCell ⟨w.heap.size+1,2,none⟩ (.slice (some ⟨n,0,none⟩) m r)).heap.size:=by
        refine⟨pq,acc++ [y],0,.slice (some ⟨n,0,none⟩) m r,Kj,rfl,Bn, ?_,by omega,ag.out.dS (by simp) _, ?_, ?_,fL.out.setCell (by simp) _, ?_⟩
        ·simp only[zj,zy,zL]at al⊢;omega
        ·rw[Ws.out];exact Hd.out.store rfl
        ·exact ai.out.only ((ae.refl [w.heap.size+1] l).setCell (p:=⟨w.heap.size+1,2,none⟩) (by simp) _) (by simp)
        simp[World.setCell];omega
       first|exact key|((repeat apply Exists.intro);exact⟨key,rfl⟩)
      case measure=>simp[intOf];omega
    have Af:Hid (∀C:(p+1)<s.size,s[(p+1)].toNat≠63):=za (fun h=>absurd h Bi);by_cases Sp:0<j
    ·have K:=za (rl.out.none_ Af.out Sp);go_wp2;refine zk (v:=bL 0 0) (by simp[bL,results,zT,go_sem,u,x,B,A]) rfl ?_;rw[K.out];exact⟨(((HB.out.setCell (by simp) _).setCell (by simp) _).setCell (by simp) _).setCell (by simp) _,0,0,rfl⟩
    obtain rfl:j=0:=by omega
    have oy:=za (rl.out.plain Af.out);obtain⟨W,d⟩:∃W,wr=W:=⟨_,rfl⟩
    have Wr:Hid (af W (w.heap.size+1) 43 #[.int .i64 5,.int .i64 0,.slice O n2 I,.int .i64 0]):=za (by rw[<-d];exact Ac.out);have Oz:Hid (af W w.heap.size 43 #[.int .i64 0,.int .i64 0,.slice none 0 0,.int .i64 0]):=za (by rw[<-d];exact tX.out);have O2:Hid (eQ W (w.heap.size+2) acc (.slice O n2 I)):=za (by rw[<-d];exact kU.out);have Bl:Hid (Below w.heap.size w W):=za (by rw[<-d];exact HB.out);have U4:Hid (W.heap.size=wr.heap.size):=za (by rw[<-d]);have HW:=za d;have C:(p+1)<=s.size:=by omega
    have Ws:Hid (((0:Nat):Int)=(0:Int)):=za rfl;clear d rl Af;have HI:Hid (∀(V:World) (i:Int),i=((((p+1)):Nat):Int)->Calls prog 36 #[.string s,.int .i64 i,.int .i64 ((deep+1:Nat):Int)] V fun e w'=>mn s V (aL f (s.data.toList.drop (((p+1))))) e w'):=za (fun V i hi=>by subst hi;exact IH.out s (((p+1))) V C hs);have E9:Hid ((deep:Int)+1=((deep+1:Nat):Int)):=za (by omega);go_wp2_with fail
    rw[E9.out];refine(HI.out _ _ (by first|rfl|omega)).mono ?_;rintro e U E;rw[HW.out]at E;have Y:Hid (aL f (s.data.toList.drop (((p+1))))=none):=za (by rw[zI (by simp;omega),Cd]);rw[Y.out]at E;have Md:=U4.out;obtain⟨c,v0,v1,rfl⟩:=E;have K:=za (oy.out.none Y.out);have Om:=c.size;have kW:w.heap.size<U.heap.size:=by omega
    have Z:=za (Bl.out.trans (c.mono (by omega)));clear u x B A jW jY jX j5 N G R M F H J S;obtain⟨u,x,B,A,jW,jY,jX,j5⟩:=aN (Oz.out.ag c (by omega));clear c Md;go_wp2;refine zk (v:=bL 0 0) (by simp[bL,results,zT,go_sem,u,x,B,A,zA,kW]) rfl ?_;rw[K.out];refine⟨?_,0,0,rfl⟩;exact(((((Z.out.setCell (by simp) _).setCell (by simp) _).setCell (by simp) _).setCell (by simp) _).alloc (by simp[World.setCell];omega) _)
   have e7:((s[p].toNat:Int) !=44)=true:=by simp;omega
   have K:=za (hrel.out.bad ak jd tS ha);clear jd ha tS;go_wp2;refine zk (v:=bL 0 0) (by simp[bL,results,zT,go_sem,u,x,B,A]) rfl ?_;rw[K.out];exact⟨(((HB.out.setCell (by simp) _).setCell (by simp) _).setCell (by simp) _).setCell (by simp) _,0,0,rfl⟩
  have K:=za (hrel.out.stop (by omega));go_wp2;refine zk (v:=bL 0 0) (by simp[bL,results,zT,go_sem,u,x,B,A]) rfl ?_;rw[K.out];exact⟨(((HB.out.setCell (by simp) _).setCell (by simp) _).setCell (by simp) _).setCell (by simp) _,0,0,rfl⟩
theorem NX :∀(f deep:Nat),deep+f=9->∀(s:ByteArray) (at_:Nat) (w:World),at_<=s.size->s.size<=100000->
 Calls prog 36 #[.string s,.int .i64 at_,.int .i64 deep] w fun e w'=>mn s w (aL f (s.data.toList.drop at_)) e w':=by
 intro f;induction f with
 |zero=>
  intro deep k s at_ w h i;have b:Hid (aL 0 (s.data.toList.drop at_)=none):=za rfl;generalize aL 0 (s.data.toList.drop at_)=R at*;have d:8<deep:=by omega
  clear k;by_cases j:at_<s.size
  ·go_enter yJ,yz
   go_wp2;refine zk (v:=bL 0 0) (by simp[bL,results,zT,go_sem,b]) rfl ?_;rw[b.out];exact⟨bD,0,0,rfl⟩
  go_enter yJ,yz
  go_wp2;refine zk (v:=bL 0 0) (by simp[bL,results,zT,go_sem,b]) rfl ?_;rw[b.out];exact⟨bD,0,0,rfl⟩
 |succ f ih=>
  intro deep k s at_ w h i;have l:=za (fun s at_ w=>ih (deep+1) (by omega) s at_ w);have d:deep<=8:=by omega
  clear ih k;obtain⟨R,c⟩:∃R,Hid (aL (f+1) (s.data.toList.drop at_)=R):=⟨_,za rfl⟩
  rw[c.out];by_cases j:at_<s.size
  ·by_cases m:s[at_].toNat=91
   ·exact Dq f deep d l s at_ w h i R c j m
   by_cases n:s[at_].toNat=123
   ·exact wA f deep d l s at_ w h i R c j n
   exact Gh f deep d l s at_ w h i R c j m n
  have b:Hid (R=none):=za (by rw[<-c.out,zI (by simp;omega),Cd]);clear c;go_enter yJ,yz
  go_wp2;refine zk (v:=bL 0 0) (by simp[bL,results,zT,go_sem,b]) rfl ?_;rw[b.out];exact⟨bD,0,0,rfl⟩
theorem s8 {p:List UInt8->Option (Ty×List UInt8)}(j:∀l y r,p l=some (y,r)->y.count+r.length<=l.length):∀n l acc i y r,fB p n l acc i=some (y,r)->y.count+r.length<=ba acc+l.length
 |0,_,_,_,_,_,h=>by simp[fB]at h
 |n+1,[],_,_,_,_,h=>by simp[fB]at h
 |n+1,c::l,acc,i,y,r,h=>by
  unfold fB at h;split at h
  ·injection h with h;injection h with b d;rw[<-b,<-d];simp[Ty.count];omega
  split at h
  ·cases h
  rename_i m b
  split at h
  ·cases h
  rename_i s u d
  split at h
  ·cases h
  rename_i o w k
  have k1:=(BI b).length_le;have k2:=(Kz d).length_le;have q:=j _ _ _ k;have e:=s8 j n _ _ _ _ _ h;rw[fN]at e;simp only[ba]at e;omega
theorem nI :∀(f:Nat) (l:List UInt8) (y:Ty) (r:List UInt8),aL f l=some (y,r)->y.count+r.length<=l.length
 |0,_,_,_,h=>by simp[aL]at h
 |f+1,[],_,_,h=>by simp[aL]at h
 |f+1,c::l,y,r,h=>by
  have e:=(gu _ _ _ _ h).2;have m:=gu _ _ _ _ h;unfold aL at h;split at h
  ·split at h
   ·cases h
   split at h
   ·injection h with h;injection h with b h2;subst b;simp[Ty.count,ba]at e⊢;omega
   cases h
  split at h
  ·split at h
   ·cases h
   injection h with h;injection h with b h2;subst b;simp[Ty.count,ba]at e⊢;omega
  split at h
  ·split at h
   ·cases h
   injection h with h;injection h with b h2;subst b;simp[Ty.count,ba]at e⊢;omega
  split at h
  ·split at h
   ·cases h
   rename_i x i b
   have k1:=nI f _ _ _ b;have k2:=BK h;have j:y.count=1+x.count:=by
    unfold gL at h;match i,h with
    |d::i,h=>
     simp only at h;split at h
     ·split at h
      ·cases h
      ·cases h
      split at h
      ·injection h with h;injection h with h3 h4;rw[<-h3];simp[Ty.count,ba]
      cases h
     cases h
   have:=k2.2;simp;omega
  split at h
  ·have k:=s8 (nI f) _ _ _ _ _ _ h;simp[ba]at k⊢;omega
  cases h
def VG :Option (Ty×List UInt8)->Option Ty
 |none=>none
 |some (x,[])=>if x.may then some x else none
 |some (_,_::_)=>none
theorem NY (l:List UInt8):cT l=VG (aL 8 l):=by
 unfold cT;rcases aL 8 l with _|⟨x,r⟩
 ·rfl
 cases r<;>rfl
theorem wC (s:ByteArray)(w:World)(i:s.size<=100000):
 Calls prog 13 #[.string s] w fun e w'=>FG w (cT s.data.toList) e w':=by
 have H:=za (NX 8 1 rfl s 0 (w.alloc (.cells #[.int .i64 0,.int .i64 0,.slice none 0 0,.int .i64 0] 43)) (yh _) i);obtain⟨T,J⟩:∃T,Hid (aL 8 s.data.toList=T):=⟨_,za rfl⟩
 rw[zJ,J.out]at H;obtain⟨R,S⟩:∃R,Hid (cT s.data.toList=R):=⟨_,za rfl⟩
 rw[S.out];have U:Hid (VG T=R):=za (by rw[<-S.out,NY,J.out]);clear S;cases T with
 |none=>
  have y:Hid (R=none):=za U.out.symm;go_enter func13,ntmps13
  go_wp2_with fail
  refine H.out.mono ?_;rintro e h ⟨b,v0,v1,rfl⟩;have d:=(af.new w 43 #[.int .i64 0,.int .i64 0,.slice none 0 0,.int .i64 0]).ag b (by simp);have N:=za d;obtain⟨l,o,j,n,I,M,F,G⟩:=aN d;have hz:=b.size;simp only[zp]at hz;have D:w.heap.size<h.heap.size:=by omega
  have C:Hid (Below w.heap.size w h):=za (((zl w.heap.size w).alloc (zg _) _).trans (b.mono (by simp)));clear b d;have n1:((-1:Int) !=(s.size:Int))=true:=by simp
  go_wp2;refine zk (v:= .tuple #[.agg #[.int .i64 0,.int .i64 0,.slice none 0 0,.int .i64 0],.int .i64 3]) (by simp[results,results13,go_sem,l,o,j,n,zA,D]) rfl ?_;rw[y.out];exact⟨(((((C.out.setCell (by simp) _).setCell (by simp) _).setCell (by simp) _).setCell (by simp) _).alloc (by simp[World.setCell];omega) _),rfl⟩
 |some z=>
  obtain⟨x,r⟩:=z;have O:=nI _ _ _ _ J.out;have E:=(gu _ _ _ _ J.out).2;rw[aa]at O E;cases r with
  |cons c r=>
   have y:Hid (R=none):=za U.out.symm;have n1:(((s.size-(c::r).length:Nat):Int) !=(s.size:Int))=true:=by simp at E⊢;omega
   have n2:((s.size-(c::r).length) !=s.size)=true:=by simp at E⊢;omega
   generalize s.size-(c::r).length=q at*;go_enter func13,ntmps13
   go_wp2_with fail
   refine H.out.mono ?_;rintro e h ⟨b,c0,c1,c2,c3,rfl,B⟩;obtain⟨u,p,rfl,rfl,rfl,rfl,_⟩:=B.open_;have d:=(af.new w 43 #[.int .i64 0,.int .i64 0,.slice none 0 0,.int .i64 0]).ag b (by simp);have N:=za d;obtain⟨l,o,j,n,I,M,F,G⟩:=aN d;have hz:=b.size;simp only[zp]at hz;have D:w.heap.size<h.heap.size:=by omega
   have C:Hid (Below w.heap.size w h):=za (((zl w.heap.size w).alloc (zg _) _).trans (b.mono (by simp)));clear b d;go_wp2;refine zk (v:= .tuple #[.agg #[.int .i64 0,.int .i64 0,.slice none 0 0,.int .i64 0],.int .i64 3]) (by simp[results,results13,go_sem,l,o,j,n,zA,D]) rfl ?_;rw[y.out];exact⟨(((((C.out.setCell (by simp) _).setCell (by simp) _).setCell (by simp) _).setCell (by simp) _).alloc (by simp[World.setCell];omega) _),rfl⟩
  |nil=>
   have n1:((s.size:Int) !=(s.size:Int))=false:=by simp
   have n2:(s.size !=s.size)=false:=by simp
   have ad:=za O;obtain⟨m,K⟩:∃m,x.may=m:=⟨_,rfl⟩
   have y:Hid (R=if m then some x else none):=za (by rw[<-K];exact U.out.symm);clear O E;go_enter func13,ntmps13
   go_wp2_with fail
   refine H.out.mono ?_;rintro e h ⟨b,c0,c1,c2,c3,rfl,B⟩;have X:=za B;obtain⟨u,p,rfl,rfl,rfl,rfl,_⟩:=B.open_;have d:=(af.new w 43 #[.int .i64 0,.int .i64 0,.slice none 0 0,.int .i64 0]).ag b (by simp);have N:=za d;obtain⟨l,o,j,n,I,M,F,G⟩:=aN d;have hz:=b.size;simp only[zp]at hz;have D:w.heap.size<h.heap.size:=by omega
   have C:Hid (Below w.heap.size w h):=za (((zl w.heap.size w).alloc (zg _) _).trans (b.mono (by simp)));clear b d;have kM:=fE.AM x (X.out.below ((zl _ _).alloc (zg _) (.cells #[.int .i64 x.kind,.int .i64 x.size,.slice u x.sub.length p,.int .i64 x.tail] 43)));have W:=za (De x _ (h.alloc (.cells #[.int .i64 x.kind,.int .i64 x.size,.slice u x.sub.length p,.int .i64 x.tail] 43)) _ _ _ _ kM (zg _) (by have:=ad.out;omega));rw[K]at W;have ae:=za K;clear kM K B;go_wp2_with fail
   refine W.out.mono ?_;rintro e w5 ⟨rfl,A⟩;clear l o j n I M F G;obtain⟨l,o,j,n,I,M,F,G⟩:=aN ((N.out.alloc _).ag A (by simp;omega));obtain⟨b0,b1,b2,b3,kQ,kP,kS,kR⟩:=aN ((af.new h 43 #[.int .i64 x.kind,.int .i64 x.size,.slice u x.sub.length p,.int .i64 x.tail]).ag A (by simp));have Y:Hid (Below w.heap.size w w5):=za ((C.out.alloc (by omega) _).trans (A.mono (by simp;omega)));have ab:=za ((X.out.below ((zl _ _).alloc (zg _) (.cells #[.int .i64 x.kind,.int .i64 x.size,.slice u x.sub.length p,.int .i64 x.tail] 43))).below A);clear A;cases m with
   |true=>
    go_wp2;refine zk (v:= .tuple #[.agg #[.int .i64 x.kind,.int .i64 x.size,.slice u x.sub.length p,.int .i64 x.tail],.int .i64 0]) (by simp[results,results13,go_sem,l,o,j,n]) rfl ?_;rw[y.out];refine⟨(((Y.out.setCell (by simp) _).setCell (by simp) _).setCell (by simp) _).setCell (by simp) _,_,_,_,_,rfl, ?_⟩;refine ab.out.only (L:= [w.heap.size]) CM ?_ ?_
    ·intro k Z i;have Z:k=w.heap.size:=by simpa using Z
     have i:(w.alloc (.cells #[.int .i64 0,.int .i64 0,.slice none 0 0,.int .i64 0] 43)).heap.size<=k:=i;simp at i;omega
    intro k _ i;have i:(w.alloc (.cells #[.int .i64 0,.int .i64 0,.slice none 0 0,.int .i64 0] 43)).heap.size<=k:=i;simp at i;show w.heap.size<=k
    omega
   |false=>
    go_wp2;refine zk (v:= .tuple #[.agg #[.int .i64 0,.int .i64 0,.slice none 0 0,.int .i64 0],.int .i64 3]) (by simp[results,results13,go_sem,l,o,j,n,zA,D]) rfl ?_;rw[y.out];exact⟨(((Y.out.setCell (by simp) _).setCell (by simp) _).setCell (by simp) _).setCell (by simp) _,rfl⟩
