/- The document's parse of types: numbers, and no type. -/
import Derived.Test.YtdbmifjankgfpaaGreatDoorKA36
set_option linter.all false
set_option maxRecDepth 100000
set_option maxHeartbeats 3200000
open Go.Proofs.Tryz
namespace Go.Proofs.YtdbmifjankgfpaaGreatDoor
open Go.RowKit
def zY:=@results36
def yB:=@ntmps36
def yJ:=@func36
theorem FY (f deep:Nat)(X:deep<=8)(O:Hid (∀(s:ByteArray) (at_:Nat) (w:World),at_<=s.size->s.size<=100000->
 Calls prog 36 #[.string s,.int .i64 at_,.int .i64 ((deep+1:Nat):Int)] w fun e w'=>mw s w (aL f (s.data.toList.drop at_)) e w')) (s:ByteArray) (at_:Nat) (w:World) (S:at_<=s.size) (I:s.size<=100000)
 (R:Option (Ty×List UInt8)) (D:Hid (aL (f+1) (s.data.toList.drop at_)=R)) (F:at_<s.size) (B:s[at_].toNat≠91) (E:s[at_].toNat≠123):
 Calls prog 36 #[.string s,.int .i64 at_,.int .i64 deep] w fun e w'=>mw s w R e w':=by
 have L:decide (s.size<=at_)=false:=by simp;omega
 have W:decide ((8:Int)<(deep:Int))=false:=by simp;omega
 have j:Hid (aL (f+1) (s[at_]::s.data.toList.drop (at_+1))=R):=za (by rw[<-drop_cons s at_ F];exact D.out);have h:=za (fun w=>pr s (at_+1) w (by omega) I);have H:Hid (((at_+1:Nat):Int)=(at_:Int)+1):=za (by omega);obtain⟨N,k⟩:∃N,Hid (cx (s.data.toList.drop (at_+1))=N):=⟨_,za rfl⟩
 rw[k.out,H.out]at h;clear D;by_cases hu:s[at_].toNat=117
 ·have J:((s[at_].toNat:Int)==117)=true:=by simp[hu]
  have b:Hid (AD N=R):=za (by rw[<-j.out,show s[at_]=117 from zS.1 hu,J',k.out]);clear hu j;cases N with
  |none=>
   have c:Hid (R=none):=za b.out.symm;clear b;go_enter yJ,yB
   go_wp2_with fail
   refine(h.out _).mono ?_;rintro e w' ⟨rfl,rfl⟩;simp only[eC];go_wp2;refine zj (v:=bJ 1 0) (by simp[bJ,results,zY,go_sem]) rfl ?_;rw[c.out];exact⟨bT,1,0,rfl⟩
  |some z=>
   obtain⟨n,r⟩:=z;obtain⟨m,u,y,C⟩:=pW (by omega) k.out;by_cases i:n%8=0
   ·have c:Hid (R=some (Ty.mk 1 ((n/8:Nat):Int) [] 0,r)):=za (by rw[<-b.out];simp[AD,i]);have A:((n:Int)%8 !=0)=false:=by simp;omega
    have o:Hid (((n/8:Nat):Int)=(n:Int)/8):=za (by omega);clear b i m;obtain⟨q,d⟩:∃q,s.size-r.length=q:=⟨_,rfl⟩
    have p:=za d;rw[d]at u y;go_enter yJ,yB
    go_wp2_with fail
    refine(h.out _).mono ?_;rintro e w' ⟨rfl,rfl⟩;simp only[eC,d];clear d;go_wp2;refine zj (v:= .tuple #[.agg #[.int .i64 1,.int .i64 ((n:Int)/8),.slice none 0 0,.int .i64 0],.int .i64 (q:Int)]) (by simp[results,zY,go_sem]) rfl ?_;rw[c.out];refine⟨bT,_,_,_,_,by rw[p.out], ?_⟩;first|exact fK.leaf (aC (by omega) (by omega)) (aC (by omega) (by omega)) (aC (by omega) (by omega))|(rw[o.out];exact fK.leaf (aC (by omega) (by omega)) (aC (by omega) (by omega)) (aC (by omega) (by omega)))
   have c:Hid (R=none):=za (by rw[<-b.out];simp[AD,i]);have A:((n:Int)%8 !=0)=true:=by simp;omega
   clear b i m;go_enter yJ,yB
   go_wp2_with fail
   refine(h.out _).mono ?_;rintro e w' ⟨rfl,rfl⟩;simp only[eC];go_wp2;refine zj (v:=bJ 0 0) (by simp[bJ,results,zY,go_sem,]) rfl ?_;rw[c.out];exact⟨bT,0,0,rfl⟩
 have J:((s[at_].toNat:Int)==117)=false:=zo.2 (by omega);have A:True:=trivial;by_cases l:s[at_].toNat=98
 ·have K:((s[at_].toNat:Int)==98)=true:=by simp[l]
  have b:Hid (tE 2 N=R):=za (by rw[<-j.out,show s[at_]=98 from zS.1 l,Ka,k.out]);clear hu l j;cases N with
  |none=>
   have c:Hid (R=none):=za b.out.symm;clear b;go_enter yJ,yB
   go_wp2_with fail
   refine(h.out _).mono ?_;rintro e w' ⟨rfl,rfl⟩;simp only[eC];go_wp2;refine zj (v:=bJ 2 0) (by simp[bJ,results,zY,go_sem]) rfl ?_;rw[c.out];exact⟨bT,2,0,rfl⟩
  |some z=>
   obtain⟨n,r⟩:=z;obtain⟨m,u,y,C⟩:=pW (by omega) k.out;have c:Hid (R=some (Ty.mk 2 (n:Int) [] 0,r)):=za b.out.symm;have i:True:=trivial;have o:Hid (((n/8:Nat):Int)=(n:Int)/8):=za (by omega);clear b i m;obtain⟨q,d⟩:∃q,s.size-r.length=q:=⟨_,rfl⟩
   have p:=za d;rw[d]at u y;go_enter yJ,yB
   go_wp2_with fail
   refine(h.out _).mono ?_;rintro e w' ⟨rfl,rfl⟩;simp only[eC,d];clear d;go_wp2;refine zj (v:= .tuple #[.agg #[.int .i64 2,.int .i64 (n:Int),.slice none 0 0,.int .i64 0],.int .i64 (q:Int)]) (by simp[results,zY,go_sem]) rfl ?_;rw[c.out];refine⟨bT,_,_,_,_,by rw[p.out], ?_⟩;first|exact fK.leaf (aC (by omega) (by omega)) (aC (by omega) (by omega)) (aC (by omega) (by omega))|(rw[o.out];exact fK.leaf (aC (by omega) (by omega)) (aC (by omega) (by omega)) (aC (by omega) (by omega)))
 have K:((s[at_].toNat:Int)==98)=false:=zo.2 (by omega);by_cases x:s[at_].toNat=115
 ·have G:((s[at_].toNat:Int)==115)=true:=by simp[x]
  have b:Hid (tE 3 N=R):=za (by rw[<-j.out,show s[at_]=115 from zS.1 x,Kb,k.out]);clear hu l x j;cases N with
  |none=>
   have c:Hid (R=none):=za b.out.symm;clear b;go_enter yJ,yB
   go_wp2_with fail
   refine(h.out _).mono ?_;rintro e w' ⟨rfl,rfl⟩;simp only[eC];go_wp2;refine zj (v:=bJ 3 0) (by simp[bJ,results,zY,go_sem]) rfl ?_;rw[c.out];exact⟨bT,3,0,rfl⟩
  |some z=>
   obtain⟨n,r⟩:=z;obtain⟨m,u,y,C⟩:=pW (by omega) k.out;have c:Hid (R=some (Ty.mk 3 (n:Int) [] 0,r)):=za b.out.symm;have i:True:=trivial;have o:Hid (((n/8:Nat):Int)=(n:Int)/8):=za (by omega);clear b i m;obtain⟨q,d⟩:∃q,s.size-r.length=q:=⟨_,rfl⟩
   have p:=za d;rw[d]at u y;go_enter yJ,yB
   go_wp2_with fail
   refine(h.out _).mono ?_;rintro e w' ⟨rfl,rfl⟩;simp only[eC,d];clear d;go_wp2;refine zj (v:= .tuple #[.agg #[.int .i64 3,.int .i64 (n:Int),.slice none 0 0,.int .i64 0],.int .i64 (q:Int)]) (by simp[results,zY,go_sem]) rfl ?_;rw[c.out];refine⟨bT,_,_,_,_,by rw[p.out], ?_⟩;first|exact fK.leaf (aC (by omega) (by omega)) (aC (by omega) (by omega)) (aC (by omega) (by omega))|(rw[o.out];exact fK.leaf (aC (by omega) (by omega)) (aC (by omega) (by omega)) (aC (by omega) (by omega)))
 have G:((s[at_].toNat:Int)==115)=false:=zo.2 (by omega);have U:((s[at_].toNat:Int)==91)=false:=zo.2 (by omega);have M:((s[at_].toNat:Int) !=123)=true:=by simp;omega
 have c:Hid (R=none):=za (by rw[<-j.out,EC _ _ _ hu l x B E]);clear hu l x B E j;go_enter yJ,yB
 go_wp2;refine zj (v:=bJ 0 0) (by simp[bJ,results,zY,go_sem,]) rfl ?_;rw[c.out];exact⟨bT,0,0,rfl⟩
theorem Dk (f deep:Nat)(ai:deep<=8)(IH:Hid (∀(s:ByteArray) (at_:Nat) (w:World),at_<=s.size->s.size<=100000->
 Calls prog 36 #[.string s,.int .i64 at_,.int .i64 ((deep+1:Nat):Int)] w fun e w'=>mw s w (aL f (s.data.toList.drop at_)) e w')) (s:ByteArray) (at_:Nat) (w:World) (du:at_<=s.size) (D:s.size<=100000)
 (R:Option (Ty×List UInt8)) (HR:Hid (aL (f+1) (s.data.toList.drop at_)=R)) (aE:at_<s.size) (Re:s[at_].toNat=91):
 Calls prog 36 #[.string s,.int .i64 at_,.int .i64 deep] w fun e w'=>mw s w R e w':=by
 have d1:decide (s.size<=at_)=false:=by simp;omega
 have d2:decide ((8:Int)<(deep:Int))=false:=by simp;omega
 have HC:Hid (aL (f+1) (s[at_]::s.data.toList.drop (at_+1))=R):=za (by rw[<-drop_cons s at_ aE];exact HR.out);have F:=za (fun w=>pr s (at_+1) w (by omega) D);have E8:Hid (((at_+1:Nat):Int)=(at_:Int)+1):=za (by omega);obtain⟨N,W⟩:∃N,Hid (cx (s.data.toList.drop (at_+1))=N):=⟨_,za rfl⟩
 rw[W.out,E8.out]at F;clear HR;have e1:((s[at_].toNat:Int)==117)=false:=zo.2 (by omega);have e2:((s[at_].toNat:Int)==98)=false:=zo.2 (by omega);have e3:((s[at_].toNat:Int)==115)=false:=zo.2 (by omega);have e4:((s[at_].toNat:Int)==91)=true:=by simp[Re]
 have Ar:Hid (uR (aL f (s.data.toList.drop (at_+1)))=R):=za (by rw[<-HC.out,show s[at_]=91 from zS.1 Re,Kc]);have E:=za (IH.out s (at_+1) (w.alloc (.cells #[.int .i64 0,.int .i64 0,.slice none 0 0,.int .i64 0] 43)) (by omega) D);have J:Hid ((deep:Int)+1=((deep+1:Nat):Int)):=za (by omega);obtain⟨T,HT⟩:∃T,Hid (aL f (s.data.toList.drop (at_+1))=T):=⟨_,za rfl⟩
 rw[HT.out]at Ar E;rw[E8.out]at E;clear Re HC F W;cases T with
 |none=>
  have j:Hid (R=none):=za Ar.out.symm;clear Ar;go_enter yJ,yB
  go_wp2_with fail
  rw[J.out];refine E.out.mono ?_;rintro e b ⟨c,v0,v1,rfl⟩;have h:=(af.new w 43 #[.int .i64 0,.int .i64 0,.slice none 0 0,.int .i64 0]).ag c (by simp);obtain⟨r,i,o,l,O,Y,U,S⟩:=aS h;have hz:=c.size;simp only[zq]at hz;have p:w.heap.size<b.heap.size:=by omega
  have K:w.heap.size<b.heap.size+1:=by omega
  have m:Hid (Below w.heap.size w b):=za (((zm w.heap.size w).alloc (zg _) _).trans (c.mono (by simp)));clear c h;go_wp2;refine zj (v:=bJ 0 0) (by simp[bJ,results,zY,go_sem,r,i,o,l,zA,p]) rfl ?_;rw[j.out];refine⟨?_,0,0,rfl⟩;exact(((((m.out.setCell (by simp) _).setCell (by simp) _).setCell (by simp) _).setCell (by simp) _).alloc (by simp[World.setCell];omega) _)
 |some z=>
  obtain⟨x,ab⟩:=z;obtain⟨k1,k2⟩:=gF _ _ _ _ HT.out;obtain⟨k3,k4⟩:=uU (by omega) k1;have k5:s.size-ab.length<=s.size:=by omega
  have JX:=za k3;obtain⟨q,hq⟩:∃q,s.size-ab.length=q:=⟨_,rfl⟩
  rw[hq]at k4 k5 JX;have X:=za hq;have M:Hid (gU x (s.data.toList.drop q)=R):=za (by rw[JX.out];exact Ar.out);clear Ar k1 k2 k3;by_cases Bl:q<s.size
  ·by_cases Z:s[q].toNat=58
   ·have f1:((s[q].toNat:Int) !=58)=false:=by simp[Z]
    obtain⟨N,W⟩:∃N,Hid (cx (s.data.toList.drop (q+1))=N):=⟨_,za rfl⟩
    have G:Hid (jg x N=R):=za (by rw[<-W.out,<-mY,<-M.out,drop_cons s q Bl,show s[q]=58 from zS.1 Z]);have F:=za (fun w=>pr s (q+1) w (by omega) D);have E7:Hid (((q+1:Nat):Int)=(q:Int)+1):=za (by omega);rw[W.out,E7.out]at F;clear M Z;cases N with
    |none=>
     have j:Hid (R=none):=za G.out.symm;clear G;go_enter yJ,yB
     go_wp2_with fail
     rw[J.out];refine E.out.mono ?_;rintro e b ⟨c,c0,c1,c2,c3,rfl,d⟩;rw[X.out];have h:=(af.new w 43 #[.int .i64 0,.int .i64 0,.slice none 0 0,.int .i64 0]).ag c (by simp);obtain⟨r,i,o,l,O,Y,U,S⟩:=aS h;have hz:=c.size;simp only[zq]at hz;have p:w.heap.size<b.heap.size:=by omega
     have K:w.heap.size<b.heap.size+1:=by omega
     have m:Hid (Below w.heap.size w b):=za (((zm w.heap.size w).alloc (zg _) _).trans (c.mono (by simp)));have u:=za d;simp only[zq]at u;obtain⟨I,H,rfl,rfl,rfl,rfl,B,A,C,_⟩:=d.open_;clear c h d B A C;go_wp2_with fail
     refine(F.out _).mono ?_;rintro e w' ⟨rfl,rfl⟩;simp only[eC];go_wp2;refine zj (v:=bJ 0 0) (by simp[bJ,results,zY,go_sem,r,i,o,l,zA,p]) rfl ?_;rw[j.out];refine⟨?_,0,0,rfl⟩;exact(((((m.out.setCell (by simp) _).setCell (by simp) _).setCell (by simp) _).setCell (by simp) _).alloc (by simp[World.setCell];omega) _)
    |some z2=>
     obtain⟨n,r2⟩:=z2;obtain⟨gJ,iH,DM,RQ⟩:=pW (by omega) W.out;obtain⟨y,aa⟩:∃y,s.size-r2.length=y:=⟨_,rfl⟩
     rw[aa]at gJ iH DM;have NY:=za aa;have ad:=za gJ;clear gJ;by_cases ah:y<s.size
     ·have rm:Hid (r2=s[y]::s.data.toList.drop (y+1)):=za (by rw[<-ad.out,drop_cons s y ah]);by_cases V0:s[y].toNat=93
      ·have f2:((s[y].toNat:Int) !=93)=false:=by simp[V0]
       have j:Hid (R=some (.mk 4 n [x] 0,s.data.toList.drop (y+1))):=za (by rw[<-G.out,rm.out];simp[jg,V0]);have ag:=za (tk s (y+1) (by omega));clear G V0;go_enter yJ,yB
       go_wp2_with fail
       rw[J.out];refine E.out.mono ?_;rintro e b ⟨c,c0,c1,c2,c3,rfl,d⟩;rw[X.out];have h:=(af.new w 43 #[.int .i64 0,.int .i64 0,.slice none 0 0,.int .i64 0]).ag c (by simp);obtain⟨r,i,o,l,O,Y,U,S⟩:=aS h;have hz:=c.size;simp only[zq]at hz;have p:w.heap.size<b.heap.size:=by omega
       have K:w.heap.size<b.heap.size+1:=by omega
       have m:Hid (Below w.heap.size w b):=za (((zm w.heap.size w).alloc (zg _) _).trans (c.mono (by simp)));have u:=za d;simp only[zq]at u;obtain⟨I,H,rfl,rfl,rfl,rfl,B,A,C,_⟩:=d.open_;clear c h d B A C;go_wp2_with fail
       refine(F.out _).mono ?_;rintro e w' ⟨rfl,rfl⟩;simp only[eC,NY.out];go_wp2;refine zj (v:= .tuple #[.agg #[.int .i64 4,.int .i64 n,.slice (some ⟨b.heap.size+1,0,none⟩) 1 1,.int .i64 0],.int .i64 ((y:Int)+1)]) (by simp[results,zY,go_sem,r,i,o,l,zA,p,K]) rfl ?_;rw[j.out];refine⟨((((((m.out.setCell (by simp) _).setCell (by simp) _).setCell (by simp) _).setCell (by simp) _).alloc (by simp[World.setCell];omega) _).alloc (by simp[World.setCell];omega) _),_,_,_,_,by rw[ag.out];go_num, ?_⟩;have kN:ae [w.heap.size] b ((((((b.setCell ⟨w.heap.size,0,none⟩ (.int .i64 4)).setCell ⟨w.heap.size,1,none⟩ (.int .i64 n)).setCell ⟨w.heap.size,2,none⟩ (.slice (some ⟨b.heap.size+1,0,none⟩) 1 1)).setCell ⟨w.heap.size,3,none⟩ (.int .i64 0)).alloc (.cells #[.int .i64 x.kind,.int .i64 x.size,.slice I x.sub.length H,.int .i64 x.tail] 43)).alloc (.cells #[.int .i64 x.kind,.int .i64 x.size,.slice I x.sub.length H,.int .i64 x.tail] 43)):=CL;refine⟨rfl,rfl,rfl,aC (by omega) (by omega),aC (by omega) (by omega),aC (by omega) (by omega),by simp,_,1,rfl,by simp,by simp,⟨⟨b.heap.size+1,0,.int .i64 x.kind,.int .i64 x.size,.slice I x.sub.length H,.int .i64 x.tail,rfl, ?_, ?_, ?_, ?_, ?_, ?_⟩,trivial⟩⟩
       ·show w.heap.size<=b.heap.size+1
        omega
       ·exact(Dd _ _ _ (b.heap.size+1) (by simp[World.setCell])).cell 0
       ·exact(Dd _ _ _ (b.heap.size+1) (by simp[World.setCell])).cell 1
       ·exact(Dd _ _ _ (b.heap.size+1) (by simp[World.setCell])).cell 2
       ·exact(Dd _ _ _ (b.heap.size+1) (by simp[World.setCell])).cell 3
       refine u.out.only (L:= [w.heap.size]) kN ?_ ?_
       ·intro k hk D;have hk:k=w.heap.size:=by simpa using hk
        have D:w.heap.size+1<=k:=D;omega
       intro k _ D;have D:w.heap.size+1<=k:=D;show w.heap.size<=k
       omega
      have f2:((s[y].toNat:Int) !=93)=true:=by simp;omega
      have j:Hid (R=none):=za (by rw[<-G.out,rm.out];simp[jg,V0]);clear G V0;go_enter yJ,yB
      go_wp2_with fail
      rw[J.out];refine E.out.mono ?_;rintro e b ⟨c,c0,c1,c2,c3,rfl,d⟩;rw[X.out];have h:=(af.new w 43 #[.int .i64 0,.int .i64 0,.slice none 0 0,.int .i64 0]).ag c (by simp);obtain⟨r,i,o,l,O,Y,U,S⟩:=aS h;have hz:=c.size;simp only[zq]at hz;have p:w.heap.size<b.heap.size:=by omega
      have K:w.heap.size<b.heap.size+1:=by omega
      have m:Hid (Below w.heap.size w b):=za (((zm w.heap.size w).alloc (zg _) _).trans (c.mono (by simp)));have u:=za d;simp only[zq]at u;obtain⟨I,H,rfl,rfl,rfl,rfl,B,A,C,_⟩:=d.open_;clear c h d B A C;go_wp2_with fail
      refine(F.out _).mono ?_;rintro e w' ⟨rfl,rfl⟩;simp only[eC,NY.out];go_wp2;refine zj (v:=bJ 0 0) (by simp[bJ,results,zY,go_sem,r,i,o,l,zA,p]) rfl ?_;rw[j.out];refine⟨?_,0,0,rfl⟩;exact(((((m.out.setCell (by simp) _).setCell (by simp) _).setCell (by simp) _).setCell (by simp) _).alloc (by simp[World.setCell];omega) _)
     have j:Hid (R=none):=za (by rw[<-G.out,<-ad.out,zH (by simp;omega)];rfl);clear G;go_enter yJ,yB
     go_wp2_with fail
     rw[J.out];refine E.out.mono ?_;rintro e b ⟨c,c0,c1,c2,c3,rfl,d⟩;rw[X.out];have h:=(af.new w 43 #[.int .i64 0,.int .i64 0,.slice none 0 0,.int .i64 0]).ag c (by simp);obtain⟨r,i,o,l,O,Y,U,S⟩:=aS h;have hz:=c.size;simp only[zq]at hz;have p:w.heap.size<b.heap.size:=by omega
     have K:w.heap.size<b.heap.size+1:=by omega
     have m:Hid (Below w.heap.size w b):=za (((zm w.heap.size w).alloc (zg _) _).trans (c.mono (by simp)));have u:=za d;simp only[zq]at u;obtain⟨I,H,rfl,rfl,rfl,rfl,B,A,C,_⟩:=d.open_;clear c h d B A C;go_wp2_with fail
     refine(F.out _).mono ?_;rintro e w' ⟨rfl,rfl⟩;simp only[eC,NY.out];go_wp2;refine zj (v:=bJ 0 0) (by simp[bJ,results,zY,go_sem,r,i,o,l,zA,p]) rfl ?_;rw[j.out];refine⟨?_,0,0,rfl⟩;exact(((((m.out.setCell (by simp) _).setCell (by simp) _).setCell (by simp) _).setCell (by simp) _).alloc (by simp[World.setCell];omega) _)
   have f1:((s[q].toNat:Int) !=58)=true:=by simp;omega
   have j:Hid (R=none):=za (by rw[<-M.out,drop_cons s q Bl,uS _ _ _ Z]);clear M Z;go_enter yJ,yB
   go_wp2_with fail
   rw[J.out];refine E.out.mono ?_;rintro e b ⟨c,c0,c1,c2,c3,rfl,d⟩;rw[X.out];have h:=(af.new w 43 #[.int .i64 0,.int .i64 0,.slice none 0 0,.int .i64 0]).ag c (by simp);obtain⟨r,i,o,l,O,Y,U,S⟩:=aS h;have hz:=c.size;simp only[zq]at hz;have p:w.heap.size<b.heap.size:=by omega
   have K:w.heap.size<b.heap.size+1:=by omega
   have m:Hid (Below w.heap.size w b):=za (((zm w.heap.size w).alloc (zg _) _).trans (c.mono (by simp)));have u:=za d;simp only[zq]at u;obtain⟨I,H,rfl,rfl,rfl,rfl,B,A,C,_⟩:=d.open_;clear c h d B A C;go_wp2;refine zj (v:=bJ 0 0) (by simp[bJ,results,zY,go_sem,r,i,o,l,zA,p]) rfl ?_;rw[j.out];refine⟨?_,0,0,rfl⟩;exact(((((m.out.setCell (by simp) _).setCell (by simp) _).setCell (by simp) _).setCell (by simp) _).alloc (by simp[World.setCell];omega) _)
  have j:Hid (R=none):=za (by rw[<-M.out,zH (by simp;omega)];rfl);clear M;go_enter yJ,yB
  go_wp2_with fail
  rw[J.out];refine E.out.mono ?_;rintro e b ⟨c,c0,c1,c2,c3,rfl,d⟩;rw[X.out];have h:=(af.new w 43 #[.int .i64 0,.int .i64 0,.slice none 0 0,.int .i64 0]).ag c (by simp);obtain⟨r,i,o,l,O,Y,U,S⟩:=aS h;have hz:=c.size;simp only[zq]at hz;have p:w.heap.size<b.heap.size:=by omega
  have K:w.heap.size<b.heap.size+1:=by omega
  have m:Hid (Below w.heap.size w b):=za (((zm w.heap.size w).alloc (zg _) _).trans (c.mono (by simp)));have u:=za d;simp only[zq]at u;obtain⟨I,H,rfl,rfl,rfl,rfl,B,A,C,_⟩:=d.open_;clear c h d B A C;go_wp2;refine zj (v:=bJ 0 0) (by simp[bJ,results,zY,go_sem,r,i,o,l,zA,p]) rfl ?_;rw[j.out];refine⟨?_,0,0,rfl⟩;exact(((((m.out.setCell (by simp) _).setCell (by simp) _).setCell (by simp) _).setCell (by simp) _).alloc (by simp[World.setCell];omega) _)
theorem wz (f deep:Nat)(av:deep<=8)(IH:Hid (∀(s:ByteArray) (at_:Nat) (w:World),at_<=s.size->s.size<=100000->
 Calls prog 36 #[.string s,.int .i64 at_,.int .i64 ((deep+1:Nat):Int)] w fun e w'=>mw s w (aL f (s.data.toList.drop at_)) e w')) (s:ByteArray) (at_:Nat) (w:World) (du:at_<=s.size) (hs:s.size<=100000)
 (aa:Option (Ty×List UInt8)) (HR:Hid (aL (f+1) (s.data.toList.drop at_)=aa)) (aE:at_<s.size) (Y7:s[at_].toNat=123):
 Calls prog 36 #[.string s,.int .i64 at_,.int .i64 deep] w fun e w'=>mw s w aa e w':=by
 have d1:decide (s.size<=at_)=false:=by simp;omega
 have d2:decide ((8:Int)<(deep:Int))=false:=by simp;omega
 have HC:Hid (aL (f+1) (s[at_]::s.data.toList.drop (at_+1))=aa):=za (by rw[<-drop_cons s at_ aE];exact HR.out);obtain⟨al,HN⟩:∃al,Hid (cx (s.data.toList.drop (at_+1))=al):=⟨_,za rfl⟩
 clear HR;have e1:((s[at_].toNat:Int)==117)=false:=zo.2 (by omega);have e2:((s[at_].toNat:Int)==98)=false:=zo.2 (by omega);have e3:((s[at_].toNat:Int)==115)=false:=zo.2 (by omega);have e4:((s[at_].toNat:Int)==91)=false:=zo.2 (by omega);have e5:((s[at_].toNat:Int) !=123)=false:=by simp[Y7]
 have Bs:Hid (eU f s aa (at_+1) [] 0):=za ⟨_,by
  have h1:=HC.out;rw[show s[at_]=123 from zS.1 Y7,Kd]at h1;exact h1,by omega⟩
 clear Y7 HC HN;go_enter yJ,yB
 go_wp2_with fail
 go_loopw [1] (fun i wr=>∃(p:Nat) (acc:List Ty) (j:Nat) (vv:Value),p<=s.size/\i= .int .i64 p/\Hid (eU f s aa p acc j)/\acc.length<=p/\j<=p/\af wr w.heap.size 43 #[.int .i64 0,.int .i64 0,.slice none 0 0,.int .i64 0]/\af wr (w.heap.size+1) 43 #[.int .i64 5,.int .i64 0,vv,.int .i64 j]/\eP wr (w.heap.size+2) acc vv/\Below w.heap.size w wr/\w.heap.size+2<=wr.heap.size) (fun i _=>s.size-(intOf i).toNat)
 case atStart=>
  have aF:=af.new (w.alloc (.cells #[.int .i64 0,.int .i64 0,.slice none 0 0,.int .i64 0] 43)) 43 #[.int .i64 5,.int .i64 0,.slice none 0 0,.int .i64 0];exact⟨at_+1,[],0,.slice none 0 0,by omega,by go_num,Bs,by simp,by omega,(af.new _ _ _).alloc _,by simpa using aF,eP.nil _ _,bT,by simp⟩
 case round=>
  obtain⟨p,acc,j,vv,hp,rfl,hrel,ak,Ba,Lt,kd,lD,an,UB⟩:=hrel;have sB:=za Lt;have wZ:=za kd;have mK:=za lD;have HB:=za an;obtain⟨M,n2,O,rfl,Lm,aw,au⟩:=lD.cF;obtain⟨B,u,A,x,j8,j9,j7,ke⟩:=aS Lt;obtain⟨U,G,R,J,I,K,H,S⟩:=aS kd;clear Lt kd lD an Bs;by_cases aj:p<s.size
  ·by_cases jk:s[p].toNat=125
   ·have e6:((s[p].toNat:Int) !=125)=false:=by simp[jk]
    have F:=za (hrel.out.ends aj jk);have ao:=za (tk s (p+1) (by omega));clear jk;go_wp2;refine zj (v:= .tuple #[.agg #[.int .i64 5,.int .i64 0,.slice M n2 O,.int .i64 j],.int .i64 ((p:Int)+1)]) (by simp[results,zY,go_sem,B,u,A,x]) rfl ?_;rw[F.out];refine⟨(((HB.out.setCell (by simp) _).setCell (by simp) _).setCell (by simp) _).setCell (by simp) _,_,_,_,_,by rw[ao.out];go_num, ?_⟩;have ar:eP _ (w.heap.size+2) acc (.slice M n2 O):=mK.out.only (L:= [w.heap.size]) (w':=(((wr.setCell ⟨w.heap.size,0,none⟩ (.int .i64 5)).setCell ⟨w.heap.size,1,none⟩ (.int .i64 0)).setCell ⟨w.heap.size,2,none⟩ (.slice M n2 O)).setCell ⟨w.heap.size,3,none⟩ (.int .i64 j)) (((((ae.refl _ _).setCell (by simp) _).setCell (by simp) _).setCell (by simp) _).setCell (by simp) _) (by simp);refine fK.iz (ar.ty (by omega) (aC (by omega) (by omega)) (aC (by omega) (by omega)) (aC (by omega) (by omega))) fun k _ Y=> ?_
    have Y:w.heap.size+2<=k:=Y;show w.heap.size<=k
    omega
   have e6:((s[p].toNat:Int) !=125)=true:=by simp;omega
   by_cases ha:acc= []
   ·subst ha;have qY:=za (hrel.out.first aj jk);obtain rfl:n2=0:=Lm.out;clear jk;have Bl:=aj;by_cases DG:s[p].toNat=63
    ·have e8:((s[p].toNat:Int)==63)=true:=by simp[DG]
     have qT:=za (qY.out.mark Bl DG);obtain⟨W,d⟩:∃W,wr.setCell ⟨w.heap.size+1,3,none⟩ (.int .i64 ((j:Int)+1))=W:=⟨_,rfl⟩
     have We:Hid (af W (w.heap.size+1) 43 #[.int .i64 5,.int .i64 0,.slice M 0 O,.int .i64 ((j:Int)+1)]):=za (by rw[<-d];exact wZ.out.store rfl);have Ob:Hid (af W w.heap.size 43 #[.int .i64 0,.int .i64 0,.slice none 0 0,.int .i64 0]):=za (by rw[<-d];exact sB.out.dN (by simp) _);have OF:Hid (eP W (w.heap.size+2) [] (.slice M 0 O)):=za (by rw[<-d];exact mK.out.only ((ae.refl [w.heap.size+1] wr).setCell (by simp) _) (by simp));have Bp:Hid (Below w.heap.size w W):=za (by rw[<-d];exact HB.out.setCell (by simp) _);have UY:Hid (W.heap.size=wr.heap.size):=za (by rw[<-d];simp[World.setCell]);have HW:=za d;have C:p+1<=s.size:=by omega
     have Wf:Hid (((j+1:Nat):Int)=(j:Int)+1):=za (by omega);clear DG d qY;have HI:Hid (∀(V:World) (i:Int),i=(((p+1):Nat):Int)->Calls prog 36 #[.string s,.int .i64 i,.int .i64 ((deep+1:Nat):Int)] V fun e w'=>mw s V (aL f (s.data.toList.drop ((p+1)))) e w'):=za (fun V i hi=>by subst hi;exact IH.out s ((p+1)) V C hs);have E9:Hid ((deep:Int)+1=((deep+1:Nat):Int)):=za (by omega);go_wp2_with fail
     rw[E9.out];refine(HI.out _ _ (by first|rfl|omega)).mono ?_;rintro e N D;rw[HW.out]at D;obtain⟨T,X⟩:∃T,Hid (aL f (s.data.toList.drop ((p+1)))=T):=⟨_,za rfl⟩
     rw[X.out]at D;have LD:=UY.out;cases T with
     |none=>
      obtain⟨c,v0,v1,rfl⟩:=D;have F:=za (qT.out.none X.out);have N1:=c.size;have kV:w.heap.size<N.heap.size:=by omega
      have Z:=za (Bp.out.trans (c.mono (by omega)));clear B u A x j8 j9 j7 ke U G R J I K H S;obtain⟨B,u,A,x,j8,j9,j7,ke⟩:=aS (Ob.out.ag c (by omega));clear c LD;go_wp2;refine zj (v:=bJ 0 0) (by simp[bJ,results,zY,go_sem,B,u,A,x,zA,kV]) rfl ?_;rw[F.out];refine⟨?_,0,0,rfl⟩;exact(((((Z.out.setCell (by simp) _).setCell (by simp) _).setCell (by simp) _).setCell (by simp) _).alloc (by simp[World.setCell];omega) _)
     |some z=>
      obtain⟨y,ag⟩:=z;obtain⟨c,c0,c1,c2,c3,rfl,hy⟩:=D;obtain⟨HN,tA,J0⟩:=qT.out.some C X.out;have Bs:=za HN;have N1:=c.size;have LB:=za (We.out.ag c (by omega));have ab:=za (Ob.out.ag c (by omega));have ah:=za (OF.out.below c);have Z:=za (Bp.out.trans (c.mono (by omega)));have jA:=OF.out.ge;have HY:Hid (∀o o',fK ((N.alloc o).alloc o') (fun k=>w.heap.size+2<=k/\(Value.slice M 0 O).ownBlock≠some k) y c0 c1 c2 c3):=za (by
       intro o o';refine fK.ag ?_ ?_ y hy
       ·intro k Y hS;have hS:W.heap.size<=k:=hS;exact⟨by omega,fun e=>by have:=(jA k e).2;omega⟩
       intro q C _;rw[zA _ _ _ (by rw[zq];omega),zA _ _ _ C])
      have kV:w.heap.size<N.heap.size:=by omega
      have sA:w.heap.size+1<N.heap.size:=by omega
      have Cz:=za jA;obtain⟨AA,mi,rfl,rfl,rfl,rfl,_⟩:=hy.open_;clear B u A x j8 j9 j7 ke U G R J I K H S hy HN jA c LD;obtain⟨U,G,R,J,I,K,H,S⟩:=aS LB.out;generalize s.size-ag.length=pq at*;go_wp2_with (at_builtin;refine cA (by rfl) (.tmp 181) (.tmp 183) (by rfl) (w.heap.size+2) [] (by rfl) ((ah.out.below ((zm _ _).alloc (zg _) _)).below ((zm _ _).alloc (zg _) _)) y (HY.out _ _) _ (by rfl) (by simp) (by simp) (by simp) (by simp) (by first|omega|simp) (by simp only[zq];omega) ?_)
      intro m n r l Rq kF E oD;have wQ:∀k,k<w.heap.size+2->(Value.slice M 0 O).ownBlock≠some k:=fun k Y e=>by
       have:=(Cz.out k e).1;omega
      have G1:=za (((LB.out.alloc _).alloc _).grown E (wQ _ (by omega)));have ad:=za (((ab.out.alloc _).alloc _).grown E (wQ _ (by omega)));have gK:Hid (Below w.heap.size w l):=za (((Z.out.alloc (by omega) _).alloc (by simp;omega) _).grown E (by simp;omega) (fun k Y=>by have:=(Cz.out k Y).1;omega));have DL:=E.size;simp only[zq]at DL;have ai:=za kF;clear U G R J I K H S E kF wQ;obtain⟨U,G,R,J,I,K,H,S⟩:=aS G1.out;go_wp2;go_roundw
      case rel=>
       have key:∃(p:Nat) (acc:List Ty) (j:Nat) (vv:Value),p<=s.size/\Value.int .i64 (pq:Int)= .int .i64 p/\Hid (eU f s aa p acc j)/\acc.length<=p/\j<=p/\af (l.setCell ⟨w.heap.size+1,2,none⟩ (.slice (some ⟨m,0,none⟩) n r)) w.heap.size 43 #[.int .i64 0,.int .i64 0,.slice none 0 0,.int .i64 0]/\af (l.setCell ⟨w.heap.size+1,2,none⟩ (.slice (some ⟨m,0,none⟩) n r)) (w.heap.size+1) 43 #[.int .i64 5,.int .i64 0,vv,.int .i64 j]/\eP (l.setCell ⟨w.heap.size+1,2,none⟩ (.slice (some ⟨m,0,none⟩) n r)) (w.heap.size+2) acc vv/\Below w.heap.size w (l.setCell ⟨w.heap.size+1,2,none⟩ (.slice (some ⟨m,0,none⟩) n r))/\w.heap.size+2<=(l.setCell ⟨w.heap.size+1,2,none⟩ (.slice (some ⟨m,0,none⟩) n r)).heap.size:=by
        refine⟨pq,[]++ [y],(j+1),.slice (some ⟨m,0,none⟩) n r,J0,rfl,Bs, ?_,by omega,ad.out.dN (by simp) _, ?_, ?_,gK.out.setCell (by simp) _, ?_⟩
        ·simp only[zl,zx,zJ]at ak⊢;omega
        ·rw[Wf.out];exact G1.out.store rfl
        ·exact ai.out.only ((ae.refl [w.heap.size+1] l).setCell (p:=⟨w.heap.size+1,2,none⟩) (by simp) _) (by simp)
        simp[World.setCell];omega
       first|exact key|((repeat apply Exists.intro);exact⟨key,rfl⟩)
      case measure=>simp[intOf];omega
    have e8:((s[p].toNat:Int)==63)=false:=zo.2 (by omega);have Ae:Hid (∀C:p<s.size,s[p].toNat≠63):=za (fun _=>DG);clear DG;by_cases R8:0<j
    ·have F:=za (qY.out.none_ Ae.out R8);go_wp2;refine zj (v:=bJ 0 0) (by simp[bJ,results,zY,go_sem,B,u,A,x]) rfl ?_;rw[F.out];exact⟨(((HB.out.setCell (by simp) _).setCell (by simp) _).setCell (by simp) _).setCell (by simp) _,0,0,rfl⟩
    obtain rfl:j=0:=by omega
    have qT:=za (qY.out.plain Ae.out);obtain⟨W,d⟩:∃W,wr=W:=⟨_,rfl⟩
    have We:Hid (af W (w.heap.size+1) 43 #[.int .i64 5,.int .i64 0,.slice M 0 O,.int .i64 0]):=za (by rw[<-d];exact wZ.out);have Ob:Hid (af W w.heap.size 43 #[.int .i64 0,.int .i64 0,.slice none 0 0,.int .i64 0]):=za (by rw[<-d];exact sB.out);have OF:Hid (eP W (w.heap.size+2) [] (.slice M 0 O)):=za (by rw[<-d];exact mK.out);have Bp:Hid (Below w.heap.size w W):=za (by rw[<-d];exact HB.out);have UY:Hid (W.heap.size=wr.heap.size):=za (by rw[<-d]);have HW:=za d;have C:p<=s.size:=by omega
    have Wf:Hid (((0:Nat):Int)=(0:Int)):=za rfl;clear d qY Ae;have HI:Hid (∀(V:World) (i:Int),i=(((p):Nat):Int)->Calls prog 36 #[.string s,.int .i64 i,.int .i64 ((deep+1:Nat):Int)] V fun e w'=>mw s V (aL f (s.data.toList.drop ((p)))) e w'):=za (fun V i hi=>by subst hi;exact IH.out s ((p)) V C hs);have E9:Hid ((deep:Int)+1=((deep+1:Nat):Int)):=za (by omega);go_wp2_with fail
    rw[E9.out];refine(HI.out _ _ (by first|rfl|omega)).mono ?_;rintro e N D;rw[HW.out]at D;obtain⟨T,X⟩:∃T,Hid (aL f (s.data.toList.drop ((p)))=T):=⟨_,za rfl⟩
    rw[X.out]at D;have LD:=UY.out;cases T with
    |none=>
     obtain⟨c,v0,v1,rfl⟩:=D;have F:=za (qT.out.none X.out);have N1:=c.size;have kV:w.heap.size<N.heap.size:=by omega
     have Z:=za (Bp.out.trans (c.mono (by omega)));clear B u A x j8 j9 j7 ke U G R J I K H S;obtain⟨B,u,A,x,j8,j9,j7,ke⟩:=aS (Ob.out.ag c (by omega));clear c LD;go_wp2;refine zj (v:=bJ 0 0) (by simp[bJ,results,zY,go_sem,B,u,A,x,zA,kV]) rfl ?_;rw[F.out];refine⟨?_,0,0,rfl⟩;exact(((((Z.out.setCell (by simp) _).setCell (by simp) _).setCell (by simp) _).setCell (by simp) _).alloc (by simp[World.setCell];omega) _)
    |some z=>
     obtain⟨y,ag⟩:=z;obtain⟨c,c0,c1,c2,c3,rfl,hy⟩:=D;obtain⟨HN,tA,J0⟩:=qT.out.some C X.out;have Bs:=za HN;have N1:=c.size;have LB:=za (We.out.ag c (by omega));have ab:=za (Ob.out.ag c (by omega));have ah:=za (OF.out.below c);have Z:=za (Bp.out.trans (c.mono (by omega)));have jA:=OF.out.ge;have HY:Hid (∀o o',fK ((N.alloc o).alloc o') (fun k=>w.heap.size+2<=k/\(Value.slice M 0 O).ownBlock≠some k) y c0 c1 c2 c3):=za (by
      intro o o';refine fK.ag ?_ ?_ y hy
      ·intro k Y hS;have hS:W.heap.size<=k:=hS;exact⟨by omega,fun e=>by have:=(jA k e).2;omega⟩
      intro q C _;rw[zA _ _ _ (by rw[zq];omega),zA _ _ _ C])
     have kV:w.heap.size<N.heap.size:=by omega
     have sA:w.heap.size+1<N.heap.size:=by omega
     have Cz:=za jA;obtain⟨AA,mi,rfl,rfl,rfl,rfl,_⟩:=hy.open_;clear B u A x j8 j9 j7 ke U G R J I K H S hy HN jA c LD;obtain⟨U,G,R,J,I,K,H,S⟩:=aS LB.out;generalize s.size-ag.length=pq at*;go_wp2_with (at_builtin;refine cA (by rfl) (.tmp 181) (.tmp 183) (by rfl) (w.heap.size+2) [] (by rfl) ((ah.out.below ((zm _ _).alloc (zg _) _)).below ((zm _ _).alloc (zg _) _)) y (HY.out _ _) _ (by rfl) (by simp) (by simp) (by simp) (by simp) (by first|omega|simp) (by simp only[zq];omega) ?_)
     intro m n r l Rq kF E oD;have wQ:∀k,k<w.heap.size+2->(Value.slice M 0 O).ownBlock≠some k:=fun k Y e=>by
      have:=(Cz.out k e).1;omega
     have G1:=za (((LB.out.alloc _).alloc _).grown E (wQ _ (by omega)));have ad:=za (((ab.out.alloc _).alloc _).grown E (wQ _ (by omega)));have gK:Hid (Below w.heap.size w l):=za (((Z.out.alloc (by omega) _).alloc (by simp;omega) _).grown E (by simp;omega) (fun k Y=>by have:=(Cz.out k Y).1;omega));have DL:=E.size;simp only[zq]at DL;have ai:=za kF;clear U G R J I K H S E kF wQ;obtain⟨U,G,R,J,I,K,H,S⟩:=aS G1.out;go_wp2;go_roundw
     case rel=>
      have key:∃(p:Nat) (acc:List Ty) (j:Nat) (vv:Value),p<=s.size/\Value.int .i64 (pq:Int)= .int .i64 p/\Hid (eU f s aa p acc j)/\acc.length<=p/\j<=p/\af (l.setCell ⟨w.heap.size+1,2,none⟩ (.slice (some ⟨m,0,none⟩) n r)) w.heap.size 43 #[.int .i64 0,.int .i64 0,.slice none 0 0,.int .i64 0]/\af (l.setCell ⟨w.heap.size+1,2,none⟩ (.slice (some ⟨m,0,none⟩) n r)) (w.heap.size+1) 43 #[.int .i64 5,.int .i64 0,vv,.int .i64 j]/\eP (l.setCell ⟨w.heap.size+1,2,none⟩ (.slice (some ⟨m,0,none⟩) n r)) (w.heap.size+2) acc vv/\Below w.heap.size w (l.setCell ⟨w.heap.size+1,2,none⟩ (.slice (some ⟨m,0,none⟩) n r))/\w.heap.size+2<=(l.setCell ⟨w.heap.size+1,2,none⟩ (.slice (some ⟨m,0,none⟩) n r)).heap.size:=by
       refine⟨pq,[]++ [y],0,.slice (some ⟨m,0,none⟩) n r,J0,rfl,Bs, ?_,by omega,ad.out.dN (by simp) _, ?_, ?_,gK.out.setCell (by simp) _, ?_⟩
       ·simp only[zl,zx,zJ]at ak⊢;omega
       ·rw[Wf.out];exact G1.out.store rfl
       ·exact ai.out.only ((ae.refl [w.heap.size+1] l).setCell (p:=⟨w.heap.size+1,2,none⟩) (by simp) _) (by simp)
       simp[World.setCell];omega
      first|exact key|((repeat apply Exists.intro);exact⟨key,rfl⟩)
     case measure=>simp[intOf];omega
   have rh:0<n2:=by
    rw[Lm.out];cases acc with
    |nil=>exact absurd rfl ha
    |cons a b=>simp
   by_cases tN:s[p].toNat=44
   ·have e7:((s[p].toNat:Int) !=44)=false:=by simp[tN]
    have qY:=za (hrel.out.more aj tN ha);clear jk ha tN;by_cases Bl:(p+1)<s.size
    ·by_cases DG:s[(p+1)].toNat=63
     ·have e8:((s[(p+1)].toNat:Int)==63)=true:=by simp[DG]
      have qT:=za (qY.out.mark Bl DG);obtain⟨W,d⟩:∃W,wr.setCell ⟨w.heap.size+1,3,none⟩ (.int .i64 ((j:Int)+1))=W:=⟨_,rfl⟩
      have We:Hid (af W (w.heap.size+1) 43 #[.int .i64 5,.int .i64 0,.slice M n2 O,.int .i64 ((j:Int)+1)]):=za (by rw[<-d];exact wZ.out.store rfl);have Ob:Hid (af W w.heap.size 43 #[.int .i64 0,.int .i64 0,.slice none 0 0,.int .i64 0]):=za (by rw[<-d];exact sB.out.dN (by simp) _);have OF:Hid (eP W (w.heap.size+2) acc (.slice M n2 O)):=za (by rw[<-d];exact mK.out.only ((ae.refl [w.heap.size+1] wr).setCell (by simp) _) (by simp));have Bp:Hid (Below w.heap.size w W):=za (by rw[<-d];exact HB.out.setCell (by simp) _);have UY:Hid (W.heap.size=wr.heap.size):=za (by rw[<-d];simp[World.setCell]);have HW:=za d;have C:(p+1)+1<=s.size:=by omega
      have Wf:Hid (((j+1:Nat):Int)=(j:Int)+1):=za (by omega);clear DG d qY;have HI:Hid (∀(V:World) (i:Int),i=((((p+1)+1):Nat):Int)->Calls prog 36 #[.string s,.int .i64 i,.int .i64 ((deep+1:Nat):Int)] V fun e w'=>mw s V (aL f (s.data.toList.drop (((p+1)+1)))) e w'):=za (fun V i hi=>by subst hi;exact IH.out s (((p+1)+1)) V C hs);have E9:Hid ((deep:Int)+1=((deep+1:Nat):Int)):=za (by omega);go_wp2_with fail
      rw[E9.out];refine(HI.out _ _ (by first|rfl|omega)).mono ?_;rintro e N D;rw[HW.out]at D;obtain⟨T,X⟩:∃T,Hid (aL f (s.data.toList.drop (((p+1)+1)))=T):=⟨_,za rfl⟩
      rw[X.out]at D;have LD:=UY.out;cases T with
      |none=>
       obtain⟨c,v0,v1,rfl⟩:=D;have F:=za (qT.out.none X.out);have N1:=c.size;have kV:w.heap.size<N.heap.size:=by omega
       have Z:=za (Bp.out.trans (c.mono (by omega)));clear B u A x j8 j9 j7 ke U G R J I K H S;obtain⟨B,u,A,x,j8,j9,j7,ke⟩:=aS (Ob.out.ag c (by omega));clear c LD;go_wp2;refine zj (v:=bJ 0 0) (by simp[bJ,results,zY,go_sem,B,u,A,x,zA,kV]) rfl ?_;rw[F.out];refine⟨?_,0,0,rfl⟩;exact(((((Z.out.setCell (by simp) _).setCell (by simp) _).setCell (by simp) _).setCell (by simp) _).alloc (by simp[World.setCell];omega) _)
      |some z=>
       obtain⟨y,ag⟩:=z;obtain⟨c,c0,c1,c2,c3,rfl,hy⟩:=D;obtain⟨HN,tA,J0⟩:=qT.out.some C X.out;have Bs:=za HN;have N1:=c.size;have LB:=za (We.out.ag c (by omega));have ab:=za (Ob.out.ag c (by omega));have ah:=za (OF.out.below c);have Z:=za (Bp.out.trans (c.mono (by omega)));have jA:=OF.out.ge;have HY:Hid (∀o o',fK ((N.alloc o).alloc o') (fun k=>w.heap.size+2<=k/\(Value.slice M n2 O).ownBlock≠some k) y c0 c1 c2 c3):=za (by
        intro o o';refine fK.ag ?_ ?_ y hy
        ·intro k Y hS;have hS:W.heap.size<=k:=hS;exact⟨by omega,fun e=>by have:=(jA k e).2;omega⟩
        intro q C _;rw[zA _ _ _ (by rw[zq];omega),zA _ _ _ C])
       have kV:w.heap.size<N.heap.size:=by omega
       have sA:w.heap.size+1<N.heap.size:=by omega
       have Cz:=za jA;obtain⟨AA,mi,rfl,rfl,rfl,rfl,_⟩:=hy.open_;clear B u A x j8 j9 j7 ke U G R J I K H S hy HN jA c LD;obtain⟨U,G,R,J,I,K,H,S⟩:=aS LB.out;generalize s.size-ag.length=pq at*;go_wp2_with (at_builtin;refine cA (by rfl) (.tmp 181) (.tmp 183) (by rfl) (w.heap.size+2) acc (by rfl) ((ah.out.below ((zm _ _).alloc (zg _) _)).below ((zm _ _).alloc (zg _) _)) y (HY.out _ _) _ (by rfl) (by simp) (by simp) (by simp) (by simp) (by first|omega|simp) (by simp only[zq];omega) ?_)
       intro m n r l Rq kF E oD;have wQ:∀k,k<w.heap.size+2->(Value.slice M n2 O).ownBlock≠some k:=fun k Y e=>by
        have:=(Cz.out k e).1;omega
       have G1:=za (((LB.out.alloc _).alloc _).grown E (wQ _ (by omega)));have ad:=za (((ab.out.alloc _).alloc _).grown E (wQ _ (by omega)));have gK:Hid (Below w.heap.size w l):=za (((Z.out.alloc (by omega) _).alloc (by simp;omega) _).grown E (by simp;omega) (fun k Y=>by have:=(Cz.out k Y).1;omega));have DL:=E.size;simp only[zq]at DL;have ai:=za kF;clear U G R J I K H S E kF wQ;obtain⟨U,G,R,J,I,K,H,S⟩:=aS G1.out;go_wp2;go_roundw
       case rel=>
        have key:∃(p:Nat) (acc:List Ty) (j:Nat) (vv:Value),p<=s.size/\Value.int .i64 (pq:Int)= .int .i64 p/\Hid (eU f s aa p acc j)/\acc.length<=p/\j<=p/\af (l.setCell ⟨w.heap.size+1,2,none⟩ (.slice (some ⟨m,0,none⟩) n r)) w.heap.size 43 #[.int .i64 0,.int .i64 0,.slice none 0 0,.int .i64 0]/\af (l.setCell ⟨w.heap.size+1,2,none⟩ (.slice (some ⟨m,0,none⟩) n r)) (w.heap.size+1) 43 #[.int .i64 5,.int .i64 0,vv,.int .i64 j]/\eP (l.setCell ⟨w.heap.size+1,2,none⟩ (.slice (some ⟨m,0,none⟩) n r)) (w.heap.size+2) acc vv/\Below w.heap.size w (l.setCell ⟨w.heap.size+1,2,none⟩ (.slice (some ⟨m,0,none⟩) n r))/\w.heap.size+2<=(l.setCell ⟨w.heap.size+1,2,none⟩ (.slice (some ⟨m,0,none⟩) n r)).heap.size:=by
         refine⟨pq,acc++ [y],(j+1),.slice (some ⟨m,0,none⟩) n r,J0,rfl,Bs, ?_,by omega,ad.out.dN (by simp) _, ?_, ?_,gK.out.setCell (by simp) _, ?_⟩
         ·simp only[zl,zx,zJ]at ak⊢;omega
         ·rw[Wf.out];exact G1.out.store rfl
         ·exact ai.out.only ((ae.refl [w.heap.size+1] l).setCell (p:=⟨w.heap.size+1,2,none⟩) (by simp) _) (by simp)
         simp[World.setCell];omega
        first|exact key|((repeat apply Exists.intro);exact⟨key,rfl⟩)
       case measure=>simp[intOf];omega
     have e8:((s[(p+1)].toNat:Int)==63)=false:=zo.2 (by omega);have Ae:Hid (∀C:(p+1)<s.size,s[(p+1)].toNat≠63):=za (fun _=>DG);clear DG;by_cases R8:0<j
     ·have F:=za (qY.out.none_ Ae.out R8);go_wp2;refine zj (v:=bJ 0 0) (by simp[bJ,results,zY,go_sem,B,u,A,x]) rfl ?_;rw[F.out];exact⟨(((HB.out.setCell (by simp) _).setCell (by simp) _).setCell (by simp) _).setCell (by simp) _,0,0,rfl⟩
     obtain rfl:j=0:=by omega
     have qT:=za (qY.out.plain Ae.out);obtain⟨W,d⟩:∃W,wr=W:=⟨_,rfl⟩
     have We:Hid (af W (w.heap.size+1) 43 #[.int .i64 5,.int .i64 0,.slice M n2 O,.int .i64 0]):=za (by rw[<-d];exact wZ.out);have Ob:Hid (af W w.heap.size 43 #[.int .i64 0,.int .i64 0,.slice none 0 0,.int .i64 0]):=za (by rw[<-d];exact sB.out);have OF:Hid (eP W (w.heap.size+2) acc (.slice M n2 O)):=za (by rw[<-d];exact mK.out);have Bp:Hid (Below w.heap.size w W):=za (by rw[<-d];exact HB.out);have UY:Hid (W.heap.size=wr.heap.size):=za (by rw[<-d]);have HW:=za d;have C:(p+1)<=s.size:=by omega
     have Wf:Hid (((0:Nat):Int)=(0:Int)):=za rfl;clear d qY Ae;have HI:Hid (∀(V:World) (i:Int),i=((((p+1)):Nat):Int)->Calls prog 36 #[.string s,.int .i64 i,.int .i64 ((deep+1:Nat):Int)] V fun e w'=>mw s V (aL f (s.data.toList.drop (((p+1))))) e w'):=za (fun V i hi=>by subst hi;exact IH.out s (((p+1))) V C hs);have E9:Hid ((deep:Int)+1=((deep+1:Nat):Int)):=za (by omega);go_wp2_with fail
     rw[E9.out];refine(HI.out _ _ (by first|rfl|omega)).mono ?_;rintro e N D;rw[HW.out]at D;obtain⟨T,X⟩:∃T,Hid (aL f (s.data.toList.drop (((p+1))))=T):=⟨_,za rfl⟩
     rw[X.out]at D;have LD:=UY.out;cases T with
     |none=>
      obtain⟨c,v0,v1,rfl⟩:=D;have F:=za (qT.out.none X.out);have N1:=c.size;have kV:w.heap.size<N.heap.size:=by omega
      have Z:=za (Bp.out.trans (c.mono (by omega)));clear B u A x j8 j9 j7 ke U G R J I K H S;obtain⟨B,u,A,x,j8,j9,j7,ke⟩:=aS (Ob.out.ag c (by omega));clear c LD;go_wp2;refine zj (v:=bJ 0 0) (by simp[bJ,results,zY,go_sem,B,u,A,x,zA,kV]) rfl ?_;rw[F.out];refine⟨?_,0,0,rfl⟩;exact(((((Z.out.setCell (by simp) _).setCell (by simp) _).setCell (by simp) _).setCell (by simp) _).alloc (by simp[World.setCell];omega) _)
     |some z=>
      obtain⟨y,ag⟩:=z;obtain⟨c,c0,c1,c2,c3,rfl,hy⟩:=D;obtain⟨HN,tA,J0⟩:=qT.out.some C X.out;have Bs:=za HN;have N1:=c.size;have LB:=za (We.out.ag c (by omega));have ab:=za (Ob.out.ag c (by omega));have ah:=za (OF.out.below c);have Z:=za (Bp.out.trans (c.mono (by omega)));have jA:=OF.out.ge;have HY:Hid (∀o o',fK ((N.alloc o).alloc o') (fun k=>w.heap.size+2<=k/\(Value.slice M n2 O).ownBlock≠some k) y c0 c1 c2 c3):=za (by
       intro o o';refine fK.ag ?_ ?_ y hy
       ·intro k Y hS;have hS:W.heap.size<=k:=hS;exact⟨by omega,fun e=>by have:=(jA k e).2;omega⟩
       intro q C _;rw[zA _ _ _ (by rw[zq];omega),zA _ _ _ C])
      have kV:w.heap.size<N.heap.size:=by omega
      have sA:w.heap.size+1<N.heap.size:=by omega
      have Cz:=za jA;obtain⟨AA,mi,rfl,rfl,rfl,rfl,_⟩:=hy.open_;clear B u A x j8 j9 j7 ke U G R J I K H S hy HN jA c LD;obtain⟨U,G,R,J,I,K,H,S⟩:=aS LB.out;generalize s.size-ag.length=pq at*;go_wp2_with (at_builtin;refine cA (by rfl) (.tmp 181) (.tmp 183) (by rfl) (w.heap.size+2) acc (by rfl) ((ah.out.below ((zm _ _).alloc (zg _) _)).below ((zm _ _).alloc (zg _) _)) y (HY.out _ _) _ (by rfl) (by simp) (by simp) (by simp) (by simp) (by first|omega|simp) (by simp only[zq];omega) ?_)
      intro m n r l Rq kF E oD;have wQ:∀k,k<w.heap.size+2->(Value.slice M n2 O).ownBlock≠some k:=fun k Y e=>by
       have:=(Cz.out k e).1;omega
      have G1:=za (((LB.out.alloc _).alloc _).grown E (wQ _ (by omega)));have ad:=za (((ab.out.alloc _).alloc _).grown E (wQ _ (by omega)));have gK:Hid (Below w.heap.size w l):=za (((Z.out.alloc (by omega) _).alloc (by simp;omega) _).grown E (by simp;omega) (fun k Y=>by have:=(Cz.out k Y).1;omega));have DL:=E.size;simp only[zq]at DL;have ai:=za kF;clear U G R J I K H S E kF wQ;obtain⟨U,G,R,J,I,K,H,S⟩:=aS G1.out;go_wp2;go_roundw
      case rel=>
       have key:∃(p:Nat) (acc:List Ty) (j:Nat) (vv:Value),p<=s.size/\Value.int .i64 (pq:Int)= .int .i64 p/\Hid (eU f s aa p acc j)/\acc.length<=p/\j<=p/\af (l.setCell ⟨w.heap.size+1,2,none⟩ (.slice (some ⟨m,0,none⟩) n r)) w.heap.size 43 #[.int .i64 0,.int .i64 0,.slice none 0 0,.int .i64 0]/\af (l.setCell ⟨w.heap.size+1,2,none⟩ (.slice (some ⟨m,0,none⟩) n r)) (w.heap.size+1) 43 #[.int .i64 5,.int .i64 0,vv,.int .i64 j]/\eP (l.setCell ⟨w.heap.size+1,2,none⟩ (.slice (some ⟨m,0,none⟩) n r)) (w.heap.size+2) acc vv/\Below w.heap.size w (l.setCell ⟨w.heap.size+1,2,none⟩ (.slice (some ⟨m,0,none⟩) n r))/\w.heap.size+2<=(l.setCell ⟨w.heap.size+1,2,none⟩ (.slice (some ⟨m,0,none⟩) n r)).heap.size:=by
        refine⟨pq,acc++ [y],0,.slice (some ⟨m,0,none⟩) n r,J0,rfl,Bs, ?_,by omega,ad.out.dN (by simp) _, ?_, ?_,gK.out.setCell (by simp) _, ?_⟩
        ·simp only[zl,zx,zJ]at ak⊢;omega
        ·rw[Wf.out];exact G1.out.store rfl
        ·exact ai.out.only ((ae.refl [w.heap.size+1] l).setCell (p:=⟨w.heap.size+1,2,none⟩) (by simp) _) (by simp)
        simp[World.setCell];omega
       first|exact key|((repeat apply Exists.intro);exact⟨key,rfl⟩)
      case measure=>simp[intOf];omega
    have Ae:Hid (∀C:(p+1)<s.size,s[(p+1)].toNat≠63):=za (fun h=>absurd h Bl);by_cases R8:0<j
    ·have F:=za (qY.out.none_ Ae.out R8);go_wp2;refine zj (v:=bJ 0 0) (by simp[bJ,results,zY,go_sem,B,u,A,x]) rfl ?_;rw[F.out];exact⟨(((HB.out.setCell (by simp) _).setCell (by simp) _).setCell (by simp) _).setCell (by simp) _,0,0,rfl⟩
    obtain rfl:j=0:=by omega
    have qT:=za (qY.out.plain Ae.out);obtain⟨W,d⟩:∃W,wr=W:=⟨_,rfl⟩
    have We:Hid (af W (w.heap.size+1) 43 #[.int .i64 5,.int .i64 0,.slice M n2 O,.int .i64 0]):=za (by rw[<-d];exact wZ.out);have Ob:Hid (af W w.heap.size 43 #[.int .i64 0,.int .i64 0,.slice none 0 0,.int .i64 0]):=za (by rw[<-d];exact sB.out);have OF:Hid (eP W (w.heap.size+2) acc (.slice M n2 O)):=za (by rw[<-d];exact mK.out);have Bp:Hid (Below w.heap.size w W):=za (by rw[<-d];exact HB.out);have UY:Hid (W.heap.size=wr.heap.size):=za (by rw[<-d]);have HW:=za d;have C:(p+1)<=s.size:=by omega
    have Wf:Hid (((0:Nat):Int)=(0:Int)):=za rfl;clear d qY Ae;have HI:Hid (∀(V:World) (i:Int),i=((((p+1)):Nat):Int)->Calls prog 36 #[.string s,.int .i64 i,.int .i64 ((deep+1:Nat):Int)] V fun e w'=>mw s V (aL f (s.data.toList.drop (((p+1))))) e w'):=za (fun V i hi=>by subst hi;exact IH.out s (((p+1))) V C hs);have E9:Hid ((deep:Int)+1=((deep+1:Nat):Int)):=za (by omega);go_wp2_with fail
    rw[E9.out];refine(HI.out _ _ (by first|rfl|omega)).mono ?_;rintro e N D;rw[HW.out]at D;have X:Hid (aL f (s.data.toList.drop (((p+1))))=none):=za (by rw[zH (by simp;omega),Cg]);rw[X.out]at D;have LD:=UY.out;obtain⟨c,v0,v1,rfl⟩:=D;have F:=za (qT.out.none X.out);have N1:=c.size;have kV:w.heap.size<N.heap.size:=by omega
    have Z:=za (Bp.out.trans (c.mono (by omega)));clear B u A x j8 j9 j7 ke U G R J I K H S;obtain⟨B,u,A,x,j8,j9,j7,ke⟩:=aS (Ob.out.ag c (by omega));clear c LD;go_wp2;refine zj (v:=bJ 0 0) (by simp[bJ,results,zY,go_sem,B,u,A,x,zA,kV]) rfl ?_;rw[F.out];refine⟨?_,0,0,rfl⟩;exact(((((Z.out.setCell (by simp) _).setCell (by simp) _).setCell (by simp) _).setCell (by simp) _).alloc (by simp[World.setCell];omega) _)
   have e7:((s[p].toNat:Int) !=44)=true:=by simp;omega
   have F:=za (hrel.out.bad aj jk tN ha);clear jk ha tN;go_wp2;refine zj (v:=bJ 0 0) (by simp[bJ,results,zY,go_sem,B,u,A,x]) rfl ?_;rw[F.out];exact⟨(((HB.out.setCell (by simp) _).setCell (by simp) _).setCell (by simp) _).setCell (by simp) _,0,0,rfl⟩
  have F:=za (hrel.out.stop (by omega));go_wp2;refine zj (v:=bJ 0 0) (by simp[bJ,results,zY,go_sem,B,u,A,x]) rfl ?_;rw[F.out];exact⟨(((HB.out.setCell (by simp) _).setCell (by simp) _).setCell (by simp) _).setCell (by simp) _,0,0,rfl⟩
theorem NC :∀(f deep:Nat),deep+f=9->∀(s:ByteArray) (at_:Nat) (w:World),at_<=s.size->s.size<=100000->
 Calls prog 36 #[.string s,.int .i64 at_,.int .i64 deep] w fun e w'=>mw s w (aL f (s.data.toList.drop at_)) e w':=by
 intro f;induction f with
 |zero=>
  intro deep l s at_ w j i;have b:Hid (aL 0 (s.data.toList.drop at_)=none):=za rfl;generalize aL 0 (s.data.toList.drop at_)=R at*;have h:8<deep:=by omega
  clear l;by_cases d:at_<s.size
  ·go_enter yJ,yB
   go_wp2;refine zj (v:=bJ 0 0) (by simp[bJ,results,zY,go_sem,b]) rfl ?_;rw[b.out];exact⟨bT,0,0,rfl⟩
  go_enter yJ,yB
  go_wp2;refine zj (v:=bJ 0 0) (by simp[bJ,results,zY,go_sem,b]) rfl ?_;rw[b.out];exact⟨bT,0,0,rfl⟩
 |succ f ih=>
  intro deep l s at_ w j i;have k:=za (fun s at_ w=>ih (deep+1) (by omega) s at_ w);have h:deep<=8:=by omega
  clear ih l;obtain⟨R,c⟩:∃R,Hid (aL (f+1) (s.data.toList.drop at_)=R):=⟨_,za rfl⟩
  rw[c.out];by_cases d:at_<s.size
  ·by_cases m:s[at_].toNat=91
   ·exact Dk f deep h k s at_ w j i R c d m
   by_cases n:s[at_].toNat=123
   ·exact wz f deep h k s at_ w j i R c d n
   exact FY f deep h k s at_ w j i R c d m n
  have b:Hid (R=none):=za (by rw[<-c.out,zH (by simp;omega),Cg]);clear c;go_enter yJ,yB
  go_wp2;refine zj (v:=bJ 0 0) (by simp[bJ,results,zY,go_sem,b]) rfl ?_;rw[b.out];exact⟨bT,0,0,rfl⟩
theorem tr {p:List UInt8->Option (Ty×List UInt8)}(j:∀l y r,p l=some (y,r)->y.count+r.length<=l.length):∀n l acc i y r,fI p n l acc i=some (y,r)->y.count+r.length<=ba acc+l.length
 |0,_,_,_,_,_,h=>by simp[fI]at h
 |n+1,[],_,_,_,_,h=>by simp[fI]at h
 |n+1,c::l,acc,i,y,r,h=>by
  unfold fI at h;split at h
  ·injection h with h;injection h with b d;rw[<-b,<-d];simp[Ty.count];omega
  split at h
  ·cases h
  rename_i m b
  split at h
  ·cases h
  rename_i w s d
  split at h
  ·cases h
  rename_i q u k
  have k1:=(BM b).length_le;have k2:=(Ke d).length_le;have o:=j _ _ _ k;have e:=tr j n _ _ _ _ _ h;rw[fT]at e;simp only[ba]at e;omega
theorem nL :∀(f:Nat) (l:List UInt8) (y:Ty) (r:List UInt8),aL f l=some (y,r)->y.count+r.length<=l.length
 |0,_,_,_,h=>by simp[aL]at h
 |f+1,[],_,_,h=>by simp[aL]at h
 |f+1,c::l,y,r,h=>by
  have e:=(gF _ _ _ _ h).2;have m:=gF _ _ _ _ h;unfold aL at h;split at h
  ·split at h
   ·cases h
   split at h
   ·injection h with h;injection h with b h2;subst b;simp[Ty.count,ba]at e⊢;omega
   cases h
  split at h
  ·split at h
   ·cases h
   injection h with h;injection h with b h2;subst b;simp[Ty.count,ba]at e⊢;omega
  split at h
  ·split at h
   ·cases h
   injection h with h;injection h with b h2;subst b;simp[Ty.count,ba]at e⊢;omega
  split at h
  ·split at h
   ·cases h
   rename_i x i b
   have k1:=nL f _ _ _ b;have k2:=BO h;have j:y.count=1+x.count:=by
    unfold gU at h;match i,h with
    |d::i,h=>
     simp only at h;split at h
     ·split at h
      ·cases h
      ·cases h
      split at h
      ·injection h with h;injection h with h3 h4;rw[<-h3];simp[Ty.count,ba]
      cases h
     cases h
   have:=k2.2;simp;omega
  split at h
  ·have k:=tr (nL f) _ _ _ _ _ _ h;simp[ba]at k⊢;omega
  cases h
def Vw :Option (Ty×List UInt8)->Option Ty
 |none=>none
 |some (x,[])=>if x.may then some x else none
 |some (_,_::_)=>none
theorem ND (l:List UInt8):cS l=Vw (aL 8 l):=by
 unfold cS;rcases aL 8 l with _|⟨x,r⟩
 ·rfl
 cases r<;>rfl
theorem Jg (s:ByteArray)(w:World)(i:s.size<=100000):
 Calls prog 13 #[.string s] w fun e w'=>Fq w (cS s.data.toList) e w':=by
 have K:=za (NC 8 1 rfl s 0 (w.alloc (.cells #[.int .i64 0,.int .i64 0,.slice none 0 0,.int .i64 0] 43)) (yk _) i);obtain⟨T,J⟩:∃T,Hid (aL 8 s.data.toList=T):=⟨_,za rfl⟩
 rw[zL,J.out]at K;obtain⟨R,O⟩:∃R,Hid (cS s.data.toList=R):=⟨_,za rfl⟩
 rw[O.out];have U:Hid (Vw T=R):=za (by rw[<-O.out,ND,J.out]);clear O;cases T with
 |none=>
  have p:Hid (R=none):=za U.out.symm;go_enter func13,ntmps13
  go_wp2_with fail
  refine K.out.mono ?_;rintro e h ⟨b,v0,v1,rfl⟩;have d:=(af.new w 43 #[.int .i64 0,.int .i64 0,.slice none 0 0,.int .i64 0]).ag b (by simp);have S:=za d;obtain⟨o,j,l,n,H,F,I,M⟩:=aS d;have hz:=b.size;simp only[zq]at hz;have A:w.heap.size<h.heap.size:=by omega
  have B:Hid (Below w.heap.size w h):=za (((zm w.heap.size w).alloc (zg _) _).trans (b.mono (by simp)));clear b d;have n1:((-1:Int) !=(s.size:Int))=true:=by simp
  go_wp2;refine zj (v:= .tuple #[.agg #[.int .i64 0,.int .i64 0,.slice none 0 0,.int .i64 0],.int .i64 3]) (by simp[results,results13,go_sem,o,j,l,n,zA,A]) rfl ?_;rw[p.out];exact⟨(((((B.out.setCell (by simp) _).setCell (by simp) _).setCell (by simp) _).setCell (by simp) _).alloc (by simp[World.setCell];omega) _),rfl⟩
 |some z=>
  obtain⟨x,r⟩:=z;have N:=nL _ _ _ _ J.out;have G:=(gF _ _ _ _ J.out).2;rw[aa]at N G;cases r with
  |cons c r=>
   have p:Hid (R=none):=za U.out.symm;have n1:(((s.size-(c::r).length:Nat):Int) !=(s.size:Int))=true:=by simp at G⊢;omega
   have n2:((s.size-(c::r).length) !=s.size)=true:=by simp at G⊢;omega
   generalize s.size-(c::r).length=q at*;go_enter func13,ntmps13
   go_wp2_with fail
   refine K.out.mono ?_;rintro e h ⟨b,c0,c1,c2,c3,rfl,C⟩;obtain⟨y,u,rfl,rfl,rfl,rfl,_⟩:=C.open_;have d:=(af.new w 43 #[.int .i64 0,.int .i64 0,.slice none 0 0,.int .i64 0]).ag b (by simp);have S:=za d;obtain⟨o,j,l,n,H,F,I,M⟩:=aS d;have hz:=b.size;simp only[zq]at hz;have A:w.heap.size<h.heap.size:=by omega
   have B:Hid (Below w.heap.size w h):=za (((zm w.heap.size w).alloc (zg _) _).trans (b.mono (by simp)));clear b d;go_wp2;refine zj (v:= .tuple #[.agg #[.int .i64 0,.int .i64 0,.slice none 0 0,.int .i64 0],.int .i64 3]) (by simp[results,results13,go_sem,o,j,l,n,zA,A]) rfl ?_;rw[p.out];exact⟨(((((B.out.setCell (by simp) _).setCell (by simp) _).setCell (by simp) _).setCell (by simp) _).alloc (by simp[World.setCell];omega) _),rfl⟩
  |nil=>
   have n1:((s.size:Int) !=(s.size:Int))=false:=by simp
   have n2:(s.size !=s.size)=false:=by simp
   have ad:=za N;obtain⟨m,E⟩:∃m,x.may=m:=⟨_,rfl⟩
   have p:Hid (R=if m then some x else none):=za (by rw[<-E];exact U.out.symm);clear N G;go_enter func13,ntmps13
   go_wp2_with fail
   refine K.out.mono ?_;rintro e h ⟨b,c0,c1,c2,c3,rfl,C⟩;have Y:=za C;obtain⟨y,u,rfl,rfl,rfl,rfl,_⟩:=C.open_;have d:=(af.new w 43 #[.int .i64 0,.int .i64 0,.slice none 0 0,.int .i64 0]).ag b (by simp);have S:=za d;obtain⟨o,j,l,n,H,F,I,M⟩:=aS d;have hz:=b.size;simp only[zq]at hz;have A:w.heap.size<h.heap.size:=by omega
   have B:Hid (Below w.heap.size w h):=za (((zm w.heap.size w).alloc (zg _) _).trans (b.mono (by simp)));clear b d;have Z:=fK.Fg x (Y.out.below ((zm _ _).alloc (zg _) (.cells #[.int .i64 x.kind,.int .i64 x.size,.slice y x.sub.length u,.int .i64 x.tail] 43)));have W:=za (KJ x _ (h.alloc (.cells #[.int .i64 x.kind,.int .i64 x.size,.slice y x.sub.length u,.int .i64 x.tail] 43)) _ _ _ _ Z (zg _) (by have:=ad.out;omega));rw[E]at W;have ae:=za E;clear Z E C;go_wp2_with fail
   refine W.out.mono ?_;rintro e w5 ⟨rfl,D⟩;clear o j l n H F I M;obtain⟨o,j,l,n,H,F,I,M⟩:=aS ((S.out.alloc _).ag D (by simp;omega));obtain⟨b0,b1,b2,b3,kO,kP,kQ,kR⟩:=aS ((af.new h 43 #[.int .i64 x.kind,.int .i64 x.size,.slice y x.sub.length u,.int .i64 x.tail]).ag D (by simp));have X:Hid (Below w.heap.size w w5):=za ((B.out.alloc (by omega) _).trans (D.mono (by simp;omega)));have ab:=za ((Y.out.below ((zm _ _).alloc (zg _) (.cells #[.int .i64 x.kind,.int .i64 x.size,.slice y x.sub.length u,.int .i64 x.tail] 43))).below D);clear D;cases m with
   |true=>
    go_wp2;refine zj (v:= .tuple #[.agg #[.int .i64 x.kind,.int .i64 x.size,.slice y x.sub.length u,.int .i64 x.tail],.int .i64 0]) (by simp[results,results13,go_sem,o,j,l,n]) rfl ?_;rw[p.out];refine⟨(((X.out.setCell (by simp) _).setCell (by simp) _).setCell (by simp) _).setCell (by simp) _,_,_,_,_,rfl, ?_⟩;refine ab.out.only (L:= [w.heap.size]) CL ?_ ?_
    ·intro k hk i;have hk:k=w.heap.size:=by simpa using hk
     have i:(w.alloc (.cells #[.int .i64 0,.int .i64 0,.slice none 0 0,.int .i64 0] 43)).heap.size<=k:=i;simp at i;omega
    intro k _ i;have i:(w.alloc (.cells #[.int .i64 0,.int .i64 0,.slice none 0 0,.int .i64 0] 43)).heap.size<=k:=i;simp at i;show w.heap.size<=k
    omega
   |false=>
    go_wp2;refine zj (v:= .tuple #[.agg #[.int .i64 0,.int .i64 0,.slice none 0 0,.int .i64 0],.int .i64 3]) (by simp[results,results13,go_sem,o,j,l,n,zA,A]) rfl ?_;rw[p.out];exact⟨(((X.out.setCell (by simp) _).setCell (by simp) _).setCell (by simp) _).setCell (by simp) _,rfl⟩
