/- The document's parse of types: a List. -/
import Derived.Test.YtdbmifjankgfpaaGreatDoorKA23
set_option linter.all false
set_option maxRecDepth 100000
set_option maxHeartbeats 3200000
open Go.Proofs.Tryz
namespace Go.Proofs.YtdbmifjankgfpaaGreatDoor
open Go.RowKit
theorem DD (f deep:Nat)(SY:deep<=8)(IH:Hid (∀(s:ByteArray) (at_:Nat) (w:World),at_<=s.size->s.size<=100000->
 Calls prog 36 #[.string s,.int .i64 at_,.int .i64 ((deep+1:Nat):Int)] w fun e w'=>my s w (aJ f (s.data.toList.drop at_)) e w')) (s:ByteArray) (at_:Nat) (w:World) (cX:at_<=s.size) (E:s.size<=100000)
 (R:Option (Ty×List UInt8)) (HR:Hid (aJ (f+1) (s.data.toList.drop at_)=R)) (aD:at_<s.size) (Rb:s[at_].toNat=91):
 Calls prog 36 #[.string s,.int .i64 at_,.int .i64 deep] w fun e w'=>my s w R e w':=by
 have d1:decide (s.size<=at_)=false:=by simp;omega
 have d2:decide ((8:Int)<(deep:Int))=false:=by simp;omega
 have HC:Hid (aJ (f+1) (s[at_]::s.data.toList.drop (at_+1))=R):=za (by rw[<-drop_cons s at_ aD];exact HR.out);have G:=za (fun w=>py s (at_+1) w (by omega) E);have E8:Hid (((at_+1:Nat):Int)=(at_:Int)+1):=za (by omega);obtain⟨N,Y⟩:∃N,Hid (cw (s.data.toList.drop (at_+1))=N):=⟨_,za rfl⟩
 rw[Y.out,E8.out]at G;clear HR;have e1:((s[at_].toNat:Int)==117)=false:=zm.2 (by omega);have e2:((s[at_].toNat:Int)==98)=false:=zm.2 (by omega);have e3:((s[at_].toNat:Int)==115)=false:=zm.2 (by omega);have e4:((s[at_].toNat:Int)==91)=true:=by simp[Rb]
 have AI:Hid (u9 (aJ f (s.data.toList.drop (at_+1)))=R):=za (by rw[<-HC.out,show s[at_]=91 from zO.1 Rb,Ko]);have D:=za (IH.out s (at_+1) (w.alloc (.cells #[.int .i64 0,.int .i64 0,.slice none 0 0,.int .i64 0] 43)) (by omega) E);have J:Hid ((deep:Int)+1=((deep+1:Nat):Int)):=za (by omega);obtain⟨T,HT⟩:∃T,Hid (aJ f (s.data.toList.drop (at_+1))=T):=⟨_,za rfl⟩
 rw[HT.out]at AI D;rw[E8.out]at D;clear Rb HC G Y;cases T with
 |none=>
  have j:Hid (R=none):=za AI.out.symm;clear AI;go_enter yH,yy
  go_wp2_with fail
  rw[J.out];refine D.out.mono ?_;rintro e b ⟨c,v0,v1,rfl⟩;have h:=(af.new w 43 #[.int .i64 0,.int .i64 0,.slice none 0 0,.int .i64 0]).ag c (by simp);obtain⟨o,l,r,i,U,W,M,O⟩:=aU h;have hz:=c.size;simp only[zp]at hz;have p:w.heap.size<b.heap.size:=by omega
  have K:w.heap.size<b.heap.size+1:=by omega
  have m:Hid (Below w.heap.size w b):=za (((zl w.heap.size w).alloc (zd _) _).trans (c.mono (by simp)));clear c h;go_wp2;refine zk (v:=bJ 0 0) (by simp[bJ,results,zS,go_sem,o,l,r,i,zz,p]) rfl ?_;rw[j.out];refine⟨?_,0,0,rfl⟩;exact(((((m.out.setCell (by simp) _).setCell (by simp) _).setCell (by simp) _).setCell (by simp) _).alloc (by simp[World.setCell];omega) _)
 |some z=>
  obtain⟨x,ad⟩:=z;obtain⟨k1,k2⟩:=gA _ _ _ _ HT.out;obtain⟨k3,k4⟩:=vd (by omega) k1;have k5:s.size-ad.length<=s.size:=by omega
  have J':=za k3;obtain⟨q,hq⟩:∃q,s.size-ad.length=q:=⟨_,rfl⟩
  rw[hq]at k4 k5 J';have S:=za hq;have X:Hid (gP x (s.data.toList.drop q)=R):=za (by rw[J'.out];exact AI.out);clear AI k1 k2 k3;by_cases Bx:q<s.size
  ·by_cases Z:s[q].toNat=58
   ·have f1:((s[q].toNat:Int) !=58)=false:=by simp[Z]
    obtain⟨N,Y⟩:∃N,Hid (cw (s.data.toList.drop (q+1))=N):=⟨_,za rfl⟩
    have H:Hid (je x N=R):=za (by rw[<-Y.out,<-nh,<-X.out,drop_cons s q Bx,show s[q]=58 from zO.1 Z]);have G:=za (fun w=>py s (q+1) w (by omega) E);have E7:Hid (((q+1:Nat):Int)=(q:Int)+1):=za (by omega);rw[Y.out,E7.out]at G;clear X Z;cases N with
    |none=>
     have j:Hid (R=none):=za H.out.symm;clear H;go_enter yH,yy
     go_wp2_with fail
     rw[J.out];refine D.out.mono ?_;rintro e b ⟨c,c0,c1,c2,c3,rfl,d⟩;rw[S.out];have h:=(af.new w 43 #[.int .i64 0,.int .i64 0,.slice none 0 0,.int .i64 0]).ag c (by simp);obtain⟨o,l,r,i,U,W,M,O⟩:=aU h;have hz:=c.size;simp only[zp]at hz;have p:w.heap.size<b.heap.size:=by omega
     have K:w.heap.size<b.heap.size+1:=by omega
     have m:Hid (Below w.heap.size w b):=za (((zl w.heap.size w).alloc (zd _) _).trans (c.mono (by simp)));have y:=za d;simp only[zp]at y;obtain⟨F,I,rfl,rfl,rfl,rfl,A,C,B,_⟩:=d.open_;clear c h d A C B;go_wp2_with fail
     refine(G.out _).mono ?_;rintro e w' ⟨rfl,rfl⟩;simp only[eu];go_wp2;refine zk (v:=bJ 0 0) (by simp[bJ,results,zS,go_sem,o,l,r,i,zz,p]) rfl ?_;rw[j.out];refine⟨?_,0,0,rfl⟩;exact(((((m.out.setCell (by simp) _).setCell (by simp) _).setCell (by simp) _).setCell (by simp) _).alloc (by simp[World.setCell];omega) _)
    |some z2=>
     obtain⟨n,r2⟩:=z2;obtain⟨gG,iB,DY,RA⟩:=qg (by omega) Y.out;obtain⟨u,ab⟩:∃u,s.size-r2.length=u:=⟨_,rfl⟩
     rw[ab]at gG iB DY;have N3:=za ab;have aa:=za gG;clear gG;by_cases ah:u<s.size
     ·have pY:Hid (r2=s[u]::s.data.toList.drop (u+1)):=za (by rw[<-aa.out,drop_cons s u ah]);by_cases Wa:s[u].toNat=93
      ·have f2:((s[u].toNat:Int) !=93)=false:=by simp[Wa]
       have j:Hid (R=some (.mk 4 n [x] 0,s.data.toList.drop (u+1))):=za (by rw[<-H.out,pY.out];simp[je,Wa]);have ag:=za (ti s (u+1) (by omega));clear H Wa;go_enter yH,yy
       go_wp2_with fail
       rw[J.out];refine D.out.mono ?_;rintro e b ⟨c,c0,c1,c2,c3,rfl,d⟩;rw[S.out];have h:=(af.new w 43 #[.int .i64 0,.int .i64 0,.slice none 0 0,.int .i64 0]).ag c (by simp);obtain⟨o,l,r,i,U,W,M,O⟩:=aU h;have hz:=c.size;simp only[zp]at hz;have p:w.heap.size<b.heap.size:=by omega
       have K:w.heap.size<b.heap.size+1:=by omega
       have m:Hid (Below w.heap.size w b):=za (((zl w.heap.size w).alloc (zd _) _).trans (c.mono (by simp)));have y:=za d;simp only[zp]at y;obtain⟨F,I,rfl,rfl,rfl,rfl,A,C,B,_⟩:=d.open_;clear c h d A C B;go_wp2_with fail
       refine(G.out _).mono ?_;rintro e w' ⟨rfl,rfl⟩;simp only[eu,N3.out];go_wp2;refine zk (v:= .tuple #[.agg #[.int .i64 4,.int .i64 n,.slice (some ⟨b.heap.size+1,0,none⟩) 1 1,.int .i64 0],.int .i64 ((u:Int)+1)]) (by simp[results,zS,go_sem,o,l,r,i,zz,p,K]) rfl ?_;rw[j.out];refine⟨((((((m.out.setCell (by simp) _).setCell (by simp) _).setCell (by simp) _).setCell (by simp) _).alloc (by simp[World.setCell];omega) _).alloc (by simp[World.setCell];omega) _),_,_,_,_,by rw[ag.out];go_num, ?_⟩;have kQ:ae [w.heap.size] b ((((((b.setCell ⟨w.heap.size,0,none⟩ (.int .i64 4)).setCell ⟨w.heap.size,1,none⟩ (.int .i64 n)).setCell ⟨w.heap.size,2,none⟩ (.slice (some ⟨b.heap.size+1,0,none⟩) 1 1)).setCell ⟨w.heap.size,3,none⟩ (.int .i64 0)).alloc (.cells #[.int .i64 x.kind,.int .i64 x.size,.slice F x.sub.length I,.int .i64 x.tail] 43)).alloc (.cells #[.int .i64 x.kind,.int .i64 x.size,.slice F x.sub.length I,.int .i64 x.tail] 43)):=C2;refine⟨rfl,rfl,rfl,aA (by omega) (by omega),aA (by omega) (by omega),aA (by omega) (by omega),by simp,_,1,rfl,by simp,by simp,⟨⟨b.heap.size+1,0,.int .i64 x.kind,.int .i64 x.size,.slice F x.sub.length I,.int .i64 x.tail,rfl, ?_, ?_, ?_, ?_, ?_, ?_⟩,trivial⟩⟩
       ·show w.heap.size<=b.heap.size+1
        omega
       ·exact(Dr _ _ _ (b.heap.size+1) (by simp[World.setCell])).cell 0
       ·exact(Dr _ _ _ (b.heap.size+1) (by simp[World.setCell])).cell 1
       ·exact(Dr _ _ _ (b.heap.size+1) (by simp[World.setCell])).cell 2
       ·exact(Dr _ _ _ (b.heap.size+1) (by simp[World.setCell])).cell 3
       refine y.out.only (L:= [w.heap.size]) kQ ?_ ?_
       ·intro k hk E;have hk:k=w.heap.size:=by simpa using hk
        have E:w.heap.size+1<=k:=E;omega
       intro k _ E;have E:w.heap.size+1<=k:=E;show w.heap.size<=k
       omega
      have f2:((s[u].toNat:Int) !=93)=true:=by simp;omega
      have j:Hid (R=none):=za (by rw[<-H.out,pY.out];simp[je,Wa]);clear H Wa;go_enter yH,yy
      go_wp2_with fail
      rw[J.out];refine D.out.mono ?_;rintro e b ⟨c,c0,c1,c2,c3,rfl,d⟩;rw[S.out];have h:=(af.new w 43 #[.int .i64 0,.int .i64 0,.slice none 0 0,.int .i64 0]).ag c (by simp);obtain⟨o,l,r,i,U,W,M,O⟩:=aU h;have hz:=c.size;simp only[zp]at hz;have p:w.heap.size<b.heap.size:=by omega
      have K:w.heap.size<b.heap.size+1:=by omega
      have m:Hid (Below w.heap.size w b):=za (((zl w.heap.size w).alloc (zd _) _).trans (c.mono (by simp)));have y:=za d;simp only[zp]at y;obtain⟨F,I,rfl,rfl,rfl,rfl,A,C,B,_⟩:=d.open_;clear c h d A C B;go_wp2_with fail
      refine(G.out _).mono ?_;rintro e w' ⟨rfl,rfl⟩;simp only[eu,N3.out];go_wp2;refine zk (v:=bJ 0 0) (by simp[bJ,results,zS,go_sem,o,l,r,i,zz,p]) rfl ?_;rw[j.out];refine⟨?_,0,0,rfl⟩;exact(((((m.out.setCell (by simp) _).setCell (by simp) _).setCell (by simp) _).setCell (by simp) _).alloc (by simp[World.setCell];omega) _)
     have j:Hid (R=none):=za (by rw[<-H.out,<-aa.out,zI (by simp;omega)];rfl);clear H;go_enter yH,yy
     go_wp2_with fail
     rw[J.out];refine D.out.mono ?_;rintro e b ⟨c,c0,c1,c2,c3,rfl,d⟩;rw[S.out];have h:=(af.new w 43 #[.int .i64 0,.int .i64 0,.slice none 0 0,.int .i64 0]).ag c (by simp);obtain⟨o,l,r,i,U,W,M,O⟩:=aU h;have hz:=c.size;simp only[zp]at hz;have p:w.heap.size<b.heap.size:=by omega
     have K:w.heap.size<b.heap.size+1:=by omega
     have m:Hid (Below w.heap.size w b):=za (((zl w.heap.size w).alloc (zd _) _).trans (c.mono (by simp)));have y:=za d;simp only[zp]at y;obtain⟨F,I,rfl,rfl,rfl,rfl,A,C,B,_⟩:=d.open_;clear c h d A C B;go_wp2_with fail
     refine(G.out _).mono ?_;rintro e w' ⟨rfl,rfl⟩;simp only[eu,N3.out];go_wp2;refine zk (v:=bJ 0 0) (by simp[bJ,results,zS,go_sem,o,l,r,i,zz,p]) rfl ?_;rw[j.out];refine⟨?_,0,0,rfl⟩;exact(((((m.out.setCell (by simp) _).setCell (by simp) _).setCell (by simp) _).setCell (by simp) _).alloc (by simp[World.setCell];omega) _)
   have f1:((s[q].toNat:Int) !=58)=true:=by simp;omega
   have j:Hid (R=none):=za (by rw[<-X.out,drop_cons s q Bx,u' _ _ _ Z]);clear X Z;go_enter yH,yy
   go_wp2_with fail
   rw[J.out];refine D.out.mono ?_;rintro e b ⟨c,c0,c1,c2,c3,rfl,d⟩;rw[S.out];have h:=(af.new w 43 #[.int .i64 0,.int .i64 0,.slice none 0 0,.int .i64 0]).ag c (by simp);obtain⟨o,l,r,i,U,W,M,O⟩:=aU h;have hz:=c.size;simp only[zp]at hz;have p:w.heap.size<b.heap.size:=by omega
   have K:w.heap.size<b.heap.size+1:=by omega
   have m:Hid (Below w.heap.size w b):=za (((zl w.heap.size w).alloc (zd _) _).trans (c.mono (by simp)));have y:=za d;simp only[zp]at y;obtain⟨F,I,rfl,rfl,rfl,rfl,A,C,B,_⟩:=d.open_;clear c h d A C B;go_wp2;refine zk (v:=bJ 0 0) (by simp[bJ,results,zS,go_sem,o,l,r,i,zz,p]) rfl ?_;rw[j.out];refine⟨?_,0,0,rfl⟩;exact(((((m.out.setCell (by simp) _).setCell (by simp) _).setCell (by simp) _).setCell (by simp) _).alloc (by simp[World.setCell];omega) _)
  have j:Hid (R=none):=za (by rw[<-X.out,zI (by simp;omega)];rfl);clear X;go_enter yH,yy
  go_wp2_with fail
  rw[J.out];refine D.out.mono ?_;rintro e b ⟨c,c0,c1,c2,c3,rfl,d⟩;rw[S.out];have h:=(af.new w 43 #[.int .i64 0,.int .i64 0,.slice none 0 0,.int .i64 0]).ag c (by simp);obtain⟨o,l,r,i,U,W,M,O⟩:=aU h;have hz:=c.size;simp only[zp]at hz;have p:w.heap.size<b.heap.size:=by omega
  have K:w.heap.size<b.heap.size+1:=by omega
  have m:Hid (Below w.heap.size w b):=za (((zl w.heap.size w).alloc (zd _) _).trans (c.mono (by simp)));have y:=za d;simp only[zp]at y;obtain⟨F,I,rfl,rfl,rfl,rfl,A,C,B,_⟩:=d.open_;clear c h d A C B;go_wp2;refine zk (v:=bJ 0 0) (by simp[bJ,results,zS,go_sem,o,l,r,i,zz,p]) rfl ?_;rw[j.out];refine⟨?_,0,0,rfl⟩;exact(((((m.out.setCell (by simp) _).setCell (by simp) _).setCell (by simp) _).setCell (by simp) _).alloc (by simp[World.setCell];omega) _)
theorem wH (f deep:Nat)(SY:deep<=8)(IH:Hid (∀(s:ByteArray) (at_:Nat) (w:World),at_<=s.size->s.size<=100000->
 Calls prog 36 #[.string s,.int .i64 at_,.int .i64 ((deep+1:Nat):Int)] w fun e w'=>my s w (aJ f (s.data.toList.drop at_)) e w')) (s:ByteArray) (at_:Nat) (w:World) (cX:at_<=s.size) (hs:s.size<=100000)
 (aa:Option (Ty×List UInt8)) (HR:Hid (aJ (f+1) (s.data.toList.drop at_)=aa)) (aD:at_<s.size) (al:s[at_].toNat=123):
 Calls prog 36 #[.string s,.int .i64 at_,.int .i64 deep] w fun e w'=>my s w aa e w':=by
 have d1:decide (s.size<=at_)=false:=by simp;omega
 have d2:decide ((8:Int)<(deep:Int))=false:=by simp;omega
 have HC:Hid (aJ (f+1) (s[at_]::s.data.toList.drop (at_+1))=aa):=za (by rw[<-drop_cons s at_ aD];exact HR.out);obtain⟨ao,HN⟩:∃ao,Hid (cw (s.data.toList.drop (at_+1))=ao):=⟨_,za rfl⟩
 clear HR;have e1:((s[at_].toNat:Int)==117)=false:=zm.2 (by omega);have e2:((s[at_].toNat:Int)==98)=false:=zm.2 (by omega);have e3:((s[at_].toNat:Int)==115)=false:=zm.2 (by omega);have e4:((s[at_].toNat:Int)==91)=false:=zm.2 (by omega);have e5:((s[at_].toNat:Int) !=123)=false:=by simp[al]
 have BB:Hid (eR f s aa (at_+1) [] 0):=za ⟨_,by
  have h1:=HC.out;rw[show s[at_]=123 from zO.1 al,Kp]at h1;exact h1,by omega⟩
 clear al HC HN;go_enter yH,yy
 go_wp2_with fail
 go_loopw [1] (fun i wr=>∃(p:Nat) (acc:List Ty) (j:Nat) (vv:Value),p<=s.size/\i= .int .i64 p/\Hid (eR f s aa p acc j)/\acc.length<=p/\j<=p/\af wr w.heap.size 43 #[.int .i64 0,.int .i64 0,.slice none 0 0,.int .i64 0]/\af wr (w.heap.size+1) 43 #[.int .i64 5,.int .i64 0,vv,.int .i64 j]/\eP wr (w.heap.size+2) acc vv/\Below w.heap.size w wr/\w.heap.size+2<=wr.heap.size) (fun i _=>s.size-(intOf i).toNat)
 case atStart=>
  have aH:=af.new (w.alloc (.cells #[.int .i64 0,.int .i64 0,.slice none 0 0,.int .i64 0] 43)) 43 #[.int .i64 5,.int .i64 0,.slice none 0 0,.int .i64 0];exact⟨at_+1,[],0,.slice none 0 0,by omega,by go_num,BB,by simp,by omega,(af.new _ _ _).alloc _,by simpa using aH,eP.nil _ _,bQ,by simp⟩
 case round=>
  obtain⟨p,acc,j,vv,hp,rfl,hrel,ak,uC,LO,kf,lJ,an,UF⟩:=hrel;have iI:=za LO;have Aq:=za kf;have kW:=za lJ;have HB:=za an;obtain⟨R,n2,M,rfl,DV,av,aw⟩:=lJ.bT;obtain⟨A,x,B,u,j7,j5,j6,kg⟩:=aU LO;obtain⟨K,J,G,N,S,I,U,O⟩:=aU kf;clear LO kf lJ an BB;by_cases aj:p<s.size
  ·by_cases jk:s[p].toNat=125
   ·have e6:((s[p].toNat:Int) !=125)=false:=by simp[jk]
    have F:=za (hrel.out.ends aj jk);have au:=za (ti s (p+1) (by omega));clear jk;go_wp2;refine zk (v:= .tuple #[.agg #[.int .i64 5,.int .i64 0,.slice R n2 M,.int .i64 j],.int .i64 ((p:Int)+1)]) (by simp[results,zS,go_sem,A,x,B,u]) rfl ?_;rw[F.out];refine⟨(((HB.out.setCell (by simp) _).setCell (by simp) _).setCell (by simp) _).setCell (by simp) _,_,_,_,_,by rw[au.out];go_num, ?_⟩;have ar:eP _ (w.heap.size+2) acc (.slice R n2 M):=kW.out.only (L:= [w.heap.size]) (w':=(((wr.setCell ⟨w.heap.size,0,none⟩ (.int .i64 5)).setCell ⟨w.heap.size,1,none⟩ (.int .i64 0)).setCell ⟨w.heap.size,2,none⟩ (.slice R n2 M)).setCell ⟨w.heap.size,3,none⟩ (.int .i64 j)) (((((ae.refl _ _).setCell (by simp) _).setCell (by simp) _).setCell (by simp) _).setCell (by simp) _) (by simp);refine fD.fe (ar.ty (by omega) (aA (by omega) (by omega)) (aA (by omega) (by omega)) (aA (by omega) (by omega))) fun k _ Y=> ?_
    have Y:w.heap.size+2<=k:=Y;show w.heap.size<=k
    omega
   have e6:((s[p].toNat:Int) !=125)=true:=by simp;omega
   by_cases ha:acc= []
   ·subst ha;have rr:=za (hrel.out.first aj jk);obtain rfl:n2=0:=DV.out;clear jk;have Bx:=aj;by_cases D4:s[p].toNat=63
    ·have e8:((s[p].toNat:Int)==63)=true:=by simp[D4]
     have rk:=za (rr.out.mark Bx D4);obtain⟨W,d⟩:∃W,wr.setCell ⟨w.heap.size+1,3,none⟩ (.int .i64 ((j:Int)+1))=W:=⟨_,rfl⟩
     have Ws:Hid (af W (w.heap.size+1) 43 #[.int .i64 5,.int .i64 0,.slice R 0 M,.int .i64 ((j:Int)+1)]):=za (by rw[<-d];exact Aq.out.store rfl);have Od:Hid (af W w.heap.size 43 #[.int .i64 0,.int .i64 0,.slice none 0 0,.int .i64 0]):=za (by rw[<-d];exact iI.out.dK (by simp) _);have OK:Hid (eP W (w.heap.size+2) [] (.slice R 0 M)):=za (by rw[<-d];exact kW.out.only ((ae.refl [w.heap.size+1] wr).setCell (by simp) _) (by simp));have Bz:Hid (Below w.heap.size w W):=za (by rw[<-d];exact HB.out.setCell (by simp) _);have UZ:Hid (W.heap.size=wr.heap.size):=za (by rw[<-d];simp[World.setCell]);have HW:=za d;have C:p+1<=s.size:=by omega
     have Wr:Hid (((j+1:Nat):Int)=(j:Int)+1):=za (by omega);clear D4 d rr;have HI:Hid (∀(V:World) (i:Int),i=(((p+1):Nat):Int)->Calls prog 36 #[.string s,.int .i64 i,.int .i64 ((deep+1:Nat):Int)] V fun e w'=>my s V (aJ f (s.data.toList.drop ((p+1)))) e w'):=za (fun V i hi=>by subst hi;exact IH.out s ((p+1)) V C hs);have E9:Hid ((deep:Int)+1=((deep+1:Nat):Int)):=za (by omega);go_wp2_with fail
     rw[E9.out];refine(HI.out _ _ (by first|rfl|omega)).mono ?_;rintro e H E;rw[HW.out]at E;obtain⟨T,X⟩:∃T,Hid (aJ f (s.data.toList.drop ((p+1)))=T):=⟨_,za rfl⟩
     rw[X.out]at E;have L3:=UZ.out;cases T with
     |none=>
      obtain⟨c,v0,v1,rfl⟩:=E;have F:=za (rk.out.none X.out);have JS:=c.size;have jI:w.heap.size<H.heap.size:=by omega
      have Z:=za (Bz.out.trans (c.mono (by omega)));clear A x B u j7 j5 j6 kg K J G N S I U O;obtain⟨A,x,B,u,j7,j5,j6,kg⟩:=aU (Od.out.ag c (by omega));clear c L3;go_wp2;refine zk (v:=bJ 0 0) (by simp[bJ,results,zS,go_sem,A,x,B,u,zz,jI]) rfl ?_;rw[F.out];refine⟨?_,0,0,rfl⟩;exact(((((Z.out.setCell (by simp) _).setCell (by simp) _).setCell (by simp) _).setCell (by simp) _).alloc (by simp[World.setCell];omega) _)
     |some z=>
      obtain⟨y,ai⟩:=z;obtain⟨c,c0,c1,c2,c3,rfl,hy⟩:=E;obtain⟨HN,oC,Ke⟩:=rk.out.some C X.out;have BB:=za HN;have JS:=c.size;have LW:=za (Ws.out.ag c (by omega));have ad:=za (Od.out.ag c (by omega));have ab:=za (OK.out.below c);have Z:=za (Bz.out.trans (c.mono (by omega)));have ke:=OK.out.ge;have HY:Hid (∀o o',fD ((H.alloc o).alloc o') (fun k=>w.heap.size+2<=k/\(Value.slice R 0 M).ownBlock≠some k) y c0 c1 c2 c3):=za (by
       intro o o';refine fD.ag ?_ ?_ y hy
       ·intro k Y hS;have hS:W.heap.size<=k:=hS;exact⟨by omega,fun e=>by have:=(ke k e).2;omega⟩
       intro q C _;rw[zz _ _ _ (by rw[zp];omega),zz _ _ _ C])
      have jI:w.heap.size<H.heap.size:=by omega
      have sC:w.heap.size+1<H.heap.size:=by omega
      have CP:=za ke;obtain⟨AA,mq,rfl,rfl,rfl,rfl,_⟩:=hy.open_;clear A x B u j7 j5 j6 kg K J G N S I U O hy HN ke c L3;obtain⟨K,J,G,N,S,I,U,O⟩:=aU LW.out;generalize s.size-ai.length=pq at*;go_wp2_with (at_builtin;refine cA (by rfl) (.tmp 181) (.tmp 183) (by rfl) (w.heap.size+2) [] (by rfl) ((ab.out.below ((zl _ _).alloc (zd _) _)).below ((zl _ _).alloc (zd _) _)) y (HY.out _ _) _ (by rfl) (by simp) (by simp) (by simp) (by simp) (by first|omega|simp) (by simp only[zp];omega) ?_)
      intro r m n l Oy kJ D lN;have Af:∀k,k<w.heap.size+2->(Value.slice R 0 M).ownBlock≠some k:=fun k Y e=>by
       have:=(CP.out k e).1;omega
      have Hf:=za (((LW.out.alloc _).alloc _).grown D (Af _ (by omega)));have ah:=za (((ad.out.alloc _).alloc _).grown D (Af _ (by omega)));have fT:Hid (Below w.heap.size w l):=za (((Z.out.alloc (by omega) _).alloc (by simp;omega) _).grown D (by simp;omega) (fun k Y=>by have:=(CP.out k Y).1;omega));have CO:=D.size;simp only[zp]at CO;have ag:=za kJ;clear K J G N S I U O D kJ Af;obtain⟨K,J,G,N,S,I,U,O⟩:=aU Hf.out;go_wp2;go_roundw
      case rel=>
       have key:∃(p:Nat) (acc:List Ty) (j:Nat) (vv:Value),p<=s.size/\Value.int .i64 (pq:Int)= .int .i64 p/\Hid (eR f s aa p acc j)/\acc.length<=p/\j<=p/\af (l.setCell ⟨w.heap.size+1,2,none⟩ (.slice (some ⟨r,0,none⟩) m n)) w.heap.size 43 #[.int .i64 0,.int .i64 0,.slice none 0 0,.int .i64 0]/\af (l.setCell ⟨w.heap.size+1,2,none⟩ (.slice (some ⟨r,0,none⟩) m n)) (w.heap.size+1) 43 #[.int .i64 5,.int .i64 0,vv,.int .i64 j]/\eP (l.setCell ⟨w.heap.size+1,2,none⟩ (.slice (some ⟨r,0,none⟩) m n)) (w.heap.size+2) acc vv/\Below w.heap.size w (l.setCell ⟨w.heap.size+1,2,none⟩ (.slice (some ⟨r,0,none⟩) m n))/\w.heap.size+2<=(l.setCell ⟨w.heap.size+1,2,none⟩ (.slice (some ⟨r,0,none⟩) m n)).heap.size:=by
        refine⟨pq,[]++ [y],(j+1),.slice (some ⟨r,0,none⟩) m n,Ke,rfl,BB, ?_,by omega,ah.out.dK (by simp) _, ?_, ?_,fT.out.setCell (by simp) _, ?_⟩
        ·simp only[zj,zw,zL]at ak⊢;omega
        ·rw[Wr.out];exact Hf.out.store rfl
        ·exact ag.out.only ((ae.refl [w.heap.size+1] l).setCell (p:=⟨w.heap.size+1,2,none⟩) (by simp) _) (by simp)
        simp[World.setCell];omega
       first|exact key|((repeat apply Exists.intro);exact⟨key,rfl⟩)
      case measure=>simp[intOf];omega
    have e8:((s[p].toNat:Int)==63)=false:=zm.2 (by omega);have At:Hid (∀C:p<s.size,s[p].toNat≠63):=za (fun _=>D4);clear D4;by_cases Sf:0<j
    ·have F:=za (rr.out.none_ At.out Sf);go_wp2;refine zk (v:=bJ 0 0) (by simp[bJ,results,zS,go_sem,A,x,B,u]) rfl ?_;rw[F.out];exact⟨(((HB.out.setCell (by simp) _).setCell (by simp) _).setCell (by simp) _).setCell (by simp) _,0,0,rfl⟩
    obtain rfl:j=0:=by omega
    have rk:=za (rr.out.plain At.out);obtain⟨W,d⟩:∃W,wr=W:=⟨_,rfl⟩
    have Ws:Hid (af W (w.heap.size+1) 43 #[.int .i64 5,.int .i64 0,.slice R 0 M,.int .i64 0]):=za (by rw[<-d];exact Aq.out);have Od:Hid (af W w.heap.size 43 #[.int .i64 0,.int .i64 0,.slice none 0 0,.int .i64 0]):=za (by rw[<-d];exact iI.out);have OK:Hid (eP W (w.heap.size+2) [] (.slice R 0 M)):=za (by rw[<-d];exact kW.out);have Bz:Hid (Below w.heap.size w W):=za (by rw[<-d];exact HB.out);have UZ:Hid (W.heap.size=wr.heap.size):=za (by rw[<-d]);have HW:=za d;have C:p<=s.size:=by omega
    have Wr:Hid (((0:Nat):Int)=(0:Int)):=za rfl;clear d rr At;have HI:Hid (∀(V:World) (i:Int),i=(((p):Nat):Int)->Calls prog 36 #[.string s,.int .i64 i,.int .i64 ((deep+1:Nat):Int)] V fun e w'=>my s V (aJ f (s.data.toList.drop ((p)))) e w'):=za (fun V i hi=>by subst hi;exact IH.out s ((p)) V C hs);have E9:Hid ((deep:Int)+1=((deep+1:Nat):Int)):=za (by omega);go_wp2_with fail
    rw[E9.out];refine(HI.out _ _ (by first|rfl|omega)).mono ?_;rintro e H E;rw[HW.out]at E;obtain⟨T,X⟩:∃T,Hid (aJ f (s.data.toList.drop ((p)))=T):=⟨_,za rfl⟩
    rw[X.out]at E;have L3:=UZ.out;cases T with
    |none=>
     obtain⟨c,v0,v1,rfl⟩:=E;have F:=za (rk.out.none X.out);have JS:=c.size;have jI:w.heap.size<H.heap.size:=by omega
     have Z:=za (Bz.out.trans (c.mono (by omega)));clear A x B u j7 j5 j6 kg K J G N S I U O;obtain⟨A,x,B,u,j7,j5,j6,kg⟩:=aU (Od.out.ag c (by omega));clear c L3;go_wp2;refine zk (v:=bJ 0 0) (by simp[bJ,results,zS,go_sem,A,x,B,u,zz,jI]) rfl ?_;rw[F.out];refine⟨?_,0,0,rfl⟩;exact(((((Z.out.setCell (by simp) _).setCell (by simp) _).setCell (by simp) _).setCell (by simp) _).alloc (by simp[World.setCell];omega) _)
    |some z=>
     obtain⟨y,ai⟩:=z;obtain⟨c,c0,c1,c2,c3,rfl,hy⟩:=E;obtain⟨HN,oC,Ke⟩:=rk.out.some C X.out;have BB:=za HN;have JS:=c.size;have LW:=za (Ws.out.ag c (by omega));have ad:=za (Od.out.ag c (by omega));have ab:=za (OK.out.below c);have Z:=za (Bz.out.trans (c.mono (by omega)));have ke:=OK.out.ge;have HY:Hid (∀o o',fD ((H.alloc o).alloc o') (fun k=>w.heap.size+2<=k/\(Value.slice R 0 M).ownBlock≠some k) y c0 c1 c2 c3):=za (by
      intro o o';refine fD.ag ?_ ?_ y hy
      ·intro k Y hS;have hS:W.heap.size<=k:=hS;exact⟨by omega,fun e=>by have:=(ke k e).2;omega⟩
      intro q C _;rw[zz _ _ _ (by rw[zp];omega),zz _ _ _ C])
     have jI:w.heap.size<H.heap.size:=by omega
     have sC:w.heap.size+1<H.heap.size:=by omega
     have CP:=za ke;obtain⟨AA,mq,rfl,rfl,rfl,rfl,_⟩:=hy.open_;clear A x B u j7 j5 j6 kg K J G N S I U O hy HN ke c L3;obtain⟨K,J,G,N,S,I,U,O⟩:=aU LW.out;generalize s.size-ai.length=pq at*;go_wp2_with (at_builtin;refine cA (by rfl) (.tmp 181) (.tmp 183) (by rfl) (w.heap.size+2) [] (by rfl) ((ab.out.below ((zl _ _).alloc (zd _) _)).below ((zl _ _).alloc (zd _) _)) y (HY.out _ _) _ (by rfl) (by simp) (by simp) (by simp) (by simp) (by first|omega|simp) (by simp only[zp];omega) ?_)
     intro r m n l Oy kJ D lN;have Af:∀k,k<w.heap.size+2->(Value.slice R 0 M).ownBlock≠some k:=fun k Y e=>by
      have:=(CP.out k e).1;omega
     have Hf:=za (((LW.out.alloc _).alloc _).grown D (Af _ (by omega)));have ah:=za (((ad.out.alloc _).alloc _).grown D (Af _ (by omega)));have fT:Hid (Below w.heap.size w l):=za (((Z.out.alloc (by omega) _).alloc (by simp;omega) _).grown D (by simp;omega) (fun k Y=>by have:=(CP.out k Y).1;omega));have CO:=D.size;simp only[zp]at CO;have ag:=za kJ;clear K J G N S I U O D kJ Af;obtain⟨K,J,G,N,S,I,U,O⟩:=aU Hf.out;go_wp2;go_roundw
     case rel=>
      have key:∃(p:Nat) (acc:List Ty) (j:Nat) (vv:Value),p<=s.size/\Value.int .i64 (pq:Int)= .int .i64 p/\Hid (eR f s aa p acc j)/\acc.length<=p/\j<=p/\af (l.setCell ⟨w.heap.size+1,2,none⟩ (.slice (some ⟨r,0,none⟩) m n)) w.heap.size 43 #[.int .i64 0,.int .i64 0,.slice none 0 0,.int .i64 0]/\af (l.setCell ⟨w.heap.size+1,2,none⟩ (.slice (some ⟨r,0,none⟩) m n)) (w.heap.size+1) 43 #[.int .i64 5,.int .i64 0,vv,.int .i64 j]/\eP (l.setCell ⟨w.heap.size+1,2,none⟩ (.slice (some ⟨r,0,none⟩) m n)) (w.heap.size+2) acc vv/\Below w.heap.size w (l.setCell ⟨w.heap.size+1,2,none⟩ (.slice (some ⟨r,0,none⟩) m n))/\w.heap.size+2<=(l.setCell ⟨w.heap.size+1,2,none⟩ (.slice (some ⟨r,0,none⟩) m n)).heap.size:=by
       refine⟨pq,[]++ [y],0,.slice (some ⟨r,0,none⟩) m n,Ke,rfl,BB, ?_,by omega,ah.out.dK (by simp) _, ?_, ?_,fT.out.setCell (by simp) _, ?_⟩
       ·simp only[zj,zw,zL]at ak⊢;omega
       ·rw[Wr.out];exact Hf.out.store rfl
       ·exact ag.out.only ((ae.refl [w.heap.size+1] l).setCell (p:=⟨w.heap.size+1,2,none⟩) (by simp) _) (by simp)
       simp[World.setCell];omega
      first|exact key|((repeat apply Exists.intro);exact⟨key,rfl⟩)
     case measure=>simp[intOf];omega
   have pW:0<n2:=by
    rw[DV.out];cases acc with
    |nil=>exact absurd rfl ha
    |cons a b=>simp
   by_cases tS:s[p].toNat=44
   ·have e7:((s[p].toNat:Int) !=44)=false:=by simp[tS]
    have rr:=za (hrel.out.more aj tS ha);clear jk ha tS;by_cases Bx:(p+1)<s.size
    ·by_cases D4:s[(p+1)].toNat=63
     ·have e8:((s[(p+1)].toNat:Int)==63)=true:=by simp[D4]
      have rk:=za (rr.out.mark Bx D4);obtain⟨W,d⟩:∃W,wr.setCell ⟨w.heap.size+1,3,none⟩ (.int .i64 ((j:Int)+1))=W:=⟨_,rfl⟩
      have Ws:Hid (af W (w.heap.size+1) 43 #[.int .i64 5,.int .i64 0,.slice R n2 M,.int .i64 ((j:Int)+1)]):=za (by rw[<-d];exact Aq.out.store rfl);have Od:Hid (af W w.heap.size 43 #[.int .i64 0,.int .i64 0,.slice none 0 0,.int .i64 0]):=za (by rw[<-d];exact iI.out.dK (by simp) _);have OK:Hid (eP W (w.heap.size+2) acc (.slice R n2 M)):=za (by rw[<-d];exact kW.out.only ((ae.refl [w.heap.size+1] wr).setCell (by simp) _) (by simp));have Bz:Hid (Below w.heap.size w W):=za (by rw[<-d];exact HB.out.setCell (by simp) _);have UZ:Hid (W.heap.size=wr.heap.size):=za (by rw[<-d];simp[World.setCell]);have HW:=za d;have C:(p+1)+1<=s.size:=by omega
      have Wr:Hid (((j+1:Nat):Int)=(j:Int)+1):=za (by omega);clear D4 d rr;have HI:Hid (∀(V:World) (i:Int),i=((((p+1)+1):Nat):Int)->Calls prog 36 #[.string s,.int .i64 i,.int .i64 ((deep+1:Nat):Int)] V fun e w'=>my s V (aJ f (s.data.toList.drop (((p+1)+1)))) e w'):=za (fun V i hi=>by subst hi;exact IH.out s (((p+1)+1)) V C hs);have E9:Hid ((deep:Int)+1=((deep+1:Nat):Int)):=za (by omega);go_wp2_with fail
      rw[E9.out];refine(HI.out _ _ (by first|rfl|omega)).mono ?_;rintro e H E;rw[HW.out]at E;obtain⟨T,X⟩:∃T,Hid (aJ f (s.data.toList.drop (((p+1)+1)))=T):=⟨_,za rfl⟩
      rw[X.out]at E;have L3:=UZ.out;cases T with
      |none=>
       obtain⟨c,v0,v1,rfl⟩:=E;have F:=za (rk.out.none X.out);have JS:=c.size;have jI:w.heap.size<H.heap.size:=by omega
       have Z:=za (Bz.out.trans (c.mono (by omega)));clear A x B u j7 j5 j6 kg K J G N S I U O;obtain⟨A,x,B,u,j7,j5,j6,kg⟩:=aU (Od.out.ag c (by omega));clear c L3;go_wp2;refine zk (v:=bJ 0 0) (by simp[bJ,results,zS,go_sem,A,x,B,u,zz,jI]) rfl ?_;rw[F.out];refine⟨?_,0,0,rfl⟩;exact(((((Z.out.setCell (by simp) _).setCell (by simp) _).setCell (by simp) _).setCell (by simp) _).alloc (by simp[World.setCell];omega) _)
      |some z=>
       obtain⟨y,ai⟩:=z;obtain⟨c,c0,c1,c2,c3,rfl,hy⟩:=E;obtain⟨HN,oC,Ke⟩:=rk.out.some C X.out;have BB:=za HN;have JS:=c.size;have LW:=za (Ws.out.ag c (by omega));have ad:=za (Od.out.ag c (by omega));have ab:=za (OK.out.below c);have Z:=za (Bz.out.trans (c.mono (by omega)));have ke:=OK.out.ge;have HY:Hid (∀o o',fD ((H.alloc o).alloc o') (fun k=>w.heap.size+2<=k/\(Value.slice R n2 M).ownBlock≠some k) y c0 c1 c2 c3):=za (by
        intro o o';refine fD.ag ?_ ?_ y hy
        ·intro k Y hS;have hS:W.heap.size<=k:=hS;exact⟨by omega,fun e=>by have:=(ke k e).2;omega⟩
        intro q C _;rw[zz _ _ _ (by rw[zp];omega),zz _ _ _ C])
       have jI:w.heap.size<H.heap.size:=by omega
       have sC:w.heap.size+1<H.heap.size:=by omega
       have CP:=za ke;obtain⟨AA,mq,rfl,rfl,rfl,rfl,_⟩:=hy.open_;clear A x B u j7 j5 j6 kg K J G N S I U O hy HN ke c L3;obtain⟨K,J,G,N,S,I,U,O⟩:=aU LW.out;generalize s.size-ai.length=pq at*;go_wp2_with (at_builtin;refine cA (by rfl) (.tmp 181) (.tmp 183) (by rfl) (w.heap.size+2) acc (by rfl) ((ab.out.below ((zl _ _).alloc (zd _) _)).below ((zl _ _).alloc (zd _) _)) y (HY.out _ _) _ (by rfl) (by simp) (by simp) (by simp) (by simp) (by first|omega|simp) (by simp only[zp];omega) ?_)
       intro r m n l Oy kJ D lN;have Af:∀k,k<w.heap.size+2->(Value.slice R n2 M).ownBlock≠some k:=fun k Y e=>by
        have:=(CP.out k e).1;omega
       have Hf:=za (((LW.out.alloc _).alloc _).grown D (Af _ (by omega)));have ah:=za (((ad.out.alloc _).alloc _).grown D (Af _ (by omega)));have fT:Hid (Below w.heap.size w l):=za (((Z.out.alloc (by omega) _).alloc (by simp;omega) _).grown D (by simp;omega) (fun k Y=>by have:=(CP.out k Y).1;omega));have CO:=D.size;simp only[zp]at CO;have ag:=za kJ;clear K J G N S I U O D kJ Af;obtain⟨K,J,G,N,S,I,U,O⟩:=aU Hf.out;go_wp2;go_roundw
       case rel=>
        have key:∃(p:Nat) (acc:List Ty) (j:Nat) (vv:Value),p<=s.size/\Value.int .i64 (pq:Int)= .int .i64 p/\Hid (eR f s aa p acc j)/\acc.length<=p/\j<=p/\af (l.setCell ⟨w.heap.size+1,2,none⟩ (.slice (some ⟨r,0,none⟩) m n)) w.heap.size 43 #[.int .i64 0,.int .i64 0,.slice none 0 0,.int .i64 0]/\af (l.setCell ⟨w.heap.size+1,2,none⟩ (.slice (some ⟨r,0,none⟩) m n)) (w.heap.size+1) 43 #[.int .i64 5,.int .i64 0,vv,.int .i64 j]/\eP (l.setCell ⟨w.heap.size+1,2,none⟩ (.slice (some ⟨r,0,none⟩) m n)) (w.heap.size+2) acc vv/\Below w.heap.size w (l.setCell ⟨w.heap.size+1,2,none⟩ (.slice (some ⟨r,0,none⟩) m n))/\w.heap.size+2<=(l.setCell ⟨w.heap.size+1,2,none⟩ (.slice (some ⟨r,0,none⟩) m n)).heap.size:=by
         refine⟨pq,acc++ [y],(j+1),.slice (some ⟨r,0,none⟩) m n,Ke,rfl,BB, ?_,by omega,ah.out.dK (by simp) _, ?_, ?_,fT.out.setCell (by simp) _, ?_⟩
         ·simp only[zj,zw,zL]at ak⊢;omega
         ·rw[Wr.out];exact Hf.out.store rfl
         ·exact ag.out.only ((ae.refl [w.heap.size+1] l).setCell (p:=⟨w.heap.size+1,2,none⟩) (by simp) _) (by simp)
         simp[World.setCell];omega
        first|exact key|((repeat apply Exists.intro);exact⟨key,rfl⟩)
       case measure=>simp[intOf];omega
     have e8:((s[(p+1)].toNat:Int)==63)=false:=zm.2 (by omega);have At:Hid (∀C:(p+1)<s.size,s[(p+1)].toNat≠63):=za (fun _=>D4);clear D4;by_cases Sf:0<j
     ·have F:=za (rr.out.none_ At.out Sf);go_wp2;refine zk (v:=bJ 0 0) (by simp[bJ,results,zS,go_sem,A,x,B,u]) rfl ?_;rw[F.out];exact⟨(((HB.out.setCell (by simp) _).setCell (by simp) _).setCell (by simp) _).setCell (by simp) _,0,0,rfl⟩
     obtain rfl:j=0:=by omega
     have rk:=za (rr.out.plain At.out);obtain⟨W,d⟩:∃W,wr=W:=⟨_,rfl⟩
     have Ws:Hid (af W (w.heap.size+1) 43 #[.int .i64 5,.int .i64 0,.slice R n2 M,.int .i64 0]):=za (by rw[<-d];exact Aq.out);have Od:Hid (af W w.heap.size 43 #[.int .i64 0,.int .i64 0,.slice none 0 0,.int .i64 0]):=za (by rw[<-d];exact iI.out);have OK:Hid (eP W (w.heap.size+2) acc (.slice R n2 M)):=za (by rw[<-d];exact kW.out);have Bz:Hid (Below w.heap.size w W):=za (by rw[<-d];exact HB.out);have UZ:Hid (W.heap.size=wr.heap.size):=za (by rw[<-d]);have HW:=za d;have C:(p+1)<=s.size:=by omega
     have Wr:Hid (((0:Nat):Int)=(0:Int)):=za rfl;clear d rr At;have HI:Hid (∀(V:World) (i:Int),i=((((p+1)):Nat):Int)->Calls prog 36 #[.string s,.int .i64 i,.int .i64 ((deep+1:Nat):Int)] V fun e w'=>my s V (aJ f (s.data.toList.drop (((p+1))))) e w'):=za (fun V i hi=>by subst hi;exact IH.out s (((p+1))) V C hs);have E9:Hid ((deep:Int)+1=((deep+1:Nat):Int)):=za (by omega);go_wp2_with fail
     rw[E9.out];refine(HI.out _ _ (by first|rfl|omega)).mono ?_;rintro e H E;rw[HW.out]at E;obtain⟨T,X⟩:∃T,Hid (aJ f (s.data.toList.drop (((p+1))))=T):=⟨_,za rfl⟩
     rw[X.out]at E;have L3:=UZ.out;cases T with
     |none=>
      obtain⟨c,v0,v1,rfl⟩:=E;have F:=za (rk.out.none X.out);have JS:=c.size;have jI:w.heap.size<H.heap.size:=by omega
      have Z:=za (Bz.out.trans (c.mono (by omega)));clear A x B u j7 j5 j6 kg K J G N S I U O;obtain⟨A,x,B,u,j7,j5,j6,kg⟩:=aU (Od.out.ag c (by omega));clear c L3;go_wp2;refine zk (v:=bJ 0 0) (by simp[bJ,results,zS,go_sem,A,x,B,u,zz,jI]) rfl ?_;rw[F.out];refine⟨?_,0,0,rfl⟩;exact(((((Z.out.setCell (by simp) _).setCell (by simp) _).setCell (by simp) _).setCell (by simp) _).alloc (by simp[World.setCell];omega) _)
     |some z=>
      obtain⟨y,ai⟩:=z;obtain⟨c,c0,c1,c2,c3,rfl,hy⟩:=E;obtain⟨HN,oC,Ke⟩:=rk.out.some C X.out;have BB:=za HN;have JS:=c.size;have LW:=za (Ws.out.ag c (by omega));have ad:=za (Od.out.ag c (by omega));have ab:=za (OK.out.below c);have Z:=za (Bz.out.trans (c.mono (by omega)));have ke:=OK.out.ge;have HY:Hid (∀o o',fD ((H.alloc o).alloc o') (fun k=>w.heap.size+2<=k/\(Value.slice R n2 M).ownBlock≠some k) y c0 c1 c2 c3):=za (by
       intro o o';refine fD.ag ?_ ?_ y hy
       ·intro k Y hS;have hS:W.heap.size<=k:=hS;exact⟨by omega,fun e=>by have:=(ke k e).2;omega⟩
       intro q C _;rw[zz _ _ _ (by rw[zp];omega),zz _ _ _ C])
      have jI:w.heap.size<H.heap.size:=by omega
      have sC:w.heap.size+1<H.heap.size:=by omega
      have CP:=za ke;obtain⟨AA,mq,rfl,rfl,rfl,rfl,_⟩:=hy.open_;clear A x B u j7 j5 j6 kg K J G N S I U O hy HN ke c L3;obtain⟨K,J,G,N,S,I,U,O⟩:=aU LW.out;generalize s.size-ai.length=pq at*;go_wp2_with (at_builtin;refine cA (by rfl) (.tmp 181) (.tmp 183) (by rfl) (w.heap.size+2) acc (by rfl) ((ab.out.below ((zl _ _).alloc (zd _) _)).below ((zl _ _).alloc (zd _) _)) y (HY.out _ _) _ (by rfl) (by simp) (by simp) (by simp) (by simp) (by first|omega|simp) (by simp only[zp];omega) ?_)
      intro r m n l Oy kJ D lN;have Af:∀k,k<w.heap.size+2->(Value.slice R n2 M).ownBlock≠some k:=fun k Y e=>by
       have:=(CP.out k e).1;omega
      have Hf:=za (((LW.out.alloc _).alloc _).grown D (Af _ (by omega)));have ah:=za (((ad.out.alloc _).alloc _).grown D (Af _ (by omega)));have fT:Hid (Below w.heap.size w l):=za (((Z.out.alloc (by omega) _).alloc (by simp;omega) _).grown D (by simp;omega) (fun k Y=>by have:=(CP.out k Y).1;omega));have CO:=D.size;simp only[zp]at CO;have ag:=za kJ;clear K J G N S I U O D kJ Af;obtain⟨K,J,G,N,S,I,U,O⟩:=aU Hf.out;go_wp2;go_roundw
      case rel=>
       have key:∃(p:Nat) (acc:List Ty) (j:Nat) (vv:Value),p<=s.size/\Value.int .i64 (pq:Int)= .int .i64 p/\Hid (eR f s aa p acc j)/\acc.length<=p/\j<=p/\af (l.setCell ⟨w.heap.size+1,2,none⟩ (.slice (some ⟨r,0,none⟩) m n)) w.heap.size 43 #[.int .i64 0,.int .i64 0,.slice none 0 0,.int .i64 0]/\af (l.setCell ⟨w.heap.size+1,2,none⟩ (.slice (some ⟨r,0,none⟩) m n)) (w.heap.size+1) 43 #[.int .i64 5,.int .i64 0,vv,.int .i64 j]/\eP (l.setCell ⟨w.heap.size+1,2,none⟩ (.slice (some ⟨r,0,none⟩) m n)) (w.heap.size+2) acc vv/\Below w.heap.size w (l.setCell ⟨w.heap.size+1,2,none⟩ (.slice (some ⟨r,0,none⟩) m n))/\w.heap.size+2<=(l.setCell ⟨w.heap.size+1,2,none⟩ (.slice (some ⟨r,0,none⟩) m n)).heap.size:=by
        refine⟨pq,acc++ [y],0,.slice (some ⟨r,0,none⟩) m n,Ke,rfl,BB, ?_,by omega,ah.out.dK (by simp) _, ?_, ?_,fT.out.setCell (by simp) _, ?_⟩
        ·simp only[zj,zw,zL]at ak⊢;omega
        ·rw[Wr.out];exact Hf.out.store rfl
        ·exact ag.out.only ((ae.refl [w.heap.size+1] l).setCell (p:=⟨w.heap.size+1,2,none⟩) (by simp) _) (by simp)
        simp[World.setCell];omega
       first|exact key|((repeat apply Exists.intro);exact⟨key,rfl⟩)
      case measure=>simp[intOf];omega
    have At:Hid (∀C:(p+1)<s.size,s[(p+1)].toNat≠63):=za (fun h=>absurd h Bx);by_cases Sf:0<j
    ·have F:=za (rr.out.none_ At.out Sf);go_wp2;refine zk (v:=bJ 0 0) (by simp[bJ,results,zS,go_sem,A,x,B,u]) rfl ?_;rw[F.out];exact⟨(((HB.out.setCell (by simp) _).setCell (by simp) _).setCell (by simp) _).setCell (by simp) _,0,0,rfl⟩
    obtain rfl:j=0:=by omega
    have rk:=za (rr.out.plain At.out);obtain⟨W,d⟩:∃W,wr=W:=⟨_,rfl⟩
    have Ws:Hid (af W (w.heap.size+1) 43 #[.int .i64 5,.int .i64 0,.slice R n2 M,.int .i64 0]):=za (by rw[<-d];exact Aq.out);have Od:Hid (af W w.heap.size 43 #[.int .i64 0,.int .i64 0,.slice none 0 0,.int .i64 0]):=za (by rw[<-d];exact iI.out);have OK:Hid (eP W (w.heap.size+2) acc (.slice R n2 M)):=za (by rw[<-d];exact kW.out);have Bz:Hid (Below w.heap.size w W):=za (by rw[<-d];exact HB.out);have UZ:Hid (W.heap.size=wr.heap.size):=za (by rw[<-d]);have HW:=za d;have C:(p+1)<=s.size:=by omega
    have Wr:Hid (((0:Nat):Int)=(0:Int)):=za rfl;clear d rr At;have HI:Hid (∀(V:World) (i:Int),i=((((p+1)):Nat):Int)->Calls prog 36 #[.string s,.int .i64 i,.int .i64 ((deep+1:Nat):Int)] V fun e w'=>my s V (aJ f (s.data.toList.drop (((p+1))))) e w'):=za (fun V i hi=>by subst hi;exact IH.out s (((p+1))) V C hs);have E9:Hid ((deep:Int)+1=((deep+1:Nat):Int)):=za (by omega);go_wp2_with fail
    rw[E9.out];refine(HI.out _ _ (by first|rfl|omega)).mono ?_;rintro e H E;rw[HW.out]at E;have X:Hid (aJ f (s.data.toList.drop (((p+1))))=none):=za (by rw[zI (by simp;omega),Co]);rw[X.out]at E;have L3:=UZ.out;obtain⟨c,v0,v1,rfl⟩:=E;have F:=za (rk.out.none X.out);have JS:=c.size;have jI:w.heap.size<H.heap.size:=by omega
    have Z:=za (Bz.out.trans (c.mono (by omega)));clear A x B u j7 j5 j6 kg K J G N S I U O;obtain⟨A,x,B,u,j7,j5,j6,kg⟩:=aU (Od.out.ag c (by omega));clear c L3;go_wp2;refine zk (v:=bJ 0 0) (by simp[bJ,results,zS,go_sem,A,x,B,u,zz,jI]) rfl ?_;rw[F.out];refine⟨?_,0,0,rfl⟩;exact(((((Z.out.setCell (by simp) _).setCell (by simp) _).setCell (by simp) _).setCell (by simp) _).alloc (by simp[World.setCell];omega) _)
   have e7:((s[p].toNat:Int) !=44)=true:=by simp;omega
   have F:=za (hrel.out.bad aj jk tS ha);clear jk ha tS;go_wp2;refine zk (v:=bJ 0 0) (by simp[bJ,results,zS,go_sem,A,x,B,u]) rfl ?_;rw[F.out];exact⟨(((HB.out.setCell (by simp) _).setCell (by simp) _).setCell (by simp) _).setCell (by simp) _,0,0,rfl⟩
  have F:=za (hrel.out.stop (by omega));go_wp2;refine zk (v:=bJ 0 0) (by simp[bJ,results,zS,go_sem,A,x,B,u]) rfl ?_;rw[F.out];exact⟨(((HB.out.setCell (by simp) _).setCell (by simp) _).setCell (by simp) _).setCell (by simp) _,0,0,rfl⟩
theorem NG :∀(f deep:Nat),deep+f=9->∀(s:ByteArray) (at_:Nat) (w:World),at_<=s.size->s.size<=100000->
 Calls prog 36 #[.string s,.int .i64 at_,.int .i64 deep] w fun e w'=>my s w (aJ f (s.data.toList.drop at_)) e w':=by
 intro f;induction f with
 |zero=>
  intro deep k s at_ w j d;have b:Hid (aJ 0 (s.data.toList.drop at_)=none):=za rfl;generalize aJ 0 (s.data.toList.drop at_)=R at*;have h:8<deep:=by omega
  clear k;by_cases i:at_<s.size
  ·go_enter yH,yy
   go_wp2;refine zk (v:=bJ 0 0) (by simp[bJ,results,zS,go_sem,b]) rfl ?_;rw[b.out];exact⟨bQ,0,0,rfl⟩
  go_enter yH,yy
  go_wp2;refine zk (v:=bJ 0 0) (by simp[bJ,results,zS,go_sem,b]) rfl ?_;rw[b.out];exact⟨bQ,0,0,rfl⟩
 |succ f ih=>
  intro deep k s at_ w j d;have l:=za (fun s at_ w=>ih (deep+1) (by omega) s at_ w);have h:deep<=8:=by omega
  clear ih k;obtain⟨R,c⟩:∃R,Hid (aJ (f+1) (s.data.toList.drop at_)=R):=⟨_,za rfl⟩
  rw[c.out];by_cases i:at_<s.size
  ·by_cases m:s[at_].toNat=91
   ·exact DD f deep h l s at_ w j d R c i m
   by_cases n:s[at_].toNat=123
   ·exact wH f deep h l s at_ w j d R c i n
   exact FY f deep h l s at_ w j d R c i m n
  have b:Hid (R=none):=za (by rw[<-c.out,zI (by simp;omega),Co]);clear c;go_enter yH,yy
  go_wp2;refine zk (v:=bJ 0 0) (by simp[bJ,results,zS,go_sem,b]) rfl ?_;rw[b.out];exact⟨bQ,0,0,rfl⟩
theorem tr {p:List UInt8->Option (Ty×List UInt8)}(i:∀l y r,p l=some (y,r)->y.count+r.length<=l.length):∀n l acc j y r,fC p n l acc j=some (y,r)->y.count+r.length<=bc acc+l.length
 |0,_,_,_,_,_,h=>by simp[fC]at h
 |n+1,[],_,_,_,_,h=>by simp[fC]at h
 |n+1,c::l,acc,j,y,r,h=>by
  unfold fC at h;split at h
  ·injection h with h;injection h with d b;rw[<-d,<-b];simp[Ty.count];omega
  split at h
  ·cases h
  rename_i u d
  split at h
  ·cases h
  rename_i q o b
  split at h
  ·cases h
  rename_i m w k
  have k1:=(BU d).length_le;have k2:=(Kq b).length_le;have s:=i _ _ _ k;have e:=tr i n _ _ _ _ _ h;rw[fN]at e;simp only[bc]at e;omega
theorem nS :∀(f:Nat) (l:List UInt8) (y:Ty) (r:List UInt8),aJ f l=some (y,r)->y.count+r.length<=l.length
 |0,_,_,_,h=>by simp[aJ]at h
 |f+1,[],_,_,h=>by simp[aJ]at h
 |f+1,c::l,y,r,h=>by
  have e:=(gA _ _ _ _ h).2;have j:=gA _ _ _ _ h;unfold aJ at h;split at h
  ·split at h
   ·cases h
   split at h
   ·injection h with h;injection h with b h2;subst b;simp[Ty.count,bc]at e⊢;omega
   cases h
  split at h
  ·split at h
   ·cases h
   injection h with h;injection h with b h2;subst b;simp[Ty.count,bc]at e⊢;omega
  split at h
  ·split at h
   ·cases h
   injection h with h;injection h with b h2;subst b;simp[Ty.count,bc]at e⊢;omega
  split at h
  ·split at h
   ·cases h
   rename_i x i b
   have k1:=nS f _ _ _ b;have k2:=BW h;have m:y.count=1+x.count:=by
    unfold gP at h;match i,h with
    |d::i,h=>
     simp only at h;split at h
     ·split at h
      ·cases h
      ·cases h
      split at h
      ·injection h with h;injection h with h3 h4;rw[<-h3];simp[Ty.count,bc]
      cases h
     cases h
   have:=k2.2;simp;omega
  split at h
  ·have k:=tr (nS f) _ _ _ _ _ _ h;simp[bc]at k⊢;omega
  cases h
def VE :Option (Ty×List UInt8)->Option Ty
 |none=>none
 |some (x,[])=>if x.may then some x else none
 |some (_,_::_)=>none
theorem NH (l:List UInt8):cP l=VE (aJ 8 l):=by
 unfold cP;rcases aJ 8 l with _|⟨x,r⟩
 ·rfl
 cases r<;>rfl
theorem Jo (s:ByteArray)(w:World)(i:s.size<=100000):
 Calls prog 13 #[.string s] w fun e w'=>FM w (cP s.data.toList) e w':=by
 have M:=za (NG 8 1 rfl s 0 (w.alloc (.cells #[.int .i64 0,.int .i64 0,.slice none 0 0,.int .i64 0] 43)) (yc _) i);obtain⟨T,K⟩:∃T,Hid (aJ 8 s.data.toList=T):=⟨_,za rfl⟩
 rw[zK,K.out]at M;obtain⟨R,N⟩:∃R,Hid (cP s.data.toList=R):=⟨_,za rfl⟩
 rw[N.out];have U:Hid (VE T=R):=za (by rw[<-N.out,NH,K.out]);clear N;cases T with
 |none=>
  have u:Hid (R=none):=za U.out.symm;go_enter func13,ntmps13
  go_wp2_with fail
  refine M.out.mono ?_;rintro e h ⟨b,v0,v1,rfl⟩;have d:=(af.new w 43 #[.int .i64 0,.int .i64 0,.slice none 0 0,.int .i64 0]).ag b (by simp);have O:=za d;obtain⟨l,n,o,j,I,J,G,F⟩:=aU d;have hz:=b.size;simp only[zp]at hz;have B:w.heap.size<h.heap.size:=by omega
  have D:Hid (Below w.heap.size w h):=za (((zl w.heap.size w).alloc (zd _) _).trans (b.mono (by simp)));clear b d;have n1:((-1:Int) !=(s.size:Int))=true:=by simp
  go_wp2;refine zk (v:= .tuple #[.agg #[.int .i64 0,.int .i64 0,.slice none 0 0,.int .i64 0],.int .i64 3]) (by simp[results,results13,go_sem,l,n,o,j,zz,B]) rfl ?_;rw[u.out];exact⟨(((((D.out.setCell (by simp) _).setCell (by simp) _).setCell (by simp) _).setCell (by simp) _).alloc (by simp[World.setCell];omega) _),rfl⟩
 |some z=>
  obtain⟨x,r⟩:=z;have S:=nS _ _ _ _ K.out;have E:=(gA _ _ _ _ K.out).2;rw[aa]at S E;cases r with
  |cons c r=>
   have u:Hid (R=none):=za U.out.symm;have n1:(((s.size-(c::r).length:Nat):Int) !=(s.size:Int))=true:=by simp at E⊢;omega
   have n2:((s.size-(c::r).length) !=s.size)=true:=by simp at E⊢;omega
   generalize s.size-(c::r).length=q at*;go_enter func13,ntmps13
   go_wp2_with fail
   refine M.out.mono ?_;rintro e h ⟨b,c0,c1,c2,c3,rfl,A⟩;obtain⟨y,p,rfl,rfl,rfl,rfl,_⟩:=A.open_;have d:=(af.new w 43 #[.int .i64 0,.int .i64 0,.slice none 0 0,.int .i64 0]).ag b (by simp);have O:=za d;obtain⟨l,n,o,j,I,J,G,F⟩:=aU d;have hz:=b.size;simp only[zp]at hz;have B:w.heap.size<h.heap.size:=by omega
   have D:Hid (Below w.heap.size w h):=za (((zl w.heap.size w).alloc (zd _) _).trans (b.mono (by simp)));clear b d;go_wp2;refine zk (v:= .tuple #[.agg #[.int .i64 0,.int .i64 0,.slice none 0 0,.int .i64 0],.int .i64 3]) (by simp[results,results13,go_sem,l,n,o,j,zz,B]) rfl ?_;rw[u.out];exact⟨(((((D.out.setCell (by simp) _).setCell (by simp) _).setCell (by simp) _).setCell (by simp) _).alloc (by simp[World.setCell];omega) _),rfl⟩
  |nil=>
   have n1:((s.size:Int) !=(s.size:Int))=false:=by simp
   have n2:(s.size !=s.size)=false:=by simp
   have ab:=za S;obtain⟨m,H⟩:∃m,x.may=m:=⟨_,rfl⟩
   have u:Hid (R=if m then some x else none):=za (by rw[<-H];exact U.out.symm);clear S E;go_enter func13,ntmps13
   go_wp2_with fail
   refine M.out.mono ?_;rintro e h ⟨b,c0,c1,c2,c3,rfl,A⟩;have W:=za A;obtain⟨y,p,rfl,rfl,rfl,rfl,_⟩:=A.open_;have d:=(af.new w 43 #[.int .i64 0,.int .i64 0,.slice none 0 0,.int .i64 0]).ag b (by simp);have O:=za d;obtain⟨l,n,o,j,I,J,G,F⟩:=aU d;have hz:=b.size;simp only[zp]at hz;have B:w.heap.size<h.heap.size:=by omega
   have D:Hid (Below w.heap.size w h):=za (((zl w.heap.size w).alloc (zd _) _).trans (b.mono (by simp)));clear b d;have Y:=fD.AZ x (W.out.below ((zl _ _).alloc (zd _) (.cells #[.int .i64 x.kind,.int .i64 x.size,.slice y x.sub.length p,.int .i64 x.tail] 43)));have X:=za (KS x _ (h.alloc (.cells #[.int .i64 x.kind,.int .i64 x.size,.slice y x.sub.length p,.int .i64 x.tail] 43)) _ _ _ _ Y (zd _) (by have:=ab.out;omega));rw[H]at X;have ae:=za H;clear Y H A;go_wp2_with fail
   refine X.out.mono ?_;rintro e w5 ⟨rfl,C⟩;clear l n o j I J G F;obtain⟨l,n,o,j,I,J,G,F⟩:=aU ((O.out.alloc _).ag C (by simp;omega));obtain⟨b0,b1,b2,b3,kS,kU,kT,kR⟩:=aU ((af.new h 43 #[.int .i64 x.kind,.int .i64 x.size,.slice y x.sub.length p,.int .i64 x.tail]).ag C (by simp));have fT:Hid (Below w.heap.size w w5):=za ((D.out.alloc (by omega) _).trans (C.mono (by simp;omega)));have ad:=za ((W.out.below ((zl _ _).alloc (zd _) (.cells #[.int .i64 x.kind,.int .i64 x.size,.slice y x.sub.length p,.int .i64 x.tail] 43))).below C);clear C;cases m with
   |true=>
    go_wp2;refine zk (v:= .tuple #[.agg #[.int .i64 x.kind,.int .i64 x.size,.slice y x.sub.length p,.int .i64 x.tail],.int .i64 0]) (by simp[results,results13,go_sem,l,n,o,j]) rfl ?_;rw[u.out];refine⟨(((fT.out.setCell (by simp) _).setCell (by simp) _).setCell (by simp) _).setCell (by simp) _,_,_,_,_,rfl, ?_⟩;refine ad.out.only (L:= [w.heap.size]) C2 ?_ ?_
    ·intro k Z i;have Z:k=w.heap.size:=by simpa using Z
     have i:(w.alloc (.cells #[.int .i64 0,.int .i64 0,.slice none 0 0,.int .i64 0] 43)).heap.size<=k:=i;simp at i;omega
    intro k _ i;have i:(w.alloc (.cells #[.int .i64 0,.int .i64 0,.slice none 0 0,.int .i64 0] 43)).heap.size<=k:=i;simp at i;show w.heap.size<=k
    omega
   |false=>
    go_wp2;refine zk (v:= .tuple #[.agg #[.int .i64 0,.int .i64 0,.slice none 0 0,.int .i64 0],.int .i64 3]) (by simp[results,results13,go_sem,l,n,o,j,zz,B]) rfl ?_;rw[u.out];exact⟨(((fT.out.setCell (by simp) _).setCell (by simp) _).setCell (by simp) _).setCell (by simp) _,rfl⟩
