/- package schema: the reader's small steps (passes, number, the closure sized). -/
import Derived.Test.YtimoclkoflamkaaGreatDoorKA13
set_option linter.all false
set_option maxRecDepth 100000
set_option maxHeartbeats 8000000
open Go.Proofs.Tryz
namespace Go.Proofs.YtimoclkoflamkaaGreatDoor
open Go.RowKit
variable {w:World}{g n p L q e i d:Nat}{s t:Int}
def zW:=@cell_of_one
def zY:=@IntWalk.i64_in
def zZ:=@wp_loop_rounds
def yf:=@ntmps59
def yh:=@rounds_succ
def yl:=@func59
def yt:=@underlying3
def xr:=@wpQuiet_nil
def Zu:=@free_of_one
def jB (w:World)(g:Nat)(s:ByteArray)(p L:Nat):Prop:=af w g 178 #[s,p,L]
theorem jB.cells {s:ByteArray}(h:jB w g s p L):(w,g,0,s)/\(w,g,1,p)/\(w,g,2,L)/\w.frozen? (g,0)=false/\w.frozen? (g,1)=false/\w.frozen? (g,2)=false/\g<w.heap.size:=by
 obtain⟨a,b,c,d,e,f⟩:=bq h;exact⟨a,b,c,d,e,f,af.lt h⟩
theorem jB.to {s:ByteArray}{n:Int}(h:jB w g s p L)(b:n=q):jB (w.setCell (g,1) n) g s q L:=by
 subst b;exact af.store h rfl
theorem jB.less {s:ByteArray}{n:Int}(h:jB w g s p L)(b:n=q):jB (w.setCell (g,2) n) g s p q:=by
 subst b;exact af.store h rfl
theorem fc (g:Nat)(s:ByteArray)(p L:Nat)(b:Nat)(w:World)(h:jB w g s p L)(i:p<s.size)(j:s.size<=100000)(d:s[p].toNat=b):
 Calls prog 168 #[(g,0),.int .u8 b] w fun e w'=>e= .returned true/\jB w' g s (p+1) L/\ae [g] w w':=by
 obtain⟨g0,g1,g2,f0,f1,f2,k⟩:=h.cells;have c:=za h;subst d;clear h;have i1:((p:Int)==(s.size:Int))=false:=zl.2 (by omega);go_enter func168,ntmps168
 go_wp2_with fail
 go_quiet (fail)
 go_wp2;go_ret;exact⟨rfl,(show jB (w.drewN _) g s p L from c.out).to (by go_num),DP⟩
theorem gE (g:Nat)(s:ByteArray)(p L:Nat)(b:Nat)(w:World)(h:jB w g s p L)(i:p<=s.size)(j:s.size<=100000)(c:∀d:p<s.size,s[p].toNat≠b):
 Calls prog 168 #[(g,0),.int .u8 b] w fun e w'=>e= .returned false/\∃n,w'=w.drewN n:=by
 obtain⟨g0,g1,g2,f0,f1,f2,k⟩:=h.cells;clear h;by_cases d:p<s.size
 ·have i1:((p:Int)==(s.size:Int))=false:=zl.2 (by omega);have i2:((s[p].toNat:Int) !=(b:Int))=true:=yL.2 (by have:=c d;omega);clear c;go_enter func168,ntmps168
  go_wp2_with fail
  go_quiet (fail)
  go_wp2;go_ret;exact⟨rfl,_,rfl⟩
 have i1:((p:Int)==(s.size:Int))=true:=yN.2 (by omega);clear c;go_enter func168,ntmps168
 go_wp2_with fail
 go_quiet (fail)
 go_wp2;go_ret;exact⟨rfl,_,rfl⟩
def RQ :Option Value->Nat
 |some (.int _ z)=>z.toNat
 |_=>0
theorem J1 (g:Nat)(s:ByteArray)(p L most:Nat)(w:World)(h:jB w g s p L)(O:p<=s.size)(hs:s.size<=100000)(Z:most<=65536):
 Calls prog 167 #[(g,0),most] w fun e w'=>∃(n:Nat) (ok:Bool) (q:Nat),e= .returned (.tuple #[n,ok])/\jB w' g s q L/\ae [g] w w'/\oZ most s p n ok q:=by
 obtain⟨g0,g1,g2,f0,f1,f2,hl⟩:=h.cells;have R:=za h;clear h;go_enter func167,ntmps167
 go_wp2_with fail
 go_loopw [7] (fun S wr=>∃k m:Nat,p<=k/\k<=s.size/\S= .int .i64 m/\m<=most/\Hid (kY s p k m)/\Hid (jB wr g s k L)/\ae [g] w wr) (fun _ wr=>s.size-RQ (wr.cell? (g,1)))
 case atStart=>exact⟨p,0,by omega,O,rfl,by omega,za (kY.start s p),R,DP⟩
 case round=>
  obtain⟨k,m,ag,hk,rfl,Qn,o,i,l⟩:=hrel;obtain⟨X,J,c2,ah,af,ab,pn⟩:=i.out.cells;clear g0 g1 g2 f0 f1 f2;have A:(∃_:k<s.size,48<=s[k].toNat/\s[k].toNat<=57)\/(∀h:k<s.size,jd s[k]=false)/\((∃_:k<s.size,48<=s[k].toNat/\¬s[k].toNat<=57)\/(∃_:k<s.size,¬48<=s[k].toNat)\/¬k<s.size):=by
   by_cases b:k<s.size
   ·by_cases c:48<=s[k].toNat
    ·by_cases j:s[k].toNat<=57
     ·exact .inl ⟨b,c,j⟩
     exact .inr ⟨fun _=>by rw[xJ];intro hd;exact j ((kX _).1 hd).2,.inl ⟨b,c,j⟩⟩
    exact .inr ⟨fun _=>by rw[xJ];intro hd;exact c ((kX _).1 hd).1,.inr (.inl ⟨b,c⟩)⟩
   exact .inr ⟨fun h=>absurd h b,.inr (.inr b)⟩
  rcases A with⟨b,c,j⟩|⟨H,A⟩
  ·have i1:decide ((k:Int)<(s.size:Int))=true:=zD (by omega);have i2:decide ((48:Int)<=(s[k].toNat:Int))=true:=zD (by omega);have M:decide ((s[k].toNat:Int)<=(57:Int))=true:=zD (by omega);obtain⟨d,hd⟩:∃d:Nat,s[k].toNat-48=d:=⟨_,rfl⟩
   have e1:IntKind.u8.wrap ((s[k].toNat:Int)-48)=d:=by rw[show(s[k].toNat:Int)-48=d from by omega];exact IntWalk.u8_in _ (by omega)
   have e2:IntKind.i64.wrap (10*(m:Int))=10*m:=zY _ (by omega);have Y:IntKind.i64.wrap (d:Int)=d:=zY _ (by omega);have e4:IntKind.i64.wrap (10*(m:Int)+d)=10*(m:Int)+d:=zY _ (by omega);have I:Hid (kY s p (k+1) (10*m+d)):=za (by
    have:=o.out.next b ((kX _).2 ⟨c,j⟩);rwa [fp,zg (by omega),hd]at this)
   have C:Hid (∀V,jB V g s k L->jB (V.setCell (g,1) (.int .i64 ((k:Int)+1))) g s (k+1) L):=za (fun V y=>y.to (by omega));by_cases ad:(most:Int)<10*(m:Int)+d
   ·have K:Hid (∀u r,cq (s.data.toList.drop p)=some (u,r)->most<u):=za (fun u r z=>by have:=NX I.out u r z;omega);go_wp2_with fail
    go_quiet (fail)
    go_wp2_with fail
    go_quiet (fail)
    go_wp2;go_ret2
    exact⟨0,false,k+1,rfl,C.out _ (by exact i.out),l.up,F6 K.out (by omega) (by omega)⟩
   go_wp2_with fail
   go_quiet (fail)
   go_wp2_with fail
   go_quiet (fail)
   go_wp2;go_roundw
   case rel=>exact⟨k+1,10*m+d,by omega,by omega,by go_num,by omega,I,za (C.out _ (by exact i.out)),l.up⟩
   case measure=>
    have z:=fun V (y:jB V g s k L)=>(C.out V y).cells.2.1
    rw[J,z]
    ·simp only[RQ];omega
    exact i.out
  have D:=za H;clear H;rcases A with⟨b,c,j⟩|⟨b,c⟩|b;all_goals
   first
    |(have i1:decide ((k:Int)<(s.size:Int))=true:=zD (by omega);have i2:decide ((48:Int)<=(s[k].toNat:Int))=true:=zD (by omega);have M:decide ((s[k].toNat:Int)<=(57:Int))=false:=zt (by omega))
    |(have i1:decide ((k:Int)<(s.size:Int))=true:=zD (by omega);have i2:decide ((48:Int)<=(s[k].toNat:Int))=false:=zt (by omega))
    |have i1:decide ((k:Int)<(s.size:Int))=false:=zt (by omega)
   have ek:IntKind.i64.wrap ((k:Int)-p)=(k:Int)-p:=zY _ (by omega);by_cases B:k=p
   ·have F:(((k:Int)-p)==1)=false:=zl.2 (by omega);have W:decide ((1:Int)<(k:Int)-p)=false:=zt (by omega);have E:=za (ou (s:=s) (at_:=p) (fun h=>by have:=D.out (by omega);simpa[B]using this));clear B;go_wp2_with fail
    go_quiet (fail)
    go_wp2_with fail
    go_quiet (fail)
    go_wp2;go_ret2
    exact⟨m,false,k,rfl,i.out,l.up,wv E.out (by omega) (by omega)⟩
   have G:Hid (p<k):=za (by omega);by_cases N:k=p+1
   ·have F:(((k:Int)-p)==1)=true:=yN.2 (by omega);have x:=za (ko o.out (by omega) D.out (fun h=>absurd h (by omega)));clear N B;go_wp2_with fail
    go_quiet (fail)
    go_wp2_with fail
    go_quiet (fail)
    go_wp2;go_ret2
    exact⟨m,true,k,rfl,i.out,l.up,CK x.out (by omega) G.out (by omega)⟩
   have F:(((k:Int)-p)==1)=false:=zl.2 (by omega);have W:decide ((1:Int)<(k:Int)-p)=true:=zD (by omega);have aa:p<s.size:=by omega
   by_cases hz:s[p].toNat=48
   ·have U:((s[p].toNat:Int) !=48)=false:=by simp[hz]
    have E:=za (ow o.out (by omega) (fun _=>hz));clear hz;go_wp2_with fail
    go_quiet (fail)
    go_wp2_with fail
    go_quiet (fail)
    go_wp2;go_ret2
    exact⟨m,false,k,rfl,i.out,l.up,wv E.out (by omega) (by omega)⟩
   have U:((s[p].toNat:Int) !=48)=true:=yL.2 (by omega);have x:=za (ko o.out (by omega) D.out (fun _ _=>hz));clear hz;go_wp2_with fail
   go_quiet (fail)
   go_wp2_with fail
   go_quiet (fail)
   go_wp2;go_ret2
   exact⟨m,true,k,rfl,i.out,l.up,CK x.out (by omega) G.out (by omega)⟩
abbrev iP (w:World)(g:Nat)(s:ByteArray)(at_:Nat)(f:Int):Prop:=af w g 234 #[s,at_,f]
theorem bu (g:Nat)(s:ByteArray)(k:Nat)(f:Int)(w:World)(h:iP w g s k f):
 Calls prog 143 #[(g,0)] w fun e w'=>e= .returned f/\w=w':=by
 have b:=h.cell 2;simp at b;clear h;go_enter func143,ntmps143
 go_wp2;go_ret;exact⟨rfl,rfl⟩
theorem wY (g:Nat)(s:ByteArray)(k:Nat)(f:Int)(w:World)(h:iP w g s k f)(i:k<=s.size)(d:s.size<=9223372036854775807):
 Calls prog 161 #[(g,0)] w fun e w'=>e= .returned (.int .i64 ((s.size:Int)-k))/\∃n,w.drewN n=w':=by
 have c:=h.cell 0;have b:=h.cell 1;simp at c b;clear h;go_enter func161,ntmps161
 go_wp2;go_quiet (fail)
 go_wp2;go_ret;exact⟨rfl,_,rfl⟩
theorem iQ (g:Nat)(s:ByteArray)(k:Nat)(f:Int)(w:World)(h:iP w g s k 0):
 Calls prog 160 #[(g,0),f] w fun e w'=>e= .returned (.tuple #[])/\iP w' g s (k) (f)/\ae [g] w w':=by
 have b:=h.cell 2;have d:=h.frozen 2;have c:=h.lt;simp at b;have H:=za h;clear h;go_enter func160,ntmps160
 go_wp2;go_end0
 go_wp2;go_end0
 refine⟨rfl, ?_,DP⟩;have h:=H.out;unfold iP at h⊢
 (repeat(first|with_reducible assumption|with_reducible apply af.drewN|with_reducible apply af.drew|with_reducible apply af.alloc|((with_reducible apply af.beside); · (first|omega|(simp<;>omega)))|with_reducible apply af.store));all_goals(first|rfl|simp)
theorem wZ (g:Nat)(s:ByteArray)(k:Nat)(f e:Int)(w:World)(h:iP w g s k f)(c:(f==0)=false):
 Calls prog 160 #[(g,0),e] w fun e w'=>e= .returned (.tuple #[])/\iP w' g s (k) (f)/\ae [g] w w':=by
 have b:=h.cell 2;have d:=h.lt;simp at b;have H:=za h;clear h;go_enter func160,ntmps160
 go_wp2;go_end0
 go_wp2;go_end0
 refine⟨rfl, ?_,DP⟩;have h:=H.out;unfold iP at h⊢
 (repeat(first|with_reducible assumption|with_reducible apply af.drewN|with_reducible apply af.drew|with_reducible apply af.alloc|((with_reducible apply af.beside); · (first|omega|(simp<;>omega)))|with_reducible apply af.store));all_goals(first|rfl|simp)
theorem J2 (g:Nat)(s:ByteArray)(k:Nat)(f n:Int)(w:World)(h:iP w g s k f)(o:(f==0)=false):
 Calls prog 142 #[(g,0),n] w fun e w'=>e= .returned ByteArray.empty/\iP w' g s (k) (f)/\ae [g] w w':=by
 have d:=h.cell 0;have c:=h.cell 1;have b:=h.cell 2;have j:=h.frozen 1;have m:=h.frozen 2;have i:=h.lt;simp at d c b;have H:=za h;clear h;have l:=tB i b;go_enter func142,ntmps142
 go_wp2;go_end0
 go_wp2;go_ret;refine⟨rfl, ?_,DP⟩;have h:=H.out;unfold iP at h⊢
 (repeat(first|with_reducible assumption|with_reducible apply af.drewN|with_reducible apply af.drew|with_reducible apply af.alloc|((with_reducible apply af.beside); · (first|omega|(simp<;>omega)))|with_reducible apply af.store));all_goals(first|rfl|simp)
theorem gq (g:Nat)(s:ByteArray)(k:Nat)(n:Nat)(w:World)(h:iP w g s k 0)(l:k<=s.size)(u:s.size<=9223372036854775807)(r:s.size<k+n)(o:n<=9223372036854775807):
 Calls prog 142 #[(g,0),n] w fun e w'=>e= .returned ByteArray.empty/\iP w' g s (k) (2)/\ae [g] w w':=by
 have i:=h.cell 0;have c:=h.cell 1;have d:=h.cell 2;have p:=h.frozen 1;have j:=h.frozen 2;have b:=h.lt;simp at i c d;have H:=za h;clear h;have m:=tB b i;have x:=tB b c;have q:=tB b d;have g2:=DO b j;go_enter func142,ntmps142
 go_wp2;go_quiet (fail)
 go_wp2;go_end0
 go_wp2;go_ret;refine⟨rfl, ?_,DP⟩;have h:=H.out;unfold iP at h⊢
 (repeat(first|with_reducible assumption|with_reducible apply af.drewN|with_reducible apply af.drew|with_reducible apply af.alloc|((with_reducible apply af.beside); · (first|omega|(simp<;>omega)))|with_reducible apply af.store));all_goals(first|rfl|simp)
theorem eI (g:Nat)(s:ByteArray)(k:Nat)(n:Nat)(w:World)(h:iP w g s k 0)(r:s.size<=9223372036854775807)(q:k+n<=s.size):
 Calls prog 142 #[(g,0),n] w fun e w'=>e= .returned (.string (s.extract k (k+n)))/\iP w' g s (k+n) (0)/\ae [g] w w':=by
 have i:=h.cell 0;have c:=h.cell 1;have d:=h.cell 2;have j:=h.frozen 1;have l:=h.frozen 2;have b:=h.lt;simp at i c d;have H:=za h;clear h;have o:=tB b i;have u:=tB b c;have p:=tB b d;have m:=DO b j;have g2:=DO b l;go_enter func142,ntmps142
 go_wp2;go_quiet (fail)
 go_wp2;go_region
 all_goals go_wp2
 go_region
 all_goals go_wp2
 go_end0
 go_wp2;go_ret;refine⟨rfl, ?_,DP⟩;have h:=H.out;unfold iP at h⊢
 (repeat(first|with_reducible assumption|with_reducible apply af.drewN|with_reducible apply af.drew|with_reducible apply af.alloc|((with_reducible apply af.beside); · (first|omega|(simp<;>omega)))|with_reducible apply af.store));all_goals(first|rfl|simp)
theorem sO (s:ByteArray)(w:World):
 Calls prog 141 #[s] w fun e w'=>e= .returned (w.heap.size,0)/\w'=w.alloc (.cells #[s,(0:Int),(0:Int)] 234):=by
 go_enter func141,ntmps141
 go_wp2;go_ret;exact⟨rfl,rfl⟩
theorem RR (g a b c:Nat)(s:ByteArray)(k:Nat)(v:Value)(w:World)(h:iP w g s k 0)(l:af w a 3 #[(9:Int)])(m:af w b 191 #[(g,0)])(i:af w c 9 #[v])(o:k<=s.size)(u:s.size<=9223372036854775807):
 Calls prog 224 #[(a,0),(b,0),(c,0)] w fun e w'=>e= .returned (0:Int)/\af w' c 9 #[.string (s.extract k (k+min 9 (s.size-k)))]/\ae [c] w w':=by
 have x:w.cell? (g,0)=some (.string s):=h.cell 0;have p:w.cell? (g,1)=some (.int .i64 k):=h.cell 1;have y:w.cell? (a,0)=some (.int .i64 9):=l.cell 0;have k1:w.cell? (b,0)=some (.pointer (some (g,0))):=m.cell 0;have k2:=i.frozen 0;have r:w.cell? (c,0)=some v:=i.cell 0;have n:=za i;clear h l m i;by_cases q:s.size<k+9
 ·have d:¬(9:Int)<=(s.size:Int)-k:=by omega
  have j:Hid (s.extract k (k+min 9 (s.size-k))=s.extract k s.size):=za (by congr 1;omega);generalize s.extract k (k+min 9 (s.size-k))=X at*;go_enter func224,ntmps224
  go_wp2;refine cG 26 (by kernel_rfl) (by kernel_rfl) ?_;simp only[zO,yq,zV,zG];repeat(go_big_quiet_step (fail))
  refine xr ?_;intro nq;go_wp2;go_ret;refine⟨rfl, ?_,DP⟩;have h:=n.out;rw[j.out]
  (repeat(first|with_reducible assumption|with_reducible apply af.drewN|with_reducible apply af.drew|with_reducible apply af.alloc|((with_reducible apply af.beside); · (first|omega|(simp<;>omega)))|with_reducible apply af.store));all_goals(first|rfl|simp)
 have d:(9:Int)<=(s.size:Int)-k:=by omega
 have j:Hid (s.extract k (k+min 9 (s.size-k))=s.extract k ((k:Int)+9).toNat):=za (by congr 1;omega);generalize s.extract k (k+min 9 (s.size-k))=X at*;go_enter func224,ntmps224
 go_wp2;refine cG 26 (by kernel_rfl) (by kernel_rfl) ?_;simp only[zO,yq,zV,zG];repeat(go_big_quiet_step (fail))
 refine xr ?_;intro nq;go_wp2;go_ret;refine⟨rfl, ?_,DP⟩;have h:=n.out;rw[j.out]
 (repeat(first|with_reducible assumption|with_reducible apply af.drewN|with_reducible apply af.drew|with_reducible apply af.alloc|((with_reducible apply af.beside); · (first|omega|(simp<;>omega)))|with_reducible apply af.store));all_goals(first|rfl|simp)
theorem VB (g:Nat)(s:ByteArray)(k:Nat)(w:World)(h:iP w g s k 0)(i:k<=s.size)(m:s.size<=9223372036854775807):
 Calls prog 203 #[(g,0),(9:Int)] w fun e w'=>e= .returned (.string (s.extract k (k+min 9 (s.size-k))))/\iP w' g s k 0/\ae [g] w w':=by
 have d:=h.cell 2;have r:=h.frozen 2;have n:=h.lt;simp at d;have H:=za h;have p:=tB n d;have o:=za (RR g (w.heap.size+1) w.heap.size (w.heap.size+1+1) s k eS (((w.alloc (.cells #[(g,0)] 191)).alloc (.cells #[(9:Int)] 3)).alloc (.cells #[eS] 9)) (((h.alloc _).alloc _).alloc _) ((af.at_ (by simp)).alloc _) (((af.new _ _ _).alloc _).alloc _) (af.at_ (by simp)) i m);generalize s.extract k (k+min 9 (s.size-k))=X at*;clear h;go_enter func203,ntmps203
 go_wp2_with fail
 go_enter func175,ntmps175
 go_wp2_with fail
 refine o.out.mono ?_;rintro e w' ⟨rfl,hx,b⟩;have u:w'.cell? (w.heap.size+1+1,0)=some (.string X):=hx.cell 0;have c:iP w' g s k 0:=(((H.out.alloc _).alloc _).alloc _).only b (by simp;omega);have q:=c.frozen 2;have x:w'.cell? (g,2)=some (.int .i64 0):=c.cell 2;have j:=za c;have l:=za ((((ae.refl [g] w).alloc _).alloc _).alloc _|>.trans' b (by simp;omega));clear c hx b;go_wp2;go_end0
 go_wp2;go_ret;refine⟨rfl, ?_, ?_⟩
 ·have h:=j.out;unfold iP at h⊢
  (repeat(first|with_reducible assumption|with_reducible apply af.drewN|with_reducible apply af.drew|with_reducible apply af.alloc|((with_reducible apply af.beside); · (first|omega|(simp<;>omega)))|with_reducible apply af.store));all_goals(first|rfl|simp)
 have b:=l.out;exact b.up
def lh (N:Nat×Nat×Int)(most:Nat):Int:=if N.2.2≠0 then N.2.2 else if most<N.1 then 5 else 0
def nN (N:Nat×Nat×Int)(most:Nat):Nat:=if lh N most=0 then N.1 else 0
def nO (N:Nat×Nat×Int)(most k:Nat):Nat:=if lh N most=0 then k+N.2.1 else k
theorem lj (N:Nat×Nat×Int)(most k:Nat):(N.2.2≠0/\lh N most=N.2.2/\nN N most=0/\nO N most k=k)\/(N.2.2=0/\most<N.1/\lh N most=5/\nN N most=0/\nO N most k=k)\/(N.2.2=0/\¬most<N.1/\lh N most=0/\nN N most=N.1/\nO N most k=k+N.2.1):=by
 unfold nN nO lh;by_cases h:N.2.2≠0
 ·simp[h]
 by_cases b:most<N.1
 ·simp only[zC]at h;simp[h,b]
 simp only[zC]at h;simp[h,b]
theorem RS (g:Nat)(s:ByteArray)(k most:Nat)(w:World)(h:iP w g s k 0)(O:k<=s.size)(G:s.size<=9223372036854775807)(Y:most<18446744073709551616)(H:aW w)(hg:g≠0):
 Calls prog 163 #[(g,0),.int .u64 most] w fun e w'=>e= .returned (.int .u64 (nN (au (s.data.toList.drop k)) most))/\iP w' g s (nO (au (s.data.toList.drop k)) most k) (lh (au (s.data.toList.drop k)) most)/\ae [g] w w':=by
 have y:=za (bu g s k 0 w h);have x:=za (VB g s k w h O G);have F:(s.extract k (k+min 9 (s.size-k))).data.toList=(s.data.toList.drop k).take 9:=by
  rw[aq,Zc,show k+min 9 (s.size-k)-k=min 9 (s.size-k)from by omega];by_cases W:9<=s.size-k
  ·rw[yF W]
  rw[Nat.min_eq_right (by omega),zw (by simp),zw (by simp;omega)]
 have C:(s.extract k (k+min 9 (s.size-k))).size<=9223372036854775807:=by rw[ar _ _ _ (by omega)];omega
 have A:Hid (∀b,aW b->Calls prog 202 #[.string (s.extract k (k+min 9 (s.size-k)))] b fun e w'=>e=C2 (au (s.data.toList.drop k))/\b=w'):=za (fun b L=>by
  have:=RC _ b C L;rwa [F,Gd]at this)
 have u:(au (s.data.toList.drop k)).2.2=0->k+(au (s.data.toList.drop k)).2.1<=s.size:=fun U=>by
  have:=(iN (s.data.toList.drop k) (au (s.data.toList.drop k)).1 (au (s.data.toList.drop k)).2.1 (by rw[<-U])).2.1;rw[zN,aa]at this;omega
 have B:=za (fun b (c:ae [g] w b)=>H.only c (by simp;omega));have Z:=za h;generalize s.extract k (k+min 9 (s.size-k))=X at*;generalize au (s.data.toList.drop k)=N at*;obtain⟨m,z,r⟩:=N;have I:=lj (m,z,r) most k;generalize lh (m,z,r) most=E at*;generalize nN (m,z,r) most=M at*;generalize nO (m,z,r) most k=K at*;simp only at I u;have S:=za u;clear h H F C u;rcases I with⟨D,rfl,rfl,rfl⟩|⟨rfl,R,rfl,rfl,rfl⟩|⟨rfl,R,rfl,rfl,rfl⟩
 ·have b1:(E==0)=false:=zl.2 D;have b2:(E !=0)=true:=yL.2 D;go_enter func163,ntmps163
  go_wp2_with fail
  refine y.out.mono ?_;rintro e w' ⟨rfl,rfl⟩;go_wp2_with fail
  refine x.out.mono ?_;rintro e b ⟨rfl,i,c⟩;have l:=za i;have n:=za c;have p:=za (A.out b (B.out b c));clear i c;go_wp2_with fail
  refine p.out.mono ?_;rintro e w' ⟨rfl,rfl⟩;unfold C2;go_wp2_with fail
  refine(iQ g s K E b l.out).mono ?_;rintro e J ⟨rfl,d,j⟩;have q:=za d;have o:=za j;clear d j;go_wp2;go_ret;exact⟨rfl,q.out,n.out.trans o.out⟩
 ·skip
  go_enter func163,ntmps163
  go_wp2_with fail
  refine y.out.mono ?_;rintro e w' ⟨rfl,rfl⟩;go_wp2_with fail
  refine x.out.mono ?_;rintro e b ⟨rfl,i,c⟩;have l:=za i;have n:=za c;have p:=za (A.out b (B.out b c));clear i c;go_wp2_with fail
  refine p.out.mono ?_;rintro e w' ⟨rfl,rfl⟩;unfold C2;go_wp2_with fail
  refine(iQ g s K 5 b l.out).mono ?_;rintro e J ⟨rfl,d,j⟩;have q:=za d;have o:=za j;clear d j;go_wp2;go_ret;exact⟨rfl,q.out,n.out.trans o.out⟩
 skip
 go_enter func163,ntmps163
 go_wp2_with fail
 refine y.out.mono ?_;rintro e w' ⟨rfl,rfl⟩;go_wp2_with fail
 refine x.out.mono ?_;rintro e b ⟨rfl,i,c⟩;have l:=za i;have n:=za c;have p:=za (A.out b (B.out b c));clear i c;go_wp2_with fail
 refine p.out.mono ?_;rintro e w' ⟨rfl,rfl⟩;unfold C2;go_wp2_with fail
 refine(eI g s k z b l.out G (S.out trivial)).mono ?_;rintro e J ⟨rfl,d,j⟩;have q:=za d;have o:=za j;clear d j;go_wp2;go_ret;exact⟨rfl,q.out,n.out.trans o.out⟩
theorem Ef :∀(x:Ty) (B:Nat) (w:World) (j F E u:Value),cz w B x j F E u->B<=w.heap.size->x.count<=4611686018427387904->
 Calls prog 57 #[.agg #[j,F,E,u]] w fun e w'=>e= .returned x.count/\(w,w'):=by
 intro x;induction x using Ty.ind with
 |h ki s l ta ih=>
  intro B w j F E u h hB N;obtain⟨rfl,rfl,rfl,K,H,O,hs,A,cap,rfl,od,jf,L⟩:=h;have X:=za ih;have HS:=za L;unfold mM at K H O;obtain⟨To,Tp⟩:=K;obtain⟨Ts,Tr⟩:=H;obtain⟨Tq,K4⟩:=O;clear ih L;have pn:1+ba l<=4611686018427387904:=by simpa only[Ty.count]using N
  rw[show(Ty.mk ki s l ta).count=1+ba l from by simp only[Ty.count]];clear N;go_enter func57,ntmps57
  go_wp2_with fail
  go_loopw [3,4] (fun n i wr=>∃k m:Nat,k<=l.length/\i= .int .i64 k/\Hid (m=1+ba (l.take k))/\n= .int .i64 m/\(w,wr)/\(wr,w.heap.size,2,Value.slice A l.length cap)) (fun _ i _=>l.length-(intOf i).toNat)
  case atStart=>exact⟨0,1,by omega,rfl,za (by simp[ba]),rfl,bQ,by simp⟩
  case round=>
   obtain⟨k,m,hk,rfl,G,rfl,c,S⟩:=hrel;by_cases y:k<l.length
   ·obtain⟨b,o,d0,d1,d2,d3,rfl,gu,z,C,D,r,hi⟩:=HS.out.at_ k y;simp only[zK]at z C D r;replace z:=(c.cell (p:=(b,o+k*4)) (by simp;omega)).trans z;replace C:=(c.cell (p:=(b,o+k*4+1)) (by simp;omega)).trans C;replace D:=(c.cell (p:=(b,o+k*4+2)) (by simp;omega)).trans D;replace r:=(c.cell (p:=(b,o+k*4+3)) (by simp;omega)).trans r;have Y:=c.size;have hG:=zA y;have R:=hi.below (c.mono hB);have vE:=FQ l k y;have U:=vX l (k+1);have d:=G.out;obtain⟨q,M⟩:∃q,l[k].count=q:=⟨_,rfl⟩
    have aa:m+q<=4611686018427387904:=by omega
    have Hq:Hid (m+q=1+ba (l.take (k+1))):=za (by omega);have I:=za (X.out _ hG B wr d0 d1 d2 d3 R (by omega) (by omega));rw[M]at I;clear vE U d M R hi;go_wp2_with fail
    refine I.out.mono ?_;rintro e w2 ⟨rfl,J⟩;have iV:=lt_of_cell S;have Z:=(J.cell (p:=(w.heap.size,2)) (by simp;omega)).trans S;have W:=c.trans (J.mono Y);go_wp2;go_roundw
    case rel=>exact⟨k+1,m+q,by omega,by go_num,Hq,by go_num,W,Z⟩
    case measure=>simp[intOf];omega
   have d:=G.out;rw[zw (by omega)]at d;have HM:=za d;clear d;go_wp2;go_ret;exact⟨by show Ending.returned m=_;rw[HM.out],c⟩
theorem GL :∀(x:Ty) (B:Nat) (w:World) (u N L C:Value),cz w B x u N L C->B<=w.heap.size->x.deep<=4611686018427387904->
 Calls prog 58 #[.agg #[u,N,L,C]] w fun e w'=>e= .returned x.deep/\(w,w'):=by
 intro x;induction x using Ty.ind with
 |h ki s l ta ih=>
  intro B w u N L C h hB X;obtain⟨rfl,rfl,rfl,U,R,Z,hs,A,cap,rfl,od,jf,W⟩:=h;have IH:=za ih;have HS:=za W;unfold mM at U R Z;obtain⟨To,Tp⟩:=U;obtain⟨Ts,Tr⟩:=R;obtain⟨Tq,K4⟩:=Z;clear ih W;have pn:dH l+1<=4611686018427387904:=by simpa only[Ty.deep]using X
  rw[show(Ty.mk ki s l ta).deep=dH l+1 from by simp only[Ty.deep]];clear X;go_enter func58,ntmps58
  go_wp2_with fail
  go_loopw [3,4] (fun n i wr=>∃k m:Nat,k<=l.length/\i= .int .i64 k/\Hid (m=dH (l.take k))/\m<=4611686018427387904/\n= .int .i64 m/\(w,wr)/\(wr,w.heap.size,2,Value.slice A l.length cap)) (fun _ i _=>l.length-(intOf i).toNat)
  case atStart=>exact⟨0,0,by omega,rfl,za (by simp[dH]),by omega,rfl,bQ,by simp⟩
  case round=>
   obtain⟨k,m,hk,rfl,O,ab,rfl,c,r⟩:=hrel;by_cases D:k<l.length
   ·obtain⟨b,o,d0,d1,d2,d3,rfl,gu,F,G,J,y,hi⟩:=HS.out.at_ k D;simp only[zK]at F G J y;replace F:=(c.cell (p:=(b,o+k*4)) (by simp;omega)).trans F;replace G:=(c.cell (p:=(b,o+k*4+1)) (by simp;omega)).trans G;replace J:=(c.cell (p:=(b,o+k*4+2)) (by simp;omega)).trans J;replace y:=(c.cell (p:=(b,o+k*4+3)) (by simp;omega)).trans y;have Y:=c.size;have hG:=zA D;have K:=hi.below (c.mono hB);have vE:=Jr l k D;have S:=BG l (k+1);have d:=O.out;obtain⟨q,H⟩:∃q,l[k].deep=q:=⟨_,rfl⟩
    have aa:q<=4611686018427387904:=by omega
    have z:=za (IH.out _ hG B wr d0 d1 d2 d3 K (by omega) (by omega));rw[H]at z;by_cases B3:m<q
    ·have M:Hid (q=dH (l.take (k+1))):=za (by omega);clear vE S d H K hi;go_wp2_with fail
     refine z.out.mono ?_;rintro e w2 ⟨rfl,j⟩;have iV:=lt_of_cell r;have I:=(j.cell (p:=(w.heap.size,2)) (by simp;omega)).trans r;have E:=c.trans (j.mono Y);go_wp2;go_roundw
     case rel=>exact⟨k+1,q,by omega,by go_num,M,by omega,by go_num,E,I⟩
     case measure=>simp[intOf];omega
    have M:Hid (m=dH (l.take (k+1))):=za (by omega);clear vE S d H K hi;go_wp2_with fail
    refine z.out.mono ?_;rintro e w2 ⟨rfl,j⟩;have iV:=lt_of_cell r;have I:=(j.cell (p:=(w.heap.size,2)) (by simp;omega)).trans r;have E:=c.trans (j.mono Y);go_wp2;go_roundw
    case rel=>exact⟨k+1,m,by omega,by go_num,M,by omega,by go_num,E,I⟩
    case measure=>simp[intOf];omega
   have d:=O.out;rw[zw (by omega)]at d;have HM:=za d;clear d;go_wp2;go_ret;exact⟨by show Ending.returned (.int .i64 ((m:Int)+1))=_;rw[HM.out];go_num,c⟩
theorem VC (n b:Nat)(d:b<256)(e:n<72057594037927936):bits .or .u64 (IntKind.u64.wrap ((n:Int)*256)) (IntKind.u64.wrap (b:Int))=((256*n+b:Nat):Int):=by
 have c:((n:Int)*256)=((n*2^(8*1):Nat):Int):=by simp
 rw[xy (b:Int) (by omega),c,xy _ (by omega),u64_or_nat _ _ (by omega) (by omega),Nat.or_comm,Xr b n 1 (by simpa using d)];omega
theorem RT (s:ByteArray)(w:World)(p:0<s.size)(o:s.size<=8):
 Calls prog 222 #[s] w fun e w'=>e= .returned (.tuple #[.int .u64 (mL s.data.toList),(0:Int)])/\w=w':=by
 have hz:((s.size:Int)==0)=false:=zl.2 (by omega);go_enter func222,ntmps222
 go_wp2;go_loop [5,15] (fun n i=>∃k m:Nat,k<=s.size/\Hid (m=mL (s.data.toList.take k))/\n= .int .u64 m/\i= .int .i64 k) (fun _ i=>s.size-(intOf i).toNat)
 case atStart=>exact⟨0,0,by omega,rfl,rfl,rfl⟩
 case round=>
  obtain⟨k,m,c,b,rfl,rfl⟩:=hrel;by_cases j:k<s.size
  ·go_wp2;have h:=s[k].toNat_lt;have d:=DE (s.data.toList.take k);rw[length_take s k c,<-b.out]at d;have l:2^(8*k)<=2^56:=yu (by omega) (by omega);have e:=VC m s[k].toNat h (by omega);go_round
   case rel=>
    refine⟨k+1,_,by omega,za rfl, ?_,by go_num⟩;rw[jw s k j,vN,<-b.out,<-e]
   case measure=>simp[intOf];omega
  go_wp2;go_ret2
  exact⟨GB rfl (by rw[b.out,zw (by simp;omega)]),rfl⟩
def tS (s:ByteArray):Int:=if s.size=0 then 0 else if 8<s.size then 5 else if ia s.data.toList then 3 else 0
def C5 (s:ByteArray):Nat:=if tS s=0 then mL s.data.toList else 0
theorem RU (s:ByteArray)(h:0<s.size):ia s.data.toList=decide (s[0].toNat=0):=by
 have:=drop_cons s 0 h;rw[zG]at this;rw[this];simp only[ia];by_cases e:s[0]=0
 ·simp[e]
 have:s[0].toNat≠0:=fun h=>e (zP.1 h)
 simp[e,this]
theorem x' (s:ByteArray)(w:World)(o:s.size<=9223372036854775807):
 Calls prog 198 #[s] w fun e w'=>e= .returned (.tuple #[.int .u64 (C5 s),.int .i64 (tS s)])/\w=w':=by
 rcases fZ s with⟨hz,rfl⟩|⟨hz,p,n⟩
 ·have c:Hid (C5 ⟨#[]⟩=0):=za (by simp[C5,tS,ByteArray.size,mL,dg]);have b:Hid (tS ⟨#[]⟩=0):=za (by simp[tS,ByteArray.size]);generalize C5 ⟨#[]⟩=N at*;generalize tS ⟨#[]⟩=E at*;clear hz;go_enter func198,ntmps198
  go_wp2;go_ret2
  exact⟨by rw[c.out,b.out];rfl,rfl⟩
 have j:0<s.size:=by
  rcases Zt s.size with h|h
  ·exact absurd h (by first|exact hz|omega)
  exact h
 by_cases l:s.size<=8
 ·have i:=RU s j;by_cases d:s[0].toNat=0
  ·have b:Hid (tS s=3):=za (by unfold tS;rw[zf (by omega),zf (by omega),i,d];rfl);have c:Hid (C5 s=0):=za (by simp[C5,b.out]);have m:((s[0].toNat:Int)==0)=true:=by simp[d]
   generalize C5 s=N at*;generalize tS s=E at*;clear hz d i;go_enter func198,ntmps198
   go_wp2;go_ret2
   exact⟨by rw[c.out,b.out];rfl,rfl⟩
  have b:Hid (tS s=0):=za (by unfold tS;rw[zf (by omega),zf (by omega),i,zt d];rfl);have c:Hid (C5 s=mL s.data.toList):=za (by simp[C5,b.out]);have m:((s[0].toNat:Int)==0)=false:=zl.2 (by omega);have k:=za (RT s w j l);rw[<-c.out]at k;generalize C5 s=N at*;generalize tS s=E at*;clear hz d i;go_enter func198,ntmps198
  go_wp2_with fail
  refine k.out.mono ?_;rintro e w' ⟨rfl,rfl⟩;go_wp2;go_ret2
  exact⟨by rw[b.out];rfl,rfl⟩
 have b:Hid (tS s=5):=za (by unfold tS;rw[zf (by omega),zg (by omega)]);have c:Hid (C5 s=0):=za (by simp[C5,b.out]);generalize C5 s=N at*;generalize tS s=E at*;clear hz;go_enter func198,ntmps198
 go_wp2;go_ret2
 exact⟨by rw[c.out,b.out];rfl,rfl⟩
def ofE (tx:ByteArray)(l:Bool):Int:=if l then 12 else tS tx
def Ut (tx:ByteArray)(l:Bool):Nat:=if l then 0 else C5 tx
theorem aer (b:ByteArray)(l:Bool)(d:Value)(w:World)(h:b.size<=9223372036854775807):
 Calls prog 157 #[.agg #[b,l,d]] w fun e w'=>e= .returned (.tuple #[.int .u64 (Ut b l),.int .i64 (ofE b l)])/\(w,w'):=by
 cases l with
 |true=>
  simp only[Ut,ofE,xM];go_enter func157,ntmps157
  go_wp2;go_ret2
  exact⟨rfl,bQ⟩
 |false=>
  have i:=za (fun w=>x' b w h);have j:Hid (Ut b false=C5 b):=za rfl;have c:Hid (ofE b false=tS b):=za rfl;rw[j.out,c.out];generalize C5 b=N at*;generalize tS b=E at*;go_enter func157,ntmps157
  go_wp2_with fail
  refine(i.out _).mono ?_;rintro e w' ⟨rfl,rfl⟩;go_wp2;go_ret2
  exact⟨rfl,bQ⟩
theorem aax (k s r:Int)(x:Value)(b:ByteArray)(l:Bool)(d2:Value)(w:World)(A:b.size<=9223372036854775807)(D:s<=8):
 Calls prog 184 #[.agg #[k,s,x,r],.agg #[b,l,d2]] w fun e w'=>e= .returned (.bool (!l&&decide ((b.size:Int)<=s)&& !ia b.data.toList))/\(w,w'):=by
 have p:=za (fun w=>aer b l d2 w A);obtain⟨R,i⟩:∃R,Hid ((!l&&decide ((b.size:Int)<=s)&& !ia b.data.toList)=R):=⟨_,za rfl⟩
 rw[i.out];obtain⟨E,d⟩:∃E,Hid (ofE b l=E):=⟨_,za rfl⟩
 rw[d.out]at p;generalize Ut b l=N at*;by_cases hz:E=0
 ·subst hz;have u:Hid (R=decide ((b.size:Int)<=s)):=za (by
   have h:=d.out;rw[<-i.out];unfold ofE tS at h;cases l with
   |true=>simp at h
   |false=>
    simp only[Bool.not_false,Bool.true_and];by_cases j:b.size=0
    ·have:b.data.toList= []:=zk (by rw[aa];exact j);simp[this,ia]
    rw[zf (by simp),zf j]at h;split at h
    ·simp at h
    split at h
    ·simp at h
    rename_i n;simp[n])
  clear i d;go_enter func184,ntmps184
  go_wp2_with fail
  refine(p.out _).mono ?_;rintro e m ⟨rfl,c⟩;have o:=c;simp only[zp]at o;have q:Below w.heap.size w m:=((zi w.heap.size w).alloc (ze _) _|>.alloc (by simp) _).trans (o.mono (by omega));have z:af m w.heap.size 70 #[k,s,x,r]:=((af.new w _ _).alloc _).only (ae.ai c (ze _)) (by simp);have y:af m (w.heap.size+1) 28 #[b,l,d2]:=(show af _ (w.heap.size+1) _ _ from by have:=af.new (w.alloc (.cells #[k,s,x,r] 70)) 28 #[b,l,d2];simpa using this).only (ae.ai c (ze _)) (by simp);have C:=z.cell 1;have g2:=y.cell 0;clear c o z y;go_wp2;go_ret;exact⟨by rw[u.out];rfl,q⟩
 have u:Hid (R=false):=za (by
  have h:=d.out;rw[<-i.out];unfold ofE tS at h;cases l with
  |true=>simp
  |false=>
   simp only[Bool.not_false,Bool.true_and];by_cases j:b.size=0
   ·simp[j]at h;exact absurd h.symm hz
   rw[zf (by simp),zf j]at h;by_cases B:8<b.size
   ·rw[zt (by omega)];rfl
   rw[zf B]at h;by_cases n:ia b.data.toList=true
   ·simp[n]
   rw[zf n]at h;exact absurd h.symm hz)
 have F:(E==0)=false:=zl.2 hz;clear i d hz;go_enter func184,ntmps184
 go_wp2_with fail
 refine(p.out _).mono ?_;rintro e m ⟨rfl,c⟩;simp only[zp]at c;have q:Below w.heap.size w m:=((zi w.heap.size w).alloc (ze _) _|>.alloc (by simp) _).trans (c.mono (by omega));go_wp2;go_ret;exact⟨by rw[u.out];rfl,q⟩
theorem aay (k s c:Int)(A:Option Addr)(n cap:Nat)(b:ByteArray)(l:Bool)(h:Option Addr)(m i:Nat)(w:World)(q:b.size<=9223372036854775807)(o:n<=9223372036854775807)(p:m<=9223372036854775807)(r:0<=c)(j:c<=n):
 Calls prog 185 #[.agg #[k,s,.slice A n cap,c],.agg #[b,l,.slice h m i]] w fun e w'=>e= .returned (.bool (!l&&decide ((b.size:Int)=s)))/\(w,w'):=by
 obtain⟨R,d⟩:∃R,Hid ((!l&&decide ((b.size:Int)=s))=R):=⟨_,za rfl⟩
 rw[d.out];go_enter func185,ntmps185
 cases l
 all_goals
  go_wp2;all_goals
   go_ret;refine⟨aU ?_,bQ⟩;rw[<-d.out,yP];simp;try omega
theorem aaz (k s c:Int)(A:Option Addr)(n cap:Nat)(b:ByteArray)(l:Bool)(h:Option Addr)(m i:Nat)(w:World)(q:b.size<=9223372036854775807)(o:n<=9223372036854775807)(p:m<=9223372036854775807)(r:0<=c)(j:c<=n):
 Calls prog 188 #[.agg #[k,s,.slice A n cap,c],.agg #[b,l,.slice h m i]] w fun e w'=>e= .returned (.bool (!l&&decide ((b.size:Int)<=s)))/\(w,w'):=by
 obtain⟨R,d⟩:∃R,Hid ((!l&&decide ((b.size:Int)<=s))=R):=⟨_,za rfl⟩
 rw[d.out];go_enter func188,ntmps188
 cases l
 all_goals
  go_wp2;all_goals
   go_ret;refine⟨aU ?_,bQ⟩;rw[<-d.out,yP];simp;try omega
theorem aaA (k s b:Int)(A:Option Addr)(n cap:Nat)(d:ByteArray)(l:Bool)(h:Option Addr)(m i:Nat)(w:World)(q:d.size<=9223372036854775807)(o:n<=9223372036854775807)(p:m<=9223372036854775807)(r:0<=b)(j:b<=n):
 Calls prog 189 #[.agg #[k,s,.slice A n cap,b],.agg #[d,l,.slice h m i]] w fun e w'=>e= .returned (.bool (l&&decide ((m:Int)<=s)))/\(w,w'):=by
 obtain⟨R,c⟩:∃R,Hid ((l&&decide ((m:Int)<=s))=R):=⟨_,za rfl⟩
 rw[c.out];go_enter func189,ntmps189
 cases l
 all_goals
  go_wp2;all_goals
   go_ret;refine⟨aU ?_,bQ⟩;rw[<-c.out,yP];simp;try omega
theorem aaB (k s b:Int)(A:Option Addr)(n cap:Nat)(d:ByteArray)(l:Bool)(h:Option Addr)(m i:Nat)(w:World)(q:d.size<=9223372036854775807)(o:n<=9223372036854775807)(p:m<=9223372036854775807)(r:0<=b)(j:b<=n):
 Calls prog 192 #[.agg #[k,s,.slice A n cap,b],.agg #[d,l,.slice h m i]] w fun e w'=>e= .returned (.bool (l&&decide (m<=n)&&decide ((n:Int)-b<=m)))/\(w,w'):=by
 obtain⟨R,c⟩:∃R,Hid ((l&&decide (m<=n)&&decide ((n:Int)-b<=m))=R):=⟨_,za rfl⟩
 rw[c.out];go_enter func192,ntmps192
 cases l
 all_goals
  go_wp2;all_goals
   go_ret;refine⟨aU ?_,bQ⟩;rw[<-c.out,yP];simp;try omega
def mw :Value:= .agg #[.func (.func 184) #[] #[],.func (.func 182) #[] #[]]
def jR :Value:= .agg #[.func (.func 185) #[] #[],.func (.func 186) #[] #[]]
def kH :Value:= .agg #[.func (.func 188) #[] #[],.func (.func 182) #[] #[]]
def qV :Value:= .agg #[.func (.func 189) #[] #[],.func (.func 190) #[] #[]]
def kv :Value:= .agg #[.func (.func 192) #[] #[],.func (.func 193) #[] #[]]
def kEs :List MapEntry:= [⟨.int .i64 1,mw,0⟩,⟨.int .i64 2,jR,1⟩,⟨.int .i64 3,kH,2⟩,⟨.int .i64 4,qV,3⟩,⟨.int .i64 5,kv,4⟩]
theorem VD (w:World)(o b:Obj):({(w.alloc o)with heap:=(w.alloc o).heap.setIfInBounds w.heap.size b}:World)=w.alloc b:=by
 have h:(w.heap.push o).setIfInBounds w.heap.size b=w.heap.push b:=by
  apply Array.ext';simp
 show({w with heap:=(w.heap.push o).setIfInBounds w.heap.size b}:World)={w with heap:=w.heap.push b}
 rw[h]
theorem nP (w:World)(es:List MapEntry)(c:Nat)(k:Int)(v:Value)(h:Instr.findNow (.int .i64) k es 0=some none):
 (Instr.mapUpdate 199 (.map (some w.heap.size)) k v).run prog (w.alloc (.map es.toArray c))= .ok () (w.alloc (.map (es++ [({key:= .int .i64 k,val:=v,born:=c}:MapEntry)]).toArray (c+1))):=by
 have b:(w.alloc (.map es.toArray c)).heap[w.heap.size]?=some (.map es.toArray c):=yK w _;have d:MapKept.IsKey (.int .i64) k:=by simp[MapKept.IsKey]
 simp[Instr.mapUpdate,xX underlying199,xQ b,Zb yt d,Zn yt h,MapKept.run_setObj_map _ b,Result.andThen];exact VD w _ _
theorem nQ {es:List MapEntry}{c:Nat}(b:w.heap[g]?=some (.map es.toArray c))(k:Int)(v:Value)(i:Nat)(h:Instr.findNow (.int .i64) k es 0=some (some (i,v))):
 (Instr.lookup 199 (.map (some g)) k false).run prog w= .ok v w:=by
 have d:MapKept.IsKey (.int .i64) k:=by simp[MapKept.IsKey]
 simp[Instr.lookup,xX underlying199,xQ b,Zb yt d,Zn yt h,Result.andThen]
theorem VE (w:World):Calls prog 149 #[] w fun e w'=>e= .returned (.map (some w.heap.size))/\w'=w.alloc (.map kEs.toArray 5):=by
 have j:= @run_makeMap prog;have d:=nP w [] 0 1 mw rfl;have b:=nP w [⟨.int .i64 1,mw,0⟩] 1 2 jR rfl;have c:=nP w [⟨.int .i64 1,mw,0⟩,⟨.int .i64 2,jR,1⟩] 2 3 kH rfl;have i:=nP w [⟨.int .i64 1,mw,0⟩,⟨.int .i64 2,jR,1⟩,⟨.int .i64 3,kH,2⟩] 3 4 qV rfl;have h:=nP w [⟨.int .i64 1,mw,0⟩,⟨.int .i64 2,jR,1⟩,⟨.int .i64 3,kH,2⟩,⟨.int .i64 4,qV,3⟩] 4 5 kv rfl;simp only[yo,zT,Nat.reduceAdd]at d b c i h;simp only[mw,jR,kH,qV,kv]at d b c i h;go_enter func149,ntmps149
 go_wp2;go_ret;exact⟨rfl,rfl⟩
theorem OA (k:Int):k=1\/k=2\/k=3\/k=4\/k=5\/(k≠1/\k≠2/\k≠3/\k≠4/\k≠5):=by omega
theorem aiJ (h:fK 1 s n t=false):(s≠1/\s≠2/\s≠4/\s≠8)\/((s=1\/s=2\/s=4\/s=8)/\n≠0)\/((s=1\/s=2\/s=4\/s=8)/\n=0/\t≠0):=by
 simp[fK]at h;omega
theorem aiK (h:fK 2 s n t=false):s<1\/(1<=s/\65536<s)\/(1<=s/\s<=65536/\n≠0)\/(1<=s/\s<=65536/\n=0/\t≠0):=by
 simp[fK]at h;omega
theorem aiL (h:fK 3 s n t=false):s<0\/(0<=s/\65536<s)\/(0<=s/\s<=65536/\n≠0)\/(0<=s/\s<=65536/\n=0/\t≠0):=by
 simp[fK]at h;omega
theorem aiM (h:fK 4 s n t=false):s<0\/(0<=s/\1024<s)\/(0<=s/\s<=1024/\n≠1)\/(0<=s/\s<=1024/\n=1/\t≠0):=by
 simp[fK]at h;omega
theorem aiN (h:fK 5 s n t=false):s≠0\/(s=0/\16<n)\/(s=0/\n<=16/\t<0)\/(s=0/\n<=16/\0<=t/\(n:Int)<t):=by
 simp[fK]at h;omega
theorem nb {a b:Int}(h:a≠b):(a==b)=false:=zl.2 h
theorem OB :∀(x:Ty) (B:Nat) (w:World) (S c1 c2 U:Value),cz w B x S c1 c2 U->B<=w.heap.size->
 Calls prog 59 #[.agg #[S,c1,c2,U]] w fun e w'=>e= .returned x.right/\(w,w'):=by
 intro x;induction x using Ty.ind with
 |h ki s l ta ih=>
  intro B w S c1 c2 U h hB;obtain⟨rfl,rfl,rfl,rH,Dt,oO,hs,A,cap,rfl,od,jf,da⟩:=h;have Y:=za ih;have M:=za da;unfold mM at rH Dt oO;obtain⟨To,Tp⟩:=rH;obtain⟨Ts,Tr⟩:=Dt;obtain⟨Tq,K4⟩:=oO;clear ih da;have r:Hid ((Ty.mk ki s l ta).right=(fK ki s l.length ta&&bS l)):=za (by simp only[Ty.right]);generalize (Ty.mk ki s l ta).right=R at*;cases bG:fK ki s l.length ta with
  |true=>
   have hw:=kq bG;rcases hw with⟨rfl,K,d,rfl⟩|⟨rfl,h3,X,d,rfl⟩|⟨rfl,h3,X,d,rfl⟩|⟨rfl,h3,X,d,rfl⟩|⟨rfl,rfl,X,h5,h6⟩
   ·obtain rfl:l= []:=zk d;have c:Hid (R=true):=za (by rw[r.out,bG];rfl);clear r bG;rcases K with rfl|rfl|rfl|rfl;all_goals
     go_enter yl,yf
     go_wp2_with fail
     refine zZ 1 ?_;rw[yh];go_wp2;go_ret;exact⟨by rw[c.out];rfl,bQ⟩
   ·obtain rfl:l= []:=zk d;have c:Hid (R=true):=za (by rw[r.out,bG];rfl);clear r bG;go_enter yl,yf
    go_wp2_with fail
    refine zZ 1 ?_;rw[yh];go_wp2;go_ret;exact⟨by rw[c.out];rfl,bQ⟩
   ·obtain rfl:l= []:=zk d;have c:Hid (R=true):=za (by rw[r.out,bG];rfl);clear r bG;go_enter yl,yf
    go_wp2_with fail
    refine zZ 1 ?_;rw[yh];go_wp2;go_ret;exact⟨by rw[c.out];rfl,bQ⟩
   ·have c:Hid (R=bS l):=za (by rw[r.out,bG];rfl);have y:((l.length:Int)==1)=true:=by simp[d]
    clear r bG d;go_enter yl,yf
    go_wp2_with fail
    go_loopw [3,5] (fun ok i wr=>∃(k:Nat) (b:Bool),k<=l.length/\i= .int .i64 k/\ok= .bool b/\Hid (bS (l.take k)=b)/\(w,wr)/\(wr,w.heap.size,2,Value.slice A l.length cap)) (fun _ i _=>l.length-(intOf i).toNat)
    case atStart=>exact⟨0,true,by omega,rfl,rfl,za (by simp[bS]),bQ,by simp⟩
    case round=>
     obtain⟨k,b,hk,rfl,rfl,E,m,O⟩:=hrel;by_cases u:k<l.length
     ·cases b with
      |true=>
       obtain⟨b,o,d0,d1,d2,d3,rfl,gu,F,y,H,D,hi⟩:=M.out.at_ k u;simp only[zK]at F y H D;replace F:=(m.cell (p:=(b,o+k*4)) (by simp;omega)).trans F;replace y:=(m.cell (p:=(b,o+k*4+1)) (by simp;omega)).trans y;replace H:=(m.cell (p:=(b,o+k*4+2)) (by simp;omega)).trans H;replace D:=(m.cell (p:=(b,o+k*4+3)) (by simp;omega)).trans D;have Z:=m.size;have hG:=zA u;have N:=hi.below (m.mono hB);have I:=za (Y.out _ hG B wr d0 d1 d2 d3 N (by omega));obtain⟨q,G⟩:∃q,l[k].right=q:=⟨_,rfl⟩
       rw[G]at I;have Hq:Hid (bS (l.take (k+1))=q):=za (by rw[mW l k u,E.out,G];rfl);clear G N hi;go_wp2_with fail
       refine I.out.mono ?_;rintro e w2 ⟨rfl,J⟩;have iV:=lt_of_cell O;have eC:=(J.cell (p:=(w.heap.size,2)) (by simp;omega)).trans O;have W:=m.trans (J.mono Z);go_wp2;go_roundw
       case rel=>
        exact⟨k+1,q,by omega,by go_num,rfl,Hq,W,eC⟩
       case measure=>simp[intOf];omega
      |false=>
       have HN:Hid (bS l=false):=za (by
        have j:=iC (l.take k) (l.drop k);rw[zE,E.out]at j;simpa using j)
       obtain⟨b0,o0,_,_,_,_,rfl,_⟩:=M.out.at_ k u;go_wp2;go_ret;exact⟨by rw[c.out,HN.out];rfl,m⟩
     have C:=E.out;rw[zw (by omega)]at C;have HM:=za C;clear C;go_wp2;go_ret;exact⟨by rw[c.out,HM.out];rfl,m⟩
   have c:Hid (R=bS l):=za (by rw[r.out,bG];rfl);clear r bG;go_enter yl,yf
   go_wp2_with fail
   go_loopw [3,5] (fun ok i wr=>∃(k:Nat) (b:Bool),k<=l.length/\i= .int .i64 k/\ok= .bool b/\Hid (bS (l.take k)=b)/\(w,wr)/\(wr,w.heap.size,2,Value.slice A l.length cap)) (fun _ i _=>l.length-(intOf i).toNat)
   case atStart=>exact⟨0,true,by omega,rfl,rfl,za (by simp[bS]),bQ,by simp⟩
   case round=>
    obtain⟨k,b,hk,rfl,rfl,E,m,O⟩:=hrel;by_cases u:k<l.length
    ·cases b with
     |true=>
      obtain⟨b,o,d0,d1,d2,d3,rfl,gu,F,y,H,D,hi⟩:=M.out.at_ k u;simp only[zK]at F y H D;replace F:=(m.cell (p:=(b,o+k*4)) (by simp;omega)).trans F;replace y:=(m.cell (p:=(b,o+k*4+1)) (by simp;omega)).trans y;replace H:=(m.cell (p:=(b,o+k*4+2)) (by simp;omega)).trans H;replace D:=(m.cell (p:=(b,o+k*4+3)) (by simp;omega)).trans D;have Z:=m.size;have hG:=zA u;have N:=hi.below (m.mono hB);have I:=za (Y.out _ hG B wr d0 d1 d2 d3 N (by omega));obtain⟨q,G⟩:∃q,l[k].right=q:=⟨_,rfl⟩
      rw[G]at I;have Hq:Hid (bS (l.take (k+1))=q):=za (by rw[mW l k u,E.out,G];rfl);clear G N hi;go_wp2_with fail
      refine I.out.mono ?_;rintro e w2 ⟨rfl,J⟩;have iV:=lt_of_cell O;have eC:=(J.cell (p:=(w.heap.size,2)) (by simp;omega)).trans O;have W:=m.trans (J.mono Z);go_wp2;go_roundw
      case rel=>
       exact⟨k+1,q,by omega,by go_num,rfl,Hq,W,eC⟩
      case measure=>simp[intOf];omega
     |false=>
      have HN:Hid (bS l=false):=za (by
       have j:=iC (l.take k) (l.drop k);rw[zE,E.out]at j;simpa using j)
      obtain⟨b0,o0,_,_,_,_,rfl,_⟩:=M.out.at_ k u;go_wp2;go_ret;exact⟨by rw[c.out,HN.out];rfl,m⟩
    have C:=E.out;rw[zw (by omega)]at C;have HM:=za C;clear C;go_wp2;go_ret;exact⟨by rw[c.out,HM.out];rfl,m⟩
  |false=>
   have c:Hid (R=false):=za (by rw[r.out,bG];rfl);clear r M Y;rcases OA ki with rfl|rfl|rfl|rfl|rfl|⟨n1,n2,n3,n4,n5⟩
   ·rcases aiJ bG with⟨m1,m2,m3,m4⟩|⟨K,d⟩|⟨K,d,n⟩
    ·have z:=nb m1;have L:=nb m2;have f3:=nb m3;have f4:=nb m4;clear bG m1 m2 m3 m4;go_enter yl,yf
     go_wp2_with fail
     refine zZ 1 ?_;rw[yh];go_wp2;all_goals
      go_ret;exact⟨by rw[c.out];rfl,bQ⟩
    ·have z:((l.length:Int)==0)=false:=nb (by omega);clear bG d;rcases K with rfl|rfl|rfl|rfl;all_goals
      go_enter yl,yf
      go_wp2_with fail
      refine zZ 1 ?_;rw[yh];go_wp2;all_goals
       go_ret;exact⟨by rw[c.out];rfl,bQ⟩
    obtain rfl:l= []:=zk d;have L:=nb n;clear bG n;rcases K with rfl|rfl|rfl|rfl;all_goals
     go_enter yl,yf
     go_wp2_with fail
     refine zZ 1 ?_;rw[yh];go_wp2;all_goals
      go_ret;exact⟨by rw[c.out];rfl,bQ⟩
   ·rcases aiK bG with j|⟨j,h2⟩|⟨j,h2,d⟩|⟨j,h2,d,n⟩
    ·clear bG;go_enter yl,yf
     go_wp2_with fail
     refine zZ 1 ?_;rw[yh];go_wp2;all_goals
      go_ret;exact⟨by rw[c.out];rfl,bQ⟩
    ·clear bG;go_enter yl,yf
     go_wp2_with fail
     refine zZ 1 ?_;rw[yh];go_wp2;all_goals
      go_ret;exact⟨by rw[c.out];rfl,bQ⟩
    ·have z:((l.length:Int)==0)=false:=nb (by omega);clear bG d;go_enter yl,yf
     go_wp2_with fail
     refine zZ 1 ?_;rw[yh];go_wp2;all_goals
      go_ret;exact⟨by rw[c.out];rfl,bQ⟩
    obtain rfl:l= []:=zk d;have L:=nb n;clear bG n;go_enter yl,yf
    go_wp2_with fail
    refine zZ 1 ?_;rw[yh];go_wp2;all_goals
     go_ret;exact⟨by rw[c.out];rfl,bQ⟩
   ·rcases aiL bG with j|⟨j,h2⟩|⟨j,h2,d⟩|⟨j,h2,d,n⟩
    ·clear bG;go_enter yl,yf
     go_wp2_with fail
     refine zZ 1 ?_;rw[yh];go_wp2;all_goals
      go_ret;exact⟨by rw[c.out];rfl,bQ⟩
    ·clear bG;go_enter yl,yf
     go_wp2_with fail
     refine zZ 1 ?_;rw[yh];go_wp2;all_goals
      go_ret;exact⟨by rw[c.out];rfl,bQ⟩
    ·have z:((l.length:Int)==0)=false:=nb (by omega);clear bG d;go_enter yl,yf
     go_wp2_with fail
     refine zZ 1 ?_;rw[yh];go_wp2;all_goals
      go_ret;exact⟨by rw[c.out];rfl,bQ⟩
    obtain rfl:l= []:=zk d;have L:=nb n;clear bG n;go_enter yl,yf
    go_wp2_with fail
    refine zZ 1 ?_;rw[yh];go_wp2;all_goals
     go_ret;exact⟨by rw[c.out];rfl,bQ⟩
   ·rcases aiM bG with j|⟨j,h2⟩|⟨j,h2,d⟩|⟨j,h2,d,n⟩
    ·clear bG;go_enter yl,yf
     go_wp2_with fail
     refine zZ 1 ?_;rw[yh];go_wp2;all_goals
      go_ret;exact⟨by rw[c.out];rfl,bQ⟩
    ·clear bG;go_enter yl,yf
     go_wp2_with fail
     refine zZ 1 ?_;rw[yh];go_wp2;all_goals
      go_ret;exact⟨by rw[c.out];rfl,bQ⟩
    ·have z:((l.length:Int)==1)=false:=nb (by omega);clear bG d;go_enter yl,yf
     go_wp2_with fail
     refine zZ 1 ?_;rw[yh];go_wp2;all_goals
      go_ret;exact⟨by rw[c.out];rfl,bQ⟩
    have z:((l.length:Int)==1)=true:=by simp[d]
    have L:=nb n;clear bG n d;go_enter yl,yf
    go_wp2_with fail
    refine zZ 1 ?_;rw[yh];go_wp2;all_goals
     go_ret;exact⟨by rw[c.out];rfl,bQ⟩
   ·rcases aiN bG with j|⟨rfl,h2⟩|⟨rfl,h2,n⟩|⟨rfl,h2,n,Tf⟩
    ·have z:=nb j;clear bG j;go_enter yl,yf
     go_wp2_with fail
     refine zZ 1 ?_;rw[yh];go_wp2;all_goals
      go_ret;exact⟨by rw[c.out];rfl,bQ⟩
    ·clear bG;go_enter yl,yf
     go_wp2_with fail
     refine zZ 1 ?_;rw[yh];go_wp2;all_goals
      go_ret;exact⟨by rw[c.out];rfl,bQ⟩
    ·clear bG;go_enter yl,yf
     go_wp2_with fail
     refine zZ 1 ?_;rw[yh];go_wp2;all_goals
      go_ret;exact⟨by rw[c.out];rfl,bQ⟩
    have z:decide (ta<=(l.length:Int))=false:=zt (by omega);clear bG;go_enter yl,yf
    go_wp2_with fail
    refine zZ 1 ?_;rw[yh];go_wp2;all_goals
     go_ret;exact⟨by rw[c.out];rfl,bQ⟩
   have z:=nb n1;have L:=nb n2;have f3:=nb n3;have f4:=nb n4;have f5:=nb n5;clear bG n1 n2 n3 n4 n5;go_enter yl,yf
   go_wp2_with fail
   refine zZ 1 ?_;rw[yh];go_wp2;all_goals
    go_ret;exact⟨by rw[c.out];rfl,bQ⟩
theorem Mh (x:Ty)(B:Nat)(w:World)(d l k i:Value)(h:cz w B x d l k i)(M:B<=w.heap.size)(L:x.count<=4611686018427387904):
 Calls prog 44 #[.agg #[d,l,k,i]] w fun e w'=>e= .returned x.may/\(w,w'):=by
 have J:=NQ x;have o:cz (w.alloc (.cells #[d,l,k,i] 70)) B x d l k i:=h.below (blm M);have p:=za (Ef x B _ d l k i o (by simp;omega) (by omega));have s:=za (fun c b hz=>GL x B c d l k i (cz.below o b) hz (by omega));have G:=za (fun c b hz=>OB x B c d l k i (cz.below o b) hz);have j:Hid (x.may=(decide (x.count<=64)&&decide (x.deep<=8)&&x.right)):=za rfl;obtain⟨r,y⟩:∃r,x.right=r:=⟨_,rfl⟩
 obtain⟨N,hd⟩:∃q,x.deep=q:=⟨_,rfl⟩
 obtain⟨q,z⟩:∃q,x.count=q:=⟨_,rfl⟩
 rw[y,z,hd]at j;rw[z]at p;rw[hd]at s;rw[y]at G;obtain⟨A,cap,rfl,rfl,rfl,rfl,_⟩:=h.open_;clear y z hd J o h L;generalize x.may=R at*;generalize x.kind=S at*;generalize x.size=W at*;generalize x.tail=X at*;by_cases E:q<=64
 ·by_cases F:N<=8
  ·have n:Hid (R=r):=za (by rw[j.out];simp[F,E]);clear j;go_enter func44,ntmps44
   go_wp2_with fail
   refine p.out.mono ?_;rintro e c ⟨rfl,b⟩;obtain⟨g0,g1,g2,g3⟩:=Og (by simpa using b);have C:=b.size;simp only[zp]at C;have u:=(yD (zi w.heap.size w) (ze _) _).trans (b.mono (by simp));go_wp2_with fail
   refine(s.out c (b.mono (by simp;omega)) (by omega)).mono ?_;rintro e H ⟨rfl,m⟩;have D:=b.trans (m.mono (by simp;omega));have O:=m.size;obtain⟨Y,k1,k2,U⟩:=Og (by simpa using D);have K:=u.trans (m.mono (by omega));go_wp2_with fail
   refine(G.out H (D.mono (by simp;omega)) (by omega)).mono ?_;rintro e w3 ⟨rfl,I⟩;go_wp2;go_ret;exact⟨by rw[n.out];rfl,K.trans (I.mono (by omega))⟩
  have n:Hid (R=false):=za (by rw[j.out];simp[F]);clear j;go_enter func44,ntmps44
  go_wp2_with fail
  refine p.out.mono ?_;rintro e c ⟨rfl,b⟩;obtain⟨g0,g1,g2,g3⟩:=Og (by simpa using b);have C:=b.size;simp only[zp]at C;have u:=(yD (zi w.heap.size w) (ze _) _).trans (b.mono (by simp));go_wp2_with fail
  refine(s.out c (b.mono (by simp;omega)) (by omega)).mono ?_;rintro e H ⟨rfl,m⟩;go_wp2;go_ret;exact⟨by rw[n.out];rfl,u.trans (m.mono (by omega))⟩
 have n:Hid (R=false):=za (by rw[j.out];simp[E]);clear j;go_enter func44,ntmps44
 go_wp2_with fail
 refine p.out.mono ?_;rintro e c ⟨rfl,b⟩;go_wp2;go_ret;exact⟨by rw[n.out];rfl,(yD (zi _ _) (ze _) _).trans (b.mono (by simp))⟩
theorem Ab (s:List It)(k:Nat):aC (s.take k)<=aC s:=by
 have:=oX (s.take k) (s.drop k);rw[zE]at this;omega
theorem aaD :∀(x:It) (B:Nat) (w:World) (C H G:Value),bH w B x C H G->B<=w.heap.size->∀left:Int,0<left->left<=4611686018427387904->
 Calls prog 22 #[.agg #[C,H,G],left] w fun e w'=>e= .returned (.int .i64 (x.room left))/\(w,w'):=by
 intro x;induction x using It.ind with
 |h t l s ih=>
  intro B w C H G h hB left Br Fq;obtain⟨rfl,rfl,ht,hs,A,cap,rfl,od,jf,M⟩:=h;have Y:=za ih;have O:=za M;clear ih M;have K:Hid ((It.mk t l s).room left=max (cL s (left-1)) 0):=za (by simp only[It.room]);have HB:=za (fun k=>FO (s.take k) (fun x _=>DL x) (left-1) (by omega));generalize (It.mk t l s).room left=R at*;go_enter func22,ntmps22
  go_wp2_with fail
  go_loopw [1,5] (fun n i wr=>∃(k:Nat) (m:Int),k<=s.length/\i= .int .i64 k/\Hid (m=cL (s.take k) (left-1))/\0<=m/\m<=left-1/\n= .int .i64 m/\(w,wr)/\(wr,w.heap.size,2,Value.slice A s.length cap)) (fun _ i _=>s.length-(intOf i).toNat)
  case atStart=>exact⟨0,left-1,by omega,rfl,za (by simp[cL]),by omega,by omega,rfl,bQ,by simp⟩
  case round=>
   obtain⟨k,m,hk,rfl,j,Fl,Wy,rfl,c,U⟩:=hrel;by_cases u:k<s.length
   ·by_cases z:0<m
    ·obtain⟨b,o,d0,d1,d2,rfl,gu,D,E,F,hi⟩:=O.out.at_ k u;simp only[zK]at D E F;replace D:=(c.cell (p:=(b,o+k*3)) (by simp;omega)).trans D;replace E:=(c.cell (p:=(b,o+k*3+1)) (by simp;omega)).trans E;replace F:=(c.cell (p:=(b,o+k*3+2)) (by simp;omega)).trans F;have Z:=c.size;have hG:=zA u;have S:=hi.below (c.mono hB);have y:=Jn s k u (left-1) (by rw[<-j.out];exact z);have L:=DL s[k] m z;rw[<-j.out]at y;obtain⟨q,N⟩:∃q,s[k].room m=q:=⟨_,rfl⟩
     have I:=za (Y.out _ hG B wr d0 d1 d2 S (by omega) m z (by omega));rw[N]at I y L;have Hq:Hid (q=cL (s.take (k+1)) (left-1)):=za y.symm;obtain⟨X,aa⟩:=L;clear y N S hi;go_wp2_with fail
     refine I.out.mono ?_;rintro e w2 ⟨rfl,J⟩;have iV:=lt_of_cell U;have eC:=(J.cell (p:=(w.heap.size,2)) (by simp;omega)).trans U;have W:=c.trans (J.mono Z);go_wp2;go_roundw
     case rel=>exact⟨k+1,q,by omega,by go_num,Hq,X,by omega,rfl,W,eC⟩
     case measure=>simp[intOf];omega
    have d:=CA s k (left-1) (.inl (by rw[<-j.out];omega));have r:Hid (R=0):=za (by rw[K.out,d,<-j.out];omega);have ab:m<=0:=by omega
    obtain⟨b0,o0,_,_,_,rfl,_⟩:=O.out.at_ k u;clear d;go_wp2;all_goals
     go_ret;exact⟨by first|(rw[r.out];rfl)|(show Ending.returned m=_;rw[r.out,show m=0 from by omega]),c⟩
   have d:=CA s k (left-1) (.inr (by omega));have r:Hid (R=m):=za (by rw[K.out,d,<-j.out];omega);clear d;go_wp2;all_goals
    go_ret;exact⟨by first|(show Ending.returned m=_;rw[r.out])|(rw[r.out,show m=0 from by omega];rfl),c⟩
theorem aaE :∀(x:It) (B:Nat) (w:World) (u G E:Value),bH w B x u G E->B<=w.heap.size->
 Calls prog 23 #[.agg #[u,G,E]] w fun e w'=>e= .returned x.pD/\(w,w'):=by
 intro x;induction x using It.ind with
 |h t l s ih=>
  intro B w u G E h hB;obtain⟨rfl,rfl,ht,hs,A,cap,rfl,od,jf,K⟩:=h;have W:=za ih;have HS:=za K;clear ih K;obtain⟨c,F⟩:∃c,min t.size 10000=c:=⟨_,rfl⟩
  have S:Hid ((It.mk t l s).pD=gL s c):=za (by simp only[It.pD,F]);have rG:c<=10000:=by omega
  have HN:=za F;clear F;generalize (It.mk t l s).pD=R at*;rcases Nat.lt_trichotomy t.size 10000 with uZ|uZ|uZ;all_goals
   have X:Hid (min t.size 10000=c):=HN;go_enter func23,ntmps23
   go_wp2_with fail
   go_loopw [3,4] (fun n i wr=>∃k m:Nat,k<=s.length/\i= .int .i64 k/\Hid (m=gL (s.take k) c)/\m<=10000/\n= .int .i64 m/\(w,wr)/\(wr,w.heap.size,2,Value.slice A s.length cap)) (fun _ i _=>s.length-(intOf i).toNat)
   case atStart=>
    refine⟨0,c,by omega,rfl,za (by simp[gL]),by omega, ?_,bQ,by simp⟩;have hh:=X.out;rcases(show(t.size:Int)=c\/(10000:Int)=c from by omega)with hx|hx
    ·(rw[<-hx])<;>first|rfl|(rw[show(t.size:Int)=10000 from by omega])
    (rw[<-hx])<;>first|rfl|(rw[show(t.size:Int)=10000 from by omega])
   case round=>
    obtain⟨k,m,hk,rfl,H,aa,rfl,d,N⟩:=hrel;by_cases y:k<s.length
    ·obtain⟨b,o,d0,d1,d2,rfl,gu,z,C,D,hi⟩:=HS.out.at_ k y;simp only[zK]at z C D;replace z:=(d.cell (p:=(b,o+k*3)) (by simp;omega)).trans z;replace C:=(d.cell (p:=(b,o+k*3+1)) (by simp;omega)).trans C;replace D:=(d.cell (p:=(b,o+k*3+2)) (by simp;omega)).trans D;have Y:=d.size;have hG:=zA y;have M:=hi.below (d.mono hB);have r:=Jo s k y c;have U:=U2 s[k];have j:=H.out;obtain⟨q,L⟩:∃q,s[k].pD=q:=⟨_,rfl⟩
     have I:=za (W.out _ hG B wr d0 d1 d2 M (by omega));rw[L]at I r U;rw[<-j]at r;have Hq:=za r;clear r j L M hi;rcases(show m+q<10000\/(m+q<=10000/\10000<=m+q)\/10000<m+q from by omega)with hx|⟨hx,hx2⟩|hx;all_goals
      go_wp2_with fail
      refine I.out.mono ?_;rintro e w2 ⟨rfl,J⟩;have iV:=lt_of_cell N;have Z:=(J.cell (p:=(w.heap.size,2)) (by simp;omega)).trans N;have O:=d.trans (J.mono Y);go_wp2;all_goals
       go_roundw
       case rel=>
        refine⟨k+1,min (m+q) 10000,by omega,by go_num,za Hq.out.symm,by omega, ?_,O,Z⟩;first
         |(rw[show min (m+q) 10000=m+q from by omega];go_num)
         |(rw[show min (m+q) 10000=10000 from by omega];rfl)
         |(rw[show((min (m+q) 10000:Nat):Int)=if(10000:Int)<(m:Int)+q then 10000 else(m:Int)+q from by split<;>omega])
       case measure=>simp[intOf];omega
    have j:=H.out;rw[zw (by omega)]at j;have HM:=za j;clear j;go_wp2;go_ret;exact⟨by show Ending.returned m=_;rw[HM.out,S.out],d⟩
theorem C6 (w:World)(T:TypeId)(d h e:Value)(b:World)(c:Below (w.heap.size+1) (w.alloc (.cells #[d,h,e] T)) b):
 (b,w.heap.size,0,d)/\(b,w.heap.size,1,h)/\(b,w.heap.size,2,e):=by
 refine⟨?_, ?_, ?_⟩
 ·rw[c.cell (by simp)];simp
 ·rw[c.cell (by simp)];simp
 rw[c.cell (by simp)];simp
theorem Mi (x:It)(B:Nat)(w:World)(c j d:Value)(h:bH w B x c j d)(E:B<=w.heap.size):
 Calls prog 8 #[.agg #[c,j,d]] w fun e w'=>e= .returned x.kU/\(w,w'):=by
 have l:bH (w.alloc (.cells #[c,j,d] 28)) B x c j d:=h.below (blm E);have m:=za (aaD x B _ c j d l (by simp;omega) 1200 (by omega) (by omega));have s:=za (fun i b=>aaE x B i c j d (bH.below l b));have k:Hid (x.kU=(decide (x.room 1200=0)||decide (6000<x.pD))):=za rfl;obtain⟨r,n⟩:∃r,x.room 1200=r:=⟨_,rfl⟩
 obtain⟨q,o⟩:∃q,x.pD=q:=⟨_,rfl⟩
 rw[n,o]at k;rw[n]at m;rw[o]at s;obtain⟨A,cap,rfl,rfl,rfl,_⟩:=h.open_;clear n o l h;generalize x.kU=R at*;by_cases hz:r=0
 ·have C:(r==0)=true:=by simp[hz]
  have p:Hid (R=true):=za (by rw[k.out];simp[hz]);clear hz k;go_enter func8,ntmps8
  go_wp2_with fail
  refine m.out.mono ?_;rintro e i ⟨rfl,b⟩;go_wp2;go_ret;exact⟨by rw[p.out];rfl,(yD (zi _ _) (ze _) _).trans (b.mono (by simp))⟩
 have C:(r==0)=false:=by simp[hz]
 have p:Hid (R=decide (6000<q)):=za (by rw[k.out];simp[hz]);clear hz k;go_enter func8,ntmps8
 go_wp2_with fail
 refine m.out.mono ?_;rintro e i ⟨rfl,b⟩;obtain⟨g0,g1,g2⟩:=C6 w 28 _ _ _ i (by simpa using b);have D:=b.size;simp only[zp]at D;have u:Below B (w.alloc (.cells #[x.text,x.list,.slice A x.sub.length cap] 28)) i:=b.mono (by simp;omega);have z:=(yD (zi w.heap.size w) (ze _) _).trans (b.mono (by simp));go_wp2_with fail
 refine(s.out i u (by omega)).mono ?_;rintro e F ⟨rfl,y⟩;go_wp2;all_goals
  go_ret;refine⟨?_,z.trans (y.mono (by omega))⟩;rw[p.out];first|rfl|(rw[show decide (6000<q)=true from by simp;omega];rfl)|(rw[show decide (6000<q)=false from by simp;omega];rfl)|(show Ending.returned (.bool (decide ((6000:Int)<q)))=_;rw[show decide ((6000:Int)<q)=decide (6000<q)from by simp only[decide_eq_decide];omega])
theorem RV (t:ByteArray)(l:Bool)(A:Option Addr)(n cap:Nat)(w:World)(i:n<=9223372036854775807):
 Calls prog 76 #[.agg #[t,l,.slice A n cap]] w fun e w'=>e= .returned (.bool (formed t l n))/\(w,w'):=by
 cases l with
 |true=>
  rcases fZ t with⟨hz,rfl⟩|⟨hz,j,d⟩
  ·have b:Hid (formed ⟨#[]⟩ true n=true):=za rfl;generalize formed ⟨#[]⟩ true n=R at*;clear hz;go_enter func76,ntmps76
   go_wp2;go_ret;exact⟨by rw[b.out];rfl,bQ⟩
  have b:Hid (formed t true n=false):=za (by simp[formed,hz]);generalize formed t true n=R at*;clear hz;go_enter func76,ntmps76
  go_wp2;go_ret;exact⟨by rw[b.out];rfl,bQ⟩
 |false=>
  by_cases c:n=0
  ·have b:Hid (formed t false n=true):=za (by simp[formed,c]);generalize formed t false n=R at*;go_enter func76,ntmps76
   go_wp2;go_ret;exact⟨by rw[b.out];rfl,bQ⟩
  have b:Hid (formed t false n=false):=za (by simp[formed,c]);have h:((n:Int)==0)=false:=zl.2 (by omega);generalize formed t false n=R at*;clear c;go_enter func76,ntmps76
  go_wp2;go_ret;exact⟨by rw[b.out];rfl,bQ⟩
theorem J3 (t:ByteArray)(l:Bool)(A:Option Addr)(n cap:Nat)(w:World):
 Calls prog 156 #[.agg #[t,l,.slice A n cap]] w fun e w'=>e= .returned true/\(w,w'):=by
 go_enter func156,ntmps156
 go_wp2;go_ret;exact⟨rfl,bQ⟩
def XA (fv:Value)(x:It):Prop:=fv= .func (.func 76) #[] #[]\/fv= .func (.func 156) #[] #[]/\x.right=true
structure BO (fv:Value)(w:World)(cb eb db vb c d:Nat):Prop where
 cX:af w cb 3 #[c]
 each:af w eb 33 #[fv]
 dp:af w db 3 #[d]
 gY:af w vb 163 #[.func (.func 106) #[] #[(cb,0),(eb,0),(db,0),(vb,0)]]
theorem BO.below {k:Value}{w':World}{cb j c:Nat}(h:BO k w cb j e i c d)(b:Below w.heap.size w w'):BO k w' cb j e i c d:=
 ⟨h.cX.only (ae.ai b (ze _)) (by simp),h.each.only (ae.ai b (ze _)) (by simp),h.dp.only (ae.ai b (ze _)) (by simp),h.gY.only (ae.ai b (ze _)) (by simp)⟩
theorem af.XB {c:Nat}{t d:TypeId}{j i:Array Value}(h:af w g t j)(b:af w c d i)(e:t≠d):g≠c:=by
 rintro rfl;unfold af at h b;rw[h]at b;injection b with b;injection b with _ ht;exact e ht
theorem BO.step {m:Value}{cb l b k c:Nat}{u v:Int}(h:BO m w cb l b k c d)(j:cb≠b)(hu:u=(e:Int))(o:v=(i:Int)):BO m ((w.setCell ⟨cb,0,none⟩ (.int .i64 u)).setCell ⟨b,0,none⟩ (.int .i64 v)) cb l b k e i:=by
 subst hu;subst o;have n1:=h.cX.XB h.each (by decide);have n2:=h.cX.XB h.gY (by decide);have q:=h.dp.XB h.each (by decide);have n:=h.dp.XB h.gY (by decide);exact⟨af.dI (show af _ _ _ _ from one_setCell h.cX) (p:=⟨b,0,none⟩) j _,(h.each.dI (p:=⟨cb,0,none⟩) n1.symm _).dI (p:=⟨b,0,none⟩) q.symm _,one_setCell (h.dp.dI (p:=⟨cb,0,none⟩) j.symm _),(h.gY.dI (p:=⟨cb,0,none⟩) n2.symm _).dI (p:=⟨b,0,none⟩) n.symm _⟩
theorem VF :∀(x:It) (B:Nat) (w:World) (c0 c1 D:Value),bH w B x c0 c1 D->B<=w.heap.size->∀(q:Value),XA q x->∀(cb C m y j c d:Nat),BO q w cb C m y c d->B<=cb->B<=m->cb≠m->1<=j->j<=17->c<=1024->d<=17->
 Calls prog 106 #[.agg #[c0,c1,D],j,(cb,0),(C,0),(m,0),(y,0)] w fun e w'=>
  e= .returned (.bool (x.gY j c d).1)/\BO q w' cb C m y (x.gY j c d).2.1 (x.gY j c d).2.2/\ae [cb,m] w w':=by
 intro x;induction x using It.ind with
 |h t l s ih=>
  intro B w c0 c1 D h hB q aa cb C m y j c d n ai ah ag ar ao hc hd;obtain⟨rfl,rfl,ht,hs,A,cap,rfl,od,jf,da⟩:=h;have IH:=za ih;have HS:=za da;clear ih da;have n1:=n.cX.XB n.each (by decide);have n2:=n.cX.XB n.gY (by decide);have n3:=n.dp.XB n.each (by decide);have n4:=n.dp.XB n.gY (by decide);have q1:w.cell? (cb,0)=some (.int .i64 c):=zW n.cX;have q2:w.cell? (C,0)=some q:=zW n.each;have Z:=za n;have l1:=n.cX.lt;have l2:=n.each.lt;have l4:=n.gY.lt;have z:Hid ((It.mk t l s).gY j c d=if 16<j\/c=1024\/formed t l s.length=false then(false,c,d)else gb s (j+1) (c+1) (max d j)):=za (by simp only[It.gY]);generalize (It.mk t l s).gY j c d=R at*;clear n;by_cases h1:16<j
  ·have u:Hid (R=(false,c,d)):=za (by rw[z.out,zg (.inl h1)]);clear z;go_enter func106,ntmps106
   go_wp2;go_ret;rw[u.out];exact⟨rfl,Z.out.below bQ,DP⟩
  by_cases U:c=1024
  ·have e1:((c:Int)==1024)=true:=by simp;omega
   have u:Hid (R=(false,c,d)):=za (by rw[z.out,zg (.inr (.inl U))]);clear z U;go_enter func106,ntmps106
   go_wp2;go_ret;rw[u.out];exact⟨rfl,Z.out.below bQ,DP⟩
  have e1:((c:Int)==1024)=false:=zl.2 (by omega);have al:=za aa;have Ba:(q= .func (.func 76) #[] #[]/\Hid (Calls prog 76 #[.agg #[t,l,.slice A s.length cap]] (w.alloc (.cells #[t,l,.slice A s.length cap] 28)) fun e w'=>e= .returned (.bool (formed t l s.length))/\Below (w.alloc (.cells #[t,l,.slice A s.length cap] 28)).heap.size (w.alloc (.cells #[t,l,.slice A s.length cap] 28)) w'))\/
   (q= .func (.func 156) #[] #[]/\Hid (Calls prog 156 #[.agg #[t,l,.slice A s.length cap]] (w.alloc (.cells #[t,l,.slice A s.length cap] 28)) fun e w'=>e= .returned (.bool (formed t l s.length))/\Below (w.alloc (.cells #[t,l,.slice A s.length cap] 28)).heap.size (w.alloc (.cells #[t,l,.slice A s.length cap] 28)) w')):=by
   rcases aa with h|⟨h,hx⟩
   ·exact .inl ⟨h,za (RV t l A s.length cap _ hs)⟩
   exact .inr ⟨h,za (by rw[(ni hx).1];exact J3 t l A s.length cap _)⟩
  clear aa;rcases Ba with⟨aj,I⟩|⟨aj,I⟩;all_goals
   cases hf:formed t l s.length with
   |false=>
    rw[hf]at I;have u:Hid (R=(false,c,d)):=za (by rw[z.out,zg (.inr (.inr hf))]);clear z hf U;go_enter func106,ntmps106
    go_wp2_with fail
    refine I.out.mono ?_;rintro e E ⟨rfl,hb⟩;go_wp2;go_ret;rw[u.out];have J:Below w.heap.size w E:=(yD (zi _ _) (ze _) _).trans (hb.mono (by simp));exact⟨rfl,Z.out.below J,(ae.ai J (ze _)).mono (by simp)⟩
   |true=>
    rw[hf]at I;have u:Hid (R=gb s (j+1) (c+1) (max d j)):=za (by rw[z.out,zf (by rw[hf];simp;omega)]);have oe:c<=1023:=by omega
    clear z hf U;obtain⟨M,hM⟩:∃M,max d j=M:=⟨_,rfl⟩
    rcases Nat.lt_trichotomy d j with hx|hx|hx;all_goals
     rw[hM]at u;have HM:=za hM;clear hM;go_enter func106,ntmps106
     go_wp2_with fail
     refine I.out.mono ?_;rintro e E ⟨rfl,jY⟩;obtain⟨g0,g1,g2⟩:=C6 w 28 _ _ _ E (by simpa using jY);have J:Below w.heap.size w E:=(yD (zi _ _) (ze _) _).trans (jY.mono (by simp));have H:=Z.out.below J;have p1:E.cell? ⟨cb,0,none⟩=some (.int .i64 c):=zW H.cX;have au:E.frozen? ⟨cb,0,none⟩=false:=Zu H.cX;have p3:E.cell? ⟨m,0,none⟩=some (.int .i64 d):=zW H.dp;have av:E.frozen? ⟨m,0,none⟩=false:=Zu H.dp;have M9:=za H;clear H jY q1 q2 I;go_wp2_with fail
     all_goals
      go_loopw [31] (fun i wr=>∃k F G:Nat,k<=s.length/\i= .int .i64 k/\Hid (gb (s.take k) (j+1) (c+1) M=(true,F,G))/\BO q wr cb C m y F G/\ae [cb,m] w wr/\F<=1024/\G<=17) (fun i _=>s.length-(intOf i).toNat)
      case atStart=>
       refine⟨0,c+1,M,by omega,rfl,za (by simp[gb]),M9.out.step ag (by omega) (by have:=HM.out;omega), ?_,by omega,by have:=HM.out;omega⟩;exact(((ae.ai J (ze _)).mono (by simp)).setCell (by simp) _).setCell (by simp) _
      case round=>
       obtain⟨k,F,G,hk,rfl,ab,af,L,UD,an⟩:=hrel;have q4:wr.cell? (y,0)=some (.func (.func 106) #[] #[(cb,0),(C,0),(m,0),(y,0)]):=zW af.gY;have X:Below B w wr:=L.below hB (by simp;omega);have Uw:=L.size;have aq:y<wr.heap.size:=by omega
       have UE:=za af;clear af;by_cases K:k<s.length
       ·obtain⟨b,o,d0,d1,d2,rfl,gu,e0,rK,e2,hi⟩:=HS.out.at_ k K;simp only[zK]at e0 rK e2;replace e0:=(X.cell (p:=(b,o+k*3)) gu).trans e0;replace rK:=(X.cell (p:=(b,o+k*3+1)) gu).trans rK;replace e2:=(X.cell (p:=(b,o+k*3+2)) gu).trans e2;obtain⟨A2,cap2,rfl,rfl,rfl,_⟩:=hi.open_;have hG:=zA K;have lE:=hi.below X;have ad:=UE.out.below (yD (zi _ wr) (ze _) (.cells #[.string s[k].text,.bool s[k].list,.slice A2 s[k].sub.length cap2] 28));have HC:=za (IH.out _ hG B (wr.alloc (.cells #[.string s[k].text,.bool s[k].list,.slice A2 s[k].sub.length cap2] 28)) _ _ _ (lE.below (yD (zi _ _) (by omega) _)) (by simp;omega) q (al.out.imp id (fun h=>⟨h.1,lQ h.2 k K⟩)) cb C m y (j+1) F G ad ai ah ag (by omega) (by omega) UD an);have Y:=(Jv s[k] (j+1) F G (by omega) UD).2.2;obtain⟨⟨r,D,W⟩,N⟩:∃T,s[k].gY (j+1) F G=T:=⟨_,rfl⟩
        rw[N]at HC Y;have ak:D<=1024/\W<=17:=by simp at Y;omega
        obtain⟨M8,uY⟩:=ak;have e9:(j:Int)+1=((j+1:Nat):Int):=by omega
        have E9:=za e9;cases r with
        |true=>
         have O:Hid (gb (s.take (k+1)) (j+1) (c+1) M=(true,D,W)):=za (by rw[CI K ab.out,N]);clear hi lE ad N Y e9;go_wp2_with fail
         rw[E9.out];refine HC.out.mono ?_;rintro e w2 ⟨rfl,px,S⟩;have K6:ae [cb,m] w w2:=(L.alloc _).trans S;clear S;go_wp2;go_roundw
         case rel=>exact⟨k+1,D,W,by omega,by go_num,O,px,K6,M8,uY⟩
         case measure=>simp[intOf];omega
        |false=>
         have O:Hid (gb s (j+1) (c+1) M=(false,D,W)):=za (NW K ab.out N);clear hi lE ad N Y e9;go_wp2_with fail
         rw[E9.out];refine HC.out.mono ?_;rintro e w2 ⟨rfl,px,S⟩;have K6:ae [cb,m] w w2:=(L.alloc _).trans S;clear S;go_wp2;go_ret;rw[u.out,O.out];exact⟨rfl,px,K6⟩
       have K5:=ab.out;rw[zw (by omega)]at K5;have O:=za K5;clear K5;go_wp2;go_ret;rw[u.out,O.out];exact⟨rfl,UE.out,L⟩
