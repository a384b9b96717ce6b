/- package schema: the reader's small steps (passes, number, the closure sized). -/
import Derived.Test.YtimoclkoflamkaaGreatDoorKA13
set_option linter.all false
set_option maxRecDepth 100000
set_option maxHeartbeats 8000000
open Go.Proofs.Tryz
namespace Go.Proofs.YtimoclkoflamkaaGreatDoor
open Go.RowKit
variable {w:World}{g n p L q e d:Nat}{s t:Int}
def zX:=@cell_of_one
def zZ:=@IntWalk.i64_in
def yc:=@wp_loop_rounds
def yi:=@ntmps59
def yk:=@rounds_succ
def ym:=@func59
def yF:=@underlying3
def xO:=@wpQuiet_nil
def Zr:=@free_of_one
def jt (w:World)(g:Nat)(s:ByteArray)(p L:Nat):Prop:=ag w g 178 #[s,p,L]
theorem jt.cells {s:ByteArray}(h:jt w g s p L):(w,g,0,s)/\(w,g,1,p)/\(w,g,2,L)/\w.frozen? (g,0)=false/\w.frozen? (g,1)=false/\w.frozen? (g,2)=false/\g<w.heap.size:=by
 obtain⟨a,b,c,d,e,f⟩:=bp h;exact⟨a,b,c,d,e,f,ag.lt h⟩
theorem jt.to {s:ByteArray}{n:Int}(h:jt w g s p L)(b:n=q):jt (w.setCell (g,1) n) g s q L:=by
 subst b;exact ag.store h rfl
theorem jt.less {s:ByteArray}{n:Int}(h:jt w g s p L)(b:n=q):jt (w.setCell (g,2) n) g s p q:=by
 subst b;exact ag.store h rfl
theorem eY (g:Nat)(s:ByteArray)(p L:Nat)(b:Nat)(w:World)(h:jt w g s p L)(k:p<s.size)(j:s.size<=100000)(c:s[p].toNat=b):
 Calls prog 168 #[(g,0),.int .u8 b] w fun e w'=>e= .returned true/\jt w' g s (p+1) L/\ae [g] w w':=by
 obtain⟨g0,g1,g2,f0,f1,f2,i⟩:=h.cells;have d:=za h;subst c;clear h;have i1:((p:Int)==(s.size:Int))=false:=zp.2 (by omega);go_enter func168,ntmps168
 go_wp2_with fail
 go_quiet (fail)
 go_wp2;go_ret;exact⟨rfl,(show jt (w.drewN _) g s p L from d.out).to (by go_num),CM⟩
theorem gu (g:Nat)(s:ByteArray)(p L:Nat)(b:Nat)(w:World)(h:jt w g s p L)(k:p<=s.size)(j:s.size<=100000)(c:∀d:p<s.size,s[p].toNat≠b):
 Calls prog 168 #[(g,0),.int .u8 b] w fun e w'=>e= .returned false/\∃n,w'=w.drewN n:=by
 obtain⟨g0,g1,g2,f0,f1,f2,i⟩:=h.cells;clear h;by_cases d:p<s.size
 ·have i1:((p:Int)==(s.size:Int))=false:=zp.2 (by omega);have i2:((s[p].toNat:Int) !=(b:Int))=true:=yN.2 (by have:=c d;omega);clear c;go_enter func168,ntmps168
  go_wp2_with fail
  go_quiet (fail)
  go_wp2;go_ret;exact⟨rfl,_,rfl⟩
 have i1:((p:Int)==(s.size:Int))=true:=yO.2 (by omega);clear c;go_enter func168,ntmps168
 go_wp2_with fail
 go_quiet (fail)
 go_wp2;go_ret;exact⟨rfl,_,rfl⟩
def PL :Option Value->Nat
 |some (.int _ z)=>z.toNat
 |_=>0
theorem IM (g:Nat)(s:ByteArray)(p L most:Nat)(w:World)(h:jt w g s p L)(J:p<=s.size)(hs:s.size<=100000)(hm:most<=65536):
 Calls prog 167 #[(g,0),most] w fun e w'=>∃(n:Nat) (ok:Bool) (q:Nat),e= .returned (.tuple #[n,ok])/\jt w' g s q L/\ae [g] w w'/\ox most s p n ok q:=by
 obtain⟨g0,g1,g2,f0,f1,f2,hl⟩:=h.cells;have U:=za h;clear h;go_enter func167,ntmps167
 go_wp2_with fail
 go_loopw [7] (fun W wr=>∃k m:Nat,p<=k/\k<=s.size/\W= .int .i64 m/\m<=most/\Hid (kO s p k m)/\Hid (jt wr g s k L)/\ae [g] w wr) (fun _ wr=>s.size-PL (wr.cell? (g,1)))
 case atStart=>exact⟨p,0,by omega,J,rfl,by omega,za (kO.start s p),U,CM⟩
 case round=>
  obtain⟨k,m,ad,hk,rfl,X,u,i,j⟩:=hrel;obtain⟨c0,O,c2,Z,aa,ab,oO⟩:=i.out.cells;clear g0 g1 g2 f0 f1 f2;have z:(∃_:k<s.size,48<=s[k].toNat/\s[k].toNat<=57)\/(∀h:k<s.size,i' s[k]=false)/\((∃_:k<s.size,48<=s[k].toNat/\¬s[k].toNat<=57)\/(∃_:k<s.size,¬48<=s[k].toNat)\/¬k<s.size):=by
   by_cases b:k<s.size
   ·by_cases c:48<=s[k].toNat
    ·by_cases l:s[k].toNat<=57
     ·exact .inl ⟨b,c,l⟩
     exact .inr ⟨fun _=>by rw[xI];intro hd;exact l ((kN _).1 hd).2,.inl ⟨b,c,l⟩⟩
    exact .inr ⟨fun _=>by rw[xI];intro hd;exact c ((kN _).1 hd).1,.inr (.inl ⟨b,c⟩)⟩
   exact .inr ⟨fun h=>absurd h b,.inr (.inr b)⟩
  rcases z with⟨b,c,l⟩|⟨H,z⟩
  ·have i1:decide ((k:Int)<(s.size:Int))=true:=zF (by omega);have i2:decide ((48:Int)<=(s[k].toNat:Int))=true:=zF (by omega);have K:decide ((s[k].toNat:Int)<=(57:Int))=true:=zF (by omega);obtain⟨d,hd⟩:∃d:Nat,s[k].toNat-48=d:=⟨_,rfl⟩
   have e1:IntKind.u8.wrap ((s[k].toNat:Int)-48)=d:=by rw[show(s[k].toNat:Int)-48=d from by omega];exact IntWalk.u8_in _ (by omega)
   have e2:IntKind.i64.wrap (10*(m:Int))=10*m:=zZ _ (by omega);have e3:IntKind.i64.wrap (d:Int)=d:=zZ _ (by omega);have e4:IntKind.i64.wrap (10*(m:Int)+d)=10*(m:Int)+d:=zZ _ (by omega);have I:Hid (kO s p (k+1) (10*m+d)):=za (by
    have:=u.out.next b ((kN _).2 ⟨c,l⟩);rwa [fj,zj (by omega),hd]at this)
   have x:Hid (∀V,jt V g s k L->jt (V.setCell (g,1) (.int .i64 ((k:Int)+1))) g s (k+1) L):=za (fun V E=>E.to (by omega));by_cases Y:(most:Int)<10*(m:Int)+d
   ·have S:Hid (∀o r,cg (s.data.toList.drop p)=some (o,r)->most<o):=za (fun o r B=>by have:=L6 I.out o r B;omega);go_wp2_with fail
    go_quiet (fail)
    go_wp2_with fail
    go_quiet (fail)
    go_wp2;go_ret2
    exact⟨0,false,k+1,rfl,x.out _ (by exact i.out),j.up,EP S.out (by omega) (by omega)⟩
   go_wp2_with fail
   go_quiet (fail)
   go_wp2_with fail
   go_quiet (fail)
   go_wp2;go_roundw
   case rel=>exact⟨k+1,10*m+d,by omega,by omega,by go_num,by omega,I,za (x.out _ (by exact i.out)),j.up⟩
   case measure=>
    have B:=fun V (E:jt V g s k L)=>(x.out V E).cells.2.1
    rw[O,B]
    ·simp only[PL];omega
    exact i.out
  have C:=za H;clear H;rcases z with⟨b,c,l⟩|⟨b,c⟩|b;all_goals
   first
    |(have i1:decide ((k:Int)<(s.size:Int))=true:=zF (by omega);have i2:decide ((48:Int)<=(s[k].toNat:Int))=true:=zF (by omega);have K:decide ((s[k].toNat:Int)<=(57:Int))=false:=zv (by omega))
    |(have i1:decide ((k:Int)<(s.size:Int))=true:=zF (by omega);have i2:decide ((48:Int)<=(s[k].toNat:Int))=false:=zv (by omega))
    |have i1:decide ((k:Int)<(s.size:Int))=false:=zv (by omega)
   have ek:IntKind.i64.wrap ((k:Int)-p)=(k:Int)-p:=zZ _ (by omega);by_cases D:k=p
   ·have G:(((k:Int)-p)==1)=false:=zp.2 (by omega);have M:decide ((1:Int)<(k:Int)-p)=false:=zv (by omega);have A:=za (nO (s:=s) (at_:=p) (fun h=>by have:=C.out (by omega);simpa[D]using this));clear D;go_wp2_with fail
    go_quiet (fail)
    go_wp2_with fail
    go_quiet (fail)
    go_wp2;go_ret2
    exact⟨m,false,k,rfl,i.out,j.up,vi A.out (by omega) (by omega)⟩
   have F:Hid (p<k):=za (by omega);by_cases N:k=p+1
   ·have G:(((k:Int)-p)==1)=true:=yO.2 (by omega);have y:=za (j9 u.out (by omega) C.out (fun h=>absurd h (by omega)));clear N D;go_wp2_with fail
    go_quiet (fail)
    go_wp2_with fail
    go_quiet (fail)
    go_wp2;go_ret2
    exact⟨m,true,k,rfl,i.out,j.up,BG y.out (by omega) F.out (by omega)⟩
   have G:(((k:Int)-p)==1)=false:=zp.2 (by omega);have M:decide ((1:Int)<(k:Int)-p)=true:=zF (by omega);have af:p<s.size:=by omega
   by_cases hz:s[p].toNat=48
   ·have R:((s[p].toNat:Int) !=48)=false:=by simp[hz]
    have A:=za (nP u.out (by omega) (fun _=>hz));clear hz;go_wp2_with fail
    go_quiet (fail)
    go_wp2_with fail
    go_quiet (fail)
    go_wp2;go_ret2
    exact⟨m,false,k,rfl,i.out,j.up,vi A.out (by omega) (by omega)⟩
   have R:((s[p].toNat:Int) !=48)=true:=yN.2 (by omega);have y:=za (j9 u.out (by omega) C.out (fun _ _=>hz));clear hz;go_wp2_with fail
   go_quiet (fail)
   go_wp2_with fail
   go_quiet (fail)
   go_wp2;go_ret2
   exact⟨m,true,k,rfl,i.out,j.up,BG y.out (by omega) F.out (by omega)⟩
abbrev iL (w:World)(g:Nat)(s:ByteArray)(at_:Nat)(f:Int):Prop:=ag w g 234 #[s,at_,f]
theorem bs (g:Nat)(s:ByteArray)(k:Nat)(f:Int)(w:World)(h:iL w g s k f):
 Calls prog 143 #[(g,0)] w fun e w'=>e= .returned f/\w=w':=by
 have b:=h.cell 2;simp at b;clear h;go_enter func143,ntmps143
 go_wp2;go_ret;exact⟨rfl,rfl⟩
theorem vK (g:Nat)(s:ByteArray)(k:Nat)(f:Int)(w:World)(h:iL w g s k f)(i:k<=s.size)(d:s.size<=9223372036854775807):
 Calls prog 161 #[(g,0)] w fun e w'=>e= .returned (.int .i64 ((s.size:Int)-k))/\∃n,w.drewN n=w':=by
 have b:=h.cell 0;have c:=h.cell 1;simp at b c;clear h;go_enter func161,ntmps161
 go_wp2;go_quiet (fail)
 go_wp2;go_ret;exact⟨rfl,_,rfl⟩
theorem iM (g:Nat)(s:ByteArray)(k:Nat)(f:Int)(w:World)(h:iL w g s k 0):
 Calls prog 160 #[(g,0),f] w fun e w'=>e= .returned (.tuple #[])/\iL w' g s (k) (f)/\ae [g] w w':=by
 have b:=h.cell 2;have d:=h.frozen 2;have c:=h.lt;simp at b;have H:=za h;clear h;go_enter func160,ntmps160
 go_wp2;go_end0
 go_wp2;go_end0
 refine⟨rfl, ?_,CM⟩;have h:=H.out;unfold iL at h⊢
 (repeat(first|with_reducible assumption|with_reducible apply ag.drewN|with_reducible apply ag.drew|with_reducible apply ag.alloc|((with_reducible apply ag.beside); · (first|omega|(simp<;>omega)))|with_reducible apply ag.store));all_goals(first|rfl|simp)
theorem vL (g:Nat)(s:ByteArray)(k:Nat)(f e:Int)(w:World)(h:iL w g s k f)(d:(f==0)=false):
 Calls prog 160 #[(g,0),e] w fun e w'=>e= .returned (.tuple #[])/\iL w' g s (k) (f)/\ae [g] w w':=by
 have b:=h.cell 2;have c:=h.lt;simp at b;have H:=za h;clear h;go_enter func160,ntmps160
 go_wp2;go_end0
 go_wp2;go_end0
 refine⟨rfl, ?_,CM⟩;have h:=H.out;unfold iL at h⊢
 (repeat(first|with_reducible assumption|with_reducible apply ag.drewN|with_reducible apply ag.drew|with_reducible apply ag.alloc|((with_reducible apply ag.beside); · (first|omega|(simp<;>omega)))|with_reducible apply ag.store));all_goals(first|rfl|simp)
theorem IN (g:Nat)(s:ByteArray)(k:Nat)(f n:Int)(w:World)(h:iL w g s k f)(o:(f==0)=false):
 Calls prog 142 #[(g,0),n] w fun e w'=>e= .returned ByteArray.empty/\iL w' g s (k) (f)/\ae [g] w w':=by
 have c:=h.cell 0;have d:=h.cell 1;have b:=h.cell 2;have j:=h.frozen 1;have l:=h.frozen 2;have i:=h.lt;simp at c d b;have H:=za h;clear h;have m:=sE i b;go_enter func142,ntmps142
 go_wp2;go_end0
 go_wp2;go_ret;refine⟨rfl, ?_,CM⟩;have h:=H.out;unfold iL at h⊢
 (repeat(first|with_reducible assumption|with_reducible apply ag.drewN|with_reducible apply ag.drew|with_reducible apply ag.alloc|((with_reducible apply ag.beside); · (first|omega|(simp<;>omega)))|with_reducible apply ag.store));all_goals(first|rfl|simp)
theorem fZ (g:Nat)(s:ByteArray)(k:Nat)(n:Nat)(w:World)(h:iL w g s k 0)(p:k<=s.size)(q:s.size<=9223372036854775807)(o:s.size<k+n)(m:n<=9223372036854775807):
 Calls prog 142 #[(g,0),n] w fun e w'=>e= .returned ByteArray.empty/\iL w' g s (k) (2)/\ae [g] w w':=by
 have d:=h.cell 0;have i:=h.cell 1;have c:=h.cell 2;have l:=h.frozen 1;have j:=h.frozen 2;have b:=h.lt;simp at d i c;have H:=za h;clear h;have r:=sE b d;have x:=sE b i;have u:=sE b c;have g2:=CL b j;go_enter func142,ntmps142
 go_wp2;go_quiet (fail)
 go_wp2;go_end0
 go_wp2;go_ret;refine⟨rfl, ?_,CM⟩;have h:=H.out;unfold iL at h⊢
 (repeat(first|with_reducible assumption|with_reducible apply ag.drewN|with_reducible apply ag.drew|with_reducible apply ag.alloc|((with_reducible apply ag.beside); · (first|omega|(simp<;>omega)))|with_reducible apply ag.store));all_goals(first|rfl|simp)
theorem eD (g:Nat)(s:ByteArray)(k:Nat)(n:Nat)(w:World)(h:iL w g s k 0)(p:s.size<=9223372036854775807)(o:k+n<=s.size):
 Calls prog 142 #[(g,0),n] w fun e w'=>e= .returned (.string (s.extract k (k+n)))/\iL w' g s (k+n) (0)/\ae [g] w w':=by
 have d:=h.cell 0;have i:=h.cell 1;have c:=h.cell 2;have j:=h.frozen 1;have l:=h.frozen 2;have b:=h.lt;simp at d i c;have H:=za h;clear h;have q:=sE b d;have u:=sE b i;have r:=sE b c;have m:=CL b j;have g2:=CL b l;go_enter func142,ntmps142
 go_wp2;go_quiet (fail)
 go_wp2;go_region
 all_goals go_wp2
 go_region
 all_goals go_wp2
 go_end0
 go_wp2;go_ret;refine⟨rfl, ?_,CM⟩;have h:=H.out;unfold iL at h⊢
 (repeat(first|with_reducible assumption|with_reducible apply ag.drewN|with_reducible apply ag.drew|with_reducible apply ag.alloc|((with_reducible apply ag.beside); · (first|omega|(simp<;>omega)))|with_reducible apply ag.store));all_goals(first|rfl|simp)
theorem rS (s:ByteArray)(w:World):
 Calls prog 141 #[s] w fun e w'=>e= .returned (w.heap.size,0)/\w'=w.alloc (.cells #[s,(0:Int),(0:Int)] 234):=by
 go_enter func141,ntmps141
 go_wp2;go_ret;exact⟨rfl,rfl⟩
theorem PM (g a b c:Nat)(s:ByteArray)(k:Nat)(v:Value)(w:World)(h:iL w g s k 0)(m:ag w a 3 #[(9:Int)])(l:ag w b 191 #[(g,0)])(i:ag w c 9 #[v])(q:k<=s.size)(u:s.size<=9223372036854775807):
 Calls prog 224 #[(a,0),(b,0),(c,0)] w fun e w'=>e= .returned (0:Int)/\ag w' c 9 #[.string (s.extract k (k+min 9 (s.size-k)))]/\ae [c] w w':=by
 have o:w.cell? (g,0)=some (.string s):=h.cell 0;have x:w.cell? (g,1)=some (.int .i64 k):=h.cell 1;have p:w.cell? (a,0)=some (.int .i64 9):=m.cell 0;have k1:w.cell? (b,0)=some (.pointer (some (g,0))):=l.cell 0;have k2:=i.frozen 0;have y:w.cell? (c,0)=some v:=i.cell 0;have n:=za i;clear h m l i;by_cases r:s.size<k+9
 ·have d:¬(9:Int)<=(s.size:Int)-k:=by omega
  have j:Hid (s.extract k (k+min 9 (s.size-k))=s.extract k s.size):=za (by congr 1;omega);generalize s.extract k (k+min 9 (s.size-k))=X at*;go_enter func224,ntmps224
  go_wp2;refine cB 26 (by kernel_rfl) (by kernel_rfl) ?_;simp only[zR,yv,ya,zL];repeat(go_big_quiet_step (fail))
  refine xO ?_;intro nq;go_wp2;go_ret;refine⟨rfl, ?_,CM⟩;have h:=n.out;rw[j.out]
  (repeat(first|with_reducible assumption|with_reducible apply ag.drewN|with_reducible apply ag.drew|with_reducible apply ag.alloc|((with_reducible apply ag.beside); · (first|omega|(simp<;>omega)))|with_reducible apply ag.store));all_goals(first|rfl|simp)
 have d:(9:Int)<=(s.size:Int)-k:=by omega
 have j:Hid (s.extract k (k+min 9 (s.size-k))=s.extract k ((k:Int)+9).toNat):=za (by congr 1;omega);generalize s.extract k (k+min 9 (s.size-k))=X at*;go_enter func224,ntmps224
 go_wp2;refine cB 26 (by kernel_rfl) (by kernel_rfl) ?_;simp only[zR,yv,ya,zL];repeat(go_big_quiet_step (fail))
 refine xO ?_;intro nq;go_wp2;go_ret;refine⟨rfl, ?_,CM⟩;have h:=n.out;rw[j.out]
 (repeat(first|with_reducible assumption|with_reducible apply ag.drewN|with_reducible apply ag.drew|with_reducible apply ag.alloc|((with_reducible apply ag.beside); · (first|omega|(simp<;>omega)))|with_reducible apply ag.store));all_goals(first|rfl|simp)
theorem TE (g:Nat)(s:ByteArray)(k:Nat)(w:World)(h:iL w g s k 0)(l:k<=s.size)(n:s.size<=9223372036854775807):
 Calls prog 203 #[(g,0),(9:Int)] w fun e w'=>e= .returned (.string (s.extract k (k+min 9 (s.size-k))))/\iL w' g s k 0/\ae [g] w w':=by
 have d:=h.cell 2;have r:=h.frozen 2;have o:=h.lt;simp at d;have H:=za h;have u:=sE o d;have m:=za (PM g (w.heap.size+1) w.heap.size (w.heap.size+1+1) s k eS (((w.alloc (.cells #[(g,0)] 191)).alloc (.cells #[(9:Int)] 3)).alloc (.cells #[eS] 9)) (((h.alloc _).alloc _).alloc _) ((ag.at_ (by simp)).alloc _) (((ag.new _ _ _).alloc _).alloc _) (ag.at_ (by simp)) l n);generalize s.extract k (k+min 9 (s.size-k))=X at*;clear h;go_enter func203,ntmps203
 go_wp2_with fail
 go_enter func175,ntmps175
 go_wp2_with fail
 refine m.out.mono ?_;rintro e w' ⟨rfl,hx,b⟩;have x:w'.cell? (w.heap.size+1+1,0)=some (.string X):=hx.cell 0;have c:iL w' g s k 0:=(((H.out.alloc _).alloc _).alloc _).only b (by simp;omega);have q:=c.frozen 2;have p:w'.cell? (g,2)=some (.int .i64 0):=c.cell 2;have j:=za c;have i:=za ((((ae.refl [g] w).alloc _).alloc _).alloc _|>.trans' b (by simp;omega));clear c hx b;go_wp2;go_end0
 go_wp2;go_ret;refine⟨rfl, ?_, ?_⟩
 ·have h:=j.out;unfold iL at h⊢
  (repeat(first|with_reducible assumption|with_reducible apply ag.drewN|with_reducible apply ag.drew|with_reducible apply ag.alloc|((with_reducible apply ag.beside); · (first|omega|(simp<;>omega)))|with_reducible apply ag.store));all_goals(first|rfl|simp)
 have b:=i.out;exact b.up
def kW (N:Nat×Nat×Int)(most:Nat):Int:=if N.2.2≠0 then N.2.2 else if most<N.1 then 5 else 0
def np (N:Nat×Nat×Int)(most:Nat):Nat:=if kW N most=0 then N.1 else 0
def nr (N:Nat×Nat×Int)(most k:Nat):Nat:=if kW N most=0 then k+N.2.1 else k
theorem kX (N:Nat×Nat×Int)(most k:Nat):(N.2.2≠0/\kW N most=N.2.2/\np N most=0/\nr N most k=k)\/(N.2.2=0/\most<N.1/\kW N most=5/\np N most=0/\nr N most k=k)\/(N.2.2=0/\¬most<N.1/\kW N most=0/\np N most=N.1/\nr N most k=k+N.2.1):=by
 unfold np nr kW;by_cases h:N.2.2≠0
 ·simp[h]
 by_cases b:most<N.1
 ·simp only[zE]at h;simp[h,b]
 simp only[zE]at h;simp[h,b]
theorem PN (g:Nat)(s:ByteArray)(k most:Nat)(w:World)(h:iL w g s k 0)(R:k<=s.size)(H:s.size<=9223372036854775807)(Z:most<18446744073709551616)(D:ba w)(hg:g≠0):
 Calls prog 163 #[(g,0),.int .u64 most] w fun e w'=>e= .returned (.int .u64 (np (au (s.data.toList.drop k)) most))/\iL w' g s (nr (au (s.data.toList.drop k)) most k) (kW (au (s.data.toList.drop k)) most)/\ae [g] w w':=by
 have u:=za (bs g s k 0 w h);have B:=za (TE g s k w h R H);have J:(s.extract k (k+min 9 (s.size-k))).data.toList=(s.data.toList.drop k).take 9:=by
  rw[aq,Za,show k+min 9 (s.size-k)-k=min 9 (s.size-k)from by omega];by_cases U:9<=s.size-k
  ·rw[yG U]
  rw[Nat.min_eq_right (by omega),zx (by simp),zx (by simp;omega)]
 have I:(s.extract k (k+min 9 (s.size-k))).size<=9223372036854775807:=by rw[ar _ _ _ (by omega)];omega
 have A:Hid (∀b,ba b->Calls prog 202 #[.string (s.extract k (k+min 9 (s.size-k)))] b fun e w'=>e=BX (au (s.data.toList.drop k))/\b=w'):=za (fun b L=>by
  have:=Pw _ b I L;rwa [J,EY]at this)
 have y:(au (s.data.toList.drop k)).2.2=0->k+(au (s.data.toList.drop k)).2.1<=s.size:=fun S=>by
  have:=(iK (s.data.toList.drop k) (au (s.data.toList.drop k)).1 (au (s.data.toList.drop k)).2.1 (by rw[<-S])).2.1;rw[zP,aa]at this;omega
 have x:=za (fun b (c:ae [g] w b)=>D.only c (by simp;omega));have HH:=za h;generalize s.extract k (k+min 9 (s.size-k))=X at*;generalize au (s.data.toList.drop k)=N at*;obtain⟨m,z,r⟩:=N;have C:=kX (m,z,r) most k;generalize kW (m,z,r) most=E at*;generalize np (m,z,r) most=M at*;generalize nr (m,z,r) most k=K at*;simp only at C y;have W:=za y;clear h D J I y;rcases C with⟨F,rfl,rfl,rfl⟩|⟨rfl,O,rfl,rfl,rfl⟩|⟨rfl,O,rfl,rfl,rfl⟩
 ·have b1:(E==0)=false:=zp.2 F;have Y:(E !=0)=true:=yN.2 F;go_enter func163,ntmps163
  go_wp2_with fail
  refine u.out.mono ?_;rintro e w' ⟨rfl,rfl⟩;go_wp2_with fail
  refine B.out.mono ?_;rintro e b ⟨rfl,d,c⟩;have l:=za d;have q:=za c;have o:=za (A.out b (x.out b c));clear d c;go_wp2_with fail
  refine o.out.mono ?_;rintro e w' ⟨rfl,rfl⟩;unfold BX;go_wp2_with fail
  refine(iM g s K E b l.out).mono ?_;rintro e G ⟨rfl,j,i⟩;have n:=za j;have p:=za i;clear j i;go_wp2;go_ret;exact⟨rfl,n.out,q.out.trans p.out⟩
 ·skip
  go_enter func163,ntmps163
  go_wp2_with fail
  refine u.out.mono ?_;rintro e w' ⟨rfl,rfl⟩;go_wp2_with fail
  refine B.out.mono ?_;rintro e b ⟨rfl,d,c⟩;have l:=za d;have q:=za c;have o:=za (A.out b (x.out b c));clear d c;go_wp2_with fail
  refine o.out.mono ?_;rintro e w' ⟨rfl,rfl⟩;unfold BX;go_wp2_with fail
  refine(iM g s K 5 b l.out).mono ?_;rintro e G ⟨rfl,j,i⟩;have n:=za j;have p:=za i;clear j i;go_wp2;go_ret;exact⟨rfl,n.out,q.out.trans p.out⟩
 skip
 go_enter func163,ntmps163
 go_wp2_with fail
 refine u.out.mono ?_;rintro e w' ⟨rfl,rfl⟩;go_wp2_with fail
 refine B.out.mono ?_;rintro e b ⟨rfl,d,c⟩;have l:=za d;have q:=za c;have o:=za (A.out b (x.out b c));clear d c;go_wp2_with fail
 refine o.out.mono ?_;rintro e w' ⟨rfl,rfl⟩;unfold BX;go_wp2_with fail
 refine(eD g s k z b l.out H (W.out trivial)).mono ?_;rintro e G ⟨rfl,j,i⟩;have n:=za j;have p:=za i;clear j i;go_wp2;go_ret;exact⟨rfl,n.out,q.out.trans p.out⟩
theorem C' :∀(x:Ty) (B:Nat) (w:World) (E D C u:Value),cq w B x E D C u->B<=w.heap.size->x.count<=4611686018427387904->
 Calls prog 57 #[.agg #[E,D,C,u]] w fun e w'=>e= .returned x.count/\(w,w'):=by
 intro x;induction x using Ty.ind with
 |h ki s l ta ih=>
  intro B w E D C u h hB R;obtain⟨rfl,rfl,rfl,L,N,O,hs,A,cap,rfl,nH,kr,G⟩:=h;have W:=za ih;have HS:=za G;unfold mu at L N O;obtain⟨Ro,Rn⟩:=L;obtain⟨Rl,Rk⟩:=N;obtain⟨Rm,JM⟩:=O;clear ih G;have oO:1+aZ l<=4611686018427387904:=by simpa only[Ty.count]using R
  rw[show(Ty.mk ki s l ta).count=1+aZ l from by simp only[Ty.count]];clear R;go_enter func57,ntmps57
  go_wp2_with fail
  go_loopw [3,4] (fun n i wr=>∃k m:Nat,k<=l.length/\i= .int .i64 k/\Hid (m=1+aZ (l.take k))/\n= .int .i64 m/\(w,wr)/\(wr,w.heap.size,2,Value.slice A l.length cap)) (fun _ i _=>l.length-(intOf i).toNat)
  case atStart=>exact⟨0,1,by omega,rfl,za (by simp[aZ]),rfl,bO,by simp⟩
  case round=>
   obtain⟨k,m,hk,rfl,I,rfl,c,H⟩:=hrel;by_cases F:k<l.length
   ·obtain⟨b,o,d0,d1,d2,d3,rfl,gb,j,z,r,y,hi⟩:=HS.out.at_ k F;simp only[zJ]at j z r y;replace j:=(c.cell (p:=(b,o+k*4)) (by simp;omega)).trans j;replace z:=(c.cell (p:=(b,o+k*4+1)) (by simp;omega)).trans z;replace r:=(c.cell (p:=(b,o+k*4+2)) (by simp;omega)).trans r;replace y:=(c.cell (p:=(b,o+k*4+3)) (by simp;omega)).trans y;have X:=c.size;have Y:=zD F;have S:=hi.below (c.mono hB);have Ah:=EA l k F;have Z:=uY l (k+1);have d:=I.out;obtain⟨q,M⟩:∃q,l[k].count=q:=⟨_,rfl⟩
    have aa:m+q<=4611686018427387904:=by omega
    have Hq:Hid (m+q=1+aZ (l.take (k+1))):=za (by omega);have J:=za (W.out _ Y B wr d0 d1 d2 d3 S (by omega) (by omega));rw[M]at J;clear Ah Z d M S hi;go_wp2_with fail
    refine J.out.mono ?_;rintro e w2 ⟨rfl,K⟩;have jY:=lt_of_cell H;have eo:=(K.cell (p:=(w.heap.size,2)) (by simp;omega)).trans H;have U:=c.trans (K.mono X);go_wp2;go_roundw
    case rel=>exact⟨k+1,m+q,by omega,by go_num,Hq,by go_num,U,eo⟩
    case measure=>simp[intOf];omega
   have d:=I.out;rw[zx (by omega)]at d;have HM:=za d;clear d;go_wp2;go_ret;exact⟨by show Ending.returned m=_;rw[HM.out],c⟩
theorem FF :∀(x:Ty) (B:Nat) (w:World) (K H G C:Value),cq w B x K H G C->B<=w.heap.size->x.deep<=4611686018427387904->
 Calls prog 58 #[.agg #[K,H,G,C]] w fun e w'=>e= .returned x.deep/\(w,w'):=by
 intro x;induction x using Ty.ind with
 |h ki s l ta ih=>
  intro B w K H G C h hB hc;obtain⟨rfl,rfl,rfl,X,Y,Z,hs,A,cap,rfl,nH,kr,O⟩:=h;have IH:=za ih;have HS:=za O;unfold mu at X Y Z;obtain⟨Ro,Rn⟩:=X;obtain⟨Rl,Rk⟩:=Y;obtain⟨Rm,JM⟩:=Z;clear ih O;have oO:dD l+1<=4611686018427387904:=by simpa only[Ty.deep]using hc
  rw[show(Ty.mk ki s l ta).deep=dD l+1 from by simp only[Ty.deep]];clear hc;go_enter func58,ntmps58
  go_wp2_with fail
  go_loopw [3,4] (fun n i wr=>∃k m:Nat,k<=l.length/\i= .int .i64 k/\Hid (m=dD (l.take k))/\m<=4611686018427387904/\n= .int .i64 m/\(w,wr)/\(wr,w.heap.size,2,Value.slice A l.length cap)) (fun _ i _=>l.length-(intOf i).toNat)
  case atStart=>exact⟨0,0,by omega,rfl,za (by simp[dD]),by omega,rfl,bO,by simp⟩
  case round=>
   obtain⟨k,m,hk,rfl,U,aa,rfl,c,r⟩:=hrel;by_cases L:k<l.length
   ·obtain⟨b,o,d0,d1,d2,d3,rfl,gb,u,F,z,E,hi⟩:=HS.out.at_ k L;simp only[zJ]at u F z E;replace u:=(c.cell (p:=(b,o+k*4)) (by simp;omega)).trans u;replace F:=(c.cell (p:=(b,o+k*4+1)) (by simp;omega)).trans F;replace z:=(c.cell (p:=(b,o+k*4+2)) (by simp;omega)).trans z;replace E:=(c.cell (p:=(b,o+k*4+3)) (by simp;omega)).trans E;have R:=c.size;have gU:=zD L;have N:=hi.below (c.mono hB);have W:=H6 l k L;have S:=As l (k+1);have d:=U.out;obtain⟨q,M⟩:∃q,l[k].deep=q:=⟨_,rfl⟩
    have ab:q<=4611686018427387904:=by omega
    have D:=za (IH.out _ gU B wr d0 d1 d2 d3 N (by omega) (by omega));rw[M]at D;by_cases Gx:m<q
    ·have I:Hid (q=dD (l.take (k+1))):=za (by omega);clear W S d M N hi;go_wp2_with fail
     refine D.out.mono ?_;rintro e w2 ⟨rfl,j⟩;have jY:=lt_of_cell r;have J:=(j.cell (p:=(w.heap.size,2)) (by simp;omega)).trans r;have y:=c.trans (j.mono R);go_wp2;go_roundw
     case rel=>exact⟨k+1,q,by omega,by go_num,I,by omega,by go_num,y,J⟩
     case measure=>simp[intOf];omega
    have I:Hid (m=dD (l.take (k+1))):=za (by omega);clear W S d M N hi;go_wp2_with fail
    refine D.out.mono ?_;rintro e w2 ⟨rfl,j⟩;have jY:=lt_of_cell r;have J:=(j.cell (p:=(w.heap.size,2)) (by simp;omega)).trans r;have y:=c.trans (j.mono R);go_wp2;go_roundw
    case rel=>exact⟨k+1,m,by omega,by go_num,I,by omega,by go_num,y,J⟩
    case measure=>simp[intOf];omega
   have d:=U.out;rw[zx (by omega)]at d;have HM:=za d;clear d;go_wp2;go_ret;exact⟨by show Ending.returned (.int .i64 ((m:Int)+1))=_;rw[HM.out];go_num,c⟩
theorem TF (n b:Nat)(c:b<256)(e:n<72057594037927936):bits .or .u64 (IntKind.u64.wrap ((n:Int)*256)) (IntKind.u64.wrap (b:Int))=((256*n+b:Nat):Int):=by
 have d:((n:Int)*256)=((n*2^(8*1):Nat):Int):=by simp
 rw[xx (b:Int) (by omega),d,xx _ (by omega),u64_or_nat _ _ (by omega) (by omega),Nat.or_comm,Vf b n 1 (by simpa using c)];omega
theorem PO (s:ByteArray)(w:World)(l:0<s.size)(p:s.size<=8):
 Calls prog 222 #[s] w fun e w'=>e= .returned (.tuple #[.int .u64 (mr s.data.toList),(0:Int)])/\w=w':=by
 have hz:((s.size:Int)==0)=false:=zp.2 (by omega);go_enter func222,ntmps222
 go_wp2;go_loop [5,15] (fun n i=>∃k m:Nat,k<=s.size/\Hid (m=mr (s.data.toList.take k))/\n= .int .u64 m/\i= .int .i64 k) (fun _ i=>s.size-(intOf i).toNat)
 case atStart=>exact⟨0,0,by omega,rfl,rfl,rfl⟩
 case round=>
  obtain⟨k,m,d,b,rfl,rfl⟩:=hrel;by_cases j:k<s.size
  ·go_wp2;have c:=s[k].toNat_lt;have h:=CB (s.data.toList.take k);rw[length_take s k d,<-b.out]at h;have o:2^(8*k)<=2^56:=yq (by omega) (by omega);have e:=TF m s[k].toNat c (by omega);go_round
   case rel=>
    refine⟨k+1,_,by omega,za rfl, ?_,by go_num⟩;rw[jn s k j,uO,<-b.out,<-e]
   case measure=>simp[intOf];omega
  go_wp2;go_ret2
  exact⟨Fu rfl (by rw[b.out,zx (by simp;omega)]),rfl⟩
def sU (s:ByteArray):Int:=if s.size=0 then 0 else if 8<s.size then 5 else if gW s.data.toList then 3 else 0
def BY (s:ByteArray):Nat:=if sU s=0 then mr s.data.toList else 0
theorem PQ (s:ByteArray)(h:0<s.size):gW s.data.toList=decide (s[0].toNat=0):=by
 have:=drop_cons s 0 h;rw[zL]at this;rw[this];simp only[gW];by_cases e:s[0]=0
 ·simp[e]
 have:s[0].toNat≠0:=fun h=>e (zT.1 h)
 simp[e,this]
theorem vM (s:ByteArray)(w:World)(o:s.size<=9223372036854775807):
 Calls prog 198 #[s] w fun e w'=>e= .returned (.tuple #[.int .u64 (BY s),.int .i64 (sU s)])/\w=w':=by
 rcases fU s with⟨hz,rfl⟩|⟨hz,n,p⟩
 ·have c:Hid (BY ⟨#[]⟩=0):=za (by simp[BY,sU,ByteArray.size,mr,da]);have b:Hid (sU ⟨#[]⟩=0):=za (by simp[sU,ByteArray.size]);generalize BY ⟨#[]⟩=N at*;generalize sU ⟨#[]⟩=E at*;clear hz;go_enter func198,ntmps198
  go_wp2;go_ret2
  exact⟨by rw[c.out,b.out];rfl,rfl⟩
 have k:0<s.size:=by
  rcases Zp s.size with h|h
  ·exact absurd h (by first|exact hz|omega)
  exact h
 by_cases m:s.size<=8
 ·have i:=PQ s k;by_cases d:s[0].toNat=0
  ·have b:Hid (sU s=3):=za (by unfold sU;rw[zi (by omega),zi (by omega),i,d];rfl);have c:Hid (BY s=0):=za (by simp[BY,b.out]);have l:((s[0].toNat:Int)==0)=true:=by simp[d]
   generalize BY s=N at*;generalize sU s=E at*;clear hz d i;go_enter func198,ntmps198
   go_wp2;go_ret2
   exact⟨by rw[c.out,b.out];rfl,rfl⟩
  have b:Hid (sU s=0):=za (by unfold sU;rw[zi (by omega),zi (by omega),i,zv d];rfl);have c:Hid (BY s=mr s.data.toList):=za (by simp[BY,b.out]);have l:((s[0].toNat:Int)==0)=false:=zp.2 (by omega);have j:=za (PO s w k m);rw[<-c.out]at j;generalize BY s=N at*;generalize sU s=E at*;clear hz d i;go_enter func198,ntmps198
  go_wp2_with fail
  refine j.out.mono ?_;rintro e w' ⟨rfl,rfl⟩;go_wp2;go_ret2
  exact⟨by rw[b.out];rfl,rfl⟩
 have b:Hid (sU s=5):=za (by unfold sU;rw[zi (by omega),zj (by omega)]);have c:Hid (BY s=0):=za (by simp[BY,b.out]);generalize BY s=N at*;generalize sU s=E at*;clear hz;go_enter func198,ntmps198
 go_wp2;go_ret2
 exact⟨by rw[c.out,b.out];rfl,rfl⟩
def Xa (tx:ByteArray)(l:Bool):Int:=if l then 12 else sU tx
def Su (tx:ByteArray)(l:Bool):Nat:=if l then 0 else BY tx
theorem acf (b:ByteArray)(l:Bool)(i:Value)(w:World)(h:b.size<=9223372036854775807):
 Calls prog 157 #[.agg #[b,l,i]] w fun e w'=>e= .returned (.tuple #[.int .u64 (Su b l),.int .i64 (Xa b l)])/\(w,w'):=by
 cases l with
 |true=>
  simp only[Su,Xa,xL];go_enter func157,ntmps157
  go_wp2;go_ret2
  exact⟨rfl,bO⟩
 |false=>
  have d:=za (fun w=>vM b w h);have c:Hid (Su b false=BY b):=za rfl;have j:Hid (Xa b false=sU b):=za rfl;rw[c.out,j.out];generalize BY b=N at*;generalize sU b=E at*;go_enter func157,ntmps157
  go_wp2_with fail
  refine(d.out _).mono ?_;rintro e w' ⟨rfl,rfl⟩;go_wp2;go_ret2
  exact⟨rfl,bO⟩
theorem Xb (k s o:Int)(r:Value)(b:ByteArray)(l:Bool)(d2:Value)(w:World)(A:b.size<=9223372036854775807)(D:s<=8):
 Calls prog 184 #[.agg #[k,s,r,o],.agg #[b,l,d2]] w fun e w'=>e= .returned (.bool (!l&&decide ((b.size:Int)<=s)&& !gW b.data.toList))/\(w,w'):=by
 have q:=za (fun w=>acf b l d2 w A);obtain⟨R,d⟩:∃R,Hid ((!l&&decide ((b.size:Int)<=s)&& !gW b.data.toList)=R):=⟨_,za rfl⟩
 rw[d.out];obtain⟨E,i⟩:∃E,Hid (Xa b l=E):=⟨_,za rfl⟩
 rw[i.out]at q;generalize Su b l=N at*;by_cases hz:E=0
 ·subst hz;have u:Hid (R=decide ((b.size:Int)<=s)):=za (by
   have h:=i.out;rw[<-d.out];unfold Xa sU at h;cases l with
   |true=>simp at h
   |false=>
    simp only[Bool.not_false,Bool.true_and];by_cases j:b.size=0
    ·have:b.data.toList= []:=zo (by rw[aa];exact j);simp[this,gW]
    rw[zi (by simp),zi j]at h;split at h
    ·simp at h
    split at h
    ·simp at h
    rename_i n;simp[n])
  clear d i;go_enter func184,ntmps184
  go_wp2_with fail
  refine(q.out _).mono ?_;rintro e m ⟨rfl,c⟩;have x:=c;simp only[zt]at x;have p:Below w.heap.size w m:=((zm w.heap.size w).alloc (zd _) _|>.alloc (by simp) _).trans (x.mono (by omega));have y:ag m w.heap.size 70 #[k,s,r,o]:=((ag.new w _ _).alloc _).only (ae.ai c (zd _)) (by simp);have z:ag m (w.heap.size+1) 28 #[b,l,d2]:=(show ag _ (w.heap.size+1) _ _ from by have:=ag.new (w.alloc (.cells #[k,s,r,o] 70)) 28 #[b,l,d2];simpa using this).only (ae.ai c (zd _)) (by simp);have F:=y.cell 1;have g2:=z.cell 0;clear c x y z;go_wp2;go_ret;exact⟨by rw[u.out];rfl,p⟩
 have u:Hid (R=false):=za (by
  have h:=i.out;rw[<-d.out];unfold Xa sU at h;cases l with
  |true=>simp
  |false=>
   simp only[Bool.not_false,Bool.true_and];by_cases j:b.size=0
   ·simp[j]at h;exact absurd h.symm hz
   rw[zi (by simp),zi j]at h;by_cases B:8<b.size
   ·rw[zv (by omega)];rfl
   rw[zi B]at h;by_cases n:gW b.data.toList=true
   ·simp[n]
   rw[zi n]at h;exact absurd h.symm hz)
 have C:(E==0)=false:=zp.2 hz;clear d i hz;go_enter func184,ntmps184
 go_wp2_with fail
 refine(q.out _).mono ?_;rintro e m ⟨rfl,c⟩;simp only[zt]at c;have p:Below w.heap.size w m:=((zm w.heap.size w).alloc (zd _) _|>.alloc (by simp) _).trans (c.mono (by omega));go_wp2;go_ret;exact⟨by rw[u.out];rfl,p⟩
theorem Xc (k s c:Int)(A:Option Addr)(n cap:Nat)(b:ByteArray)(l:Bool)(h:Option Addr)(m i:Nat)(w:World)(r:b.size<=9223372036854775807)(p:n<=9223372036854775807)(q:m<=9223372036854775807)(o:0<=c)(j:c<=n):
 Calls prog 185 #[.agg #[k,s,.slice A n cap,c],.agg #[b,l,.slice h m i]] w fun e w'=>e= .returned (.bool (!l&&decide ((b.size:Int)=s)))/\(w,w'):=by
 obtain⟨R,d⟩:∃R,Hid ((!l&&decide ((b.size:Int)=s))=R):=⟨_,za rfl⟩
 rw[d.out];go_enter func185,ntmps185
 cases l
 all_goals
  go_wp2;all_goals
   go_ret;refine⟨aV ?_,bO⟩;rw[<-d.out,yP];simp;try omega
theorem Xd (k s c:Int)(A:Option Addr)(n cap:Nat)(b:ByteArray)(l:Bool)(h:Option Addr)(m i:Nat)(w:World)(r:b.size<=9223372036854775807)(p:n<=9223372036854775807)(q:m<=9223372036854775807)(o:0<=c)(j:c<=n):
 Calls prog 188 #[.agg #[k,s,.slice A n cap,c],.agg #[b,l,.slice h m i]] w fun e w'=>e= .returned (.bool (!l&&decide ((b.size:Int)<=s)))/\(w,w'):=by
 obtain⟨R,d⟩:∃R,Hid ((!l&&decide ((b.size:Int)<=s))=R):=⟨_,za rfl⟩
 rw[d.out];go_enter func188,ntmps188
 cases l
 all_goals
  go_wp2;all_goals
   go_ret;refine⟨aV ?_,bO⟩;rw[<-d.out,yP];simp;try omega
theorem Xe (k s b:Int)(A:Option Addr)(n cap:Nat)(d:ByteArray)(l:Bool)(h:Option Addr)(m i:Nat)(w:World)(r:d.size<=9223372036854775807)(p:n<=9223372036854775807)(q:m<=9223372036854775807)(o:0<=b)(j:b<=n):
 Calls prog 189 #[.agg #[k,s,.slice A n cap,b],.agg #[d,l,.slice h m i]] w fun e w'=>e= .returned (.bool (l&&decide ((m:Int)<=s)))/\(w,w'):=by
 obtain⟨R,c⟩:∃R,Hid ((l&&decide ((m:Int)<=s))=R):=⟨_,za rfl⟩
 rw[c.out];go_enter func189,ntmps189
 cases l
 all_goals
  go_wp2;all_goals
   go_ret;refine⟨aV ?_,bO⟩;rw[<-c.out,yP];simp;try omega
theorem Xf (k s b:Int)(A:Option Addr)(n cap:Nat)(d:ByteArray)(l:Bool)(h:Option Addr)(m i:Nat)(w:World)(r:d.size<=9223372036854775807)(p:n<=9223372036854775807)(q:m<=9223372036854775807)(o:0<=b)(j:b<=n):
 Calls prog 192 #[.agg #[k,s,.slice A n cap,b],.agg #[d,l,.slice h m i]] w fun e w'=>e= .returned (.bool (l&&decide (m<=n)&&decide ((n:Int)-b<=m)))/\(w,w'):=by
 obtain⟨R,c⟩:∃R,Hid ((l&&decide (m<=n)&&decide ((n:Int)-b<=m))=R):=⟨_,za rfl⟩
 rw[c.out];go_enter func192,ntmps192
 cases l
 all_goals
  go_wp2;all_goals
   go_ret;refine⟨aV ?_,bO⟩;rw[<-c.out,yP];simp;try omega
def l7 :Value:= .agg #[.func (.func 184) #[] #[],.func (.func 182) #[] #[]]
def jK :Value:= .agg #[.func (.func 185) #[] #[],.func (.func 186) #[] #[]]
def ky :Value:= .agg #[.func (.func 188) #[] #[],.func (.func 182) #[] #[]]
def qv :Value:= .agg #[.func (.func 189) #[] #[],.func (.func 190) #[] #[]]
def kg :Value:= .agg #[.func (.func 192) #[] #[],.func (.func 193) #[] #[]]
def Xg :List MapEntry:= [⟨.int .i64 1,l7,0⟩,⟨.int .i64 2,jK,1⟩,⟨.int .i64 3,ky,2⟩,⟨.int .i64 4,qv,3⟩,⟨.int .i64 5,kg,4⟩]
theorem TG (w:World)(o b:Obj):({(w.alloc o)with heap:=(w.alloc o).heap.setIfInBounds w.heap.size b}:World)=w.alloc b:=by
 have h:(w.heap.push o).setIfInBounds w.heap.size b=w.heap.push b:=by
  apply Array.ext';simp
 show({w with heap:=(w.heap.push o).setIfInBounds w.heap.size b}:World)={w with heap:=w.heap.push b}
 rw[h]
theorem nt (w:World)(es:List MapEntry)(c:Nat)(k:Int)(v:Value)(h:Instr.findNow (.int .i64) k es 0=some none):
 (Instr.mapUpdate 199 (.map (some w.heap.size)) k v).run prog (w.alloc (.map es.toArray c))= .ok () (w.alloc (.map (es++ [({key:= .int .i64 k,val:=v,born:=c}:MapEntry)]).toArray (c+1))):=by
 have b:(w.alloc (.map es.toArray c)).heap[w.heap.size]?=some (.map es.toArray c):=yM w _;have d:MapKept.IsKey (.int .i64) k:=by simp[MapKept.IsKey]
 simp[Instr.mapUpdate,xW underlying199,xQ b,xZ yF d,Zj yF h,MapKept.run_setObj_map _ b,Result.andThen];exact TG w _ _
theorem nw {es:List MapEntry}{c:Nat}(b:w.heap[g]?=some (.map es.toArray c))(k:Int)(v:Value)(i:Nat)(h:Instr.findNow (.int .i64) k es 0=some (some (i,v))):
 (Instr.lookup 199 (.map (some g)) k false).run prog w= .ok v w:=by
 have d:MapKept.IsKey (.int .i64) k:=by simp[MapKept.IsKey]
 simp[Instr.lookup,xW underlying199,xQ b,xZ yF d,Zj yF h,Result.andThen]
theorem TH (w:World):Calls prog 149 #[] w fun e w'=>e= .returned (.map (some w.heap.size))/\w'=w.alloc (.map Xg.toArray 5):=by
 have j:= @run_makeMap prog;have d:=nt w [] 0 1 l7 rfl;have c:=nt w [⟨.int .i64 1,l7,0⟩] 1 2 jK rfl;have i:=nt w [⟨.int .i64 1,l7,0⟩,⟨.int .i64 2,jK,1⟩] 2 3 ky rfl;have b:=nt w [⟨.int .i64 1,l7,0⟩,⟨.int .i64 2,jK,1⟩,⟨.int .i64 3,ky,2⟩] 3 4 qv rfl;have h:=nt w [⟨.int .i64 1,l7,0⟩,⟨.int .i64 2,jK,1⟩,⟨.int .i64 3,ky,2⟩,⟨.int .i64 4,qv,3⟩] 4 5 kg rfl;simp only[yo,zW,Nat.reduceAdd]at d c i b h;simp only[l7,jK,ky,qv,kg]at d c i b h;go_enter func149,ntmps149
 go_wp2;go_ret;exact⟨rfl,rfl⟩
theorem MM (k:Int):k=1\/k=2\/k=3\/k=4\/k=5\/(k≠1/\k≠2/\k≠3/\k≠4/\k≠5):=by omega
theorem agv (h:fH 1 s n t=false):(s≠1/\s≠2/\s≠4/\s≠8)\/((s=1\/s=2\/s=4\/s=8)/\n≠0)\/((s=1\/s=2\/s=4\/s=8)/\n=0/\t≠0):=by
 simp[fH]at h;omega
theorem agw (h:fH 2 s n t=false):s<1\/(1<=s/\65536<s)\/(1<=s/\s<=65536/\n≠0)\/(1<=s/\s<=65536/\n=0/\t≠0):=by
 simp[fH]at h;omega
theorem agx (h:fH 3 s n t=false):s<0\/(0<=s/\65536<s)\/(0<=s/\s<=65536/\n≠0)\/(0<=s/\s<=65536/\n=0/\t≠0):=by
 simp[fH]at h;omega
theorem agy (h:fH 4 s n t=false):s<0\/(0<=s/\1024<s)\/(0<=s/\s<=1024/\n≠1)\/(0<=s/\s<=1024/\n=1/\t≠0):=by
 simp[fH]at h;omega
theorem agz (h:fH 5 s n t=false):s≠0\/(s=0/\16<n)\/(s=0/\n<=16/\t<0)\/(s=0/\n<=16/\0<=t/\(n:Int)<t):=by
 simp[fH]at h;omega
theorem nb {a b:Int}(h:a≠b):(a==b)=false:=zp.2 h
theorem MN :∀(x:Ty) (B:Nat) (w:World) (c0 c1 c2 Z:Value),cq w B x c0 c1 c2 Z->B<=w.heap.size->
 Calls prog 59 #[.agg #[c0,c1,c2,Z]] w fun e w'=>e= .returned x.right/\(w,w'):=by
 intro x;induction x using Ty.ind with
 |h ki s l ta ih=>
  intro B w c0 c1 c2 Z h hB;obtain⟨rfl,rfl,rfl,qO,Cm,oc,hs,A,cap,rfl,nH,kr,cY⟩:=h;have W:=za ih;have L:=za cY;unfold mu at qO Cm oc;obtain⟨Ro,Rn⟩:=qO;obtain⟨Rl,Rk⟩:=Cm;obtain⟨Rm,JM⟩:=oc;clear ih cY;have r:Hid ((Ty.mk ki s l ta).right=(fH ki s l.length ta&&bQ l)):=za (by simp only[Ty.right]);generalize (Ty.mk ki s l ta).right=R at*;cases bE:fH ki s l.length ta with
  |true=>
   have hw:=ka bE;rcases hw with⟨rfl,K,d,rfl⟩|⟨rfl,h3,X,d,rfl⟩|⟨rfl,h3,X,d,rfl⟩|⟨rfl,h3,X,d,rfl⟩|⟨rfl,rfl,X,h5,h6⟩
   ·obtain rfl:l= []:=zo d;have c:Hid (R=true):=za (by rw[r.out,bE];rfl);clear r bE;rcases K with rfl|rfl|rfl|rfl;all_goals
     go_enter ym,yi
     go_wp2_with fail
     refine yc 1 ?_;rw[yk];go_wp2;go_ret;exact⟨by rw[c.out];rfl,bO⟩
   ·obtain rfl:l= []:=zo d;have c:Hid (R=true):=za (by rw[r.out,bE];rfl);clear r bE;go_enter ym,yi
    go_wp2_with fail
    refine yc 1 ?_;rw[yk];go_wp2;go_ret;exact⟨by rw[c.out];rfl,bO⟩
   ·obtain rfl:l= []:=zo d;have c:Hid (R=true):=za (by rw[r.out,bE];rfl);clear r bE;go_enter ym,yi
    go_wp2_with fail
    refine yc 1 ?_;rw[yk];go_wp2;go_ret;exact⟨by rw[c.out];rfl,bO⟩
   ·have c:Hid (R=bQ l):=za (by rw[r.out,bE];rfl);have y:((l.length:Int)==1)=true:=by simp[d]
    clear r bE d;go_enter ym,yi
    go_wp2_with fail
    go_loopw [3,5] (fun ok i wr=>∃(k:Nat) (b:Bool),k<=l.length/\i= .int .i64 k/\ok= .bool b/\Hid (bQ (l.take k)=b)/\(w,wr)/\(wr,w.heap.size,2,Value.slice A l.length cap)) (fun _ i _=>l.length-(intOf i).toNat)
    case atStart=>exact⟨0,true,by omega,rfl,rfl,za (by simp[bQ]),bO,by simp⟩
    case round=>
     obtain⟨k,b,hk,rfl,rfl,F,m,I⟩:=hrel;by_cases u:k<l.length
     ·cases b with
      |true=>
       obtain⟨b,o,d0,d1,d2,d3,rfl,gb,C,y,E,G,hi⟩:=L.out.at_ k u;simp only[zJ]at C y E G;replace C:=(m.cell (p:=(b,o+k*4)) (by simp;omega)).trans C;replace y:=(m.cell (p:=(b,o+k*4+1)) (by simp;omega)).trans y;replace E:=(m.cell (p:=(b,o+k*4+2)) (by simp;omega)).trans E;replace G:=(m.cell (p:=(b,o+k*4+3)) (by simp;omega)).trans G;have U:=m.size;have Y:=zD u;have O:=hi.below (m.mono hB);have M:=za (W.out _ Y B wr d0 d1 d2 d3 O (by omega));obtain⟨q,H⟩:∃q,l[k].right=q:=⟨_,rfl⟩
       rw[H]at M;have Hq:Hid (bQ (l.take (k+1))=q):=za (by rw[mJ l k u,F.out,H];rfl);clear H O hi;go_wp2_with fail
       refine M.out.mono ?_;rintro e w2 ⟨rfl,N⟩;have jY:=lt_of_cell I;have eo:=(N.cell (p:=(w.heap.size,2)) (by simp;omega)).trans I;have S:=m.trans (N.mono U);go_wp2;go_roundw
       case rel=>
        exact⟨k+1,q,by omega,by go_num,rfl,Hq,S,eo⟩
       case measure=>simp[intOf];omega
      |false=>
       have HN:Hid (bQ l=false):=za (by
        have j:=iw (l.take k) (l.drop k);rw[zH,F.out]at j;simpa using j)
       obtain⟨b0,o0,_,_,_,_,rfl,_⟩:=L.out.at_ k u;go_wp2;go_ret;exact⟨by rw[c.out,HN.out];rfl,m⟩
     have D:=F.out;rw[zx (by omega)]at D;have HM:=za D;clear D;go_wp2;go_ret;exact⟨by rw[c.out,HM.out];rfl,m⟩
   have c:Hid (R=bQ l):=za (by rw[r.out,bE];rfl);clear r bE;go_enter ym,yi
   go_wp2_with fail
   go_loopw [3,5] (fun ok i wr=>∃(k:Nat) (b:Bool),k<=l.length/\i= .int .i64 k/\ok= .bool b/\Hid (bQ (l.take k)=b)/\(w,wr)/\(wr,w.heap.size,2,Value.slice A l.length cap)) (fun _ i _=>l.length-(intOf i).toNat)
   case atStart=>exact⟨0,true,by omega,rfl,rfl,za (by simp[bQ]),bO,by simp⟩
   case round=>
    obtain⟨k,b,hk,rfl,rfl,F,m,I⟩:=hrel;by_cases u:k<l.length
    ·cases b with
     |true=>
      obtain⟨b,o,d0,d1,d2,d3,rfl,gb,C,y,E,G,hi⟩:=L.out.at_ k u;simp only[zJ]at C y E G;replace C:=(m.cell (p:=(b,o+k*4)) (by simp;omega)).trans C;replace y:=(m.cell (p:=(b,o+k*4+1)) (by simp;omega)).trans y;replace E:=(m.cell (p:=(b,o+k*4+2)) (by simp;omega)).trans E;replace G:=(m.cell (p:=(b,o+k*4+3)) (by simp;omega)).trans G;have U:=m.size;have Y:=zD u;have O:=hi.below (m.mono hB);have M:=za (W.out _ Y B wr d0 d1 d2 d3 O (by omega));obtain⟨q,H⟩:∃q,l[k].right=q:=⟨_,rfl⟩
      rw[H]at M;have Hq:Hid (bQ (l.take (k+1))=q):=za (by rw[mJ l k u,F.out,H];rfl);clear H O hi;go_wp2_with fail
      refine M.out.mono ?_;rintro e w2 ⟨rfl,N⟩;have jY:=lt_of_cell I;have eo:=(N.cell (p:=(w.heap.size,2)) (by simp;omega)).trans I;have S:=m.trans (N.mono U);go_wp2;go_roundw
      case rel=>
       exact⟨k+1,q,by omega,by go_num,rfl,Hq,S,eo⟩
      case measure=>simp[intOf];omega
     |false=>
      have HN:Hid (bQ l=false):=za (by
       have j:=iw (l.take k) (l.drop k);rw[zH,F.out]at j;simpa using j)
      obtain⟨b0,o0,_,_,_,_,rfl,_⟩:=L.out.at_ k u;go_wp2;go_ret;exact⟨by rw[c.out,HN.out];rfl,m⟩
    have D:=F.out;rw[zx (by omega)]at D;have HM:=za D;clear D;go_wp2;go_ret;exact⟨by rw[c.out,HM.out];rfl,m⟩
  |false=>
   have c:Hid (R=false):=za (by rw[r.out,bE];rfl);clear r L W;rcases MM ki with rfl|rfl|rfl|rfl|rfl|⟨n1,n2,n3,n4,n5⟩
   ·rcases agv bE with⟨m1,m2,m3,m4⟩|⟨K,d⟩|⟨K,d,n⟩
    ·have z:=nb m1;have J:=nb m2;have f3:=nb m3;have f4:=nb m4;clear bE m1 m2 m3 m4;go_enter ym,yi
     go_wp2_with fail
     refine yc 1 ?_;rw[yk];go_wp2;all_goals
      go_ret;exact⟨by rw[c.out];rfl,bO⟩
    ·have z:((l.length:Int)==0)=false:=nb (by omega);clear bE d;rcases K with rfl|rfl|rfl|rfl;all_goals
      go_enter ym,yi
      go_wp2_with fail
      refine yc 1 ?_;rw[yk];go_wp2;all_goals
       go_ret;exact⟨by rw[c.out];rfl,bO⟩
    obtain rfl:l= []:=zo d;have J:=nb n;clear bE n;rcases K with rfl|rfl|rfl|rfl;all_goals
     go_enter ym,yi
     go_wp2_with fail
     refine yc 1 ?_;rw[yk];go_wp2;all_goals
      go_ret;exact⟨by rw[c.out];rfl,bO⟩
   ·rcases agw bE with j|⟨j,h2⟩|⟨j,h2,d⟩|⟨j,h2,d,n⟩
    ·clear bE;go_enter ym,yi
     go_wp2_with fail
     refine yc 1 ?_;rw[yk];go_wp2;all_goals
      go_ret;exact⟨by rw[c.out];rfl,bO⟩
    ·clear bE;go_enter ym,yi
     go_wp2_with fail
     refine yc 1 ?_;rw[yk];go_wp2;all_goals
      go_ret;exact⟨by rw[c.out];rfl,bO⟩
    ·have z:((l.length:Int)==0)=false:=nb (by omega);clear bE d;go_enter ym,yi
     go_wp2_with fail
     refine yc 1 ?_;rw[yk];go_wp2;all_goals
      go_ret;exact⟨by rw[c.out];rfl,bO⟩
    obtain rfl:l= []:=zo d;have J:=nb n;clear bE n;go_enter ym,yi
    go_wp2_with fail
    refine yc 1 ?_;rw[yk];go_wp2;all_goals
     go_ret;exact⟨by rw[c.out];rfl,bO⟩
   ·rcases agx bE with j|⟨j,h2⟩|⟨j,h2,d⟩|⟨j,h2,d,n⟩
    ·clear bE;go_enter ym,yi
     go_wp2_with fail
     refine yc 1 ?_;rw[yk];go_wp2;all_goals
      go_ret;exact⟨by rw[c.out];rfl,bO⟩
    ·clear bE;go_enter ym,yi
     go_wp2_with fail
     refine yc 1 ?_;rw[yk];go_wp2;all_goals
      go_ret;exact⟨by rw[c.out];rfl,bO⟩
    ·have z:((l.length:Int)==0)=false:=nb (by omega);clear bE d;go_enter ym,yi
     go_wp2_with fail
     refine yc 1 ?_;rw[yk];go_wp2;all_goals
      go_ret;exact⟨by rw[c.out];rfl,bO⟩
    obtain rfl:l= []:=zo d;have J:=nb n;clear bE n;go_enter ym,yi
    go_wp2_with fail
    refine yc 1 ?_;rw[yk];go_wp2;all_goals
     go_ret;exact⟨by rw[c.out];rfl,bO⟩
   ·rcases agy bE with j|⟨j,h2⟩|⟨j,h2,d⟩|⟨j,h2,d,n⟩
    ·clear bE;go_enter ym,yi
     go_wp2_with fail
     refine yc 1 ?_;rw[yk];go_wp2;all_goals
      go_ret;exact⟨by rw[c.out];rfl,bO⟩
    ·clear bE;go_enter ym,yi
     go_wp2_with fail
     refine yc 1 ?_;rw[yk];go_wp2;all_goals
      go_ret;exact⟨by rw[c.out];rfl,bO⟩
    ·have z:((l.length:Int)==1)=false:=nb (by omega);clear bE d;go_enter ym,yi
     go_wp2_with fail
     refine yc 1 ?_;rw[yk];go_wp2;all_goals
      go_ret;exact⟨by rw[c.out];rfl,bO⟩
    have z:((l.length:Int)==1)=true:=by simp[d]
    have J:=nb n;clear bE n d;go_enter ym,yi
    go_wp2_with fail
    refine yc 1 ?_;rw[yk];go_wp2;all_goals
     go_ret;exact⟨by rw[c.out];rfl,bO⟩
   ·rcases agz bE with j|⟨rfl,h2⟩|⟨rfl,h2,n⟩|⟨rfl,h2,n,GX⟩
    ·have z:=nb j;clear bE j;go_enter ym,yi
     go_wp2_with fail
     refine yc 1 ?_;rw[yk];go_wp2;all_goals
      go_ret;exact⟨by rw[c.out];rfl,bO⟩
    ·clear bE;go_enter ym,yi
     go_wp2_with fail
     refine yc 1 ?_;rw[yk];go_wp2;all_goals
      go_ret;exact⟨by rw[c.out];rfl,bO⟩
    ·clear bE;go_enter ym,yi
     go_wp2_with fail
     refine yc 1 ?_;rw[yk];go_wp2;all_goals
      go_ret;exact⟨by rw[c.out];rfl,bO⟩
    have z:decide (ta<=(l.length:Int))=false:=zv (by omega);clear bE;go_enter ym,yi
    go_wp2_with fail
    refine yc 1 ?_;rw[yk];go_wp2;all_goals
     go_ret;exact⟨by rw[c.out];rfl,bO⟩
   have z:=nb n1;have J:=nb n2;have f3:=nb n3;have f4:=nb n4;have f5:=nb n5;clear bE n1 n2 n3 n4 n5;go_enter ym,yi
   go_wp2_with fail
   refine yc 1 ?_;rw[yk];go_wp2;all_goals
    go_ret;exact⟨by rw[c.out];rfl,bO⟩
theorem KB (x:Ty)(B:Nat)(w:World)(k j i d:Value)(h:cq w B x k j i d)(M:B<=w.heap.size)(N:x.count<=4611686018427387904):
 Calls prog 44 #[.agg #[k,j,i,d]] w fun e w'=>e= .returned x.may/\(w,w'):=by
 have J:=LU x;have o:cq (w.alloc (.cells #[k,j,i,d] 70)) B x k j i d:=h.below (blm M);have p:=za (C' x B _ k j i d o (by simp;omega) (by omega));have u:=za (fun c b hz=>FF x B c k j i d (cq.below o b) hz (by omega));have H:=za (fun c b hz=>MN x B c k j i d (cq.below o b) hz);have l:Hid (x.may=(decide (x.count<=64)&&decide (x.deep<=8)&&x.right)):=za rfl;obtain⟨r,y⟩:∃r,x.right=r:=⟨_,rfl⟩
 obtain⟨I,hd⟩:∃q,x.deep=q:=⟨_,rfl⟩
 obtain⟨q,z⟩:∃q,x.count=q:=⟨_,rfl⟩
 rw[y,z,hd]at l;rw[z]at p;rw[hd]at u;rw[y]at H;obtain⟨A,cap,rfl,rfl,rfl,rfl,_⟩:=h.open_;clear y z hd J o h N;generalize x.may=R at*;generalize x.kind=U at*;generalize x.size=X at*;generalize x.tail=O at*;by_cases D:q<=64
 ·by_cases G:I<=8
  ·have n:Hid (R=r):=za (by rw[l.out];simp[G,D]);clear l;go_enter func44,ntmps44
   go_wp2_with fail
   refine p.out.mono ?_;rintro e c ⟨rfl,b⟩;obtain⟨g0,g1,g2,g3⟩:=Mr (by simpa using b);have s:=b.size;simp only[zt]at s;have C:=(yD (zm w.heap.size w) (zd _) _).trans (b.mono (by simp));go_wp2_with fail
   refine(u.out c (b.mono (by simp;omega)) (by omega)).mono ?_;rintro e E ⟨rfl,m⟩;have F:=b.trans (m.mono (by simp;omega));have S:=m.size;obtain⟨W,k1,k2,Y⟩:=Mr (by simpa using F);have K:=C.trans (m.mono (by omega));go_wp2_with fail
   refine(H.out E (F.mono (by simp;omega)) (by omega)).mono ?_;rintro e w3 ⟨rfl,L⟩;go_wp2;go_ret;exact⟨by rw[n.out];rfl,K.trans (L.mono (by omega))⟩
  have n:Hid (R=false):=za (by rw[l.out];simp[G]);clear l;go_enter func44,ntmps44
  go_wp2_with fail
  refine p.out.mono ?_;rintro e c ⟨rfl,b⟩;obtain⟨g0,g1,g2,g3⟩:=Mr (by simpa using b);have s:=b.size;simp only[zt]at s;have C:=(yD (zm w.heap.size w) (zd _) _).trans (b.mono (by simp));go_wp2_with fail
  refine(u.out c (b.mono (by simp;omega)) (by omega)).mono ?_;rintro e E ⟨rfl,m⟩;go_wp2;go_ret;exact⟨by rw[n.out];rfl,C.trans (m.mono (by omega))⟩
 have n:Hid (R=false):=za (by rw[l.out];simp[D]);clear l;go_enter func44,ntmps44
 go_wp2_with fail
 refine p.out.mono ?_;rintro e c ⟨rfl,b⟩;go_wp2;go_ret;exact⟨by rw[n.out];rfl,(yD (zm _ _) (zd _) _).trans (b.mono (by simp))⟩
theorem vN (s:List It)(k:Nat):aC (s.take k)<=aC s:=by
 have:=ov (s.take k) (s.drop k);rw[zH]at this;omega
theorem Xh :∀(x:It) (B:Nat) (w:World) (H G E:Value),bI w B x H G E->B<=w.heap.size->∀left:Int,0<left->left<=4611686018427387904->
 Calls prog 22 #[.agg #[H,G,E],left] w fun e w'=>e= .returned (.int .i64 (x.room left))/\(w,w'):=by
 intro x;induction x using It.ind with
 |h t l s ih=>
  intro B w H G E h hB left Ag Rq;obtain⟨rfl,rfl,ht,hs,A,cap,rfl,nH,kr,I⟩:=h;have W:=za ih;have L:=za I;clear ih I;have J:Hid ((It.mk t l s).room left=max (cI s (left-1)) 0):=za (by simp only[It.room]);have HB:=za (fun k=>Ey (s.take k) (fun x _=>CI x) (left-1) (by omega));generalize (It.mk t l s).room left=R at*;go_enter func22,ntmps22
  go_wp2_with fail
  go_loopw [1,5] (fun n i wr=>∃(k:Nat) (m:Int),k<=s.length/\i= .int .i64 k/\Hid (m=cI (s.take k) (left-1))/\0<=m/\m<=left-1/\n= .int .i64 m/\(w,wr)/\(wr,w.heap.size,2,Value.slice A s.length cap)) (fun _ i _=>s.length-(intOf i).toNat)
  case atStart=>exact⟨0,left-1,by omega,rfl,za (by simp[cI]),by omega,by omega,rfl,bO,by simp⟩
  case round=>
   obtain⟨k,m,hk,rfl,j,DZ,Uw,rfl,c,K⟩:=hrel;by_cases y:k<s.length
   ·by_cases D:0<m
    ·obtain⟨b,o,d0,d1,d2,rfl,gb,z,F,C,hi⟩:=L.out.at_ k y;simp only[zJ]at z F C;replace z:=(c.cell (p:=(b,o+k*3)) (by simp;omega)).trans z;replace F:=(c.cell (p:=(b,o+k*3+1)) (by simp;omega)).trans F;replace C:=(c.cell (p:=(b,o+k*3+2)) (by simp;omega)).trans C;have X:=c.size;have Z:=zD y;have U:=hi.below (c.mono hB);have u:=Hu s k y (left-1) (by rw[<-j.out];exact D);have O:=CI s[k] m D;rw[<-j.out]at u;obtain⟨q,S⟩:∃q,s[k].room m=q:=⟨_,rfl⟩
     have M:=za (W.out _ Z B wr d0 d1 d2 U (by omega) m D (by omega));rw[S]at M u O;have Hq:Hid (q=cI (s.take (k+1)) (left-1)):=za u.symm;obtain⟨aa,ad⟩:=O;clear u S U hi;go_wp2_with fail
     refine M.out.mono ?_;rintro e w2 ⟨rfl,N⟩;have jY:=lt_of_cell K;have eo:=(N.cell (p:=(w.heap.size,2)) (by simp;omega)).trans K;have Y:=c.trans (N.mono X);go_wp2;go_roundw
     case rel=>exact⟨k+1,q,by omega,by go_num,Hq,aa,by omega,rfl,Y,eo⟩
     case measure=>simp[intOf];omega
    have d:=Bu s k (left-1) (.inl (by rw[<-j.out];omega));have r:Hid (R=0):=za (by rw[J.out,d,<-j.out];omega);have ab:m<=0:=by omega
    obtain⟨b0,o0,_,_,_,rfl,_⟩:=L.out.at_ k y;clear d;go_wp2;all_goals
     go_ret;exact⟨by first|(rw[r.out];rfl)|(show Ending.returned m=_;rw[r.out,show m=0 from by omega]),c⟩
   have d:=Bu s k (left-1) (.inr (by omega));have r:Hid (R=m):=za (by rw[J.out,d,<-j.out];omega);clear d;go_wp2;all_goals
    go_ret;exact⟨by first|(show Ending.returned m=_;rw[r.out])|(rw[r.out,show m=0 from by omega];rfl),c⟩
theorem Xi :∀(x:It) (B:Nat) (w:World) (F D C:Value),bI w B x F D C->B<=w.heap.size->
 Calls prog 23 #[.agg #[F,D,C]] w fun e w'=>e= .returned x.oY/\(w,w'):=by
 intro x;induction x using It.ind with
 |h t l s ih=>
  intro B w F D C h Z;obtain⟨rfl,rfl,ht,hs,A,cap,rfl,nH,kr,H⟩:=h;have U:=za ih;have Y:=za H;clear ih H;obtain⟨c,E⟩:∃c,min t.size 10000=c:=⟨_,rfl⟩
  have O:Hid ((It.mk t l s).oY=gF s c):=za (by simp only[It.oY,E]);have pG:c<=10000:=by omega
  have HN:=za E;clear E;generalize (It.mk t l s).oY=R at*;rcases Nat.lt_trichotomy t.size 10000 with nJ|nJ|nJ;all_goals
   have G2:Hid (min t.size 10000=c):=HN;go_enter func23,ntmps23
   go_wp2_with fail
   go_loopw [3,4] (fun n i wr=>∃k m:Nat,k<=s.length/\i= .int .i64 k/\Hid (m=gF (s.take k) c)/\m<=10000/\n= .int .i64 m/\(w,wr)/\(wr,w.heap.size,2,Value.slice A s.length cap)) (fun _ i _=>s.length-(intOf i).toNat)
   case atStart=>
    refine⟨0,c,by omega,rfl,za (by simp[gF]),by omega, ?_,bO,by simp⟩;have hh:=G2.out;rcases(show(t.size:Int)=c\/(10000:Int)=c from by omega)with hx|hx
    ·(rw[<-hx])<;>first|rfl|(rw[show(t.size:Int)=10000 from by omega])
    (rw[<-hx])<;>first|rfl|(rw[show(t.size:Int)=10000 from by omega])
   case round=>
    obtain⟨k,m,hk,rfl,J,ab,rfl,d,I⟩:=hrel;by_cases G:k<s.length
    ·obtain⟨b,o,d0,d1,d2,rfl,gb,u,z,y,hi⟩:=Y.out.at_ k G;simp only[zJ]at u z y;replace u:=(d.cell (p:=(b,o+k*3)) (by simp;omega)).trans u;replace z:=(d.cell (p:=(b,o+k*3+1)) (by simp;omega)).trans z;replace y:=(d.cell (p:=(b,o+k*3+2)) (by simp;omega)).trans y;have W:=d.size;have X:=zD G;have N:=hi.below (d.mono Z);have r:=Hv s k G c;have aa:=SZ s[k];have j:=J.out;obtain⟨q,M⟩:∃q,s[k].oY=q:=⟨_,rfl⟩
     have K:=za (U.out _ X B wr d0 d1 d2 N (by omega));rw[M]at K r aa;rw[<-j]at r;have Hq:=za r;clear r j M N hi;rcases(show m+q<10000\/(m+q<=10000/\10000<=m+q)\/10000<m+q from by omega)with hx|⟨hx,hx2⟩|hx;all_goals
      go_wp2_with fail
      refine K.out.mono ?_;rintro e w2 ⟨rfl,L⟩;have jY:=lt_of_cell I;have eo:=(L.cell (p:=(w.heap.size,2)) (by simp;omega)).trans I;have S:=d.trans (L.mono W);go_wp2;all_goals
       go_roundw
       case rel=>
        refine⟨k+1,min (m+q) 10000,by omega,by go_num,za Hq.out.symm,by omega, ?_,S,eo⟩;first
         |(rw[show min (m+q) 10000=m+q from by omega];go_num)
         |(rw[show min (m+q) 10000=10000 from by omega];rfl)
         |(rw[show((min (m+q) 10000:Nat):Int)=if(10000:Int)<(m:Int)+q then 10000 else(m:Int)+q from by split<;>omega])
       case measure=>simp[intOf];omega
    have j:=J.out;rw[zx (by omega)]at j;have HM:=za j;clear j;go_wp2;go_ret;exact⟨by show Ending.returned m=_;rw[HM.out,O.out],d⟩
theorem BZ (w:World)(T:TypeId)(d h e:Value)(b:World)(c:Below (w.heap.size+1) (w.alloc (.cells #[d,h,e] T)) b):
 (b,w.heap.size,0,d)/\(b,w.heap.size,1,h)/\(b,w.heap.size,2,e):=by
 refine⟨?_, ?_, ?_⟩
 ·rw[c.cell (by simp)];simp
 ·rw[c.cell (by simp)];simp
 rw[c.cell (by simp)];simp
theorem TJ (x:It)(B:Nat)(w:World)(i d c:Value)(h:bI w B x i d c)(z:B<=w.heap.size):
 Calls prog 8 #[.agg #[i,d,c]] w fun e w'=>e= .returned x.pU/\(w,w'):=by
 have m:bI (w.alloc (.cells #[i,d,c] 28)) B x i d c:=h.below (blm z);have n:=za (Xh x B _ i d c m (by simp;omega) 1200 (by omega) (by omega));have s:=za (fun j b=>Xi x B j i d c (bI.below m b));have k:Hid (x.pU=(decide (x.room 1200=0)||decide (6000<x.oY))):=za rfl;obtain⟨r,l⟩:∃r,x.room 1200=r:=⟨_,rfl⟩
 obtain⟨q,o⟩:∃q,x.oY=q:=⟨_,rfl⟩
 rw[l,o]at k;rw[l]at n;rw[o]at s;obtain⟨A,cap,rfl,rfl,rfl,_⟩:=h.open_;clear l o m h;generalize x.pU=R at*;by_cases hz:r=0
 ·have y:(r==0)=true:=by simp[hz]
  have p:Hid (R=true):=za (by rw[k.out];simp[hz]);clear hz k;go_enter func8,ntmps8
  go_wp2_with fail
  refine n.out.mono ?_;rintro e j ⟨rfl,b⟩;go_wp2;go_ret;exact⟨by rw[p.out];rfl,(yD (zm _ _) (zd _) _).trans (b.mono (by simp))⟩
 have y:(r==0)=false:=by simp[hz]
 have p:Hid (R=decide (6000<q)):=za (by rw[k.out];simp[hz]);clear hz k;go_enter func8,ntmps8
 go_wp2_with fail
 refine n.out.mono ?_;rintro e j ⟨rfl,b⟩;obtain⟨g0,g1,g2⟩:=BZ w 28 _ _ _ j (by simpa using b);have u:=b.size;simp only[zt]at u;have E:Below B (w.alloc (.cells #[x.text,x.list,.slice A x.sub.length cap] 28)) j:=b.mono (by simp;omega);have D:=(yD (zm w.heap.size w) (zd _) _).trans (b.mono (by simp));go_wp2_with fail
 refine(s.out j E (by omega)).mono ?_;rintro e F ⟨rfl,C⟩;go_wp2;all_goals
  go_ret;refine⟨?_,D.trans (C.mono (by omega))⟩;rw[p.out];first|rfl|(rw[show decide (6000<q)=true from by simp;omega];rfl)|(rw[show decide (6000<q)=false from by simp;omega];rfl)|(show Ending.returned (.bool (decide ((6000:Int)<q)))=_;rw[show decide ((6000:Int)<q)=decide (6000<q)from by simp only[decide_eq_decide];omega])
theorem PR (t:ByteArray)(l:Bool)(A:Option Addr)(n cap:Nat)(w:World)(h:n<=9223372036854775807):
 Calls prog 76 #[.agg #[t,l,.slice A n cap]] w fun e w'=>e= .returned (.bool (formed t l n))/\(w,w'):=by
 cases l with
 |true=>
  rcases fU t with⟨hz,rfl⟩|⟨hz,d,i⟩
  ·have b:Hid (formed ⟨#[]⟩ true n=true):=za rfl;generalize formed ⟨#[]⟩ true n=R at*;clear hz;go_enter func76,ntmps76
   go_wp2;go_ret;exact⟨by rw[b.out];rfl,bO⟩
  have b:Hid (formed t true n=false):=za (by simp[formed,hz]);generalize formed t true n=R at*;clear hz;go_enter func76,ntmps76
  go_wp2;go_ret;exact⟨by rw[b.out];rfl,bO⟩
 |false=>
  by_cases c:n=0
  ·have b:Hid (formed t false n=true):=za (by simp[formed,c]);generalize formed t false n=R at*;go_enter func76,ntmps76
   go_wp2;go_ret;exact⟨by rw[b.out];rfl,bO⟩
  have b:Hid (formed t false n=false):=za (by simp[formed,c]);have j:((n:Int)==0)=false:=zp.2 (by omega);generalize formed t false n=R at*;clear c;go_enter func76,ntmps76
  go_wp2;go_ret;exact⟨by rw[b.out];rfl,bO⟩
theorem IP (t:ByteArray)(l:Bool)(A:Option Addr)(n cap:Nat)(w:World):
 Calls prog 156 #[.agg #[t,l,.slice A n cap]] w fun e w'=>e= .returned true/\(w,w'):=by
 go_enter func156,ntmps156
 go_wp2;go_ret;exact⟨rfl,bO⟩
def Vo (fv:Value)(x:It):Prop:=fv= .func (.func 76) #[] #[]\/fv= .func (.func 156) #[] #[]/\x.right=true
structure AH (fv:Value)(w:World)(cb eb db vb c d:Nat):Prop where
 kI:ag w cb 3 #[c]
 each:ag w eb 33 #[fv]
 dp:ag w db 3 #[d]
 gQ:ag w vb 163 #[.func (.func 106) #[] #[(cb,0),(eb,0),(db,0),(vb,0)]]
theorem AH.below {i:Value}{w':World}{cb k j c:Nat}(h:AH i w cb e k j c d)(b:Below w.heap.size w w'):AH i w' cb e k j c d:=
 ⟨h.kI.only (ae.ai b (zd _)) (by simp),h.each.only (ae.ai b (zd _)) (by simp),h.dp.only (ae.ai b (zd _)) (by simp),h.gQ.only (ae.ai b (zd _)) (by simp)⟩
theorem ag.Vp {c:Nat}{t d:TypeId}{j i:Array Value}(h:ag w g t j)(b:ag w c d i)(e:t≠d):g≠c:=by
 rintro rfl;unfold ag at h b;rw[h]at b;injection b with b;injection b with _ ht;exact e ht
theorem AH.step {k:Value}{cb i b l c m:Nat}{u v:Int}(h:AH k w cb i b l c d)(j:cb≠b)(hu:u=(e:Int))(q:v=(m:Int)):AH k ((w.setCell ⟨cb,0,none⟩ (.int .i64 u)).setCell ⟨b,0,none⟩ (.int .i64 v)) cb i b l e m:=by
 subst hu;subst q;have n1:=h.kI.Vp h.each (by decide);have n2:=h.kI.Vp h.gQ (by decide);have n:=h.dp.Vp h.each (by decide);have o:=h.dp.Vp h.gQ (by decide);exact⟨ag.dE (show ag _ _ _ _ from one_setCell h.kI) (p:=⟨b,0,none⟩) j _,(h.each.dE (p:=⟨cb,0,none⟩) n1.symm _).dE (p:=⟨b,0,none⟩) n.symm _,one_setCell (h.dp.dE (p:=⟨cb,0,none⟩) j.symm _),(h.gQ.dE (p:=⟨cb,0,none⟩) n2.symm _).dE (p:=⟨b,0,none⟩) o.symm _⟩
theorem TK :∀(x:It) (B:Nat) (w:World) (c0 c1 z:Value),bI w B x c0 c1 z->B<=w.heap.size->∀(q:Value),Vo q x->∀(cb y m u j c d:Nat),AH q w cb y m u c d->B<=cb->B<=m->cb≠m->1<=j->j<=17->c<=1024->d<=17->
 Calls prog 106 #[.agg #[c0,c1,z],j,(cb,0),(y,0),(m,0),(u,0)] w fun e w'=>
  e= .returned (.bool (x.gQ j c d).1)/\AH q w' cb y m u (x.gQ j c d).2.1 (x.gQ j c d).2.2/\ae [cb,m] w w':=by
 intro x;induction x using It.ind with
 |h t l s ih=>
  intro B w c0 c1 z h hB q Z cb y m u j c d n ai ah ad au aq hc hd;obtain⟨rfl,rfl,ht,hs,A,cap,rfl,nH,kr,cY⟩:=h;have IH:=za ih;have HS:=za cY;clear ih cY;have n1:=n.kI.Vp n.each (by decide);have n2:=n.kI.Vp n.gQ (by decide);have n3:=n.dp.Vp n.each (by decide);have n4:=n.dp.Vp n.gQ (by decide);have q1:w.cell? (cb,0)=some (.int .i64 c):=zX n.kI;have q2:w.cell? (y,0)=some q:=zX n.each;have U:=za n;have l1:=n.kI.lt;have l2:=n.each.lt;have l4:=n.gQ.lt;have C:Hid ((It.mk t l s).gQ j c d=if 16<j\/c=1024\/formed t l s.length=false then(false,c,d)else fW s (j+1) (c+1) (max d j)):=za (by simp only[It.gQ]);generalize (It.mk t l s).gQ j c d=R at*;clear n;by_cases h1:16<j
  ·have r:Hid (R=(false,c,d)):=za (by rw[C.out,zj (.inl h1)]);clear C;go_enter func106,ntmps106
   go_wp2;go_ret;rw[r.out];exact⟨rfl,U.out.below bO,CM⟩
  by_cases S:c=1024
  ·have e1:((c:Int)==1024)=true:=by simp;omega
   have r:Hid (R=(false,c,d)):=za (by rw[C.out,zj (.inr (.inl S))]);clear C S;go_enter func106,ntmps106
   go_wp2;go_ret;rw[r.out];exact⟨rfl,U.out.below bO,CM⟩
  have e1:((c:Int)==1024)=false:=zp.2 (by omega);have ag:=za Z;have wU:(q= .func (.func 76) #[] #[]/\Hid (Calls prog 76 #[.agg #[t,l,.slice A s.length cap]] (w.alloc (.cells #[t,l,.slice A s.length cap] 28)) fun e w'=>e= .returned (.bool (formed t l s.length))/\Below (w.alloc (.cells #[t,l,.slice A s.length cap] 28)).heap.size (w.alloc (.cells #[t,l,.slice A s.length cap] 28)) w'))\/
   (q= .func (.func 156) #[] #[]/\Hid (Calls prog 156 #[.agg #[t,l,.slice A s.length cap]] (w.alloc (.cells #[t,l,.slice A s.length cap] 28)) fun e w'=>e= .returned (.bool (formed t l s.length))/\Below (w.alloc (.cells #[t,l,.slice A s.length cap] 28)).heap.size (w.alloc (.cells #[t,l,.slice A s.length cap] 28)) w')):=by
   rcases Z with h|⟨h,hx⟩
   ·exact .inl ⟨h,za (PR t l A s.length cap _ hs)⟩
   exact .inr ⟨h,za (by rw[(mP hx).1];exact IP t l A s.length cap _)⟩
  clear Z;rcases wU with⟨al,G⟩|⟨al,G⟩;all_goals
   cases hf:formed t l s.length with
   |false=>
    rw[hf]at G;have r:Hid (R=(false,c,d)):=za (by rw[C.out,zj (.inr (.inr hf))]);clear C hf S;go_enter func106,ntmps106
    go_wp2_with fail
    refine G.out.mono ?_;rintro e D ⟨rfl,hb⟩;go_wp2;go_ret;rw[r.out];have K:Below w.heap.size w D:=(yD (zm _ _) (zd _) _).trans (hb.mono (by simp));exact⟨rfl,U.out.below K,(ae.ai K (zd _)).mono (by simp)⟩
   |true=>
    rw[hf]at G;have r:Hid (R=fW s (j+1) (c+1) (max d j)):=za (by rw[C.out,zi (by rw[hf];simp;omega)]);have pJ:c<=1023:=by omega
    clear C hf S;obtain⟨M,hM⟩:∃M,max d j=M:=⟨_,rfl⟩
    rcases Nat.lt_trichotomy d j with hx|hx|hx;all_goals
     rw[hM]at r;have HM:=za hM;clear hM;go_enter func106,ntmps106
     go_wp2_with fail
     refine G.out.mono ?_;rintro e D ⟨rfl,kG⟩;obtain⟨g0,g1,g2⟩:=BZ w 28 _ _ _ D (by simpa using kG);have K:Below w.heap.size w D:=(yD (zm _ _) (zd _) _).trans (kG.mono (by simp));have H:=U.out.below K;have p1:D.cell? ⟨cb,0,none⟩=some (.int .i64 c):=zX H.kI;have ar:D.frozen? ⟨cb,0,none⟩=false:=Zr H.kI;have p3:D.cell? ⟨m,0,none⟩=some (.int .i64 d):=zX H.dp;have an:D.frozen? ⟨m,0,none⟩=false:=Zr H.dp;have Cn:=za H;clear H kG q1 q2 G;go_wp2_with fail
     all_goals
      go_loopw [31] (fun i wr=>∃k E F:Nat,k<=s.length/\i= .int .i64 k/\Hid (fW (s.take k) (j+1) (c+1) M=(true,E,F))/\AH q wr cb y m u E F/\ae [cb,m] w wr/\E<=1024/\F<=17) (fun i _=>s.length-(intOf i).toNat)
      case atStart=>
       refine⟨0,c+1,M,by omega,rfl,za (by simp[fW]),Cn.out.step ad (by omega) (by have:=HM.out;omega), ?_,by omega,by have:=HM.out;omega⟩;exact(((ae.ai K (zd _)).mono (by simp)).setCell (by simp) _).setCell (by simp) _
      case round=>
       obtain⟨k,E,F,hk,rfl,YG,ab,I,SE,aj⟩:=hrel;have q4:wr.cell? (u,0)=some (.func (.func 106) #[] #[(cb,0),(y,0),(m,0),(u,0)]):=zX ab.gQ;have W:Below B w wr:=I.below hB (by simp;omega);have Sw:=I.size;have ao:u<wr.heap.size:=by omega
       have SD:=za ab;clear ab;by_cases O:k<s.length
       ·obtain⟨b,o,d0,d1,d2,rfl,gb,e0,qR,e2,hi⟩:=HS.out.at_ k O;simp only[zJ]at e0 qR e2;replace e0:=(W.cell (p:=(b,o+k*3)) gb).trans e0;replace qR:=(W.cell (p:=(b,o+k*3+1)) gb).trans qR;replace e2:=(W.cell (p:=(b,o+k*3+2)) gb).trans e2;obtain⟨A2,cap2,rfl,rfl,rfl,_⟩:=hi.open_;have gU:=zD O;have lp:=hi.below W;have aa:=SD.out.below (yD (zm _ wr) (zd _) (.cells #[.string s[k].text,.bool s[k].list,.slice A2 s[k].sub.length cap2] 28));have HC:=za (IH.out _ gU B (wr.alloc (.cells #[.string s[k].text,.bool s[k].list,.slice A2 s[k].sub.length cap2] 28)) _ _ _ (lp.below (yD (zm _ _) (by omega) _)) (by simp;omega) q (ag.out.imp id (fun h=>⟨h.1,lF h.2 k O⟩)) cb y m u (j+1) E F aa ai ah ad (by omega) (by omega) SE aj);have X:=(Ib s[k] (j+1) E F (by omega) SE).2.2;obtain⟨⟨af,z,Y⟩,J⟩:∃T,s[k].gQ (j+1) E F=T:=⟨_,rfl⟩
        rw[J]at HC X;have ak:z<=1024/\Y<=17:=by simp at X;omega
        obtain⟨Lm,tW⟩:=ak;have e9:(j:Int)+1=((j+1:Nat):Int):=by omega
        have E9:=za e9;cases af with
        |true=>
         have L:Hid (fW (s.take (k+1)) (j+1) (c+1) M=(true,z,Y)):=za (by rw[BE O YG.out,J]);clear hi lp aa J X e9;go_wp2_with fail
         rw[E9.out];refine HC.out.mono ?_;rintro e w2 ⟨rfl,oR,N⟩;have JN:ae [cb,m] w w2:=(I.alloc _).trans N;clear N;go_wp2;go_roundw
         case rel=>exact⟨k+1,z,Y,by omega,by go_num,L,oR,JN,Lm,tW⟩
         case measure=>simp[intOf];omega
        |false=>
         have L:Hid (fW s (j+1) (c+1) M=(false,z,Y)):=za (L5 O YG.out J);clear hi lp aa J X e9;go_wp2_with fail
         rw[E9.out];refine HC.out.mono ?_;rintro e w2 ⟨rfl,oR,N⟩;have JN:ae [cb,m] w w2:=(I.alloc _).trans N;clear N;go_wp2;go_ret;rw[r.out,L.out];exact⟨rfl,oR,JN⟩
       have JO:=YG.out;rw[zx (by omega)]at JO;have L:=za JO;clear JO;go_wp2;go_ret;rw[r.out,L.out];exact⟨rfl,SD.out,I⟩
