/- The document's Same, of items. -/
import Derived.Test.YtimoclkoflamkaaGreatDoorKA11
import Derived.StillTailTactics
import Derived.Deep.DeepCutAuto
set_option linter.all false
set_option maxRecDepth 100000
set_option maxHeartbeats 4000000
open Go.Proofs.Tryz
namespace Go.Proofs.YtimoclkoflamkaaGreatDoor
open Go.RowKit
variable {s:ByteArray}{p L n g a d p' L' f q j i X:Nat}{w V V':World}{l:List UInt8}
def yu:=@results123
def yx:=@results197
def xJ:=@ntmps123
def xP:=@func123
def Yb:=@ntmps197
def Yj:=@ntmps42
def Yk:=@func197
def jL (a b:It)(e:Ending):Prop:=∃r:Bool,e= .returned r/\(r=true↔a=b)
theorem jL.no {a b:It}(h:a≠b):jL a b (.returned false):=⟨false,rfl,by simp[h]⟩
theorem jL.yes {a b:It}(h:a=b):jL a b (.returned true):=⟨true,rfl,by simp[h]⟩
theorem IQ {s b:List It}(c:s.length=b.length)(h:∀j (e:j<s.length) (d:j<b.length),s[j]=b[j]):s=b:=List.ext_getElem c h
theorem MO :∀(x:It) (B:Nat) (w:World) (S O N:Value),bI w B x S O N->B<=w.heap.size->∀(y:It) (u r z:Value),bI w B y u r z->
 Calls prog 42 #[.agg #[S,O,N],.agg #[u,r,z]] w fun e w'=>jL x y e/\(w,w'):=by
 intro x;induction x using It.ind with
 |h t l s ih=>
  intro B w S O N h hB y u r z hy;obtain⟨rfl,rfl,ht,hs,A,cap,rfl,nH,kr,Z⟩:=h;have IH:=za ih;have HS:=za Z;clear ih Z;obtain⟨Y,X,c⟩:=y;obtain⟨rfl,rfl,aj,Oi,R,K,rfl,ao,al,VN⟩:=hy;have af:=za VN;clear VN;by_cases m:l=X
  ·subst m;have E:(l !=l)=false:=by simp
   have F:(l==l)=true:=by simp
   rcases pO t Y with⟨rfl,q1,q2⟩|⟨bY,q1,q2⟩
   ·by_cases q:s.length=c.length
    ·have H3:=za q;have e3:((s.length:Int) !=(c.length:Int))=false:=by simp[q]
     have ae:(s.length !=c.length)=false:=by simp[q]
     clear q;go_enter func42,Yj
     go_wp2_with fail
     go_loopw [5] (fun i wr=>∃k:Nat,k<=s.length/\i= .int .i64 k/\Hid (∀j (m:j<s.length) (C:j<c.length),j<k->s[j]=c[j])/\(w,wr)/\ag wr w.heap.size 28 #[t,l,.slice A s.length cap]/\ag wr (w.heap.size+1) 28 #[t,l,.slice R c.length K]) (fun i _=>s.length-(intOf i).toNat)
     case atStart=>exact⟨0,by omega,rfl,za (by omega),bO,(ag.new w _ _).alloc _,by have:=ag.new (w.alloc (.cells #[t,l,.slice A s.length cap] 28)) 28 #[t,l,.slice R c.length K];simpa using this⟩
     case round=>
      obtain⟨k,hk,rfl,aa,d,M,D⟩:=hrel;have g1:wr.cell? (w.heap.size,2)=some (.slice A s.length cap):=M.cell 2;have g2:wr.cell? (w.heap.size+1,2)=some (.slice R c.length K):=D.cell 2;have Rq:=D.lt;have K1:=za M;have K2:=za D;clear M D;by_cases aD:k<s.length
      ·have YH:k<c.length:=by have:=H3.out;omega
       obtain⟨b,o,u,r,z,rfl,gb,H,E,J,hi⟩:=HS.out.at_ k aD;obtain⟨L,U,ab,ai,ad,rfl,ak,W,F,I,DF⟩:=af.out.at_ k YH;simp only[zJ]at H E J W F I;replace H:=(d.cell (p:=(b,o+k*3)) (by simp;omega)).trans H;replace E:=(d.cell (p:=(b,o+k*3+1)) (by simp;omega)).trans E;replace J:=(d.cell (p:=(b,o+k*3+2)) (by simp;omega)).trans J;replace W:=(d.cell (p:=(L,U+k*3)) (by simp;omega)).trans W;replace F:=(d.cell (p:=(L,U+k*3+1)) (by simp;omega)).trans F;replace I:=(d.cell (p:=(L,U+k*3+2)) (by simp;omega)).trans I;have iA:=d.size;have gU:=zD aD;have HC:=za (IH.out _ gU B wr.drew u r z ((hi.below (d.mono hB)).below (zm _ _).drew) (by simp;omega) _ ab ai ad ((DF.below (d.mono hB)).below (zm _ _).drew));clear hi DF;go_wp2_with fail
       go_still_tail 10,(by kernel_rfl)
       change wpList _ _ _ _ _ wr.drew
       go_wp2_with fail
       refine HC.out.mono ?_;rintro e w2 ⟨⟨ah,rfl,hr⟩,aI⟩;have HR:=za hr;have G:=za aI;clear hr aI;cases ah with
       |true=>
        go_wp2;go_roundw
        case rel=>
         refine⟨k+1,by omega,by go_num,za fun j m C hj=> ?_,d.drew.trans (G.out.mono (by simpa using iA)),K1.out.drew.ah G.out (by simp;omega),K2.out.drew.ah G.out (by simpa using Rq)⟩;by_cases Om:j=k
         ·subst Om;exact HR.out.1 (by simp)
         exact aa.out j m C (by omega)
        case measure=>simp[intOf];omega
       |false=>
        have n:Hid (It.mk t l s≠It.mk t l c):=za (by
         intro e;injection e with _ _ e;subst e;have:=HR.out.2 rfl;simp at this)
        go_wp2;go_ret;exact⟨jL.no n.out,d.drew.trans (G.out.mono (by simpa using iA))⟩
      have HE:Hid (It.mk t l s=It.mk t l c):=za (by rw[IQ H3.out (fun j m C=>aa.out j m C (by omega))]);go_wp2;go_ret;exact⟨jL.yes HE.out,d⟩
    have n:Hid (It.mk t l s≠It.mk t l c):=za (by intro e;injection e with _ _ e;exact q (by rw[e]));have e3:((s.length:Int) !=(c.length:Int))=true:=by simp;omega
    have ae:(s.length !=c.length)=true:=by simp;omega
    clear q;go_enter func42,Yj
    go_wp2;go_ret;exact⟨jL.no n.out,bO⟩
   have n:Hid (It.mk t l s≠It.mk Y l c):=za (by intro e;injection e with e;exact bY e);clear bY;go_enter func42,Yj
   go_wp2;go_ret;exact⟨jL.no n.out,bO⟩
  have n:Hid (It.mk t l s≠It.mk Y X c):=za (by intro e;injection e with _ e;exact m e);cases l<;>cases X
  ·exact absurd rfl m
  ·clear m;go_enter func42,Yj
   go_wp2;go_ret;exact⟨jL.no n.out,bO⟩
  ·clear m;go_enter func42,Yj
   go_wp2;go_ret;exact⟨jL.no n.out,bO⟩
  exact absurd rfl m
def ph (r:Bool×Nat×Nat×Int):Value:= .tuple #[r.1,r.2.1,r.2.2.1,r.2.2.2]
theorem MP (s:ByteArray)(d m:Bool)(w:World)(Z:s.size<=4611686018427387904):
 Calls prog 197 #[s,d,m] w fun e w'=>e= .returned (ph (hd s d m))/\w=w':=by
 rcases fU s with⟨hz,rfl⟩|⟨hz,S,X⟩
 ·have c:Hid (hd ⟨#[]⟩ d m=(false,0,0,2)):=za (by unfold hd;rw[zj (by simp[ByteArray.size])]);clear hz;go_enter Yk,Yb
  go_wp2;refine zl ?_ rfl ⟨yp (fun r=>Ending.returned (ph r)) c.out.symm,rfl⟩;simp[ph,results,yx,go_sem]<;>omega
 have O:0<s.size:=by
  rcases Zp s.size with h|h
  ·exact absurd h (by first|exact hz|omega)
  exact h
 cases d with
 |true=>
  have c:Hid (hd s true m=(false,0,0,6)):=za (by unfold hd;rw[zi (by omega),zj rfl]);go_enter Yk,Yb
  go_wp2;refine zl ?_ rfl ⟨yp (fun r=>Ending.returned (ph r)) c.out.symm,rfl⟩;simp[ph,results,yx,go_sem]<;>omega
 |false=>
 cases m with
 |true=>
  have c:Hid (hd s false true=(false,0,0,4)):=za (by unfold hd;rw[zi (by omega),zi (by simp),zj rfl]);go_enter Yk,Yb
  go_wp2;refine zl ?_ rfl ⟨yp (fun r=>Ending.returned (ph r)) c.out.symm,rfl⟩;simp[ph,results,yx,go_sem]<;>omega
 |false=>
 have x:hd s false false=BK s:=by unfold hd;rw[zi (by omega),zi (by simp),zi (by simp)]
 have E:s.data.toList.getD 0 0=s[0]:=by rw[zw,iu s 0 O];rfl
 have aD:=s[0].toNat_lt;by_cases F:s[0].toNat<128
 ·have c:Hid (hd s false false=(false,0,1,0)):=za (by rw[x];unfold BK;dsimp only;rw[E,zj F]);clear x;go_enter Yk,Yb
  go_wp2;refine zl ?_ rfl ⟨yp (fun r=>Ending.returned (ph r)) c.out.symm,rfl⟩;simp[ph,results,yx,go_sem]<;>omega
 obtain⟨l,A⟩:=gL (decide (192<=s[0].toNat));obtain⟨t,z⟩:=gL (if 192<=s[0].toNat then s[0].toNat-192 else s[0].toNat-128);have b:=x;unfold BK at b;dsimp only at b;rw[E,zi F,A,z]at b;have K:decide ((192:Int)<=s[0].toNat)=l:=by rw[<-A];exact decide_eq_decide.2 (by omega)
 have q:Hid (if l=true then(s[0].toNat:Int)-192=t else(s[0].toNat:Int)-128=t):=za (by
  subst A z;by_cases h:192<=s[0].toNat
  ·rw[zj (by simpa using h),zj h];omega
  rw[zi (by simpa using h),zi h];omega)
 have ab:t<=63:=by rw[<-z];split<;>omega
 have M:¬((s[0].toNat:Int)<128):=by omega
 clear x E A z F;go_enter Yk,Yb
 go_upto_if 31 with fail
 go_cut [10] (fun v L=>v= .int .i64 t/\w=L)
 case first=>
  have q:=q.out;cases l with
  |true=>
   rw[zj rfl]at q;go_wp2_with fail
   go_meet;case rel=>exact⟨rfl,rfl⟩
  |false=>
   rw[zi (by simp)]at q;go_wp2_with fail
   go_meet;case rel=>exact⟨rfl,rfl⟩
 case rest=>
  obtain⟨rfl,rfl⟩:=hcut;clear q K M;by_cases p:t<=55
  ·rw[zj p,zj p,zj p]at b;by_cases u:s.size<1+t
   ·have c:Hid (hd s false false=(false,0,0,2)):=za (by rw[b,zj u]);clear b;go_wp2;refine zl ?_ rfl ⟨yp (fun r=>Ending.returned (ph r)) c.out.symm,rfl⟩;simp[ph,results,yx,go_sem]<;>omega
   rw[zi u]at b;by_cases B:l=false/\t=1
   ·obtain⟨rfl,rfl⟩:=B;have y:1<s.size:=by omega
    have j:s.data.toList.getD 1 0=s[1]:=by rw[zw,iu s 1 y];rfl
    rw[j]at b;by_cases i:s[1].toNat<128
    ·have c:Hid (hd s false false=(false,0,0,3)):=za (by rw[b,zj ⟨rfl,rfl,i⟩]);clear b j;go_wp2;refine zl ?_ rfl ⟨yp (fun r=>Ending.returned (ph r)) c.out.symm,rfl⟩;simp[ph,results,yx,go_sem]<;>omega
    have c:Hid (hd s false false=(false,1,1,0)):=za (by rw[b,zi (by simp;omega)]);clear b j;go_wp2;refine zl ?_ rfl ⟨yp (fun r=>Ending.returned (ph r)) c.out.symm,rfl⟩;simp[ph,results,yx,go_sem]<;>omega
   have c:Hid (hd s false false=(l,1,t,0)):=za (by rw[b,zi (fun h=>B ⟨h.1,h.2.1⟩)]);clear b;cases l with
   |true=>
    go_wp2;refine zl ?_ rfl ⟨yp (fun r=>Ending.returned (ph r)) c.out.symm,rfl⟩;simp[ph,results,yx,go_sem]<;>omega
   |false=>
    have ad:((t:Int)==1)=false:=by simp at B⊢;omega
    clear B;go_wp2;refine zl ?_ rfl ⟨yp (fun r=>Ending.returned (ph r)) c.out.symm,rfl⟩;simp[ph,results,yx,go_sem]<;>omega
  rw[zi p,zi p,zi p]at b;obtain⟨k,rfl⟩:∃k,t=55+k:=⟨t-55,by omega⟩
  rw[show 55+k-55=k from by omega]at b;have Y:55+(k:Int)-55=k:=by omega
  by_cases u:s.size<1+k
  ·have c:Hid (hd s false false=(false,0,0,2)):=za (by rw[b,zj u]);clear b;go_wp2;refine zl ?_ rfl ⟨yp (fun r=>Ending.returned (ph r)) c.out.symm,rfl⟩;simp[ph,results,yx,go_sem]<;>omega
  rw[zi u]at b;have y:1<s.size:=by omega
  have j:s.data.toList.getD 1 0=s[1]:=by rw[zw,iu s 1 y];rfl
  rw[j]at b;have H:(s.extract 1 (1+k)).size=k:=by rw[ar _ _ _ (by omega)];omega
  have C:gW (s.extract 1 (1+k)).data.toList=decide (s[1].toNat=0):=by
   have R:(s.extract 1 (1+k)).data.toList=s[1]::(s.extract 1 (1+k)).data.toList.drop 1:=by
    rw[aq];have i:(s.data.toList.take (1+k)).drop 1=((s.data.toList.drop 1).take k):=by rw[Za,show 1+k-1=k from by omega]
    rw[i,drop_cons s 1 y,show k=(k-1)+1 from by omega,zR];rfl
   rw[R];simp only[gW];by_cases e:s[1]=0
   ·simp[e]
   have:s[1].toNat≠0:=fun h=>e (zT.1 h)
   simp[e,this]
  have n:=za (vM (s.extract 1 (1+k)) w (by omega));by_cases D:s[1].toNat=0
  ·have o:sU (s.extract 1 (1+k))=3:=by unfold sU;rw[zi (by omega),zi (by omega),C,D];rfl
   have c:Hid (hd s false false=(false,0,0,3)):=za (by rw[b,zj (.inl D)]);rw[o]at n;clear b o C j;generalize BY (s.extract 1 (1+k))=N at*;go_wp2_with fail
   refine cm0 n.out ?_;go_wp2;refine zl ?_ rfl ⟨yp (fun r=>Ending.returned (ph r)) c.out.symm,rfl⟩;simp[ph,results,yx,go_sem]<;>omega
  have o:sU (s.extract 1 (1+k))=0:=by unfold sU;rw[zi (by omega),zi (by omega),C,zv D];rfl
  have I:BY (s.extract 1 (1+k))=mr (s.extract 1 (1+k)).data.toList:=by unfold BY;rw[zj o]
  have U:mr (s.extract 1 (1+k)).data.toList<18446744073709551616:=by
   have i:=CB (s.extract 1 (1+k)).data.toList;rw[aa,H]at i;have J:2^(8*k)<=2^(8*8):=yq (by omega) (by omega);exact zQ i J
  rw[o,I]at n;clear o I C j H;generalize mr (s.extract 1 (1+k)).data.toList=N at*;by_cases i:N<=55
  ·have c:Hid (hd s false false=(false,0,0,3)):=za (by rw[b,zj (.inr i)]);clear b;go_wp2_with fail
   refine cm0 n.out ?_;go_wp2;refine zl ?_ rfl ⟨yp (fun r=>Ending.returned (ph r)) c.out.symm,rfl⟩;simp[ph,results,yx,go_sem]<;>omega
  rw[zi (fun h=>h.elim D i)]at b;by_cases J:s.size<N
  ·have c:Hid (hd s false false=(false,0,0,2)):=za (by rw[b,zj (by omega)]);clear b;go_wp2_with fail
   refine cm0 n.out ?_;go_wp2;refine zl ?_ rfl ⟨yp (fun r=>Ending.returned (ph r)) c.out.symm,rfl⟩;simp[ph,results,yx,go_sem]<;>omega
  by_cases G:s.size<1+k+N
  ·have c:Hid (hd s false false=(false,0,0,2)):=za (by rw[b,zj G]);clear b;go_wp2_with fail
   refine cm0 n.out ?_;go_wp2;refine zl ?_ rfl ⟨yp (fun r=>Ending.returned (ph r)) c.out.symm,rfl⟩;simp[ph,results,yx,go_sem]<;>omega
  have c:Hid (hd s false false=(l,1+k,N,0)):=za (by rw[b,zi G]);have W:((N:Int)==1)=false:=by simp;omega
  clear b;go_wp2_with fail
  refine cm0 n.out ?_;cases l
  all_goals
   go_wp2;refine zl ?_ rfl ⟨yp (fun r=>Ending.returned (ph r)) c.out.symm,rfl⟩;simp[ph,results,yx,go_sem]<;>omega
theorem nV (g i:Nat)(s:ByteArray)(p L most:Nat)(k:Int)(w:World)(h:jt w g s p L)(j:ag w i 176 #[.pointer (some ⟨g,0,none⟩)])(A:p<=s.size)(C:s.size<=100000)(B:most<=65536):
 Calls prog 166 #[.int .i64 k,.int .i64 most,.pointer (some ⟨i,0,none⟩)] w fun e w'=>∃(n:Nat) (ok:Bool) (q:Nat),e= .returned (.tuple #[.agg #[.int .i64 k,.int .i64 n,.slice none 0 0,.int .i64 0],.bool ok])/\jt w' g s q L/\ae [g] w w'/\ox most s p n ok q:=by
 have O:w.cell? ⟨i,0,none⟩=some (.pointer (some ⟨g,0,none⟩)):=j.cell 0;have N:=j.lt;have R:g<w.heap.size:=ag.lt (show ag w g _ _ from h);have D:=za (IM g s p L most (w.alloc (.cells #[.int .i64 0,.int .i64 0,.slice none 0 0,.int .i64 0] 70)) (ag.alloc (show ag w g _ _ from h) _) A C B);clear h j;go_enter func166,ntmps166
 go_wp2_with fail
 refine D.out.mono ?_;rintro e y ⟨n,ok,q,rfl,m,d,l⟩;have b:=(ag.new w 70 #[.int .i64 0,.int .i64 0,.slice none 0 0,.int .i64 0]).only d (by simp;omega);have z:=za m;have E:Hid (ae [g] w y):=za (((ae.refl [g] w).alloc _).trans d);have F:=za l;obtain⟨G,I,H,J,M,U,K,S⟩:=aU b;have hz:=((((b.set 0 (.int .i64 k)).set 1 (.int .i64 n)).set 2 (.slice none 0 0)).set 3 (.int .i64 0))
 have r:=(b.set 0 (.int .i64 k)).cell 0;have x:=((b.set 0 (.int .i64 k)).set 1 (.int .i64 n)).cell 1;have u:=(((b.set 0 (.int .i64 k)).set 1 (.int .i64 n)).set 2 (.slice none 0 0)).cell 2;have o:=hz.cell 3;simp at r x u o;clear m d l b hz;go_wp2;refine zl (v:= .tuple #[.agg #[.int .i64 k,.int .i64 n,.slice none 0 0,.int .i64 0],.bool ok]) (by simp[results,results166,go_sem,r,x,u,o]) rfl ?_;have c:g≠w.heap.size:=by omega
 refine⟨n,ok,q,rfl, ?_,(((E.out.setCell (by simp) _).setCell (by simp) _).setCell (by simp) _).setCell (by simp) _,F.out⟩;exact(((ag.dE (show ag y g _ _ from z.out) (p:=⟨w.heap.size,0,none⟩) c _).dE (p:=⟨w.heap.size,1,none⟩) c _).dE (p:=⟨w.heap.size,2,none⟩) c _).dE (p:=⟨w.heap.size,3,none⟩) c _
def kh (w:World)(g:Nat)(s:ByteArray)(f L p:Nat)(e:Ending)(w':World):Prop:=
 ∃(t:Ty) (ok:Bool) (q L':Nat) (k z ta:Int) (A:Option Addr) (n cap:Nat),e= .returned (.tuple #[.agg #[.int .i64 k,.int .i64 z,.slice A n cap,.int .i64 ta],.bool ok])/\jt w' g s q L'/\ae [g] w w'/\L'<=L/\tG f L s p t ok q L'/\(ok=true->fX w' (w.heap.size<= ·) t (.int .i64 k) (.int .i64 z) (.slice A n cap) (.int .i64 ta))
structure sV (w:World)(g:Nat)(s:ByteArray)(p L:Nat)(V:World):Prop where
 box:ag V w.heap.size 176 #[.pointer (some ⟨g,0,none⟩)]
 res:ag V (w.heap.size+1) 70 #[.int .i64 0,.int .i64 0,.slice none 0 0,.int .i64 0]
 rd:jt V g s p L
 only:ae [g] w V
 siz:w.heap.size+2<=V.heap.size
 glt:g<w.heap.size
theorem sV.start (h:jt w g s p L):sV w g s p L ((w.alloc (.cells #[.pointer (some ⟨g,0,none⟩)] 176)).alloc (.cells #[.int .i64 0,.int .i64 0,.slice none 0 0,.int .i64 0] 70)) where
 box:=(ag.new w _ _).alloc _
 res:=ag.at_ (by simp)
 rd:=(ag.alloc (show ag w g _ _ from h) _).alloc _
 only:=((ae.refl _ w).alloc _).alloc _
 siz:=by simp
 glt:=ag.lt (show ag w g _ _ from h)
theorem sV.eL (h:sV w g s p L V)(b:ae [g] V V')(c:jt V' g s p' L'):sV w g s p' L' V' where
 box:=h.box.only b (by have:=h.glt;simp;omega)
 res:=h.res.only b (by have:=h.glt;simp;omega)
 rd:=c
 only:=h.only.trans b
 siz:=zG h.siz b.size
 glt:=h.glt
theorem sV.below (h:sV w g s p L V)(b:Below V.heap.size V V'):sV w g s p L V':=h.eL ((ae.ai b (zd _)).mono (by simp)) ((b.block _ (ag.lt (show ag V g _ _ from h.rd))).trans h.rd)
theorem sV.ends (h:sV w g s p L V)(b c d e:Value):
 jt ((((V.setCell ⟨w.heap.size+1,0,none⟩ b).setCell ⟨w.heap.size+1,1,none⟩ c).setCell ⟨w.heap.size+1,2,none⟩ d).setCell ⟨w.heap.size+1,3,none⟩ e) g s p L/\ae [g] w ((((V.setCell ⟨w.heap.size+1,0,none⟩ b).setCell ⟨w.heap.size+1,1,none⟩ c).setCell ⟨w.heap.size+1,2,none⟩ d).setCell ⟨w.heap.size+1,3,none⟩ e)/\
 (V.setCell ⟨w.heap.size+1,0,none⟩ b).cell? ⟨w.heap.size+1,0,none⟩=some b/\((V.setCell ⟨w.heap.size+1,0,none⟩ b).setCell ⟨w.heap.size+1,1,none⟩ c).cell? ⟨w.heap.size+1,1,none⟩=some c/\(((V.setCell ⟨w.heap.size+1,0,none⟩ b).setCell ⟨w.heap.size+1,1,none⟩ c).setCell ⟨w.heap.size+1,2,none⟩ d).cell? ⟨w.heap.size+1,2,none⟩=some d/\((((V.setCell ⟨w.heap.size+1,0,none⟩ b).setCell ⟨w.heap.size+1,1,none⟩ c).setCell ⟨w.heap.size+1,2,none⟩ d).setCell ⟨w.heap.size+1,3,none⟩ e).cell? ⟨w.heap.size+1,3,none⟩=some e:=
 have n1:g≠w.heap.size+1:=by have:=h.glt;omega
 ⟨(((ag.dE (show ag V g _ _ from h.rd) (p:=⟨w.heap.size+1,0,none⟩) n1 _).dE (p:=⟨w.heap.size+1,1,none⟩) n1 _).dE (p:=⟨w.heap.size+1,2,none⟩) n1 _).dE (p:=⟨w.heap.size+1,3,none⟩) n1 _,(((h.only.setCell (by simp) _).setCell (by simp) _).setCell (by simp) _).setCell (by simp) _,by have:=(h.res.set 0 b).cell 0;simpa using this,by have:=((h.res.set 0 b).set 1 c).cell 1;simpa using this,by have:=(((h.res.set 0 b).set 1 c).set 2 d).cell 2;simpa using this,by have:=((((h.res.set 0 b).set 1 c).set 2 d).set 3 e).cell 3;simpa using this⟩
theorem sV.step {W:World}(h:sV w g s p L W)(a b:Int)(n1 n2:Nat)(i:a=L')(c:b=p'):sV w g s p' L' ((((W.drewN n1).setCell (g,2) a).drewN n2).setCell (g,1) b):=by
 have e:jt (W.drewN n1) g s p L:=h.rd;have d:jt (((W.drewN n1).setCell (g,2) a).drewN n2) g s p L':=e.less i;exact h.eL (((((ae.refl [g] W).drewN n1).setCell (p:=(g,2)) (by simp) _).drewN n2).setCell (p:=(g,1)) (by simp) _) (d.to c)
theorem qw {c:UInt8}(d:p<s.size)(b:s[p].toNat=c.toNat):s.data.toList.drop p=c::s.data.toList.drop (p+1):=by
 rw[drop_cons s p d,zT.1 b]
theorem PT {k:Int}{most:Nat}{ok:Bool}(o:0<L)(d:aN (f+1) (s.data.toList.drop p)=tF k (cg (s.data.toList.drop (p+1))))(i:(∀c r,cg (s.data.toList.drop (p+1))=some (c,r)->most<c)->∀(L:Nat) (t:Ty) (r:List UInt8),tF k (cg (s.data.toList.drop (p+1)))=some (t,r)->dW L t)(h:ox most s (p+1) n ok q):tG (f+1) L s p (.mk k n [] 0) ok q (L-1):=by
 refine⟨fun b=> ?_,fun b j r e=> ?_,h.2.2.1⟩
 ·obtain⟨l,m,u⟩:=h.1 b;exact⟨by rw[d,l];rfl,by simp[Ty.count,aZ];omega,by omega⟩
 rw[d]at e;exact i (h.2.1 b) L j r e
theorem PU (f d:Nat)(hd:d<=8)(g:Nat)(s:ByteArray)(p L:Nat)(w:World)(h:jt w g s p L)(z:p<s.size)(B:s.size<=100000)(y:0<L)(X:L<=64)(I:s[p].toNat=98):
 Calls prog 123 #[(g,0),d] w fun e w'=>kh w g s (f+1) L p e w':=by
 have J:Hid (aN (f+1) (s.data.toList.drop p)=tF 2 (cg (s.data.toList.drop (p+1)))):=za (by rw[qw (c:=98) z I,Kc]);have j:=za (sV.start h);generalize S:((w.alloc (.cells #[(g,0)] 176)).alloc (.cells #[(0:Int),(0:Int),nS,(0:Int)] 70))=W at*;obtain⟨g0,g1,g2,f0,f1,f2,Z⟩:=j.out.rd.cells;have R:W.cell? (w.heap.size,0)=some (.pointer (some (g,0))):=j.out.box.cell 0;have N:decide ((8:Int)<(d:Int))=false:=zv (by omega);have O:((L:Int)==0)=false:=zp.2 (by omega);have M:((p:Int)==(s.size:Int))=false:=zp.2 (by omega);have K:IntKind.i64.wrap ((L:Int)-1)=(L:Int)-1:=zZ _ (by omega);clear h;go_enter xP,xJ
 go_wp2_with fail
 go_quiet (fail)
 obtain⟨b,rfl⟩:∃b,b=nq:=⟨nq,rfl⟩
 go_wp2_with fail
 go_quiet (fail)
 have i:=za (j.out.step ((L:Int)-1) ((p:Int)+1) b nq (L':=L-1) (p':=p+1) (by omega) (by omega));go_wp2_with fail
 refine(nV g w.heap.size s (p+1) (L-1) 65536 2 _ i.out.rd i.out.box (by omega) B (by omega)).mono ?_;rintro e w1 ⟨n,ok,q,rfl,r,k,o⟩;have m:=za (i.out.eL k r);have x:=za o;clear r k o;obtain⟨U,n1,n2,Y,m0,m1,m2,m3⟩:=aU m.out.res;obtain⟨u,l,E,H,G,A⟩:=m.out.ends (.int .i64 2) n nS (0:Int);have D:=za u;have C:=za l;clear u l;go_wp2;refine zl (v:= .tuple #[.agg #[.int .i64 2,n,nS,(0:Int)],ok]) (by simp[results,yu,go_sem,E,H,G,A]) rfl ?_;exact⟨.mk 2 n [] 0,ok,q,L-1,_,_,_,_,_,_,rfl,D.out,C.out,by omega,PT y J.out ab6 x.out,fun F=>fX.leaf (aA (by omega) (by omega)) (aA (by omega) (by have:=(x.out.1 F).2.1;omega)) (aA (by omega) (by omega))⟩
theorem PV (f d:Nat)(hd:d<=8)(g:Nat)(s:ByteArray)(p L:Nat)(w:World)(h:jt w g s p L)(z:p<s.size)(B:s.size<=100000)(y:0<L)(X:L<=64)(I:s[p].toNat=115):
 Calls prog 123 #[(g,0),d] w fun e w'=>kh w g s (f+1) L p e w':=by
 have J:Hid (aN (f+1) (s.data.toList.drop p)=tF 3 (cg (s.data.toList.drop (p+1)))):=za (by rw[qw (c:=115) z I,Kd]);have j:=za (sV.start h);generalize S:((w.alloc (.cells #[(g,0)] 176)).alloc (.cells #[(0:Int),(0:Int),nS,(0:Int)] 70))=W at*;obtain⟨g0,g1,g2,f0,f1,f2,Z⟩:=j.out.rd.cells;have R:W.cell? (w.heap.size,0)=some (.pointer (some (g,0))):=j.out.box.cell 0;have N:decide ((8:Int)<(d:Int))=false:=zv (by omega);have O:((L:Int)==0)=false:=zp.2 (by omega);have M:((p:Int)==(s.size:Int))=false:=zp.2 (by omega);have K:IntKind.i64.wrap ((L:Int)-1)=(L:Int)-1:=zZ _ (by omega);clear h;go_enter xP,xJ
 go_wp2_with fail
 go_quiet (fail)
 obtain⟨b,rfl⟩:∃b,b=nq:=⟨nq,rfl⟩
 go_wp2_with fail
 go_quiet (fail)
 have i:=za (j.out.step ((L:Int)-1) ((p:Int)+1) b nq (L':=L-1) (p':=p+1) (by omega) (by omega));go_wp2_with fail
 refine(nV g w.heap.size s (p+1) (L-1) 65536 3 _ i.out.rd i.out.box (by omega) B (by omega)).mono ?_;rintro e w1 ⟨n,ok,q,rfl,r,k,o⟩;have m:=za (i.out.eL k r);have x:=za o;clear r k o;obtain⟨U,n1,n2,Y,m0,m1,m2,m3⟩:=aU m.out.res;obtain⟨u,l,E,H,G,A⟩:=m.out.ends (.int .i64 3) n nS (0:Int);have D:=za u;have C:=za l;clear u l;go_wp2;refine zl (v:= .tuple #[.agg #[.int .i64 3,n,nS,(0:Int)],ok]) (by simp[results,yu,go_sem,E,H,G,A]) rfl ?_;exact⟨.mk 3 n [] 0,ok,q,L-1,_,_,_,_,_,_,rfl,D.out,C.out,by omega,PT y J.out ab7 x.out,fun F=>fX.leaf (aA (by omega) (by omega)) (aA (by omega) (by have:=(x.out.1 F).2.1;omega)) (aA (by omega) (by omega))⟩
theorem MQ (f d:Nat)(hd:d<=8)(g:Nat)(s:ByteArray)(p L:Nat)(w:World)(h:jt w g s p L)(q:p<s.size)(N:s.size<=100000)(H:0<L)(X:L<=64)(m:s[p].toNat≠117)(i:s[p].toNat≠98)(o:s[p].toNat≠115)(k:s[p].toNat≠91)(l:s[p].toNat≠123):
 Calls prog 123 #[(g,0),d] w fun e w'=>kh w g s (f+1) L p e w':=by
 have R:((s[p].toNat:Int)==117)=false:=zp.2 (by omega);have K:((s[p].toNat:Int)==98)=false:=zp.2 (by omega);have O:((s[p].toNat:Int)==115)=false:=zp.2 (by omega);have e4:((s[p].toNat:Int)==91)=false:=zp.2 (by omega);have e5:((s[p].toNat:Int)==123)=false:=zp.2 (by omega);have D:Hid (aN (f+1) (s.data.toList.drop p)=none):=za (by rw[drop_cons s p q];exact EK f _ _ m i o k l);clear m i o k l;have b:=za (sV.start h);generalize M:((w.alloc (.cells #[(g,0)] 176)).alloc (.cells #[(0:Int),(0:Int),nS,(0:Int)] 70))=W at*;obtain⟨g0,g1,g2,f0,f1,f2,Z⟩:=b.out.rd.cells;have J:W.cell? (w.heap.size,0)=some (.pointer (some (g,0))):=b.out.box.cell 0;have U:=b.out.glt;have G:decide ((8:Int)<(d:Int))=false:=zv (by omega);have I:((L:Int)==0)=false:=zp.2 (by omega);have F:((p:Int)==(s.size:Int))=false:=zp.2 (by omega);have E:IntKind.i64.wrap ((L:Int)-1)=(L:Int)-1:=zZ _ (by omega);clear h;go_enter xP,xJ
 go_wp2_with fail
 go_quiet (fail)
 obtain⟨c,rfl⟩:∃c,c=nq:=⟨nq,rfl⟩
 go_wp2_with fail
 go_quiet (fail)
 have B:=za (b.out.step ((L:Int)-1) ((p:Int)+1) c nq (L':=L-1) (p':=p+1) (by omega) (by omega));obtain⟨S,n1,n2,Y,m0,m1,m2,m3⟩:=aU b.out.res;obtain⟨n,j,z,C,A,u⟩:=B.out.ends (0:Int) (0:Int) nS (0:Int);have y:=za n;have x:=za j;clear n j;go_wp2;refine zl (v:= .tuple #[.agg #[(0:Int),(0:Int),nS,(0:Int)],false]) (by simp[results,yu,go_sem,z,C,A,u]) rfl ?_;exact⟨.mk 0 0 [] 0,false,p+1,L-1,_,_,_,_,_,_,rfl,y.out,x.out,by omega,⟨(by intro h;cases h),(by intro _ t' r h;rw[D.out]at h;cases h),by omega⟩,(by intro h;cases h)⟩
theorem Xj {ok:Bool}(m:0<L)(e:aN (f+1) (s.data.toList.drop p)=Au (cg (s.data.toList.drop (p+1))))(h:ox 64 s (p+1) n ok q):tG (f+1) L s p (.mk 1 ((n/8:Nat):Int) [] 0) (ok&&decide (n%8=0)) q (L-1):=by
 refine⟨fun b=> ?_,fun b j r c=> ?_,h.2.2.1⟩
 ·simp only[zy,zY]at b;obtain⟨d,i,k⟩:=h.1 b.1;exact⟨by rw[e,d,Au,zj b.2],by simp[Ty.count,aZ];omega,by omega⟩
 rw[e]at c;cases ok with
 |false=>exact ab5 (h.2.1 rfl) L j r c
 |true=>
  obtain⟨d,i,k⟩:=h.1 rfl;have l:¬n%8=0:=by simpa using b
  rw[d,Au,zi l]at c;cases c
theorem PY (f d:Nat)(hd:d<=8)(g:Nat)(s:ByteArray)(p L:Nat)(w:World)(h:jt w g s p L)(I:p<s.size)(K:s.size<=100000)(H:0<L)(NU:L<=64)(N:s[p].toNat=117):
 Calls prog 123 #[(g,0),d] w fun e w'=>kh w g s (f+1) L p e w':=by
 have O:Hid (aN (f+1) (s.data.toList.drop p)=Au (cg (s.data.toList.drop (p+1)))):=za (by rw[qw (c:=117) I N,Kb]);have C:=za (sV.start h);generalize hW:((w.alloc (.cells #[(g,0)] 176)).alloc (.cells #[(0:Int),(0:Int),nS,(0:Int)] 70))=W at*;obtain⟨g0,g1,g2,f0,f1,f2,ks⟩:=C.out.rd.cells;have Y:W.cell? (w.heap.size,0)=some (.pointer (some (g,0))):=C.out.box.cell 0;have U:decide ((8:Int)<(d:Int))=false:=zv (by omega);have X:((L:Int)==0)=false:=zp.2 (by omega);have S:((p:Int)==(s.size:Int))=false:=zp.2 (by omega);have R:IntKind.i64.wrap ((L:Int)-1)=(L:Int)-1:=zZ _ (by omega);clear h;go_enter xP,xJ
 go_wp2_with fail
 go_quiet (fail)
 obtain⟨A,rfl⟩:∃A,A=nq:=⟨nq,rfl⟩
 go_wp2_with fail
 go_quiet (fail)
 have B:=za (C.out.step ((L:Int)-1) ((p:Int)+1) A nq (L':=L-1) (p':=p+1) (by omega) (by omega));go_wp2_with fail
 refine(nV g w.heap.size s (p+1) (L-1) 64 1 _ B.out.rd B.out.box (by omega) K (by omega)).mono ?_;rintro e M ⟨n,ok,q,rfl,E,D,x⟩;have u:=za (B.out.eL D E);have DG:=za x;obtain⟨b,G⟩:∃b,n/8=b:=⟨_,rfl⟩
 have e8:(n:Int)/8=b:=by omega
 have i:=za (Xj H O.out x);rw[G]at i;have Z:b<=8:=by have:=x.2.2.2;omega
 clear E D x G;obtain⟨n0,n1,n2,n3,m0,m1,m2,m3⟩:=aU u.out.res;have Yv:=u.out.siz;have y:w.heap.size+1<M.heap.size:=by omega
 by_cases F:n%8=0
 ·have J:((n:Int)%8==0)=true:=yO.2 (by omega);rw[zF F,Zm]at i;cases ok with
  |true=>
   go_wp2;obtain⟨l,k,m,r,o,j⟩:=u.out.ends (1:Int) b nS (0:Int);refine zl (v:= .tuple #[.agg #[(1:Int),b,nS,(0:Int)],true]) (by simp[results,yu,go_sem,m,r,o,j,zI,y]) rfl ?_;exact⟨.mk 1 b [] 0,true,q,L-1,_,_,_,_,_,_,rfl,ag.alloc (show ag _ g _ _ from l) _,k.alloc _,by omega,i.out,fun z=>fX.leaf (aA (by omega) (by omega)) (aA (by omega) (by omega)) (aA (by omega) (by omega))⟩
  |false=>
   go_wp2;obtain⟨l,k,m,r,o,j⟩:=u.out.ends (1:Int) b nS (0:Int);refine zl (v:= .tuple #[.agg #[(1:Int),b,nS,(0:Int)],false]) (by simp[results,yu,go_sem,m,r,o,j,zI,y]) rfl ?_;exact⟨.mk 1 b [] 0,false,q,L-1,_,_,_,_,_,_,rfl,ag.alloc (show ag _ g _ _ from l) _,k.alloc _,by omega,i.out,fun z=>fX.leaf (aA (by omega) (by omega)) (aA (by omega) (by omega)) (aA (by omega) (by omega))⟩
 have J:((n:Int)%8==0)=false:=zp.2 (by omega);rw[zv F,Bool.and_false]at i;cases ok with
 |true=>
  go_wp2;obtain⟨l,k,m,r,o,j⟩:=u.out.ends (1:Int) b nS (0:Int);refine zl (v:= .tuple #[.agg #[(1:Int),b,nS,(0:Int)],false]) (by simp[results,yu,go_sem,m,r,o,j,zI,y]) rfl ?_;exact⟨.mk 1 b [] 0,false,q,L-1,_,_,_,_,_,_,rfl,ag.alloc (show ag _ g _ _ from l) _,k.alloc _,by omega,i.out,fun z=>fX.leaf (aA (by omega) (by omega)) (aA (by omega) (by omega)) (aA (by omega) (by omega))⟩
 |false=>
  go_wp2;obtain⟨l,k,m,r,o,j⟩:=u.out.ends (1:Int) b nS (0:Int);refine zl (v:= .tuple #[.agg #[(1:Int),b,nS,(0:Int)],false]) (by simp[results,yu,go_sem,m,r,o,j,zI,y]) rfl ?_;exact⟨.mk 1 b [] 0,false,q,L-1,_,_,_,_,_,_,rfl,ag.alloc (show ag _ g _ _ from l) _,k.alloc _,by omega,i.out,fun z=>fX.leaf (aA (by omega) (by omega)) (aA (by omega) (by omega)) (aA (by omega) (by omega))⟩
theorem MR (n:Nat)(d:1<=n)(c:n<=31):bits .and .u64 (IntKind.u64.wrap (-(n:Int))) 31=((32-n:Nat):Int):=by
 have e:IntKind.u64.wrap (-(n:Int))=((18446744073709551616-n:Nat):Int):=by
  simp[IntKind.wrap,IntKind.signed,IntKind.bits];omega
 have h:=u64_and_nat (18446744073709551616-n) 31 (by omega) (by omega);rw[e];have b:((31:Nat):Int)=31:=rfl;rw[b]at h;rw[h,show(31:Nat)=2^5-1 from rfl,Nat.and_two_pow_sub_one_eq_mod];omega
theorem TM (x n:Nat)(hx:x<4294967296):bits .or .u32 ((x:Int)*2^(32-n)%4294967296) ((x:Int)/2^n)=((iE x n:Nat):Int):=by
 have h:=u32_or_nat (x*2^(32-n)%4294967296) (x/2^n) (xj _ (by omega)) (mH n hx);have c:((x*2^(32-n)%4294967296:Nat):Int)=(x:Int)*2^(32-n)%4294967296:=by simp
 have b:((x/2^n:Nat):Int)=(x:Int)/2^n:=by simp
 rw[c,b]at h;rw[h,Nat.or_comm];rfl
theorem Da (x n:Nat)(w:World)(hx:x<4294967296)(h:1<=n)(c:n<=31):
 Calls prog 246 #[.int .u32 x,n] w fun e w'=>e= .returned (.int .u32 (iE x n))/\w=w':=by
 have i:=MR n h c;obtain⟨k,b⟩:∃k:Nat,32-n=k:=⟨_,rfl⟩
 rw[b]at i;have j:(32:Int)-(k:Int)=(n:Int):=by omega
 have d:=za b;clear b;go_enter func246,ntmps246
 go_wp2;go_ret;exact⟨lD (by rw[<-d.out];exact TM x n hx),rfl⟩
theorem xor_val {b:Nat}(d:a<4294967296)(c:b<4294967296):bits .xor .u32 (a:Int) (b:Int)=((a^^^b:Nat):Int):=u32_xor_nat a b d c
theorem FG (x a b c:Nat)(w:World)(hx:x<4294967296)(j:1<=a/\a<=31)(i:1<=b/\b<=31)(l:1<=c/\c<=31):
 Calls prog 239 #[.int .u32 x,a,b,c] w fun e w'=>e= .returned (.int .u32 (iE x a^^^iE x b^^^iE x c:Nat))/\w=w':=by
 have n:=za (fun w=>Da x a w hx j.1 j.2);have s:=za (fun w=>Da x b w hx i.1 i.2);have o:=za (fun w=>Da x c w hx l.1 l.2);have k:=dY a hx;have h:=dY b hx;have u:=dY c hx;generalize iE x a=p at*;generalize iE x b=q at*;generalize iE x c=r at*;have A:=xor_val k h;have m:=xor_val (dq k h) u;obtain⟨y,d⟩:∃y,p^^^q=y:=⟨_,rfl⟩
 obtain⟨z,hz⟩:∃z,p^^^q^^^r=z:=⟨_,rfl⟩
 rw[d]at A;rw[hz,d]at m;rw[hz];clear d hz;go_enter func239,ntmps239
 go_wp2_with fail
 refine(n.out _).mono ?_;rintro e w' ⟨rfl,rfl⟩;go_wp2_with fail
 refine(s.out _).mono ?_;rintro e w' ⟨rfl,rfl⟩;go_wp2_with fail
 refine(o.out _).mono ?_;rintro e w' ⟨rfl,rfl⟩;go_wp2;go_ret;exact⟨rfl,rfl⟩
theorem Xk (x n:Nat)(w:World)(hx:x<4294967296)(d:1<=n)(b:n<=31):
 Calls prog 246 #[.int .u32 x,n] w fun e w'=>e= .returned (.int .u32 (iE x n))/\w'=w:=(Da x n w hx d b).mono fun _ _ ⟨h,c⟩=>⟨h,c.symm⟩
theorem vO (x a b c:Nat)(w:World)(hx:x<4294967296)(p:1<=a/\a<=31)(o:1<=b/\b<=31)(q:1<=c/\c<=31):
 Calls prog 245 #[.int .u32 x,a,b,c] w fun e w'=>e= .returned (.int .u32 (iE x a^^^iE x b^^^x/2^c:Nat))/\∃n,w'=w.drewN n:=by
 have j:=dY a hx;have h:=dY b hx;have l:=mH c hx;have m:=xor_val j h;have i:=xor_val (dq j h) l;have k:((x/2^c:Nat):Int)=(x:Int)/2^c:=by simp
 rw[k]at i;obtain⟨y,d⟩:∃y:Nat,iE x a^^^iE x b=y:=⟨_,rfl⟩
 obtain⟨z,hz⟩:∃z:Nat,iE x a^^^iE x b^^^x/2^c=z:=⟨_,rfl⟩
 rw[d]at m;rw[hz,d]at i;rw[hz];clear d hz k;go_enter func245,ntmps245
 go_wp2;go_quiet ((go_at_call 246;exact Calls.quiet_of_same (Xk _ _ _ hx (by omega) (by omega))))
 go_wp2;go_ret;exact⟨rfl,_,rfl⟩
theorem PZ (a b c d:Nat)(m:a<256)(l:b<256)(n:c<256)(hd:d<256):
 bits .or .u32 (bits .or .u32 (bits .or .u32 ((a:Int)*2^24) ((b:Int)*2^16)) ((c:Int)*2^8)) (d:Int)=((a*16777216+b*65536+c*256+d:Nat):Int):=by
 have k:((a:Int)*2^24)=((a*2^24:Nat):Int):=by simp
 have h:((b:Int)*2^16)=((b*2^16:Nat):Int):=by simp
 have j:((c:Int)*2^8)=((c*2^8:Nat):Int):=by simp
 rw[k,h,j,u32_or_nat _ _ (by omega) (by omega)];have e:a*2^24|||b*2^16=a*2^24+b*2^16:=by rw[Zv,<-xo (by omega)]
 rw[e,u32_or_nat _ _ (by omega) (by omega)];have g2:a*2^24+b*2^16|||c*2^8=a*2^24+b*2^16+c*2^8:=by
  rw[show a*2^24+b*2^16=2^16*(a*256+b)from by omega,<-xo (by omega)]
 rw[g2,u32_or_nat _ _ (by omega) (by omega)];have i:a*2^24+b*2^16+c*2^8|||d=a*2^24+b*2^16+c*2^8+d:=by
  rw[show a*2^24+b*2^16+c*2^8=2^8*(a*65536+b*256+c)from by omega,<-xo (by omega)]
 rw[i]
theorem P0 (s:ByteArray)(i:Nat)(w:World)(hi:4*i+4<=s.size)(A:s.size<=100000):
 Calls prog 237 #[s,i] w fun e w'=>e= .returned (.int .u32 (mI s i))/\∃n,w'=w.drewN n:=by
 obtain⟨E,x,m,q⟩:∃E:ByteArray,s.extract (4*i) (4*i+4)=E/\∃m:E.size=4,Hid (mI s i=E[0].toNat*16777216+E[1].toNat*65536+E[2].toNat*256+E[3].toNat):=by
  have hz:(s.extract (4*i) (4*i+4)).size=4:=by rw[ar _ _ _ hi];omega
  refine⟨_,rfl,hz,za ?_⟩;have b:∀j (c:j<(s.extract (4*i) (4*i+4)).size),(s.extract (4*i) (4*i+4))[j]=s.data.toList.getD (4*i+j) 0:=by
   intro j c;have d:=iu (s.extract (4*i) (4*i+4)) j c;rw[aq,xa,yr (by omega)]at d;rw[zw,d];rfl
  rw[b 0,b 1,b 2,b 3];rfl
 have C:0<E.size:=by omega
 have F:1<E.size:=by omega
 have u:2<E.size:=by omega
 have D:3<E.size:=by omega
 have p:=E[0].toNat_lt;have r:=E[1].toNat_lt;have k:=E[2].toNat_lt;have o:=E[3].toNat_lt;have l:=za (PZ E[0].toNat E[1].toNat E[2].toNat E[3].toNat p r k o);have z:IntKind.u32.wrap ((E[0].toNat:Nat):Int)=((E[0].toNat:Nat):Int):=IntWalk.u32_in _ (by omega);have B:IntKind.u32.wrap ((E[1].toNat:Nat):Int)=((E[1].toNat:Nat):Int):=IntWalk.u32_in _ (by omega);have G:IntKind.u32.wrap ((E[2].toNat:Nat):Int)=((E[2].toNat:Nat):Int):=IntWalk.u32_in _ (by omega);have y:IntKind.u32.wrap ((E[3].toNat:Nat):Int)=((E[3].toNat:Nat):Int):=IntWalk.u32_in _ (by omega);go_enter func237,ntmps237
 go_wp2;go_quiet (fail)
 go_wp2;go_ret;refine⟨lD ?_,_,rfl⟩;have h:=l.out;rw[show(2:Int)^24=16777216 from rfl,show(2:Int)^16=65536 from rfl,show(2:Int)^8=256 from rfl]at h;rw[q.out];exact h
theorem and_val {b:Nat}(d:a<4294967296)(c:b<4294967296):bits .and .u32 (a:Int) (b:Int)=((a&&&b:Nat):Int):=u32_and_nat a b d c
def Xl :ByteArray:=⟨#[66,138,47,152,113,55,68,145,181,192,251,207,233,181,219,165,57,86,194,91,89,241,17,241,146,63,130,164,171,28,94,213,216,7,170,152,18,131,91,1,36,49,133,190,85,12,125,195,114,190,93,116,128,222,177,254,155,220,6,167,193,155,241,116,228,155,105,193,239,190,71,134,15,193,157,198,36,12,161,204,45,233,44,111,74,116,132,170,92,176,169,220,118,249,136,218,152,62,81,82,168,49,198,109,176,3,39,200,191,89,127,199,198,224,11,243,213,167,145,71,6,202,99,81,20,41,41,103,39,183,10,133,46,27,33,56,77,44,109,252,83,56,13,19,101,10,115,84,118,106,10,187,129,194,201,46,146,114,44,133,162,191,232,161,168,26,102,75,194,75,139,112,199,108,81,163,209,146,232,25,214,153,6,36,244,14,53,133,16,106,160,112,25,164,193,22,30,55,108,8,39,72,119,76,52,176,188,181,57,28,12,179,78,216,170,74,91,156,202,79,104,46,111,243,116,143,130,238,120,165,99,111,132,200,120,20,140,199,2,8,144,190,255,250,164,80,108,235,190,249,163,247,198,113,120,242]⟩
theorem MT :((List.range 64).all fun i=>mI Xl i==Hi.getD i 0)=true:=by decide+kernel
theorem vP (i:Nat)(h:i<64):mI ⟨#[66,138,47,152,113,55,68,145,181,192,251,207,233,181,219,165,57,86,194,91,89,241,17,241,146,63,130,164,171,28,94,213,216,7,170,152,18,131,91,1,36,49,133,190,85,12,125,195,114,190,93,116,128,222,177,254,155,220,6,167,193,155,241,116,228,155,105,193,239,190,71,134,15,193,157,198,36,12,161,204,45,233,44,111,74,116,132,170,92,176,169,220,118,249,136,218,152,62,81,82,168,49,198,109,176,3,39,200,191,89,127,199,198,224,11,243,213,167,145,71,6,202,99,81,20,41,41,103,39,183,10,133,46,27,33,56,77,44,109,252,83,56,13,19,101,10,115,84,118,106,10,187,129,194,201,46,146,114,44,133,162,191,232,161,168,26,102,75,194,75,139,112,199,108,81,163,209,146,232,25,214,153,6,36,244,14,53,133,16,106,160,112,25,164,193,22,30,55,108,8,39,72,119,76,52,176,188,181,57,28,12,179,78,216,170,74,91,156,202,79,104,46,111,243,116,143,130,238,120,165,99,111,132,200,120,20,140,199,2,8,144,190,255,250,164,80,108,235,190,249,163,247,198,113,120,242]⟩ i=uU.getD i 0:=by
 have:=ZH.1 MT i (ZV.2 h);rw[CE];exact yO.1 this
theorem agA (i:Nat):uU.getD i 0<4294967296:=by
 rw[CE];by_cases h:i<64
 ·rw[<-CE,<-vP i h];exact Bk _ _
 rw[zw,y8 (by simp[Hi];omega)];simp
theorem Xm (i:Nat)(w:World)(h:i<64):Calls prog 236 #[i] w fun e w'=>e= .returned (.int .u32 (uU.getD i 0:Nat))/\∃n,w'=w.drewN n:=by
 have b:=za (vP i h);generalize c:uU.getD i 0=K at*;go_enter func236,ntmps236
 go_wp2_with fail
 refine(P0 _ i _ (by simp[ByteArray.size];omega) (by simp[ByteArray.size])).mono ?_;rintro e w' ⟨rfl,n,rfl⟩;rw[b.out];go_wp2;go_ret;exact⟨rfl,_,rfl⟩
theorem vQ (g:Nat)(s:ByteArray)(k:Nat)(w:World)(h:iL w g s k 0)(j:k<s.size)(l:s.size<=9223372036854775807):
 Calls prog 214 #[(g,0)] w fun e w'=>e= .returned (.int .u8 s[k].toNat)/\iL w' g s (k+1) (0)/\ae [g] w w':=by
 have c:=h.cell 0;have d:=h.cell 1;have b:=h.cell 2;have i:=h.frozen 1;have m:=h.frozen 2;have n:=h.lt;simp at c d b;have H:=za h;clear h;go_enter func214,ntmps214
 go_wp2;go_quiet (fail)
 go_wp2;go_region
 all_goals go_wp2
 go_end0
 go_wp2;go_ret;refine⟨rfl, ?_,CM⟩;have h:=H.out;unfold iL at h⊢
 (repeat(first|with_reducible assumption|with_reducible apply ag.drewN|with_reducible apply ag.drew|with_reducible apply ag.alloc|((with_reducible apply ag.beside); · (first|omega|(simp<;>omega)))|with_reducible apply ag.store));all_goals(first|rfl|simp)
theorem nW {x:Nat×Nat×Int}{b:Nat}{c:Int}(h:x=(a,b,c)):Ending.returned (.tuple #[a,b,c])= .returned (.tuple #[x.1,x.2.1,x.2.2]):=by rw[h]
theorem sW (most:Int)(s:ByteArray)(w:World)(o:s.size<=9223372036854775807)(y: -9223372036854775808<=most)(z:most<=9223372036854775807):
 Calls prog 103 #[most,s] w fun e w'=>e= .returned (.tuple #[.int .i64 (aw most s).1,.int .i64 (aw most s).2.1,.int .i64 (aw most s).2.2])/\w=w':=by
 have i:=ia s;have d:=za (fun w=>rP s w o);have h:=za (show aw most s=(if(ay s).2.2=0 then(if most<(ay s).1 then(0,0,5)else((ay s).1,(ay s).2.1,0))else(0,0,(ay s).2.2))from rfl);generalize ay s=x at*;obtain⟨n,k,m⟩:=x;dsimp only at*;rcases eN m with⟨c,p,l⟩|⟨c,p,l⟩
 ·subst c;have u:=i rfl;clear i;by_cases j:most<n
  ·have b:=za (by have:=h.out;rw[zj rfl,zj j]at this;exact this);rcases Int.lt_or_le most 0 with DZ|DZ
   ·go_enter func103,ntmps103
    go_wp2_with fail
    refine(d.out _).mono ?_;rintro e w' ⟨rfl,rfl⟩;go_wp2;go_ret3
    exact⟨nW b.out,rfl⟩
   have q:IntKind.u64.wrap most=most:=xx _ (by omega);go_enter func103,ntmps103
   go_wp2_with fail
   refine(d.out _).mono ?_;rintro e w' ⟨rfl,rfl⟩;go_wp2;go_ret3
   exact⟨nW b.out,rfl⟩
  have b:=za (by have:=h.out;rw[zj rfl,zi j]at this;exact this);have q:IntKind.u64.wrap most=most:=xx _ (by omega);have r:decide (most<(n:Int))=false:=zv j;go_enter func103,ntmps103
  go_wp2_with fail
  refine(d.out _).mono ?_;rintro e w' ⟨rfl,rfl⟩;go_wp2;go_ret3
  exact⟨nW b.out,rfl⟩
 have b:=za (by have:=h.out;rw[zi c]at this;exact this);clear i c;go_enter func103,ntmps103
 go_wp2_with fail
 refine(d.out _).mono ?_;rintro e w' ⟨rfl,rfl⟩;go_wp2;go_ret3
 exact⟨nW b.out,rfl⟩
theorem qx :ByteArray.empty=⟨#[]⟩:=rfl
def KC (x:Int×Nat×ByteArray×Nat)(w:World)(e:Ending)(w':World):Prop:=
 e= .returned (.tuple #[.agg #[.int .u64 x.2.1,ByteArray.empty,x.2.2.1],x.2.2.2,x.1])/\(w,w')
theorem uy {x:Int×Nat×ByteArray×Nat}{w':World}{a:Int}{b:Nat}{c:ByteArray}{e:Int}(h:x=(a,b,c,d))(hd:e=d)(i:Below w.heap.size w w'):
 KC x w (.returned (.tuple #[.agg #[.int .u64 b,ByteArray.empty,c],e,a])) w':=by
 subst h;subst hd;exact⟨rfl,i⟩
theorem km (most:Int)(s:ByteArray)(w:World)(z:s.size<=9223372036854775807)(eM: -9223372036854775808<=most)(so:most<=9223372036854775807):
 Calls prog 96 #[most,s] w (KC (aj most s) w):=by
 have I:=rE most s;have E:=za (fun w=>sW most s w z eM so);have y:=za (eH most s);generalize aj most s=X at*;generalize aw most s=ab at*;obtain⟨n,k,O⟩:=ab;dsimp only at*;rcases eN O with⟨G,h1,Z⟩|⟨G,h1,Z⟩
 ·subst G;obtain⟨hn,hk,JH,ad⟩:=I rfl;clear I;by_cases H:s.size<k+n
  ·have A:=za (by have:=y.out;rw[zi (by simp),zj H]at this;exact this);clear y;go_enter func96,ntmps96
   go_wp2_with fail
   refine(E.out _).mono ?_;rintro e w' ⟨rfl,rfl⟩;go_wp2_with fail
   refine(rS s _).mono ?_;rintro e d ⟨rfl,c⟩;have u:iL d (w.heap.size+1) s 0 0:=by rw[c];have:=ag.new (w.alloc (.cells #[.int .u64 0,eS,eS] 103)) 234 #[s,(0:Int),(0:Int)];rw[zt]at this;exact this
   have l:ag d w.heap.size 103 #[.int .u64 0,eS,eS]:=by rw[c];exact(ag.new w _ _).alloc _
   have x:Below w.heap.size w d:=by rw[c];exact bO
   have L:d.heap.size=w.heap.size+2:=by rw[c];simp
   rw[zt];clear c;go_wp2_with fail
   refine(eD (w.heap.size+1) s 0 k _ u z (by omega)).mono ?_;rintro e R ⟨rfl,h,i⟩;rw[zJ]at h;have q:=l.only i (by simp);have S:=i.size;have j:=x.trans (i.below (B:=w.heap.size) (by omega) (by simp));clear u l x;go_wp2_with fail
   refine(fZ (w.heap.size+1) s k n _ h hk z H (by omega)).mono ?_;rintro e w3 ⟨rfl,C,m⟩;have b:=q.only m (by simp);have D:=za (j.trans (m.below (B:=w.heap.size) (by omega) (by simp)));have r:=b.cell 0;have p:=b.cell 1;have o:=b.cell 2;have U:=b.frozen 0;have W:=b.frozen 1;have Y:=b.frozen 2;simp at r p o;clear q j h;go_wp2_with fail
   refine(bs (w.heap.size+1) s _ _ _ C).mono ?_;rintro e w' ⟨rfl,rfl⟩;go_wp2;refine zl (v:= .tuple #[.agg #[.int .u64 0,ByteArray.empty,ByteArray.empty],(0:Int),(2:Int)]) (by simp[results,results96,go_sem,qx,r,p,o]) rfl ?_;exact uy A.out rfl (((D.out.setCell (by simp) _).setCell (by simp) _).setCell (by simp) _)
  have K:=za (fun w=>rP (s.extract k (k+n)) w (by rw[ar _ _ _ (by omega)];omega));have F:=ia (s.extract k (k+n));rw[ar _ _ _ (by omega:k+n<=s.size),Nat.add_sub_cancel_left]at F;have ae:(s.extract k (k+n)).size=n:=by rw[ar _ _ _ (by omega)];omega
  generalize N:s.extract k (k+n)=M at*;have J:=za N;generalize ay M=aa at*;obtain⟨id,sz,f⟩:=aa;dsimp only at*;clear N;rcases eN f with⟨g0,g1,g2⟩|⟨g0,g1,g2⟩
  ·subst g0;obtain⟨l1,l2,l3,l4⟩:=F rfl;have A:=za (by have:=y.out;rw[zi (by simp),zi H,zi (by simp)]at this;exact this);clear y F;go_enter func96,ntmps96
   go_wp2_with fail
   refine(E.out _).mono ?_;rintro e w' ⟨rfl,rfl⟩;go_wp2_with fail
   refine(rS s _).mono ?_;rintro e d ⟨rfl,c⟩;have u:iL d (w.heap.size+1) s 0 0:=by rw[c];have:=ag.new (w.alloc (.cells #[.int .u64 0,eS,eS] 103)) 234 #[s,(0:Int),(0:Int)];rw[zt]at this;exact this
   have l:ag d w.heap.size 103 #[.int .u64 0,eS,eS]:=by rw[c];exact(ag.new w _ _).alloc _
   have x:Below w.heap.size w d:=by rw[c];exact bO
   have L:d.heap.size=w.heap.size+2:=by rw[c];simp
   rw[zt];clear c;go_wp2_with fail
   refine(eD (w.heap.size+1) s 0 k _ u z (by omega)).mono ?_;rintro e R ⟨rfl,h,i⟩;rw[zJ]at h;have q:=l.only i (by simp);have S:=i.size;have j:=x.trans (i.below (B:=w.heap.size) (by omega) (by simp));clear u l x;go_wp2_with fail
   refine(eD (w.heap.size+1) s k n _ h z (by omega)).mono ?_;rintro e w3 ⟨rfl,C,m⟩;rw[J.out];have b:=q.only m (by simp);have D:=za (j.trans (m.below (B:=w.heap.size) (by omega) (by simp)));have r:=b.cell 0;have p:=b.cell 1;have o:=b.cell 2;have U:=b.frozen 0;have W:=b.frozen 1;have Y:=b.frozen 2;simp at r p o;clear q j h;go_wp2_with fail
   refine(bs (w.heap.size+1) s _ _ _ C).mono ?_;rintro e w' ⟨rfl,rfl⟩;go_wp2_with fail
   refine(K.out _).mono ?_;rintro e w' ⟨rfl,rfl⟩;go_wp2;refine zl (v:= .tuple #[.agg #[.int .u64 id,ByteArray.empty,.string (M.extract sz n)],.int .i64 ((k:Int)+n),(0:Int)]) (by simp[results,results96,go_sem,qx,r,p,o]) rfl ?_;exact uy A.out (by omega) (((D.out.setCell (by simp) _).setCell (by simp) _).setCell (by simp) _)
  have A:=za (by have:=y.out;rw[zi (by simp),zi H,zj g0]at this;exact this);clear y F g0;go_enter func96,ntmps96
  go_wp2_with fail
  refine(E.out _).mono ?_;rintro e w' ⟨rfl,rfl⟩;go_wp2_with fail
  refine(rS s _).mono ?_;rintro e d ⟨rfl,c⟩;have u:iL d (w.heap.size+1) s 0 0:=by rw[c];have:=ag.new (w.alloc (.cells #[.int .u64 0,eS,eS] 103)) 234 #[s,(0:Int),(0:Int)];rw[zt]at this;exact this
  have l:ag d w.heap.size 103 #[.int .u64 0,eS,eS]:=by rw[c];exact(ag.new w _ _).alloc _
  have x:Below w.heap.size w d:=by rw[c];exact bO
  have L:d.heap.size=w.heap.size+2:=by rw[c];simp
  rw[zt];clear c;go_wp2_with fail
  refine(eD (w.heap.size+1) s 0 k _ u z (by omega)).mono ?_;rintro e R ⟨rfl,h,i⟩;rw[zJ]at h;have q:=l.only i (by simp);have S:=i.size;have j:=x.trans (i.below (B:=w.heap.size) (by omega) (by simp));clear u l x;go_wp2_with fail
  refine(eD (w.heap.size+1) s k n _ h z (by omega)).mono ?_;rintro e w3 ⟨rfl,C,m⟩;rw[J.out];have b:=q.only m (by simp);have D:=za (j.trans (m.below (B:=w.heap.size) (by omega) (by simp)));have r:=b.cell 0;have p:=b.cell 1;have o:=b.cell 2;have U:=b.frozen 0;have W:=b.frozen 1;have Y:=b.frozen 2;simp at r p o;clear q j h;go_wp2_with fail
  refine(bs (w.heap.size+1) s _ _ _ C).mono ?_;rintro e w' ⟨rfl,rfl⟩;go_wp2_with fail
  refine(K.out _).mono ?_;rintro e w' ⟨rfl,rfl⟩;go_wp2;refine zl (v:= .tuple #[.agg #[.int .u64 0,ByteArray.empty,ByteArray.empty],(0:Int),(3:Int)]) (by simp[results,results96,go_sem,qx,r,p,o]) rfl ?_;exact uy A.out rfl (((D.out.setCell (by simp) _).setCell (by simp) _).setCell (by simp) _)
 have A:=za (by have:=y.out;rw[zj G]at this;exact this);clear y I G;go_enter func96,ntmps96
 go_wp2_with fail
 refine(E.out _).mono ?_;rintro e w' ⟨rfl,rfl⟩;go_wp2;refine zl (v:= .tuple #[.agg #[.int .u64 0,ByteArray.empty,ByteArray.empty],.int .i64 0,.int .i64 O]) (by simp[results,results96,go_sem,qx]) rfl ?_;exact uy A.out rfl bO
theorem Xn {L:List UInt8}(b:n+mt L (j+n) (i+n) (64-n)=X)(e:n<64)(c:i+n<L.length)(d:L[j+n]?=L[i+n]?):(n+1)+mt L (j+(n+1)) (i+(n+1)) (64-(n+1))=X:=by
 rw[<-b,show 64-n=(64-(n+1))+1 from by omega,mt,zj ⟨c,d⟩];rw[show j+(n+1)=j+n+1 from by omega,show i+(n+1)=i+n+1 from by omega];omega
theorem P4 {L:List UInt8}(e:n+mt L (j+n) (i+n) (64-n)=X)(k:n<=64)(h:¬n<64\/¬i+n<L.length\/L[j+n]?≠L[i+n]?):X=n:=by
 rw[<-e];by_cases c:n<64
 ·rw[show 64-n=(64-(n+1))+1 from by omega,mt,zi (by
   rintro⟨d,b⟩;rcases h with h|h|h
   ·exact h c
   ·exact h d
   exact h b)];rfl
 rw[show 64-n=0 from by omega];rfl
theorem KD {b:Nat}(d:a<s.size)(c:b<s.size):(s[a].toNat==s[b].toNat)=true↔s.data.toList[a]?=s.data.toList[b]?:=by
 rw[iu s a d,iu s b c];simp[zT]
theorem IS (w:World)(a b:Nat):(w.drewN a).drewN b=w.drewN (a+b):=by simp[World.drewN,yg]
theorem Db {k:IntKind}{b:Nat}(h:a=b):Ending.returned (.int k b)= .returned (.int k a):=by rw[h]
theorem TN (s:ByteArray)(j i:Nat)(w:World)(y:j<i)(hi:i<=s.size)(z:s.size<=9223372036854775000):
 Calls prog 178 #[s,j,i] w fun e w'=>e= .returned (.int .i64 (mt s.data.toList j i 64))/\∃m,w'=w.drewN m:=by
 go_enter func178,ntmps178
 go_wp2;go_loopw [7] (fun v wr=>∃n:Nat,n<=64/\n<=64/\v= .int .i64 n/\Hid (n+mt s.data.toList (j+n) (i+n) (64-n)=mt s.data.toList j i 64)/\∃m,wr=w.drewN m) (fun v _=>64-(intOf v).toNat)
 case atStart=>exact⟨0,by omega,by omega,rfl,za (by simp),0,rfl⟩
 case round=>
  obtain⟨n,d,_,rfl,c,m,rfl⟩:=hrel;by_cases l:n<64
  ·have q:decide ((n:Int)<64)=true:=zF (by omega);have B:IntKind.i64.wrap ((i:Int)+n)=(i:Int)+n:=zZ _ (by omega);have x:IntKind.i64.wrap ((j:Int)+n)=(j:Int)+n:=zZ _ (by omega);by_cases b:i+n<s.size
   ·have p:decide ((i:Int)+n<s.size)=true:=zF (by omega);have A:((j:Int)+n).toNat=j+n:=by omega
    have F:((i:Int)+n).toNat=i+n:=by omega
    have E:0<=(j:Int)+n:=by omega
    have C:0<=(i:Int)+n:=by omega
    have u:(j:Int)+n<s.size:=by omega
    have D:(i:Int)+n<s.size:=by omega
    have o:j+n<s.size:=by omega
    rcases xf (s[j+n].toNat==s[i+n].toNat)with hb|hb
    ·have k:=za ((KD o b).1 hb);have r:((s[j+n].toNat:Int)==s[i+n].toNat)=true:=by
      have:=eq_of_beq hb;rw[this];simp
     clear hb;go_wp2;go_quiet (fail)
     go_wp2;go_roundw
     case rel=>exact⟨n+1,by omega,by omega,by go_num,za (Xn c.out l (by simpa using b) k.out),_,rfl⟩
     case measure=>simp[intOf];omega
    have k:Hid (¬(s.data.toList[j+n]?=s.data.toList[i+n]?)):=za (by
     intro h;rw[(KD o b).2 h]at hb;exact absurd hb (by decide))
    have r:((s[j+n].toNat:Int)==s[i+n].toNat)=false:=by
     have:=ne_of_beq_false hb;exact zp.2 (by omega)
    clear hb;go_wp2;go_quiet (fail)
    go_wp2;go_ret;exact⟨Db (P4 c.out d (.inr (.inr k.out))),_,IS _ _ _⟩
   have p:decide ((i:Int)+n<s.size)=false:=zv (by omega);go_wp2;go_quiet (fail)
   go_wp2;go_ret;exact⟨Db (P4 c.out d (.inr (.inl (by simpa using b)))),_,IS _ _ _⟩
  have q:decide ((n:Int)<64)=false:=zv (by omega);go_wp2;go_quiet (fail)
  go_wp2;go_ret;exact⟨Db (P4 c.out d (.inl l)),_,IS _ _ _⟩
def P5 (base:Nat)(w:World)(l:List UInt8)(e:Ending)(w':World):Prop:=
 ∃(A:Option Addr) (n cap:Nat),e= .returned (.slice A n cap)/\bP w' base 5 (.slice A n cap) l/\Kept 5 base w w'
theorem Xo (h:l.length=0):ig l= []:=by unfold ig;rw[zj h]
theorem Xp (h:l.length≠0)(b:l.length<=60):ig l= [ub (4*(l.length-1):Nat)]++l:=by unfold ig;rw[zi h,zj b];rfl
theorem Xq (h:¬l.length<=60)(b:l.length<=256):ig l= [ub (240:Nat),ub (l.length-1:Nat)]++l:=by unfold ig;rw[zi (by omega),zi h,zj b];rfl
theorem Xr (h:¬l.length<=256)(b:l.length<=65536):ig l= [ub (244:Nat)]++(jr (l.length-1) 2++l):=by
 unfold ig;rw[zi (by omega),zi (by omega),zi h];simp only[jr];simp;refine⟨rfl, ?_⟩;rw[Int.emod_eq_of_lt (by omega) (by omega)]
theorem KE (base:Nat)(v:Value)(l:List UInt8)(s:ByteArray)(w:World)(h:bP w base 5 v l)(y:base<=w.heap.size)(X:l.length<=1000000)(Y:s.size<=65536):
 Calls prog 177 #[v,s] w (P5 base w (l++ig s.data.toList)):=by
 obtain⟨i0,hi,k,d,i⟩:=yz rQ;obtain⟨A,cap,rfl,uB,kr⟩:=h.form;generalize W:l.length=n at*;have j:=aa s;by_cases r:s.size=0
 ·have J:((s.size:Int)==0)=true:=by simp[r]
  have c:=za (Xo (l:=s.data.toList) (by omega));clear r j;go_enter func177,ntmps177
  go_wp2;go_ret;exact⟨A,n,cap,rfl,by rw[c.out,yT];exact h,Kept.refl _ _ _⟩
 have J:((s.size:Int)==0)=false:=zp.2 (by omega);have fc:1<=s.size:=by omega
 by_cases Z:s.size<=60
 ·have c:=za (Xp (l:=s.data.toList) (by omega) (by omega));have p:=za (show s.data.toList.length-1=s.size-1 by rw[j]);clear r j;go_enter func177,ntmps177
  go_wp2_with (first|(at_builtin;refine aP (by rfl) (.tmp 29) (.tmp 34) 75 75 (by rfl) base 5 i0 zq hi k d i (by rfl) (h.alloc _) _ [ub (4*(s.size-1):Nat)] (by rfl) (j6 zq w 5 _ [ub (4*(s.size-1):Nat)] 1 (oZ (by omega) (by omega))) (by rw[zt];omega) (by simp only[zz,zO];omega) ?_;intro E n1 H I o b)|(at_builtin;refine aP (by rfl) (.tmp 45) (.tmp 46) 75 9 (by rfl) base 5 i0 zq hi k d i (by rfl) o _ s.data.toList (by rfl) (iz zM _ s) (zG (by rw[zt];omega) b.size) (by simp only[zk,zz,zO,aa];omega) ?_;intro u n2 x D q m))
  go_ret;refine⟨u,n2,x,rfl, ?_,((Kept.refl _ _ _).alloc y _).trans (b.trans m)⟩;rw[c.out,p.out,<-zC];exact q
 by_cases U:s.size<=256
 ·have c:=za (Xq (l:=s.data.toList) (by omega) (by omega));have p:=za (show s.data.toList.length-1=s.size-1 by rw[j]);clear r j;go_enter func177,ntmps177
  go_wp2_with (first|(at_builtin;refine aP (by rfl) (.tmp 39) (.tmp 43) 75 75 (by rfl) base 5 i0 zq hi k d i (by rfl) (h.alloc _) _ [ub (240:Nat),ub (s.size-1:Nat)] (by rfl) (j6 zq w 5 _ [ub (240:Nat),ub (s.size-1:Nat)] 2 (OS (by omega) (by omega) (by omega) (by omega))) (by rw[zt];omega) (by simp only[zz,zO];omega) ?_;intro E n1 H I o b)|(at_builtin;refine aP (by rfl) (.tmp 45) (.tmp 46) 75 9 (by rfl) base 5 i0 zq hi k d i (by rfl) o _ s.data.toList (by rfl) (iz zM _ s) (zG (by rw[zt];omega) b.size) (by simp only[zk,zz,zO,aa];omega) ?_;intro u n2 x D q m))
  go_ret;refine⟨u,n2,x,rfl, ?_,((Kept.refl _ _ _).alloc y _).trans (b.trans m)⟩;rw[c.out,p.out,<-zC];exact q
 have c:=za (Xr (l:=s.data.toList) (by omega) (by omega));have p:=za (show s.data.toList.length-1=s.size-1 by rw[j]);have G:=za (jG (s.size-1) 2 w (by omega) (by omega) (by omega));rw[show((s.size-1:Nat):Int)=(s.size:Int)-1 from by omega]at G;have z:(⟨(jr (s.size-1) 2).toArray⟩:ByteArray).data.toList=jr (s.size-1) 2:=rfl;generalize (⟨(jr (s.size-1) 2).toArray⟩:ByteArray)=T at*;have NV:T.data.toList.length=2:=by rw[z,bc]
 have N:=za z;clear r j z;go_enter func177,ntmps177
 go_wp2_with fail
 refine G.out.mono ?_;rintro e C ⟨rfl,B⟩;have hz:=B.size;have R:=h.below B;have O:Kept 5 base w C:=Kept.ai B (zd _) y;go_wp2_with (first|(at_builtin;refine aP (by rfl) (.tmp 17) (.tmp 18) 75 75 (by rfl) base 5 i0 zq hi k d i (by rfl) (R.alloc _) _ [ub (244:Nat)] (by rfl) (j6 zq C 5 _ [ub (244:Nat)] 1 (oZ (by omega) (by omega))) (by rw[zt];omega) (by simp only[zz,zO];omega) ?_;intro E n1 H I o b)|(at_builtin;refine aP (by rfl) (.tmp 19) (.tmp 20) 75 9 (by rfl) base 5 i0 zq hi k d i (by rfl) o _ T.data.toList (by rfl) (iz zM _ T) (zG (by rw[zt];omega) b.size) (by simp only[zk,zz,zO];omega) ?_;intro u n2 x D q m)|(at_builtin;refine aP (by rfl) (.tmp 45) (.tmp 46) 75 9 (by rfl) base 5 i0 zq hi k d i (by rfl) q _ s.data.toList (by rfl) (iz zM _ s) (zG (by rw[zt];omega) (b.trans m).size) (by simp only[zk,zz,zO,aa];rw[<-aa T];omega) ?_;intro K S L w3 F M))
 go_ret;refine⟨K,S,L,rfl, ?_,O.trans (((Kept.refl _ _ _).alloc (by omega) _).trans (b.trans (m.trans M)))⟩;rw[N.out]at F;rw[c.out,p.out,<-zC,<-zC];exact F
theorem Xs (h:n<=11)(b:d<2048):kM n d= [ub (1+4*(n-4)+32*(d/256):Nat),ub (d%256:Nat)]:=by unfold kM;rw[zj ⟨h,b⟩]
theorem Xt (h:¬(n<=11/\d<2048))(hd:d<65536):kM n d= [ub (2+4*(n-1):Nat)]++jr d 2:=by
 unfold kM;rw[zi h];simp only[jr];simp;rw[Int.emod_eq_of_lt (by omega) (by omega)]
theorem TO (base:Nat)(v:Value)(l:List UInt8)(n d:Nat)(w:World)(h:bP w base 5 v l)(z:base<=w.heap.size)(O:l.length<=1000000)(M:4<=n)(N:n<=64)(hd:d<65536):
 Calls prog 179 #[v,n,d] w (P5 base w (l++kM n d)):=by
 obtain⟨i0,hi,q,j,m⟩:=yz rQ;obtain⟨A,cap,rfl,X,U⟩:=h.form;generalize R:l.length=S at*;by_cases b:n<=11/\d<2048
 ·obtain⟨b,r⟩:=b;have i:=za (Xs b r);have K:decide ((d:Int)<2048)=true:=zF (by omega);go_enter func179,ntmps179
  go_wp2_with (at_builtin;refine aP (by rfl) (.tmp 15) (.tmp 28) 75 75 (by rfl) base 5 i0 zq hi q j m (by rfl) (h.alloc _) _ [ub (1+4*(n-4)+32*(d/256):Nat),ub (d%256:Nat)] (by rfl) (j6 zq w 5 _ [ub (1+4*(n-4)+32*(d/256):Nat),ub (d%256:Nat)] 2 (OS (by omega) (by omega) (by omega) (by omega))) (by rw[zt];omega) (by simp only[zz,zO];omega) ?_;intro u n1 x J k c)
  go_ret;exact⟨u,n1,x,rfl,by rw[i.out];exact k,((Kept.refl _ _ _).alloc z _).trans c⟩
 have i:=za (Xt b hd);have H:11<n\/(n<=11/\2048<=d):=by omega
 have C:=za (jG d 2 w (by omega) (by omega) (by omega));have o:(⟨(jr d 2).toArray⟩:ByteArray).data.toList=jr d 2:=rfl;generalize (⟨(jr d 2).toArray⟩:ByteArray)=T at*;have W:T.data.toList.length=2:=by rw[o,bc]
 have F:=za o;clear b o;rcases H with b|⟨b,r⟩;all_goals
  go_enter func179,ntmps179
  go_wp2_with fail
  refine C.out.mono ?_;rintro e s ⟨rfl,p⟩;have hz:=p.size;have I:=h.below p;have G:Kept 5 base w s:=Kept.ai p (zd _) z;go_wp2_with (first|(at_builtin;refine aP (by rfl) (.tmp 36) (.tmp 42) 75 75 (by rfl) base 5 i0 zq hi q j m (by rfl) (I.alloc _) _ [ub (2+4*(n-1):Nat)] (by rfl) (j6 zq s 5 _ [ub (2+4*(n-1):Nat)] 1 (oZ (by omega) (by omega))) (by rw[zt];omega) (by simp only[zz,zO];omega) ?_;intro u n1 x J k c)|(at_builtin;refine aP (by rfl) (.tmp 43) (.tmp 44) 75 9 (by rfl) base 5 i0 zq hi q j m (by rfl) k _ T.data.toList (by rfl) (iz zM _ T) (zG (by rw[zt];omega) c.size) (by simp only[zk,zz,zO];omega) ?_;intro D n2 E L y B))
  go_ret;refine⟨D,n2,E,rfl, ?_,G.trans (((Kept.refl _ _ _).alloc (by omega) _).trans (c.trans B))⟩;rw[F.out]at y;rw[i.out,<-zC];exact y
theorem sX (s:ByteArray)(k:Nat)(h:k<=s.size):s.size-(s.data.toList.drop k).length=k:=by rw[zP,aa];omega
theorem Dc (x:Int)(c: -9223372036854775808<=x)(b:x<=9223372036854775807):wrap64 x=x:=by unfold wrap64;omega
theorem P6 (m b:Nat)(h:m<1000000)(d:48<=b)(c:b<=57):wrap64 (wrap64 (wrap64 (10*(m:Int))+wrap64 (b:Int))-48)=((10*m+(b-48):Nat):Int):=by
 rw[Dc (10*(m:Int)) (by omega) (by omega),Dc (b:Int) (by omega) (by omega),Dc (10*(m:Int)+b) (by omega) (by omega),Dc _ (by omega) (by omega)];omega
def eh (s:ByteArray):Option (Nat×List UInt8)->Ending
 |none=> .returned (.tuple #[(0:Int),.int .i64 (-1)])
 |some (n,r)=> .returned (.tuple #[n,((s.size-r.length:Nat):Int)])
theorem pj (s:ByteArray)(at_:Nat)(w:World)(M:at_<=s.size)(O:s.size<=100000):
 Calls prog 56 #[s,at_] w fun e w'=>e=eh s (cg (s.data.toList.drop at_))/\w=w':=by
 obtain⟨R,d⟩:∃R,Hid (eh s (cg (s.data.toList.drop at_))=R):=⟨_,za rfl⟩
 rw[d.out];go_enter func56,ntmps56
 go_wp2_with fail
 go_loop [6,1] (fun n i=>∃k m:Nat,at_<=k/\k<=s.size/\m<=10000100/\Hid (kO s at_ k m)/\n= .int .i64 m/\i= .int .i64 k) (fun _ i=>s.size-(intOf i).toNat)
 case atStart=>exact⟨at_,0,by omega,M,by omega,za (kO.start s at_),rfl,rfl⟩
 case round=>
  obtain⟨k,m,N,p,x,hrel,rfl,rfl⟩:=hrel;by_cases A:k<s.size
  ·by_cases y:48<=s[k].toNat
   ·by_cases r:s[k].toNat<=57
    ·have B:=za (hrel.out.next A ((kN _).2 ⟨y,r⟩));have C:=za (vc m s[k] x r);have z:decide ((48:Int)<=(s[k].toNat:Int))=true:=zF (by omega);have o:decide ((s[k].toNat:Int)<=57)=true:=zF (by omega);have I:=za y;have F:=za r;clear y r;by_cases q:m<1000000
     ·have u:Hid (fj m s[k]=10*m+(s[k].toNat-48)):=za (by simp[fj,q]);have J:decide ((m:Int)<1000000)=true:=zF (by omega);have H:=za q;clear q x;go_wp2_with fail
      go_round
      case rel=>exact⟨k+1,fj m s[k],by omega,by omega,C.out,B,by rw[u.out];have G:=I.out;have L:=F.out;have K:=H.out;rw[P6 m s[k].toNat K G L],by go_num⟩
      case measure=>simp[intOf];omega
     have u:Hid (fj m s[k]=m):=za (by simp[fj,q]);have J:decide ((m:Int)<1000000)=false:=zv (by omega);clear q x;go_wp2_with fail
     go_round
     case rel=>exact⟨k+1,fj m s[k],by omega,by omega,C.out,B,by rw[u.out],by go_num⟩
     case measure=>simp[intOf];omega
    have j:Hid (∀h:k<s.size,i' s[k]=false):=za (fun h=>by simp[i'];omega);have z:decide ((s[k].toNat:Int)<=57)=false:=zv (by omega);rcases(show k=at_\/at_<k from by omega)with rfl|hak
    ·have b:Hid (R= .returned (.tuple #[(0:Int),.int .i64 (-1)])):=za (by rw[<-d.out,nO j.out];rfl);go_wp2;all_goals
      go_ret2
      exact⟨by rw[b.out];rfl,rfl⟩
    have D:at_<s.size:=(hrel.out.2 at_ (by omega) hak).1;have E:((k:Int)==(at_:Int))=false:=zp.2 (by omega);by_cases c:s[at_].toNat=48
    ·have o:((s[at_].toNat:Int)==48)=true:=by simp[c]
     by_cases l:at_+1<k
     ·have b:Hid (R= .returned (.tuple #[(0:Int),.int .i64 (-1)])):=za (by rw[<-d.out,nP hrel.out l (fun _=>c)];rfl);clear c;go_wp2;all_goals
       go_ret2
       exact⟨by rw[b.out];rfl,rfl⟩
     have b:Hid (R= .returned (.tuple #[m,k])):=za (by rw[<-d.out,j9 hrel.out hak j.out (fun h=>absurd h l)];simp only[eh,sX s k p]);clear c;go_wp2;all_goals
      go_ret2
      exact⟨by rw[b.out];rfl,rfl⟩
    have o:((s[at_].toNat:Int)==48)=false:=zp.2 (by omega);have b:Hid (R= .returned (.tuple #[m,k])):=za (by rw[<-d.out,j9 hrel.out hak j.out (fun _ _=>c)];simp only[eh,sX s k p]);clear c;go_wp2;all_goals
     go_ret2
     exact⟨by rw[b.out];rfl,rfl⟩
   have j:Hid (∀h:k<s.size,i' s[k]=false):=za (fun h=>by simp[i'];omega);have z:decide ((48:Int)<=(s[k].toNat:Int))=false:=zv (by omega);rcases(show k=at_\/at_<k from by omega)with rfl|hak
   ·have b:Hid (R= .returned (.tuple #[(0:Int),.int .i64 (-1)])):=za (by rw[<-d.out,nO j.out];rfl);go_wp2;all_goals
     go_ret2
     exact⟨by rw[b.out];rfl,rfl⟩
   have D:at_<s.size:=(hrel.out.2 at_ (by omega) hak).1;have E:((k:Int)==(at_:Int))=false:=zp.2 (by omega);by_cases c:s[at_].toNat=48
   ·have o:((s[at_].toNat:Int)==48)=true:=by simp[c]
    by_cases l:at_+1<k
    ·have b:Hid (R= .returned (.tuple #[(0:Int),.int .i64 (-1)])):=za (by rw[<-d.out,nP hrel.out l (fun _=>c)];rfl);clear c;go_wp2;all_goals
      go_ret2
      exact⟨by rw[b.out];rfl,rfl⟩
    have b:Hid (R= .returned (.tuple #[m,k])):=za (by rw[<-d.out,j9 hrel.out hak j.out (fun h=>absurd h l)];simp only[eh,sX s k p]);clear c;go_wp2;all_goals
     go_ret2
     exact⟨by rw[b.out];rfl,rfl⟩
   have o:((s[at_].toNat:Int)==48)=false:=zp.2 (by omega);have b:Hid (R= .returned (.tuple #[m,k])):=za (by rw[<-d.out,j9 hrel.out hak j.out (fun _ _=>c)];simp only[eh,sX s k p]);clear c;go_wp2;all_goals
    go_ret2
    exact⟨by rw[b.out];rfl,rfl⟩
  have j:Hid (∀h:k<s.size,i' s[k]=false):=za (fun h=>absurd h A);rcases(show k=at_\/at_<k from by omega)with rfl|hak
  ·have b:Hid (R= .returned (.tuple #[(0:Int),.int .i64 (-1)])):=za (by rw[<-d.out,nO j.out];rfl);go_wp2;all_goals
    go_ret2
    exact⟨by rw[b.out];rfl,rfl⟩
  have D:at_<s.size:=(hrel.out.2 at_ (by omega) hak).1;have E:((k:Int)==(at_:Int))=false:=zp.2 (by omega);by_cases c:s[at_].toNat=48
  ·have o:((s[at_].toNat:Int)==48)=true:=by simp[c]
   by_cases l:at_+1<k
   ·have b:Hid (R= .returned (.tuple #[(0:Int),.int .i64 (-1)])):=za (by rw[<-d.out,nP hrel.out l (fun _=>c)];rfl);clear c;go_wp2;all_goals
     go_ret2
     exact⟨by rw[b.out];rfl,rfl⟩
   have b:Hid (R= .returned (.tuple #[m,k])):=za (by rw[<-d.out,j9 hrel.out hak j.out (fun h=>absurd h l)];simp only[eh,sX s k p]);clear c;go_wp2;all_goals
    go_ret2
    exact⟨by rw[b.out];rfl,rfl⟩
  have o:((s[at_].toNat:Int)==48)=false:=zp.2 (by omega);have b:Hid (R= .returned (.tuple #[m,k])):=za (by rw[<-d.out,j9 hrel.out hak j.out (fun _ _=>c)];simp only[eh,sX s k p]);clear c;go_wp2;all_goals
   go_ret2
   exact⟨by rw[b.out];rfl,rfl⟩
