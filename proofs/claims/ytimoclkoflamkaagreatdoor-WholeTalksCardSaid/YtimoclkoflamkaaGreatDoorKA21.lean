/- The document's Same, of items. -/
import Derived.Test.YtimoclkoflamkaaGreatDoorKA11
import Derived.StillTailTactics
import Derived.Deep.DeepCutAuto
set_option linter.all false
set_option maxRecDepth 100000
set_option maxHeartbeats 4000000
open Go.Proofs.Tryz
namespace Go.Proofs.YtimoclkoflamkaaGreatDoor
open Go.RowKit
variable {w V V' w':World}{s:ByteArray}{p L n g a d j B p' L' f q i X:Nat}{l:List UInt8}{v:Value}
def yx:=@results123
def yz:=@results197
def xK:=@ntmps123
def xP:=@func123
def ZY:=@Bool.or_eq_true
def Z6:=@List.mem_range
def Yi:=@ntmps197
def Yv:=@ntmps42
def Yw:=@func197
def jS (a b:It)(e:Ending):Prop:=∃r:Bool,e= .returned r/\(r=true↔a=b)
theorem jS.no {a b:It}(h:a≠b):jS a b (.returned false):=⟨false,rfl,by simp[h]⟩
theorem jS.yes {a b:It}(h:a=b):jS a b (.returned true):=⟨true,rfl,by simp[h]⟩
theorem J4 {s b:List It}(c:s.length=b.length)(h:∀j (d:j<s.length) (e:j<b.length),s[j]=b[j]):s=b:=List.ext_getElem c h
theorem OC :∀(x:It) (B:Nat) (w:World) (I J W:Value),bH w B x I J W->B<=w.heap.size->∀(y:It) (z u C:Value),bH w B y z u C->
 Calls prog 42 #[.agg #[I,J,W],.agg #[z,u,C]] w fun e w'=>jS x y e/\(w,w'):=by
 intro x;induction x using It.ind with
 |h t l s ih=>
  intro B w I J W h hB y z u C hy;obtain⟨rfl,rfl,ht,hs,A,cap,rfl,od,jf,da⟩:=h;have IH:=za ih;have HS:=za da;clear ih da;obtain⟨Z,N,c⟩:=y;obtain⟨rfl,rfl,ak,Qf,M,R,rfl,an,ao,XZ⟩:=hy;have ad:=za XZ;clear XZ;by_cases m:l=N
  ·subst m;have D:(l !=l)=false:=by simp
   have G:(l==l)=true:=by simp
   rcases qo t Z with⟨rfl,q1,q2⟩|⟨bX,q1,q2⟩
   ·by_cases q:s.length=c.length
    ·have H3:=za q;have e3:((s.length:Int) !=(c.length:Int))=false:=by simp[q]
     have ae:(s.length !=c.length)=false:=by simp[q]
     clear q;go_enter func42,Yv
     go_wp2_with fail
     go_loopw [5] (fun i wr=>∃k:Nat,k<=s.length/\i= .int .i64 k/\Hid (∀j (m:j<s.length) (H:j<c.length),j<k->s[j]=c[j])/\(w,wr)/\af wr w.heap.size 28 #[t,l,.slice A s.length cap]/\af wr (w.heap.size+1) 28 #[t,l,.slice M c.length R]) (fun i _=>s.length-(intOf i).toNat)
     case atStart=>exact⟨0,by omega,rfl,za (by omega),bQ,(af.new w _ _).alloc _,by have:=af.new (w.alloc (.cells #[t,l,.slice A s.length cap] 28)) 28 #[t,l,.slice M c.length R];simpa using this⟩
     case round=>
      obtain⟨k,hk,rfl,aa,d,S,E⟩:=hrel;have g1:wr.cell? (w.heap.size,2)=some (.slice A s.length cap):=S.cell 2;have g2:wr.cell? (w.heap.size+1,2)=some (.slice M c.length R):=E.cell 2;have Fq:=E.lt;have K1:=za S;have K2:=za E;clear S E;by_cases aD:k<s.length
      ·have ah:k<c.length:=by have:=H3.out;omega
       obtain⟨b,o,z,u,C,rfl,gu,L,D,U,hi⟩:=HS.out.at_ k aD;obtain⟨Y,X,ab,ai,ag,rfl,al,K,G,O,ER⟩:=ad.out.at_ k ah;simp only[zK]at L D U K G O;replace L:=(d.cell (p:=(b,o+k*3)) (by simp;omega)).trans L;replace D:=(d.cell (p:=(b,o+k*3+1)) (by simp;omega)).trans D;replace U:=(d.cell (p:=(b,o+k*3+2)) (by simp;omega)).trans U;replace K:=(d.cell (p:=(Y,X+k*3)) (by simp;omega)).trans K;replace G:=(d.cell (p:=(Y,X+k*3+1)) (by simp;omega)).trans G;replace O:=(d.cell (p:=(Y,X+k*3+2)) (by simp;omega)).trans O;have jg:=d.size;have hG:=zA aD;have HC:=za (IH.out _ hG B wr.drew z u C ((hi.below (d.mono hB)).below (zi _ _).drew) (by simp;omega) _ ab ai ag ((ER.below (d.mono hB)).below (zi _ _).drew));clear hi ER;go_wp2_with fail
       go_still_tail 10,(by kernel_rfl)
       change wpList _ _ _ _ _ wr.drew
       go_wp2_with fail
       refine HC.out.mono ?_;rintro e w2 ⟨⟨r,rfl,hr⟩,aI⟩;have HR:=za hr;have F:=za aI;clear hr aI;cases r with
       |true=>
        go_wp2;go_roundw
        case rel=>
         refine⟨k+1,by omega,by go_num,za fun j m H hj=> ?_,d.drew.trans (F.out.mono (by simpa using jg)),K1.out.drew.ah F.out (by simp;omega),K2.out.drew.ah F.out (by simpa using Fq)⟩;by_cases KY:j=k
         ·subst KY;exact HR.out.1 (by simp)
         exact aa.out j m H (by omega)
        case measure=>simp[intOf];omega
       |false=>
        have n:Hid (It.mk t l s≠It.mk t l c):=za (by
         intro e;injection e with _ _ e;subst e;have:=HR.out.2 rfl;simp at this)
        go_wp2;go_ret;exact⟨jS.no n.out,d.drew.trans (F.out.mono (by simpa using jg))⟩
      have HE:Hid (It.mk t l s=It.mk t l c):=za (by rw[J4 H3.out (fun j m H=>aa.out j m H (by omega))]);go_wp2;go_ret;exact⟨jS.yes HE.out,d⟩
    have n:Hid (It.mk t l s≠It.mk t l c):=za (by intro e;injection e with _ _ e;exact q (by rw[e]));have e3:((s.length:Int) !=(c.length:Int))=true:=by simp;omega
    have ae:(s.length !=c.length)=true:=by simp;omega
    clear q;go_enter func42,Yv
    go_wp2;go_ret;exact⟨jS.no n.out,bQ⟩
   have n:Hid (It.mk t l s≠It.mk Z l c):=za (by intro e;injection e with e;exact bX e);clear bX;go_enter func42,Yv
   go_wp2;go_ret;exact⟨jS.no n.out,bQ⟩
  have n:Hid (It.mk t l s≠It.mk Z N c):=za (by intro e;injection e with _ e;exact m e);cases l<;>cases N
  ·exact absurd rfl m
  ·clear m;go_enter func42,Yv
   go_wp2;go_ret;exact⟨jS.no n.out,bQ⟩
  ·clear m;go_enter func42,Yv
   go_wp2;go_ret;exact⟨jS.no n.out,bQ⟩
  exact absurd rfl m
def pQ (r:Bool×Nat×Nat×Int):Value:= .tuple #[r.1,r.2.1,r.2.2.1,r.2.2.2]
theorem OD (s:ByteArray)(d m:Bool)(w:World)(Y:s.size<=4611686018427387904):
 Calls prog 197 #[s,d,m] w fun e w'=>e= .returned (pQ (hd s d m))/\w=w':=by
 rcases fZ s with⟨hz,rfl⟩|⟨hz,cg,cC⟩
 ·have c:Hid (hd ⟨#[]⟩ d m=(false,0,0,2)):=za (by unfold hd;rw[zg (by simp[ByteArray.size])]);clear hz;go_enter Yw,Yi
  go_wp2;refine zj ?_ rfl ⟨yi (fun r=>Ending.returned (pQ r)) c.out.symm,rfl⟩;simp[pQ,results,yz,go_sem]<;>omega
 have M:0<s.size:=by
  rcases Zt s.size with h|h
  ·exact absurd h (by first|exact hz|omega)
  exact h
 cases d with
 |true=>
  have c:Hid (hd s true m=(false,0,0,6)):=za (by unfold hd;rw[zf (by omega),zg rfl]);go_enter Yw,Yi
  go_wp2;refine zj ?_ rfl ⟨yi (fun r=>Ending.returned (pQ r)) c.out.symm,rfl⟩;simp[pQ,results,yz,go_sem]<;>omega
 |false=>
 cases m with
 |true=>
  have c:Hid (hd s false true=(false,0,0,4)):=za (by unfold hd;rw[zf (by omega),zf (by simp),zg rfl]);go_enter Yw,Yi
  go_wp2;refine zj ?_ rfl ⟨yi (fun r=>Ending.returned (pQ r)) c.out.symm,rfl⟩;simp[pQ,results,yz,go_sem]<;>omega
 |false=>
 have x:hd s false false=CO s:=by unfold hd;rw[zf (by omega),zf (by simp),zf (by simp)]
 have F:s.data.toList.getD 0 0=s[0]:=by rw[zu,iA s 0 M];rfl
 have U:=s[0].toNat_lt;by_cases E:s[0].toNat<128
 ·have c:Hid (hd s false false=(false,0,1,0)):=za (by rw[x];unfold CO;dsimp only;rw[F,zg E]);clear x;go_enter Yw,Yi
  go_wp2;refine zj ?_ rfl ⟨yi (fun r=>Ending.returned (pQ r)) c.out.symm,rfl⟩;simp[pQ,results,yz,go_sem]<;>omega
 obtain⟨l,y⟩:=dY (decide (192<=s[0].toNat));obtain⟨t,z⟩:=dY (if 192<=s[0].toNat then s[0].toNat-192 else s[0].toNat-128);have b:=x;unfold CO at b;dsimp only at b;rw[F,zf E,y,z]at b;have K:decide ((192:Int)<=s[0].toNat)=l:=by rw[<-y];exact decide_eq_decide.2 (by omega)
 have u:Hid (if l=true then(s[0].toNat:Int)-192=t else(s[0].toNat:Int)-128=t):=za (by
  subst y z;by_cases h:192<=s[0].toNat
  ·rw[zg (by simpa using h),zg h];omega
  rw[zf (by simpa using h),zf h];omega)
 have X:t<=63:=by rw[<-z];split<;>omega
 have O:¬((s[0].toNat:Int)<128):=by omega
 clear x F y z E;go_enter Yw,Yi
 go_upto_if 31 with fail
 go_cut [10] (fun v R=>v= .int .i64 t/\w=R)
 case first=>
  have u:=u.out;cases l with
  |true=>
   rw[zg rfl]at u;go_wp2_with fail
   go_meet;case rel=>exact⟨rfl,rfl⟩
  |false=>
   rw[zf (by simp)]at u;go_wp2_with fail
   go_meet;case rel=>exact⟨rfl,rfl⟩
 case rest=>
  obtain⟨rfl,rfl⟩:=hcut;clear u K O;by_cases p:t<=55
  ·rw[zg p,zg p,zg p]at b;by_cases q:s.size<1+t
   ·have c:Hid (hd s false false=(false,0,0,2)):=za (by rw[b,zg q]);clear b;go_wp2;refine zj ?_ rfl ⟨yi (fun r=>Ending.returned (pQ r)) c.out.symm,rfl⟩;simp[pQ,results,yz,go_sem]<;>omega
   rw[zf q]at b;by_cases B:l=false/\t=1
   ·obtain⟨rfl,rfl⟩:=B;have A:1<s.size:=by omega
    have n:s.data.toList.getD 1 0=s[1]:=by rw[zu,iA s 1 A];rfl
    rw[n]at b;by_cases i:s[1].toNat<128
    ·have c:Hid (hd s false false=(false,0,0,3)):=za (by rw[b,zg ⟨rfl,rfl,i⟩]);clear b n;go_wp2;refine zj ?_ rfl ⟨yi (fun r=>Ending.returned (pQ r)) c.out.symm,rfl⟩;simp[pQ,results,yz,go_sem]<;>omega
    have c:Hid (hd s false false=(false,1,1,0)):=za (by rw[b,zf (by simp;omega)]);clear b n;go_wp2;refine zj ?_ rfl ⟨yi (fun r=>Ending.returned (pQ r)) c.out.symm,rfl⟩;simp[pQ,results,yz,go_sem]<;>omega
   have c:Hid (hd s false false=(l,1,t,0)):=za (by rw[b,zf (fun h=>B ⟨h.1,h.2.1⟩)]);clear b;cases l with
   |true=>
    go_wp2;refine zj ?_ rfl ⟨yi (fun r=>Ending.returned (pQ r)) c.out.symm,rfl⟩;simp[pQ,results,yz,go_sem]<;>omega
   |false=>
    have W:((t:Int)==1)=false:=by simp at B⊢;omega
    clear B;go_wp2;refine zj ?_ rfl ⟨yi (fun r=>Ending.returned (pQ r)) c.out.symm,rfl⟩;simp[pQ,results,yz,go_sem]<;>omega
  rw[zf p,zf p,zf p]at b;obtain⟨k,rfl⟩:∃k,t=55+k:=⟨t-55,by omega⟩
  rw[show 55+k-55=k from by omega]at b;have e2:55+(k:Int)-55=k:=by omega
  by_cases q:s.size<1+k
  ·have c:Hid (hd s false false=(false,0,0,2)):=za (by rw[b,zg q]);clear b;go_wp2;refine zj ?_ rfl ⟨yi (fun r=>Ending.returned (pQ r)) c.out.symm,rfl⟩;simp[pQ,results,yz,go_sem]<;>omega
  rw[zf q]at b;have A:1<s.size:=by omega
  have n:s.data.toList.getD 1 0=s[1]:=by rw[zu,iA s 1 A];rfl
  rw[n]at b;have J:(s.extract 1 (1+k)).size=k:=by rw[ar _ _ _ (by omega)];omega
  have C:ia (s.extract 1 (1+k)).data.toList=decide (s[1].toNat=0):=by
   have L:(s.extract 1 (1+k)).data.toList=s[1]::(s.extract 1 (1+k)).data.toList.drop 1:=by
    rw[aq];have i:(s.data.toList.take (1+k)).drop 1=((s.data.toList.drop 1).take k):=by rw[Zc,show 1+k-1=k from by omega]
    rw[i,drop_cons s 1 A,show k=(k-1)+1 from by omega,zO];rfl
   rw[L];simp only[ia];by_cases e:s[1]=0
   ·simp[e]
   have:s[1].toNat≠0:=fun h=>e (zP.1 h)
   simp[e,this]
  have j:=za (x' (s.extract 1 (1+k)) w (by omega));by_cases D:s[1].toNat=0
  ·have o:tS (s.extract 1 (1+k))=3:=by unfold tS;rw[zf (by omega),zf (by omega),C,D];rfl
   have c:Hid (hd s false false=(false,0,0,3)):=za (by rw[b,zg (.inl D)]);rw[o]at j;clear b o C n;generalize C5 (s.extract 1 (1+k))=N at*;go_wp2_with fail
   refine Rt j.out ?_;go_wp2;refine zj ?_ rfl ⟨yi (fun r=>Ending.returned (pQ r)) c.out.symm,rfl⟩;simp[pQ,results,yz,go_sem]<;>omega
  have o:tS (s.extract 1 (1+k))=0:=by unfold tS;rw[zf (by omega),zf (by omega),C,zt D];rfl
  have I:C5 (s.extract 1 (1+k))=mL (s.extract 1 (1+k)).data.toList:=by unfold C5;rw[zg o]
  have Z:mL (s.extract 1 (1+k)).data.toList<18446744073709551616:=by
   have i:=DE (s.extract 1 (1+k)).data.toList;rw[aa,J]at i;have G:2^(8*k)<=2^(8*8):=yu (by omega) (by omega);exact zJ i G
  rw[o,I]at j;clear o I C n J;generalize mL (s.extract 1 (1+k)).data.toList=N at*;by_cases i:N<=55
  ·have c:Hid (hd s false false=(false,0,0,3)):=za (by rw[b,zg (.inr i)]);clear b;go_wp2_with fail
   refine Rt j.out ?_;go_wp2;refine zj ?_ rfl ⟨yi (fun r=>Ending.returned (pQ r)) c.out.symm,rfl⟩;simp[pQ,results,yz,go_sem]<;>omega
  rw[zf (fun h=>h.elim D i)]at b;by_cases G:s.size<N
  ·have c:Hid (hd s false false=(false,0,0,2)):=za (by rw[b,zg (by omega)]);clear b;go_wp2_with fail
   refine Rt j.out ?_;go_wp2;refine zj ?_ rfl ⟨yi (fun r=>Ending.returned (pQ r)) c.out.symm,rfl⟩;simp[pQ,results,yz,go_sem]<;>omega
  by_cases H:s.size<1+k+N
  ·have c:Hid (hd s false false=(false,0,0,2)):=za (by rw[b,zg H]);clear b;go_wp2_with fail
   refine Rt j.out ?_;go_wp2;refine zj ?_ rfl ⟨yi (fun r=>Ending.returned (pQ r)) c.out.symm,rfl⟩;simp[pQ,results,yz,go_sem]<;>omega
  have c:Hid (hd s false false=(l,1+k,N,0)):=za (by rw[b,zf H]);have S:((N:Int)==1)=false:=by simp;omega
  clear b;go_wp2_with fail
  refine Rt j.out ?_;cases l
  all_goals
   go_wp2;refine zj ?_ rfl ⟨yi (fun r=>Ending.returned (pQ r)) c.out.symm,rfl⟩;simp[pQ,results,yz,go_sem]<;>omega
theorem oC (g d:Nat)(s:ByteArray)(p L most:Nat)(k:Int)(w:World)(h:jB w g s p L)(i:af w d 176 #[.pointer (some ⟨g,0,none⟩)])(E:p<=s.size)(C:s.size<=100000)(z:most<=65536):
 Calls prog 166 #[.int .i64 k,.int .i64 most,.pointer (some ⟨d,0,none⟩)] w fun e w'=>∃(n:Nat) (ok:Bool) (q:Nat),e= .returned (.tuple #[.agg #[.int .i64 k,.int .i64 n,.slice none 0 0,.int .i64 0],.bool ok])/\jB w' g s q L/\ae [g] w w'/\oZ most s p n ok q:=by
 have S:w.cell? ⟨d,0,none⟩=some (.pointer (some ⟨g,0,none⟩)):=i.cell 0;have I:=i.lt;have K:g<w.heap.size:=af.lt (show af w g _ _ from h);have F:=za (J1 g s p L most (w.alloc (.cells #[.int .i64 0,.int .i64 0,.slice none 0 0,.int .i64 0] 70)) (af.alloc (show af w g _ _ from h) _) E C z);clear h i;go_enter func166,ntmps166
 go_wp2_with fail
 refine F.out.mono ?_;rintro e y ⟨n,ok,q,rfl,o,j,l⟩;have b:=(af.new w 70 #[.int .i64 0,.int .i64 0,.slice none 0 0,.int .i64 0]).only j (by simp;omega);have A:=za o;have B:Hid (ae [g] w y):=za (((ae.refl [g] w).alloc _).trans j);have D:=za l;obtain⟨N,U,G,R,M,J,H,O⟩:=aY b;have hz:=((((b.set 0 (.int .i64 k)).set 1 (.int .i64 n)).set 2 (.slice none 0 0)).set 3 (.int .i64 0))
 have m:=(b.set 0 (.int .i64 k)).cell 0;have x:=((b.set 0 (.int .i64 k)).set 1 (.int .i64 n)).cell 1;have u:=(((b.set 0 (.int .i64 k)).set 1 (.int .i64 n)).set 2 (.slice none 0 0)).cell 2;have r:=hz.cell 3;simp at m x u r;clear o j l b hz;go_wp2;refine zj (v:= .tuple #[.agg #[.int .i64 k,.int .i64 n,.slice none 0 0,.int .i64 0],.bool ok]) (by simp[results,results166,go_sem,m,x,u,r]) rfl ?_;have c:g≠w.heap.size:=by omega
 refine⟨n,ok,q,rfl, ?_,(((B.out.setCell (by simp) _).setCell (by simp) _).setCell (by simp) _).setCell (by simp) _,D.out⟩;exact(((af.dI (show af y g _ _ from A.out) (p:=⟨w.heap.size,0,none⟩) c _).dI (p:=⟨w.heap.size,1,none⟩) c _).dI (p:=⟨w.heap.size,2,none⟩) c _).dI (p:=⟨w.heap.size,3,none⟩) c _
def kx (w:World)(g:Nat)(s:ByteArray)(f L p:Nat)(e:Ending)(w':World):Prop:=
 ∃(t:Ty) (ok:Bool) (q L':Nat) (k z ta:Int) (A:Option Addr) (n cap:Nat),e= .returned (.tuple #[.agg #[.int .i64 k,.int .i64 z,.slice A n cap,.int .i64 ta],.bool ok])/\jB w' g s q L'/\ae [g] w w'/\L'<=L/\uI f L s p t ok q L'/\(ok=true->gd w' (w.heap.size<= ·) t (.int .i64 k) (.int .i64 z) (.slice A n cap) (.int .i64 ta))
structure tT (w:World)(g:Nat)(s:ByteArray)(p L:Nat)(V:World):Prop where
 box:af V w.heap.size 176 #[.pointer (some ⟨g,0,none⟩)]
 res:af V (w.heap.size+1) 70 #[.int .i64 0,.int .i64 0,.slice none 0 0,.int .i64 0]
 rd:jB V g s p L
 only:ae [g] w V
 siz:w.heap.size+2<=V.heap.size
 glt:g<w.heap.size
theorem tT.start (h:jB w g s p L):tT w g s p L ((w.alloc (.cells #[.pointer (some ⟨g,0,none⟩)] 176)).alloc (.cells #[.int .i64 0,.int .i64 0,.slice none 0 0,.int .i64 0] 70)) where
 box:=(af.new w _ _).alloc _
 res:=af.at_ (by simp)
 rd:=(af.alloc (show af w g _ _ from h) _).alloc _
 only:=((ae.refl _ w).alloc _).alloc _
 siz:=by simp
 glt:=af.lt (show af w g _ _ from h)
theorem tT.eQ (h:tT w g s p L V)(b:ae [g] V V')(c:jB V' g s p' L'):tT w g s p' L' V' where
 box:=h.box.only b (by have:=h.glt;simp;omega)
 res:=h.res.only b (by have:=h.glt;simp;omega)
 rd:=c
 only:=h.only.trans b
 siz:=zz h.siz b.size
 glt:=h.glt
theorem tT.below (h:tT w g s p L V)(b:Below V.heap.size V V'):tT w g s p L V':=h.eQ ((ae.ai b (ze _)).mono (by simp)) ((b.block _ (af.lt (show af V g _ _ from h.rd))).trans h.rd)
theorem tT.ends (h:tT w g s p L V)(b c d e:Value):
 jB ((((V.setCell ⟨w.heap.size+1,0,none⟩ b).setCell ⟨w.heap.size+1,1,none⟩ c).setCell ⟨w.heap.size+1,2,none⟩ d).setCell ⟨w.heap.size+1,3,none⟩ e) g s p L/\ae [g] w ((((V.setCell ⟨w.heap.size+1,0,none⟩ b).setCell ⟨w.heap.size+1,1,none⟩ c).setCell ⟨w.heap.size+1,2,none⟩ d).setCell ⟨w.heap.size+1,3,none⟩ e)/\
 (V.setCell ⟨w.heap.size+1,0,none⟩ b).cell? ⟨w.heap.size+1,0,none⟩=some b/\((V.setCell ⟨w.heap.size+1,0,none⟩ b).setCell ⟨w.heap.size+1,1,none⟩ c).cell? ⟨w.heap.size+1,1,none⟩=some c/\(((V.setCell ⟨w.heap.size+1,0,none⟩ b).setCell ⟨w.heap.size+1,1,none⟩ c).setCell ⟨w.heap.size+1,2,none⟩ d).cell? ⟨w.heap.size+1,2,none⟩=some d/\((((V.setCell ⟨w.heap.size+1,0,none⟩ b).setCell ⟨w.heap.size+1,1,none⟩ c).setCell ⟨w.heap.size+1,2,none⟩ d).setCell ⟨w.heap.size+1,3,none⟩ e).cell? ⟨w.heap.size+1,3,none⟩=some e:=
 have n1:g≠w.heap.size+1:=by have:=h.glt;omega
 ⟨(((af.dI (show af V g _ _ from h.rd) (p:=⟨w.heap.size+1,0,none⟩) n1 _).dI (p:=⟨w.heap.size+1,1,none⟩) n1 _).dI (p:=⟨w.heap.size+1,2,none⟩) n1 _).dI (p:=⟨w.heap.size+1,3,none⟩) n1 _,(((h.only.setCell (by simp) _).setCell (by simp) _).setCell (by simp) _).setCell (by simp) _,by have:=(h.res.set 0 b).cell 0;simpa using this,by have:=((h.res.set 0 b).set 1 c).cell 1;simpa using this,by have:=(((h.res.set 0 b).set 1 c).set 2 d).cell 2;simpa using this,by have:=((((h.res.set 0 b).set 1 c).set 2 d).set 3 e).cell 3;simpa using this⟩
theorem tT.step {W:World}(h:tT w g s p L W)(a b:Int)(n1 n2:Nat)(c:a=L')(e:b=p'):tT w g s p' L' ((((W.drewN n1).setCell (g,2) a).drewN n2).setCell (g,1) b):=by
 have d:jB (W.drewN n1) g s p L:=h.rd;have i:jB (((W.drewN n1).setCell (g,2) a).drewN n2) g s p L':=d.less c;exact h.eQ (((((ae.refl [g] W).drewN n1).setCell (p:=(g,2)) (by simp) _).drewN n2).setCell (p:=(g,1)) (by simp) _) (i.to e)
theorem qW {c:UInt8}(b:p<s.size)(d:s[p].toNat=c.toNat):s.data.toList.drop p=c::s.data.toList.drop (p+1):=by
 rw[drop_cons s p b,zP.1 d]
theorem RW {k:Int}{most:Nat}{ok:Bool}(u:0<L)(d:aN (f+1) (s.data.toList.drop p)=uH k (cq (s.data.toList.drop (p+1))))(j:(∀c r,cq (s.data.toList.drop (p+1))=some (c,r)->most<c)->∀(L:Nat) (t:Ty) (r:List UInt8),uH k (cq (s.data.toList.drop (p+1)))=some (t,r)->ef L t)(h:oZ most s (p+1) n ok q):uI (f+1) L s p (.mk k n [] 0) ok q (L-1):=by
 refine⟨fun b=> ?_,fun b l r e=> ?_,h.2.2.1⟩
 ·obtain⟨i,o,m⟩:=h.1 b;exact⟨by rw[d,i];rfl,by simp[Ty.count,ba];omega,by omega⟩
 rw[d]at e;exact j (h.2.1 b) L l r e
theorem RX (f d:Nat)(hd:d<=8)(g:Nat)(s:ByteArray)(p L:Nat)(w:World)(h:jB w g s p L)(F:p<s.size)(B:s.size<=100000)(I:0<L)(S:L<=64)(C:s[p].toNat=98):
 Calls prog 123 #[(g,0),d] w fun e w'=>kx w g s (f+1) L p e w':=by
 have y:Hid (aN (f+1) (s.data.toList.drop p)=uH 2 (cq (s.data.toList.drop (p+1)))):=za (by rw[qW (c:=98) F C,LG]);have b:=za (tT.start h);generalize Y:((w.alloc (.cells #[(g,0)] 176)).alloc (.cells #[(0:Int),(0:Int),nS,(0:Int)] 70))=W at*;obtain⟨g0,g1,g2,f0,f1,f2,R⟩:=b.out.rd.cells;have K:W.cell? (w.heap.size,0)=some (.pointer (some (g,0))):=b.out.box.cell 0;have U:decide ((8:Int)<(d:Int))=false:=zt (by omega);have dL:((L:Int)==0)=false:=zl.2 (by omega);have Z:((p:Int)==(s.size:Int))=false:=zl.2 (by omega);have O:IntKind.i64.wrap ((L:Int)-1)=(L:Int)-1:=zY _ (by omega);clear h;go_enter xP,xK
 go_wp2_with fail
 go_quiet (fail)
 obtain⟨j,rfl⟩:∃j,j=nq:=⟨nq,rfl⟩
 go_wp2_with fail
 go_quiet (fail)
 have i:=za (b.out.step ((L:Int)-1) ((p:Int)+1) j nq (L':=L-1) (p':=p+1) (by omega) (by omega));go_wp2_with fail
 refine(oC g w.heap.size s (p+1) (L-1) 65536 2 _ i.out.rd i.out.box (by omega) B (by omega)).mono ?_;rintro e X ⟨n,ok,q,rfl,o,r,l⟩;have k:=za (i.out.eQ r o);have u:=za l;clear o r l;obtain⟨N,n1,n2,M,m0,m1,m2,m3⟩:=aY k.out.res;obtain⟨x,m,z,G,E,D⟩:=k.out.ends (.int .i64 2) n nS (0:Int);have J:=za x;have H:=za m;clear x m;go_wp2;refine zj (v:= .tuple #[.agg #[.int .i64 2,n,nS,(0:Int)],ok]) (by simp[results,yx,go_sem,z,G,E,D]) rfl ?_;exact⟨.mk 2 n [] 0,ok,q,L-1,_,_,_,_,_,_,rfl,J.out,H.out,by omega,RW I y.out aeh u.out,fun A=>gd.leaf (aA (by omega) (by omega)) (aA (by omega) (by have:=(u.out.1 A).2.1;omega)) (aA (by omega) (by omega))⟩
theorem RY (f d:Nat)(hd:d<=8)(g:Nat)(s:ByteArray)(p L:Nat)(w:World)(h:jB w g s p L)(F:p<s.size)(B:s.size<=100000)(I:0<L)(S:L<=64)(C:s[p].toNat=115):
 Calls prog 123 #[(g,0),d] w fun e w'=>kx w g s (f+1) L p e w':=by
 have y:Hid (aN (f+1) (s.data.toList.drop p)=uH 3 (cq (s.data.toList.drop (p+1)))):=za (by rw[qW (c:=115) F C,LH]);have b:=za (tT.start h);generalize Y:((w.alloc (.cells #[(g,0)] 176)).alloc (.cells #[(0:Int),(0:Int),nS,(0:Int)] 70))=W at*;obtain⟨g0,g1,g2,f0,f1,f2,R⟩:=b.out.rd.cells;have K:W.cell? (w.heap.size,0)=some (.pointer (some (g,0))):=b.out.box.cell 0;have U:decide ((8:Int)<(d:Int))=false:=zt (by omega);have dL:((L:Int)==0)=false:=zl.2 (by omega);have Z:((p:Int)==(s.size:Int))=false:=zl.2 (by omega);have O:IntKind.i64.wrap ((L:Int)-1)=(L:Int)-1:=zY _ (by omega);clear h;go_enter xP,xK
 go_wp2_with fail
 go_quiet (fail)
 obtain⟨j,rfl⟩:∃j,j=nq:=⟨nq,rfl⟩
 go_wp2_with fail
 go_quiet (fail)
 have i:=za (b.out.step ((L:Int)-1) ((p:Int)+1) j nq (L':=L-1) (p':=p+1) (by omega) (by omega));go_wp2_with fail
 refine(oC g w.heap.size s (p+1) (L-1) 65536 3 _ i.out.rd i.out.box (by omega) B (by omega)).mono ?_;rintro e X ⟨n,ok,q,rfl,o,r,l⟩;have k:=za (i.out.eQ r o);have u:=za l;clear o r l;obtain⟨N,n1,n2,M,m0,m1,m2,m3⟩:=aY k.out.res;obtain⟨x,m,z,G,E,D⟩:=k.out.ends (.int .i64 3) n nS (0:Int);have J:=za x;have H:=za m;clear x m;go_wp2;refine zj (v:= .tuple #[.agg #[.int .i64 3,n,nS,(0:Int)],ok]) (by simp[results,yx,go_sem,z,G,E,D]) rfl ?_;exact⟨.mk 3 n [] 0,ok,q,L-1,_,_,_,_,_,_,rfl,J.out,H.out,by omega,RW I y.out aei u.out,fun A=>gd.leaf (aA (by omega) (by omega)) (aA (by omega) (by have:=(u.out.1 A).2.1;omega)) (aA (by omega) (by omega))⟩
theorem OE (f d:Nat)(hd:d<=8)(g:Nat)(s:ByteArray)(p L:Nat)(w:World)(h:jB w g s p L)(A:p<s.size)(U:s.size<=100000)(Z:0<L)(O:L<=64)(j:s[p].toNat≠117)(o:s[p].toNat≠98)(i:s[p].toNat≠115)(k:s[p].toNat≠91)(m:s[p].toNat≠123):
 Calls prog 123 #[(g,0),d] w fun e w'=>kx w g s (f+1) L p e w':=by
 have S:((s[p].toNat:Int)==117)=false:=zl.2 (by omega);have X:((s[p].toNat:Int)==98)=false:=zl.2 (by omega);have F:((s[p].toNat:Int)==115)=false:=zl.2 (by omega);have M:((s[p].toNat:Int)==91)=false:=zl.2 (by omega);have K:((s[p].toNat:Int)==123)=false:=zl.2 (by omega);have q:Hid (aN (f+1) (s.data.toList.drop p)=none):=za (by rw[drop_cons s p A];exact F1 f _ _ j o i k m);clear j o i k m;have b:=za (tT.start h);generalize Y:((w.alloc (.cells #[(g,0)] 176)).alloc (.cells #[(0:Int),(0:Int),nS,(0:Int)] 70))=W at*;obtain⟨g0,g1,g2,f0,f1,f2,N⟩:=b.out.rd.cells;have E:W.cell? (w.heap.size,0)=some (.pointer (some (g,0))):=b.out.box.cell 0;have I:=b.out.glt;have R:decide ((8:Int)<(d:Int))=false:=zt (by omega);have dL:((L:Int)==0)=false:=zl.2 (by omega);have dp:((p:Int)==(s.size:Int))=false:=zl.2 (by omega);have J:IntKind.i64.wrap ((L:Int)-1)=(L:Int)-1:=zY _ (by omega);clear h;go_enter xP,xK
 go_wp2_with fail
 go_quiet (fail)
 obtain⟨c,rfl⟩:∃c,c=nq:=⟨nq,rfl⟩
 go_wp2_with fail
 go_quiet (fail)
 have u:=za (b.out.step ((L:Int)-1) ((p:Int)+1) c nq (L':=L-1) (p':=p+1) (by omega) (by omega));obtain⟨H,n1,n2,G,m0,m1,m2,m3⟩:=aY b.out.res;obtain⟨n,l,x,B,z,y⟩:=u.out.ends (0:Int) (0:Int) nS (0:Int);have D:=za n;have C:=za l;clear n l;go_wp2;refine zj (v:= .tuple #[.agg #[(0:Int),(0:Int),nS,(0:Int)],false]) (by simp[results,yx,go_sem,x,B,z,y]) rfl ?_;exact⟨.mk 0 0 [] 0,false,p+1,L-1,_,_,_,_,_,_,rfl,D.out,C.out,by omega,⟨(by intro h;cases h),(by intro _ t' r h;rw[q.out]at h;cases h),by omega⟩,(by intro h;cases h)⟩
theorem aaF {ok:Bool}(m:0<L)(e:aN (f+1) (s.data.toList.drop p)=BI (cq (s.data.toList.drop (p+1))))(h:oZ 64 s (p+1) n ok q):uI (f+1) L s p (.mk 1 ((n/8:Nat):Int) [] 0) (ok&&decide (n%8=0)) q (L-1):=by
 refine⟨fun b=> ?_,fun b l r c=> ?_,h.2.2.1⟩
 ·simp only[zv,zU]at b;obtain⟨d,k,i⟩:=h.1 b.1;exact⟨by rw[e,d,BI,zg b.2],by simp[Ty.count,ba];omega,by omega⟩
 rw[e]at c;cases ok with
 |false=>exact aeg (h.2.1 rfl) L l r c
 |true=>
  obtain⟨d,k,i⟩:=h.1 rfl;have j:¬n%8=0:=by simpa using b
  rw[d,BI,zf j]at c;cases c
theorem RZ (f d:Nat)(hd:d<=8)(g:Nat)(s:ByteArray)(p L:Nat)(w:World)(h:jB w g s p L)(M:p<s.size)(J:s.size<=100000)(O:0<L)(PF:L<=64)(K:s[p].toNat=117):
 Calls prog 123 #[(g,0),d] w fun e w'=>kx w g s (f+1) L p e w':=by
 have H:Hid (aN (f+1) (s.data.toList.drop p)=BI (cq (s.data.toList.drop (p+1)))):=za (by rw[qW (c:=117) M K,LF]);have z:=za (tT.start h);generalize hW:((w.alloc (.cells #[(g,0)] 176)).alloc (.cells #[(0:Int),(0:Int),nS,(0:Int)] 70))=W at*;obtain⟨g0,g1,g2,f0,f1,f2,j7⟩:=z.out.rd.cells;have S:W.cell? (w.heap.size,0)=some (.pointer (some (g,0))):=z.out.box.cell 0;have d1:decide ((8:Int)<(d:Int))=false:=zt (by omega);have dL:((L:Int)==0)=false:=zl.2 (by omega);have dp:((p:Int)==(s.size:Int))=false:=zl.2 (by omega);have Z:IntKind.i64.wrap ((L:Int)-1)=(L:Int)-1:=zY _ (by omega);clear h;go_enter xP,xK
 go_wp2_with fail
 go_quiet (fail)
 obtain⟨B,rfl⟩:∃B,B=nq:=⟨nq,rfl⟩
 go_wp2_with fail
 go_quiet (fail)
 have A:=za (z.out.step ((L:Int)-1) ((p:Int)+1) B nq (L':=L-1) (p':=p+1) (by omega) (by omega));go_wp2_with fail
 refine(oC g w.heap.size s (p+1) (L-1) 64 1 _ A.out.rd A.out.box (by omega) J (by omega)).mono ?_;rintro e N ⟨n,ok,q,rfl,E,F,x⟩;have u:=za (A.out.eQ F E);have ES:=za x;obtain⟨b,G⟩:∃b,n/8=b:=⟨_,rfl⟩
 have Y:(n:Int)/8=b:=by omega
 have m:=za (aaF O H.out x);rw[G]at m;have R:b<=8:=by have:=x.2.2.2;omega
 clear E F x G;obtain⟨X,n1,n2,U,m0,m1,m2,m3⟩:=aY u.out.res;have aa:=u.out.siz;have y:w.heap.size+1<N.heap.size:=by omega
 by_cases D:n%8=0
 ·have I:((n:Int)%8==0)=true:=yN.2 (by omega);rw[zD D,Zq]at m;cases ok with
  |true=>
   go_wp2;obtain⟨r,o,i,l,k,j⟩:=u.out.ends (1:Int) b nS (0:Int);refine zj (v:= .tuple #[.agg #[(1:Int),b,nS,(0:Int)],true]) (by simp[results,yx,go_sem,i,l,k,j,zF,y]) rfl ?_;exact⟨.mk 1 b [] 0,true,q,L-1,_,_,_,_,_,_,rfl,af.alloc (show af _ g _ _ from r) _,o.alloc _,by omega,m.out,fun C=>gd.leaf (aA (by omega) (by omega)) (aA (by omega) (by omega)) (aA (by omega) (by omega))⟩
  |false=>
   go_wp2;obtain⟨r,o,i,l,k,j⟩:=u.out.ends (1:Int) b nS (0:Int);refine zj (v:= .tuple #[.agg #[(1:Int),b,nS,(0:Int)],false]) (by simp[results,yx,go_sem,i,l,k,j,zF,y]) rfl ?_;exact⟨.mk 1 b [] 0,false,q,L-1,_,_,_,_,_,_,rfl,af.alloc (show af _ g _ _ from r) _,o.alloc _,by omega,m.out,fun C=>gd.leaf (aA (by omega) (by omega)) (aA (by omega) (by omega)) (aA (by omega) (by omega))⟩
 have I:((n:Int)%8==0)=false:=zl.2 (by omega);rw[zt D,Bool.and_false]at m;cases ok with
 |true=>
  go_wp2;obtain⟨r,o,i,l,k,j⟩:=u.out.ends (1:Int) b nS (0:Int);refine zj (v:= .tuple #[.agg #[(1:Int),b,nS,(0:Int)],false]) (by simp[results,yx,go_sem,i,l,k,j,zF,y]) rfl ?_;exact⟨.mk 1 b [] 0,false,q,L-1,_,_,_,_,_,_,rfl,af.alloc (show af _ g _ _ from r) _,o.alloc _,by omega,m.out,fun C=>gd.leaf (aA (by omega) (by omega)) (aA (by omega) (by omega)) (aA (by omega) (by omega))⟩
 |false=>
  go_wp2;obtain⟨r,o,i,l,k,j⟩:=u.out.ends (1:Int) b nS (0:Int);refine zj (v:= .tuple #[.agg #[(1:Int),b,nS,(0:Int)],false]) (by simp[results,yx,go_sem,i,l,k,j,zF,y]) rfl ?_;exact⟨.mk 1 b [] 0,false,q,L-1,_,_,_,_,_,_,rfl,af.alloc (show af _ g _ _ from r) _,o.alloc _,by omega,m.out,fun C=>gd.leaf (aA (by omega) (by omega)) (aA (by omega) (by omega)) (aA (by omega) (by omega))⟩
theorem OF (n:Nat)(c:1<=n)(d:n<=31):bits .and .u64 (IntKind.u64.wrap (-(n:Int))) 31=((32-n:Nat):Int):=by
 have e:IntKind.u64.wrap (-(n:Int))=((18446744073709551616-n:Nat):Int):=by
  simp[IntKind.wrap,IntKind.signed,IntKind.bits];omega
 have h:=u64_and_nat (18446744073709551616-n) 31 (by omega) (by omega);rw[e];have b:((31:Nat):Int)=31:=rfl;rw[b]at h;rw[h,show(31:Nat)=2^5-1 from rfl,Nat.and_two_pow_sub_one_eq_mod];omega
theorem VG (x n:Nat)(hx:x<4294967296):bits .or .u32 ((x:Int)*2^(32-n)%4294967296) ((x:Int)/2^n)=((iH x n:Nat):Int):=by
 have h:=u32_or_nat (x*2^(32-n)%4294967296) (x/2^n) (xj _ (by omega)) (mU n hx);have c:((x*2^(32-n)%4294967296:Nat):Int)=(x:Int)*2^(32-n)%4294967296:=by simp
 have b:((x/2^n:Nat):Int)=(x:Int)/2^n:=by simp
 rw[c,b]at h;rw[h,Nat.or_comm];rfl
theorem Eg (x n:Nat)(w:World)(hx:x<4294967296)(d:1<=n)(h:n<=31):
 Calls prog 246 #[.int .u32 x,n] w fun e w'=>e= .returned (.int .u32 (iH x n))/\w=w':=by
 have c:=OF n d h;obtain⟨k,b⟩:∃k:Nat,32-n=k:=⟨_,rfl⟩
 rw[b]at c;have j:(32:Int)-(k:Int)=(n:Int):=by omega
 have i:=za b;clear b;go_enter func246,ntmps246
 go_wp2;go_ret;exact⟨lO (by rw[<-i.out];exact VG x n hx),rfl⟩
theorem xor_val {b:Nat}(c:a<4294967296)(d:b<4294967296):bits .xor .u32 (a:Int) (b:Int)=((a^^^b:Nat):Int):=u32_xor_nat a b c d
theorem GM (x a b c:Nat)(w:World)(hx:x<4294967296)(i:1<=a/\a<=31)(k:1<=b/\b<=31)(l:1<=c/\c<=31):
 Calls prog 239 #[.int .u32 x,a,b,c] w fun e w'=>e= .returned (.int .u32 (iH x a^^^iH x b^^^iH x c:Nat))/\w=w':=by
 have A:=za (fun w=>Eg x a w hx i.1 i.2);have s:=za (fun w=>Eg x b w hx k.1 k.2);have u:=za (fun w=>Eg x c w hx l.1 l.2);have h:=eo a hx;have j:=eo b hx;have n:=eo c hx;generalize iH x a=p at*;generalize iH x b=q at*;generalize iH x c=r at*;have o:=xor_val h j;have m:=xor_val (dw h j) n;obtain⟨y,d⟩:∃y,p^^^q=y:=⟨_,rfl⟩
 obtain⟨z,hz⟩:∃z,p^^^q^^^r=z:=⟨_,rfl⟩
 rw[d]at o;rw[hz,d]at m;rw[hz];clear d hz;go_enter func239,ntmps239
 go_wp2_with fail
 refine(A.out _).mono ?_;rintro e w' ⟨rfl,rfl⟩;go_wp2_with fail
 refine(s.out _).mono ?_;rintro e w' ⟨rfl,rfl⟩;go_wp2_with fail
 refine(u.out _).mono ?_;rintro e w' ⟨rfl,rfl⟩;go_wp2;go_ret;exact⟨rfl,rfl⟩
theorem aaG (x n:Nat)(w:World)(hx:x<4294967296)(d:1<=n)(h:n<=31):
 Calls prog 246 #[.int .u32 x,n] w fun e w'=>e= .returned (.int .u32 (iH x n))/\w'=w:=(Eg x n w hx d h).mono fun _ _ ⟨b,c⟩=>⟨b,c.symm⟩
theorem Ac (x a b c:Nat)(w:World)(hx:x<4294967296)(o:1<=a/\a<=31)(p:1<=b/\b<=31)(q:1<=c/\c<=31):
 Calls prog 245 #[.int .u32 x,a,b,c] w fun e w'=>e= .returned (.int .u32 (iH x a^^^iH x b^^^x/2^c:Nat))/\∃n,w'=w.drewN n:=by
 have i:=eo a hx;have k:=eo b hx;have l:=mU c hx;have m:=xor_val i k;have h:=xor_val (dw i k) l;have j:((x/2^c:Nat):Int)=(x:Int)/2^c:=by simp
 rw[j]at h;obtain⟨y,d⟩:∃y:Nat,iH x a^^^iH x b=y:=⟨_,rfl⟩
 obtain⟨z,hz⟩:∃z:Nat,iH x a^^^iH x b^^^x/2^c=z:=⟨_,rfl⟩
 rw[d]at m;rw[hz,d]at h;rw[hz];clear d hz j;go_enter func245,ntmps245
 go_wp2;go_quiet ((go_at_call 246;exact Calls.quiet_of_same (aaG _ _ _ hx (by omega) (by omega))))
 go_wp2;go_ret;exact⟨rfl,_,rfl⟩
theorem R4 (a b c d:Nat)(l:a<256)(m:b<256)(n:c<256)(hd:d<256):
 bits .or .u32 (bits .or .u32 (bits .or .u32 ((a:Int)*2^24) ((b:Int)*2^16)) ((c:Int)*2^8)) (d:Int)=((a*16777216+b*65536+c*256+d:Nat):Int):=by
 have i:((a:Int)*2^24)=((a*2^24:Nat):Int):=by simp
 have e:((b:Int)*2^16)=((b*2^16:Nat):Int):=by simp
 have j:((c:Int)*2^8)=((c*2^8:Nat):Int):=by simp
 rw[i,e,j,u32_or_nat _ _ (by omega) (by omega)];have h:a*2^24|||b*2^16=a*2^24+b*2^16:=by rw[Zw,<-xo (by omega)]
 rw[h,u32_or_nat _ _ (by omega) (by omega)];have g2:a*2^24+b*2^16|||c*2^8=a*2^24+b*2^16+c*2^8:=by
  rw[show a*2^24+b*2^16=2^16*(a*256+b)from by omega,<-xo (by omega)]
 rw[g2,u32_or_nat _ _ (by omega) (by omega)];have k:a*2^24+b*2^16+c*2^8|||d=a*2^24+b*2^16+c*2^8+d:=by
  rw[show a*2^24+b*2^16+c*2^8=2^8*(a*65536+b*256+c)from by omega,<-xo (by omega)]
 rw[k]
theorem R5 (s:ByteArray)(i:Nat)(w:World)(hi:4*i+4<=s.size)(C:s.size<=100000):
 Calls prog 237 #[s,i] w fun e w'=>e= .returned (.int .u32 (mV s i))/\∃n,w'=w.drewN n:=by
 obtain⟨E,u,m,q⟩:∃E:ByteArray,s.extract (4*i) (4*i+4)=E/\∃m:E.size=4,Hid (mV s i=E[0].toNat*16777216+E[1].toNat*65536+E[2].toNat*256+E[3].toNat):=by
  have hz:(s.extract (4*i) (4*i+4)).size=4:=by rw[ar _ _ _ hi];omega
  refine⟨_,rfl,hz,za ?_⟩;have b:∀j (d:j<(s.extract (4*i) (4*i+4)).size),(s.extract (4*i) (4*i+4))[j]=s.data.toList.getD (4*i+j) 0:=by
   intro j d;have c:=iA (s.extract (4*i) (4*i+4)) j d;rw[aq,y8,yk (by omega)]at c;rw[zu,c];rfl
  rw[b 0,b 1,b 2,b 3];rfl
 have x:0<E.size:=by omega
 have A:1<E.size:=by omega
 have G:2<E.size:=by omega
 have y:3<E.size:=by omega
 have k:=E[0].toNat_lt;have o:=E[1].toNat_lt;have p:=E[2].toNat_lt;have l:=E[3].toNat_lt;have r:=za (R4 E[0].toNat E[1].toNat E[2].toNat E[3].toNat k o p l);have z:IntKind.u32.wrap ((E[0].toNat:Nat):Int)=((E[0].toNat:Nat):Int):=IntWalk.u32_in _ (by omega);have B:IntKind.u32.wrap ((E[1].toNat:Nat):Int)=((E[1].toNat:Nat):Int):=IntWalk.u32_in _ (by omega);have D:IntKind.u32.wrap ((E[2].toNat:Nat):Int)=((E[2].toNat:Nat):Int):=IntWalk.u32_in _ (by omega);have F:IntKind.u32.wrap ((E[3].toNat:Nat):Int)=((E[3].toNat:Nat):Int):=IntWalk.u32_in _ (by omega);go_enter func237,ntmps237
 go_wp2;go_quiet (fail)
 go_wp2;go_ret;refine⟨lO ?_,_,rfl⟩;have h:=r.out;rw[show(2:Int)^24=16777216 from rfl,show(2:Int)^16=65536 from rfl,show(2:Int)^8=256 from rfl]at h;rw[q.out];exact h
theorem and_val {b:Nat}(c:a<4294967296)(d:b<4294967296):bits .and .u32 (a:Int) (b:Int)=((a&&&b:Nat):Int):=u32_and_nat a b c d
def aaH :ByteArray:=⟨#[66,138,47,152,113,55,68,145,181,192,251,207,233,181,219,165,57,86,194,91,89,241,17,241,146,63,130,164,171,28,94,213,216,7,170,152,18,131,91,1,36,49,133,190,85,12,125,195,114,190,93,116,128,222,177,254,155,220,6,167,193,155,241,116,228,155,105,193,239,190,71,134,15,193,157,198,36,12,161,204,45,233,44,111,74,116,132,170,92,176,169,220,118,249,136,218,152,62,81,82,168,49,198,109,176,3,39,200,191,89,127,199,198,224,11,243,213,167,145,71,6,202,99,81,20,41,41,103,39,183,10,133,46,27,33,56,77,44,109,252,83,56,13,19,101,10,115,84,118,106,10,187,129,194,201,46,146,114,44,133,162,191,232,161,168,26,102,75,194,75,139,112,199,108,81,163,209,146,232,25,214,153,6,36,244,14,53,133,16,106,160,112,25,164,193,22,30,55,108,8,39,72,119,76,52,176,188,181,57,28,12,179,78,216,170,74,91,156,202,79,104,46,111,243,116,143,130,238,120,165,99,111,132,200,120,20,140,199,2,8,144,190,255,250,164,80,108,235,190,249,163,247,198,113,120,242]⟩
theorem OG :((List.range 64).all fun i=>mV aaH i==Jh.getD i 0)=true:=by decide+kernel
theorem Ad (i:Nat)(h:i<64):mV ⟨#[66,138,47,152,113,55,68,145,181,192,251,207,233,181,219,165,57,86,194,91,89,241,17,241,146,63,130,164,171,28,94,213,216,7,170,152,18,131,91,1,36,49,133,190,85,12,125,195,114,190,93,116,128,222,177,254,155,220,6,167,193,155,241,116,228,155,105,193,239,190,71,134,15,193,157,198,36,12,161,204,45,233,44,111,74,116,132,170,92,176,169,220,118,249,136,218,152,62,81,82,168,49,198,109,176,3,39,200,191,89,127,199,198,224,11,243,213,167,145,71,6,202,99,81,20,41,41,103,39,183,10,133,46,27,33,56,77,44,109,252,83,56,13,19,101,10,115,84,118,106,10,187,129,194,201,46,146,114,44,133,162,191,232,161,168,26,102,75,194,75,139,112,199,108,81,163,209,146,232,25,214,153,6,36,244,14,53,133,16,106,160,112,25,164,193,22,30,55,108,8,39,72,119,76,52,176,188,181,57,28,12,179,78,216,170,74,91,156,202,79,104,46,111,243,116,143,130,238,120,165,99,111,132,200,120,20,140,199,2,8,144,190,255,250,164,80,108,235,190,249,163,247,198,113,120,242]⟩ i=vT.getD i 0:=by
 have:=Zh.1 OG i (Z6.2 h);rw[DH];exact yN.1 this
theorem aiO (i:Nat):vT.getD i 0<4294967296:=by
 rw[DH];by_cases h:i<64
 ·rw[<-DH,<-Ad i h];exact Cq _ _
 rw[zu,yZ (by simp[Jh];omega)];simp
theorem aaI (i:Nat)(w:World)(h:i<64):Calls prog 236 #[i] w fun e w'=>e= .returned (.int .u32 (vT.getD i 0:Nat))/\∃n,w'=w.drewN n:=by
 have b:=za (Ad i h);generalize c:vT.getD i 0=K at*;go_enter func236,ntmps236
 go_wp2_with fail
 refine(R5 _ i _ (by simp[ByteArray.size];omega) (by simp[ByteArray.size])).mono ?_;rintro e w' ⟨rfl,n,rfl⟩;rw[b.out];go_wp2;go_ret;exact⟨rfl,_,rfl⟩
theorem Ae (g:Nat)(s:ByteArray)(k:Nat)(w:World)(h:iP w g s k 0)(i:k<s.size)(l:s.size<=9223372036854775807):
 Calls prog 214 #[(g,0)] w fun e w'=>e= .returned (.int .u8 s[k].toNat)/\iP w' g s (k+1) (0)/\ae [g] w w':=by
 have d:=h.cell 0;have b:=h.cell 1;have c:=h.cell 2;have j:=h.frozen 1;have m:=h.frozen 2;have n:=h.lt;simp at d b c;have H:=za h;clear h;go_enter func214,ntmps214
 go_wp2;go_quiet (fail)
 go_wp2;go_region
 all_goals go_wp2
 go_end0
 go_wp2;go_ret;refine⟨rfl, ?_,DP⟩;have h:=H.out;unfold iP at h⊢
 (repeat(first|with_reducible assumption|with_reducible apply af.drewN|with_reducible apply af.drew|with_reducible apply af.alloc|((with_reducible apply af.beside); · (first|omega|(simp<;>omega)))|with_reducible apply af.store));all_goals(first|rfl|simp)
theorem oD {x:Nat×Nat×Int}{b:Nat}{c:Int}(h:x=(a,b,c)):Ending.returned (.tuple #[a,b,c])= .returned (.tuple #[x.1,x.2.1,x.2.2]):=by rw[h]
theorem tU (most:Int)(s:ByteArray)(w:World)(q:s.size<=9223372036854775807)(u: -9223372036854775808<=most)(y:most<=9223372036854775807):
 Calls prog 103 #[most,s] w fun e w'=>e= .returned (.tuple #[.int .i64 (aw most s).1,.int .i64 (aw most s).2.1,.int .i64 (aw most s).2.2])/\w=w':=by
 have i:=ig s;have d:=za (fun w=>sM s w q);have h:=za (show aw most s=(if(ay s).2.2=0 then(if most<(ay s).1 then(0,0,5)else((ay s).1,(ay s).2.1,0))else(0,0,(ay s).2.2))from rfl);generalize ay s=x at*;obtain⟨n,k,p⟩:=x;dsimp only at*;rcases eR p with⟨c,m,o⟩|⟨c,m,o⟩
 ·subst c;have r:=i rfl;clear i;by_cases j:most<n
  ·have b:=za (by have:=h.out;rw[zg rfl,zg j]at this;exact this);rcases Int.lt_or_le most 0 with Fl|Fl
   ·go_enter func103,ntmps103
    go_wp2_with fail
    refine(d.out _).mono ?_;rintro e w' ⟨rfl,rfl⟩;go_wp2;go_ret3
    exact⟨oD b.out,rfl⟩
   have l:IntKind.u64.wrap most=most:=xy _ (by omega);go_enter func103,ntmps103
   go_wp2_with fail
   refine(d.out _).mono ?_;rintro e w' ⟨rfl,rfl⟩;go_wp2;go_ret3
   exact⟨oD b.out,rfl⟩
  have b:=za (by have:=h.out;rw[zg rfl,zf j]at this;exact this);have l:IntKind.u64.wrap most=most:=xy _ (by omega);have z:decide (most<(n:Int))=false:=zt j;go_enter func103,ntmps103
  go_wp2_with fail
  refine(d.out _).mono ?_;rintro e w' ⟨rfl,rfl⟩;go_wp2;go_ret3
  exact⟨oD b.out,rfl⟩
 have b:=za (by have:=h.out;rw[zf c]at this;exact this);clear i c;go_enter func103,ntmps103
 go_wp2_with fail
 refine(d.out _).mono ?_;rintro e w' ⟨rfl,rfl⟩;go_wp2;go_ret3
 exact⟨oD b.out,rfl⟩
theorem qX :ByteArray.empty=⟨#[]⟩:=rfl
def Mj (x:Int×Nat×ByteArray×Nat)(w:World)(e:Ending)(w':World):Prop:=
 e= .returned (.tuple #[.agg #[.int .u64 x.2.1,ByteArray.empty,x.2.2.1],x.2.2.2,x.1])/\(w,w')
theorem vz {x:Int×Nat×ByteArray×Nat}{a:Int}{b:Nat}{c:ByteArray}{e:Int}(h:x=(a,b,c,d))(hd:e=d)(i:Below w.heap.size w w'):
 Mj x w (.returned (.tuple #[.agg #[.int .u64 b,ByteArray.empty,c],e,a])) w':=by
 subst h;subst hd;exact⟨rfl,i⟩
theorem ky (most:Int)(s:ByteArray)(w:World)(A:s.size<=9223372036854775807)(Z: -9223372036854775808<=most)(pj:most<=9223372036854775807):
 Calls prog 96 #[most,s] w (Mj (an most s) w):=by
 have I:=sC most s;have F:=za (fun w=>tU most s w A Z pj);have x:=za (eM most s);generalize an most s=X at*;generalize aw most s=aa at*;obtain⟨n,k,J⟩:=aa;dsimp only at*;rcases eR J with⟨G,h1,h2⟩|⟨G,h1,h2⟩
 ·subst G;obtain⟨hn,hk,EO,ae⟩:=I rfl;clear I;by_cases E:s.size<k+n
  ·have z:=za (by have:=x.out;rw[zf (by simp),zg E]at this;exact this);clear x;go_enter func96,ntmps96
   go_wp2_with fail
   refine(F.out _).mono ?_;rintro e w' ⟨rfl,rfl⟩;go_wp2_with fail
   refine(sO s _).mono ?_;rintro e d ⟨rfl,c⟩;have j:iP d (w.heap.size+1) s 0 0:=by rw[c];have:=af.new (w.alloc (.cells #[.int .u64 0,eS,eS] 103)) 234 #[s,(0:Int),(0:Int)];rw[zp]at this;exact this
   have q:af d w.heap.size 103 #[.int .u64 0,eS,eS]:=by rw[c];exact(af.new w _ _).alloc _
   have p:Below w.heap.size w d:=by rw[c];exact bQ
   have U:d.heap.size=w.heap.size+2:=by rw[c];simp
   rw[zp];clear c;go_wp2_with fail
   refine(eI (w.heap.size+1) s 0 k _ j A (by omega)).mono ?_;rintro e Y ⟨rfl,h,i⟩;rw[zK]at h;have u:=q.only i (by simp);have R:=i.size;have o:=p.trans (i.below (B:=w.heap.size) (by omega) (by simp));clear j q p;go_wp2_with fail
   refine(gq (w.heap.size+1) s k n _ h hk A E (by omega)).mono ?_;rintro e w3 ⟨rfl,C,r⟩;have b:=u.only r (by simp);have D:=za (o.trans (r.below (B:=w.heap.size) (by omega) (by simp)));have l:=b.cell 0;have m:=b.cell 1;have y:=b.cell 2;have K:=b.frozen 0;have M:=b.frozen 1;have N:=b.frozen 2;simp at l m y;clear u o h;go_wp2_with fail
   refine(bu (w.heap.size+1) s _ _ _ C).mono ?_;rintro e w' ⟨rfl,rfl⟩;go_wp2;refine zj (v:= .tuple #[.agg #[.int .u64 0,ByteArray.empty,ByteArray.empty],(0:Int),(2:Int)]) (by simp[results,results96,go_sem,qX,l,m,y]) rfl ?_;exact vz z.out rfl (((D.out.setCell (by simp) _).setCell (by simp) _).setCell (by simp) _)
  have W:=za (fun w=>sM (s.extract k (k+n)) w (by rw[ar _ _ _ (by omega)];omega));have H:=ig (s.extract k (k+n));rw[ar _ _ _ (by omega:k+n<=s.size),Nat.add_sub_cancel_left]at H;have ad:(s.extract k (k+n)).size=n:=by rw[ar _ _ _ (by omega)];omega
  generalize L:s.extract k (k+n)=S at*;have O:=za L;generalize ay S=ab at*;obtain⟨id,sz,f⟩:=ab;dsimp only at*;clear L;rcases eR f with⟨g0,g1,g2⟩|⟨g0,g1,g2⟩
  ·subst g0;obtain⟨l1,l2,l3,l4⟩:=H rfl;have z:=za (by have:=x.out;rw[zf (by simp),zf E,zf (by simp)]at this;exact this);clear x H;go_enter func96,ntmps96
   go_wp2_with fail
   refine(F.out _).mono ?_;rintro e w' ⟨rfl,rfl⟩;go_wp2_with fail
   refine(sO s _).mono ?_;rintro e d ⟨rfl,c⟩;have j:iP d (w.heap.size+1) s 0 0:=by rw[c];have:=af.new (w.alloc (.cells #[.int .u64 0,eS,eS] 103)) 234 #[s,(0:Int),(0:Int)];rw[zp]at this;exact this
   have q:af d w.heap.size 103 #[.int .u64 0,eS,eS]:=by rw[c];exact(af.new w _ _).alloc _
   have p:Below w.heap.size w d:=by rw[c];exact bQ
   have U:d.heap.size=w.heap.size+2:=by rw[c];simp
   rw[zp];clear c;go_wp2_with fail
   refine(eI (w.heap.size+1) s 0 k _ j A (by omega)).mono ?_;rintro e Y ⟨rfl,h,i⟩;rw[zK]at h;have u:=q.only i (by simp);have R:=i.size;have o:=p.trans (i.below (B:=w.heap.size) (by omega) (by simp));clear j q p;go_wp2_with fail
   refine(eI (w.heap.size+1) s k n _ h A (by omega)).mono ?_;rintro e w3 ⟨rfl,C,r⟩;rw[O.out];have b:=u.only r (by simp);have D:=za (o.trans (r.below (B:=w.heap.size) (by omega) (by simp)));have l:=b.cell 0;have m:=b.cell 1;have y:=b.cell 2;have K:=b.frozen 0;have M:=b.frozen 1;have N:=b.frozen 2;simp at l m y;clear u o h;go_wp2_with fail
   refine(bu (w.heap.size+1) s _ _ _ C).mono ?_;rintro e w' ⟨rfl,rfl⟩;go_wp2_with fail
   refine(W.out _).mono ?_;rintro e w' ⟨rfl,rfl⟩;go_wp2;refine zj (v:= .tuple #[.agg #[.int .u64 id,ByteArray.empty,.string (S.extract sz n)],.int .i64 ((k:Int)+n),(0:Int)]) (by simp[results,results96,go_sem,qX,l,m,y]) rfl ?_;exact vz z.out (by omega) (((D.out.setCell (by simp) _).setCell (by simp) _).setCell (by simp) _)
  have z:=za (by have:=x.out;rw[zf (by simp),zf E,zg g0]at this;exact this);clear x H g0;go_enter func96,ntmps96
  go_wp2_with fail
  refine(F.out _).mono ?_;rintro e w' ⟨rfl,rfl⟩;go_wp2_with fail
  refine(sO s _).mono ?_;rintro e d ⟨rfl,c⟩;have j:iP d (w.heap.size+1) s 0 0:=by rw[c];have:=af.new (w.alloc (.cells #[.int .u64 0,eS,eS] 103)) 234 #[s,(0:Int),(0:Int)];rw[zp]at this;exact this
  have q:af d w.heap.size 103 #[.int .u64 0,eS,eS]:=by rw[c];exact(af.new w _ _).alloc _
  have p:Below w.heap.size w d:=by rw[c];exact bQ
  have U:d.heap.size=w.heap.size+2:=by rw[c];simp
  rw[zp];clear c;go_wp2_with fail
  refine(eI (w.heap.size+1) s 0 k _ j A (by omega)).mono ?_;rintro e Y ⟨rfl,h,i⟩;rw[zK]at h;have u:=q.only i (by simp);have R:=i.size;have o:=p.trans (i.below (B:=w.heap.size) (by omega) (by simp));clear j q p;go_wp2_with fail
  refine(eI (w.heap.size+1) s k n _ h A (by omega)).mono ?_;rintro e w3 ⟨rfl,C,r⟩;rw[O.out];have b:=u.only r (by simp);have D:=za (o.trans (r.below (B:=w.heap.size) (by omega) (by simp)));have l:=b.cell 0;have m:=b.cell 1;have y:=b.cell 2;have K:=b.frozen 0;have M:=b.frozen 1;have N:=b.frozen 2;simp at l m y;clear u o h;go_wp2_with fail
  refine(bu (w.heap.size+1) s _ _ _ C).mono ?_;rintro e w' ⟨rfl,rfl⟩;go_wp2_with fail
  refine(W.out _).mono ?_;rintro e w' ⟨rfl,rfl⟩;go_wp2;refine zj (v:= .tuple #[.agg #[.int .u64 0,ByteArray.empty,ByteArray.empty],(0:Int),(3:Int)]) (by simp[results,results96,go_sem,qX,l,m,y]) rfl ?_;exact vz z.out rfl (((D.out.setCell (by simp) _).setCell (by simp) _).setCell (by simp) _)
 have z:=za (by have:=x.out;rw[zg G]at this;exact this);clear x I G;go_enter func96,ntmps96
 go_wp2_with fail
 refine(F.out _).mono ?_;rintro e w' ⟨rfl,rfl⟩;go_wp2;refine zj (v:= .tuple #[.agg #[.int .u64 0,ByteArray.empty,ByteArray.empty],.int .i64 0,.int .i64 J]) (by simp[results,results96,go_sem,qX]) rfl ?_;exact vz z.out rfl bQ
theorem aaJ {L:List UInt8}(b:n+mt L (j+n) (i+n) (64-n)=X)(e:n<64)(c:i+n<L.length)(d:L[j+n]?=L[i+n]?):(n+1)+mt L (j+(n+1)) (i+(n+1)) (64-(n+1))=X:=by
 rw[<-b,show 64-n=(64-(n+1))+1 from by omega,mt,zg ⟨c,d⟩];rw[show j+(n+1)=j+n+1 from by omega,show i+(n+1)=i+n+1 from by omega];omega
theorem R6 {L:List UInt8}(d:n+mt L (j+n) (i+n) (64-n)=X)(k:n<=64)(h:¬n<64\/¬i+n<L.length\/L[j+n]?≠L[i+n]?):X=n:=by
 rw[<-d];by_cases e:n<64
 ·rw[show 64-n=(64-(n+1))+1 from by omega,mt,zf (by
   rintro⟨b,c⟩;rcases h with h|h|h
   ·exact h e
   ·exact h b
   exact h c)];rfl
 rw[show 64-n=0 from by omega];rfl
theorem Mk {b:Nat}(c:a<s.size)(d:b<s.size):(s[a].toNat==s[b].toNat)=true↔s.data.toList[a]?=s.data.toList[b]?:=by
 rw[iA s a c,iA s b d];simp[zP]
theorem J5 (w:World)(a b:Nat):(w.drewN a).drewN b=w.drewN (a+b):=by simp[World.drewN,yd]
theorem Eh {k:IntKind}{b:Nat}(h:a=b):Ending.returned (.int k b)= .returned (.int k a):=by rw[h]
theorem VH (s:ByteArray)(j i:Nat)(w:World)(F:j<i)(hi:i<=s.size)(C:s.size<=9223372036854775000):
 Calls prog 178 #[s,j,i] w fun e w'=>e= .returned (.int .i64 (mt s.data.toList j i 64))/\∃m,w'=w.drewN m:=by
 go_enter func178,ntmps178
 go_wp2;go_loopw [7] (fun v wr=>∃n:Nat,n<=64/\n<=64/\v= .int .i64 n/\Hid (n+mt s.data.toList (j+n) (i+n) (64-n)=mt s.data.toList j i 64)/\∃m,wr=w.drewN m) (fun v _=>64-(intOf v).toNat)
 case atStart=>exact⟨0,by omega,by omega,rfl,za (by simp),0,rfl⟩
 case round=>
  obtain⟨n,d,_,rfl,c,m,rfl⟩:=hrel;by_cases l:n<64
  ·have r:decide ((n:Int)<64)=true:=zD (by omega);have B:IntKind.i64.wrap ((i:Int)+n)=(i:Int)+n:=zY _ (by omega);have E:IntKind.i64.wrap ((j:Int)+n)=(j:Int)+n:=zY _ (by omega);by_cases b:i+n<s.size
   ·have q:decide ((i:Int)+n<s.size)=true:=zD (by omega);have u:((j:Int)+n).toNat=j+n:=by omega
    have z:((i:Int)+n).toNat=i+n:=by omega
    have y:0<=(j:Int)+n:=by omega
    have A:0<=(i:Int)+n:=by omega
    have D:(j:Int)+n<s.size:=by omega
    have x:(i:Int)+n<s.size:=by omega
    have o:j+n<s.size:=by omega
    rcases xd (s[j+n].toNat==s[i+n].toNat)with hb|hb
    ·have k:=za ((Mk o b).1 hb);have p:((s[j+n].toNat:Int)==s[i+n].toNat)=true:=by
      have:=eq_of_beq hb;rw[this];simp
     clear hb;go_wp2;go_quiet (fail)
     go_wp2;go_roundw
     case rel=>exact⟨n+1,by omega,by omega,by go_num,za (aaJ c.out l (by simpa using b) k.out),_,rfl⟩
     case measure=>simp[intOf];omega
    have k:Hid (¬(s.data.toList[j+n]?=s.data.toList[i+n]?)):=za (by
     intro h;rw[(Mk o b).2 h]at hb;exact absurd hb (by decide))
    have p:((s[j+n].toNat:Int)==s[i+n].toNat)=false:=by
     have:=ne_of_beq_false hb;exact zl.2 (by omega)
    clear hb;go_wp2;go_quiet (fail)
    go_wp2;go_ret;exact⟨Eh (R6 c.out d (.inr (.inr k.out))),_,J5 _ _ _⟩
   have q:decide ((i:Int)+n<s.size)=false:=zt (by omega);go_wp2;go_quiet (fail)
   go_wp2;go_ret;exact⟨Eh (R6 c.out d (.inr (.inl (by simpa using b)))),_,J5 _ _ _⟩
  have r:decide ((n:Int)<64)=false:=zt (by omega);go_wp2;go_quiet (fail)
  go_wp2;go_ret;exact⟨Eh (R6 c.out d (.inl l)),_,J5 _ _ _⟩
def R7 (base:Nat)(w:World)(l:List UInt8)(e:Ending)(w':World):Prop:=
 ∃(A:Option Addr) (n cap:Nat),e= .returned (.slice A n cap)/\bR w' base 5 (.slice A n cap) l/\Kept 5 base w w'
theorem aaK (h:l.length=0):im l= []:=by unfold im;rw[zg h]
theorem aaL (h:l.length≠0)(b:l.length<=60):im l= [ub (4*(l.length-1):Nat)]++l:=by unfold im;rw[zf h,zg b];rfl
theorem aaM (h:¬l.length<=60)(b:l.length<=256):im l= [ub (240:Nat),ub (l.length-1:Nat)]++l:=by unfold im;rw[zf (by omega),zf h,zg b];rfl
theorem aaN (h:¬l.length<=256)(b:l.length<=65536):im l= [ub (244:Nat)]++(jz (l.length-1) 2++l):=by
 unfold im;rw[zf (by omega),zf (by omega),zf h];simp only[jz];simp;refine⟨rfl, ?_⟩;rw[Int.emod_eq_of_lt (by omega) (by omega)]
theorem Ml (base:Nat)(v:Value)(l:List UInt8)(s:ByteArray)(w:World)(h:bR w base 5 v l)(y:base<=w.heap.size)(hl:l.length<=1000000)(hs:s.size<=65536):
 Calls prog 177 #[v,s] w (R7 base w (l++im s.data.toList)):=by
 obtain⟨i0,hi,d,j,i⟩:=yv sN;obtain⟨A,cap,rfl,Y,jf⟩:=h.form;generalize X:l.length=n at*;have c:=aa s;by_cases p:s.size=0
 ·have M:((s.size:Int)==0)=true:=by simp[p]
  have k:=za (aaK (l:=s.data.toList) (by omega));clear p c;go_enter func177,ntmps177
  go_wp2;go_ret;exact⟨A,n,cap,rfl,by rw[k.out,yO];exact h,Kept.refl _ _ _⟩
 have M:((s.size:Int)==0)=false:=zl.2 (by omega);have U:1<=s.size:=by omega
 by_cases W:s.size<=60
 ·have k:=za (aaL (l:=s.data.toList) (by omega) (by omega));have r:=za (show s.data.toList.length-1=s.size-1 by rw[c]);clear p c;go_enter func177,ntmps177
  go_wp2_with (first|(at_builtin;refine aP (by rfl) (.tmp 29) (.tmp 34) 75 75 (by rfl) base 5 i0 zm hi d j i (by rfl) (h.alloc _) _ [ub (4*(s.size-1):Nat)] (by rfl) (kh zm w 5 _ [ub (4*(s.size-1):Nat)] 1 (pE (by omega) (by omega))) (by rw[zp];omega) (by simp only[zx,zM];omega) ?_;intro F n1 I G q b)|(at_builtin;refine aP (by rfl) (.tmp 45) (.tmp 46) 75 9 (by rfl) base 5 i0 zm hi d j i (by rfl) q _ s.data.toList (by rfl) (iE zH _ s) (zz (by rw[zp];omega) b.size) (by simp only[zh,zx,zM,aa];omega) ?_;intro u n2 x H o m))
  go_ret;refine⟨u,n2,x,rfl, ?_,((Kept.refl _ _ _).alloc y _).trans (b.trans m)⟩;rw[k.out,r.out,<-zB];exact o
 by_cases h2:s.size<=256
 ·have k:=za (aaM (l:=s.data.toList) (by omega) (by omega));have r:=za (show s.data.toList.length-1=s.size-1 by rw[c]);clear p c;go_enter func177,ntmps177
  go_wp2_with (first|(at_builtin;refine aP (by rfl) (.tmp 39) (.tmp 43) 75 75 (by rfl) base 5 i0 zm hi d j i (by rfl) (h.alloc _) _ [ub (240:Nat),ub (s.size-1:Nat)] (by rfl) (kh zm w 5 _ [ub (240:Nat),ub (s.size-1:Nat)] 2 (QT (by omega) (by omega) (by omega) (by omega))) (by rw[zp];omega) (by simp only[zx,zM];omega) ?_;intro F n1 I G q b)|(at_builtin;refine aP (by rfl) (.tmp 45) (.tmp 46) 75 9 (by rfl) base 5 i0 zm hi d j i (by rfl) q _ s.data.toList (by rfl) (iE zH _ s) (zz (by rw[zp];omega) b.size) (by simp only[zh,zx,zM,aa];omega) ?_;intro u n2 x H o m))
  go_ret;refine⟨u,n2,x,rfl, ?_,((Kept.refl _ _ _).alloc y _).trans (b.trans m)⟩;rw[k.out,r.out,<-zB];exact o
 have k:=za (aaN (l:=s.data.toList) (by omega) (by omega));have r:=za (show s.data.toList.length-1=s.size-1 by rw[c]);have C:=za (jO (s.size-1) 2 w (by omega) (by omega) (by omega));rw[show((s.size-1:Nat):Int)=(s.size:Int)-1 from by omega]at C;have B:(⟨(jz (s.size-1) 2).toArray⟩:ByteArray).data.toList=jz (s.size-1) 2:=rfl;generalize (⟨(jz (s.size-1) 2).toArray⟩:ByteArray)=T at*;have Z:T.data.toList.length=2:=by rw[B,bd]
 have K:=za B;clear p c B;go_enter func177,ntmps177
 go_wp2_with fail
 refine C.out.mono ?_;rintro e E ⟨rfl,z⟩;have hz:=z.size;have R:=h.below z;have O:Kept 5 base w E:=Kept.ai z (ze _) y;go_wp2_with (first|(at_builtin;refine aP (by rfl) (.tmp 17) (.tmp 18) 75 75 (by rfl) base 5 i0 zm hi d j i (by rfl) (R.alloc _) _ [ub (244:Nat)] (by rfl) (kh zm E 5 _ [ub (244:Nat)] 1 (pE (by omega) (by omega))) (by rw[zp];omega) (by simp only[zx,zM];omega) ?_;intro F n1 I G q b)|(at_builtin;refine aP (by rfl) (.tmp 19) (.tmp 20) 75 9 (by rfl) base 5 i0 zm hi d j i (by rfl) q _ T.data.toList (by rfl) (iE zH _ T) (zz (by rw[zp];omega) b.size) (by simp only[zh,zx,zM];omega) ?_;intro u n2 x H o m)|(at_builtin;refine aP (by rfl) (.tmp 45) (.tmp 46) 75 9 (by rfl) base 5 i0 zm hi d j i (by rfl) o _ s.data.toList (by rfl) (iE zH _ s) (zz (by rw[zp];omega) (b.trans m).size) (by simp only[zh,zx,zM,aa];rw[<-aa T];omega) ?_;intro N S L w3 D J))
 go_ret;refine⟨N,S,L,rfl, ?_,O.trans (((Kept.refl _ _ _).alloc (by omega) _).trans (b.trans (m.trans J)))⟩;rw[K.out]at D;rw[k.out,r.out,<-zB,<-zB];exact D
theorem aaO (h:n<=11)(b:d<2048):kW n d= [ub (1+4*(n-4)+32*(d/256):Nat),ub (d%256:Nat)]:=by unfold kW;rw[zg ⟨h,b⟩]
theorem aaP (h:¬(n<=11/\d<2048))(hd:d<65536):kW n d= [ub (2+4*(n-1):Nat)]++jz d 2:=by
 unfold kW;rw[zf h];simp only[jz];simp;rw[Int.emod_eq_of_lt (by omega) (by omega)]
theorem VI (base:Nat)(v:Value)(l:List UInt8)(n d:Nat)(w:World)(h:bR w base 5 v l)(r:base<=w.heap.size)(O:l.length<=1000000)(N:4<=n)(K:n<=64)(hd:d<65536):
 Calls prog 179 #[v,n,d] w (R7 base w (l++kW n d)):=by
 obtain⟨i0,hi,j,p,m⟩:=yv sN;obtain⟨A,cap,rfl,L,U⟩:=h.form;generalize R:l.length=W at*;by_cases b:n<=11/\d<2048
 ·obtain⟨b,y⟩:=b;have q:=za (aaO b y);have S:decide ((d:Int)<2048)=true:=zD (by omega);go_enter func179,ntmps179
  go_wp2_with (at_builtin;refine aP (by rfl) (.tmp 15) (.tmp 28) 75 75 (by rfl) base 5 i0 zm hi j p m (by rfl) (h.alloc _) _ [ub (1+4*(n-4)+32*(d/256):Nat),ub (d%256:Nat)] (by rfl) (kh zm w 5 _ [ub (1+4*(n-4)+32*(d/256):Nat),ub (d%256:Nat)] 2 (QT (by omega) (by omega) (by omega) (by omega))) (by rw[zp];omega) (by simp only[zx,zM];omega) ?_;intro x n1 z I o c)
  go_ret;exact⟨x,n1,z,rfl,by rw[q.out];exact o,((Kept.refl _ _ _).alloc r _).trans c⟩
 have q:=za (aaP b hd);have E:11<n\/(n<=11/\2048<=d):=by omega
 have B:=za (jO d 2 w (by omega) (by omega) (by omega));have k:(⟨(jz d 2).toArray⟩:ByteArray).data.toList=jz d 2:=rfl;generalize (⟨(jz d 2).toArray⟩:ByteArray)=T at*;have M:T.data.toList.length=2:=by rw[k,bd]
 have C:=za k;clear b k;rcases E with b|⟨b,y⟩;all_goals
  go_enter func179,ntmps179
  go_wp2_with fail
  refine B.out.mono ?_;rintro e u ⟨rfl,i⟩;have hz:=i.size;have H:=h.below i;have F:Kept 5 base w u:=Kept.ai i (ze _) r;go_wp2_with (first|(at_builtin;refine aP (by rfl) (.tmp 36) (.tmp 42) 75 75 (by rfl) base 5 i0 zm hi j p m (by rfl) (H.alloc _) _ [ub (2+4*(n-1):Nat)] (by rfl) (kh zm u 5 _ [ub (2+4*(n-1):Nat)] 1 (pE (by omega) (by omega))) (by rw[zp];omega) (by simp only[zx,zM];omega) ?_;intro x n1 z I o c)|(at_builtin;refine aP (by rfl) (.tmp 43) (.tmp 44) 75 9 (by rfl) base 5 i0 zm hi j p m (by rfl) o _ T.data.toList (by rfl) (iE zH _ T) (zz (by rw[zp];omega) c.size) (by simp only[zh,zx,zM];omega) ?_;intro D n2 J X s G))
  go_ret;refine⟨D,n2,J,rfl, ?_,F.trans (((Kept.refl _ _ _).alloc (by omega) _).trans (c.trans G))⟩;rw[C.out]at s;rw[q.out,<-zB];exact s
structure GN where
 kind:Nat
 side:Int
 n:Int
 name:ByteArray
 x:It
 s:ByteArray
structure VJ (y:GN):Prop where
 kind:y.kind<256
 side: -9223372036854775808<=y.side/\y.side<=9223372036854775807
 n: -9223372036854775808<=y.n/\y.n<=9223372036854775807
 name:y.name.size<=9223372036854775807
def AcI (w:World)(g o:Nat)(y:GN)(c0 c1 c2:Value):Prop:=w.cell? (g,o)=some (.int .u8 y.kind)/\(w,g,o+1,y.side)/\(w,g,o+2,y.n)/\(w,g,o+3,y.name)/\(w,g,o+4,c0)/\(w,g,o+5,c1)/\(w,g,o+6,c2)/\(w,g,o+7,y.s)
def OH (w:World)(B:Nat)(v:Value)(l:List GN):Prop:=∃A cap,v= .slice A l.length cap/\l.length<=cap/\cap<=9223372036854775807/\∀j (h:j<l.length),∃g o c0 c1 c2,A=some ⟨g,o,none⟩/\g<B/\AcI w g (o+j*8) l[j] c0 c1 c2/\bH w B l[j].x c0 c1 c2/\VJ l[j]
theorem OH.below {l:List GN}(h:OH w B v l)(b:Below B w w'):OH w' B v l:=by
 obtain⟨A,cap,i,E,d,q⟩:=h;refine⟨A,cap,i,E,d,fun j C=> ?_⟩;obtain⟨g,o,e,F,D,p,c,⟨m,x,z,k,r,n,s,y⟩,hi,u⟩:=q j C;exact⟨g,o,e,F,D,p,c,⟨(b.cell c).trans m,(b.cell c).trans x,(b.cell c).trans z,(b.cell c).trans k,(b.cell c).trans r,(b.cell c).trans n,(b.cell c).trans s,(b.cell c).trans y⟩,hi.below b,u⟩
theorem OH.bK {l:List GN}(h:OH w B v l):∃A n cap,v= .slice A n cap/\Hid (n=l.length)/\n<=cap/\cap<=9223372036854775807:=by
 obtain⟨A,cap,b,d,c,_⟩:=h;exact⟨A,_,cap,b,za rfl,d,c⟩
theorem OH.at_ {A:Option Addr}{cap:Nat}{l:List GN}(h:OH w B (.slice A n cap) l)(e:j<l.length):∃g o b d c,A=some ⟨g,o,none⟩/\g<B/\AcI w g (o+j*8) l[j] b d c/\bH w B l[j].x b d c/\VJ l[j]:=by
 obtain⟨p,r,i,q,m,k⟩:=h;injection i with hA _ _;subst hA;exact k j e
def uO (o:GN):Bool:=decide (100<o.s.size)||(decide (100<o.name.size)||o.x.kU)
def tV (l:List GN):Bool:=decide (60<l.length)||l.any uO
theorem R8 {l:List GN}(h:tV l=false):l.length<=60/\∀o∈l,o.x.kU=false:=by
 simp only[tV,Zd,yM,xW]at h;refine⟨by omega,fun o b=> ?_⟩;have:=h.2 o b;simp only[uO,ZY,zU,not_or]at this;simpa using this.2.2
theorem OI (l:List GN)(v:Value)(B:Nat)(w:World)(u:OH w B v l)(hB:B<=w.heap.size):
 Calls prog 15 #[v] w fun e w'=>e= .returned (.bool (tV l))/\(w,w'):=by
 obtain⟨A,n,cap,rfl,p,PC,jf⟩:=u.bK;have HV:=za u;clear u;by_cases H:60<n
 ·have Y:(60:Int)<n:=by omega
  have s:Hid (tV l=true):=za (by unfold tV;rw[<-p.out];simp[H]);rw[s.out];go_enter func15,ntmps15
  go_wp2;go_ret;exact⟨rfl,zi _ _⟩
 have Y:¬(60:Int)<n:=by omega
 have s:Hid (tV l=l.any uO):=za (by unfold tV;rw[<-p.out];simp[H]);rw[s.out];obtain⟨R,x⟩:=dY (l.any uO);rw[x];have G:=za x;clear x s;go_enter func15,ntmps15
 go_wp2;go_loopw [3] (fun i wr=>∃k:Nat,i= .int .i64 k/\k<=n/\Hid (∀j (m:j<l.length),j<k->uO l[j]=false)/\(w,wr)) (fun i _=>n-(intOf i).toNat)
 case atStart=>exact⟨0,rfl,by omega,za (by omega),zi _ _⟩
 case round=>
  obtain⟨k,rfl,hk,E,c⟩:=hrel;have Z:=c.size;by_cases W:k<n
  ·have K:k<l.length:=by rw[<-p.out];exact W
   obtain⟨g,o,N,c1,c2,rfl,hg,⟨_,_,_,O,e4,e5,e6,e7⟩,hi,_⟩:=(HV.out.below (c.mono hB)).at_ K;have I:Hid (uO l[k]=false->∀j (m:j<l.length),j<k+1->uO l[j]=false):=za (fun d j m KY=>by
    by_cases h:j=k
    ·subst h;exact d
    exact E.out j m (by omega))
   have q:Hid (uO l[k]=true->R=true):=za (fun d=>by rw[<-G.out];exact Zg.2 ⟨_,zA K,d⟩);obtain⟨y,L⟩:=dY l[k];rw[L]at O e7 I q hi;clear L;have M:=hi.mono (show B<=wr.heap.size by omega);have F:=za (Mi y.x wr.heap.size wr N c1 c2 M (ze _));obtain⟨Ax,dC,rfl,rfl,rfl,_⟩:=hi.open_;clear hi M;by_cases d:100<y.s.size
   ·have X:(100:Int)<(y.s.size:Int):=by omega
    have b:=za (q.out (by simp[uO,d]));go_wp2_with fail
    go_ret;exact⟨by rw[b.out];rfl,c⟩
   have X:¬(100:Int)<(y.s.size:Int):=by omega
   by_cases C:100<y.name.size
   ·have U:(100:Int)<(y.name.size:Int):=by omega
    have b:=za (q.out (by simp[uO,C]));go_wp2_with fail
    go_ret;exact⟨by rw[b.out];rfl,c⟩
   have U:¬(100:Int)<(y.name.size:Int):=by omega
   obtain⟨r,z⟩:=dY y.x.kU;rw[z]at F;have J:=za z;clear z;go_wp2_with fail
   refine cm F.out fun w2 S=> ?_
   have D:=c.trans (S.mono Z);cases r with
   |true=>
    have b:=za (q.out (by simp[uO,J.out]));go_wp2;go_ret;exact⟨by rw[b.out];rfl,D⟩
   |false=>
    have HN:=za (I.out (by simp[uO,d,C,J.out]));go_wp2;go_roundw
    case rel=>exact⟨k+1,by go_num,by omega,HN,D⟩
    case measure=>simp[intOf];omega
  have b:Hid (R=false):=za (by
   rw[<-G.out,xW];intro e he;obtain⟨j,m,rfl⟩:=yS he;rw[E.out j m (by rw[<-p.out]at m;omega)];simp)
  go_wp2;go_ret;exact⟨by rw[b.out];rfl,c⟩
theorem tW (s:ByteArray)(k:Nat)(h:k<=s.size):s.size-(s.data.toList.drop k).length=k:=by rw[zN,aa];omega
theorem Ei (x:Int)(b: -9223372036854775808<=x)(c:x<=9223372036854775807):wrap64 x=x:=by unfold wrap64;omega
theorem R9 (m b:Nat)(h:m<1000000)(c:48<=b)(d:b<=57):wrap64 (wrap64 (wrap64 (10*(m:Int))+wrap64 (b:Int))-48)=((10*m+(b-48):Nat):Int):=by
 rw[Ei (10*(m:Int)) (by omega) (by omega),Ei (b:Int) (by omega) (by omega),Ei (10*(m:Int)+b) (by omega) (by omega),Ei _ (by omega) (by omega)];omega
def eA (s:ByteArray):Option (Nat×List UInt8)->Ending
 |none=> .returned (.tuple #[(0:Int),.int .i64 (-1)])
 |some (n,r)=> .returned (.tuple #[n,((s.size-r.length:Nat):Int)])
theorem pR (s:ByteArray)(at_:Nat)(w:World)(J:at_<=s.size)(O:s.size<=100000):
 Calls prog 56 #[s,at_] w fun e w'=>e=eA s (cq (s.data.toList.drop at_))/\w=w':=by
 obtain⟨R,d⟩:∃R,Hid (eA s (cq (s.data.toList.drop at_))=R):=⟨_,za rfl⟩
 rw[d.out];go_enter func56,ntmps56
 go_wp2_with fail
 go_loop [6,1] (fun n i=>∃k m:Nat,at_<=k/\k<=s.size/\m<=10000100/\Hid (kY s at_ k m)/\n= .int .i64 m/\i= .int .i64 k) (fun _ i=>s.size-(intOf i).toNat)
 case atStart=>exact⟨at_,0,by omega,J,by omega,za (kY.start s at_),rfl,rfl⟩
 case round=>
  obtain⟨k,m,N,p,x,hrel,rfl,rfl⟩:=hrel;by_cases z:k<s.size
  ·by_cases u:48<=s[k].toNat
   ·by_cases r:s[k].toNat<=57
    ·have A:=za (hrel.out.next z ((kX _).2 ⟨u,r⟩));have B:=za (wg m s[k] x r);have C:decide ((48:Int)<=(s[k].toNat:Int))=true:=zD (by omega);have o:decide ((s[k].toNat:Int)<=57)=true:=zD (by omega);have F:=za u;have G:=za r;clear u r;by_cases q:m<1000000
     ·have y:Hid (fp m s[k]=10*m+(s[k].toNat-48)):=za (by simp[fp,q]);have I:decide ((m:Int)<1000000)=true:=zD (by omega);have K:=za q;clear q x;go_wp2_with fail
      go_round
      case rel=>exact⟨k+1,fp m s[k],by omega,by omega,B.out,A,by rw[y.out];have H:=F.out;have L:=G.out;have M:=K.out;rw[R9 m s[k].toNat M H L],by go_num⟩
      case measure=>simp[intOf];omega
     have y:Hid (fp m s[k]=m):=za (by simp[fp,q]);have I:decide ((m:Int)<1000000)=false:=zt (by omega);clear q x;go_wp2_with fail
     go_round
     case rel=>exact⟨k+1,fp m s[k],by omega,by omega,B.out,A,by rw[y.out],by go_num⟩
     case measure=>simp[intOf];omega
    have j:Hid (∀h:k<s.size,jd s[k]=false):=za (fun h=>by simp[jd];omega);have C:decide ((s[k].toNat:Int)<=57)=false:=zt (by omega);rcases(show k=at_\/at_<k from by omega)with rfl|hak
    ·have b:Hid (R= .returned (.tuple #[(0:Int),.int .i64 (-1)])):=za (by rw[<-d.out,ou j.out];rfl);go_wp2;all_goals
      go_ret2
      exact⟨by rw[b.out];rfl,rfl⟩
    have D:at_<s.size:=(hrel.out.2 at_ (by omega) hak).1;have E:((k:Int)==(at_:Int))=false:=zl.2 (by omega);by_cases c:s[at_].toNat=48
    ·have o:((s[at_].toNat:Int)==48)=true:=by simp[c]
     by_cases l:at_+1<k
     ·have b:Hid (R= .returned (.tuple #[(0:Int),.int .i64 (-1)])):=za (by rw[<-d.out,ow hrel.out l (fun _=>c)];rfl);clear c;go_wp2;all_goals
       go_ret2
       exact⟨by rw[b.out];rfl,rfl⟩
     have b:Hid (R= .returned (.tuple #[m,k])):=za (by rw[<-d.out,ko hrel.out hak j.out (fun h=>absurd h l)];simp only[eA,tW s k p]);clear c;go_wp2;all_goals
      go_ret2
      exact⟨by rw[b.out];rfl,rfl⟩
    have o:((s[at_].toNat:Int)==48)=false:=zl.2 (by omega);have b:Hid (R= .returned (.tuple #[m,k])):=za (by rw[<-d.out,ko hrel.out hak j.out (fun _ _=>c)];simp only[eA,tW s k p]);clear c;go_wp2;all_goals
     go_ret2
     exact⟨by rw[b.out];rfl,rfl⟩
   have j:Hid (∀h:k<s.size,jd s[k]=false):=za (fun h=>by simp[jd];omega);have C:decide ((48:Int)<=(s[k].toNat:Int))=false:=zt (by omega);rcases(show k=at_\/at_<k from by omega)with rfl|hak
   ·have b:Hid (R= .returned (.tuple #[(0:Int),.int .i64 (-1)])):=za (by rw[<-d.out,ou j.out];rfl);go_wp2;all_goals
     go_ret2
     exact⟨by rw[b.out];rfl,rfl⟩
   have D:at_<s.size:=(hrel.out.2 at_ (by omega) hak).1;have E:((k:Int)==(at_:Int))=false:=zl.2 (by omega);by_cases c:s[at_].toNat=48
   ·have o:((s[at_].toNat:Int)==48)=true:=by simp[c]
    by_cases l:at_+1<k
    ·have b:Hid (R= .returned (.tuple #[(0:Int),.int .i64 (-1)])):=za (by rw[<-d.out,ow hrel.out l (fun _=>c)];rfl);clear c;go_wp2;all_goals
      go_ret2
      exact⟨by rw[b.out];rfl,rfl⟩
    have b:Hid (R= .returned (.tuple #[m,k])):=za (by rw[<-d.out,ko hrel.out hak j.out (fun h=>absurd h l)];simp only[eA,tW s k p]);clear c;go_wp2;all_goals
     go_ret2
     exact⟨by rw[b.out];rfl,rfl⟩
   have o:((s[at_].toNat:Int)==48)=false:=zl.2 (by omega);have b:Hid (R= .returned (.tuple #[m,k])):=za (by rw[<-d.out,ko hrel.out hak j.out (fun _ _=>c)];simp only[eA,tW s k p]);clear c;go_wp2;all_goals
    go_ret2
    exact⟨by rw[b.out];rfl,rfl⟩
  have j:Hid (∀h:k<s.size,jd s[k]=false):=za (fun h=>absurd h z);rcases(show k=at_\/at_<k from by omega)with rfl|hak
  ·have b:Hid (R= .returned (.tuple #[(0:Int),.int .i64 (-1)])):=za (by rw[<-d.out,ou j.out];rfl);go_wp2;all_goals
    go_ret2
    exact⟨by rw[b.out];rfl,rfl⟩
  have D:at_<s.size:=(hrel.out.2 at_ (by omega) hak).1;have E:((k:Int)==(at_:Int))=false:=zl.2 (by omega);by_cases c:s[at_].toNat=48
  ·have o:((s[at_].toNat:Int)==48)=true:=by simp[c]
   by_cases l:at_+1<k
   ·have b:Hid (R= .returned (.tuple #[(0:Int),.int .i64 (-1)])):=za (by rw[<-d.out,ow hrel.out l (fun _=>c)];rfl);clear c;go_wp2;all_goals
     go_ret2
     exact⟨by rw[b.out];rfl,rfl⟩
   have b:Hid (R= .returned (.tuple #[m,k])):=za (by rw[<-d.out,ko hrel.out hak j.out (fun h=>absurd h l)];simp only[eA,tW s k p]);clear c;go_wp2;all_goals
    go_ret2
    exact⟨by rw[b.out];rfl,rfl⟩
  have o:((s[at_].toNat:Int)==48)=false:=zl.2 (by omega);have b:Hid (R= .returned (.tuple #[m,k])):=za (by rw[<-d.out,ko hrel.out hak j.out (fun _ _=>c)];simp only[eA,tW s k p]);clear c;go_wp2;all_goals
   go_ret2
   exact⟨by rw[b.out];rfl,rfl⟩
