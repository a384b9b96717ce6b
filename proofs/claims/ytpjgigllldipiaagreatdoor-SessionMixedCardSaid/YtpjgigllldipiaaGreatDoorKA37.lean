/- rlp.head tells hd. -/
import Derived.Test.YtpjgigllldipiaaGreatDoorKA26
import Derived.Test.YtpjgigllldipiaaGreatDoorKA11
set_option linter.all false
set_option maxRecDepth 100000
set_option maxHeartbeats 4000000
namespace Go.Proofs.YtpjgigllldipiaaGreatDoor
open Tryz
open Go.RowKit
def yn:=@results179
def yu:=@ntmps179
def yz:=@func179
def yD:=@results101
def xM:=@ntmps101
def xT:=@func101
def Yk:=@Bool.or_eq_true
def hdV (r:Bool×Nat×Nat×Int):Value:= .tuple #[.bool r.1,.int .i64 r.2.1,.int .i64 r.2.2.1,.int .i64 r.2.2.2]
theorem Me (s:ByteArray)(d m:Bool)(w:World)(U:s.size<=4611686018427387904):
 Calls prog 179 #[.string s,.bool d,.bool m] w fun e w'=>e= .returned (hdV (hd s d m))/\w=w':=by
 unfold hdV;rcases fJ s with⟨hz,rfl⟩|⟨hz,X,W⟩
 ·have c:Hid (hd ⟨#[]⟩ d m=(false,0,0,2)):=za (by unfold hd;rw[zl (by simp[ByteArray.size])]);clear hz;go_enter yz,yu
  go_wp2;refine zo (v:= .tuple #[.bool false,.int .i64 (0:Int),.int .i64 (0:Int),.int .i64 2]) (by simp[results,yn,go_sem]) rfl ?_;rw[c.out];exact⟨rfl,rfl⟩
 have L:0<s.size:=by
  rcases Zv s.size with h|h
  ·exact absurd h (by first|exact hz|omega)
  exact h
 cases d with
 |true=>
  have c:Hid (hd s true m=(false,0,0,6)):=za (by unfold hd;rw[zj (by omega),zl rfl]);go_enter yz,yu
  go_wp2;refine zo (v:= .tuple #[.bool false,.int .i64 (0:Int),.int .i64 (0:Int),.int .i64 6]) (by simp[results,yn,go_sem]) rfl ?_;rw[c.out];exact⟨rfl,rfl⟩
 |false=>
 cases m with
 |true=>
  have c:Hid (hd s false true=(false,0,0,4)):=za (by unfold hd;rw[zj (by omega),zj (by simp),zl rfl]);go_enter yz,yu
  go_wp2;refine zo (v:= .tuple #[.bool false,.int .i64 (0:Int),.int .i64 (0:Int),.int .i64 4]) (by simp[results,yn,go_sem]) rfl ?_;rw[c.out];exact⟨rfl,rfl⟩
 |false=>
 have x:hd s false false=wU s:=by unfold hd;rw[zj (by omega),zj (by simp),zj (by simp)]
 have y:s.data.toList.getD 0 0=s[0]:=by rw[zA,gq s 0 L];rfl
 have Z:=s[0].toNat_lt;by_cases E:s[0].toNat<128
 ·have c:Hid (hd s false false=(false,0,1,0)):=za (by rw[x];unfold wU;dsimp only;rw[y,zl E]);clear x;go_enter yz,yu
  go_wp2;refine zo (v:= .tuple #[.bool false,.int .i64 (0:Int),.int .i64 (1:Int),.int .i64 0]) (by simp[results,yn,go_sem]) rfl ?_;rw[c.out];exact⟨rfl,rfl⟩
 by_cases J:192<=s[0].toNat
 ·obtain⟨t,D⟩:∃t,s[0].toNat=192+t:=⟨s[0].toNat-192,by omega⟩
  have b:=x;unfold wU at b;dsimp only at b;rw[y,D,zj (by omega:¬192+t<128),show decide (192<=192+t)=true from by simp,zl (by omega:192<=192+t),show 192+t-192=t from by omega]at b;have M:decide (192<=192+(t:Int))=true:=zH (by omega);have O:t<=63:=by omega
  clear x y E J;by_cases l:t<=55
  ·rw[zl l,zl l,zl l]at b;have H:192+(t:Int)-192=t:=by omega
   by_cases p:s.size<1+t
   ·have c:Hid (hd s false false=(false,0,0,2)):=za (by rw[b,zl p]);clear b;go_enter yz,yu
    go_wp2;refine zo (v:= .tuple #[.bool false,.int .i64 (0:Int),.int .i64 (0:Int),.int .i64 2]) (by simp[results,yn,go_sem]) rfl ?_;rw[c.out];exact⟨rfl,rfl⟩
   have c:Hid (hd s false false=(true,1,t,0)):=za (by rw[b,zj p,zj (by simp)]);clear b;go_enter yz,yu
   go_wp2;refine zo (v:= .tuple #[.bool true,.int .i64 (1:Int),.int .i64 (t:Int),.int .i64 0]) (by simp[results,yn,go_sem]) rfl ?_;rw[c.out];exact⟨rfl,rfl⟩
  rw[zj l,zj l,zj l]at b;obtain⟨k,rfl⟩:∃k,t=55+k:=⟨t-55,by omega⟩
  rw[show 55+k-55=k from by omega]at b;have H:192+(55+(k:Int))-192=55+k:=by omega
  have K:55+(k:Int)-55=k:=by omega
  by_cases p:s.size<1+k
  ·have c:Hid (hd s false false=(false,0,0,2)):=za (by rw[b,zl p]);clear b;go_enter yz,yu
   go_wp2;refine zo (v:= .tuple #[.bool false,.int .i64 (0:Int),.int .i64 (0:Int),.int .i64 2]) (by simp[results,yn,go_sem]) rfl ?_;rw[c.out];exact⟨rfl,rfl⟩
  rw[zj p]at b;have u:1<s.size:=by omega
  have o:s.data.toList.getD 1 0=s[1]:=by rw[zA,gq s 1 u];rfl
  rw[o]at b;have A:(s.extract 1 (1+k)).size=k:=by rw[an _ _ _ (by omega)];omega
  have q:fY (s.extract 1 (1+k)).data.toList=decide (s[1].toNat=0):=by
   have F:(s.extract 1 (1+k)).data.toList=s[1]::(s.extract 1 (1+k)).data.toList.drop 1:=by
    rw[aq];have i:(s.data.toList.take (1+k)).drop 1=((s.data.toList.drop 1).take k):=by rw[Z6,show 1+k-1=k from by omega]
    rw[i,drop_cons s 1 u,show k=(k-1)+1 from by omega,zR];rfl
   rw[F];simp only[fY];by_cases e:s[1]=0
   ·simp[e]
   have:s[1].toNat≠0:=fun h=>e (zW.1 h)
   simp[e,this]
  have j:=za (oM (s.extract 1 (1+k)) w (by omega));by_cases r:s[1].toNat=0
  ·have n:o9 (s.extract 1 (1+k))=3:=by unfold o9;rw[zj (by omega),zj (by omega),q,r];rfl
   have c:Hid (hd s false false=(false,0,0,3)):=za (by rw[b,zl (.inl r)]);rw[n]at j;clear b n q o;generalize vc (s.extract 1 (1+k))=N at*;go_enter yz,yu
   go_wp2_with fail
   refine j.out.mono ?_;rintro e w' ⟨rfl,rfl⟩;go_wp2;refine zo (v:= .tuple #[.bool false,.int .i64 (0:Int),.int .i64 (0:Int),.int .i64 3]) (by simp[results,yn,go_sem]) rfl ?_;rw[c.out];exact⟨rfl,rfl⟩
  have n:o9 (s.extract 1 (1+k))=0:=by unfold o9;rw[zj (by omega),zj (by omega),q,zz r];rfl
  have B:vc (s.extract 1 (1+k))=la (s.extract 1 (1+k)).data.toList:=by unfold vc;rw[zl n]
  have S:la (s.extract 1 (1+k)).data.toList<18446744073709551616:=by
   have i:=tT (s.extract 1 (1+k)).data.toList;rw[aa,A]at i;have C:2^(8*k)<=2^(8*8):=yy (by omega) (by omega);exact yg i C
  rw[n,B]at j;clear n B q o A;generalize la (s.extract 1 (1+k)).data.toList=N at*;by_cases i:N<=55
  ·have c:Hid (hd s false false=(false,0,0,3)):=za (by rw[b,zl (.inr i)]);clear b;go_enter yz,yu
   go_wp2_with fail
   refine j.out.mono ?_;rintro e w' ⟨rfl,rfl⟩;go_wp2;refine zo (v:= .tuple #[.bool false,.int .i64 (0:Int),.int .i64 (0:Int),.int .i64 3]) (by simp[results,yn,go_sem]) rfl ?_;rw[c.out];exact⟨rfl,rfl⟩
  rw[zj (fun h=>h.elim r i)]at b;by_cases C:s.size<N
  ·have c:Hid (hd s false false=(false,0,0,2)):=za (by rw[b,zl (by omega)]);clear b;go_enter yz,yu
   go_wp2_with fail
   refine j.out.mono ?_;rintro e w' ⟨rfl,rfl⟩;go_wp2;refine zo (v:= .tuple #[.bool false,.int .i64 (0:Int),.int .i64 (0:Int),.int .i64 2]) (by simp[results,yn,go_sem]) rfl ?_;rw[c.out];exact⟨rfl,rfl⟩
  by_cases z:s.size<1+k+N
  ·have c:Hid (hd s false false=(false,0,0,2)):=za (by rw[b,zl z]);clear b;go_enter yz,yu
   go_wp2_with fail
   refine j.out.mono ?_;rintro e w' ⟨rfl,rfl⟩;go_wp2;refine zo (v:= .tuple #[.bool false,.int .i64 (0:Int),.int .i64 (0:Int),.int .i64 2]) (by simp[results,yn,go_sem]) rfl ?_;rw[c.out];exact⟨rfl,rfl⟩
  have c:Hid (hd s false false=(true,1+k,N,0)):=za (by rw[b,zj z]);have R:((N:Int)==1)=false:=by simp;omega
  clear b;go_enter yz,yu
  go_wp2_with fail
  refine j.out.mono ?_;rintro e w' ⟨rfl,rfl⟩;go_wp2;refine zo (v:= .tuple #[.bool true,.int .i64 ((1+k:Nat):Int),.int .i64 (N:Int),.int .i64 0]) (by simp[results,yn,go_sem]<;>omega) rfl ?_;rw[c.out];exact⟨rfl,rfl⟩
 obtain⟨t,D⟩:∃t,s[0].toNat=128+t:=⟨s[0].toNat-128,by omega⟩
 have b:=x;unfold wU at b;dsimp only at b;have G:¬192<=128+t:=by omega
 rw[y,D,zj (by omega:¬128+t<128),zz G,zj G,show 128+t-128=t from by omega]at b;have M:decide (192<=128+(t:Int))=false:=zz (by omega);have O:t<=63:=by omega
 clear x y E J G;by_cases l:t<=55
 ·rw[zl l,zl l,zl l]at b;have H:128+(t:Int)-128=t:=by omega
  by_cases p:s.size<1+t
  ·have c:Hid (hd s false false=(false,0,0,2)):=za (by rw[b,zl p]);clear b;go_enter yz,yu
   go_wp2;refine zo (v:= .tuple #[.bool false,.int .i64 (0:Int),.int .i64 (0:Int),.int .i64 2]) (by simp[results,yn,go_sem]) rfl ?_;rw[c.out];exact⟨rfl,rfl⟩
  rw[zj p]at b;by_cases I:t=1
  ·subst I;have u:1<s.size:=by omega
   have o:s.data.toList.getD 1 0=s[1]:=by rw[zA,gq s 1 u];rfl
   rw[o]at b;by_cases i:s[1].toNat<128
   ·have c:Hid (hd s false false=(false,0,0,3)):=za (by rw[b,zl ⟨rfl,rfl,i⟩]);clear b o;go_enter yz,yu
    go_wp2;refine zo (v:= .tuple #[.bool false,.int .i64 (0:Int),.int .i64 (0:Int),.int .i64 3]) (by simp[results,yn,go_sem]) rfl ?_;rw[c.out];exact⟨rfl,rfl⟩
   have c:Hid (hd s false false=(false,1,1,0)):=za (by rw[b,zj (by simp;omega)]);clear b o;go_enter yz,yu
   go_wp2;refine zo (v:= .tuple #[.bool false,.int .i64 (1:Int),.int .i64 (1:Int),.int .i64 0]) (by simp[results,yn,go_sem]) rfl ?_;rw[c.out];exact⟨rfl,rfl⟩
  have c:Hid (hd s false false=(false,1,t,0)):=za (by rw[b,zj (fun h=>I h.2.1)]);have Y:((t:Int)==1)=false:=by simp;omega
  clear b;go_enter yz,yu
  go_wp2;refine zo (v:= .tuple #[.bool false,.int .i64 (1:Int),.int .i64 (t:Int),.int .i64 0]) (by simp[results,yn,go_sem]) rfl ?_;rw[c.out];exact⟨rfl,rfl⟩
 rw[zj l,zj l,zj l]at b;obtain⟨k,rfl⟩:∃k,t=55+k:=⟨t-55,by omega⟩
 rw[show 55+k-55=k from by omega]at b;have H:128+(55+(k:Int))-128=55+k:=by omega
 have K:55+(k:Int)-55=k:=by omega
 by_cases p:s.size<1+k
 ·have c:Hid (hd s false false=(false,0,0,2)):=za (by rw[b,zl p]);clear b;go_enter yz,yu
  go_wp2;refine zo (v:= .tuple #[.bool false,.int .i64 (0:Int),.int .i64 (0:Int),.int .i64 2]) (by simp[results,yn,go_sem]) rfl ?_;rw[c.out];exact⟨rfl,rfl⟩
 rw[zj p]at b;have u:1<s.size:=by omega
 have o:s.data.toList.getD 1 0=s[1]:=by rw[zA,gq s 1 u];rfl
 rw[o]at b;have A:(s.extract 1 (1+k)).size=k:=by rw[an _ _ _ (by omega)];omega
 have q:fY (s.extract 1 (1+k)).data.toList=decide (s[1].toNat=0):=by
  have F:(s.extract 1 (1+k)).data.toList=s[1]::(s.extract 1 (1+k)).data.toList.drop 1:=by
   rw[aq];have i:(s.data.toList.take (1+k)).drop 1=((s.data.toList.drop 1).take k):=by rw[Z6,show 1+k-1=k from by omega]
   rw[i,drop_cons s 1 u,show k=(k-1)+1 from by omega,zR];rfl
  rw[F];simp only[fY];by_cases e:s[1]=0
  ·simp[e]
  have:s[1].toNat≠0:=fun h=>e (zW.1 h)
  simp[e,this]
 have j:=za (oM (s.extract 1 (1+k)) w (by omega));by_cases r:s[1].toNat=0
 ·have n:o9 (s.extract 1 (1+k))=3:=by unfold o9;rw[zj (by omega),zj (by omega),q,r];rfl
  have c:Hid (hd s false false=(false,0,0,3)):=za (by rw[b,zl (.inl r)]);rw[n]at j;clear b n q o;generalize vc (s.extract 1 (1+k))=N at*;go_enter yz,yu
  go_wp2_with fail
  refine j.out.mono ?_;rintro e w' ⟨rfl,rfl⟩;go_wp2;refine zo (v:= .tuple #[.bool false,.int .i64 (0:Int),.int .i64 (0:Int),.int .i64 3]) (by simp[results,yn,go_sem]) rfl ?_;rw[c.out];exact⟨rfl,rfl⟩
 have n:o9 (s.extract 1 (1+k))=0:=by unfold o9;rw[zj (by omega),zj (by omega),q,zz r];rfl
 have B:vc (s.extract 1 (1+k))=la (s.extract 1 (1+k)).data.toList:=by unfold vc;rw[zl n]
 have S:la (s.extract 1 (1+k)).data.toList<18446744073709551616:=by
  have i:=tT (s.extract 1 (1+k)).data.toList;rw[aa,A]at i;have C:2^(8*k)<=2^(8*8):=yy (by omega) (by omega);exact yg i C
 rw[n,B]at j;clear n B q o A;generalize la (s.extract 1 (1+k)).data.toList=N at*;by_cases i:N<=55
 ·have c:Hid (hd s false false=(false,0,0,3)):=za (by rw[b,zl (.inr i)]);clear b;go_enter yz,yu
  go_wp2_with fail
  refine j.out.mono ?_;rintro e w' ⟨rfl,rfl⟩;go_wp2;refine zo (v:= .tuple #[.bool false,.int .i64 (0:Int),.int .i64 (0:Int),.int .i64 3]) (by simp[results,yn,go_sem]) rfl ?_;rw[c.out];exact⟨rfl,rfl⟩
 rw[zj (fun h=>h.elim r i)]at b;by_cases C:s.size<N
 ·have c:Hid (hd s false false=(false,0,0,2)):=za (by rw[b,zl (by omega)]);clear b;go_enter yz,yu
  go_wp2_with fail
  refine j.out.mono ?_;rintro e w' ⟨rfl,rfl⟩;go_wp2;refine zo (v:= .tuple #[.bool false,.int .i64 (0:Int),.int .i64 (0:Int),.int .i64 2]) (by simp[results,yn,go_sem]) rfl ?_;rw[c.out];exact⟨rfl,rfl⟩
 by_cases z:s.size<1+k+N
 ·have c:Hid (hd s false false=(false,0,0,2)):=za (by rw[b,zl z]);clear b;go_enter yz,yu
  go_wp2_with fail
  refine j.out.mono ?_;rintro e w' ⟨rfl,rfl⟩;go_wp2;refine zo (v:= .tuple #[.bool false,.int .i64 (0:Int),.int .i64 (0:Int),.int .i64 2]) (by simp[results,yn,go_sem]) rfl ?_;rw[c.out];exact⟨rfl,rfl⟩
 have c:Hid (hd s false false=(false,1+k,N,0)):=za (by rw[b,zj z]);have R:((N:Int)==1)=false:=by simp;omega
 clear b;go_enter yz,yu
 go_wp2_with fail
 refine j.out.mono ?_;rintro e w' ⟨rfl,rfl⟩;go_wp2;refine zo (v:= .tuple #[.bool false,.int .i64 ((1+k:Nat):Int),.int .i64 (N:Int),.int .i64 0]) (by simp[results,yn,go_sem]<;>omega) rfl ?_;rw[c.out];exact⟨rfl,rfl⟩
theorem nH (g j:Nat)(s:ByteArray)(p L most:Nat)(k:Int)(w:World)(h:jg w g s p L)(i:af w j 148 #[.pointer (some ⟨g,0,none⟩)])(A:p<=s.size)(z:s.size<=100000)(B:most<=65536):
 Calls prog 147 #[.int .i64 k,.int .i64 most,.pointer (some ⟨j,0,none⟩)] w fun e w'=>∃(n:Nat) (ok:Bool) (q:Nat),e= .returned (.tuple #[.agg #[.int .i64 k,.int .i64 n,.slice none 0 0,.int .i64 0],.bool ok])/\jg w' g s q L/\ae [g] w w'/\nV most s p n ok q:=by
 have S:w.cell? ⟨j,0,none⟩=some (.pointer (some ⟨g,0,none⟩)):=i.cell 0;have N:=i.lt;have H:g<w.heap.size:=af.lt (show af w g _ _ from h);have F:=za (Ic g s p L most (w.alloc (.cells #[.int .i64 0,.int .i64 0,.slice none 0 0,.int .i64 0] 64)) (af.alloc (show af w g _ _ from h) _) A z B);clear h i;go_enter func147,ntmps147
 go_wp2_with fail
 refine F.out.mono ?_;rintro e m ⟨n,ok,q,rfl,u,d,x⟩;have b:=(af.new w 64 #[.int .i64 0,.int .i64 0,.slice none 0 0,.int .i64 0]).only d (by simp;omega);have E:=za u;have C:Hid (ae [g] w m):=za (((ae.refl [g] w).alloc _).trans d);have D:=za x;obtain⟨U,R,O,G,J,M,I,K⟩:=aO b;have hz:=((((b.set 0 (.int .i64 k)).set 1 (.int .i64 n)).set 2 (.slice none 0 0)).set 3 (.int .i64 0))
 have y:=(b.set 0 (.int .i64 k)).cell 0;have l:=((b.set 0 (.int .i64 k)).set 1 (.int .i64 n)).cell 1;have o:=(((b.set 0 (.int .i64 k)).set 1 (.int .i64 n)).set 2 (.slice none 0 0)).cell 2;have r:=hz.cell 3;simp at y l o r;clear u d x b hz;go_wp2;refine zo (v:= .tuple #[.agg #[.int .i64 k,.int .i64 n,.slice none 0 0,.int .i64 0],.bool ok]) (by simp[results,results147,go_sem,y,l,o,r]) rfl ?_;have c:g≠w.heap.size:=by omega
 refine⟨n,ok,q,rfl, ?_,(((C.out.setCell (by simp) _).setCell (by simp) _).setCell (by simp) _).setCell (by simp) _,D.out⟩;exact(((af.dE (show af m g _ _ from E.out) (p:=⟨w.heap.size,0,none⟩) c _).dE (p:=⟨w.heap.size,1,none⟩) c _).dE (p:=⟨w.heap.size,2,none⟩) c _).dE (p:=⟨w.heap.size,3,none⟩) c _
def j5 (w:World)(g:Nat)(s:ByteArray)(f L p:Nat)(e:Ending)(w':World):Prop:=
 ∃(t:Ty) (ok:Bool) (q L':Nat) (k z ta:Int) (A:Option Addr) (n cap:Nat),e= .returned (.tuple #[.agg #[.int .i64 k,.int .i64 z,.slice A n cap,.int .i64 ta],.bool ok])/\jg w' g s q L'/\ae [g] w w'/\L'<=L/\sX f L s p t ok q L'/\(ok=true->fh w' (w.heap.size<= ·) t (.int .i64 k) (.int .i64 z) (.slice A n cap) (.int .i64 ta))
structure sB (w:World)(g:Nat)(s:ByteArray)(p L:Nat)(V:World):Prop where
 box:af V w.heap.size 148 #[.pointer (some ⟨g,0,none⟩)]
 res:af V (w.heap.size+1) 64 #[.int .i64 0,.int .i64 0,.slice none 0 0,.int .i64 0]
 rd:jg V g s p L
 only:ae [g] w V
 siz:w.heap.size+2<=V.heap.size
 glt:g<w.heap.size
theorem sB.start {w:World}{g:Nat}{s:ByteArray}{p L:Nat}(h:jg w g s p L):sB w g s p L ((w.alloc (.cells #[.pointer (some ⟨g,0,none⟩)] 148)).alloc (.cells #[.int .i64 0,.int .i64 0,.slice none 0 0,.int .i64 0] 64)) where
 box:=(af.new w _ _).alloc _
 res:=af.at_ (by simp)
 rd:=(af.alloc (show af w g _ _ from h) _).alloc _
 only:=((ae.refl _ w).alloc _).alloc _
 siz:=by simp
 glt:=af.lt (show af w g _ _ from h)
theorem sB.dw {w V V':World}{g:Nat}{s:ByteArray}{p p' L L':Nat}(h:sB w g s p L V)(b:ae [g] V V')(c:jg V' g s p' L'):sB w g s p' L' V' where
 box:=h.box.only b (by have:=h.glt;simp;omega)
 res:=h.res.only b (by have:=h.glt;simp;omega)
 rd:=c
 only:=h.only.trans b
 siz:=zK h.siz b.size
 glt:=h.glt
theorem sB.below {w V V':World}{g:Nat}{s:ByteArray}{p L:Nat}(h:sB w g s p L V)(b:Below V.heap.size V V'):sB w g s p L V':=h.dw ((ae.ag b (zf _)).mono (by simp)) ((b.block _ (af.lt (show af V g _ _ from h.rd))).trans h.rd)
theorem sB.ends {w V:World}{g:Nat}{s:ByteArray}{p L:Nat}(h:sB w g s p L V)(b c d e:Value):
 jg ((((V.setCell ⟨w.heap.size+1,0,none⟩ b).setCell ⟨w.heap.size+1,1,none⟩ c).setCell ⟨w.heap.size+1,2,none⟩ d).setCell ⟨w.heap.size+1,3,none⟩ e) g s p L/\ae [g] w ((((V.setCell ⟨w.heap.size+1,0,none⟩ b).setCell ⟨w.heap.size+1,1,none⟩ c).setCell ⟨w.heap.size+1,2,none⟩ d).setCell ⟨w.heap.size+1,3,none⟩ e)/\
 (V.setCell ⟨w.heap.size+1,0,none⟩ b).cell? ⟨w.heap.size+1,0,none⟩=some b/\((V.setCell ⟨w.heap.size+1,0,none⟩ b).setCell ⟨w.heap.size+1,1,none⟩ c).cell? ⟨w.heap.size+1,1,none⟩=some c/\(((V.setCell ⟨w.heap.size+1,0,none⟩ b).setCell ⟨w.heap.size+1,1,none⟩ c).setCell ⟨w.heap.size+1,2,none⟩ d).cell? ⟨w.heap.size+1,2,none⟩=some d/\((((V.setCell ⟨w.heap.size+1,0,none⟩ b).setCell ⟨w.heap.size+1,1,none⟩ c).setCell ⟨w.heap.size+1,2,none⟩ d).setCell ⟨w.heap.size+1,3,none⟩ e).cell? ⟨w.heap.size+1,3,none⟩=some e:=
 have n1:g≠w.heap.size+1:=by have:=h.glt;omega
 ⟨(((af.dE (show af V g _ _ from h.rd) (p:=⟨w.heap.size+1,0,none⟩) n1 _).dE (p:=⟨w.heap.size+1,1,none⟩) n1 _).dE (p:=⟨w.heap.size+1,2,none⟩) n1 _).dE (p:=⟨w.heap.size+1,3,none⟩) n1 _,(((h.only.setCell (by simp) _).setCell (by simp) _).setCell (by simp) _).setCell (by simp) _,by have:=(h.res.set 0 b).cell 0;simpa using this,by have:=((h.res.set 0 b).set 1 c).cell 1;simpa using this,by have:=(((h.res.set 0 b).set 1 c).set 2 d).cell 2;simpa using this,by have:=((((h.res.set 0 b).set 1 c).set 2 d).set 3 e).cell 3;simpa using this⟩
theorem sB.step {w W:World}{g:Nat}{s:ByteArray}{p L:Nat}(h:sB w g s p L W)(a b:Int)(n1 n2:Nat){p' L':Nat}(i:a=L')(d:b=p'):sB w g s p' L' ((((W.drewN n1).setCell ⟨g,2,none⟩ (.int .i64 a)).drewN n2).setCell ⟨g,1,none⟩ (.int .i64 b)):=by
 have c:jg (W.drewN n1) g s p L:=h.rd;have e:jg (((W.drewN n1).setCell ⟨g,2,none⟩ (.int .i64 a)).drewN n2) g s p L':=c.less i;exact h.dw (((((ae.refl [g] W).drewN n1).setCell (p:=⟨g,2,none⟩) (by simp) _).drewN n2).setCell (p:=⟨g,1,none⟩) (by simp) _) (e.to d)
theorem pV {s:ByteArray}{p:Nat}{c:UInt8}(b:p<s.size)(d:s[p].toNat=c.toNat):s.data.toList.drop p=c::s.data.toList.drop (p+1):=by
 rw[drop_cons s p b,zW.1 d]
theorem Ph {k:Int}{most f L:Nat}{s:ByteArray}{p n q:Nat}{ok:Bool}(m:0<L)(e:aK (f+1) (s.data.toList.drop p)=sW k (cc (s.data.toList.drop (p+1))))(i:(∀c r,cc (s.data.toList.drop (p+1))=some (c,r)->most<c)->∀(L:Nat) (t:Ty) (r:List UInt8),sW k (cc (s.data.toList.drop (p+1)))=some (t,r)->dR L t)(h:nV most s (p+1) n ok q):sX (f+1) L s p (.mk k n [] 0) ok q (L-1):=by
 refine⟨fun b=> ?_,fun b j r d=> ?_,h.2.2.1⟩
 ·obtain⟨l,u,o⟩:=h.1 b;exact⟨by rw[e,l];rfl,by simp[Ty.count,aZ];omega,by omega⟩
 rw[e]at d;exact i (h.2.1 b) L j r d
theorem Pj (f d:Nat)(hd:d<=8)(g:Nat)(s:ByteArray)(p L:Nat)(w:World)(h:jg w g s p L)(A:p<s.size)(z:s.size<=100000)(I:0<L)(Z:L<=64)(H:s[p].toNat=98):
 Calls prog 101 #[.pointer (some ⟨g,0,none⟩),.int .i64 d] w fun e w'=>j5 w g s (f+1) L p e w':=by
 have E:Hid (aK (f+1) (s.data.toList.drop p)=sW 2 (cc (s.data.toList.drop (p+1)))):=za (by rw[pV (c:=98) A H,JB]);have i:=za (sB.start h);generalize Y:((w.alloc (.cells #[.pointer (some ⟨g,0,none⟩)] 148)).alloc (.cells #[.int .i64 0,.int .i64 0,.slice none 0 0,.int .i64 0] 64))=W at*;obtain⟨g0,g1,g2,f0,f1,f2,M⟩:=i.out.rd.cells;have b0:W.cell? ⟨w.heap.size,0,none⟩=some (.pointer (some ⟨g,0,none⟩)):=i.out.box.cell 0;have O:decide ((8:Int)<(d:Int))=false:=zz (by omega);have R:((L:Int)==0)=false:=zr.2 (by omega);have S:((p:Int)==(s.size:Int))=false:=zr.2 (by omega);have U:IntKind.i64.wrap ((L:Int)-1)=(L:Int)-1:=yh _ (by omega);clear h;go_enter xT,xM
 go_wp2_with fail
 go_quiet (fail)
 obtain⟨j,rfl⟩:∃j,j=nq:=⟨nq,rfl⟩
 go_wp2_with fail
 go_quiet (fail)
 have b:=za (i.out.step ((L:Int)-1) ((p:Int)+1) j nq (L':=L-1) (p':=p+1) (by omega) (by omega));go_wp2_with fail
 refine(nH g w.heap.size s (p+1) (L-1) 65536 2 _ b.out.rd b.out.box (by omega) z (by omega)).mono ?_;rintro e K ⟨n,ok,q,rfl,o,k,r⟩;have u:=za (b.out.dw k o);have x:=za r;clear o k r;obtain⟨X,n1,n2,N,m0,m1,m2,m3⟩:=aO u.out.res;obtain⟨m,l,G,y,B,D⟩:=u.out.ends (.int .i64 2) (.int .i64 n) (.slice none 0 0) (.int .i64 0);have F:=za m;have J:=za l;clear m l;go_wp2;refine zo (v:= .tuple #[.agg #[.int .i64 2,.int .i64 n,.slice none 0 0,.int .i64 0],.bool ok]) (by simp[results,yD,go_sem,G,y,B,D]) rfl ?_;exact⟨.mk 2 n [] 0,ok,q,L-1,_,_,_,_,_,_,rfl,F.out,J.out,by omega,Ph I E.out aa1 x.out,fun C=>fh.leaf (ay (by omega) (by omega)) (ay (by omega) (by have:=(x.out.1 C).2.1;omega)) (ay (by omega) (by omega))⟩
theorem Pk (f d:Nat)(hd:d<=8)(g:Nat)(s:ByteArray)(p L:Nat)(w:World)(h:jg w g s p L)(A:p<s.size)(z:s.size<=100000)(I:0<L)(Z:L<=64)(H:s[p].toNat=115):
 Calls prog 101 #[.pointer (some ⟨g,0,none⟩),.int .i64 d] w fun e w'=>j5 w g s (f+1) L p e w':=by
 have E:Hid (aK (f+1) (s.data.toList.drop p)=sW 3 (cc (s.data.toList.drop (p+1)))):=za (by rw[pV (c:=115) A H,JC]);have i:=za (sB.start h);generalize Y:((w.alloc (.cells #[.pointer (some ⟨g,0,none⟩)] 148)).alloc (.cells #[.int .i64 0,.int .i64 0,.slice none 0 0,.int .i64 0] 64))=W at*;obtain⟨g0,g1,g2,f0,f1,f2,M⟩:=i.out.rd.cells;have b0:W.cell? ⟨w.heap.size,0,none⟩=some (.pointer (some ⟨g,0,none⟩)):=i.out.box.cell 0;have O:decide ((8:Int)<(d:Int))=false:=zz (by omega);have R:((L:Int)==0)=false:=zr.2 (by omega);have S:((p:Int)==(s.size:Int))=false:=zr.2 (by omega);have U:IntKind.i64.wrap ((L:Int)-1)=(L:Int)-1:=yh _ (by omega);clear h;go_enter xT,xM
 go_wp2_with fail
 go_quiet (fail)
 obtain⟨j,rfl⟩:∃j,j=nq:=⟨nq,rfl⟩
 go_wp2_with fail
 go_quiet (fail)
 have b:=za (i.out.step ((L:Int)-1) ((p:Int)+1) j nq (L':=L-1) (p':=p+1) (by omega) (by omega));go_wp2_with fail
 refine(nH g w.heap.size s (p+1) (L-1) 65536 3 _ b.out.rd b.out.box (by omega) z (by omega)).mono ?_;rintro e K ⟨n,ok,q,rfl,o,k,r⟩;have u:=za (b.out.dw k o);have x:=za r;clear o k r;obtain⟨X,n1,n2,N,m0,m1,m2,m3⟩:=aO u.out.res;obtain⟨m,l,G,y,B,D⟩:=u.out.ends (.int .i64 3) (.int .i64 n) (.slice none 0 0) (.int .i64 0);have F:=za m;have J:=za l;clear m l;go_wp2;refine zo (v:= .tuple #[.agg #[.int .i64 3,.int .i64 n,.slice none 0 0,.int .i64 0],.bool ok]) (by simp[results,yD,go_sem,G,y,B,D]) rfl ?_;exact⟨.mk 3 n [] 0,ok,q,L-1,_,_,_,_,_,_,rfl,F.out,J.out,by omega,Ph I E.out aa2 x.out,fun C=>fh.leaf (ay (by omega) (by omega)) (ay (by omega) (by have:=(x.out.1 C).2.1;omega)) (ay (by omega) (by omega))⟩
theorem Mf (f d:Nat)(hd:d<=8)(g:Nat)(s:ByteArray)(p L:Nat)(w:World)(h:jg w g s p L)(x:p<s.size)(J:s.size<=100000)(Y:0<L)(Z:L<=64)(o:s[p].toNat≠117)(l:s[p].toNat≠98)(n:s[p].toNat≠115)(i:s[p].toNat≠91)(k:s[p].toNat≠123):
 Calls prog 101 #[.pointer (some ⟨g,0,none⟩),.int .i64 d] w fun e w'=>j5 w g s (f+1) L p e w':=by
 have e1:((s[p].toNat:Int)==117)=false:=zr.2 (by omega);have H:((s[p].toNat:Int)==98)=false:=zr.2 (by omega);have e3:((s[p].toNat:Int)==115)=false:=zr.2 (by omega);have I:((s[p].toNat:Int)==91)=false:=zr.2 (by omega);have G:((s[p].toNat:Int)==123)=false:=zr.2 (by omega);have A:Hid (aK (f+1) (s.data.toList.drop p)=none):=za (by rw[drop_cons s p x];exact Er f _ _ o l n i k);clear o l n i k;have b:=za (sB.start h);generalize X:((w.alloc (.cells #[.pointer (some ⟨g,0,none⟩)] 148)).alloc (.cells #[.int .i64 0,.int .i64 0,.slice none 0 0,.int .i64 0] 64))=W at*;obtain⟨g0,g1,g2,f0,f1,f2,E⟩:=b.out.rd.cells;have b0:W.cell? ⟨w.heap.size,0,none⟩=some (.pointer (some ⟨g,0,none⟩)):=b.out.box.cell 0;have M:=b.out.glt;have K:decide ((8:Int)<(d:Int))=false:=zz (by omega);have O:((L:Int)==0)=false:=zr.2 (by omega);have R:((p:Int)==(s.size:Int))=false:=zr.2 (by omega);have S:IntKind.i64.wrap ((L:Int)-1)=(L:Int)-1:=yh _ (by omega);clear h;go_enter xT,xM
 go_wp2_with fail
 go_quiet (fail)
 obtain⟨c,rfl⟩:∃c,c=nq:=⟨nq,rfl⟩
 go_wp2_with fail
 go_quiet (fail)
 have u:=za (b.out.step ((L:Int)-1) ((p:Int)+1) c nq (L':=L-1) (p':=p+1) (by omega) (by omega));obtain⟨U,n1,n2,F,m0,m1,m2,m3⟩:=aO b.out.res;obtain⟨m,j,C,q,y,z⟩:=u.out.ends (.int .i64 0) (.int .i64 0) (.slice none 0 0) (.int .i64 0);have B:=za m;have D:=za j;clear m j;go_wp2;refine zo (v:= .tuple #[.agg #[.int .i64 0,.int .i64 0,.slice none 0 0,.int .i64 0],.bool false]) (by simp[results,yD,go_sem,C,q,y,z]) rfl ?_;exact⟨.mk 0 0 [] 0,false,p+1,L-1,_,_,_,_,_,_,rfl,B.out,D.out,by omega,⟨(by intro h;cases h),(by intro _ N r h;rw[A.out]at h;cases h),by omega⟩,(by intro h;cases h)⟩
theorem Wn {f L:Nat}{s:ByteArray}{p n q:Nat}{ok:Bool}(m:0<L)(e:aK (f+1) (s.data.toList.drop p)=wT (cc (s.data.toList.drop (p+1))))(h:nV 64 s (p+1) n ok q):sX (f+1) L s p (.mk 1 ((n/8:Nat):Int) [] 0) (ok&&decide (n%8=0)) q (L-1):=by
 refine⟨fun b=> ?_,fun b j r c=> ?_,h.2.2.1⟩
 ·simp only[zF,yj]at b;obtain⟨d,l,k⟩:=h.1 b.1;exact⟨by rw[e,d,wT,zl b.2],by simp[Ty.count,aZ];omega,by omega⟩
 rw[e]at c;cases ok with
 |false=>exact aa0 (h.2.1 rfl) L j r c
 |true=>
  obtain⟨d,l,k⟩:=h.1 rfl;have i:¬n%8=0:=by simpa using b
  rw[d,wT,zj i]at c;cases c
theorem Pl (f d:Nat)(hd:d<=8)(g:Nat)(s:ByteArray)(p L:Nat)(w:World)(h:jg w g s p L)(J:p<s.size)(I:s.size<=100000)(O:0<L)(Ng:L<=64)(N:s[p].toNat=117):
 Calls prog 101 #[.pointer (some ⟨g,0,none⟩),.int .i64 d] w fun e w'=>j5 w g s (f+1) L p e w':=by
 have K:Hid (aK (f+1) (s.data.toList.drop p)=wT (cc (s.data.toList.drop (p+1)))):=za (by rw[pV (c:=117) J N,JA]);have B:=za (sB.start h);generalize hW:((w.alloc (.cells #[.pointer (some ⟨g,0,none⟩)] 148)).alloc (.cells #[.int .i64 0,.int .i64 0,.slice none 0 0,.int .i64 0] 64))=W at*;obtain⟨g0,g1,g2,f0,f1,f2,R⟩:=B.out.rd.cells;have b0:W.cell? ⟨w.heap.size,0,none⟩=some (.pointer (some ⟨g,0,none⟩)):=B.out.box.cell 0;have X:decide ((8:Int)<(d:Int))=false:=zz (by omega);have Z:((L:Int)==0)=false:=zr.2 (by omega);have dp:((p:Int)==(s.size:Int))=false:=zr.2 (by omega);have ew:IntKind.i64.wrap ((L:Int)-1)=(L:Int)-1:=yh _ (by omega);clear h;go_enter xT,xM
 go_wp2_with fail
 go_quiet (fail)
 obtain⟨C,rfl⟩:∃C,C=nq:=⟨nq,rfl⟩
 go_wp2_with fail
 go_quiet (fail)
 have z:=za (B.out.step ((L:Int)-1) ((p:Int)+1) C nq (L':=L-1) (p':=p+1) (by omega) (by omega));go_wp2_with fail
 refine(nH g w.heap.size s (p+1) (L-1) 64 1 _ z.out.rd z.out.box (by omega) I (by omega)).mono ?_;rintro e H ⟨n,ok,q,rfl,G,D,x⟩;have u:=za (z.out.dw D G);have Dh:=za x;obtain⟨b,F⟩:∃b,n/8=b:=⟨_,rfl⟩
 have U:(n:Int)/8=b:=by omega
 have m:=za (Wn O K.out x);rw[F]at m;have Xi:b<=8:=by have:=x.2.2.2;omega
 clear G D x F;obtain⟨n0,n1,n2,S,m0,m1,m2,m3⟩:=aO u.out.res;have Y:=u.out.siz;have y:w.heap.size+1<H.heap.size:=by omega
 by_cases E:n%8=0
 ·have M:((n:Int)%8==0)=true:=xe.2 (by omega);rw[zH E,Zt]at m;cases ok with
  |true=>
   go_wp2;obtain⟨l,r,o,i,j,k⟩:=u.out.ends (.int .i64 1) (.int .i64 b) (.slice none 0 0) (.int .i64 0);refine zo (v:= .tuple #[.agg #[.int .i64 1,.int .i64 b,.slice none 0 0,.int .i64 0],.bool true]) (by simp[results,yD,go_sem,o,i,j,k,zE,y]) rfl ?_;exact⟨.mk 1 b [] 0,true,q,L-1,_,_,_,_,_,_,rfl,af.alloc (show af _ g _ _ from l) _,r.alloc _,by omega,m.out,fun A=>fh.leaf (ay (by omega) (by omega)) (ay (by omega) (by omega)) (ay (by omega) (by omega))⟩
  |false=>
   go_wp2;obtain⟨l,r,o,i,j,k⟩:=u.out.ends (.int .i64 1) (.int .i64 b) (.slice none 0 0) (.int .i64 0);refine zo (v:= .tuple #[.agg #[.int .i64 1,.int .i64 b,.slice none 0 0,.int .i64 0],.bool false]) (by simp[results,yD,go_sem,o,i,j,k,zE,y]) rfl ?_;exact⟨.mk 1 b [] 0,false,q,L-1,_,_,_,_,_,_,rfl,af.alloc (show af _ g _ _ from l) _,r.alloc _,by omega,m.out,fun A=>fh.leaf (ay (by omega) (by omega)) (ay (by omega) (by omega)) (ay (by omega) (by omega))⟩
 have M:((n:Int)%8==0)=false:=zr.2 (by omega);rw[zz E,Bool.and_false]at m;cases ok with
 |true=>
  go_wp2;obtain⟨l,r,o,i,j,k⟩:=u.out.ends (.int .i64 1) (.int .i64 b) (.slice none 0 0) (.int .i64 0);refine zo (v:= .tuple #[.agg #[.int .i64 1,.int .i64 b,.slice none 0 0,.int .i64 0],.bool false]) (by simp[results,yD,go_sem,o,i,j,k,zE,y]) rfl ?_;exact⟨.mk 1 b [] 0,false,q,L-1,_,_,_,_,_,_,rfl,af.alloc (show af _ g _ _ from l) _,r.alloc _,by omega,m.out,fun A=>fh.leaf (ay (by omega) (by omega)) (ay (by omega) (by omega)) (ay (by omega) (by omega))⟩
 |false=>
  go_wp2;obtain⟨l,r,o,i,j,k⟩:=u.out.ends (.int .i64 1) (.int .i64 b) (.slice none 0 0) (.int .i64 0);refine zo (v:= .tuple #[.agg #[.int .i64 1,.int .i64 b,.slice none 0 0,.int .i64 0],.bool false]) (by simp[results,yD,go_sem,o,i,j,k,zE,y]) rfl ?_;exact⟨.mk 1 b [] 0,false,q,L-1,_,_,_,_,_,_,rfl,af.alloc (show af _ g _ _ from l) _,r.alloc _,by omega,m.out,fun A=>fh.leaf (ay (by omega) (by omega)) (ay (by omega) (by omega)) (ay (by omega) (by omega))⟩
structure tG where
 feed:Bool
 text:ByteArray
 name:ByteArray
 x:It
def J' (w:World)(B:Nat)(v:Value)(l:List tG):Prop:=∃A cap,v= .slice A l.length cap/\l.length<=cap/\cap<=9223372036854775807/\∀j (h:j<l.length),∃g o c0 c1 c2,A=some ⟨g,o,none⟩/\g<B/\w.cell? ⟨g,o+j*6,none⟩=some (.bool l[j].feed)/\w.cell? ⟨g,o+j*6+1,none⟩=some (.string l[j].text)/\
 w.cell? ⟨g,o+j*6+2,none⟩=some (.string l[j].name)/\w.cell? ⟨g,o+j*6+3,none⟩=some c0/\w.cell? ⟨g,o+j*6+4,none⟩=some c1/\w.cell? ⟨g,o+j*6+5,none⟩=some c2/\bZ w B l[j].x c0 c1 c2
theorem J'.below {w w':World}{B:Nat}{v:Value}{l:List tG}(h:J' w B v l)(c:Below B w w'):J' w' B v l:=by
 obtain⟨A,cap,x,C,z,s⟩:=h;refine⟨A,cap,x,C,z,fun j q=> ?_⟩;obtain⟨g,o,i,d,m,e,b,k,p,u,n,y,r,hi⟩:=s j q;exact⟨g,o,i,d,m,e,b,(c.cell b).trans k,(c.cell b).trans p,(c.cell b).trans u,(c.cell b).trans n,(c.cell b).trans y,(c.cell b).trans r,hi.below c⟩
theorem J'.dk {w:World}{B:Nat}{v:Value}{l:List tG}(h:J' w B v l):∃A n cap,v= .slice A n cap/\Hid (n=l.length)/\n<=cap/\cap<=9223372036854775807:=by
 obtain⟨A,cap,b,d,c,_⟩:=h;exact⟨A,_,cap,b,za rfl,d,c⟩
theorem J'.at_ {w:World}{B:Nat}{A:Option Addr}{n cap:Nat}{l:List tG}(h:J' w B (.slice A n cap) l){j:Nat}(e:j<l.length):∃g o c b d,A=some ⟨g,o,none⟩/\g<B/\w.cell? ⟨g,o+j*6,none⟩=some (.bool l[j].feed)/\w.cell? ⟨g,o+j*6+1,none⟩=some (.string l[j].text)/\
 w.cell? ⟨g,o+j*6+2,none⟩=some (.string l[j].name)/\w.cell? ⟨g,o+j*6+3,none⟩=some c/\w.cell? ⟨g,o+j*6+4,none⟩=some b/\w.cell? ⟨g,o+j*6+5,none⟩=some d/\bZ w B l[j].x c b d:=by
 obtain⟨q,m,k,r,p,i⟩:=h;injection k with hA _ _;subst hA;exact i j e
def lx (l:List tG):Nat:=l.foldl (fun a o=>min (a+min o.text.size 10000) 10000) 0
theorem Fg {l:List tG}{k:Nat}(h:k<l.length):lx (l.take (k+1))=min (lx (l.take k)+min l[k].text.size 10000) 10000:=by
 unfold lx;rw[Ye,zB h,List.foldl_append];rfl
def s5 (o:tG):Bool:=decide (100<o.name.size)||o.x.mn
def sC (l:List tG):Bool:=decide (200<l.length)||(l.any s5||decide (1500<lx l))
def ea :List tG->Nat
 | []=>0
 |o::l=>o.text.size+ea l
theorem Fh {l:List tG}{k:Nat}(h:k<l.length):ea (l.take (k+1))=ea (l.take k)+l[k].text.size:=by
 have:∀(l:List tG) (k:Nat) (h:k<l.length),ea (l.take (k+1))=ea (l.take k)+l[k].text.size:=by
  intro l;induction l with
  |nil=>intro k h;simp at h
  |cons x xs ih=>
   intro k h;cases k with
   |zero=>simp[ea]
   |succ k=>simp only[zR,ea,List.getElem_cons_succ];rw[ih k (by simpa using h)];omega
 exact this l k h
theorem Mg (l:List tG)(k:Nat):ea (l.take k)<=ea l:=by
 have:∀(l:List tG) (k:Nat),ea (l.take k)<=ea l:=by
  intro l;induction l with
  |nil=>intro k;simp
  |cons x xs ih=>
   intro k;cases k with
   |zero=>simp[ea]
   |succ k=>simp only[zR,ea];have:=ih k;omega
 exact this l k
theorem Pm {l:List tG}(h:sC l=false):l.length<=200/\(∀o∈l,o.name.size<=100/\o.x.mn=false)/\ea l<=1500:=by
 simp only[sC,Zi,yV,xY]at h;obtain⟨i,d,c⟩:=h;refine⟨by omega,fun o b=> ?_, ?_⟩
 ·have:=d o b;simp only[s5,Yk,yj,not_or]at this;exact⟨by omega,by simpa using this.2⟩
 have key:∀(l:List tG) (a:Nat),l.foldl (fun a o=>min (a+min o.text.size 10000) 10000) a<=1500->a+ea l<=1500:=by
  intro l;induction l with
  |nil=>intro a h;simpa[ea]using h
  |cons x xs ih=>
   intro a h;have e:min (a+min x.text.size 10000) 10000+ea xs<=1500:=ih _ h;simp only[ea];omega
 have:=key l 0 (by unfold lx at c;omega);omega
theorem Mh (l:List tG)(v:Value)(B:Nat)(w:World)(E:J' w B v l)(hB:B<=w.heap.size):
 Calls prog 16 #[v] w fun e w'=>e= .returned (.bool (sC l))/\Below w.heap.size w w':=by
 obtain⟨A,n,cap,rfl,d,ae,lI⟩:=E.dk;have HV:=za E;clear E;by_cases O:200<n
 ·have ab:(200:Int)<n:=by omega
  have C:Hid (sC l=true):=za (by unfold sC;rw[<-d.out];simp[O]);rw[C.out];go_enter func16,ntmps16
  go_wp2;go_ret;exact⟨rfl,zq _ _⟩
 have ab:¬(200:Int)<n:=by omega
 have C:Hid (sC l=(l.any s5||decide (1500<lx l))):=za (by unfold sC;rw[<-d.out];simp[O]);rw[C.out];obtain⟨R,N⟩:∃R,(l.any s5||decide (1500<lx l))=R:=⟨_,rfl⟩
 rw[N];have HR:=za N;clear N C;go_enter func16,ntmps16
 go_wp2;go_loopw [3,4] (fun a i wr=>∃k m:Nat,i= .int .i64 k/\k<=n/\a= .int .i64 m/\m<=10000/\Hid (m=lx (l.take k))/\Hid (∀j (c:j<l.length),j<k->s5 l[j]=false)/\Below w.heap.size w wr) (fun _ i _=>n-(intOf i).toNat)
 case atStart=>exact⟨0,0,rfl,by omega,rfl,by omega,za rfl,za (by omega),zq _ _⟩
 case round=>
  obtain⟨k,m,rfl,hk,rfl,hm,HM,U,b⟩:=hrel;have Y:=b.size;by_cases aC:k<n
  ·have F:k<l.length:=by rw[<-d.out];exact aC
   obtain⟨g,o,c0,c1,c2,rfl,hg,_,e1,e2,e3,e4,e5,hi⟩:=(HV.out.below (b.mono hB)).at_ F;have W:Hid (s5 l[k]=false->∀j (c:j<l.length),j<k+1->s5 l[j]=false):=za (fun L j c Qv=>by
    by_cases h:j=k
    ·subst h;exact L
    exact U.out j c (by omega))
   have D:Hid (s5 l[k]=true->R=true):=za (fun L=>by rw[<-HR.out,Yk];exact .inl (Zk.2 ⟨_,zM F,L⟩));have I:Hid (min (m+min l[k].text.size 10000) 10000=lx (l.take (k+1))):=za (by rw[Fg F,<-HM.out]);obtain⟨y,Z⟩:∃y,l[k]=y:=⟨_,rfl⟩
   rw[Z]at e1 e2 W D I hi;clear Z;obtain⟨p,S⟩:∃p:Nat,min y.text.size 10000=p:=⟨_,rfl⟩
   obtain⟨q,X⟩:∃q:Nat,min (m+p) 10000=q:=⟨_,rfl⟩
   rw[S,X]at I;have ad:q<=10000:=by omega
   have Dg:(¬(10000:Int)<y.text.size/\¬(10000:Int)<m+y.text.size/\Hid ((m:Int)+y.text.size=q))\/(¬(10000:Int)<y.text.size/\(10000:Int)<m+y.text.size/\Hid ((10000:Int)=q))\/
    ((10000:Int)<y.text.size/\¬(10000:Int)<m+10000/\Hid ((m:Int)+10000=q))\/((10000:Int)<y.text.size/\(10000:Int)<m+10000/\Hid ((10000:Int)=q)):=by
    by_cases s:10000<y.text.size
    ·by_cases x:10000<m+10000
     ·exact .inr (.inr (.inr ⟨by omega,by omega,za (by omega)⟩))
     exact .inr (.inr (.inl ⟨by omega,by omega,za (by omega)⟩))
    by_cases x:10000<m+y.text.size
    ·exact .inr (.inl ⟨by omega,by omega,za (by omega)⟩)
    exact .inl ⟨by omega,by omega,za (by omega)⟩
   have ch:=hi.mono (show B<=wr.heap.size by omega);have J:=za (Tb y.x wr.heap.size wr c0 c1 c2 ch (zf _));obtain⟨Ax,jO,rfl,rfl,rfl,_⟩:=hi.open_;clear hi ch S X;rcases Dg with⟨H,G,z⟩|⟨H,G,z⟩|⟨H,G,z⟩|⟨H,G,z⟩;all_goals
    by_cases s:100<y.name.size
    ·have aa:(100:Int)<(y.name.size:Int):=by omega
     have u:=za (D.out (by simp[s5,s]));go_wp2_with fail
     go_ret;exact⟨by rw[u.out];rfl,b⟩
    have aa:¬(100:Int)<(y.name.size:Int):=by omega
    obtain⟨r,M⟩:∃r,y.x.mn=r:=⟨_,rfl⟩
    rw[M]at J;have AE:=za M;clear M;cases r with
    |true=>
     have u:=za (D.out (by simp[s5,AE.out]));go_wp2_with fail
     refine J.out.mono ?_;rintro e w2 ⟨rfl,K⟩;go_wp2;go_ret;exact⟨by rw[u.out];rfl,b.trans (K.mono Y)⟩
    |false=>
     have HN:=za (W.out (by simp[s5,s,AE.out]));go_wp2_with fail
     refine J.out.mono ?_;rintro e w2 ⟨rfl,K⟩;have bS:=b.trans (K.mono Y);go_wp2;go_roundw
     case rel=>exact⟨k+1,q,by go_num,by omega,by rw[z.out],ad,I,HN,bS⟩
     case measure=>simp[intOf];omega
  have Xf:k=n:=by omega
  have u:Hid (R=decide ((1500:Int)<(m:Int))):=za (by
   rw[<-HR.out];have s:l.any s5=false:=by
    rw[xY];intro e he;obtain⟨j,c,rfl⟩:=yZ he;rw[U.out j c (by rw[<-d.out]at c;omega)];simp
   have x:=HM.out;rw[zC (by rw[<-d.out];omega)]at x;rw[s,<-x];simp;omega)
  go_wp2;all_goals
   go_ret;exact⟨aT (by rw[u.out]),b⟩
theorem sD (s:ByteArray)(k:Nat)(h:k<=s.size):s.size-(s.data.toList.drop k).length=k:=by rw[zZ,aa];omega
theorem CS (x:Int)(b: -9223372036854775808<=x)(c:x<=9223372036854775807):wrap64 x=x:=by unfold wrap64;omega
theorem Pn (m b:Nat)(h:m<1000000)(c:48<=b)(d:b<=57):wrap64 (wrap64 (wrap64 (10*(m:Int))+wrap64 (b:Int))-48)=((10*m+(b-48):Nat):Int):=by
 rw[CS (10*(m:Int)) (by omega) (by omega),CS (b:Int) (by omega) (by omega),CS (10*(m:Int)+b) (by omega) (by omega),CS _ (by omega) (by omega)];omega
def ec (s:ByteArray):Option (Nat×List UInt8)->Ending
 |none=> .returned (.tuple #[.int .i64 0,.int .i64 (-1)])
 |some (n,r)=> .returned (.tuple #[.int .i64 n,.int .i64 ((s.size-r.length:Nat):Int)])
theorem oN (s:ByteArray)(at_:Nat)(w:World)(H:at_<=s.size)(O:s.size<=100000):
 Calls prog 53 #[.string s,.int .i64 at_] w fun e w'=>e=ec s (cc (s.data.toList.drop at_))/\w=w':=by
 obtain⟨R,d⟩:∃R,Hid (ec s (cc (s.data.toList.drop at_))=R):=⟨_,za rfl⟩
 rw[d.out];go_enter func53,ntmps53
 go_wp2_with fail
 go_loop [6,1] (fun n i=>∃k m:Nat,at_<=k/\k<=s.size/\m<=10000100/\Hid (kJ s at_ k m)/\n= .int .i64 m/\i= .int .i64 k) (fun _ i=>s.size-(intOf i).toNat)
 case atStart=>exact⟨at_,0,by omega,H,by omega,za (kJ.start s at_),rfl,rfl⟩
 case round=>
  obtain⟨k,m,N,p,x,hrel,rfl,rfl⟩:=hrel;by_cases E:k<s.size
  ·by_cases y:48<=s[k].toNat
   ·by_cases r:s[k].toNat<=57
    ·have z:=za (hrel.out.next E ((kI _).2 ⟨y,r⟩));have A:=za (uC m s[k] x r);have B:decide ((48:Int)<=(s[k].toNat:Int))=true:=zH (by omega);have o:decide ((s[k].toNat:Int)<=57)=true:=zH (by omega);have M:=za y;have L:=za r;clear y r;by_cases q:m<1000000
     ·have u:Hid (fa m s[k]=10*m+(s[k].toNat-48)):=za (by simp[fa,q]);have G:decide ((m:Int)<1000000)=true:=zH (by omega);have K:=za q;clear q x;go_wp2_with fail
      go_round
      case rel=>exact⟨k+1,fa m s[k],by omega,by omega,A.out,z,by rw[u.out];have I:=M.out;have F:=L.out;have J:=K.out;rw[Pn m s[k].toNat J I F],by go_num⟩
      case measure=>simp[intOf];omega
     have u:Hid (fa m s[k]=m):=za (by simp[fa,q]);have G:decide ((m:Int)<1000000)=false:=zz (by omega);clear q x;go_wp2_with fail
     go_round
     case rel=>exact⟨k+1,fa m s[k],by omega,by omega,A.out,z,by rw[u.out],by go_num⟩
     case measure=>simp[intOf];omega
    have j:Hid (∀h:k<s.size,iO s[k]=false):=za (fun h=>by simp[iO];omega);have B:decide ((s[k].toNat:Int)<=57)=false:=zz (by omega);rcases(show k=at_\/at_<k from by omega)with rfl|hak
    ·have b:Hid (R= .returned (.tuple #[.int .i64 0,.int .i64 (-1)])):=za (by rw[<-d.out,nw j.out];rfl);go_wp2;all_goals
      go_ret2
      exact⟨by rw[b.out];rfl,rfl⟩
    have D:at_<s.size:=(hrel.out.2 at_ (by omega) hak).1;have C:((k:Int)==(at_:Int))=false:=zr.2 (by omega);by_cases c:s[at_].toNat=48
    ·have o:((s[at_].toNat:Int)==48)=true:=by simp[c]
     by_cases l:at_+1<k
     ·have b:Hid (R= .returned (.tuple #[.int .i64 0,.int .i64 (-1)])):=za (by rw[<-d.out,ny hrel.out l (fun _=>c)];rfl);clear c;go_wp2;all_goals
       go_ret2
       exact⟨by rw[b.out];rfl,rfl⟩
     have b:Hid (R= .returned (.tuple #[.int .i64 m,.int .i64 k])):=za (by rw[<-d.out,jV hrel.out hak j.out (fun h=>absurd h l)];simp only[ec,sD s k p]);clear c;go_wp2;all_goals
      go_ret2
      exact⟨by rw[b.out];rfl,rfl⟩
    have o:((s[at_].toNat:Int)==48)=false:=zr.2 (by omega);have b:Hid (R= .returned (.tuple #[.int .i64 m,.int .i64 k])):=za (by rw[<-d.out,jV hrel.out hak j.out (fun _ _=>c)];simp only[ec,sD s k p]);clear c;go_wp2;all_goals
     go_ret2
     exact⟨by rw[b.out];rfl,rfl⟩
   have j:Hid (∀h:k<s.size,iO s[k]=false):=za (fun h=>by simp[iO];omega);have B:decide ((48:Int)<=(s[k].toNat:Int))=false:=zz (by omega);rcases(show k=at_\/at_<k from by omega)with rfl|hak
   ·have b:Hid (R= .returned (.tuple #[.int .i64 0,.int .i64 (-1)])):=za (by rw[<-d.out,nw j.out];rfl);go_wp2;all_goals
     go_ret2
     exact⟨by rw[b.out];rfl,rfl⟩
   have D:at_<s.size:=(hrel.out.2 at_ (by omega) hak).1;have C:((k:Int)==(at_:Int))=false:=zr.2 (by omega);by_cases c:s[at_].toNat=48
   ·have o:((s[at_].toNat:Int)==48)=true:=by simp[c]
    by_cases l:at_+1<k
    ·have b:Hid (R= .returned (.tuple #[.int .i64 0,.int .i64 (-1)])):=za (by rw[<-d.out,ny hrel.out l (fun _=>c)];rfl);clear c;go_wp2;all_goals
      go_ret2
      exact⟨by rw[b.out];rfl,rfl⟩
    have b:Hid (R= .returned (.tuple #[.int .i64 m,.int .i64 k])):=za (by rw[<-d.out,jV hrel.out hak j.out (fun h=>absurd h l)];simp only[ec,sD s k p]);clear c;go_wp2;all_goals
     go_ret2
     exact⟨by rw[b.out];rfl,rfl⟩
   have o:((s[at_].toNat:Int)==48)=false:=zr.2 (by omega);have b:Hid (R= .returned (.tuple #[.int .i64 m,.int .i64 k])):=za (by rw[<-d.out,jV hrel.out hak j.out (fun _ _=>c)];simp only[ec,sD s k p]);clear c;go_wp2;all_goals
    go_ret2
    exact⟨by rw[b.out];rfl,rfl⟩
  have j:Hid (∀h:k<s.size,iO s[k]=false):=za (fun h=>absurd h E);rcases(show k=at_\/at_<k from by omega)with rfl|hak
  ·have b:Hid (R= .returned (.tuple #[.int .i64 0,.int .i64 (-1)])):=za (by rw[<-d.out,nw j.out];rfl);go_wp2;all_goals
    go_ret2
    exact⟨by rw[b.out];rfl,rfl⟩
  have D:at_<s.size:=(hrel.out.2 at_ (by omega) hak).1;have C:((k:Int)==(at_:Int))=false:=zr.2 (by omega);by_cases c:s[at_].toNat=48
  ·have o:((s[at_].toNat:Int)==48)=true:=by simp[c]
   by_cases l:at_+1<k
   ·have b:Hid (R= .returned (.tuple #[.int .i64 0,.int .i64 (-1)])):=za (by rw[<-d.out,ny hrel.out l (fun _=>c)];rfl);clear c;go_wp2;all_goals
     go_ret2
     exact⟨by rw[b.out];rfl,rfl⟩
   have b:Hid (R= .returned (.tuple #[.int .i64 m,.int .i64 k])):=za (by rw[<-d.out,jV hrel.out hak j.out (fun h=>absurd h l)];simp only[ec,sD s k p]);clear c;go_wp2;all_goals
    go_ret2
    exact⟨by rw[b.out];rfl,rfl⟩
  have o:((s[at_].toNat:Int)==48)=false:=zr.2 (by omega);have b:Hid (R= .returned (.tuple #[.int .i64 m,.int .i64 k])):=za (by rw[<-d.out,jV hrel.out hak j.out (fun _ _=>c)];simp only[ec,sD s k p]);clear c;go_wp2;all_goals
   go_ret2
   exact⟨by rw[b.out];rfl,rfl⟩
