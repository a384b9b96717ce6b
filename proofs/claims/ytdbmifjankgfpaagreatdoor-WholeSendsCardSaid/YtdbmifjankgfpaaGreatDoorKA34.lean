/- rlp.head tells hd. -/
import Derived.Test.YtdbmifjankgfpaaGreatDoorKA24
set_option linter.all false
set_option maxRecDepth 100000
set_option maxHeartbeats 4000000
open Go.Proofs.Tryz
namespace Go.Proofs.YtdbmifjankgfpaaGreatDoor
open Go.RowKit
variable {s:ByteArray}{q p L f n g L' d i p' j e:Nat}{w V V':World}{acc:List Ty}{y x t:Ty}
def ye:=@results212
def yn:=@ntmps212
def yr:=@func212
def yw:=@results157
def xI:=@ntmps157
def xQ:=@func157
def hdV (r:Bool×Nat×Nat×Int):Value:= .tuple #[.bool r.1,.int .i64 r.2.1,.int .i64 r.2.2.1,.int .i64 r.2.2.2]
theorem Ns (s:ByteArray)(d m:Bool)(w:World)(Z:s.size<=4611686018427387904):
 Calls prog 212 #[.string s,.bool d,.bool m] w fun e w'=>e= .returned (hdV (hd s d m))/\w=w':=by
 unfold hdV;rcases eu s with⟨hz,rfl⟩|⟨hz,X,Y⟩
 ·have c:Hid (hd ⟨#[]⟩ d m=(false,0,0,2)):=za (by unfold hd;rw[zi (by simp[ByteArray.size])]);clear hz;go_enter yr,yn
  go_wp2;refine zk (v:= .tuple #[.bool false,.int .i64 (0:Int),.int .i64 (0:Int),.int .i64 2]) (by simp[results,ye,go_sem]) rfl ?_;rw[c.out];exact⟨rfl,rfl⟩
 have K:0<s.size:=by
  rcases Zi s.size with h|h
  ·exact absurd h (by first|exact hz|omega)
  exact h
 cases d with
 |true=>
  have c:Hid (hd s true m=(false,0,0,6)):=za (by unfold hd;rw[zh (by omega),zi rfl]);go_enter yr,yn
  go_wp2;refine zk (v:= .tuple #[.bool false,.int .i64 (0:Int),.int .i64 (0:Int),.int .i64 6]) (by simp[results,ye,go_sem]) rfl ?_;rw[c.out];exact⟨rfl,rfl⟩
 |false=>
 cases m with
 |true=>
  have c:Hid (hd s false true=(false,0,0,4)):=za (by unfold hd;rw[zh (by omega),zh (by simp),zi rfl]);go_enter yr,yn
  go_wp2;refine zk (v:= .tuple #[.bool false,.int .i64 (0:Int),.int .i64 (0:Int),.int .i64 4]) (by simp[results,ye,go_sem]) rfl ?_;rw[c.out];exact⟨rfl,rfl⟩
 |false=>
 have x:hd s false false=AI s:=by unfold hd;rw[zh (by omega),zh (by simp),zh (by simp)]
 have C:s.data.toList.getD 0 0=s[0]:=by rw[zw,gH s 0 K];rfl
 have W:=s[0].toNat_lt;by_cases H:s[0].toNat<128
 ·have c:Hid (hd s false false=(false,0,1,0)):=za (by rw[x];unfold AI;dsimp only;rw[C,zi H]);clear x;go_enter yr,yn
  go_wp2;refine zk (v:= .tuple #[.bool false,.int .i64 (0:Int),.int .i64 (1:Int),.int .i64 0]) (by simp[results,ye,go_sem]) rfl ?_;rw[c.out];exact⟨rfl,rfl⟩
 by_cases J:192<=s[0].toNat
 ·obtain⟨t,E⟩:∃t,s[0].toNat=192+t:=⟨s[0].toNat-192,by omega⟩
  have b:=x;unfold AI at b;dsimp only at b;rw[C,E,zh (by omega:¬192+t<128),show decide (192<=192+t)=true from by simp,zi (by omega:192<=192+t),show 192+t-192=t from by omega]at b;have L:decide (192<=192+(t:Int))=true:=zD (by omega);have S:t<=63:=by omega
  clear x C H J;by_cases l:t<=55
  ·rw[zi l,zi l,zi l]at b;have D:192+(t:Int)-192=t:=by omega
   by_cases p:s.size<1+t
   ·have c:Hid (hd s false false=(false,0,0,2)):=za (by rw[b,zi p]);clear b;go_enter yr,yn
    go_wp2;refine zk (v:= .tuple #[.bool false,.int .i64 (0:Int),.int .i64 (0:Int),.int .i64 2]) (by simp[results,ye,go_sem]) rfl ?_;rw[c.out];exact⟨rfl,rfl⟩
   have c:Hid (hd s false false=(true,1,t,0)):=za (by rw[b,zh p,zh (by simp)]);clear b;go_enter yr,yn
   go_wp2;refine zk (v:= .tuple #[.bool true,.int .i64 (1:Int),.int .i64 (t:Int),.int .i64 0]) (by simp[results,ye,go_sem]) rfl ?_;rw[c.out];exact⟨rfl,rfl⟩
  rw[zh l,zh l,zh l]at b;obtain⟨k,rfl⟩:∃k,t=55+k:=⟨t-55,by omega⟩
  rw[show 55+k-55=k from by omega]at b;have D:192+(55+(k:Int))-192=55+k:=by omega
  have M:55+(k:Int)-55=k:=by omega
  by_cases p:s.size<1+k
  ·have c:Hid (hd s false false=(false,0,0,2)):=za (by rw[b,zi p]);clear b;go_enter yr,yn
   go_wp2;refine zk (v:= .tuple #[.bool false,.int .i64 (0:Int),.int .i64 (0:Int),.int .i64 2]) (by simp[results,ye,go_sem]) rfl ?_;rw[c.out];exact⟨rfl,rfl⟩
  rw[zh p]at b;have u:1<s.size:=by omega
  have o:s.data.toList.getD 1 0=s[1]:=by rw[zw,gH s 1 u];rfl
  rw[o]at b;have A:(s.extract 1 (1+k)).size=k:=by rw[aq _ _ _ (by omega)];omega
  have r:fC (s.extract 1 (1+k)).data.toList=decide (s[1].toNat=0):=by
   have F:(s.extract 1 (1+k)).data.toList=s[1]::(s.extract 1 (1+k)).data.toList.drop 1:=by
    rw[ar];have i:(s.data.toList.take (1+k)).drop 1=((s.data.toList.drop 1).take k):=by rw[ZS,show 1+k-1=k from by omega]
    rw[i,drop_cons s 1 u,show k=(k-1)+1 from by omega,zO];rfl
   rw[F];simp only[fC];by_cases e:s[1]=0
   ·simp[e]
   have:s[1].toNat≠0:=fun h=>e (zQ.1 h)
   simp[e,this]
  have j:=za (pn (s.extract 1 (1+k)) w (by omega));by_cases q:s[1].toNat=0
  ·have n:pN (s.extract 1 (1+k))=3:=by unfold pN;rw[zh (by omega),zh (by omega),r,q];rfl
   have c:Hid (hd s false false=(false,0,0,3)):=za (by rw[b,zi (.inl q)]);rw[n]at j;clear b n r o;generalize vR (s.extract 1 (1+k))=N at*;go_enter yr,yn
   go_wp2_with fail
   refine j.out.mono ?_;rintro e w' ⟨rfl,rfl⟩;go_wp2;refine zk (v:= .tuple #[.bool false,.int .i64 (0:Int),.int .i64 (0:Int),.int .i64 3]) (by simp[results,ye,go_sem]) rfl ?_;rw[c.out];exact⟨rfl,rfl⟩
  have n:pN (s.extract 1 (1+k))=0:=by unfold pN;rw[zh (by omega),zh (by omega),r,zu q];rfl
  have z:vR (s.extract 1 (1+k))=lK (s.extract 1 (1+k)).data.toList:=by unfold vR;rw[zi n]
  have O:lK (s.extract 1 (1+k)).data.toList<18446744073709551616:=by
   have i:=uJ (s.extract 1 (1+k)).data.toList;rw[aa,A]at i;have y:2^(8*k)<=2^(8*8):=yp (by omega) (by omega);exact zU i y
  rw[n,z]at j;clear n z r o A;generalize lK (s.extract 1 (1+k)).data.toList=N at*;by_cases i:N<=55
  ·have c:Hid (hd s false false=(false,0,0,3)):=za (by rw[b,zi (.inr i)]);clear b;go_enter yr,yn
   go_wp2_with fail
   refine j.out.mono ?_;rintro e w' ⟨rfl,rfl⟩;go_wp2;refine zk (v:= .tuple #[.bool false,.int .i64 (0:Int),.int .i64 (0:Int),.int .i64 3]) (by simp[results,ye,go_sem]) rfl ?_;rw[c.out];exact⟨rfl,rfl⟩
  rw[zh (fun h=>h.elim q i)]at b;by_cases y:s.size<N
  ·have c:Hid (hd s false false=(false,0,0,2)):=za (by rw[b,zi (by omega)]);clear b;go_enter yr,yn
   go_wp2_with fail
   refine j.out.mono ?_;rintro e w' ⟨rfl,rfl⟩;go_wp2;refine zk (v:= .tuple #[.bool false,.int .i64 (0:Int),.int .i64 (0:Int),.int .i64 2]) (by simp[results,ye,go_sem]) rfl ?_;rw[c.out];exact⟨rfl,rfl⟩
  by_cases B:s.size<1+k+N
  ·have c:Hid (hd s false false=(false,0,0,2)):=za (by rw[b,zi B]);clear b;go_enter yr,yn
   go_wp2_with fail
   refine j.out.mono ?_;rintro e w' ⟨rfl,rfl⟩;go_wp2;refine zk (v:= .tuple #[.bool false,.int .i64 (0:Int),.int .i64 (0:Int),.int .i64 2]) (by simp[results,ye,go_sem]) rfl ?_;rw[c.out];exact⟨rfl,rfl⟩
  have c:Hid (hd s false false=(true,1+k,N,0)):=za (by rw[b,zh B]);have R:((N:Int)==1)=false:=by simp;omega
  clear b;go_enter yr,yn
  go_wp2_with fail
  refine j.out.mono ?_;rintro e w' ⟨rfl,rfl⟩;go_wp2;refine zk (v:= .tuple #[.bool true,.int .i64 ((1+k:Nat):Int),.int .i64 (N:Int),.int .i64 0]) (by simp[results,ye,go_sem]<;>omega) rfl ?_;rw[c.out];exact⟨rfl,rfl⟩
 obtain⟨t,E⟩:∃t,s[0].toNat=128+t:=⟨s[0].toNat-128,by omega⟩
 have b:=x;unfold AI at b;dsimp only at b;have G:¬192<=128+t:=by omega
 rw[C,E,zh (by omega:¬128+t<128),zu G,zh G,show 128+t-128=t from by omega]at b;have L:decide (192<=128+(t:Int))=false:=zu (by omega);have S:t<=63:=by omega
 clear x C H J G;by_cases l:t<=55
 ·rw[zi l,zi l,zi l]at b;have D:128+(t:Int)-128=t:=by omega
  by_cases p:s.size<1+t
  ·have c:Hid (hd s false false=(false,0,0,2)):=za (by rw[b,zi p]);clear b;go_enter yr,yn
   go_wp2;refine zk (v:= .tuple #[.bool false,.int .i64 (0:Int),.int .i64 (0:Int),.int .i64 2]) (by simp[results,ye,go_sem]) rfl ?_;rw[c.out];exact⟨rfl,rfl⟩
  rw[zh p]at b;by_cases I:t=1
  ·subst I;have u:1<s.size:=by omega
   have o:s.data.toList.getD 1 0=s[1]:=by rw[zw,gH s 1 u];rfl
   rw[o]at b;by_cases i:s[1].toNat<128
   ·have c:Hid (hd s false false=(false,0,0,3)):=za (by rw[b,zi ⟨rfl,rfl,i⟩]);clear b o;go_enter yr,yn
    go_wp2;refine zk (v:= .tuple #[.bool false,.int .i64 (0:Int),.int .i64 (0:Int),.int .i64 3]) (by simp[results,ye,go_sem]) rfl ?_;rw[c.out];exact⟨rfl,rfl⟩
   have c:Hid (hd s false false=(false,1,1,0)):=za (by rw[b,zh (by simp;omega)]);clear b o;go_enter yr,yn
   go_wp2;refine zk (v:= .tuple #[.bool false,.int .i64 (1:Int),.int .i64 (1:Int),.int .i64 0]) (by simp[results,ye,go_sem]) rfl ?_;rw[c.out];exact⟨rfl,rfl⟩
  have c:Hid (hd s false false=(false,1,t,0)):=za (by rw[b,zh (fun h=>I h.2.1)]);have U:((t:Int)==1)=false:=by simp;omega
  clear b;go_enter yr,yn
  go_wp2;refine zk (v:= .tuple #[.bool false,.int .i64 (1:Int),.int .i64 (t:Int),.int .i64 0]) (by simp[results,ye,go_sem]) rfl ?_;rw[c.out];exact⟨rfl,rfl⟩
 rw[zh l,zh l,zh l]at b;obtain⟨k,rfl⟩:∃k,t=55+k:=⟨t-55,by omega⟩
 rw[show 55+k-55=k from by omega]at b;have D:128+(55+(k:Int))-128=55+k:=by omega
 have M:55+(k:Int)-55=k:=by omega
 by_cases p:s.size<1+k
 ·have c:Hid (hd s false false=(false,0,0,2)):=za (by rw[b,zi p]);clear b;go_enter yr,yn
  go_wp2;refine zk (v:= .tuple #[.bool false,.int .i64 (0:Int),.int .i64 (0:Int),.int .i64 2]) (by simp[results,ye,go_sem]) rfl ?_;rw[c.out];exact⟨rfl,rfl⟩
 rw[zh p]at b;have u:1<s.size:=by omega
 have o:s.data.toList.getD 1 0=s[1]:=by rw[zw,gH s 1 u];rfl
 rw[o]at b;have A:(s.extract 1 (1+k)).size=k:=by rw[aq _ _ _ (by omega)];omega
 have r:fC (s.extract 1 (1+k)).data.toList=decide (s[1].toNat=0):=by
  have F:(s.extract 1 (1+k)).data.toList=s[1]::(s.extract 1 (1+k)).data.toList.drop 1:=by
   rw[ar];have i:(s.data.toList.take (1+k)).drop 1=((s.data.toList.drop 1).take k):=by rw[ZS,show 1+k-1=k from by omega]
   rw[i,drop_cons s 1 u,show k=(k-1)+1 from by omega,zO];rfl
  rw[F];simp only[fC];by_cases e:s[1]=0
  ·simp[e]
  have:s[1].toNat≠0:=fun h=>e (zQ.1 h)
  simp[e,this]
 have j:=za (pn (s.extract 1 (1+k)) w (by omega));by_cases q:s[1].toNat=0
 ·have n:pN (s.extract 1 (1+k))=3:=by unfold pN;rw[zh (by omega),zh (by omega),r,q];rfl
  have c:Hid (hd s false false=(false,0,0,3)):=za (by rw[b,zi (.inl q)]);rw[n]at j;clear b n r o;generalize vR (s.extract 1 (1+k))=N at*;go_enter yr,yn
  go_wp2_with fail
  refine j.out.mono ?_;rintro e w' ⟨rfl,rfl⟩;go_wp2;refine zk (v:= .tuple #[.bool false,.int .i64 (0:Int),.int .i64 (0:Int),.int .i64 3]) (by simp[results,ye,go_sem]) rfl ?_;rw[c.out];exact⟨rfl,rfl⟩
 have n:pN (s.extract 1 (1+k))=0:=by unfold pN;rw[zh (by omega),zh (by omega),r,zu q];rfl
 have z:vR (s.extract 1 (1+k))=lK (s.extract 1 (1+k)).data.toList:=by unfold vR;rw[zi n]
 have O:lK (s.extract 1 (1+k)).data.toList<18446744073709551616:=by
  have i:=uJ (s.extract 1 (1+k)).data.toList;rw[aa,A]at i;have y:2^(8*k)<=2^(8*8):=yp (by omega) (by omega);exact zU i y
 rw[n,z]at j;clear n z r o A;generalize lK (s.extract 1 (1+k)).data.toList=N at*;by_cases i:N<=55
 ·have c:Hid (hd s false false=(false,0,0,3)):=za (by rw[b,zi (.inr i)]);clear b;go_enter yr,yn
  go_wp2_with fail
  refine j.out.mono ?_;rintro e w' ⟨rfl,rfl⟩;go_wp2;refine zk (v:= .tuple #[.bool false,.int .i64 (0:Int),.int .i64 (0:Int),.int .i64 3]) (by simp[results,ye,go_sem]) rfl ?_;rw[c.out];exact⟨rfl,rfl⟩
 rw[zh (fun h=>h.elim q i)]at b;by_cases y:s.size<N
 ·have c:Hid (hd s false false=(false,0,0,2)):=za (by rw[b,zi (by omega)]);clear b;go_enter yr,yn
  go_wp2_with fail
  refine j.out.mono ?_;rintro e w' ⟨rfl,rfl⟩;go_wp2;refine zk (v:= .tuple #[.bool false,.int .i64 (0:Int),.int .i64 (0:Int),.int .i64 2]) (by simp[results,ye,go_sem]) rfl ?_;rw[c.out];exact⟨rfl,rfl⟩
 by_cases B:s.size<1+k+N
 ·have c:Hid (hd s false false=(false,0,0,2)):=za (by rw[b,zi B]);clear b;go_enter yr,yn
  go_wp2_with fail
  refine j.out.mono ?_;rintro e w' ⟨rfl,rfl⟩;go_wp2;refine zk (v:= .tuple #[.bool false,.int .i64 (0:Int),.int .i64 (0:Int),.int .i64 2]) (by simp[results,ye,go_sem]) rfl ?_;rw[c.out];exact⟨rfl,rfl⟩
 have c:Hid (hd s false false=(false,1+k,N,0)):=za (by rw[b,zh B]);have R:((N:Int)==1)=false:=by simp;omega
 clear b;go_enter yr,yn
 go_wp2_with fail
 refine j.out.mono ?_;rintro e w' ⟨rfl,rfl⟩;go_wp2;refine zk (v:= .tuple #[.bool false,.int .i64 ((1+k:Nat):Int),.int .i64 (N:Int),.int .i64 0]) (by simp[results,ye,go_sem]<;>omega) rfl ?_;rw[c.out];exact⟨rfl,rfl⟩
theorem n7 (g j:Nat)(s:ByteArray)(p L most:Nat)(k:Int)(w:World)(h:jy w g s p L)(i:af w j 203 #[.pointer (some ⟨g,0,none⟩)])(A:p<=s.size)(z:s.size<=100000)(B:most<=65536):
 Calls prog 185 #[.int .i64 k,.int .i64 most,.pointer (some ⟨j,0,none⟩)] w fun e w'=>∃(n:Nat) (ok:Bool) (q:Nat),e= .returned (.tuple #[.agg #[.int .i64 k,.int .i64 n,.slice none 0 0,.int .i64 0],.bool ok])/\jy w' g s q L/\ae [g] w w'/\oH most s p n ok q:=by
 have S:w.cell? ⟨j,0,none⟩=some (.pointer (some ⟨g,0,none⟩)):=i.cell 0;have N:=i.lt;have U:g<w.heap.size:=af.lt (show af w g _ _ from h);have E:=za (I0 g s p L most (w.alloc (.cells #[.int .i64 0,.int .i64 0,.slice none 0 0,.int .i64 0] 43)) (af.alloc (show af w g _ _ from h) _) A z B);clear h i;go_enter func185,ntmps185
 go_wp2_with fail
 refine E.out.mono ?_;rintro e u ⟨n,ok,q,rfl,y,d,l⟩;have b:=(af.new w 43 #[.int .i64 0,.int .i64 0,.slice none 0 0,.int .i64 0]).only d (by simp;omega);have C:=za y;have F:Hid (ae [g] w u):=za (((ae.refl [g] w).alloc _).trans d);have D:=za l;obtain⟨J,O,G,M,K,R,H,I⟩:=aN b;have hz:=((((b.set 0 (.int .i64 k)).set 1 (.int .i64 n)).set 2 (.slice none 0 0)).set 3 (.int .i64 0))
 have m:=(b.set 0 (.int .i64 k)).cell 0;have r:=((b.set 0 (.int .i64 k)).set 1 (.int .i64 n)).cell 1;have x:=(((b.set 0 (.int .i64 k)).set 1 (.int .i64 n)).set 2 (.slice none 0 0)).cell 2;have o:=hz.cell 3;simp at m r x o;clear y d l b hz;go_wp2;refine zk (v:= .tuple #[.agg #[.int .i64 k,.int .i64 n,.slice none 0 0,.int .i64 0],.bool ok]) (by simp[results,results185,go_sem,m,r,x,o]) rfl ?_;have c:g≠w.heap.size:=by omega
 refine⟨n,ok,q,rfl, ?_,(((F.out.setCell (by simp) _).setCell (by simp) _).setCell (by simp) _).setCell (by simp) _,D.out⟩;exact(((af.dS (show af u g _ _ from C.out) (p:=⟨w.heap.size,0,none⟩) c _).dS (p:=⟨w.heap.size,1,none⟩) c _).dS (p:=⟨w.heap.size,2,none⟩) c _).dS (p:=⟨w.heap.size,3,none⟩) c _
def ky (w:World)(g:Nat)(s:ByteArray)(f L p:Nat)(e:Ending)(w':World):Prop:=
 ∃(t:Ty) (ok:Bool) (q L':Nat) (k z ta:Int) (A:Option Addr) (n cap:Nat),e= .returned (.tuple #[.agg #[.int .i64 k,.int .i64 z,.slice A n cap,.int .i64 ta],.bool ok])/\jy w' g s q L'/\ae [g] w w'/\L'<=L/\tE f L s p t ok q L'/\(ok=true->fE w' (w.heap.size<= ·) t (.int .i64 k) (.int .i64 z) (.slice A n cap) (.int .i64 ta))
structure sZ (w:World)(g:Nat)(s:ByteArray)(p L:Nat)(V:World):Prop where
 box:af V w.heap.size 203 #[.pointer (some ⟨g,0,none⟩)]
 res:af V (w.heap.size+1) 43 #[.int .i64 0,.int .i64 0,.slice none 0 0,.int .i64 0]
 rd:jy V g s p L
 only:ae [g] w V
 siz:w.heap.size+2<=V.heap.size
 glt:g<w.heap.size
theorem sZ.start (h:jy w g s p L):sZ w g s p L ((w.alloc (.cells #[.pointer (some ⟨g,0,none⟩)] 203)).alloc (.cells #[.int .i64 0,.int .i64 0,.slice none 0 0,.int .i64 0] 43)) where
 box:=(af.new w _ _).alloc _
 res:=af.at_ (by simp)
 rd:=(af.alloc (show af w g _ _ from h) _).alloc _
 only:=((ae.refl _ w).alloc _).alloc _
 siz:=by simp
 glt:=af.lt (show af w g _ _ from h)
theorem sZ.dJ (h:sZ w g s p L V)(b:ae [g] V V')(c:jy V' g s p' L'):sZ w g s p' L' V' where
 box:=h.box.only b (by have:=h.glt;simp;omega)
 res:=h.res.only b (by have:=h.glt;simp;omega)
 rd:=c
 only:=h.only.trans b
 siz:=zK h.siz b.size
 glt:=h.glt
theorem sZ.below (h:sZ w g s p L V)(b:Below V.heap.size V V'):sZ w g s p L V':=h.dJ ((ae.ah b (zg _)).mono (by simp)) ((b.block _ (af.lt (show af V g _ _ from h.rd))).trans h.rd)
theorem sZ.ends (h:sZ w g s p L V)(b c d e:Value):
 jy ((((V.setCell ⟨w.heap.size+1,0,none⟩ b).setCell ⟨w.heap.size+1,1,none⟩ c).setCell ⟨w.heap.size+1,2,none⟩ d).setCell ⟨w.heap.size+1,3,none⟩ e) g s p L/\ae [g] w ((((V.setCell ⟨w.heap.size+1,0,none⟩ b).setCell ⟨w.heap.size+1,1,none⟩ c).setCell ⟨w.heap.size+1,2,none⟩ d).setCell ⟨w.heap.size+1,3,none⟩ e)/\
 (V.setCell ⟨w.heap.size+1,0,none⟩ b).cell? ⟨w.heap.size+1,0,none⟩=some b/\((V.setCell ⟨w.heap.size+1,0,none⟩ b).setCell ⟨w.heap.size+1,1,none⟩ c).cell? ⟨w.heap.size+1,1,none⟩=some c/\(((V.setCell ⟨w.heap.size+1,0,none⟩ b).setCell ⟨w.heap.size+1,1,none⟩ c).setCell ⟨w.heap.size+1,2,none⟩ d).cell? ⟨w.heap.size+1,2,none⟩=some d/\((((V.setCell ⟨w.heap.size+1,0,none⟩ b).setCell ⟨w.heap.size+1,1,none⟩ c).setCell ⟨w.heap.size+1,2,none⟩ d).setCell ⟨w.heap.size+1,3,none⟩ e).cell? ⟨w.heap.size+1,3,none⟩=some e:=
 have n1:g≠w.heap.size+1:=by have:=h.glt;omega
 ⟨(((af.dS (show af V g _ _ from h.rd) (p:=⟨w.heap.size+1,0,none⟩) n1 _).dS (p:=⟨w.heap.size+1,1,none⟩) n1 _).dS (p:=⟨w.heap.size+1,2,none⟩) n1 _).dS (p:=⟨w.heap.size+1,3,none⟩) n1 _,(((h.only.setCell (by simp) _).setCell (by simp) _).setCell (by simp) _).setCell (by simp) _,by have:=(h.res.set 0 b).cell 0;simpa using this,by have:=((h.res.set 0 b).set 1 c).cell 1;simpa using this,by have:=(((h.res.set 0 b).set 1 c).set 2 d).cell 2;simpa using this,by have:=((((h.res.set 0 b).set 1 c).set 2 d).set 3 e).cell 3;simpa using this⟩
theorem sZ.step {W:World}(h:sZ w g s p L W)(a b:Int)(n1 n2:Nat)(c:a=L')(i:b=p'):sZ w g s p' L' ((((W.drewN n1).setCell ⟨g,2,none⟩ (.int .i64 a)).drewN n2).setCell ⟨g,1,none⟩ (.int .i64 b)):=by
 have e:jy (W.drewN n1) g s p L:=h.rd;have d:jy (((W.drewN n1).setCell ⟨g,2,none⟩ (.int .i64 a)).drewN n2) g s p L':=e.less c;exact h.dJ (((((ae.refl [g] W).drewN n1).setCell (p:=⟨g,2,none⟩) (by simp) _).drewN n2).setCell (p:=⟨g,1,none⟩) (by simp) _) (d.to i)
theorem qJ {c:UInt8}(d:p<s.size)(b:s[p].toNat=c.toNat):s.data.toList.drop p=c::s.data.toList.drop (p+1):=by
 rw[drop_cons s p d,zQ.1 b]
theorem Qt {k:Int}{most:Nat}{ok:Bool}(o:0<L)(e:aL (f+1) (s.data.toList.drop p)=tD k (cx (s.data.toList.drop (p+1))))(j:(∀c r,cx (s.data.toList.drop (p+1))=some (c,r)->most<c)->∀(L:Nat) (t:Ty) (r:List UInt8),tD k (cx (s.data.toList.drop (p+1)))=some (t,r)->ei L t)(h:oH most s (p+1) n ok q):tE (f+1) L s p (.mk k n [] 0) ok q (L-1):=by
 refine⟨fun b=> ?_,fun b l r d=> ?_,h.2.2.1⟩
 ·obtain⟨i,m,u⟩:=h.1 b;exact⟨by rw[e,i];rfl,by simp[Ty.count,ba];omega,by omega⟩
 rw[e]at d;exact j (h.2.1 b) L l r d
theorem Qu (f d:Nat)(hd:d<=8)(g:Nat)(s:ByteArray)(p L:Nat)(w:World)(h:jy w g s p L)(C:p<s.size)(J:s.size<=100000)(B:0<L)(K:L<=64)(G:s[p].toNat=98):
 Calls prog 157 #[.pointer (some ⟨g,0,none⟩),.int .i64 d] w fun e w'=>ky w g s (f+1) L p e w':=by
 have A:Hid (aL (f+1) (s.data.toList.drop p)=tD 2 (cx (s.data.toList.drop (p+1)))):=za (by rw[qJ (c:=98) C G,Kv]);have i:=za (sZ.start h);generalize Y:((w.alloc (.cells #[.pointer (some ⟨g,0,none⟩)] 203)).alloc (.cells #[.int .i64 0,.int .i64 0,.slice none 0 0,.int .i64 0] 43))=W at*;obtain⟨g0,g1,g2,f0,f1,f2,pH⟩:=i.out.rd.cells;have M:W.cell? ⟨w.heap.size,0,none⟩=some (.pointer (some ⟨g,0,none⟩)):=i.out.box.cell 0;have N:decide ((8:Int)<(d:Int))=false:=zu (by omega);have R:((L:Int)==0)=false:=zm.2 (by omega);have O:((p:Int)==(s.size:Int))=false:=zm.2 (by omega);have U:IntKind.i64.wrap ((L:Int)-1)=(L:Int)-1:=yc _ (by omega);clear h;go_enter xQ,xI
 go_wp2_with fail
 go_quiet (fail)
 obtain⟨j,rfl⟩:∃j,j=nq:=⟨nq,rfl⟩
 go_wp2_with fail
 go_quiet (fail)
 have b:=za (i.out.step ((L:Int)-1) ((p:Int)+1) j nq (L':=L-1) (p':=p+1) (by omega) (by omega));go_wp2_with fail
 refine(n7 g w.heap.size s (p+1) (L-1) 65536 2 _ b.out.rd b.out.box (by omega) J (by omega)).mono ?_;rintro e Z ⟨n,ok,q,rfl,x,r,k⟩;have m:=za (b.out.dJ r x);have u:=za k;clear x r k;obtain⟨S,n1,n2,X,m0,m1,m2,m3⟩:=aN m.out.res;obtain⟨l,o,I,F,H,E⟩:=m.out.ends (.int .i64 2) (.int .i64 n) (.slice none 0 0) (.int .i64 0);have D:=za l;have z:=za o;clear l o;go_wp2;refine zk (v:= .tuple #[.agg #[.int .i64 2,.int .i64 n,.slice none 0 0,.int .i64 0],.bool ok]) (by simp[results,yw,go_sem,I,F,H,E]) rfl ?_;exact⟨.mk 2 n [] 0,ok,q,L-1,_,_,_,_,_,_,rfl,D.out,z.out,by omega,Qt B A.out ab7 u.out,fun y=>fE.leaf (aD (by omega) (by omega)) (aD (by omega) (by have:=(u.out.1 y).2.1;omega)) (aD (by omega) (by omega))⟩
theorem Qv (f d:Nat)(hd:d<=8)(g:Nat)(s:ByteArray)(p L:Nat)(w:World)(h:jy w g s p L)(C:p<s.size)(J:s.size<=100000)(B:0<L)(K:L<=64)(G:s[p].toNat=115):
 Calls prog 157 #[.pointer (some ⟨g,0,none⟩),.int .i64 d] w fun e w'=>ky w g s (f+1) L p e w':=by
 have A:Hid (aL (f+1) (s.data.toList.drop p)=tD 3 (cx (s.data.toList.drop (p+1)))):=za (by rw[qJ (c:=115) C G,Kw]);have i:=za (sZ.start h);generalize Y:((w.alloc (.cells #[.pointer (some ⟨g,0,none⟩)] 203)).alloc (.cells #[.int .i64 0,.int .i64 0,.slice none 0 0,.int .i64 0] 43))=W at*;obtain⟨g0,g1,g2,f0,f1,f2,pH⟩:=i.out.rd.cells;have M:W.cell? ⟨w.heap.size,0,none⟩=some (.pointer (some ⟨g,0,none⟩)):=i.out.box.cell 0;have N:decide ((8:Int)<(d:Int))=false:=zu (by omega);have R:((L:Int)==0)=false:=zm.2 (by omega);have O:((p:Int)==(s.size:Int))=false:=zm.2 (by omega);have U:IntKind.i64.wrap ((L:Int)-1)=(L:Int)-1:=yc _ (by omega);clear h;go_enter xQ,xI
 go_wp2_with fail
 go_quiet (fail)
 obtain⟨j,rfl⟩:∃j,j=nq:=⟨nq,rfl⟩
 go_wp2_with fail
 go_quiet (fail)
 have b:=za (i.out.step ((L:Int)-1) ((p:Int)+1) j nq (L':=L-1) (p':=p+1) (by omega) (by omega));go_wp2_with fail
 refine(n7 g w.heap.size s (p+1) (L-1) 65536 3 _ b.out.rd b.out.box (by omega) J (by omega)).mono ?_;rintro e Z ⟨n,ok,q,rfl,x,r,k⟩;have m:=za (b.out.dJ r x);have u:=za k;clear x r k;obtain⟨S,n1,n2,X,m0,m1,m2,m3⟩:=aN m.out.res;obtain⟨l,o,I,F,H,E⟩:=m.out.ends (.int .i64 3) (.int .i64 n) (.slice none 0 0) (.int .i64 0);have D:=za l;have z:=za o;clear l o;go_wp2;refine zk (v:= .tuple #[.agg #[.int .i64 3,.int .i64 n,.slice none 0 0,.int .i64 0],.bool ok]) (by simp[results,yw,go_sem,I,F,H,E]) rfl ?_;exact⟨.mk 3 n [] 0,ok,q,L-1,_,_,_,_,_,_,rfl,D.out,z.out,by omega,Qt B A.out ab8 u.out,fun y=>fE.leaf (aD (by omega) (by omega)) (aD (by omega) (by have:=(u.out.1 y).2.1;omega)) (aD (by omega) (by omega))⟩
theorem Nt (f d:Nat)(hd:d<=8)(g:Nat)(s:ByteArray)(p L:Nat)(w:World)(h:jy w g s p L)(y:p<s.size)(hs:s.size<=100000)(G:0<L)(E:L<=64)(o:s[p].toNat≠117)(i:s[p].toNat≠98)(m:s[p].toNat≠115)(n:s[p].toNat≠91)(k:s[p].toNat≠123):
 Calls prog 157 #[.pointer (some ⟨g,0,none⟩),.int .i64 d] w fun e w'=>ky w g s (f+1) L p e w':=by
 have J:((s[p].toNat:Int)==117)=false:=zm.2 (by omega);have K:((s[p].toNat:Int)==98)=false:=zm.2 (by omega);have O:((s[p].toNat:Int)==115)=false:=zm.2 (by omega);have U:((s[p].toNat:Int)==91)=false:=zm.2 (by omega);have H:((s[p].toNat:Int)==123)=false:=zm.2 (by omega);have x:Hid (aL (f+1) (s.data.toList.drop p)=none):=za (by rw[drop_cons s p y];exact EP f _ _ o i m n k);clear o i m n k;have b:=za (sZ.start h);generalize Z:((w.alloc (.cells #[.pointer (some ⟨g,0,none⟩)] 203)).alloc (.cells #[.int .i64 0,.int .i64 0,.slice none 0 0,.int .i64 0] 43))=W at*;obtain⟨g0,g1,g2,f0,f1,f2,pH⟩:=b.out.rd.cells;have F:W.cell? ⟨w.heap.size,0,none⟩=some (.pointer (some ⟨g,0,none⟩)):=b.out.box.cell 0;have Aq:=b.out.glt;have I:decide ((8:Int)<(d:Int))=false:=zu (by omega);have N:((L:Int)==0)=false:=zm.2 (by omega);have M:((p:Int)==(s.size:Int))=false:=zm.2 (by omega);have S:IntKind.i64.wrap ((L:Int)-1)=(L:Int)-1:=yc _ (by omega);clear h;go_enter xQ,xI
 go_wp2_with fail
 go_quiet (fail)
 obtain⟨c,rfl⟩:∃c,c=nq:=⟨nq,rfl⟩
 go_wp2_with fail
 go_quiet (fail)
 have q:=za (b.out.step ((L:Int)-1) ((p:Int)+1) c nq (L':=L-1) (p':=p+1) (by omega) (by omega));obtain⟨R,n1,n2,Y,m0,m1,m2,m3⟩:=aN b.out.res;obtain⟨j,l,D,B,C,A⟩:=q.out.ends (.int .i64 0) (.int .i64 0) (.slice none 0 0) (.int .i64 0);have z:=za j;have u:=za l;clear j l;go_wp2;refine zk (v:= .tuple #[.agg #[.int .i64 0,.int .i64 0,.slice none 0 0,.int .i64 0],.bool false]) (by simp[results,yw,go_sem,D,B,C,A]) rfl ?_;exact⟨.mk 0 0 [] 0,false,p+1,L-1,_,_,_,_,_,_,rfl,z.out,u.out,by omega,⟨(by intro h;cases h),(by intro _ X r h;rw[x.out]at h;cases h),by omega⟩,(by intro h;cases h)⟩
theorem XE {ok:Bool}(m:0<L)(e:aL (f+1) (s.data.toList.drop p)=AH (cx (s.data.toList.drop (p+1))))(h:oH 64 s (p+1) n ok q):tE (f+1) L s p (.mk 1 ((n/8:Nat):Int) [] 0) (ok&&decide (n%8=0)) q (L-1):=by
 refine⟨fun b=> ?_,fun b j r c=> ?_,h.2.2.1⟩
 ·simp only[zz,zY]at b;obtain⟨d,i,k⟩:=h.1 b.1;exact⟨by rw[e,d,AH,zi b.2],by simp[Ty.count,ba];omega,by omega⟩
 rw[e]at c;cases ok with
 |false=>exact ab6 (h.2.1 rfl) L j r c
 |true=>
  obtain⟨d,i,k⟩:=h.1 rfl;have l:¬n%8=0:=by simpa using b
  rw[d,AH,zh l]at c;cases c
theorem Qw (f d:Nat)(hd:d<=8)(g:Nat)(s:ByteArray)(p L:Nat)(w:World)(h:jy w g s p L)(J:p<s.size)(O:s.size<=100000)(I:0<L)(R:L<=64)(M:s[p].toNat=117):
 Calls prog 157 #[.pointer (some ⟨g,0,none⟩),.int .i64 d] w fun e w'=>ky w g s (f+1) L p e w':=by
 have H:Hid (aL (f+1) (s.data.toList.drop p)=AH (cx (s.data.toList.drop (p+1)))):=za (by rw[qJ (c:=117) J M,Ku]);have B:=za (sZ.start h);generalize hW:((w.alloc (.cells #[.pointer (some ⟨g,0,none⟩)] 203)).alloc (.cells #[.int .i64 0,.int .i64 0,.slice none 0 0,.int .i64 0] 43))=W at*;obtain⟨g0,g1,g2,f0,f1,f2,pH⟩:=B.out.rd.cells;have S:W.cell? ⟨w.heap.size,0,none⟩=some (.pointer (some ⟨g,0,none⟩)):=B.out.box.cell 0;have Y:decide ((8:Int)<(d:Int))=false:=zu (by omega);have dL:((L:Int)==0)=false:=zm.2 (by omega);have Z:((p:Int)==(s.size:Int))=false:=zm.2 (by omega);have ew:IntKind.i64.wrap ((L:Int)-1)=(L:Int)-1:=yc _ (by omega);clear h;go_enter xQ,xI
 go_wp2_with fail
 go_quiet (fail)
 obtain⟨C,rfl⟩:∃C,C=nq:=⟨nq,rfl⟩
 go_wp2_with fail
 go_quiet (fail)
 have z:=za (B.out.step ((L:Int)-1) ((p:Int)+1) C nq (L':=L-1) (p':=p+1) (by omega) (by omega));go_wp2_with fail
 refine(n7 g w.heap.size s (p+1) (L-1) 64 1 _ z.out.rd z.out.box (by omega) O (by omega)).mono ?_;rintro e N ⟨n,ok,q,rfl,G,D,x⟩;have u:=za (z.out.dJ D G);have DO:=za x;obtain⟨b,F⟩:∃b,n/8=b:=⟨_,rfl⟩
 have U:(n:Int)/8=b:=by omega
 have k:=za (XE I H.out x);rw[F]at k;have X:b<=8:=by have:=x.2.2.2;omega
 clear G D x F;obtain⟨n0,n1,n2,n3,m0,m1,m2,m3⟩:=aN u.out.res;have YA:=u.out.siz;have y:w.heap.size+1<N.heap.size:=by omega
 by_cases E:n%8=0
 ·have K:((n:Int)%8==0)=true:=yQ.2 (by omega);rw[zD E,Zg]at k;cases ok with
  |true=>
   go_wp2;obtain⟨j,i,r,m,o,l⟩:=u.out.ends (.int .i64 1) (.int .i64 b) (.slice none 0 0) (.int .i64 0);refine zk (v:= .tuple #[.agg #[.int .i64 1,.int .i64 b,.slice none 0 0,.int .i64 0],.bool true]) (by simp[results,yw,go_sem,r,m,o,l,zA,y]) rfl ?_;exact⟨.mk 1 b [] 0,true,q,L-1,_,_,_,_,_,_,rfl,af.alloc (show af _ g _ _ from j) _,i.alloc _,by omega,k.out,fun A=>fE.leaf (aD (by omega) (by omega)) (aD (by omega) (by omega)) (aD (by omega) (by omega))⟩
  |false=>
   go_wp2;obtain⟨j,i,r,m,o,l⟩:=u.out.ends (.int .i64 1) (.int .i64 b) (.slice none 0 0) (.int .i64 0);refine zk (v:= .tuple #[.agg #[.int .i64 1,.int .i64 b,.slice none 0 0,.int .i64 0],.bool false]) (by simp[results,yw,go_sem,r,m,o,l,zA,y]) rfl ?_;exact⟨.mk 1 b [] 0,false,q,L-1,_,_,_,_,_,_,rfl,af.alloc (show af _ g _ _ from j) _,i.alloc _,by omega,k.out,fun A=>fE.leaf (aD (by omega) (by omega)) (aD (by omega) (by omega)) (aD (by omega) (by omega))⟩
 have K:((n:Int)%8==0)=false:=zm.2 (by omega);rw[zu E,Bool.and_false]at k;cases ok with
 |true=>
  go_wp2;obtain⟨j,i,r,m,o,l⟩:=u.out.ends (.int .i64 1) (.int .i64 b) (.slice none 0 0) (.int .i64 0);refine zk (v:= .tuple #[.agg #[.int .i64 1,.int .i64 b,.slice none 0 0,.int .i64 0],.bool false]) (by simp[results,yw,go_sem,r,m,o,l,zA,y]) rfl ?_;exact⟨.mk 1 b [] 0,false,q,L-1,_,_,_,_,_,_,rfl,af.alloc (show af _ g _ _ from j) _,i.alloc _,by omega,k.out,fun A=>fE.leaf (aD (by omega) (by omega)) (aD (by omega) (by omega)) (aD (by omega) (by omega))⟩
 |false=>
  go_wp2;obtain⟨j,i,r,m,o,l⟩:=u.out.ends (.int .i64 1) (.int .i64 b) (.slice none 0 0) (.int .i64 0);refine zk (v:= .tuple #[.agg #[.int .i64 1,.int .i64 b,.slice none 0 0,.int .i64 0],.bool false]) (by simp[results,yw,go_sem,r,m,o,l,zA,y]) rfl ?_;exact⟨.mk 1 b [] 0,false,q,L-1,_,_,_,_,_,_,rfl,af.alloc (show af _ g _ _ from j) _,i.alloc _,by omega,k.out,fun A=>fE.leaf (aD (by omega) (by omega)) (aD (by omega) (by omega)) (aD (by omega) (by omega))⟩
theorem Jd {o:Option (Ty×List UInt8)}{r:List UInt8}(h:uX o=some (t,r)):∃x b,o=some (x,b)/\gL x b=some (t,r):=by
 match o,h with
 |some (x,b),h=>exact⟨x,b,rfl,h⟩
theorem Je {c:Nat}(m:0<L)(j:aL (f+1) (s.data.toList.drop p)=uX (aL f (s.data.toList.drop (p+1))))(h:tE f (L-1) s (p+1) x false q d)(k:c<=s.size):tE (f+1) L s p y false c d:=by
 refine⟨(by intro h;cases h),fun _ o r b=> ?_,k⟩;rw[j]at b;obtain⟨z,l,e,i⟩:=Jd b;obtain⟨n,rfl⟩:=ME i;have:=(h.2.1 rfl z l e).list n;rwa [show 1+(L-1)=L from by omega]at this
theorem po (k:aL (f+1) (s.data.toList.drop p)=uX (aL f (s.data.toList.drop (p+1))))(h:tE f (L-1) s (p+1) x true q i)(e:∀b r,gL x (s.data.toList.drop q)=some (b,r)->ei L b)(l:d<=s.size):tE (f+1) L s p y false d j:=by
 refine⟨(by intro h;cases h),fun _ b r c=> ?_,l⟩;rw[k,(h.1 rfl).1]at c;exact e b r c
theorem Jf {c:Nat}{b:Nat}(k:0<L)(i:aL (f+1) (s.data.toList.drop p)=uX (aL f (s.data.toList.drop (p+1))))(h:tE f (L-1) s (p+1) x true q c)(e:gL x (s.data.toList.drop q)=some (.mk 4 n [x] 0,s.data.toList.drop b))(o:q<b)(j:b<=s.size):tE (f+1) L s p (.mk 4 n [x] 0) true b c:=by
 obtain⟨d,l,m⟩:=h.1 rfl;refine⟨fun _=>⟨by rw[i,d];exact e, ?_,by omega⟩,(by intro h;cases h),j⟩;simp only[Ty.count,ba];omega
theorem Qx (x:Ty)(h:∀b:q<s.size,s[q].toNat≠58)(L:Nat):∀d r,gL x (s.data.toList.drop q)=some (d,r)->ei L d:=by
 intro d r c;by_cases b:q<s.size
 ·rw[drop_cons s q b,uY x _ _ (h b)]at c;cases c
 rw[zI (by simpa using b)]at c;cases c
theorem tail_at (x:Ty)(b:q<s.size)(h:s[q].toNat=58):gL x (s.data.toList.drop q)=iX x (cx (s.data.toList.drop (q+1))):=by
 rw[drop_cons s q b,show s[q]=58 from zQ.1 h,mU]
theorem Qy (x:Ty)(e:q<s.size)(h:s[q].toNat=58)(d:oH 1024 s (q+1) n false i)(L:Nat):∀b r,gL x (s.data.toList.drop q)=some (b,r)->ei L b:=by
 intro b r c;rw[tail_at x e h]at c;exact MD (d.2.1 rfl) L x b r c
theorem Nu {c:Nat}(x:Ty)(j:q<s.size)(h:s[q].toNat=58)(k:oH 1024 s (q+1) n true c)(l:∀j:c<s.size,s[c].toNat≠93)(L:Nat):∀e r,gL x (s.data.toList.drop q)=some (e,r)->ei L e:=by
 intro e r b;rw[tail_at x j h,(k.1 rfl).1]at b;by_cases d:c<s.size
 ·rw[drop_cons s c d,iX]at b;split at b
  ·rename_i i
   exact absurd (by first|exact i|simpa using i|(rw[i];rfl)) (l d)
  cases b
 rw[zI (by simpa using d)]at b;cases b
theorem Qz {b:Nat}(x:Ty)(i:q<s.size)(h:s[q].toNat=58)(d:oH 1024 s (q+1) n true b)(e:b<s.size)(c:s[b].toNat=93):gL x (s.data.toList.drop q)=some (.mk 4 n [x] 0,s.data.toList.drop (b+1)):=by
 rw[tail_at x i h,(d.1 rfl).1,drop_cons s b e,iX,zi (by first|exact c|exact zQ.1 c)]
theorem Cb (f:Nat)(h:s.size<=q):aL f (s.data.toList.drop q)=none:=by
 rw[zI (by simpa using h)];cases f<;>rfl
theorem rD.gone {R:Option (Ty×List UInt8)}{b:Nat}(d:R=none)(h:s.size<=q):rD f s R q acc b:=by
 refine⟨0, ?_,by rw[zI (by simpa using h)];simp⟩;subst d;have hi:=Cb f h;rw[zI (by simpa using h)]at hi⊢;by_cases c:0<b
 ·simp[tQ,c]
 simp[tQ,c,hi]
theorem Jg {R:Option (Ty×List UInt8)}(h:eT f s R p [] 0)(c:∀b:p<s.size,s[p].toNat≠125):rD f s R p [] 0:=by
 by_cases b:p<s.size
 ·exact h.first b (c b)
 exact rD.gone (h.stop (by omega)) (by omega)
theorem Cc {R:Option (Ty×List UInt8)}(h:eT f s R p acc e)(i:acc≠ [])(c:∀b:p<s.size,s[p].toNat≠125)(d:∀b:p<s.size,s[p].toNat≠44):R=none:=by
 by_cases b:p<s.size
 ·exact h.bad b (c b) (d b) i
 exact h.stop (by omega)
theorem K8 {R:Option (Ty×List UInt8)}{b:Nat}(h:Po f s R q acc e)(j:q<=s.size)(d:tE f L s q y true b L'):eT f s R b (acc++ [y]) e:=by
 obtain⟨i,_,_⟩:=d.1 rfl;have c:=(h.some j i).1;rw[zS,aa,show s.size-(s.size-b)=b from by have:=d.2.2;omega]at c;exact c
theorem s0 (acc:List Ty)(y:Ty):ba (acc++ [y])=ba acc+y.count:=by simp[fN,ba]
theorem Jh {c:Nat}{R:Option (Ty×List UInt8)}{b:Nat}(d:R=some (.mk 5 0 acc b,s.data.toList.drop q))(i:L+ba acc=c)(e:q<=s.size):Pq (1+c) s R (.mk 5 0 acc b) true q L:=
 ⟨fun _=>⟨d,by simp[Ty.count];omega⟩,(by intro h;cases h),e⟩
theorem Dg {R:Option (Ty×List UInt8)}(t:Ty)(b:R=none)(c:q<=s.size):Pq d s R t false q L:=
 ⟨(by intro h;cases h),(by intro _ e r h;rw[b]at h;cases h),c⟩
theorem QA {b:Nat}{R:Option (Ty×List UInt8)}{c:Nat}(t:Ty)(h:Po f s R q acc i)(d:tE f L s q y false c L')(l:L+ba acc=b):Pq (1+b) s R t false c j:=by
 refine⟨(by intro h;cases h),fun _ k r e=> ?_,d.2.2⟩;have:=Tw h (d.2.1 rfl) k r e;rwa [show 1+ba acc+L=1+b from by omega]at this
theorem QB (d:p<s.size)(b:s[p].toNat=123):eT f s (aL (f+1) (s.data.toList.drop p)) (p+1) [] 0:=
 ⟨_,by rw[qJ (c:=123) d b,Ky],by omega⟩
theorem aci {ok:Bool}(h:Pq L s (aL f (s.data.toList.drop p)) t ok q L'):tE f L s p t ok q L':=by
 refine⟨fun d=> ?_,h.2.1,h.2.2⟩;obtain⟨b,e⟩:=h.1 d;have c:=(gu _ _ _ _ b).2;simp only[zS,aa]at c;exact⟨b,e,by have:=h.2.2;omega⟩
theorem s5 (s:ByteArray)(k:Nat)(h:k<=s.size):s.size-(s.data.toList.drop k).length=k:=by rw[zS,aa];omega
theorem Dh (x:Int)(c: -9223372036854775808<=x)(b:x<=9223372036854775807):wrap64 x=x:=by unfold wrap64;omega
theorem QC (m b:Nat)(h:m<1000000)(d:48<=b)(c:b<=57):wrap64 (wrap64 (wrap64 (10*(m:Int))+wrap64 (b:Int))-48)=((10*m+(b-48):Nat):Int):=by
 rw[Dh (10*(m:Int)) (by omega) (by omega),Dh (b:Int) (by omega) (by omega),Dh (10*(m:Int)+b) (by omega) (by omega),Dh _ (by omega) (by omega)];omega
def eC (s:ByteArray):Option (Nat×List UInt8)->Ending
 |none=> .returned (.tuple #[.int .i64 0,.int .i64 (-1)])
 |some (n,r)=> .returned (.tuple #[.int .i64 n,.int .i64 ((s.size-r.length:Nat):Int)])
theorem pr (s:ByteArray)(at_:Nat)(w:World)(L:at_<=s.size)(O:s.size<=100000):
 Calls prog 52 #[.string s,.int .i64 at_] w fun e w'=>e=eC s (cx (s.data.toList.drop at_))/\w=w':=by
 obtain⟨R,d⟩:∃R,Hid (eC s (cx (s.data.toList.drop at_))=R):=⟨_,za rfl⟩
 rw[d.out];go_enter func52,ntmps52
 go_wp2_with fail
 go_loop [6,1] (fun n i=>∃k m:Nat,at_<=k/\k<=s.size/\m<=10000100/\Hid (k7 s at_ k m)/\n= .int .i64 m/\i= .int .i64 k) (fun _ i=>s.size-(intOf i).toNat)
 case atStart=>exact⟨at_,0,by omega,L,by omega,za (k7.start s at_),rfl,rfl⟩
 case round=>
  obtain⟨k,m,N,p,x,hrel,rfl,rfl⟩:=hrel;by_cases B:k<s.size
  ·by_cases y:48<=s[k].toNat
   ·by_cases r:s[k].toNat<=57
    ·have E:=za (hrel.out.next B ((k6 _).2 ⟨y,r⟩));have z:=za (uZ m s[k] x r);have C:decide ((48:Int)<=(s[k].toNat:Int))=true:=zD (by omega);have o:decide ((s[k].toNat:Int)<=57)=true:=zD (by omega);have K:=za y;have M:=za r;clear y r;by_cases q:m<1000000
     ·have u:Hid (fw m s[k]=10*m+(s[k].toNat-48)):=za (by simp[fw,q]);have G:decide ((m:Int)<1000000)=true:=zD (by omega);have I:=za q;clear q x;go_wp2_with fail
      go_round
      case rel=>exact⟨k+1,fw m s[k],by omega,by omega,z.out,E,by rw[u.out];have H:=K.out;have F:=M.out;have J:=I.out;rw[QC m s[k].toNat J H F],by go_num⟩
      case measure=>simp[intOf];omega
     have u:Hid (fw m s[k]=m):=za (by simp[fw,q]);have G:decide ((m:Int)<1000000)=false:=zu (by omega);clear q x;go_wp2_with fail
     go_round
     case rel=>exact⟨k+1,fw m s[k],by omega,by omega,z.out,E,by rw[u.out],by go_num⟩
     case measure=>simp[intOf];omega
    have j:Hid (∀h:k<s.size,je s[k]=false):=za (fun h=>by simp[je];omega);have C:decide ((s[k].toNat:Int)<=57)=false:=zu (by omega);rcases(show k=at_\/at_<k from by omega)with rfl|hak
    ·have b:Hid (R= .returned (.tuple #[.int .i64 0,.int .i64 (-1)])):=za (by rw[<-d.out,nT j.out];rfl);go_wp2;all_goals
      go_ret2
      exact⟨by rw[b.out];rfl,rfl⟩
    have D:at_<s.size:=(hrel.out.2 at_ (by omega) hak).1;have A:((k:Int)==(at_:Int))=false:=zm.2 (by omega);by_cases c:s[at_].toNat=48
    ·have o:((s[at_].toNat:Int)==48)=true:=by simp[c]
     by_cases l:at_+1<k
     ·have b:Hid (R= .returned (.tuple #[.int .i64 0,.int .i64 (-1)])):=za (by rw[<-d.out,nU hrel.out l (fun _=>c)];rfl);clear c;go_wp2;all_goals
       go_ret2
       exact⟨by rw[b.out];rfl,rfl⟩
     have b:Hid (R= .returned (.tuple #[.int .i64 m,.int .i64 k])):=za (by rw[<-d.out,kg hrel.out hak j.out (fun h=>absurd h l)];simp only[eC,s5 s k p]);clear c;go_wp2;all_goals
      go_ret2
      exact⟨by rw[b.out];rfl,rfl⟩
    have o:((s[at_].toNat:Int)==48)=false:=zm.2 (by omega);have b:Hid (R= .returned (.tuple #[.int .i64 m,.int .i64 k])):=za (by rw[<-d.out,kg hrel.out hak j.out (fun _ _=>c)];simp only[eC,s5 s k p]);clear c;go_wp2;all_goals
     go_ret2
     exact⟨by rw[b.out];rfl,rfl⟩
   have j:Hid (∀h:k<s.size,je s[k]=false):=za (fun h=>by simp[je];omega);have C:decide ((48:Int)<=(s[k].toNat:Int))=false:=zu (by omega);rcases(show k=at_\/at_<k from by omega)with rfl|hak
   ·have b:Hid (R= .returned (.tuple #[.int .i64 0,.int .i64 (-1)])):=za (by rw[<-d.out,nT j.out];rfl);go_wp2;all_goals
     go_ret2
     exact⟨by rw[b.out];rfl,rfl⟩
   have D:at_<s.size:=(hrel.out.2 at_ (by omega) hak).1;have A:((k:Int)==(at_:Int))=false:=zm.2 (by omega);by_cases c:s[at_].toNat=48
   ·have o:((s[at_].toNat:Int)==48)=true:=by simp[c]
    by_cases l:at_+1<k
    ·have b:Hid (R= .returned (.tuple #[.int .i64 0,.int .i64 (-1)])):=za (by rw[<-d.out,nU hrel.out l (fun _=>c)];rfl);clear c;go_wp2;all_goals
      go_ret2
      exact⟨by rw[b.out];rfl,rfl⟩
    have b:Hid (R= .returned (.tuple #[.int .i64 m,.int .i64 k])):=za (by rw[<-d.out,kg hrel.out hak j.out (fun h=>absurd h l)];simp only[eC,s5 s k p]);clear c;go_wp2;all_goals
     go_ret2
     exact⟨by rw[b.out];rfl,rfl⟩
   have o:((s[at_].toNat:Int)==48)=false:=zm.2 (by omega);have b:Hid (R= .returned (.tuple #[.int .i64 m,.int .i64 k])):=za (by rw[<-d.out,kg hrel.out hak j.out (fun _ _=>c)];simp only[eC,s5 s k p]);clear c;go_wp2;all_goals
    go_ret2
    exact⟨by rw[b.out];rfl,rfl⟩
  have j:Hid (∀h:k<s.size,je s[k]=false):=za (fun h=>absurd h B);rcases(show k=at_\/at_<k from by omega)with rfl|hak
  ·have b:Hid (R= .returned (.tuple #[.int .i64 0,.int .i64 (-1)])):=za (by rw[<-d.out,nT j.out];rfl);go_wp2;all_goals
    go_ret2
    exact⟨by rw[b.out];rfl,rfl⟩
  have D:at_<s.size:=(hrel.out.2 at_ (by omega) hak).1;have A:((k:Int)==(at_:Int))=false:=zm.2 (by omega);by_cases c:s[at_].toNat=48
  ·have o:((s[at_].toNat:Int)==48)=true:=by simp[c]
   by_cases l:at_+1<k
   ·have b:Hid (R= .returned (.tuple #[.int .i64 0,.int .i64 (-1)])):=za (by rw[<-d.out,nU hrel.out l (fun _=>c)];rfl);clear c;go_wp2;all_goals
     go_ret2
     exact⟨by rw[b.out];rfl,rfl⟩
   have b:Hid (R= .returned (.tuple #[.int .i64 m,.int .i64 k])):=za (by rw[<-d.out,kg hrel.out hak j.out (fun h=>absurd h l)];simp only[eC,s5 s k p]);clear c;go_wp2;all_goals
    go_ret2
    exact⟨by rw[b.out];rfl,rfl⟩
  have o:((s[at_].toNat:Int)==48)=false:=zm.2 (by omega);have b:Hid (R= .returned (.tuple #[.int .i64 m,.int .i64 k])):=za (by rw[<-d.out,kg hrel.out hak j.out (fun _ _=>c)];simp only[eC,s5 s k p]);clear c;go_wp2;all_goals
   go_ret2
   exact⟨by rw[b.out];rfl,rfl⟩
def mn (s:ByteArray)(w:World)(R:Option (Ty×List UInt8))(e:Ending)(w':World):Prop:=
 Below w.heap.size w w'/\match R with
  |none=>∃v0 v1:Int,e= .returned (.tuple #[.agg #[.int .i64 v0,.int .i64 v1,.slice none 0 0,.int .i64 0],.int .i64 (-1)])
  |some (x,r)=>∃c0 c1 c2 c3,e= .returned (.tuple #[.agg #[c0,c1,c2,c3],.int .i64 (s.size-r.length:Nat)])/\fE w' (w.heap.size<= ·) x c0 c1 c2 c3
theorem Cd (f:Nat):aL f []=none:=by cases f<;>rfl
theorem Di (X:World)(t:TypeId)(b:Array Value)(n:Nat)(h:X.heap.size=n):af (X.alloc (.cells b t)) n t b:=by subst h;exact af.new X t b
def bL (v0 v1:Int):Value:= .tuple #[.agg #[.int .i64 v0,.int .i64 v1,.slice none 0 0,.int .i64 0],.int .i64 (-1)]
