/- rlp.head tells hd. -/
import Derived.Test.YtdbmifjankgfpaaGreatDoorKA26
set_option linter.all false
set_option maxRecDepth 100000
set_option maxHeartbeats 4000000
open Go.Proofs.Tryz
namespace Go.Proofs.YtdbmifjankgfpaaGreatDoor
open Go.RowKit
variable {s:ByteArray}{q p L f n g L' d i p':Nat}{w V V':World}{acc:List Ty}{y x t:Ty}
def yi:=@results212
def yq:=@ntmps212
def yv:=@func212
def yx:=@results157
def xI:=@ntmps157
def xO:=@func157
def hdV (r:Bool×Nat×Nat×Int):Value:= .tuple #[.bool r.1,.int .i64 r.2.1,.int .i64 r.2.2.1,.int .i64 r.2.2.2]
theorem M5 (s:ByteArray)(d m:Bool)(w:World)(Y:s.size<=4611686018427387904):
 Calls prog 212 #[.string s,.bool d,.bool m] w fun e w'=>e= .returned (hdV (hd s d m))/\w=w':=by
 unfold hdV;rcases gq s with⟨hz,rfl⟩|⟨hz,X,W⟩
 ·have c:Hid (hd ⟨#[]⟩ d m=(false,0,0,2)):=za (by unfold hd;rw[zi (by simp[ByteArray.size])]);clear hz;go_enter yv,yq
  go_wp2;refine zj (v:= .tuple #[.bool false,.int .i64 (0:Int),.int .i64 (0:Int),.int .i64 2]) (by simp[results,yi,go_sem]) rfl ?_;rw[c.out];exact⟨rfl,rfl⟩
 have O:0<s.size:=by
  rcases Zi s.size with h|h
  ·exact absurd h (by first|exact hz|omega)
  exact h
 cases d with
 |true=>
  have c:Hid (hd s true m=(false,0,0,6)):=za (by unfold hd;rw[zh (by omega),zi rfl]);go_enter yv,yq
  go_wp2;refine zj (v:= .tuple #[.bool false,.int .i64 (0:Int),.int .i64 (0:Int),.int .i64 6]) (by simp[results,yi,go_sem]) rfl ?_;rw[c.out];exact⟨rfl,rfl⟩
 |false=>
 cases m with
 |true=>
  have c:Hid (hd s false true=(false,0,0,4)):=za (by unfold hd;rw[zh (by omega),zh (by simp),zi rfl]);go_enter yv,yq
  go_wp2;refine zj (v:= .tuple #[.bool false,.int .i64 (0:Int),.int .i64 (0:Int),.int .i64 4]) (by simp[results,yi,go_sem]) rfl ?_;rw[c.out];exact⟨rfl,rfl⟩
 |false=>
 have x:hd s false false=AG s:=by unfold hd;rw[zh (by omega),zh (by simp),zh (by simp)]
 have y:s.data.toList.getD 0 0=s[0]:=by rw[zw,gR s 0 O];rfl
 have U:=s[0].toNat_lt;by_cases D:s[0].toNat<128
 ·have c:Hid (hd s false false=(false,0,1,0)):=za (by rw[x];unfold AG;dsimp only;rw[y,zi D]);clear x;go_enter yv,yq
  go_wp2;refine zj (v:= .tuple #[.bool false,.int .i64 (0:Int),.int .i64 (1:Int),.int .i64 0]) (by simp[results,yi,go_sem]) rfl ?_;rw[c.out];exact⟨rfl,rfl⟩
 by_cases J:192<=s[0].toNat
 ·obtain⟨t,H⟩:∃t,s[0].toNat=192+t:=⟨s[0].toNat-192,by omega⟩
  have b:=x;unfold AG at b;dsimp only at b;rw[y,H,zh (by omega:¬192+t<128),show decide (192<=192+t)=true from by simp,zi (by omega:192<=192+t),show 192+t-192=t from by omega]at b;have K:decide (192<=192+(t:Int))=true:=zD (by omega);have L:t<=63:=by omega
  clear x y D J;by_cases l:t<=55
  ·rw[zi l,zi l,zi l]at b;have G:192+(t:Int)-192=t:=by omega
   by_cases o:s.size<1+t
   ·have c:Hid (hd s false false=(false,0,0,2)):=za (by rw[b,zi o]);clear b;go_enter yv,yq
    go_wp2;refine zj (v:= .tuple #[.bool false,.int .i64 (0:Int),.int .i64 (0:Int),.int .i64 2]) (by simp[results,yi,go_sem]) rfl ?_;rw[c.out];exact⟨rfl,rfl⟩
   have c:Hid (hd s false false=(true,1,t,0)):=za (by rw[b,zh o,zh (by simp)]);clear b;go_enter yv,yq
   go_wp2;refine zj (v:= .tuple #[.bool true,.int .i64 (1:Int),.int .i64 (t:Int),.int .i64 0]) (by simp[results,yi,go_sem]) rfl ?_;rw[c.out];exact⟨rfl,rfl⟩
  rw[zh l,zh l,zh l]at b;obtain⟨k,rfl⟩:∃k,t=55+k:=⟨t-55,by omega⟩
  rw[show 55+k-55=k from by omega]at b;have G:192+(55+(k:Int))-192=55+k:=by omega
  have S:55+(k:Int)-55=k:=by omega
  by_cases o:s.size<1+k
  ·have c:Hid (hd s false false=(false,0,0,2)):=za (by rw[b,zi o]);clear b;go_enter yv,yq
   go_wp2;refine zj (v:= .tuple #[.bool false,.int .i64 (0:Int),.int .i64 (0:Int),.int .i64 2]) (by simp[results,yi,go_sem]) rfl ?_;rw[c.out];exact⟨rfl,rfl⟩
  rw[zh o]at b;have u:1<s.size:=by omega
  have p:s.data.toList.getD 1 0=s[1]:=by rw[zw,gR s 1 u];rfl
  rw[p]at b;have z:(s.extract 1 (1+k)).size=k:=by rw[an _ _ _ (by omega)];omega
  have r:gG (s.extract 1 (1+k)).data.toList=decide (s[1].toNat=0):=by
   have F:(s.extract 1 (1+k)).data.toList=s[1]::(s.extract 1 (1+k)).data.toList.drop 1:=by
    rw[ar];have i:(s.data.toList.take (1+k)).drop 1=((s.data.toList.drop 1).take k):=by rw[ZP,show 1+k-1=k from by omega]
    rw[i,drop_cons s 1 u,show k=(k-1)+1 from by omega,zT];rfl
   rw[F];simp only[gG];by_cases e:s[1]=0
   ·simp[e]
   have:s[1].toNat≠0:=fun h=>e (zS.1 h)
   simp[e,this]
  have j:=za (pn (s.extract 1 (1+k)) w (by omega));by_cases q:s[1].toNat=0
  ·have n:pH (s.extract 1 (1+k))=3:=by unfold pH;rw[zh (by omega),zh (by omega),r,q];rfl
   have c:Hid (hd s false false=(false,0,0,3)):=za (by rw[b,zi (.inl q)]);rw[n]at j;clear b n r p;generalize vP (s.extract 1 (1+k))=N at*;go_enter yv,yq
   go_wp2_with fail
   refine j.out.mono ?_;rintro e w' ⟨rfl,rfl⟩;go_wp2;refine zj (v:= .tuple #[.bool false,.int .i64 (0:Int),.int .i64 (0:Int),.int .i64 3]) (by simp[results,yi,go_sem]) rfl ?_;rw[c.out];exact⟨rfl,rfl⟩
  have n:pH (s.extract 1 (1+k))=0:=by unfold pH;rw[zh (by omega),zh (by omega),r,zv q];rfl
  have B:vP (s.extract 1 (1+k))=lI (s.extract 1 (1+k)).data.toList:=by unfold vP;rw[zi n]
  have M:lI (s.extract 1 (1+k)).data.toList<18446744073709551616:=by
   have i:=uG (s.extract 1 (1+k)).data.toList;rw[aa,z]at i;have C:2^(8*k)<=2^(8*8):=yu (by omega) (by omega);exact zU i C
  rw[n,B]at j;clear n B r p z;generalize lI (s.extract 1 (1+k)).data.toList=N at*;by_cases i:N<=55
  ·have c:Hid (hd s false false=(false,0,0,3)):=za (by rw[b,zi (.inr i)]);clear b;go_enter yv,yq
   go_wp2_with fail
   refine j.out.mono ?_;rintro e w' ⟨rfl,rfl⟩;go_wp2;refine zj (v:= .tuple #[.bool false,.int .i64 (0:Int),.int .i64 (0:Int),.int .i64 3]) (by simp[results,yi,go_sem]) rfl ?_;rw[c.out];exact⟨rfl,rfl⟩
  rw[zh (fun h=>h.elim q i)]at b;by_cases C:s.size<N
  ·have c:Hid (hd s false false=(false,0,0,2)):=za (by rw[b,zi (by omega)]);clear b;go_enter yv,yq
   go_wp2_with fail
   refine j.out.mono ?_;rintro e w' ⟨rfl,rfl⟩;go_wp2;refine zj (v:= .tuple #[.bool false,.int .i64 (0:Int),.int .i64 (0:Int),.int .i64 2]) (by simp[results,yi,go_sem]) rfl ?_;rw[c.out];exact⟨rfl,rfl⟩
  by_cases A:s.size<1+k+N
  ·have c:Hid (hd s false false=(false,0,0,2)):=za (by rw[b,zi A]);clear b;go_enter yv,yq
   go_wp2_with fail
   refine j.out.mono ?_;rintro e w' ⟨rfl,rfl⟩;go_wp2;refine zj (v:= .tuple #[.bool false,.int .i64 (0:Int),.int .i64 (0:Int),.int .i64 2]) (by simp[results,yi,go_sem]) rfl ?_;rw[c.out];exact⟨rfl,rfl⟩
  have c:Hid (hd s false false=(true,1+k,N,0)):=za (by rw[b,zh A]);have R:((N:Int)==1)=false:=by simp;omega
  clear b;go_enter yv,yq
  go_wp2_with fail
  refine j.out.mono ?_;rintro e w' ⟨rfl,rfl⟩;go_wp2;refine zj (v:= .tuple #[.bool true,.int .i64 ((1+k:Nat):Int),.int .i64 (N:Int),.int .i64 0]) (by simp[results,yi,go_sem]<;>omega) rfl ?_;rw[c.out];exact⟨rfl,rfl⟩
 obtain⟨t,H⟩:∃t,s[0].toNat=128+t:=⟨s[0].toNat-128,by omega⟩
 have b:=x;unfold AG at b;dsimp only at b;have E:¬192<=128+t:=by omega
 rw[y,H,zh (by omega:¬128+t<128),zv E,zh E,show 128+t-128=t from by omega]at b;have K:decide (192<=128+(t:Int))=false:=zv (by omega);have L:t<=63:=by omega
 clear x y D J E;by_cases l:t<=55
 ·rw[zi l,zi l,zi l]at b;have G:128+(t:Int)-128=t:=by omega
  by_cases o:s.size<1+t
  ·have c:Hid (hd s false false=(false,0,0,2)):=za (by rw[b,zi o]);clear b;go_enter yv,yq
   go_wp2;refine zj (v:= .tuple #[.bool false,.int .i64 (0:Int),.int .i64 (0:Int),.int .i64 2]) (by simp[results,yi,go_sem]) rfl ?_;rw[c.out];exact⟨rfl,rfl⟩
  rw[zh o]at b;by_cases I:t=1
  ·subst I;have u:1<s.size:=by omega
   have p:s.data.toList.getD 1 0=s[1]:=by rw[zw,gR s 1 u];rfl
   rw[p]at b;by_cases i:s[1].toNat<128
   ·have c:Hid (hd s false false=(false,0,0,3)):=za (by rw[b,zi ⟨rfl,rfl,i⟩]);clear b p;go_enter yv,yq
    go_wp2;refine zj (v:= .tuple #[.bool false,.int .i64 (0:Int),.int .i64 (0:Int),.int .i64 3]) (by simp[results,yi,go_sem]) rfl ?_;rw[c.out];exact⟨rfl,rfl⟩
   have c:Hid (hd s false false=(false,1,1,0)):=za (by rw[b,zh (by simp;omega)]);clear b p;go_enter yv,yq
   go_wp2;refine zj (v:= .tuple #[.bool false,.int .i64 (1:Int),.int .i64 (1:Int),.int .i64 0]) (by simp[results,yi,go_sem]) rfl ?_;rw[c.out];exact⟨rfl,rfl⟩
  have c:Hid (hd s false false=(false,1,t,0)):=za (by rw[b,zh (fun h=>I h.2.1)]);have Z:((t:Int)==1)=false:=by simp;omega
  clear b;go_enter yv,yq
  go_wp2;refine zj (v:= .tuple #[.bool false,.int .i64 (1:Int),.int .i64 (t:Int),.int .i64 0]) (by simp[results,yi,go_sem]) rfl ?_;rw[c.out];exact⟨rfl,rfl⟩
 rw[zh l,zh l,zh l]at b;obtain⟨k,rfl⟩:∃k,t=55+k:=⟨t-55,by omega⟩
 rw[show 55+k-55=k from by omega]at b;have G:128+(55+(k:Int))-128=55+k:=by omega
 have S:55+(k:Int)-55=k:=by omega
 by_cases o:s.size<1+k
 ·have c:Hid (hd s false false=(false,0,0,2)):=za (by rw[b,zi o]);clear b;go_enter yv,yq
  go_wp2;refine zj (v:= .tuple #[.bool false,.int .i64 (0:Int),.int .i64 (0:Int),.int .i64 2]) (by simp[results,yi,go_sem]) rfl ?_;rw[c.out];exact⟨rfl,rfl⟩
 rw[zh o]at b;have u:1<s.size:=by omega
 have p:s.data.toList.getD 1 0=s[1]:=by rw[zw,gR s 1 u];rfl
 rw[p]at b;have z:(s.extract 1 (1+k)).size=k:=by rw[an _ _ _ (by omega)];omega
 have r:gG (s.extract 1 (1+k)).data.toList=decide (s[1].toNat=0):=by
  have F:(s.extract 1 (1+k)).data.toList=s[1]::(s.extract 1 (1+k)).data.toList.drop 1:=by
   rw[ar];have i:(s.data.toList.take (1+k)).drop 1=((s.data.toList.drop 1).take k):=by rw[ZP,show 1+k-1=k from by omega]
   rw[i,drop_cons s 1 u,show k=(k-1)+1 from by omega,zT];rfl
  rw[F];simp only[gG];by_cases e:s[1]=0
  ·simp[e]
  have:s[1].toNat≠0:=fun h=>e (zS.1 h)
  simp[e,this]
 have j:=za (pn (s.extract 1 (1+k)) w (by omega));by_cases q:s[1].toNat=0
 ·have n:pH (s.extract 1 (1+k))=3:=by unfold pH;rw[zh (by omega),zh (by omega),r,q];rfl
  have c:Hid (hd s false false=(false,0,0,3)):=za (by rw[b,zi (.inl q)]);rw[n]at j;clear b n r p;generalize vP (s.extract 1 (1+k))=N at*;go_enter yv,yq
  go_wp2_with fail
  refine j.out.mono ?_;rintro e w' ⟨rfl,rfl⟩;go_wp2;refine zj (v:= .tuple #[.bool false,.int .i64 (0:Int),.int .i64 (0:Int),.int .i64 3]) (by simp[results,yi,go_sem]) rfl ?_;rw[c.out];exact⟨rfl,rfl⟩
 have n:pH (s.extract 1 (1+k))=0:=by unfold pH;rw[zh (by omega),zh (by omega),r,zv q];rfl
 have B:vP (s.extract 1 (1+k))=lI (s.extract 1 (1+k)).data.toList:=by unfold vP;rw[zi n]
 have M:lI (s.extract 1 (1+k)).data.toList<18446744073709551616:=by
  have i:=uG (s.extract 1 (1+k)).data.toList;rw[aa,z]at i;have C:2^(8*k)<=2^(8*8):=yu (by omega) (by omega);exact zU i C
 rw[n,B]at j;clear n B r p z;generalize lI (s.extract 1 (1+k)).data.toList=N at*;by_cases i:N<=55
 ·have c:Hid (hd s false false=(false,0,0,3)):=za (by rw[b,zi (.inr i)]);clear b;go_enter yv,yq
  go_wp2_with fail
  refine j.out.mono ?_;rintro e w' ⟨rfl,rfl⟩;go_wp2;refine zj (v:= .tuple #[.bool false,.int .i64 (0:Int),.int .i64 (0:Int),.int .i64 3]) (by simp[results,yi,go_sem]) rfl ?_;rw[c.out];exact⟨rfl,rfl⟩
 rw[zh (fun h=>h.elim q i)]at b;by_cases C:s.size<N
 ·have c:Hid (hd s false false=(false,0,0,2)):=za (by rw[b,zi (by omega)]);clear b;go_enter yv,yq
  go_wp2_with fail
  refine j.out.mono ?_;rintro e w' ⟨rfl,rfl⟩;go_wp2;refine zj (v:= .tuple #[.bool false,.int .i64 (0:Int),.int .i64 (0:Int),.int .i64 2]) (by simp[results,yi,go_sem]) rfl ?_;rw[c.out];exact⟨rfl,rfl⟩
 by_cases A:s.size<1+k+N
 ·have c:Hid (hd s false false=(false,0,0,2)):=za (by rw[b,zi A]);clear b;go_enter yv,yq
  go_wp2_with fail
  refine j.out.mono ?_;rintro e w' ⟨rfl,rfl⟩;go_wp2;refine zj (v:= .tuple #[.bool false,.int .i64 (0:Int),.int .i64 (0:Int),.int .i64 2]) (by simp[results,yi,go_sem]) rfl ?_;rw[c.out];exact⟨rfl,rfl⟩
 have c:Hid (hd s false false=(false,1+k,N,0)):=za (by rw[b,zh A]);have R:((N:Int)==1)=false:=by simp;omega
 clear b;go_enter yv,yq
 go_wp2_with fail
 refine j.out.mono ?_;rintro e w' ⟨rfl,rfl⟩;go_wp2;refine zj (v:= .tuple #[.bool false,.int .i64 ((1+k:Nat):Int),.int .i64 (N:Int),.int .i64 0]) (by simp[results,yi,go_sem]<;>omega) rfl ?_;rw[c.out];exact⟨rfl,rfl⟩
theorem oc (g i:Nat)(s:ByteArray)(p L most:Nat)(k:Int)(w:World)(h:jH w g s p L)(d:af w i 203 #[.pointer (some ⟨g,0,none⟩)])(B:p<=s.size)(C:s.size<=100000)(z:most<=65536):
 Calls prog 185 #[.int .i64 k,.int .i64 most,.pointer (some ⟨i,0,none⟩)] w fun e w'=>∃(n:Nat) (ok:Bool) (q:Nat),e= .returned (.tuple #[.agg #[.int .i64 k,.int .i64 n,.slice none 0 0,.int .i64 0],.bool ok])/\jH w' g s q L/\ae [g] w w'/\oI most s p n ok q:=by
 have G:w.cell? ⟨i,0,none⟩=some (.pointer (some ⟨g,0,none⟩)):=d.cell 0;have M:=d.lt;have I:g<w.heap.size:=af.lt (show af w g _ _ from h);have F:=za (IG g s p L most (w.alloc (.cells #[.int .i64 0,.int .i64 0,.slice none 0 0,.int .i64 0] 43)) (af.alloc (show af w g _ _ from h) _) B C z);clear h d;go_enter func185,ntmps185
 go_wp2_with fail
 refine F.out.mono ?_;rintro e o ⟨n,ok,q,rfl,l,j,x⟩;have b:=(af.new w 43 #[.int .i64 0,.int .i64 0,.slice none 0 0,.int .i64 0]).only j (by simp;omega);have D:=za l;have E:Hid (ae [g] w o):=za (((ae.refl [g] w).alloc _).trans j);have A:=za x;obtain⟨S,H,O,R,K,J,N,U⟩:=aS b;have hz:=((((b.set 0 (.int .i64 k)).set 1 (.int .i64 n)).set 2 (.slice none 0 0)).set 3 (.int .i64 0))
 have m:=(b.set 0 (.int .i64 k)).cell 0;have y:=((b.set 0 (.int .i64 k)).set 1 (.int .i64 n)).cell 1;have r:=(((b.set 0 (.int .i64 k)).set 1 (.int .i64 n)).set 2 (.slice none 0 0)).cell 2;have u:=hz.cell 3;simp at m y r u;clear l j x b hz;go_wp2;refine zj (v:= .tuple #[.agg #[.int .i64 k,.int .i64 n,.slice none 0 0,.int .i64 0],.bool ok]) (by simp[results,results185,go_sem,m,y,r,u]) rfl ?_;have c:g≠w.heap.size:=by omega
 refine⟨n,ok,q,rfl, ?_,(((E.out.setCell (by simp) _).setCell (by simp) _).setCell (by simp) _).setCell (by simp) _,A.out⟩;exact(((af.dN (show af o g _ _ from D.out) (p:=⟨w.heap.size,0,none⟩) c _).dN (p:=⟨w.heap.size,1,none⟩) c _).dN (p:=⟨w.heap.size,2,none⟩) c _).dN (p:=⟨w.heap.size,3,none⟩) c _
def kz (w:World)(g:Nat)(s:ByteArray)(f L p:Nat)(e:Ending)(w':World):Prop:=
 ∃(t:Ty) (ok:Bool) (q L':Nat) (k z ta:Int) (A:Option Addr) (n cap:Nat),e= .returned (.tuple #[.agg #[.int .i64 k,.int .i64 z,.slice A n cap,.int .i64 ta],.bool ok])/\jH w' g s q L'/\ae [g] w w'/\L'<=L/\tF f L s p t ok q L'/\(ok=true->fK w' (w.heap.size<= ·) t (.int .i64 k) (.int .i64 z) (.slice A n cap) (.int .i64 ta))
structure ti (w:World)(g:Nat)(s:ByteArray)(p L:Nat)(V:World):Prop where
 box:af V w.heap.size 203 #[.pointer (some ⟨g,0,none⟩)]
 res:af V (w.heap.size+1) 43 #[.int .i64 0,.int .i64 0,.slice none 0 0,.int .i64 0]
 rd:jH V g s p L
 only:ae [g] w V
 siz:w.heap.size+2<=V.heap.size
 glt:g<w.heap.size
theorem ti.start (h:jH w g s p L):ti w g s p L ((w.alloc (.cells #[.pointer (some ⟨g,0,none⟩)] 203)).alloc (.cells #[.int .i64 0,.int .i64 0,.slice none 0 0,.int .i64 0] 43)) where
 box:=(af.new w _ _).alloc _
 res:=af.at_ (by simp)
 rd:=(af.alloc (show af w g _ _ from h) _).alloc _
 only:=((ae.refl _ w).alloc _).alloc _
 siz:=by simp
 glt:=af.lt (show af w g _ _ from h)
theorem ti.dF (h:ti w g s p L V)(b:ae [g] V V')(c:jH V' g s p' L'):ti w g s p' L' V' where
 box:=h.box.only b (by have:=h.glt;simp;omega)
 res:=h.res.only b (by have:=h.glt;simp;omega)
 rd:=c
 only:=h.only.trans b
 siz:=zF h.siz b.size
 glt:=h.glt
theorem ti.below (h:ti w g s p L V)(b:Below V.heap.size V V'):ti w g s p L V':=h.dF ((ae.ah b (zg _)).mono (by simp)) ((b.block _ (af.lt (show af V g _ _ from h.rd))).trans h.rd)
theorem ti.ends (h:ti w g s p L V)(b c d e:Value):
 jH ((((V.setCell ⟨w.heap.size+1,0,none⟩ b).setCell ⟨w.heap.size+1,1,none⟩ c).setCell ⟨w.heap.size+1,2,none⟩ d).setCell ⟨w.heap.size+1,3,none⟩ e) g s p L/\ae [g] w ((((V.setCell ⟨w.heap.size+1,0,none⟩ b).setCell ⟨w.heap.size+1,1,none⟩ c).setCell ⟨w.heap.size+1,2,none⟩ d).setCell ⟨w.heap.size+1,3,none⟩ e)/\
 (V.setCell ⟨w.heap.size+1,0,none⟩ b).cell? ⟨w.heap.size+1,0,none⟩=some b/\((V.setCell ⟨w.heap.size+1,0,none⟩ b).setCell ⟨w.heap.size+1,1,none⟩ c).cell? ⟨w.heap.size+1,1,none⟩=some c/\(((V.setCell ⟨w.heap.size+1,0,none⟩ b).setCell ⟨w.heap.size+1,1,none⟩ c).setCell ⟨w.heap.size+1,2,none⟩ d).cell? ⟨w.heap.size+1,2,none⟩=some d/\((((V.setCell ⟨w.heap.size+1,0,none⟩ b).setCell ⟨w.heap.size+1,1,none⟩ c).setCell ⟨w.heap.size+1,2,none⟩ d).setCell ⟨w.heap.size+1,3,none⟩ e).cell? ⟨w.heap.size+1,3,none⟩=some e:=
 have n1:g≠w.heap.size+1:=by have:=h.glt;omega
 ⟨(((af.dN (show af V g _ _ from h.rd) (p:=⟨w.heap.size+1,0,none⟩) n1 _).dN (p:=⟨w.heap.size+1,1,none⟩) n1 _).dN (p:=⟨w.heap.size+1,2,none⟩) n1 _).dN (p:=⟨w.heap.size+1,3,none⟩) n1 _,(((h.only.setCell (by simp) _).setCell (by simp) _).setCell (by simp) _).setCell (by simp) _,by have:=(h.res.set 0 b).cell 0;simpa using this,by have:=((h.res.set 0 b).set 1 c).cell 1;simpa using this,by have:=(((h.res.set 0 b).set 1 c).set 2 d).cell 2;simpa using this,by have:=((((h.res.set 0 b).set 1 c).set 2 d).set 3 e).cell 3;simpa using this⟩
theorem ti.step {W:World}(h:ti w g s p L W)(a b:Int)(n1 n2:Nat)(i:a=L')(c:b=p'):ti w g s p' L' ((((W.drewN n1).setCell ⟨g,2,none⟩ (.int .i64 a)).drewN n2).setCell ⟨g,1,none⟩ (.int .i64 b)):=by
 have d:jH (W.drewN n1) g s p L:=h.rd;have e:jH (((W.drewN n1).setCell ⟨g,2,none⟩ (.int .i64 a)).drewN n2) g s p L':=d.less i;exact h.dF (((((ae.refl [g] W).drewN n1).setCell (p:=⟨g,2,none⟩) (by simp) _).drewN n2).setCell (p:=⟨g,1,none⟩) (by simp) _) (e.to c)
theorem qz {c:UInt8}(b:p<s.size)(d:s[p].toNat=c.toNat):s.data.toList.drop p=c::s.data.toList.drop (p+1):=by
 rw[drop_cons s p b,zS.1 d]
theorem Qf {k:Int}{most:Nat}{ok:Bool}(m:0<L)(e:aL (f+1) (s.data.toList.drop p)=tE k (cx (s.data.toList.drop (p+1))))(l:(∀d r,cx (s.data.toList.drop (p+1))=some (d,r)->most<d)->∀(L:Nat) (t:Ty) (r:List UInt8),tE k (cx (s.data.toList.drop (p+1)))=some (t,r)->ej L t)(h:oI most s (p+1) n ok q):tF (f+1) L s p (.mk k n [] 0) ok q (L-1):=by
 refine⟨fun b=> ?_,fun b j r c=> ?_,h.2.2.1⟩
 ·obtain⟨i,o,u⟩:=h.1 b;exact⟨by rw[e,i];rfl,by simp[Ty.count,ba];omega,by omega⟩
 rw[e]at c;exact l (h.2.1 b) L j r c
theorem Qg (f d:Nat)(hd:d<=8)(g:Nat)(s:ByteArray)(p L:Nat)(w:World)(h:jH w g s p L)(A:p<s.size)(D:s.size<=100000)(B:0<L)(Y:L<=64)(J:s[p].toNat=98):
 Calls prog 157 #[.pointer (some ⟨g,0,none⟩),.int .i64 d] w fun e w'=>kz w g s (f+1) L p e w':=by
 have z:Hid (aL (f+1) (s.data.toList.drop p)=tE 2 (cx (s.data.toList.drop (p+1)))):=za (by rw[qz (c:=98) A J,Ka]);have j:=za (ti.start h);generalize O:((w.alloc (.cells #[.pointer (some ⟨g,0,none⟩)] 203)).alloc (.cells #[.int .i64 0,.int .i64 0,.slice none 0 0,.int .i64 0] 43))=W at*;obtain⟨g0,g1,g2,f0,f1,f2,K⟩:=j.out.rd.cells;have S:W.cell? ⟨w.heap.size,0,none⟩=some (.pointer (some ⟨g,0,none⟩)):=j.out.box.cell 0;have M:decide ((8:Int)<(d:Int))=false:=zv (by omega);have R:((L:Int)==0)=false:=zo.2 (by omega);have Z:((p:Int)==(s.size:Int))=false:=zo.2 (by omega);have ew:IntKind.i64.wrap ((L:Int)-1)=(L:Int)-1:=zW _ (by omega);clear h;go_enter xO,xI
 go_wp2_with fail
 go_quiet (fail)
 obtain⟨i,rfl⟩:∃i,i=nq:=⟨nq,rfl⟩
 go_wp2_with fail
 go_quiet (fail)
 have b:=za (j.out.step ((L:Int)-1) ((p:Int)+1) i nq (L':=L-1) (p':=p+1) (by omega) (by omega));go_wp2_with fail
 refine(oc g w.heap.size s (p+1) (L-1) 65536 2 _ b.out.rd b.out.box (by omega) D (by omega)).mono ?_;rintro e N ⟨n,ok,q,rfl,k,o,r⟩;have u:=za (b.out.dF o k);have m:=za r;clear k o r;obtain⟨U,n1,n2,X,m0,m1,m2,m3⟩:=aS u.out.res;obtain⟨l,x,y,F,C,E⟩:=u.out.ends (.int .i64 2) (.int .i64 n) (.slice none 0 0) (.int .i64 0);have G:=za l;have H:=za x;clear l x;go_wp2;refine zj (v:= .tuple #[.agg #[.int .i64 2,.int .i64 n,.slice none 0 0,.int .i64 0],.bool ok]) (by simp[results,yx,go_sem,y,F,C,E]) rfl ?_;exact⟨.mk 2 n [] 0,ok,q,L-1,_,_,_,_,_,_,rfl,G.out,H.out,by omega,Qf B z.out abG m.out,fun I=>fK.leaf (aC (by omega) (by omega)) (aC (by omega) (by have:=(m.out.1 I).2.1;omega)) (aC (by omega) (by omega))⟩
theorem Qh (f d:Nat)(hd:d<=8)(g:Nat)(s:ByteArray)(p L:Nat)(w:World)(h:jH w g s p L)(A:p<s.size)(D:s.size<=100000)(B:0<L)(Y:L<=64)(J:s[p].toNat=115):
 Calls prog 157 #[.pointer (some ⟨g,0,none⟩),.int .i64 d] w fun e w'=>kz w g s (f+1) L p e w':=by
 have z:Hid (aL (f+1) (s.data.toList.drop p)=tE 3 (cx (s.data.toList.drop (p+1)))):=za (by rw[qz (c:=115) A J,Kb]);have j:=za (ti.start h);generalize O:((w.alloc (.cells #[.pointer (some ⟨g,0,none⟩)] 203)).alloc (.cells #[.int .i64 0,.int .i64 0,.slice none 0 0,.int .i64 0] 43))=W at*;obtain⟨g0,g1,g2,f0,f1,f2,K⟩:=j.out.rd.cells;have S:W.cell? ⟨w.heap.size,0,none⟩=some (.pointer (some ⟨g,0,none⟩)):=j.out.box.cell 0;have M:decide ((8:Int)<(d:Int))=false:=zv (by omega);have R:((L:Int)==0)=false:=zo.2 (by omega);have Z:((p:Int)==(s.size:Int))=false:=zo.2 (by omega);have ew:IntKind.i64.wrap ((L:Int)-1)=(L:Int)-1:=zW _ (by omega);clear h;go_enter xO,xI
 go_wp2_with fail
 go_quiet (fail)
 obtain⟨i,rfl⟩:∃i,i=nq:=⟨nq,rfl⟩
 go_wp2_with fail
 go_quiet (fail)
 have b:=za (j.out.step ((L:Int)-1) ((p:Int)+1) i nq (L':=L-1) (p':=p+1) (by omega) (by omega));go_wp2_with fail
 refine(oc g w.heap.size s (p+1) (L-1) 65536 3 _ b.out.rd b.out.box (by omega) D (by omega)).mono ?_;rintro e N ⟨n,ok,q,rfl,k,o,r⟩;have u:=za (b.out.dF o k);have m:=za r;clear k o r;obtain⟨U,n1,n2,X,m0,m1,m2,m3⟩:=aS u.out.res;obtain⟨l,x,y,F,C,E⟩:=u.out.ends (.int .i64 3) (.int .i64 n) (.slice none 0 0) (.int .i64 0);have G:=za l;have H:=za x;clear l x;go_wp2;refine zj (v:= .tuple #[.agg #[.int .i64 3,.int .i64 n,.slice none 0 0,.int .i64 0],.bool ok]) (by simp[results,yx,go_sem,y,F,C,E]) rfl ?_;exact⟨.mk 3 n [] 0,ok,q,L-1,_,_,_,_,_,_,rfl,G.out,H.out,by omega,Qf B z.out abH m.out,fun I=>fK.leaf (aC (by omega) (by omega)) (aC (by omega) (by have:=(m.out.1 I).2.1;omega)) (aC (by omega) (by omega))⟩
theorem M6 (f d:Nat)(hd:d<=8)(g:Nat)(s:ByteArray)(p L:Nat)(w:World)(h:jH w g s p L)(y:p<s.size)(N:s.size<=100000)(M:0<L)(N4:L<=64)(l:s[p].toNat≠117)(m:s[p].toNat≠98)(o:s[p].toNat≠115)(i:s[p].toNat≠91)(k:s[p].toNat≠123):
 Calls prog 157 #[.pointer (some ⟨g,0,none⟩),.int .i64 d] w fun e w'=>kz w g s (f+1) L p e w':=by
 have S:((s[p].toNat:Int)==117)=false:=zo.2 (by omega);have Y:((s[p].toNat:Int)==98)=false:=zo.2 (by omega);have K:((s[p].toNat:Int)==115)=false:=zo.2 (by omega);have J:((s[p].toNat:Int)==91)=false:=zo.2 (by omega);have G:((s[p].toNat:Int)==123)=false:=zo.2 (by omega);have x:Hid (aL (f+1) (s.data.toList.drop p)=none):=za (by rw[drop_cons s p y];exact EC f _ _ l m o i k);clear l m o i k;have b:=za (ti.start h);generalize H:((w.alloc (.cells #[.pointer (some ⟨g,0,none⟩)] 203)).alloc (.cells #[.int .i64 0,.int .i64 0,.slice none 0 0,.int .i64 0] 43))=W at*;obtain⟨g0,g1,g2,f0,f1,f2,E⟩:=b.out.rd.cells;have O:W.cell? ⟨w.heap.size,0,none⟩=some (.pointer (some ⟨g,0,none⟩)):=b.out.box.cell 0;have R:=b.out.glt;have F:decide ((8:Int)<(d:Int))=false:=zv (by omega);have I:((L:Int)==0)=false:=zo.2 (by omega);have dp:((p:Int)==(s.size:Int))=false:=zo.2 (by omega);have ew:IntKind.i64.wrap ((L:Int)-1)=(L:Int)-1:=zW _ (by omega);clear h;go_enter xO,xI
 go_wp2_with fail
 go_quiet (fail)
 obtain⟨c,rfl⟩:∃c,c=nq:=⟨nq,rfl⟩
 go_wp2_with fail
 go_quiet (fail)
 have q:=za (b.out.step ((L:Int)-1) ((p:Int)+1) c nq (L':=L-1) (p':=p+1) (by omega) (by omega));obtain⟨U,n1,n2,Z,m0,m1,m2,m3⟩:=aS b.out.res;obtain⟨j,n,u,B,z,A⟩:=q.out.ends (.int .i64 0) (.int .i64 0) (.slice none 0 0) (.int .i64 0);have C:=za j;have D:=za n;clear j n;go_wp2;refine zj (v:= .tuple #[.agg #[.int .i64 0,.int .i64 0,.slice none 0 0,.int .i64 0],.bool false]) (by simp[results,yx,go_sem,u,B,z,A]) rfl ?_;exact⟨.mk 0 0 [] 0,false,p+1,L-1,_,_,_,_,_,_,rfl,C.out,D.out,by omega,⟨(by intro h;cases h),(by intro _ X r h;rw[x.out]at h;cases h),by omega⟩,(by intro h;cases h)⟩
theorem Xp {ok:Bool}(m:0<L)(e:aL (f+1) (s.data.toList.drop p)=AD (cx (s.data.toList.drop (p+1))))(h:oI 64 s (p+1) n ok q):tF (f+1) L s p (.mk 1 ((n/8:Nat):Int) [] 0) (ok&&decide (n%8=0)) q (L-1):=by
 refine⟨fun b=> ?_,fun b k r c=> ?_,h.2.2.1⟩
 ·simp only[zy,yb]at b;obtain⟨d,j,l⟩:=h.1 b.1;exact⟨by rw[e,d,AD,zi b.2],by simp[Ty.count,ba];omega,by omega⟩
 rw[e]at c;cases ok with
 |false=>exact abF (h.2.1 rfl) L k r c
 |true=>
  obtain⟨d,j,l⟩:=h.1 rfl;have i:¬n%8=0:=by simpa using b
  rw[d,AD,zh i]at c;cases c
theorem Qi (f d:Nat)(hd:d<=8)(g:Nat)(s:ByteArray)(p L:Nat)(w:World)(h:jH w g s p L)(K:p<s.size)(N:s.size<=100000)(M:0<L)(N4:L<=64)(O:s[p].toNat=117):
 Calls prog 157 #[.pointer (some ⟨g,0,none⟩),.int .i64 d] w fun e w'=>kz w g s (f+1) L p e w':=by
 have J:Hid (aL (f+1) (s.data.toList.drop p)=AD (cx (s.data.toList.drop (p+1)))):=za (by rw[qz (c:=117) K O,J']);have B:=za (ti.start h);generalize Y:((w.alloc (.cells #[.pointer (some ⟨g,0,none⟩)] 203)).alloc (.cells #[.int .i64 0,.int .i64 0,.slice none 0 0,.int .i64 0] 43))=W at*;obtain⟨g0,g1,g2,f0,f1,f2,R⟩:=B.out.rd.cells;have b0:W.cell? ⟨w.heap.size,0,none⟩=some (.pointer (some ⟨g,0,none⟩)):=B.out.box.cell 0;have S:decide ((8:Int)<(d:Int))=false:=zv (by omega);have Z:((L:Int)==0)=false:=zo.2 (by omega);have dp:((p:Int)==(s.size:Int))=false:=zo.2 (by omega);have ew:IntKind.i64.wrap ((L:Int)-1)=(L:Int)-1:=zW _ (by omega);clear h;go_enter xO,xI
 go_wp2_with fail
 go_quiet (fail)
 obtain⟨A,rfl⟩:∃A,A=nq:=⟨nq,rfl⟩
 go_wp2_with fail
 go_quiet (fail)
 have z:=za (B.out.step ((L:Int)-1) ((p:Int)+1) A nq (L':=L-1) (p':=p+1) (by omega) (by omega));go_wp2_with fail
 refine(oc g w.heap.size s (p+1) (L-1) 64 1 _ z.out.rd z.out.box (by omega) N (by omega)).mono ?_;rintro e I ⟨n,ok,q,rfl,D,G,y⟩;have u:=za (z.out.dF G D);have X:=za y;obtain⟨b,F⟩:∃b,n/8=b:=⟨_,rfl⟩
 have e8:(n:Int)/8=b:=by omega
 have o:=za (Xp M J.out y);rw[F]at o;have Yi:b<=8:=by have:=y.2.2.2;omega
 clear D G y F;obtain⟨n0,n1,n2,n3,m0,m1,m2,m3⟩:=aS u.out.res;have U:=u.out.siz;have x:w.heap.size+1<I.heap.size:=by omega
 by_cases E:n%8=0
 ·have H:((n:Int)%8==0)=true:=yS.2 (by omega);rw[zD E,Zg]at o;cases ok with
  |true=>
   go_wp2;obtain⟨l,r,i,m,j,k⟩:=u.out.ends (.int .i64 1) (.int .i64 b) (.slice none 0 0) (.int .i64 0);refine zj (v:= .tuple #[.agg #[.int .i64 1,.int .i64 b,.slice none 0 0,.int .i64 0],.bool true]) (by simp[results,yx,go_sem,i,m,j,k,zA,x]) rfl ?_;exact⟨.mk 1 b [] 0,true,q,L-1,_,_,_,_,_,_,rfl,af.alloc (show af _ g _ _ from l) _,r.alloc _,by omega,o.out,fun C=>fK.leaf (aC (by omega) (by omega)) (aC (by omega) (by omega)) (aC (by omega) (by omega))⟩
  |false=>
   go_wp2;obtain⟨l,r,i,m,j,k⟩:=u.out.ends (.int .i64 1) (.int .i64 b) (.slice none 0 0) (.int .i64 0);refine zj (v:= .tuple #[.agg #[.int .i64 1,.int .i64 b,.slice none 0 0,.int .i64 0],.bool false]) (by simp[results,yx,go_sem,i,m,j,k,zA,x]) rfl ?_;exact⟨.mk 1 b [] 0,false,q,L-1,_,_,_,_,_,_,rfl,af.alloc (show af _ g _ _ from l) _,r.alloc _,by omega,o.out,fun C=>fK.leaf (aC (by omega) (by omega)) (aC (by omega) (by omega)) (aC (by omega) (by omega))⟩
 have H:((n:Int)%8==0)=false:=zo.2 (by omega);rw[zv E,Bool.and_false]at o;cases ok with
 |true=>
  go_wp2;obtain⟨l,r,i,m,j,k⟩:=u.out.ends (.int .i64 1) (.int .i64 b) (.slice none 0 0) (.int .i64 0);refine zj (v:= .tuple #[.agg #[.int .i64 1,.int .i64 b,.slice none 0 0,.int .i64 0],.bool false]) (by simp[results,yx,go_sem,i,m,j,k,zA,x]) rfl ?_;exact⟨.mk 1 b [] 0,false,q,L-1,_,_,_,_,_,_,rfl,af.alloc (show af _ g _ _ from l) _,r.alloc _,by omega,o.out,fun C=>fK.leaf (aC (by omega) (by omega)) (aC (by omega) (by omega)) (aC (by omega) (by omega))⟩
 |false=>
  go_wp2;obtain⟨l,r,i,m,j,k⟩:=u.out.ends (.int .i64 1) (.int .i64 b) (.slice none 0 0) (.int .i64 0);refine zj (v:= .tuple #[.agg #[.int .i64 1,.int .i64 b,.slice none 0 0,.int .i64 0],.bool false]) (by simp[results,yx,go_sem,i,m,j,k,zA,x]) rfl ?_;exact⟨.mk 1 b [] 0,false,q,L-1,_,_,_,_,_,_,rfl,af.alloc (show af _ g _ _ from l) _,r.alloc _,by omega,o.out,fun C=>fK.leaf (aC (by omega) (by omega)) (aC (by omega) (by omega)) (aC (by omega) (by omega))⟩
theorem IP {o:Option (Ty×List UInt8)}{r:List UInt8}(h:uR o=some (t,r)):∃x b,o=some (x,b)/\gU x b=some (t,r):=by
 match o,h with
 |some (x,b),h=>exact⟨x,b,rfl,h⟩
theorem IQ {c:Nat}(m:0<L)(l:aL (f+1) (s.data.toList.drop p)=uR (aL f (s.data.toList.drop (p+1))))(h:tF f (L-1) s (p+1) x false q d)(k:c<=s.size):tF (f+1) L s p y false c d:=by
 refine⟨(by intro h;cases h),fun _ o r b=> ?_,k⟩;rw[l]at b;obtain⟨z,e,i,j⟩:=IP b;obtain⟨n,rfl⟩:=Mg j;have:=(h.2.1 rfl z e i).list n;rwa [show 1+(L-1)=L from by omega]at this
theorem po {e:Nat}(l:aL (f+1) (s.data.toList.drop p)=uR (aL f (s.data.toList.drop (p+1))))(h:tF f (L-1) s (p+1) x true q i)(k:∀b r,gU x (s.data.toList.drop q)=some (b,r)->ej L b)(j:d<=s.size):tF (f+1) L s p y false d e:=by
 refine⟨(by intro h;cases h),fun _ b r c=> ?_,j⟩;rw[l,(h.1 rfl).1]at c;exact k b r c
theorem IS {c:Nat}{b:Nat}(k:0<L)(j:aL (f+1) (s.data.toList.drop p)=uR (aL f (s.data.toList.drop (p+1))))(h:tF f (L-1) s (p+1) x true q c)(d:gU x (s.data.toList.drop q)=some (.mk 4 n [x] 0,s.data.toList.drop b))(l:q<b)(i:b<=s.size):tF (f+1) L s p (.mk 4 n [x] 0) true b c:=by
 obtain⟨e,m,o⟩:=h.1 rfl;refine⟨fun _=>⟨by rw[j,e];exact d, ?_,by omega⟩,(by intro h;cases h),i⟩;simp only[Ty.count,ba];omega
theorem Qj (x:Ty)(h:∀b:q<s.size,s[q].toNat≠58)(L:Nat):∀d r,gU x (s.data.toList.drop q)=some (d,r)->ej L d:=by
 intro d r c;by_cases b:q<s.size
 ·rw[drop_cons s q b,uS x _ _ (h b)]at c;cases c
 rw[zH (by simpa using b)]at c;cases c
theorem tail_at (x:Ty)(b:q<s.size)(h:s[q].toNat=58):gU x (s.data.toList.drop q)=jg x (cx (s.data.toList.drop (q+1))):=by
 rw[drop_cons s q b,show s[q]=58 from zS.1 h,mY]
theorem Qk (x:Ty)(e:q<s.size)(h:s[q].toNat=58)(i:oI 1024 s (q+1) n false d)(L:Nat):∀b r,gU x (s.data.toList.drop q)=some (b,r)->ej L b:=by
 intro b r c;rw[tail_at x e h]at c;exact Mf (i.2.1 rfl) L x b r c
theorem M7 {c:Nat}(x:Ty)(j:q<s.size)(h:s[q].toNat=58)(l:oI 1024 s (q+1) n true c)(k:∀j:c<s.size,s[c].toNat≠93)(L:Nat):∀i r,gU x (s.data.toList.drop q)=some (i,r)->ej L i:=by
 intro i r b;rw[tail_at x j h,(l.1 rfl).1]at b;by_cases d:c<s.size
 ·rw[drop_cons s c d,jg]at b;split at b
  ·rename_i e
   exact absurd (by first|exact e|simpa using e|(rw[e];rfl)) (k d)
  cases b
 rw[zH (by simpa using d)]at b;cases b
theorem Ql {b:Nat}(x:Ty)(e:q<s.size)(h:s[q].toNat=58)(i:oI 1024 s (q+1) n true b)(d:b<s.size)(c:s[b].toNat=93):gU x (s.data.toList.drop q)=some (.mk 4 n [x] 0,s.data.toList.drop (b+1)):=by
 rw[tail_at x e h,(i.1 rfl).1,drop_cons s b d,jg,zi (by first|exact c|exact zS.1 c)]
theorem Ce (f:Nat)(h:s.size<=q):aL f (s.data.toList.drop q)=none:=by
 rw[zH (by simpa using h)];cases f<;>rfl
theorem rJ.gone {R:Option (Ty×List UInt8)}{b:Nat}(d:R=none)(h:s.size<=q):rJ f s R q acc b:=by
 refine⟨0, ?_,by rw[zH (by simpa using h)];simp⟩;subst d;have hi:=Ce f h;rw[zH (by simpa using h)]at hi⊢;by_cases c:0<b
 ·simp[tQ,c]
 simp[tQ,c,hi]
theorem IT {R:Option (Ty×List UInt8)}(h:eU f s R p [] 0)(c:∀b:p<s.size,s[p].toNat≠125):rJ f s R p [] 0:=by
 by_cases b:p<s.size
 ·exact h.first b (c b)
 exact rJ.gone (h.stop (by omega)) (by omega)
theorem Cf {R:Option (Ty×List UInt8)}(h:eU f s R p acc i)(c:acc≠ [])(d:∀b:p<s.size,s[p].toNat≠125)(e:∀b:p<s.size,s[p].toNat≠44):R=none:=by
 by_cases b:p<s.size
 ·exact h.bad b (d b) (e b) c
 exact h.stop (by omega)
theorem KK {R:Option (Ty×List UInt8)}{b:Nat}(h:O6 f s R q acc d)(j:q<=s.size)(e:tF f L s q y true b L'):eU f s R b (acc++ [y]) d:=by
 obtain⟨i,_,_⟩:=e.1 rfl;have c:=(h.some j i).1;rw[zK,aa,show s.size-(s.size-b)=b from by have:=e.2.2;omega]at c;exact c
theorem tj (acc:List Ty)(y:Ty):ba (acc++ [y])=ba acc+y.count:=by simp[fT,ba]
theorem IU {b:Nat}{R:Option (Ty×List UInt8)}{c:Nat}(d:R=some (.mk 5 0 acc c,s.data.toList.drop q))(i:L+ba acc=b)(e:q<=s.size):O9 (1+b) s R (.mk 5 0 acc c) true q L:=
 ⟨fun _=>⟨d,by simp[Ty.count];omega⟩,(by intro h;cases h),e⟩
theorem Db {c:Nat}{R:Option (Ty×List UInt8)}(t:Ty)(b:R=none)(d:q<=s.size):O9 c s R t false q L:=
 ⟨(by intro h;cases h),(by intro _ e r h;rw[b]at h;cases h),d⟩
theorem Qm {b:Nat}{R:Option (Ty×List UInt8)}{c:Nat}{k:Nat}(t:Ty)(h:O6 f s R q acc k)(d:tF f L s q y false c L')(l:L+ba acc=b):O9 (1+b) s R t false c i:=by
 refine⟨(by intro h;cases h),fun _ j r e=> ?_,d.2.2⟩;have:=Tr h (d.2.1 rfl) j r e;rwa [show 1+ba acc+L=1+b from by omega]at this
theorem Qn (b:p<s.size)(d:s[p].toNat=123):eU f s (aL (f+1) (s.data.toList.drop p)) (p+1) [] 0:=
 ⟨_,by rw[qz (c:=123) b d,Kd],by omega⟩
theorem abS {ok:Bool}(h:O9 L s (aL f (s.data.toList.drop p)) t ok q L'):tF f L s p t ok q L':=by
 refine⟨fun d=> ?_,h.2.1,h.2.2⟩;obtain⟨b,c⟩:=h.1 d;have e:=(gF _ _ _ _ b).2;simp only[zK,aa]at e;exact⟨b,c,by have:=h.2.2;omega⟩
theorem tk (s:ByteArray)(k:Nat)(h:k<=s.size):s.size-(s.data.toList.drop k).length=k:=by rw[zK,aa];omega
theorem Dc (x:Int)(b: -9223372036854775808<=x)(c:x<=9223372036854775807):wrap64 x=x:=by unfold wrap64;omega
theorem Qo (m b:Nat)(h:m<1000000)(c:48<=b)(d:b<=57):wrap64 (wrap64 (wrap64 (10*(m:Int))+wrap64 (b:Int))-48)=((10*m+(b-48):Nat):Int):=by
 rw[Dc (10*(m:Int)) (by omega) (by omega),Dc (b:Int) (by omega) (by omega),Dc (10*(m:Int)+b) (by omega) (by omega),Dc _ (by omega) (by omega)];omega
def eC (s:ByteArray):Option (Nat×List UInt8)->Ending
 |none=> .returned (.tuple #[.int .i64 0,.int .i64 (-1)])
 |some (n,r)=> .returned (.tuple #[.int .i64 n,.int .i64 ((s.size-r.length:Nat):Int)])
theorem pr (s:ByteArray)(at_:Nat)(w:World)(G:at_<=s.size)(O:s.size<=100000):
 Calls prog 52 #[.string s,.int .i64 at_] w fun e w'=>e=eC s (cx (s.data.toList.drop at_))/\w=w':=by
 obtain⟨R,d⟩:∃R,Hid (eC s (cx (s.data.toList.drop at_))=R):=⟨_,za rfl⟩
 rw[d.out];go_enter func52,ntmps52
 go_wp2_with fail
 go_loop [6,1] (fun n i=>∃k m:Nat,at_<=k/\k<=s.size/\m<=10000100/\Hid (k6 s at_ k m)/\n= .int .i64 m/\i= .int .i64 k) (fun _ i=>s.size-(intOf i).toNat)
 case atStart=>exact⟨at_,0,by omega,G,by omega,za (k6.start s at_),rfl,rfl⟩
 case round=>
  obtain⟨k,m,N,p,u,hrel,rfl,rfl⟩:=hrel;by_cases C:k<s.size
  ·by_cases y:48<=s[k].toNat
   ·by_cases r:s[k].toNat<=57
    ·have A:=za (hrel.out.next C ((kZ _).2 ⟨y,r⟩));have D:=za (uT m s[k] u r);have E:decide ((48:Int)<=(s[k].toNat:Int))=true:=zD (by omega);have o:decide ((s[k].toNat:Int)<=57)=true:=zD (by omega);have J:=za y;have K:=za r;clear y r;by_cases q:m<1000000
     ·have x:Hid (fC m s[k]=10*m+(s[k].toNat-48)):=za (by simp[fC,q]);have I:decide ((m:Int)<1000000)=true:=zD (by omega);have H:=za q;clear q u;go_wp2_with fail
      go_round
      case rel=>exact⟨k+1,fC m s[k],by omega,by omega,D.out,A,by rw[x.out];have L:=J.out;have F:=K.out;have M:=H.out;rw[Qo m s[k].toNat M L F],by go_num⟩
      case measure=>simp[intOf];omega
     have x:Hid (fC m s[k]=m):=za (by simp[fC,q]);have I:decide ((m:Int)<1000000)=false:=zv (by omega);clear q u;go_wp2_with fail
     go_round
     case rel=>exact⟨k+1,fC m s[k],by omega,by omega,D.out,A,by rw[x.out],by go_num⟩
     case measure=>simp[intOf];omega
    have j:Hid (∀h:k<s.size,jm s[k]=false):=za (fun h=>by simp[jm];omega);have E:decide ((s[k].toNat:Int)<=57)=false:=zv (by omega);rcases(show k=at_\/at_<k from by omega)with rfl|hak
    ·have b:Hid (R= .returned (.tuple #[.int .i64 0,.int .i64 (-1)])):=za (by rw[<-d.out,nV j.out];rfl);go_wp2;all_goals
      go_ret2
      exact⟨by rw[b.out];rfl,rfl⟩
    have B:at_<s.size:=(hrel.out.2 at_ (by omega) hak).1;have z:((k:Int)==(at_:Int))=false:=zo.2 (by omega);by_cases c:s[at_].toNat=48
    ·have o:((s[at_].toNat:Int)==48)=true:=by simp[c]
     by_cases l:at_+1<k
     ·have b:Hid (R= .returned (.tuple #[.int .i64 0,.int .i64 (-1)])):=za (by rw[<-d.out,nW hrel.out l (fun _=>c)];rfl);clear c;go_wp2;all_goals
       go_ret2
       exact⟨by rw[b.out];rfl,rfl⟩
     have b:Hid (R= .returned (.tuple #[.int .i64 m,.int .i64 k])):=za (by rw[<-d.out,ks hrel.out hak j.out (fun h=>absurd h l)];simp only[eC,tk s k p]);clear c;go_wp2;all_goals
      go_ret2
      exact⟨by rw[b.out];rfl,rfl⟩
    have o:((s[at_].toNat:Int)==48)=false:=zo.2 (by omega);have b:Hid (R= .returned (.tuple #[.int .i64 m,.int .i64 k])):=za (by rw[<-d.out,ks hrel.out hak j.out (fun _ _=>c)];simp only[eC,tk s k p]);clear c;go_wp2;all_goals
     go_ret2
     exact⟨by rw[b.out];rfl,rfl⟩
   have j:Hid (∀h:k<s.size,jm s[k]=false):=za (fun h=>by simp[jm];omega);have E:decide ((48:Int)<=(s[k].toNat:Int))=false:=zv (by omega);rcases(show k=at_\/at_<k from by omega)with rfl|hak
   ·have b:Hid (R= .returned (.tuple #[.int .i64 0,.int .i64 (-1)])):=za (by rw[<-d.out,nV j.out];rfl);go_wp2;all_goals
     go_ret2
     exact⟨by rw[b.out];rfl,rfl⟩
   have B:at_<s.size:=(hrel.out.2 at_ (by omega) hak).1;have z:((k:Int)==(at_:Int))=false:=zo.2 (by omega);by_cases c:s[at_].toNat=48
   ·have o:((s[at_].toNat:Int)==48)=true:=by simp[c]
    by_cases l:at_+1<k
    ·have b:Hid (R= .returned (.tuple #[.int .i64 0,.int .i64 (-1)])):=za (by rw[<-d.out,nW hrel.out l (fun _=>c)];rfl);clear c;go_wp2;all_goals
      go_ret2
      exact⟨by rw[b.out];rfl,rfl⟩
    have b:Hid (R= .returned (.tuple #[.int .i64 m,.int .i64 k])):=za (by rw[<-d.out,ks hrel.out hak j.out (fun h=>absurd h l)];simp only[eC,tk s k p]);clear c;go_wp2;all_goals
     go_ret2
     exact⟨by rw[b.out];rfl,rfl⟩
   have o:((s[at_].toNat:Int)==48)=false:=zo.2 (by omega);have b:Hid (R= .returned (.tuple #[.int .i64 m,.int .i64 k])):=za (by rw[<-d.out,ks hrel.out hak j.out (fun _ _=>c)];simp only[eC,tk s k p]);clear c;go_wp2;all_goals
    go_ret2
    exact⟨by rw[b.out];rfl,rfl⟩
  have j:Hid (∀h:k<s.size,jm s[k]=false):=za (fun h=>absurd h C);rcases(show k=at_\/at_<k from by omega)with rfl|hak
  ·have b:Hid (R= .returned (.tuple #[.int .i64 0,.int .i64 (-1)])):=za (by rw[<-d.out,nV j.out];rfl);go_wp2;all_goals
    go_ret2
    exact⟨by rw[b.out];rfl,rfl⟩
  have B:at_<s.size:=(hrel.out.2 at_ (by omega) hak).1;have z:((k:Int)==(at_:Int))=false:=zo.2 (by omega);by_cases c:s[at_].toNat=48
  ·have o:((s[at_].toNat:Int)==48)=true:=by simp[c]
   by_cases l:at_+1<k
   ·have b:Hid (R= .returned (.tuple #[.int .i64 0,.int .i64 (-1)])):=za (by rw[<-d.out,nW hrel.out l (fun _=>c)];rfl);clear c;go_wp2;all_goals
     go_ret2
     exact⟨by rw[b.out];rfl,rfl⟩
   have b:Hid (R= .returned (.tuple #[.int .i64 m,.int .i64 k])):=za (by rw[<-d.out,ks hrel.out hak j.out (fun h=>absurd h l)];simp only[eC,tk s k p]);clear c;go_wp2;all_goals
    go_ret2
    exact⟨by rw[b.out];rfl,rfl⟩
  have o:((s[at_].toNat:Int)==48)=false:=zo.2 (by omega);have b:Hid (R= .returned (.tuple #[.int .i64 m,.int .i64 k])):=za (by rw[<-d.out,ks hrel.out hak j.out (fun _ _=>c)];simp only[eC,tk s k p]);clear c;go_wp2;all_goals
   go_ret2
   exact⟨by rw[b.out];rfl,rfl⟩
def mw (s:ByteArray)(w:World)(R:Option (Ty×List UInt8))(e:Ending)(w':World):Prop:=
 Below w.heap.size w w'/\match R with
  |none=>∃v0 v1:Int,e= .returned (.tuple #[.agg #[.int .i64 v0,.int .i64 v1,.slice none 0 0,.int .i64 0],.int .i64 (-1)])
  |some (x,r)=>∃c0 c1 c2 c3,e= .returned (.tuple #[.agg #[c0,c1,c2,c3],.int .i64 (s.size-r.length:Nat)])/\fK w' (w.heap.size<= ·) x c0 c1 c2 c3
theorem Cg (f:Nat):aL f []=none:=by cases f<;>rfl
theorem Dd (X:World)(t:TypeId)(b:Array Value)(n:Nat)(h:X.heap.size=n):af (X.alloc (.cells b t)) n t b:=by subst h;exact af.new X t b
def bJ (v0 v1:Int):Value:= .tuple #[.agg #[.int .i64 v0,.int .i64 v1,.slice none 0 0,.int .i64 0],.int .i64 (-1)]
