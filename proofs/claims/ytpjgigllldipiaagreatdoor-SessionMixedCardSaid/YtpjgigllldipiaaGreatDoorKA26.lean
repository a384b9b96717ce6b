/- What the document tells of types (hatchwayref20.Count, Deep, right, May), and what the statements ask (room, Great). -/
import Derived.BigQuiet
import Derived.Test.YtpjgigllldipiaaGreatDoorKA7
import Derived.StillTailTactics
set_option linter.all false
set_option maxRecDepth 100000
set_option maxHeartbeats 8000000
namespace Go.Proofs.YtpjgigllldipiaaGreatDoor
open Tryz
open Go.RowKit
def zu:=@World.size_alloc
def yd:=@cell_of_one
def yi:=@wp_loop_rounds
def yq:=@ntmps56
def yv:=@rounds_succ
def yx:=@func56
def yI:=@underlying3
def yJ:=@Below.alloc
def Za:=@IntWalk.u64_in
def Zw:=@free_of_one
def Yq:=@ntmps34
theorem CR :∀(x:Ty) (B:Nat) (w:World) (y r z D:Value),cx w B x y r z D->B<=w.heap.size->x.count<=4611686018427387904->
 Calls prog 54 #[.agg #[y,r,z,D]] w fun e w'=>e= .returned (.int .i64 x.count)/\Below w.heap.size w w':=by
 intro x;induction x using Ty.ind with
 |h ki s l ta ih=>
  intro B w y r z D h hB S;obtain⟨rfl,rfl,rfl,J,M,H,hs,A,cap,rfl,nR,lI,O⟩:=h;have IH:=za ih;have X:=za O;unfold l7 at J M H;obtain⟨QD,QE⟩:=J;obtain⟨QA,QC⟩:=M;obtain⟨QB,I8⟩:=H;clear ih O;have ql:1+aZ l<=4611686018427387904:=by simpa only[Ty.count]using S
  rw[show(Ty.mk ki s l ta).count=1+aZ l from by simp only[Ty.count]];clear S;go_enter func54,ntmps54
  go_wp2_with fail
  go_loopw [3,4] (fun n i wr=>∃k m:Nat,k<=l.length/\i= .int .i64 k/\Hid (m=1+aZ (l.take k))/\n= .int .i64 m/\Below w.heap.size w wr/\wr.cell? ⟨w.heap.size,2,none⟩=some (.slice A l.length cap)) (fun _ i _=>l.length-(intOf i).toNat)
  case atStart=>exact⟨0,1,by omega,rfl,za (by simp[aZ]),rfl,bN,by simp⟩
  case round=>
   obtain⟨k,m,hk,rfl,R,rfl,c,I⟩:=hrel;by_cases F:k<l.length
   ·obtain⟨b,o,d0,d1,d2,d3,rfl,eU,u,C,j,E,hi⟩:=X.out.at_ k F;simp only[zT]at u C j E;replace u:=(c.cell (p:=⟨b,o+k*4,none⟩) (by simp;omega)).trans u;replace C:=(c.cell (p:=⟨b,o+k*4+1,none⟩) (by simp;omega)).trans C;replace j:=(c.cell (p:=⟨b,o+k*4+2,none⟩) (by simp;omega)).trans j;replace E:=(c.cell (p:=⟨b,o+k*4+3,none⟩) (by simp;omega)).trans E;have Y:=c.size;have iz:=zM F;have N:=hi.below (c.mono hB);have Z:=Eb l k F;have U:=ue l (k+1);have d:=R.out;obtain⟨q,L⟩:∃q,l[k].count=q:=⟨_,rfl⟩
    have aa:m+q<=4611686018427387904:=by omega
    have W:Hid (m+q=1+aZ (l.take (k+1))):=za (by omega);have G:=za (IH.out _ iz B wr d0 d1 d2 d3 N (by omega) (by omega));rw[L]at G;clear Z U d L N hi;go_wp2_with fail
    refine G.out.mono ?_;rintro e w2 ⟨rfl,K⟩;have j9:=lt_of_cell I;have ee:=(K.cell (p:=⟨w.heap.size,2,none⟩) (by simp;omega)).trans I;have bS:=c.trans (K.mono Y);go_wp2;go_roundw
    case rel=>exact⟨k+1,m+q,by omega,by go_num,W,by go_num,bS,ee⟩
    case measure=>simp[intOf];omega
   have d:=R.out;rw[zC (by omega)]at d;have HM:=za d;clear d;go_wp2;go_ret;exact⟨by show Ending.returned (.int .i64 m)=_;rw[HM.out],c⟩
theorem Ff :∀(x:Ty) (B:Nat) (w:World) (G C I L:Value),cx w B x G C I L->B<=w.heap.size->x.deep<=4611686018427387904->
 Calls prog 55 #[.agg #[G,C,I,L]] w fun e w'=>e= .returned (.int .i64 x.deep)/\Below w.heap.size w w':=by
 intro x;induction x using Ty.ind with
 |h ki s l ta ih=>
  intro B w G C I L h hB hc;obtain⟨rfl,rfl,rfl,S,U,R,hs,A,cap,rfl,nR,lI,Y⟩:=h;have IH:=za ih;have HS:=za Y;unfold l7 at S U R;obtain⟨QD,QE⟩:=S;obtain⟨QA,QC⟩:=U;obtain⟨QB,I8⟩:=R;clear ih Y;have ql:dD l+1<=4611686018427387904:=by simpa only[Ty.deep]using hc
  rw[show(Ty.mk ki s l ta).deep=dD l+1 from by simp only[Ty.deep]];clear hc;go_enter func55,ntmps55
  go_wp2_with fail
  go_loopw [3,4] (fun n i wr=>∃k m:Nat,k<=l.length/\i= .int .i64 k/\Hid (m=dD (l.take k))/\m<=4611686018427387904/\n= .int .i64 m/\Below w.heap.size w wr/\wr.cell? ⟨w.heap.size,2,none⟩=some (.slice A l.length cap)) (fun _ i _=>l.length-(intOf i).toNat)
  case atStart=>exact⟨0,0,by omega,rfl,za (by simp[dD]),by omega,rfl,bN,by simp⟩
  case round=>
   obtain⟨k,m,hk,rfl,Z,aa,rfl,c,r⟩:=hrel;by_cases N:k<l.length
   ·obtain⟨b,o,d0,d1,d2,d3,rfl,eU,D,K,z,M,hi⟩:=HS.out.at_ k N;simp only[zT]at D K z M;replace D:=(c.cell (p:=⟨b,o+k*4,none⟩) (by simp;omega)).trans D;replace K:=(c.cell (p:=⟨b,o+k*4+1,none⟩) (by simp;omega)).trans K;replace z:=(c.cell (p:=⟨b,o+k*4+2,none⟩) (by simp;omega)).trans z;replace M:=(c.cell (p:=⟨b,o+k*4+3,none⟩) (by simp;omega)).trans M;have W:=c.size;have iz:=zM N;have F:=hi.below (c.mono hB);have X:=GV l k N;have O:=wR l (k+1);have d:=Z.out;obtain⟨q,E⟩:∃q,l[k].deep=q:=⟨_,rfl⟩
    have ab:q<=4611686018427387904:=by omega
    have u:=za (IH.out _ iz B wr d0 d1 d2 d3 F (by omega) (by omega));rw[E]at u;by_cases F4:m<q
    ·have y:Hid (q=dD (l.take (k+1))):=za (by omega);clear X O d E F hi;go_wp2_with fail
     refine u.out.mono ?_;rintro e w2 ⟨rfl,j⟩;have j9:=lt_of_cell r;have J:=(j.cell (p:=⟨w.heap.size,2,none⟩) (by simp;omega)).trans r;have H:=c.trans (j.mono W);go_wp2;go_roundw
     case rel=>exact⟨k+1,q,by omega,by go_num,y,by omega,by go_num,H,J⟩
     case measure=>simp[intOf];omega
    have y:Hid (m=dD (l.take (k+1))):=za (by omega);clear X O d E F hi;go_wp2_with fail
    refine u.out.mono ?_;rintro e w2 ⟨rfl,j⟩;have j9:=lt_of_cell r;have J:=(j.cell (p:=⟨w.heap.size,2,none⟩) (by simp;omega)).trans r;have H:=c.trans (j.mono W);go_wp2;go_roundw
    case rel=>exact⟨k+1,m,by omega,by go_num,y,by omega,by go_num,H,J⟩
    case measure=>simp[intOf];omega
   have d:=Z.out;rw[zC (by omega)]at d;have HM:=za d;clear d;go_wp2;go_ret;exact⟨by show Ending.returned (.int .i64 ((m:Int)+1))=_;rw[HM.out];go_num,c⟩
theorem S8 (n b:Nat)(d:b<256)(e:n<72057594037927936):bits .or .u64 (IntKind.u64.wrap ((n:Int)*256)) (IntKind.u64.wrap (b:Int))=((256*n+b:Nat):Int):=by
 have c:((n:Int)*256)=((n*2^(8*1):Nat):Int):=by simp
 rw[Za (b:Int) (by omega),c,Za _ (by omega),u64_or_nat _ _ (by omega) (by omega),Nat.or_comm,Uk b n 1 (by simpa using d)];omega
theorem Pe (s:ByteArray)(w:World)(o:0<s.size)(l:s.size<=8):
 Calls prog 205 #[.string s] w fun e w'=>e= .returned (.tuple #[.int .u64 (la s.data.toList),.int .i64 0])/\w=w':=by
 have hz:((s.size:Int)==0)=false:=zr.2 (by omega);go_enter func205,ntmps205
 go_wp2;go_loop [5,15] (fun n i=>∃k m:Nat,k<=s.size/\Hid (m=la (s.data.toList.take k))/\n= .int .u64 m/\i= .int .i64 k) (fun _ i=>s.size-(intOf i).toNat)
 case atStart=>exact⟨0,0,by omega,rfl,rfl,rfl⟩
 case round=>
  obtain⟨k,m,j,b,rfl,rfl⟩:=hrel;by_cases h:k<s.size
  ·go_wp2;have c:=s[k].toNat_lt;have d:=tT (s.data.toList.take k);rw[length_take s k j,<-b.out]at d;have p:2^(8*k)<=2^56:=yy (by omega) (by omega);have e:=S8 m s[k].toNat c (by omega);go_round
   case rel=>
    refine⟨k+1,_,by omega,za rfl, ?_,by go_num⟩;rw[ja s k h,tS,<-b.out,<-e]
   case measure=>simp[intOf];omega
  go_wp2;go_ret2
  exact⟨EU rfl (by rw[b.out,zC (by simp;omega)]),rfl⟩
def o9 (s:ByteArray):Int:=if s.size=0 then 0 else if 8<s.size then 5 else if fY s.data.toList then 3 else 0
def vc (s:ByteArray):Nat:=if o9 s=0 then la s.data.toList else 0
theorem Pf (s:ByteArray)(h:0<s.size):fY s.data.toList=decide (s[0].toNat=0):=by
 have:=drop_cons s 0 h;rw[zQ]at this;rw[this];simp only[fY];by_cases e:s[0]=0
 ·simp[e]
 have:s[0].toNat≠0:=fun h=>e (zW.1 h)
 simp[e,this]
theorem oM (s:ByteArray)(w:World)(p:s.size<=9223372036854775807):
 Calls prog 180 #[.string s] w fun e w'=>e= .returned (.tuple #[.int .u64 (vc s),.int .i64 (o9 s)])/\w=w':=by
 rcases fJ s with⟨hz,rfl⟩|⟨hz,o,n⟩
 ·have c:Hid (vc ⟨#[]⟩=0):=za (by simp[vc,o9,ByteArray.size,la,cV]);have b:Hid (o9 ⟨#[]⟩=0):=za (by simp[o9,ByteArray.size]);generalize vc ⟨#[]⟩=N at*;generalize o9 ⟨#[]⟩=E at*;clear hz;go_enter func180,ntmps180
  go_wp2;go_ret2
  exact⟨by rw[c.out,b.out];rfl,rfl⟩
 have k:0<s.size:=by
  rcases Zv s.size with h|h
  ·exact absurd h (by first|exact hz|omega)
  exact h
 by_cases l:s.size<=8
 ·have i:=Pf s k;by_cases d:s[0].toNat=0
  ·have b:Hid (o9 s=3):=za (by unfold o9;rw[zj (by omega),zj (by omega),i,d];rfl);have c:Hid (vc s=0):=za (by simp[vc,b.out]);have m:((s[0].toNat:Int)==0)=true:=by simp[d]
   generalize vc s=N at*;generalize o9 s=E at*;clear hz d i;go_enter func180,ntmps180
   go_wp2;go_ret2
   exact⟨by rw[c.out,b.out];rfl,rfl⟩
  have b:Hid (o9 s=0):=za (by unfold o9;rw[zj (by omega),zj (by omega),i,zz d];rfl);have c:Hid (vc s=la s.data.toList):=za (by simp[vc,b.out]);have m:((s[0].toNat:Int)==0)=false:=zr.2 (by omega);have j:=za (Pe s w k l);rw[<-c.out]at j;generalize vc s=N at*;generalize o9 s=E at*;clear hz d i;go_enter func180,ntmps180
  go_wp2_with fail
  refine j.out.mono ?_;rintro e w' ⟨rfl,rfl⟩;go_wp2;go_ret2
  exact⟨by rw[b.out];rfl,rfl⟩
 have b:Hid (o9 s=5):=za (by unfold o9;rw[zj (by omega),zl (by omega)]);have c:Hid (vc s=0):=za (by simp[vc,b.out]);generalize vc s=N at*;generalize o9 s=E at*;clear hz;go_enter func180,ntmps180
 go_wp2;go_ret2
 exact⟨by rw[c.out,b.out];rfl,rfl⟩
def Wf (tx:ByteArray)(l:Bool):Int:=if l then 12 else o9 tx
def RO (tx:ByteArray)(l:Bool):Nat:=if l then 0 else vc tx
theorem aa' (b:ByteArray)(l:Bool)(c:Value)(w:World)(j:b.size<=9223372036854775807):
 Calls prog 138 #[.agg #[.string b,.bool l,c]] w fun e w'=>e= .returned (.tuple #[.int .u64 (RO b l),.int .i64 (Wf b l)])/\Below w.heap.size w w':=by
 cases l with
 |true=>
  simp only[RO,Wf,xO];go_enter func138,ntmps138
  go_wp2;go_ret2
  exact⟨rfl,bN⟩
 |false=>
  have d:=za (fun w=>oM b w j);have i:Hid (RO b false=vc b):=za rfl;have h:Hid (Wf b false=o9 b):=za rfl;rw[i.out,h.out];generalize vc b=N at*;generalize o9 b=E at*;go_enter func138,ntmps138
  go_wp2_with fail
  refine(d.out _).mono ?_;rintro e w' ⟨rfl,rfl⟩;go_wp2;go_ret2
  exact⟨rfl,bN⟩
theorem Wg (k s q:Int)(r:Value)(b:ByteArray)(l:Bool)(d2:Value)(w:World)(A:b.size<=9223372036854775807)(C:s<=8):
 Calls prog 165 #[.agg #[.int .i64 k,.int .i64 s,r,.int .i64 q],.agg #[.string b,.bool l,d2]] w fun e w'=>e= .returned (.bool (!l&&decide ((b.size:Int)<=s)&& !fY b.data.toList))/\Below w.heap.size w w':=by
 have o:=za (fun w=>aa' b l d2 w A);obtain⟨R,m⟩:∃R,Hid ((!l&&decide ((b.size:Int)<=s)&& !fY b.data.toList)=R):=⟨_,za rfl⟩
 rw[m.out];obtain⟨E,j⟩:∃E,Hid (Wf b l=E):=⟨_,za rfl⟩
 rw[j.out]at o;generalize RO b l=N at*;by_cases hz:E=0
 ·subst hz;have x:Hid (R=decide ((b.size:Int)<=s)):=za (by
   have h:=j.out;rw[<-m.out];unfold Wf o9 at h;cases l with
   |true=>simp at h
   |false=>
    simp only[Bool.not_false,Bool.true_and];by_cases i:b.size=0
    ·have:b.data.toList= []:=zw (by rw[aa];exact i);simp[this,fY]
    rw[zj (by simp),zj i]at h;split at h
    ·simp at h
    split at h
    ·simp at h
    rename_i n;simp[n])
  clear m j;go_enter func165,ntmps165
  go_wp2_with fail
  refine(o.out _).mono ?_;rintro e d ⟨rfl,c⟩;have p:=c;simp only[zu]at p;have u:Below w.heap.size w d:=((zq w.heap.size w).alloc (zf _) _|>.alloc (by simp) _).trans (p.mono (by omega));have z:af d w.heap.size 64 #[.int .i64 k,.int .i64 s,r,.int .i64 q]:=((af.new w _ _).alloc _).only (ae.ag c (zf _)) (by simp);have y:af d (w.heap.size+1) 28 #[.string b,.bool l,d2]:=(show af _ (w.heap.size+1) _ _ from by have:=af.new (w.alloc (.cells #[.int .i64 k,.int .i64 s,r,.int .i64 q] 64)) 28 #[.string b,.bool l,d2];simpa using this).only (ae.ag c (zf _)) (by simp);have D:=z.cell 1;have g2:=y.cell 0;clear c p z y;go_wp2;go_ret;exact⟨by rw[x.out];rfl,u⟩
 have x:Hid (R=false):=za (by
  have h:=j.out;rw[<-m.out];unfold Wf o9 at h;cases l with
  |true=>simp
  |false=>
   simp only[Bool.not_false,Bool.true_and];by_cases i:b.size=0
   ·simp[i]at h;exact absurd h.symm hz
   rw[zj (by simp),zj i]at h;by_cases B:8<b.size
   ·rw[zz (by omega)];rfl
   rw[zj B]at h;by_cases n:fY b.data.toList=true
   ·simp[n]
   rw[zj n]at h;exact absurd h.symm hz)
 have F:(E==0)=false:=zr.2 hz;clear m j hz;go_enter func165,ntmps165
 go_wp2_with fail
 refine(o.out _).mono ?_;rintro e d ⟨rfl,c⟩;simp only[zu]at c;have u:Below w.heap.size w d:=((zq w.heap.size w).alloc (zf _) _|>.alloc (by simp) _).trans (c.mono (by omega));go_wp2;go_ret;exact⟨by rw[x.out];rfl,u⟩
theorem Wh (k s c:Int)(A:Option Addr)(n cap:Nat)(b:ByteArray)(l:Bool)(i:Option Addr)(m h:Nat)(w:World)(r:b.size<=9223372036854775807)(p:n<=9223372036854775807)(j:m<=9223372036854775807)(o:0<=c)(q:c<=n):
 Calls prog 166 #[.agg #[.int .i64 k,.int .i64 s,.slice A n cap,.int .i64 c],.agg #[.string b,.bool l,.slice i m h]] w fun e w'=>e= .returned (.bool (!l&&decide ((b.size:Int)=s)))/\Below w.heap.size w w':=by
 obtain⟨R,d⟩:∃R,Hid ((!l&&decide ((b.size:Int)=s))=R):=⟨_,za rfl⟩
 rw[d.out];go_enter func166,ntmps166
 cases l
 all_goals
  go_wp2;all_goals
   go_ret;refine⟨aT ?_,bN⟩;rw[<-d.out,yX];simp;try omega
theorem Wi (k s c:Int)(A:Option Addr)(n cap:Nat)(b:ByteArray)(l:Bool)(i:Option Addr)(m h:Nat)(w:World)(r:b.size<=9223372036854775807)(p:n<=9223372036854775807)(j:m<=9223372036854775807)(o:0<=c)(q:c<=n):
 Calls prog 169 #[.agg #[.int .i64 k,.int .i64 s,.slice A n cap,.int .i64 c],.agg #[.string b,.bool l,.slice i m h]] w fun e w'=>e= .returned (.bool (!l&&decide ((b.size:Int)<=s)))/\Below w.heap.size w w':=by
 obtain⟨R,d⟩:∃R,Hid ((!l&&decide ((b.size:Int)<=s))=R):=⟨_,za rfl⟩
 rw[d.out];go_enter func169,ntmps169
 cases l
 all_goals
  go_wp2;all_goals
   go_ret;refine⟨aT ?_,bN⟩;rw[<-d.out,yX];simp;try omega
theorem Wj (k s b:Int)(A:Option Addr)(n cap:Nat)(d:ByteArray)(l:Bool)(i:Option Addr)(m h:Nat)(w:World)(r:d.size<=9223372036854775807)(p:n<=9223372036854775807)(j:m<=9223372036854775807)(o:0<=b)(q:b<=n):
 Calls prog 170 #[.agg #[.int .i64 k,.int .i64 s,.slice A n cap,.int .i64 b],.agg #[.string d,.bool l,.slice i m h]] w fun e w'=>e= .returned (.bool (l&&decide ((m:Int)<=s)))/\Below w.heap.size w w':=by
 obtain⟨R,c⟩:∃R,Hid ((l&&decide ((m:Int)<=s))=R):=⟨_,za rfl⟩
 rw[c.out];go_enter func170,ntmps170
 cases l
 all_goals
  go_wp2;all_goals
   go_ret;refine⟨aT ?_,bN⟩;rw[<-c.out,yX];simp;try omega
theorem Wk (k s b:Int)(A:Option Addr)(n cap:Nat)(d:ByteArray)(l:Bool)(i:Option Addr)(m h:Nat)(w:World)(r:d.size<=9223372036854775807)(p:n<=9223372036854775807)(j:m<=9223372036854775807)(o:0<=b)(q:b<=n):
 Calls prog 173 #[.agg #[.int .i64 k,.int .i64 s,.slice A n cap,.int .i64 b],.agg #[.string d,.bool l,.slice i m h]] w fun e w'=>e= .returned (.bool (l&&decide (m<=n)&&decide ((n:Int)-b<=m)))/\Below w.heap.size w w':=by
 obtain⟨R,c⟩:∃R,Hid ((l&&decide (m<=n)&&decide ((n:Int)-b<=m))=R):=⟨_,za rfl⟩
 rw[c.out];go_enter func173,ntmps173
 cases l
 all_goals
  go_wp2;all_goals
   go_ret;refine⟨aT ?_,bN⟩;rw[<-c.out,yX];simp;try omega
def lP :Value:= .agg #[.func (.func 165) #[] #[],.func (.func 163) #[] #[]]
def jB :Value:= .agg #[.func (.func 166) #[] #[],.func (.func 167) #[] #[]]
def kg :Value:= .agg #[.func (.func 169) #[] #[],.func (.func 163) #[] #[]]
def pU :Value:= .agg #[.func (.func 170) #[] #[],.func (.func 171) #[] #[]]
def j4 :Value:= .agg #[.func (.func 173) #[] #[],.func (.func 174) #[] #[]]
def NG :List MapEntry:= [⟨.int .i64 1,lP,0⟩,⟨.int .i64 2,jB,1⟩,⟨.int .i64 3,kg,2⟩,⟨.int .i64 4,pU,3⟩,⟨.int .i64 5,j4,4⟩]
theorem S9 (w:World)(o b:Obj):({(w.alloc o)with heap:=(w.alloc o).heap.setIfInBounds w.heap.size b}:World)=w.alloc b:=by
 have h:(w.heap.push o).setIfInBounds w.heap.size b=w.heap.push b:=by
  apply Array.ext';simp
 show({w with heap:=(w.heap.push o).setIfInBounds w.heap.size b}:World)={w with heap:=w.heap.push b}
 rw[h]
theorem mT (w:World)(es:List MapEntry)(c:Nat)(k:Int)(v:Value)(h:Instr.findNow (.int .i64) (.int .i64 k) es 0=some none):
 (Instr.mapUpdate 171 (.map (some w.heap.size)) (.int .i64 k) v).run prog (w.alloc (.map es.toArray c))= .ok () (w.alloc (.map (es++ [({key:= .int .i64 k,val:=v,born:=c}:MapEntry)]).toArray (c+1))):=by
 have b:(w.alloc (.map es.toArray c)).heap[w.heap.size]?=some (.map es.toArray c):=yW w _;have d:MapKept.IsKey (.int .i64) (.int .i64 k):=by simp[MapKept.IsKey]
 simp[Instr.mapUpdate,Zb underlying171,xU b,Zg yI d,Zp yI h,MapKept.run_setObj_map _ b,Result.andThen];exact S9 w _ _
theorem mU {w:World}{g:Nat}{es:List MapEntry}{c:Nat}(b:w.heap[g]?=some (.map es.toArray c))(k:Int)(v:Value)(i:Nat)(h:Instr.findNow (.int .i64) (.int .i64 k) es 0=some (some (i,v))):
 (Instr.lookup 171 (.map (some g)) (.int .i64 k) false).run prog w= .ok v w:=by
 have d:MapKept.IsKey (.int .i64) (.int .i64 k):=by simp[MapKept.IsKey]
 simp[Instr.lookup,Zb underlying171,xU b,Zg yI d,Zp yI h,Result.andThen]
theorem Ta (w:World):Calls prog 128 #[] w fun e w'=>e= .returned (.map (some w.heap.size))/\w'=w.alloc (.map NG.toArray 5):=by
 have j:= @run_makeMap prog;have d:=mT w [] 0 1 lP rfl;have b:=mT w [⟨.int .i64 1,lP,0⟩] 1 2 jB rfl;have c:=mT w [⟨.int .i64 1,lP,0⟩,⟨.int .i64 2,jB,1⟩] 2 3 kg rfl;have h:=mT w [⟨.int .i64 1,lP,0⟩,⟨.int .i64 2,jB,1⟩,⟨.int .i64 3,kg,2⟩] 3 4 pU rfl;have i:=mT w [⟨.int .i64 1,lP,0⟩,⟨.int .i64 2,jB,1⟩,⟨.int .i64 3,kg,2⟩,⟨.int .i64 4,pU,3⟩] 4 5 j4 rfl;simp only[yE,ya,Nat.reduceAdd]at d b c h i;simp only[lP,jB,kg,pU,j4]at d b c h i;go_enter func128,ntmps128
 go_wp2;go_ret;exact⟨rfl,rfl⟩
theorem Mb (k:Int):k=1\/k=2\/k=3\/k=4\/k=5\/(k≠1/\k≠2/\k≠3/\k≠4/\k≠5):=by omega
theorem afk {s:Int}{n:Nat}{t:Int}(h:fK 1 s n t=false):(s≠1/\s≠2/\s≠4/\s≠8)\/((s=1\/s=2\/s=4\/s=8)/\n≠0)\/((s=1\/s=2\/s=4\/s=8)/\n=0/\t≠0):=by
 simp[fK]at h;omega
theorem afl {s:Int}{n:Nat}{t:Int}(h:fK 2 s n t=false):s<1\/(1<=s/\65536<s)\/(1<=s/\s<=65536/\n≠0)\/(1<=s/\s<=65536/\n=0/\t≠0):=by
 simp[fK]at h;omega
theorem afm {s:Int}{n:Nat}{t:Int}(h:fK 3 s n t=false):s<0\/(0<=s/\65536<s)\/(0<=s/\s<=65536/\n≠0)\/(0<=s/\s<=65536/\n=0/\t≠0):=by
 simp[fK]at h;omega
theorem afn {s:Int}{n:Nat}{t:Int}(h:fK 4 s n t=false):s<0\/(0<=s/\1024<s)\/(0<=s/\s<=1024/\n≠1)\/(0<=s/\s<=1024/\n=1/\t≠0):=by
 simp[fK]at h;omega
theorem afo {s:Int}{n:Nat}{t:Int}(h:fK 5 s n t=false):s≠0\/(s=0/\16<n)\/(s=0/\n<=16/\t<0)\/(s=0/\n<=16/\0<=t/\(n:Int)<t):=by
 simp[fK]at h;omega
theorem nb {a b:Int}(h:a≠b):(a==b)=false:=zr.2 h
theorem Mc :∀(x:Ty) (B:Nat) (w:World) (Y W c2 c3:Value),cx w B x Y W c2 c3->B<=w.heap.size->
 Calls prog 56 #[.agg #[Y,W,c2,c3]] w fun e w'=>e= .returned (.bool x.right)/\Below w.heap.size w w':=by
 intro x;induction x using Ty.ind with
 |h ki s l ta ih=>
  intro B w Y W c2 c3 h hB;obtain⟨rfl,rfl,rfl,pe,B4,nJ,hs,A,cap,rfl,nR,lI,du⟩:=h;have IH:=za ih;have L:=za du;unfold l7 at pe B4 nJ;obtain⟨QD,QE⟩:=pe;obtain⟨QA,QC⟩:=B4;obtain⟨QB,I8⟩:=nJ;clear ih du;have r:Hid ((Ty.mk ki s l ta).right=(fK ki s l.length ta&&bL l)):=za (by simp only[Ty.right]);generalize (Ty.mk ki s l ta).right=R at*;cases bC:fK ki s l.length ta with
  |true=>
   have hw:=lk bC;rcases hw with⟨rfl,J,d,rfl⟩|⟨rfl,h3,U,d,rfl⟩|⟨rfl,h3,U,d,rfl⟩|⟨rfl,h3,U,d,rfl⟩|⟨rfl,rfl,U,h5,h6⟩
   ·obtain rfl:l= []:=zw d;have c:Hid (R=true):=za (by rw[r.out,bC];rfl);clear r bC;rcases J with rfl|rfl|rfl|rfl;all_goals
     go_enter yx,yq
     go_wp2_with fail
     refine yi 1 ?_;rw[yv];go_wp2;go_ret;exact⟨by rw[c.out];rfl,bN⟩
   ·obtain rfl:l= []:=zw d;have c:Hid (R=true):=za (by rw[r.out,bC];rfl);clear r bC;go_enter yx,yq
    go_wp2_with fail
    refine yi 1 ?_;rw[yv];go_wp2;go_ret;exact⟨by rw[c.out];rfl,bN⟩
   ·obtain rfl:l= []:=zw d;have c:Hid (R=true):=za (by rw[r.out,bC];rfl);clear r bC;go_enter yx,yq
    go_wp2_with fail
    refine yi 1 ?_;rw[yv];go_wp2;go_ret;exact⟨by rw[c.out];rfl,bN⟩
   ·have c:Hid (R=bL l):=za (by rw[r.out,bC];rfl);have z:((l.length:Int)==1)=true:=by simp[d]
    clear r bC d;go_enter yx,yq
    go_wp2_with fail
    go_loopw [3,5] (fun ok i wr=>∃(k:Nat) (b:Bool),k<=l.length/\i= .int .i64 k/\ok= .bool b/\Hid (bL (l.take k)=b)/\Below w.heap.size w wr/\wr.cell? ⟨w.heap.size,2,none⟩=some (.slice A l.length cap)) (fun _ i _=>l.length-(intOf i).toNat)
    case atStart=>exact⟨0,true,by omega,rfl,rfl,za (by simp[bL]),bN,by simp⟩
    case round=>
     obtain⟨k,b,hk,rfl,rfl,G,m,K⟩:=hrel;by_cases u:k<l.length
     ·cases b with
      |true=>
       obtain⟨b,o,d0,d1,d2,d3,rfl,eU,E,z,D,H,hi⟩:=L.out.at_ k u;simp only[zT]at E z D H;replace E:=(m.cell (p:=⟨b,o+k*4,none⟩) (by simp;omega)).trans E;replace z:=(m.cell (p:=⟨b,o+k*4+1,none⟩) (by simp;omega)).trans z;replace D:=(m.cell (p:=⟨b,o+k*4+2,none⟩) (by simp;omega)).trans D;replace H:=(m.cell (p:=⟨b,o+k*4+3,none⟩) (by simp;omega)).trans H;have X:=m.size;have Z:=zM u;have N:=hi.below (m.mono hB);have I:=za (IH.out _ Z B wr d0 d1 d2 d3 N (by omega));obtain⟨q,F⟩:∃q,l[k].right=q:=⟨_,rfl⟩
       rw[F]at I;have S:Hid (bL (l.take (k+1))=q):=za (by rw[mq l k u,G.out,F];rfl);clear F N hi;go_wp2_with fail
       refine I.out.mono ?_;rintro e w2 ⟨rfl,M⟩;have j9:=lt_of_cell K;have ee:=(M.cell (p:=⟨w.heap.size,2,none⟩) (by simp;omega)).trans K;have bS:=m.trans (M.mono X);go_wp2;go_roundw
       case rel=>
        exact⟨k+1,q,by omega,by go_num,rfl,S,bS,ee⟩
       case measure=>simp[intOf];omega
      |false=>
       have HN:Hid (bL l=false):=za (by
        have j:=ia (l.take k) (l.drop k);rw[zN,G.out]at j;simpa using j)
       obtain⟨b0,o0,_,_,_,_,rfl,_⟩:=L.out.at_ k u;go_wp2;go_ret;exact⟨by rw[c.out,HN.out];rfl,m⟩
     have C:=G.out;rw[zC (by omega)]at C;have HM:=za C;clear C;go_wp2;go_ret;exact⟨by rw[c.out,HM.out];rfl,m⟩
   have c:Hid (R=bL l):=za (by rw[r.out,bC];rfl);clear r bC;go_enter yx,yq
   go_wp2_with fail
   go_loopw [3,5] (fun ok i wr=>∃(k:Nat) (b:Bool),k<=l.length/\i= .int .i64 k/\ok= .bool b/\Hid (bL (l.take k)=b)/\Below w.heap.size w wr/\wr.cell? ⟨w.heap.size,2,none⟩=some (.slice A l.length cap)) (fun _ i _=>l.length-(intOf i).toNat)
   case atStart=>exact⟨0,true,by omega,rfl,rfl,za (by simp[bL]),bN,by simp⟩
   case round=>
    obtain⟨k,b,hk,rfl,rfl,G,m,K⟩:=hrel;by_cases u:k<l.length
    ·cases b with
     |true=>
      obtain⟨b,o,d0,d1,d2,d3,rfl,eU,E,z,D,H,hi⟩:=L.out.at_ k u;simp only[zT]at E z D H;replace E:=(m.cell (p:=⟨b,o+k*4,none⟩) (by simp;omega)).trans E;replace z:=(m.cell (p:=⟨b,o+k*4+1,none⟩) (by simp;omega)).trans z;replace D:=(m.cell (p:=⟨b,o+k*4+2,none⟩) (by simp;omega)).trans D;replace H:=(m.cell (p:=⟨b,o+k*4+3,none⟩) (by simp;omega)).trans H;have X:=m.size;have Z:=zM u;have N:=hi.below (m.mono hB);have I:=za (IH.out _ Z B wr d0 d1 d2 d3 N (by omega));obtain⟨q,F⟩:∃q,l[k].right=q:=⟨_,rfl⟩
      rw[F]at I;have S:Hid (bL (l.take (k+1))=q):=za (by rw[mq l k u,G.out,F];rfl);clear F N hi;go_wp2_with fail
      refine I.out.mono ?_;rintro e w2 ⟨rfl,M⟩;have j9:=lt_of_cell K;have ee:=(M.cell (p:=⟨w.heap.size,2,none⟩) (by simp;omega)).trans K;have bS:=m.trans (M.mono X);go_wp2;go_roundw
      case rel=>
       exact⟨k+1,q,by omega,by go_num,rfl,S,bS,ee⟩
      case measure=>simp[intOf];omega
     |false=>
      have HN:Hid (bL l=false):=za (by
       have j:=ia (l.take k) (l.drop k);rw[zN,G.out]at j;simpa using j)
      obtain⟨b0,o0,_,_,_,_,rfl,_⟩:=L.out.at_ k u;go_wp2;go_ret;exact⟨by rw[c.out,HN.out];rfl,m⟩
    have C:=G.out;rw[zC (by omega)]at C;have HM:=za C;clear C;go_wp2;go_ret;exact⟨by rw[c.out,HM.out];rfl,m⟩
  |false=>
   have c:Hid (R=false):=za (by rw[r.out,bC];rfl);clear r L IH;rcases Mb ki with rfl|rfl|rfl|rfl|rfl|⟨n1,n2,n3,n4,n5⟩
   ·rcases afk bC with⟨m1,m2,m3,m4⟩|⟨J,d⟩|⟨J,d,n⟩
    ·have y:=nb m1;have O:=nb m2;have f3:=nb m3;have f4:=nb m4;clear bC m1 m2 m3 m4;go_enter yx,yq
     go_wp2_with fail
     refine yi 1 ?_;rw[yv];go_wp2;all_goals
      go_ret;exact⟨by rw[c.out];rfl,bN⟩
    ·have y:((l.length:Int)==0)=false:=nb (by omega);clear bC d;rcases J with rfl|rfl|rfl|rfl;all_goals
      go_enter yx,yq
      go_wp2_with fail
      refine yi 1 ?_;rw[yv];go_wp2;all_goals
       go_ret;exact⟨by rw[c.out];rfl,bN⟩
    obtain rfl:l= []:=zw d;have O:=nb n;clear bC n;rcases J with rfl|rfl|rfl|rfl;all_goals
     go_enter yx,yq
     go_wp2_with fail
     refine yi 1 ?_;rw[yv];go_wp2;all_goals
      go_ret;exact⟨by rw[c.out];rfl,bN⟩
   ·rcases afl bC with j|⟨j,h2⟩|⟨j,h2,d⟩|⟨j,h2,d,n⟩
    ·clear bC;go_enter yx,yq
     go_wp2_with fail
     refine yi 1 ?_;rw[yv];go_wp2;all_goals
      go_ret;exact⟨by rw[c.out];rfl,bN⟩
    ·clear bC;go_enter yx,yq
     go_wp2_with fail
     refine yi 1 ?_;rw[yv];go_wp2;all_goals
      go_ret;exact⟨by rw[c.out];rfl,bN⟩
    ·have y:((l.length:Int)==0)=false:=nb (by omega);clear bC d;go_enter yx,yq
     go_wp2_with fail
     refine yi 1 ?_;rw[yv];go_wp2;all_goals
      go_ret;exact⟨by rw[c.out];rfl,bN⟩
    obtain rfl:l= []:=zw d;have O:=nb n;clear bC n;go_enter yx,yq
    go_wp2_with fail
    refine yi 1 ?_;rw[yv];go_wp2;all_goals
     go_ret;exact⟨by rw[c.out];rfl,bN⟩
   ·rcases afm bC with j|⟨j,h2⟩|⟨j,h2,d⟩|⟨j,h2,d,n⟩
    ·clear bC;go_enter yx,yq
     go_wp2_with fail
     refine yi 1 ?_;rw[yv];go_wp2;all_goals
      go_ret;exact⟨by rw[c.out];rfl,bN⟩
    ·clear bC;go_enter yx,yq
     go_wp2_with fail
     refine yi 1 ?_;rw[yv];go_wp2;all_goals
      go_ret;exact⟨by rw[c.out];rfl,bN⟩
    ·have y:((l.length:Int)==0)=false:=nb (by omega);clear bC d;go_enter yx,yq
     go_wp2_with fail
     refine yi 1 ?_;rw[yv];go_wp2;all_goals
      go_ret;exact⟨by rw[c.out];rfl,bN⟩
    obtain rfl:l= []:=zw d;have O:=nb n;clear bC n;go_enter yx,yq
    go_wp2_with fail
    refine yi 1 ?_;rw[yv];go_wp2;all_goals
     go_ret;exact⟨by rw[c.out];rfl,bN⟩
   ·rcases afn bC with j|⟨j,h2⟩|⟨j,h2,d⟩|⟨j,h2,d,n⟩
    ·clear bC;go_enter yx,yq
     go_wp2_with fail
     refine yi 1 ?_;rw[yv];go_wp2;all_goals
      go_ret;exact⟨by rw[c.out];rfl,bN⟩
    ·clear bC;go_enter yx,yq
     go_wp2_with fail
     refine yi 1 ?_;rw[yv];go_wp2;all_goals
      go_ret;exact⟨by rw[c.out];rfl,bN⟩
    ·have y:((l.length:Int)==1)=false:=nb (by omega);clear bC d;go_enter yx,yq
     go_wp2_with fail
     refine yi 1 ?_;rw[yv];go_wp2;all_goals
      go_ret;exact⟨by rw[c.out];rfl,bN⟩
    have y:((l.length:Int)==1)=true:=by simp[d]
    have O:=nb n;clear bC n d;go_enter yx,yq
    go_wp2_with fail
    refine yi 1 ?_;rw[yv];go_wp2;all_goals
     go_ret;exact⟨by rw[c.out];rfl,bN⟩
   ·rcases afo bC with j|⟨rfl,h2⟩|⟨rfl,h2,n⟩|⟨rfl,h2,n,Qn⟩
    ·have y:=nb j;clear bC j;go_enter yx,yq
     go_wp2_with fail
     refine yi 1 ?_;rw[yv];go_wp2;all_goals
      go_ret;exact⟨by rw[c.out];rfl,bN⟩
    ·clear bC;go_enter yx,yq
     go_wp2_with fail
     refine yi 1 ?_;rw[yv];go_wp2;all_goals
      go_ret;exact⟨by rw[c.out];rfl,bN⟩
    ·clear bC;go_enter yx,yq
     go_wp2_with fail
     refine yi 1 ?_;rw[yv];go_wp2;all_goals
      go_ret;exact⟨by rw[c.out];rfl,bN⟩
    have y:decide (ta<=(l.length:Int))=false:=zz (by omega);clear bC;go_enter yx,yq
    go_wp2_with fail
    refine yi 1 ?_;rw[yv];go_wp2;all_goals
     go_ret;exact⟨by rw[c.out];rfl,bN⟩
   have y:=nb n1;have O:=nb n2;have f3:=nb n3;have f4:=nb n4;have f5:=nb n5;clear bC n1 n2 n3 n4 n5;go_enter yx,yq
   go_wp2_with fail
   refine yi 1 ?_;rw[yv];go_wp2;all_goals
    go_ret;exact⟨by rw[c.out];rfl,bN⟩
theorem J9 (x:Ty)(B:Nat)(w:World)(j d k l:Value)(h:cx w B x j d k l)(N:B<=w.heap.size)(M:x.count<=4611686018427387904):
 Calls prog 36 #[.agg #[j,d,k,l]] w fun e w'=>e= .returned (.bool x.may)/\Below w.heap.size w w':=by
 have I:=Ll x;have p:cx (w.alloc (.cells #[j,d,k,l] 64)) B x j d k l:=h.below (blm N);have o:=za (CR x B _ j d k l p (by simp;omega) (by omega));have C:=za (fun c b hz=>Ff x B c j d k l (cx.below p b) hz (by omega));have F:=za (fun c b hz=>Mc x B c j d k l (cx.below p b) hz);have i:Hid (x.may=(decide (x.count<=64)&&decide (x.deep<=8)&&x.right)):=za rfl;obtain⟨r,z⟩:∃r,x.right=r:=⟨_,rfl⟩
 obtain⟨K,hd⟩:∃q,x.deep=q:=⟨_,rfl⟩
 obtain⟨q,s⟩:∃q,x.count=q:=⟨_,rfl⟩
 rw[z,s,hd]at i;rw[s]at o;rw[hd]at C;rw[z]at F;obtain⟨A,cap,rfl,rfl,rfl,rfl,_⟩:=h.open_;clear z s hd I p h M;generalize x.may=R at*;generalize x.kind=S at*;generalize x.size=Y at*;generalize x.tail=W at*;by_cases E:q<=64
 ·by_cases D:K<=8
  ·have n:Hid (R=r):=za (by rw[i.out];simp[D,E]);clear i;go_enter func36,ntmps36
   go_wp2_with fail
   refine o.out.mono ?_;rintro e c ⟨rfl,b⟩;obtain⟨g0,g1,g2,g3⟩:=LD (by simpa using b);have u:=b.size;simp only[zu]at u;have y:=(yJ (zq w.heap.size w) (zf _) _).trans (b.mono (by simp));go_wp2_with fail
   refine(C.out c (b.mono (by simp;omega)) (by omega)).mono ?_;rintro e H ⟨rfl,m⟩;have G:=b.trans (m.mono (by simp;omega));have X:=m.size;obtain⟨U,k1,k2,O⟩:=LD (by simpa using G);have L:=y.trans (m.mono (by omega));go_wp2_with fail
   refine(F.out H (G.mono (by simp;omega)) (by omega)).mono ?_;rintro e w3 ⟨rfl,J⟩;go_wp2;go_ret;exact⟨by rw[n.out];rfl,L.trans (J.mono (by omega))⟩
  have n:Hid (R=false):=za (by rw[i.out];simp[D]);clear i;go_enter func36,ntmps36
  go_wp2_with fail
  refine o.out.mono ?_;rintro e c ⟨rfl,b⟩;obtain⟨g0,g1,g2,g3⟩:=LD (by simpa using b);have u:=b.size;simp only[zu]at u;have y:=(yJ (zq w.heap.size w) (zf _) _).trans (b.mono (by simp));go_wp2_with fail
  refine(C.out c (b.mono (by simp;omega)) (by omega)).mono ?_;rintro e H ⟨rfl,m⟩;go_wp2;go_ret;exact⟨by rw[n.out];rfl,y.trans (m.mono (by omega))⟩
 have n:Hid (R=false):=za (by rw[i.out];simp[E]);clear i;go_enter func36,ntmps36
 go_wp2_with fail
 refine o.out.mono ?_;rintro e c ⟨rfl,b⟩;go_wp2;go_ret;exact⟨by rw[n.out];rfl,(yJ (zq _ _) (zf _) _).trans (b.mono (by simp))⟩
theorem Wl :∀(x:It) (B:Nat) (w:World) (E C F:Value),bZ w B x E C F->B<=w.heap.size->∀left:Int,0<left->left<=4611686018427387904->
 Calls prog 20 #[.agg #[E,C,F],.int .i64 left] w fun e w'=>e= .returned (.int .i64 (x.room left))/\Below w.heap.size w w':=by
 intro x;induction x using It.ind with
 |h t l s ih=>
  intro B w E C F h hB left DF B5;obtain⟨rfl,rfl,ht,hs,A,cap,rfl,nR,lI,O⟩:=h;have IH:=za ih;have K:=za O;clear ih O;have S:Hid ((It.mk t l s).room left=max (cD s (left-1)) 0):=za (by simp only[It.room]);have HB:=za (fun k=>D9 (s.take k) (fun x _=>Cm x) (left-1) (by omega));generalize (It.mk t l s).room left=R at*;go_enter func20,ntmps20
  go_wp2_with fail
  go_loopw [1,5] (fun n i wr=>∃(k:Nat) (m:Int),k<=s.length/\i= .int .i64 k/\Hid (m=cD (s.take k) (left-1))/\0<=m/\m<=left-1/\n= .int .i64 m/\Below w.heap.size w wr/\wr.cell? ⟨w.heap.size,2,none⟩=some (.slice A s.length cap)) (fun _ i _=>s.length-(intOf i).toNat)
  case atStart=>exact⟨0,left-1,by omega,rfl,za (by simp[cD]),by omega,by omega,rfl,bN,by simp⟩
  case round=>
   obtain⟨k,m,hk,rfl,j,Gr,TO,rfl,c,J⟩:=hrel;by_cases y:k<s.length
   ·by_cases H:0<m
    ·obtain⟨b,o,d0,d1,d2,rfl,eU,D,G,z,hi⟩:=K.out.at_ k y;simp only[zT]at D G z;replace D:=(c.cell (p:=⟨b,o+k*3,none⟩) (by simp;omega)).trans D;replace G:=(c.cell (p:=⟨b,o+k*3+1,none⟩) (by simp;omega)).trans G;replace z:=(c.cell (p:=⟨b,o+k*3+2,none⟩) (by simp;omega)).trans z;have X:=c.size;have Z:=zM y;have N:=hi.below (c.mono hB);have u:=GQ s k y (left-1) (by rw[<-j.out];exact H);have U:=Cm s[k] m H;rw[<-j.out]at u;obtain⟨q,M⟩:∃q,s[k].room m=q:=⟨_,rfl⟩
     have I:=za (IH.out _ Z B wr d0 d1 d2 N (by omega) m H (by omega));rw[M]at I u U;have W:Hid (q=cD (s.take (k+1)) (left-1)):=za u.symm;obtain⟨Y,aa⟩:=U;clear u M N hi;go_wp2_with fail
     refine I.out.mono ?_;rintro e w2 ⟨rfl,L⟩;have j9:=lt_of_cell J;have ee:=(L.cell (p:=⟨w.heap.size,2,none⟩) (by simp;omega)).trans J;have bS:=c.trans (L.mono X);go_wp2;go_roundw
     case rel=>exact⟨k+1,q,by omega,by go_num,W,Y,by omega,rfl,bS,ee⟩
     case measure=>simp[intOf];omega
    have d:=Bd s k (left-1) (.inl (by rw[<-j.out];omega));have r:Hid (R=0):=za (by rw[S.out,d,<-j.out];omega);have ab:m<=0:=by omega
    obtain⟨b0,o0,_,_,_,rfl,_⟩:=K.out.at_ k y;clear d;go_wp2;all_goals
     go_ret;exact⟨by first|(rw[r.out];rfl)|(show Ending.returned (.int .i64 m)=_;rw[r.out,show m=0 from by omega]),c⟩
   have d:=Bd s k (left-1) (.inr (by omega));have r:Hid (R=m):=za (by rw[S.out,d,<-j.out];omega);clear d;go_wp2;all_goals
    go_ret;exact⟨by first|(show Ending.returned (.int .i64 m)=_;rw[r.out])|(rw[r.out,show m=0 from by omega];rfl),c⟩
theorem Wm :∀(x:It) (B:Nat) (w:World) (C y D:Value),bZ w B x C y D->B<=w.heap.size->
 Calls prog 21 #[.agg #[C,y,D]] w fun e w'=>e= .returned (.int .i64 x.ow)/\Below w.heap.size w w':=by
 intro x;induction x using It.ind with
 |h t l s ih=>
  intro B w C y D h hB;obtain⟨rfl,rfl,ht,hs,A,cap,rfl,nR,lI,M⟩:=h;have Y:=za ih;have S:=za M;clear ih M;obtain⟨c,G⟩:∃c,min t.size 10000=c:=⟨_,rfl⟩
  have HR:Hid ((It.mk t l s).ow=gx s c):=za (by simp only[It.ow,G]);have qk:c<=10000:=by omega
  have HN:=za G;clear G;generalize (It.mk t l s).ow=R at*;rcases Nat.lt_trichotomy t.size 10000 with nn|nn|nn;all_goals
   have U:Hid (min t.size 10000=c):=HN;go_enter func21,ntmps21
   go_wp2_with fail
   go_loopw [3,4] (fun n i wr=>∃k m:Nat,k<=s.length/\i= .int .i64 k/\Hid (m=gx (s.take k) c)/\m<=10000/\n= .int .i64 m/\Below w.heap.size w wr/\wr.cell? ⟨w.heap.size,2,none⟩=some (.slice A s.length cap)) (fun _ i _=>s.length-(intOf i).toNat)
   case atStart=>
    refine⟨0,c,by omega,rfl,za (by simp[gx]),by omega, ?_,bN,by simp⟩;have hh:=U.out;rcases(show(t.size:Int)=c\/(10000:Int)=c from by omega)with hx|hx
    ·(rw[<-hx])<;>first|rfl|(rw[show(t.size:Int)=10000 from by omega])
    (rw[<-hx])<;>first|rfl|(rw[show(t.size:Int)=10000 from by omega])
   case round=>
    obtain⟨k,m,hk,rfl,N,ab,rfl,d,I⟩:=hrel;by_cases F:k<s.length
    ·obtain⟨b,o,d0,d1,d2,rfl,eU,z,E,u,hi⟩:=S.out.at_ k F;simp only[zT]at z E u;replace z:=(d.cell (p:=⟨b,o+k*3,none⟩) (by simp;omega)).trans z;replace E:=(d.cell (p:=⟨b,o+k*3+1,none⟩) (by simp;omega)).trans E;replace u:=(d.cell (p:=⟨b,o+k*3+2,none⟩) (by simp;omega)).trans u;have W:=d.size;have X:=zM F;have L:=hi.below (d.mono hB);have r:=GR s k F c;have aa:=Sm s[k];have j:=N.out;obtain⟨q,K⟩:∃q,s[k].ow=q:=⟨_,rfl⟩
     have H:=za (Y.out _ X B wr d0 d1 d2 L (by omega));rw[K]at H r aa;rw[<-j]at r;have O:=za r;clear r j K L hi;rcases(show m+q<10000\/(m+q<=10000/\10000<=m+q)\/10000<m+q from by omega)with hx|⟨hx,hx2⟩|hx;all_goals
      go_wp2_with fail
      refine H.out.mono ?_;rintro e w2 ⟨rfl,J⟩;have j9:=lt_of_cell I;have ee:=(J.cell (p:=⟨w.heap.size,2,none⟩) (by simp;omega)).trans I;have bS:=d.trans (J.mono W);go_wp2;all_goals
       go_roundw
       case rel=>
        refine⟨k+1,min (m+q) 10000,by omega,by go_num,za O.out.symm,by omega, ?_,bS,ee⟩;first
         |(rw[show min (m+q) 10000=m+q from by omega];go_num)
         |(rw[show min (m+q) 10000=10000 from by omega];rfl)
         |(rw[show((min (m+q) 10000:Nat):Int)=if(10000:Int)<(m:Int)+q then 10000 else(m:Int)+q from by split<;>omega])
       case measure=>simp[intOf];omega
    have j:=N.out;rw[zC (by omega)]at j;have Z:=za j;clear j;go_wp2;go_ret;exact⟨by show Ending.returned (.int .i64 m)=_;rw[Z.out,HR.out],d⟩
theorem BI (w:World)(T:TypeId)(d e h:Value)(b:World)(c:Below (w.heap.size+1) (w.alloc (.cells #[d,e,h] T)) b):
 b.cell? ⟨w.heap.size,0,none⟩=some d/\b.cell? ⟨w.heap.size,1,none⟩=some e/\b.cell? ⟨w.heap.size,2,none⟩=some h:=by
 refine⟨?_, ?_, ?_⟩
 ·rw[c.cell (by simp)];simp
 ·rw[c.cell (by simp)];simp
 rw[c.cell (by simp)];simp
theorem Tb (x:It)(B:Nat)(w:World)(i d j:Value)(h:bZ w B x i d j)(E:B<=w.heap.size):
 Calls prog 7 #[.agg #[i,d,j]] w fun e w'=>e= .returned (.bool x.mn)/\Below w.heap.size w w':=by
 have o:bZ (w.alloc (.cells #[i,d,j] 28)) B x i d j:=h.below (blm E);have n:=za (Wl x B _ i d j o (by simp;omega) 1200 (by omega) (by omega));have s:=za (fun c b=>Wm x B c i d j (bZ.below o b));have k:Hid (x.mn=(decide (x.room 1200=0)||decide (6000<x.ow))):=za rfl;obtain⟨r,m⟩:∃r,x.room 1200=r:=⟨_,rfl⟩
 obtain⟨q,l⟩:∃q,x.ow=q:=⟨_,rfl⟩
 rw[m,l]at k;rw[m]at n;rw[l]at s;obtain⟨A,cap,rfl,rfl,rfl,_⟩:=h.open_;clear m l o h;generalize x.mn=R at*;by_cases hz:r=0
 ·have D:(r==0)=true:=by simp[hz]
  have p:Hid (R=true):=za (by rw[k.out];simp[hz]);clear hz k;go_enter func7,ntmps7
  go_wp2_with fail
  refine n.out.mono ?_;rintro e c ⟨rfl,b⟩;go_wp2;go_ret;exact⟨by rw[p.out];rfl,(yJ (zq _ _) (zf _) _).trans (b.mono (by simp))⟩
 have D:(r==0)=false:=by simp[hz]
 have p:Hid (R=decide (6000<q)):=za (by rw[k.out];simp[hz]);clear hz k;go_enter func7,ntmps7
 go_wp2_with fail
 refine n.out.mono ?_;rintro e c ⟨rfl,b⟩;obtain⟨g0,g1,g2⟩:=BI w 28 _ _ _ c (by simpa using b);have z:=b.size;simp only[zu]at z;have u:Below B (w.alloc (.cells #[.string x.text,.bool x.list,.slice A x.sub.length cap] 28)) c:=b.mono (by simp;omega);have C:=(yJ (zq w.heap.size w) (zf _) _).trans (b.mono (by simp));go_wp2_with fail
 refine(s.out c u (by omega)).mono ?_;rintro e F ⟨rfl,y⟩;go_wp2;all_goals
  go_ret;refine⟨?_,C.trans (y.mono (by omega))⟩;rw[p.out];first|rfl|(rw[show decide (6000<q)=true from by simp;omega];rfl)|(rw[show decide (6000<q)=false from by simp;omega];rfl)|(show Ending.returned (.bool (decide ((6000:Int)<q)))=_;rw[show decide ((6000:Int)<q)=decide (6000<q)from by simp only[decide_eq_decide];omega])
theorem Pg (t:ByteArray)(l:Bool)(A:Option Addr)(n cap:Nat)(w:World)(i:n<=9223372036854775807):
 Calls prog 132 #[.agg #[.string t,.bool l,.slice A n cap]] w fun e w'=>e= .returned (.bool (formed t l n))/\Below w.heap.size w w':=by
 cases l with
 |true=>
  rcases fJ t with⟨hz,rfl⟩|⟨hz,h,d⟩
  ·have b:Hid (formed ⟨#[]⟩ true n=true):=za rfl;generalize formed ⟨#[]⟩ true n=R at*;clear hz;go_enter func132,ntmps132
   go_wp2;go_ret;exact⟨by rw[b.out];rfl,bN⟩
  have b:Hid (formed t true n=false):=za (by simp[formed,hz]);generalize formed t true n=R at*;clear hz;go_enter func132,ntmps132
  go_wp2;go_ret;exact⟨by rw[b.out];rfl,bN⟩
 |false=>
  by_cases c:n=0
  ·have b:Hid (formed t false n=true):=za (by simp[formed,c]);generalize formed t false n=R at*;go_enter func132,ntmps132
   go_wp2;go_ret;exact⟨by rw[b.out];rfl,bN⟩
  have b:Hid (formed t false n=false):=za (by simp[formed,c]);have j:((n:Int)==0)=false:=zr.2 (by omega);generalize formed t false n=R at*;clear c;go_enter func132,ntmps132
  go_wp2;go_ret;exact⟨by rw[b.out];rfl,bN⟩
theorem Ie (t:ByteArray)(l:Bool)(A:Option Addr)(n cap:Nat)(w:World):
 Calls prog 137 #[.agg #[.string t,.bool l,.slice A n cap]] w fun e w'=>e= .returned (.bool true)/\Below w.heap.size w w':=by
 go_enter func137,ntmps137
 go_wp2;go_ret;exact⟨rfl,bN⟩
def Uv (fv:Value)(x:It):Prop:=fv= .func (.func 132) #[] #[]\/fv= .func (.func 137) #[] #[]/\x.right=true
structure Af (fv:Value)(w:World)(cb eb db vb c d:Nat):Prop where
 kB:af w cb 3 #[.int .i64 c]
 each:af w eb 34 #[fv]
 dp:af w db 3 #[.int .i64 d]
 gL:af w vb 221 #[.func (.func 175) #[] #[.pointer (some ⟨cb,0,none⟩),.pointer (some ⟨eb,0,none⟩),.pointer (some ⟨db,0,none⟩),.pointer (some ⟨vb,0,none⟩)]]
theorem Af.below {k:Value}{w w':World}{cb i e j c d:Nat}(h:Af k w cb i e j c d)(b:Below w.heap.size w w'):Af k w' cb i e j c d:=
 ⟨h.kB.only (ae.ag b (zf _)) (by simp),h.each.only (ae.ag b (zf _)) (by simp),h.dp.only (ae.ag b (zf _)) (by simp),h.gL.only (ae.ag b (zf _)) (by simp)⟩
theorem af.Uw {w:World}{g c:Nat}{t d:TypeId}{e i:Array Value}(h:af w g t e)(b:af w c d i)(j:t≠d):g≠c:=by
 rintro rfl;unfold af at h b;rw[h]at b;injection b with b;injection b with _ ht;exact j ht
theorem Af.step {l:Value}{w:World}{cb i b k c d j e:Nat}{u v:Int}(h:Af l w cb i b k c d)(m:cb≠b)(hu:u=(j:Int))(n:v=(e:Int)):Af l ((w.setCell ⟨cb,0,none⟩ (.int .i64 u)).setCell ⟨b,0,none⟩ (.int .i64 v)) cb i b k j e:=by
 subst hu;subst n;have n1:=h.kB.Uw h.each (by decide);have n2:=h.kB.Uw h.gL (by decide);have o:=h.dp.Uw h.each (by decide);have q:=h.dp.Uw h.gL (by decide);exact⟨af.dE (show af _ _ _ _ from one_setCell h.kB) (p:=⟨b,0,none⟩) m _,(h.each.dE (p:=⟨cb,0,none⟩) n1.symm _).dE (p:=⟨b,0,none⟩) o.symm _,one_setCell (h.dp.dE (p:=⟨cb,0,none⟩) m.symm _),(h.gL.dE (p:=⟨cb,0,none⟩) n2.symm _).dE (p:=⟨b,0,none⟩) q.symm _⟩
theorem Tc :∀(x:It) (B:Nat) (w:World) (c0 c1 y:Value),bZ w B x c0 c1 y->B<=w.heap.size->∀(u:Value),Uv u x->∀(cb z m r j c d:Nat),Af u w cb z m r c d->B<=cb->B<=m->cb≠m->1<=j->j<=17->c<=1024->d<=17->
 Calls prog 175 #[.agg #[c0,c1,y],.int .i64 j,.pointer (some ⟨cb,0,none⟩),.pointer (some ⟨z,0,none⟩),.pointer (some ⟨m,0,none⟩),.pointer (some ⟨r,0,none⟩)] w fun e w'=>
  e= .returned (.bool (x.gL j c d).1)/\Af u w' cb z m r (x.gL j c d).2.1 (x.gL j c d).2.2/\ae [cb,m] w w':=by
 intro x;induction x using It.ind with
 |h t l s ih=>
  intro B w c0 c1 y h hB u aa cb z m r j c d n aj ao ag ar av hc hd;obtain⟨rfl,rfl,ht,hs,A,cap,rfl,nR,lI,du⟩:=h;have IH:=za ih;have HS:=za du;clear ih du;have n1:=n.kB.Uw n.each (by decide);have n2:=n.kB.Uw n.gL (by decide);have n3:=n.dp.Uw n.each (by decide);have n4:=n.dp.Uw n.gL (by decide);have q1:w.cell? ⟨cb,0,none⟩=some (.int .i64 c):=yd n.kB;have q2:w.cell? ⟨z,0,none⟩=some u:=yd n.each;have U:=za n;have l1:=n.kB.lt;have l2:=n.each.lt;have l4:=n.gL.lt;have D:Hid ((It.mk t l s).gL j c d=if 16<j\/c=1024\/formed t l s.length=false then(false,c,d)else fN s (j+1) (c+1) (max d j)):=za (by simp only[It.gL]);generalize (It.mk t l s).gL j c d=R at*;clear n;by_cases h1:16<j
  ·have q:Hid (R=(false,c,d)):=za (by rw[D.out,zl (.inl h1)]);clear D;go_enter func175,ntmps175
   go_wp2;go_ret;rw[q.out];exact⟨rfl,U.out.below bN,Cr⟩
  by_cases Y:c=1024
  ·have e1:((c:Int)==1024)=true:=by simp;omega
   have q:Hid (R=(false,c,d)):=za (by rw[D.out,zl (.inr (.inl Y))]);clear D Y;go_enter func175,ntmps175
   go_wp2;go_ret;rw[q.out];exact⟨rfl,U.out.below bN,Cr⟩
  have e1:((c:Int)==1024)=false:=zr.2 (by omega);have ah:=za aa;have Dg:(u= .func (.func 132) #[] #[]/\Hid (Calls prog 132 #[.agg #[.string t,.bool l,.slice A s.length cap]] (w.alloc (.cells #[.string t,.bool l,.slice A s.length cap] 28)) fun e w'=>e= .returned (.bool (formed t l s.length))/\Below (w.alloc (.cells #[.string t,.bool l,.slice A s.length cap] 28)).heap.size (w.alloc (.cells #[.string t,.bool l,.slice A s.length cap] 28)) w'))\/
   (u= .func (.func 137) #[] #[]/\Hid (Calls prog 137 #[.agg #[.string t,.bool l,.slice A s.length cap]] (w.alloc (.cells #[.string t,.bool l,.slice A s.length cap] 28)) fun e w'=>e= .returned (.bool (formed t l s.length))/\Below (w.alloc (.cells #[.string t,.bool l,.slice A s.length cap] 28)).heap.size (w.alloc (.cells #[.string t,.bool l,.slice A s.length cap] 28)) w')):=by
   rcases aa with h|⟨h,hx⟩
   ·exact .inl ⟨h,za (Pg t l A s.length cap _ hs)⟩
   exact .inr ⟨h,za (by rw[(mz hx).1];exact Ie t l A s.length cap _)⟩
  clear aa;rcases Dg with⟨ak,H⟩|⟨ak,H⟩;all_goals
   cases hf:formed t l s.length with
   |false=>
    rw[hf]at H;have q:Hid (R=(false,c,d)):=za (by rw[D.out,zl (.inr (.inr hf))]);clear D hf Y;go_enter func175,ntmps175
    go_wp2_with fail
    refine H.out.mono ?_;rintro e C ⟨rfl,hb⟩;go_wp2;go_ret;rw[q.out];have K:Below w.heap.size w C:=(yJ (zq _ _) (zf _) _).trans (hb.mono (by simp));exact⟨rfl,U.out.below K,(ae.ag K (zf _)).mono (by simp)⟩
   |true=>
    rw[hf]at H;have q:Hid (R=fN s (j+1) (c+1) (max d j)):=za (by rw[D.out,zj (by rw[hf];simp;omega)]);have wH:c<=1023:=by omega
    clear D hf Y;obtain⟨M,hM⟩:∃M,max d j=M:=⟨_,rfl⟩
    rcases Nat.lt_trichotomy d j with hx|hx|hx;all_goals
     rw[hM]at q;have HM:=za hM;clear hM;go_enter func175,ntmps175
     go_wp2_with fail
     refine H.out.mono ?_;rintro e C ⟨rfl,kz⟩;obtain⟨g0,g1,g2⟩:=BI w 28 _ _ _ C (by simpa using kz);have K:Below w.heap.size w C:=(yJ (zq _ _) (zf _) _).trans (kz.mono (by simp));have G:=U.out.below K;have p1:C.cell? ⟨cb,0,none⟩=some (.int .i64 c):=yd G.kB;have aq:C.frozen? ⟨cb,0,none⟩=false:=Zw G.kB;have p3:C.cell? ⟨m,0,none⟩=some (.int .i64 d):=yd G.dp;have aw:C.frozen? ⟨m,0,none⟩=false:=Zw G.dp;have Gy:=za G;clear G kz q1 q2 H;go_wp2_with fail
     all_goals
      go_loopw [31] (fun i wr=>∃k E F:Nat,k<=s.length/\i= .int .i64 k/\Hid (fN (s.take k) (j+1) (c+1) M=(true,E,F))/\Af u wr cb z m r E F/\ae [cb,m] w wr/\E<=1024/\F<=17) (fun i _=>s.length-(intOf i).toNat)
      case atStart=>
       refine⟨0,c+1,M,by omega,rfl,za (by simp[fN]),Gy.out.step ag (by omega) (by have:=HM.out;omega), ?_,by omega,by have:=HM.out;omega⟩;exact(((ae.ag K (zf _)).mono (by simp)).setCell (by simp) _).setCell (by simp) _
      case round=>
       obtain⟨k,E,F,hk,rfl,XI,ab,I,af,an⟩:=hrel;have q4:wr.cell? ⟨r,0,none⟩=some (.func (.func 175) #[] #[.pointer (some ⟨cb,0,none⟩),.pointer (some ⟨z,0,none⟩),.pointer (some ⟨m,0,none⟩),.pointer (some ⟨r,0,none⟩)]):=yd ab.gL;have S:Below B w wr:=I.below hB (by simp;omega);have UL:=I.size;have au:r<wr.heap.size:=by omega
       have I':=za ab;clear ab;by_cases O:k<s.length
       ·obtain⟨b,o,d0,d1,d2,rfl,eU,e0,qs,e2,hi⟩:=HS.out.at_ k O;simp only[zT]at e0 qs e2;replace e0:=(S.cell (p:=⟨b,o+k*3,none⟩) eU).trans e0;replace qs:=(S.cell (p:=⟨b,o+k*3+1,none⟩) eU).trans qs;replace e2:=(S.cell (p:=⟨b,o+k*3+2,none⟩) eU).trans e2;obtain⟨A2,cr,rfl,rfl,rfl,_⟩:=hi.open_;have iz:=zM O;have k7:=hi.below S;have ad:=I'.out.below (yJ (zq _ wr) (zf _) (.cells #[.string s[k].text,.bool s[k].list,.slice A2 s[k].sub.length cr] 28));have Z:=za (IH.out _ iz B (wr.alloc (.cells #[.string s[k].text,.bool s[k].list,.slice A2 s[k].sub.length cr] 28)) _ _ _ (k7.below (yJ (zq _ _) (by omega) _)) (by simp;omega) u (ah.out.imp id (fun h=>⟨h.1,js h.2 k O⟩)) cb z m r (j+1) E F ad aj ao ag (by omega) (by omega) af an);have X:=(G4 s[k] (j+1) E F (by omega) af).2.2;obtain⟨⟨al,y,W⟩,L⟩:∃T,s[k].gL (j+1) E F=T:=⟨_,rfl⟩
        rw[L]at Z X;have ai:y<=1024/\W<=17:=by simp at X;omega
        obtain⟨KI,kb⟩:=ai;have e9:(j:Int)+1=((j+1:Nat):Int):=by omega
        have E9:=za e9;cases al with
        |true=>
         have J:Hid (fN (s.take (k+1)) (j+1) (c+1) M=(true,y,W)):=za (by rw[Bo O XI.out,L]);clear hi k7 ad L X e9;go_wp2_with fail
         rw[E9.out];refine Z.out.mono ?_;rintro e w2 ⟨rfl,mc,N⟩;have Ja:ae [cb,m] w w2:=(I.alloc _).trans N;clear N;go_wp2;go_roundw
         case rel=>exact⟨k+1,y,W,by omega,by go_num,J,mc,Ja,KI,kb⟩
         case measure=>simp[intOf];omega
        |false=>
         have J:Hid (fN s (j+1) (c+1) M=(false,y,W)):=za (Lw O XI.out L);clear hi k7 ad L X e9;go_wp2_with fail
         rw[E9.out];refine Z.out.mono ?_;rintro e w2 ⟨rfl,mc,N⟩;have Ja:ae [cb,m] w w2:=(I.alloc _).trans N;clear N;go_wp2;go_ret;rw[q.out,J.out];exact⟨rfl,mc,Ja⟩
       have I9:=XI.out;rw[zC (by omega)]at I9;have J:=za I9;clear I9;go_wp2;go_ret;rw[q.out,J.out];exact⟨rfl,I'.out,I⟩
def jC (a b:It)(e:Ending):Prop:=∃r:Bool,e= .returned (.bool r)/\(r=true↔a=b)
theorem jC.no {a b:It}(h:a≠b):jC a b (.returned (.bool false)):=⟨false,rfl,by simp[h]⟩
theorem jC.yes {a b:It}(h:a=b):jC a b (.returned (.bool true)):=⟨true,rfl,by simp[h]⟩
theorem Ig {s b:List It}(c:s.length=b.length)(h:∀j (d:j<s.length) (e:j<b.length),s[j]=b[j]):s=b:=List.ext_getElem c h
theorem Md :∀(x:It) (B:Nat) (w:World) (S M W:Value),bZ w B x S M W->B<=w.heap.size->∀(y:It) (r u z:Value),bZ w B y r u z->
 Calls prog 34 #[.agg #[S,M,W],.agg #[r,u,z]] w fun e w'=>jC x y e/\Below w.heap.size w w':=by
 intro x;induction x using It.ind with
 |h t l s ih=>
  intro B w S M W h hB y r u z hy;obtain⟨rfl,rfl,ht,hs,A,cap,rfl,nR,lI,du⟩:=h;have IH:=za ih;have HS:=za du;clear ih du;obtain⟨R,O,c⟩:=y;obtain⟨rfl,rfl,ak,UM,L,Y,rfl,ao,al,UZ⟩:=hy;have ae:=za UZ;clear UZ;by_cases m:l=O
  ·subst m;have G:(l !=l)=false:=by simp
   have F:(l==l)=true:=by simp
   rcases ph t R with⟨rfl,q1,q2⟩|⟨cd,q1,q2⟩
   ·by_cases q:s.length=c.length
    ·have H3:=za q;have e3:((s.length:Int) !=(c.length:Int))=false:=by simp[q]
     have ah:(s.length !=c.length)=false:=by simp[q]
     clear q;go_enter func34,Yq
     go_wp2_with fail
     go_loopw [5] (fun i wr=>∃k:Nat,k<=s.length/\i= .int .i64 k/\Hid (∀j (m:j<s.length) (E:j<c.length),j<k->s[j]=c[j])/\Below w.heap.size w wr/\af wr w.heap.size 28 #[.string t,.bool l,.slice A s.length cap]/\af wr (w.heap.size+1) 28 #[.string t,.bool l,.slice L c.length Y]) (fun i _=>s.length-(intOf i).toNat)
     case atStart=>exact⟨0,by omega,rfl,za (by omega),bN,(af.new w _ _).alloc _,by have:=af.new (w.alloc (.cells #[.string t,.bool l,.slice A s.length cap] 28)) 28 #[.string t,.bool l,.slice L c.length Y];simpa using this⟩
     case round=>
      obtain⟨k,hk,rfl,aa,d,X,C⟩:=hrel;have g1:wr.cell? ⟨w.heap.size,2,none⟩=some (.slice A s.length cap):=X.cell 2;have g2:wr.cell? ⟨w.heap.size+1,2,none⟩=some (.slice L c.length Y):=C.cell 2;have B5:=C.lt;have K1:=za X;have K2:=za C;clear X C;by_cases aC:k<s.length
      ·have XJ:k<c.length:=by have:=H3.out;omega
       obtain⟨b,o,r,u,z,rfl,eU,N,G,J,hi⟩:=HS.out.at_ k aC;obtain⟨I,U,ai,ag,ad,rfl,an,H,F,K,Z⟩:=ae.out.at_ k XJ;simp only[zT]at N G J H F K;replace N:=(d.cell (p:=⟨b,o+k*3,none⟩) (by simp;omega)).trans N;replace G:=(d.cell (p:=⟨b,o+k*3+1,none⟩) (by simp;omega)).trans G;replace J:=(d.cell (p:=⟨b,o+k*3+2,none⟩) (by simp;omega)).trans J;replace H:=(d.cell (p:=⟨I,U+k*3,none⟩) (by simp;omega)).trans H;replace F:=(d.cell (p:=⟨I,U+k*3+1,none⟩) (by simp;omega)).trans F;replace K:=(d.cell (p:=⟨I,U+k*3+2,none⟩) (by simp;omega)).trans K;have hG:=d.size;have iz:=zM aC;have HC:=za (IH.out _ iz B wr.drew r u z ((hi.below (d.mono hB)).below (zq _ _).drew) (by simp;omega) _ ai ag ad ((Z.below (d.mono hB)).below (zq _ _).drew));clear hi Z;go_wp2_with fail
       go_still_tail 10,(by kernel_rfl)
       change wpList _ _ _ _ _ wr.drew
       go_wp2_with fail
       refine HC.out.mono ?_;rintro e w2 ⟨⟨ab,rfl,hr⟩,aM⟩;have HR:=za hr;have D:=za aM;clear hr aM;cases ab with
       |true=>
        go_wp2;go_roundw
        case rel=>
         refine⟨k+1,by omega,by go_num,za fun j m E hj=> ?_,d.drew.trans (D.out.mono (by simpa using hG)),K1.out.drew.ah D.out (by simp;omega),K2.out.drew.ah D.out (by simpa using B5)⟩;by_cases Qv:j=k
         ·subst Qv;exact HR.out.1 (by simp)
         exact aa.out j m E (by omega)
        case measure=>simp[intOf];omega
       |false=>
        have n:Hid (It.mk t l s≠It.mk t l c):=za (by
         intro e;injection e with _ _ e;subst e;have:=HR.out.2 rfl;simp at this)
        go_wp2;go_ret;exact⟨jC.no n.out,d.drew.trans (D.out.mono (by simpa using hG))⟩
      have HE:Hid (It.mk t l s=It.mk t l c):=za (by rw[Ig H3.out (fun j m E=>aa.out j m E (by omega))]);go_wp2;go_ret;exact⟨jC.yes HE.out,d⟩
    have n:Hid (It.mk t l s≠It.mk t l c):=za (by intro e;injection e with _ _ e;exact q (by rw[e]));have e3:((s.length:Int) !=(c.length:Int))=true:=by simp;omega
    have ah:(s.length !=c.length)=true:=by simp;omega
    clear q;go_enter func34,Yq
    go_wp2;go_ret;exact⟨jC.no n.out,bN⟩
   have n:Hid (It.mk t l s≠It.mk R l c):=za (by intro e;injection e with e;exact cd e);clear cd;go_enter func34,Yq
   go_wp2;go_ret;exact⟨jC.no n.out,bN⟩
  have n:Hid (It.mk t l s≠It.mk R O c):=za (by intro e;injection e with _ e;exact m e);cases l<;>cases O
  ·exact absurd rfl m
  ·clear m;go_enter func34,Yq
   go_wp2;go_ret;exact⟨jC.no n.out,bN⟩
  ·clear m;go_enter func34,Yq
   go_wp2;go_ret;exact⟨jC.no n.out,bN⟩
  exact absurd rfl m
