/- What the document tells of types (hatchwayref20.Count, Deep, right, May), and what the statements ask (room, Great). -/
import Derived.BigQuiet
import Derived.Test.YtpjgigllldipiaaGreatDoorKA7
import Derived.StillTailTactics
set_option linter.all false
set_option maxRecDepth 100000
set_option maxHeartbeats 8000000
namespace Go.Proofs.YtpjgigllldipiaaGreatDoor
open Go.RowKit
def zv:=@World.size_alloc
def yd:=@cell_of_one
def yi:=@wp_loop_rounds
def yq:=@Tryz.ntmps56
def yw:=@rounds_succ
def yx:=@Tryz.func56
def yI:=@Tryz.underlying3
def yJ:=@Below.alloc
def Zd:=@IntWalk.u64_in
def Zw:=@free_of_one
def Yr:=@Tryz.ntmps34
theorem C0 :∀(x:Ty) (B:Nat) (w:World) (E D z u:Value),cw w B x E D z u->B<=w.heap.size->x.count<=4611686018427387904->
 Calls Tryz.prog 54 #[.agg #[E,D,z,u]] w fun e w'=>e= .returned (.int .i64 x.count)/\Below w.heap.size w w':=by
 intro x;induction x using Ty.ind with
 |h ki s l ta ih=>
  intro B w E D z u h hB L;obtain⟨rfl,rfl,rfl,K,R,G,hs,A,cap,rfl,nW,lM,M⟩:=h;have IH:=za ih;have U:=za M;unfold l9 at K R G;obtain⟨QP,QQ⟩:=K;obtain⟨QN,QR⟩:=R;obtain⟨QO,Jp⟩:=G;clear ih M;have qu:1+aZ l<=4611686018427387904:=by simpa only[Ty.count]using L
  rw[show(Ty.mk ki s l ta).count=1+aZ l from by simp only[Ty.count]];clear L;go_enter Tryz.func54,Tryz.ntmps54
  go_wp2_with fail
  go_loopw [3,4] (fun n i wr=>∃k m:Nat,k<=l.length/\i= .int .i64 k/\Hid (m=1+aZ (l.take k))/\n= .int .i64 m/\Below w.heap.size w wr/\wr.cell? ⟨w.heap.size,2,none⟩=some (.slice A l.length cap)) (fun _ i _=>l.length-(intOf i).toNat)
  case atStart=>exact⟨0,1,by omega,rfl,za (by simp[aZ]),rfl,bM,by simp⟩
  case round=>
   obtain⟨k,m,hk,rfl,H,rfl,c,N⟩:=hrel;by_cases F:k<l.length
   ·obtain⟨b,o,d0,d1,d2,d3,rfl,fa,j,y,C,r,hi⟩:=U.out.at_ k F;simp only[zQ]at j y C r;replace j:=(c.cell (p:=⟨b,o+k*4,none⟩) (by simp;omega)).trans j;replace y:=(c.cell (p:=⟨b,o+k*4+1,none⟩) (by simp;omega)).trans y;replace C:=(c.cell (p:=⟨b,o+k*4+2,none⟩) (by simp;omega)).trans C;replace r:=(c.cell (p:=⟨b,o+k*4+3,none⟩) (by simp;omega)).trans r;have hZ:=c.size;have W:=zM F;have S:=hi.below (c.mono hB);have X:=Ej l k F;have T7:=uv l (k+1);have d:=H.out;obtain⟨q,O⟩:∃q,l[k].count=q:=⟨_,rfl⟩
    have aa:m+q<=4611686018427387904:=by omega
    have Hq:Hid (m+q=1+aZ (l.take (k+1))):=za (by omega);have J:=za (IH.out _ W B wr d0 d1 d2 d3 S (by omega) (by omega));rw[O]at J;clear X T7 d O S hi;go_wp2_with fail
    refine J.out.mono ?_;rintro e w2 ⟨rfl,I⟩;have kf:=lt_of_cell N;have Y:=(I.cell (p:=⟨w.heap.size,2,none⟩) (by simp;omega)).trans N;have bS:=c.trans (I.mono hZ);go_wp2;go_roundw
    case rel=>exact⟨k+1,m+q,by omega,by go_num,Hq,by go_num,bS,Y⟩
    case measure=>simp[intOf];omega
   have d:=H.out;rw[zC (by omega)]at d;have Z:=za d;clear d;go_wp2;go_ret;exact⟨by show Ending.returned (.int .i64 m)=_;rw[Z.out],c⟩
theorem Fp :∀(x:Ty) (B:Nat) (w:World) (L K F C:Value),cw w B x L K F C->B<=w.heap.size->x.deep<=4611686018427387904->
 Calls Tryz.prog 55 #[.agg #[L,K,F,C]] w fun e w'=>e= .returned (.int .i64 x.deep)/\Below w.heap.size w w':=by
 intro x;induction x using Ty.ind with
 |h ki s l ta ih=>
  intro B w L K F C h hB X;obtain⟨rfl,rfl,rfl,U,Z,O,hs,A,cap,rfl,nW,lM,Y⟩:=h;have IH:=za ih;have HS:=za Y;unfold l9 at U Z O;obtain⟨QP,QQ⟩:=U;obtain⟨QN,QR⟩:=Z;obtain⟨QO,Jp⟩:=O;clear ih Y;have qu:dI l+1<=4611686018427387904:=by simpa only[Ty.deep]using X
  rw[show(Ty.mk ki s l ta).deep=dI l+1 from by simp only[Ty.deep]];clear X;go_enter Tryz.func55,Tryz.ntmps55
  go_wp2_with fail
  go_loopw [3,4] (fun n i wr=>∃k m:Nat,k<=l.length/\i= .int .i64 k/\Hid (m=dI (l.take k))/\m<=4611686018427387904/\n= .int .i64 m/\Below w.heap.size w wr/\wr.cell? ⟨w.heap.size,2,none⟩=some (.slice A l.length cap)) (fun _ i _=>l.length-(intOf i).toNat)
  case atStart=>exact⟨0,0,by omega,rfl,za (by simp[dI]),by omega,rfl,bM,by simp⟩
  case round=>
   obtain⟨k,m,hk,rfl,S,aa,rfl,c,r⟩:=hrel;by_cases M:k<l.length
   ·obtain⟨b,o,d0,d1,d2,d3,rfl,fa,u,E,G,y,hi⟩:=HS.out.at_ k M;simp only[zQ]at u E G y;replace u:=(c.cell (p:=⟨b,o+k*4,none⟩) (by simp;omega)).trans u;replace E:=(c.cell (p:=⟨b,o+k*4+1,none⟩) (by simp;omega)).trans E;replace G:=(c.cell (p:=⟨b,o+k*4+2,none⟩) (by simp;omega)).trans G;replace y:=(c.cell (p:=⟨b,o+k*4+3,none⟩) (by simp;omega)).trans y;have W:=c.size;have iE:=zM M;have N:=hi.below (c.mono hB);have R:=G9 l k M;have T7:=Ac l (k+1);have d:=S.out;obtain⟨q,H⟩:∃q,l[k].deep=q:=⟨_,rfl⟩
    have ab:q<=4611686018427387904:=by omega
    have z:=za (IH.out _ iE B wr d0 d1 d2 d3 N (by omega) (by omega));rw[H]at z;by_cases Gc:m<q
    ·have I:Hid (q=dI (l.take (k+1))):=za (by omega);clear R T7 d H N hi;go_wp2_with fail
     refine z.out.mono ?_;rintro e w2 ⟨rfl,j⟩;have kf:=lt_of_cell r;have D:=(j.cell (p:=⟨w.heap.size,2,none⟩) (by simp;omega)).trans r;have J:=c.trans (j.mono W);go_wp2;go_roundw
     case rel=>exact⟨k+1,q,by omega,by go_num,I,by omega,by go_num,J,D⟩
     case measure=>simp[intOf];omega
    have I:Hid (m=dI (l.take (k+1))):=za (by omega);clear R T7 d H N hi;go_wp2_with fail
    refine z.out.mono ?_;rintro e w2 ⟨rfl,j⟩;have kf:=lt_of_cell r;have D:=(j.cell (p:=⟨w.heap.size,2,none⟩) (by simp;omega)).trans r;have J:=c.trans (j.mono W);go_wp2;go_roundw
    case rel=>exact⟨k+1,m,by omega,by go_num,I,by omega,by go_num,J,D⟩
    case measure=>simp[intOf];omega
   have d:=S.out;rw[zC (by omega)]at d;have HM:=za d;clear d;go_wp2;go_ret;exact⟨by show Ending.returned (.int .i64 ((m:Int)+1))=_;rw[HM.out];go_num,c⟩
theorem Tm (n b:Nat)(c:b<256)(e:n<72057594037927936):bits .or .u64 (IntKind.u64.wrap ((n:Int)*256)) (IntKind.u64.wrap (b:Int))=((256*n+b:Nat):Int):=by
 have d:((n:Int)*256)=((n*2^(8*1):Nat):Int):=by simp
 rw[Zd (b:Int) (by omega),d,Zd _ (by omega),u64_or_nat _ _ (by omega) (by omega),Nat.or_comm,UF b n 1 (by simpa using c)];omega
theorem Pv (s:ByteArray)(w:World)(l:0<s.size)(o:s.size<=8):
 Calls Tryz.prog 205 #[.string s] w fun e w'=>e= .returned (.tuple #[.int .u64 (lk s.data.toList),.int .i64 0])/\w=w':=by
 have hz:((s.size:Int)==0)=false:=zr.2 (by omega);go_enter Tryz.func205,Tryz.ntmps205
 go_wp2;go_loop [5,15] (fun n i=>∃k m:Nat,k<=s.size/\Hid (m=lk (s.data.toList.take k))/\n= .int .u64 m/\i= .int .i64 k) (fun _ i=>s.size-(intOf i).toNat)
 case atStart=>exact⟨0,0,by omega,rfl,rfl,rfl⟩
 case round=>
  obtain⟨k,m,j,b,rfl,rfl⟩:=hrel;by_cases h:k<s.size
  ·go_wp2;have d:=s[k].toNat_lt;have c:=ue (s.data.toList.take k);rw[length_take s k j,<-b.out]at c;have p:2^(8*k)<=2^56:=yy (by omega) (by omega);have e:=Tm m s[k].toNat d (by omega);go_round
   case rel=>
    refine⟨k+1,_,by omega,za rfl, ?_,by go_num⟩;rw[jh s k h,ud,<-b.out,<-e]
   case measure=>simp[intOf];omega
  go_wp2;go_ret2
  exact⟨Fb rfl (by rw[b.out,zC (by simp;omega)]),rfl⟩
def pe (s:ByteArray):Int:=if s.size=0 then 0 else if 8<s.size then 5 else if gj s.data.toList then 3 else 0
def vq (s:ByteArray):Nat:=if pe s=0 then lk s.data.toList else 0
theorem Pw (s:ByteArray)(h:0<s.size):gj s.data.toList=decide (s[0].toNat=0):=by
 have:=drop_cons s 0 h;rw[zN]at this;rw[this];simp only[gj];by_cases e:s[0]=0
 ·simp[e]
 have:s[0].toNat≠0:=fun h=>e (zW.1 h)
 simp[e,this]
theorem oQ (s:ByteArray)(w:World)(o:s.size<=9223372036854775807):
 Calls Tryz.prog 180 #[.string s] w fun e w'=>e= .returned (.tuple #[.int .u64 (vq s),.int .i64 (pe s)])/\w=w':=by
 rcases fR s with⟨hz,rfl⟩|⟨hz,p,n⟩
 ·have c:Hid (vq ⟨#[]⟩=0):=za (by simp[vq,pe,ByteArray.size,lk,cZ]);have b:Hid (pe ⟨#[]⟩=0):=za (by simp[pe,ByteArray.size]);generalize vq ⟨#[]⟩=N at*;generalize pe ⟨#[]⟩=E at*;clear hz;go_enter Tryz.func180,Tryz.ntmps180
  go_wp2;go_ret2
  exact⟨by rw[c.out,b.out];rfl,rfl⟩
 have k:0<s.size:=by
  rcases Zv s.size with h|h
  ·exact absurd h (by first|exact hz|omega)
  exact h
 by_cases m:s.size<=8
 ·have i:=Pw s k;by_cases d:s[0].toNat=0
  ·have b:Hid (pe s=3):=za (by unfold pe;rw[zj (by omega),zj (by omega),i,d];rfl);have c:Hid (vq s=0):=za (by simp[vq,b.out]);have l:((s[0].toNat:Int)==0)=true:=by simp[d]
   generalize vq s=N at*;generalize pe s=E at*;clear hz d i;go_enter Tryz.func180,Tryz.ntmps180
   go_wp2;go_ret2
   exact⟨by rw[c.out,b.out];rfl,rfl⟩
  have b:Hid (pe s=0):=za (by unfold pe;rw[zj (by omega),zj (by omega),i,zz d];rfl);have c:Hid (vq s=lk s.data.toList):=za (by simp[vq,b.out]);have l:((s[0].toNat:Int)==0)=false:=zr.2 (by omega);have j:=za (Pv s w k m);rw[<-c.out]at j;generalize vq s=N at*;generalize pe s=E at*;clear hz d i;go_enter Tryz.func180,Tryz.ntmps180
  go_wp2_with fail
  refine j.out.mono ?_;rintro e w' ⟨rfl,rfl⟩;go_wp2;go_ret2
  exact⟨by rw[b.out];rfl,rfl⟩
 have b:Hid (pe s=5):=za (by unfold pe;rw[zj (by omega),zl (by omega)]);have c:Hid (vq s=0):=za (by simp[vq,b.out]);generalize vq s=N at*;generalize pe s=E at*;clear hz;go_enter Tryz.func180,Tryz.ntmps180
 go_wp2;go_ret2
 exact⟨by rw[c.out,b.out];rfl,rfl⟩
def WD (tx:ByteArray)(l:Bool):Int:=if l then 12 else pe tx
def Sb (tx:ByteArray)(l:Bool):Nat:=if l then 0 else vq tx
theorem abC (b:ByteArray)(l:Bool)(j:Value)(w:World)(c:b.size<=9223372036854775807):
 Calls Tryz.prog 138 #[.agg #[.string b,.bool l,j]] w fun e w'=>e= .returned (.tuple #[.int .u64 (Sb b l),.int .i64 (WD b l)])/\Below w.heap.size w w':=by
 cases l with
 |true=>
  simp only[Sb,WD,xS];go_enter Tryz.func138,Tryz.ntmps138
  go_wp2;go_ret2
  exact⟨rfl,bM⟩
 |false=>
  have i:=za (fun w=>oQ b w c);have d:Hid (Sb b false=vq b):=za rfl;have h:Hid (WD b false=pe b):=za rfl;rw[d.out,h.out];generalize vq b=N at*;generalize pe b=E at*;go_enter Tryz.func138,Tryz.ntmps138
  go_wp2_with fail
  refine(i.out _).mono ?_;rintro e w' ⟨rfl,rfl⟩;go_wp2;go_ret2
  exact⟨rfl,bM⟩
theorem WE (k s q:Int)(u:Value)(b:ByteArray)(l:Bool)(d2:Value)(w:World)(A:b.size<=9223372036854775807)(F:s<=8):
 Calls Tryz.prog 165 #[.agg #[.int .i64 k,.int .i64 s,u,.int .i64 q],.agg #[.string b,.bool l,d2]] w fun e w'=>e= .returned (.bool (!l&&decide ((b.size:Int)<=s)&& !gj b.data.toList))/\Below w.heap.size w w':=by
 have r:=za (fun w=>abC b l d2 w A);obtain⟨R,i⟩:∃R,Hid ((!l&&decide ((b.size:Int)<=s)&& !gj b.data.toList)=R):=⟨_,za rfl⟩
 rw[i.out];obtain⟨E,d⟩:∃E,Hid (WD b l=E):=⟨_,za rfl⟩
 rw[d.out]at r;generalize Sb b l=N at*;by_cases hz:E=0
 ·subst hz;have x:Hid (R=decide ((b.size:Int)<=s)):=za (by
   have h:=d.out;rw[<-i.out];unfold WD pe at h;cases l with
   |true=>simp at h
   |false=>
    simp only[Bool.not_false,Bool.true_and];by_cases j:b.size=0
    ·have:b.data.toList= []:=zt (by rw[aa];exact j);simp[this,gj]
    rw[zj (by simp),zj j]at h;split at h
    ·simp at h
    split at h
    ·simp at h
    rename_i n;simp[n])
  clear i d;go_enter Tryz.func165,Tryz.ntmps165
  go_wp2_with fail
  refine(r.out _).mono ?_;rintro e m ⟨rfl,c⟩;have p:=c;simp only[zv]at p;have o:Below w.heap.size w m:=((zq w.heap.size w).alloc (zi _) _|>.alloc (by simp) _).trans (p.mono (by omega));have z:af m w.heap.size 64 #[.int .i64 k,.int .i64 s,u,.int .i64 q]:=((af.new w _ _).alloc _).only (ae.ah c (zi _)) (by simp);have y:af m (w.heap.size+1) 28 #[.string b,.bool l,d2]:=(show af _ (w.heap.size+1) _ _ from by have:=af.new (w.alloc (.cells #[.int .i64 k,.int .i64 s,u,.int .i64 q] 64)) 28 #[.string b,.bool l,d2];simpa using this).only (ae.ah c (zi _)) (by simp);have C:=z.cell 1;have g2:=y.cell 0;clear c p z y;go_wp2;go_ret;exact⟨by rw[x.out];rfl,o⟩
 have x:Hid (R=false):=za (by
  have h:=d.out;rw[<-i.out];unfold WD pe at h;cases l with
  |true=>simp
  |false=>
   simp only[Bool.not_false,Bool.true_and];by_cases j:b.size=0
   ·simp[j]at h;exact absurd h.symm hz
   rw[zj (by simp),zj j]at h;by_cases B:8<b.size
   ·rw[zz (by omega)];rfl
   rw[zj B]at h;by_cases n:gj b.data.toList=true
   ·simp[n]
   rw[zj n]at h;exact absurd h.symm hz)
 have D:(E==0)=false:=zr.2 hz;clear i d hz;go_enter Tryz.func165,Tryz.ntmps165
 go_wp2_with fail
 refine(r.out _).mono ?_;rintro e m ⟨rfl,c⟩;simp only[zv]at c;have o:Below w.heap.size w m:=((zq w.heap.size w).alloc (zi _) _|>.alloc (by simp) _).trans (c.mono (by omega));go_wp2;go_ret;exact⟨by rw[x.out];rfl,o⟩
theorem WG (k s c:Int)(A:Option Addr)(n cap:Nat)(b:ByteArray)(l:Bool)(h:Option Addr)(m i:Nat)(w:World)(p:b.size<=9223372036854775807)(o:n<=9223372036854775807)(q:m<=9223372036854775807)(r:0<=c)(j:c<=n):
 Calls Tryz.prog 166 #[.agg #[.int .i64 k,.int .i64 s,.slice A n cap,.int .i64 c],.agg #[.string b,.bool l,.slice h m i]] w fun e w'=>e= .returned (.bool (!l&&decide ((b.size:Int)=s)))/\Below w.heap.size w w':=by
 obtain⟨R,d⟩:∃R,Hid ((!l&&decide ((b.size:Int)=s))=R):=⟨_,za rfl⟩
 rw[d.out];go_enter Tryz.func166,Tryz.ntmps166
 cases l
 all_goals
  go_wp2;all_goals
   go_ret;refine⟨aV ?_,bM⟩;rw[<-d.out,yY];simp;try omega
theorem WH (k s c:Int)(A:Option Addr)(n cap:Nat)(b:ByteArray)(l:Bool)(h:Option Addr)(m i:Nat)(w:World)(p:b.size<=9223372036854775807)(o:n<=9223372036854775807)(q:m<=9223372036854775807)(r:0<=c)(j:c<=n):
 Calls Tryz.prog 169 #[.agg #[.int .i64 k,.int .i64 s,.slice A n cap,.int .i64 c],.agg #[.string b,.bool l,.slice h m i]] w fun e w'=>e= .returned (.bool (!l&&decide ((b.size:Int)<=s)))/\Below w.heap.size w w':=by
 obtain⟨R,d⟩:∃R,Hid ((!l&&decide ((b.size:Int)<=s))=R):=⟨_,za rfl⟩
 rw[d.out];go_enter Tryz.func169,Tryz.ntmps169
 cases l
 all_goals
  go_wp2;all_goals
   go_ret;refine⟨aV ?_,bM⟩;rw[<-d.out,yY];simp;try omega
theorem WI (k s b:Int)(A:Option Addr)(n cap:Nat)(c:ByteArray)(l:Bool)(h:Option Addr)(m i:Nat)(w:World)(p:c.size<=9223372036854775807)(o:n<=9223372036854775807)(q:m<=9223372036854775807)(r:0<=b)(j:b<=n):
 Calls Tryz.prog 170 #[.agg #[.int .i64 k,.int .i64 s,.slice A n cap,.int .i64 b],.agg #[.string c,.bool l,.slice h m i]] w fun e w'=>e= .returned (.bool (l&&decide ((m:Int)<=s)))/\Below w.heap.size w w':=by
 obtain⟨R,d⟩:∃R,Hid ((l&&decide ((m:Int)<=s))=R):=⟨_,za rfl⟩
 rw[d.out];go_enter Tryz.func170,Tryz.ntmps170
 cases l
 all_goals
  go_wp2;all_goals
   go_ret;refine⟨aV ?_,bM⟩;rw[<-d.out,yY];simp;try omega
theorem WJ (k s b:Int)(A:Option Addr)(n cap:Nat)(c:ByteArray)(l:Bool)(h:Option Addr)(m i:Nat)(w:World)(p:c.size<=9223372036854775807)(o:n<=9223372036854775807)(q:m<=9223372036854775807)(r:0<=b)(j:b<=n):
 Calls Tryz.prog 173 #[.agg #[.int .i64 k,.int .i64 s,.slice A n cap,.int .i64 b],.agg #[.string c,.bool l,.slice h m i]] w fun e w'=>e= .returned (.bool (l&&decide (m<=n)&&decide ((n:Int)-b<=m)))/\Below w.heap.size w w':=by
 obtain⟨R,d⟩:∃R,Hid ((l&&decide (m<=n)&&decide ((n:Int)-b<=m))=R):=⟨_,za rfl⟩
 rw[d.out];go_enter Tryz.func173,Tryz.ntmps173
 cases l
 all_goals
  go_wp2;all_goals
   go_ret;refine⟨aV ?_,bM⟩;rw[<-d.out,yY];simp;try omega
def lT :Value:= .agg #[.func (.func 165) #[] #[],.func (.func 163) #[] #[]]
def jE :Value:= .agg #[.func (.func 166) #[] #[],.func (.func 167) #[] #[]]
def kr :Value:= .agg #[.func (.func 169) #[] #[],.func (.func 163) #[] #[]]
def qc :Value:= .agg #[.func (.func 170) #[] #[],.func (.func 171) #[] #[]]
def j9 :Value:= .agg #[.func (.func 173) #[] #[],.func (.func 174) #[] #[]]
def N1 :List MapEntry:= [⟨.int .i64 1,lT,0⟩,⟨.int .i64 2,jE,1⟩,⟨.int .i64 3,kr,2⟩,⟨.int .i64 4,qc,3⟩,⟨.int .i64 5,j9,4⟩]
theorem Tn (w:World)(o b:Obj):({(w.alloc o)with heap:=(w.alloc o).heap.setIfInBounds w.heap.size b}:World)=w.alloc b:=by
 have h:(w.heap.push o).setIfInBounds w.heap.size b=w.heap.push b:=by
  apply Array.ext';simp
 show({w with heap:=(w.heap.push o).setIfInBounds w.heap.size b}:World)={w with heap:=w.heap.push b}
 rw[h]
theorem mY (w:World)(es:List MapEntry)(c:Nat)(k:Int)(v:Value)(h:Instr.findNow (.int .i64) (.int .i64 k) es 0=some none):
 (Instr.mapUpdate 171 (.map (some w.heap.size)) (.int .i64 k) v).run Tryz.prog (w.alloc (.map es.toArray c))= .ok () (w.alloc (.map (es++ [({key:= .int .i64 k,val:=v,born:=c}:MapEntry)]).toArray (c+1))):=by
 have b:(w.alloc (.map es.toArray c)).heap[w.heap.size]?=some (.map es.toArray c):=yX w _;have d:MapKept.IsKey (.int .i64) (.int .i64 k):=by simp[MapKept.IsKey]
 simp[Instr.mapUpdate,Ze Tryz.underlying171,xY b,Zj yI d,Zp yI h,MapKept.run_setObj_map _ b,Result.andThen];exact Tn w _ _
theorem mZ {w:World}{g:Nat}{es:List MapEntry}{c:Nat}(b:w.heap[g]?=some (.map es.toArray c))(k:Int)(v:Value)(i:Nat)(h:Instr.findNow (.int .i64) (.int .i64 k) es 0=some (some (i,v))):
 (Instr.lookup 171 (.map (some g)) (.int .i64 k) false).run Tryz.prog w= .ok v w:=by
 have d:MapKept.IsKey (.int .i64) (.int .i64 k):=by simp[MapKept.IsKey]
 simp[Instr.lookup,Ze Tryz.underlying171,xY b,Zj yI d,Zp yI h,Result.andThen]
theorem To (w:World):Calls Tryz.prog 128 #[] w fun e w'=>e= .returned (.map (some w.heap.size))/\w'=w.alloc (.map N1.toArray 5):=by
 have j:= @run_makeMap Tryz.prog;have c:=mY w [] 0 1 lT rfl;have i:=mY w [⟨.int .i64 1,lT,0⟩] 1 2 jE rfl;have d:=mY w [⟨.int .i64 1,lT,0⟩,⟨.int .i64 2,jE,1⟩] 2 3 kr rfl;have b:=mY w [⟨.int .i64 1,lT,0⟩,⟨.int .i64 2,jE,1⟩,⟨.int .i64 3,kr,2⟩] 3 4 qc rfl;have h:=mY w [⟨.int .i64 1,lT,0⟩,⟨.int .i64 2,jE,1⟩,⟨.int .i64 3,kr,2⟩,⟨.int .i64 4,qc,3⟩] 4 5 j9 rfl;simp only[yD,ya,Nat.reduceAdd]at c i d b h;simp only[lT,jE,kr,qc,j9]at c i d b h;go_enter Tryz.func128,Tryz.ntmps128
 go_wp2;go_ret;exact⟨rfl,rfl⟩
theorem Mx (k:Int):k=1\/k=2\/k=3\/k=4\/k=5\/(k≠1/\k≠2/\k≠3/\k≠4/\k≠5):=by omega
theorem afG {s:Int}{n:Nat}{t:Int}(h:fS 1 s n t=false):(s≠1/\s≠2/\s≠4/\s≠8)\/((s=1\/s=2\/s=4\/s=8)/\n≠0)\/((s=1\/s=2\/s=4\/s=8)/\n=0/\t≠0):=by
 simp[fS]at h;omega
theorem afH {s:Int}{n:Nat}{t:Int}(h:fS 2 s n t=false):s<1\/(1<=s/\65536<s)\/(1<=s/\s<=65536/\n≠0)\/(1<=s/\s<=65536/\n=0/\t≠0):=by
 simp[fS]at h;omega
theorem afI {s:Int}{n:Nat}{t:Int}(h:fS 3 s n t=false):s<0\/(0<=s/\65536<s)\/(0<=s/\s<=65536/\n≠0)\/(0<=s/\s<=65536/\n=0/\t≠0):=by
 simp[fS]at h;omega
theorem afJ {s:Int}{n:Nat}{t:Int}(h:fS 4 s n t=false):s<0\/(0<=s/\1024<s)\/(0<=s/\s<=1024/\n≠1)\/(0<=s/\s<=1024/\n=1/\t≠0):=by
 simp[fS]at h;omega
theorem afK {s:Int}{n:Nat}{t:Int}(h:fS 5 s n t=false):s≠0\/(s=0/\16<n)\/(s=0/\n<=16/\t<0)\/(s=0/\n<=16/\0<=t/\(n:Int)<t):=by
 simp[fS]at h;omega
theorem nb {a b:Int}(h:a≠b):(a==b)=false:=zr.2 h
theorem My :∀(x:Ty) (B:Nat) (w:World) (c0 c1 c2 X:Value),cw w B x c0 c1 c2 X->B<=w.heap.size->
 Calls Tryz.prog 56 #[.agg #[c0,c1,c2,X]] w fun e w'=>e= .returned (.bool x.right)/\Below w.heap.size w w':=by
 intro x;induction x using Ty.ind with
 |h ki s l ta ih=>
  intro B w c0 c1 c2 X h hB;obtain⟨rfl,rfl,rfl,sW,Cf,nN,hs,A,cap,rfl,nW,lM,dx⟩:=h;have IH:=za ih;have I:=za dx;unfold l9 at sW Cf nN;obtain⟨QP,QQ⟩:=sW;obtain⟨QN,QR⟩:=Cf;obtain⟨QO,Jp⟩:=nN;clear ih dx;have r:Hid ((Ty.mk ki s l ta).right=(fS ki s l.length ta&&bK l)):=za (by simp only[Ty.right]);generalize (Ty.mk ki s l ta).right=R at*;cases bC:fS ki s l.length ta with
  |true=>
   have hw:=lu bC;rcases hw with⟨rfl,N,d,rfl⟩|⟨rfl,h3,U,d,rfl⟩|⟨rfl,h3,U,d,rfl⟩|⟨rfl,h3,U,d,rfl⟩|⟨rfl,rfl,U,h5,h6⟩
   ·obtain rfl:l= []:=zt d;have c:Hid (R=true):=za (by rw[r.out,bC];rfl);clear r bC;rcases N with rfl|rfl|rfl|rfl;all_goals
     go_enter yx,yq
     go_wp2_with fail
     refine yi 1 ?_;rw[yw];go_wp2;go_ret;exact⟨by rw[c.out];rfl,bM⟩
   ·obtain rfl:l= []:=zt d;have c:Hid (R=true):=za (by rw[r.out,bC];rfl);clear r bC;go_enter yx,yq
    go_wp2_with fail
    refine yi 1 ?_;rw[yw];go_wp2;go_ret;exact⟨by rw[c.out];rfl,bM⟩
   ·obtain rfl:l= []:=zt d;have c:Hid (R=true):=za (by rw[r.out,bC];rfl);clear r bC;go_enter yx,yq
    go_wp2_with fail
    refine yi 1 ?_;rw[yw];go_wp2;go_ret;exact⟨by rw[c.out];rfl,bM⟩
   ·have c:Hid (R=bK l):=za (by rw[r.out,bC];rfl);have z:((l.length:Int)==1)=true:=by simp[d]
    clear r bC d;go_enter yx,yq
    go_wp2_with fail
    go_loopw [3,5] (fun ok i wr=>∃(k:Nat) (b:Bool),k<=l.length/\i= .int .i64 k/\ok= .bool b/\Hid (bK (l.take k)=b)/\Below w.heap.size w wr/\wr.cell? ⟨w.heap.size,2,none⟩=some (.slice A l.length cap)) (fun _ i _=>l.length-(intOf i).toNat)
    case atStart=>exact⟨0,true,by omega,rfl,rfl,za (by simp[bK]),bM,by simp⟩
    case round=>
     obtain⟨k,b,hk,rfl,rfl,F,m,M⟩:=hrel;by_cases u:k<l.length
     ·cases b with
      |true=>
       obtain⟨b,o,d0,d1,d2,d3,rfl,fa,C,z,G,D,hi⟩:=I.out.at_ k u;simp only[zQ]at C z G D;replace C:=(m.cell (p:=⟨b,o+k*4,none⟩) (by simp;omega)).trans C;replace z:=(m.cell (p:=⟨b,o+k*4+1,none⟩) (by simp;omega)).trans z;replace G:=(m.cell (p:=⟨b,o+k*4+2,none⟩) (by simp;omega)).trans G;replace D:=(m.cell (p:=⟨b,o+k*4+3,none⟩) (by simp;omega)).trans D;have hZ:=m.size;have S:=zM u;have O:=hi.below (m.mono hB);have K:=za (IH.out _ S B wr d0 d1 d2 d3 O (by omega));obtain⟨q,H⟩:∃q,l[k].right=q:=⟨_,rfl⟩
       rw[H]at K;have Hq:Hid (bK (l.take (k+1))=q):=za (by rw[my l k u,F.out,H];rfl);clear H O hi;go_wp2_with fail
       refine K.out.mono ?_;rintro e w2 ⟨rfl,J⟩;have kf:=lt_of_cell M;have Y:=(J.cell (p:=⟨w.heap.size,2,none⟩) (by simp;omega)).trans M;have bS:=m.trans (J.mono hZ);go_wp2;go_roundw
       case rel=>
        exact⟨k+1,q,by omega,by go_num,rfl,Hq,bS,Y⟩
       case measure=>simp[intOf];omega
      |false=>
       have W:Hid (bK l=false):=za (by
        have j:=ic (l.take k) (l.drop k);rw[zL,F.out]at j;simpa using j)
       obtain⟨b0,o0,_,_,_,_,rfl,_⟩:=I.out.at_ k u;go_wp2;go_ret;exact⟨by rw[c.out,W.out];rfl,m⟩
     have E:=F.out;rw[zC (by omega)]at E;have Z:=za E;clear E;go_wp2;go_ret;exact⟨by rw[c.out,Z.out];rfl,m⟩
   have c:Hid (R=bK l):=za (by rw[r.out,bC];rfl);clear r bC;go_enter yx,yq
   go_wp2_with fail
   go_loopw [3,5] (fun ok i wr=>∃(k:Nat) (b:Bool),k<=l.length/\i= .int .i64 k/\ok= .bool b/\Hid (bK (l.take k)=b)/\Below w.heap.size w wr/\wr.cell? ⟨w.heap.size,2,none⟩=some (.slice A l.length cap)) (fun _ i _=>l.length-(intOf i).toNat)
   case atStart=>exact⟨0,true,by omega,rfl,rfl,za (by simp[bK]),bM,by simp⟩
   case round=>
    obtain⟨k,b,hk,rfl,rfl,F,m,M⟩:=hrel;by_cases u:k<l.length
    ·cases b with
     |true=>
      obtain⟨b,o,d0,d1,d2,d3,rfl,fa,C,z,G,D,hi⟩:=I.out.at_ k u;simp only[zQ]at C z G D;replace C:=(m.cell (p:=⟨b,o+k*4,none⟩) (by simp;omega)).trans C;replace z:=(m.cell (p:=⟨b,o+k*4+1,none⟩) (by simp;omega)).trans z;replace G:=(m.cell (p:=⟨b,o+k*4+2,none⟩) (by simp;omega)).trans G;replace D:=(m.cell (p:=⟨b,o+k*4+3,none⟩) (by simp;omega)).trans D;have hZ:=m.size;have S:=zM u;have O:=hi.below (m.mono hB);have K:=za (IH.out _ S B wr d0 d1 d2 d3 O (by omega));obtain⟨q,H⟩:∃q,l[k].right=q:=⟨_,rfl⟩
      rw[H]at K;have Hq:Hid (bK (l.take (k+1))=q):=za (by rw[my l k u,F.out,H];rfl);clear H O hi;go_wp2_with fail
      refine K.out.mono ?_;rintro e w2 ⟨rfl,J⟩;have kf:=lt_of_cell M;have Y:=(J.cell (p:=⟨w.heap.size,2,none⟩) (by simp;omega)).trans M;have bS:=m.trans (J.mono hZ);go_wp2;go_roundw
      case rel=>
       exact⟨k+1,q,by omega,by go_num,rfl,Hq,bS,Y⟩
      case measure=>simp[intOf];omega
     |false=>
      have W:Hid (bK l=false):=za (by
       have j:=ic (l.take k) (l.drop k);rw[zL,F.out]at j;simpa using j)
      obtain⟨b0,o0,_,_,_,_,rfl,_⟩:=I.out.at_ k u;go_wp2;go_ret;exact⟨by rw[c.out,W.out];rfl,m⟩
    have E:=F.out;rw[zC (by omega)]at E;have Z:=za E;clear E;go_wp2;go_ret;exact⟨by rw[c.out,Z.out];rfl,m⟩
  |false=>
   have c:Hid (R=false):=za (by rw[r.out,bC];rfl);clear r I IH;rcases Mx ki with rfl|rfl|rfl|rfl|rfl|⟨n1,n2,n3,n4,n5⟩
   ·rcases afG bC with⟨m1,m2,m3,m4⟩|⟨N,d⟩|⟨N,d,n⟩
    ·have y:=nb m1;have L:=nb m2;have f3:=nb m3;have f4:=nb m4;clear bC m1 m2 m3 m4;go_enter yx,yq
     go_wp2_with fail
     refine yi 1 ?_;rw[yw];go_wp2;all_goals
      go_ret;exact⟨by rw[c.out];rfl,bM⟩
    ·have y:((l.length:Int)==0)=false:=nb (by omega);clear bC d;rcases N with rfl|rfl|rfl|rfl;all_goals
      go_enter yx,yq
      go_wp2_with fail
      refine yi 1 ?_;rw[yw];go_wp2;all_goals
       go_ret;exact⟨by rw[c.out];rfl,bM⟩
    obtain rfl:l= []:=zt d;have L:=nb n;clear bC n;rcases N with rfl|rfl|rfl|rfl;all_goals
     go_enter yx,yq
     go_wp2_with fail
     refine yi 1 ?_;rw[yw];go_wp2;all_goals
      go_ret;exact⟨by rw[c.out];rfl,bM⟩
   ·rcases afH bC with j|⟨j,h2⟩|⟨j,h2,d⟩|⟨j,h2,d,n⟩
    ·clear bC;go_enter yx,yq
     go_wp2_with fail
     refine yi 1 ?_;rw[yw];go_wp2;all_goals
      go_ret;exact⟨by rw[c.out];rfl,bM⟩
    ·clear bC;go_enter yx,yq
     go_wp2_with fail
     refine yi 1 ?_;rw[yw];go_wp2;all_goals
      go_ret;exact⟨by rw[c.out];rfl,bM⟩
    ·have y:((l.length:Int)==0)=false:=nb (by omega);clear bC d;go_enter yx,yq
     go_wp2_with fail
     refine yi 1 ?_;rw[yw];go_wp2;all_goals
      go_ret;exact⟨by rw[c.out];rfl,bM⟩
    obtain rfl:l= []:=zt d;have L:=nb n;clear bC n;go_enter yx,yq
    go_wp2_with fail
    refine yi 1 ?_;rw[yw];go_wp2;all_goals
     go_ret;exact⟨by rw[c.out];rfl,bM⟩
   ·rcases afI bC with j|⟨j,h2⟩|⟨j,h2,d⟩|⟨j,h2,d,n⟩
    ·clear bC;go_enter yx,yq
     go_wp2_with fail
     refine yi 1 ?_;rw[yw];go_wp2;all_goals
      go_ret;exact⟨by rw[c.out];rfl,bM⟩
    ·clear bC;go_enter yx,yq
     go_wp2_with fail
     refine yi 1 ?_;rw[yw];go_wp2;all_goals
      go_ret;exact⟨by rw[c.out];rfl,bM⟩
    ·have y:((l.length:Int)==0)=false:=nb (by omega);clear bC d;go_enter yx,yq
     go_wp2_with fail
     refine yi 1 ?_;rw[yw];go_wp2;all_goals
      go_ret;exact⟨by rw[c.out];rfl,bM⟩
    obtain rfl:l= []:=zt d;have L:=nb n;clear bC n;go_enter yx,yq
    go_wp2_with fail
    refine yi 1 ?_;rw[yw];go_wp2;all_goals
     go_ret;exact⟨by rw[c.out];rfl,bM⟩
   ·rcases afJ bC with j|⟨j,h2⟩|⟨j,h2,d⟩|⟨j,h2,d,n⟩
    ·clear bC;go_enter yx,yq
     go_wp2_with fail
     refine yi 1 ?_;rw[yw];go_wp2;all_goals
      go_ret;exact⟨by rw[c.out];rfl,bM⟩
    ·clear bC;go_enter yx,yq
     go_wp2_with fail
     refine yi 1 ?_;rw[yw];go_wp2;all_goals
      go_ret;exact⟨by rw[c.out];rfl,bM⟩
    ·have y:((l.length:Int)==1)=false:=nb (by omega);clear bC d;go_enter yx,yq
     go_wp2_with fail
     refine yi 1 ?_;rw[yw];go_wp2;all_goals
      go_ret;exact⟨by rw[c.out];rfl,bM⟩
    have y:((l.length:Int)==1)=true:=by simp[d]
    have L:=nb n;clear bC n d;go_enter yx,yq
    go_wp2_with fail
    refine yi 1 ?_;rw[yw];go_wp2;all_goals
     go_ret;exact⟨by rw[c.out];rfl,bM⟩
   ·rcases afK bC with j|⟨rfl,h2⟩|⟨rfl,h2,n⟩|⟨rfl,h2,n,QD⟩
    ·have y:=nb j;clear bC j;go_enter yx,yq
     go_wp2_with fail
     refine yi 1 ?_;rw[yw];go_wp2;all_goals
      go_ret;exact⟨by rw[c.out];rfl,bM⟩
    ·clear bC;go_enter yx,yq
     go_wp2_with fail
     refine yi 1 ?_;rw[yw];go_wp2;all_goals
      go_ret;exact⟨by rw[c.out];rfl,bM⟩
    ·clear bC;go_enter yx,yq
     go_wp2_with fail
     refine yi 1 ?_;rw[yw];go_wp2;all_goals
      go_ret;exact⟨by rw[c.out];rfl,bM⟩
    have y:decide (ta<=(l.length:Int))=false:=zz (by omega);clear bC;go_enter yx,yq
    go_wp2_with fail
    refine yi 1 ?_;rw[yw];go_wp2;all_goals
     go_ret;exact⟨by rw[c.out];rfl,bM⟩
   have y:=nb n1;have L:=nb n2;have f3:=nb n3;have f4:=nb n4;have f5:=nb n5;clear bC n1 n2 n3 n4 n5;go_enter yx,yq
   go_wp2_with fail
   refine yi 1 ?_;rw[yw];go_wp2;all_goals
    go_ret;exact⟨by rw[c.out];rfl,bM⟩
theorem Ku (x:Ty)(B:Nat)(w:World)(l k i d:Value)(h:cw w B x l k i d)(M:B<=w.heap.size)(N:x.count<=4611686018427387904):
 Calls Tryz.prog 36 #[.agg #[l,k,i,d]] w fun e w'=>e= .returned (.bool x.may)/\Below w.heap.size w w':=by
 have J:=LI x;have o:cw (w.alloc (.cells #[l,k,i,d] 64)) B x l k i d:=h.below (blm M);have p:=za (C0 x B _ l k i d o (by simp;omega) (by omega));have z:=za (fun c b hz=>Fp x B c l k i d (cw.below o b) hz (by omega));have G:=za (fun c b hz=>My x B c l k i d (cw.below o b) hz);have j:Hid (x.may=(decide (x.count<=64)&&decide (x.deep<=8)&&x.right)):=za rfl;obtain⟨r,C⟩:∃r,x.right=r:=⟨_,rfl⟩
 obtain⟨L,hd⟩:∃q,x.deep=q:=⟨_,rfl⟩
 obtain⟨q,y⟩:∃q,x.count=q:=⟨_,rfl⟩
 rw[C,y,hd]at j;rw[y]at p;rw[hd]at z;rw[C]at G;obtain⟨A,cap,rfl,rfl,rfl,rfl,_⟩:=h.open_;clear C y hd J o h N;generalize x.may=R at*;generalize x.kind=Y at*;generalize x.size=O at*;generalize x.tail=S at*;by_cases D:q<=64
 ·by_cases E:L<=8
  ·have n:Hid (R=r):=za (by rw[j.out];simp[E,D]);clear j;go_enter Tryz.func36,Tryz.ntmps36
   go_wp2_with fail
   refine p.out.mono ?_;rintro e c ⟨rfl,b⟩;obtain⟨g0,g1,g2,g3⟩:=L5 (by simpa using b);have u:=b.size;simp only[zv]at u;have s:=(yJ (zq w.heap.size w) (zi _) _).trans (b.mono (by simp));go_wp2_with fail
   refine(z.out c (b.mono (by simp;omega)) (by omega)).mono ?_;rintro e F ⟨rfl,m⟩;have H:=b.trans (m.mono (by simp;omega));have X:=m.size;obtain⟨W,k1,k2,U⟩:=L5 (by simpa using H);have K:=s.trans (m.mono (by omega));go_wp2_with fail
   refine(G.out F (H.mono (by simp;omega)) (by omega)).mono ?_;rintro e w3 ⟨rfl,I⟩;go_wp2;go_ret;exact⟨by rw[n.out];rfl,K.trans (I.mono (by omega))⟩
  have n:Hid (R=false):=za (by rw[j.out];simp[E]);clear j;go_enter Tryz.func36,Tryz.ntmps36
  go_wp2_with fail
  refine p.out.mono ?_;rintro e c ⟨rfl,b⟩;obtain⟨g0,g1,g2,g3⟩:=L5 (by simpa using b);have u:=b.size;simp only[zv]at u;have s:=(yJ (zq w.heap.size w) (zi _) _).trans (b.mono (by simp));go_wp2_with fail
  refine(z.out c (b.mono (by simp;omega)) (by omega)).mono ?_;rintro e F ⟨rfl,m⟩;go_wp2;go_ret;exact⟨by rw[n.out];rfl,s.trans (m.mono (by omega))⟩
 have n:Hid (R=false):=za (by rw[j.out];simp[D]);clear j;go_enter Tryz.func36,Tryz.ntmps36
 go_wp2_with fail
 refine p.out.mono ?_;rintro e c ⟨rfl,b⟩;go_wp2;go_ret;exact⟨by rw[n.out];rfl,(yJ (zq _ _) (zi _) _).trans (b.mono (by simp))⟩
theorem WK :∀(x:It) (B:Nat) (w:World) (H G E:Value),bW w B x H G E->B<=w.heap.size->∀left:Int,0<left->left<=4611686018427387904->
 Calls Tryz.prog 20 #[.agg #[H,G,E],.int .i64 left] w fun e w'=>e= .returned (.int .i64 (x.room left))/\Below w.heap.size w w':=by
 intro x;induction x using It.ind with
 |h t l s ih=>
  intro B w H G E h hB left DO Cg;obtain⟨rfl,rfl,ht,hs,A,cap,rfl,nW,lM,M⟩:=h;have IH:=za ih;have I:=za M;clear ih M;have J:Hid ((It.mk t l s).room left=max (cE s (left-1)) 0):=za (by simp only[It.room]);have HB:=za (fun k=>Eh (s.take k) (fun x _=>Cs x) (left-1) (by omega));generalize (It.mk t l s).room left=R at*;go_enter Tryz.func20,Tryz.ntmps20
  go_wp2_with fail
  go_loopw [1,5] (fun n i wr=>∃(k:Nat) (m:Int),k<=s.length/\i= .int .i64 k/\Hid (m=cE (s.take k) (left-1))/\0<=m/\m<=left-1/\n= .int .i64 m/\Below w.heap.size w wr/\wr.cell? ⟨w.heap.size,2,none⟩=some (.slice A s.length cap)) (fun _ i _=>s.length-(intOf i).toNat)
  case atStart=>exact⟨0,left-1,by omega,rfl,za (by simp[cE]),by omega,by omega,rfl,bM,by simp⟩
  case round=>
   obtain⟨k,m,hk,rfl,j,GD,T2,rfl,c,O⟩:=hrel;by_cases y:k<s.length
   ·by_cases C:0<m
    ·obtain⟨b,o,d0,d1,d2,rfl,fa,z,D,F,hi⟩:=I.out.at_ k y;simp only[zQ]at z D F;replace z:=(c.cell (p:=⟨b,o+k*3,none⟩) (by simp;omega)).trans z;replace D:=(c.cell (p:=⟨b,o+k*3+1,none⟩) (by simp;omega)).trans D;replace F:=(c.cell (p:=⟨b,o+k*3+2,none⟩) (by simp;omega)).trans F;have Z:=c.size;have W:=zM y;have U:=hi.below (c.mono hB);have u:=G5 s k y (left-1) (by rw[<-j.out];exact C);have N:=Cs s[k] m C;rw[<-j.out]at u;obtain⟨q,S⟩:∃q,s[k].room m=q:=⟨_,rfl⟩
     have L:=za (IH.out _ W B wr d0 d1 d2 U (by omega) m C (by omega));rw[S]at L u N;have Hq:Hid (q=cE (s.take (k+1)) (left-1)):=za u.symm;obtain⟨Y,ab⟩:=N;clear u S U hi;go_wp2_with fail
     refine L.out.mono ?_;rintro e w2 ⟨rfl,K⟩;have kf:=lt_of_cell O;have X:=(K.cell (p:=⟨w.heap.size,2,none⟩) (by simp;omega)).trans O;have bS:=c.trans (K.mono Z);go_wp2;go_roundw
     case rel=>exact⟨k+1,q,by omega,by go_num,Hq,Y,by omega,rfl,bS,X⟩
     case measure=>simp[intOf];omega
    have d:=Bk s k (left-1) (.inl (by rw[<-j.out];omega));have r:Hid (R=0):=za (by rw[J.out,d,<-j.out];omega);have aa:m<=0:=by omega
    obtain⟨b0,o0,_,_,_,rfl,_⟩:=I.out.at_ k y;clear d;go_wp2;all_goals
     go_ret;exact⟨by first|(rw[r.out];rfl)|(show Ending.returned (.int .i64 m)=_;rw[r.out,show m=0 from by omega]),c⟩
   have d:=Bk s k (left-1) (.inr (by omega));have r:Hid (R=m):=za (by rw[J.out,d,<-j.out];omega);clear d;go_wp2;all_goals
    go_ret;exact⟨by first|(show Ending.returned (.int .i64 m)=_;rw[r.out])|(rw[r.out,show m=0 from by omega];rfl),c⟩
theorem WL :∀(x:It) (B:Nat) (w:World) (F E C:Value),bW w B x F E C->B<=w.heap.size->
 Calls Tryz.prog 21 #[.agg #[F,E,C]] w fun e w'=>e= .returned (.int .i64 x.oB)/\Below w.heap.size w w':=by
 intro x;induction x using It.ind with
 |h t l s ih=>
  intro B w F E C h hB;obtain⟨rfl,rfl,ht,hs,A,cap,rfl,nW,lM,K⟩:=h;have IH:=za ih;have O:=za K;clear ih K;obtain⟨c,y⟩:∃c,min t.size 10000=c:=⟨_,rfl⟩
  have S:Hid ((It.mk t l s).oB=gC s c):=za (by simp only[It.oB,y]);have qI:c<=10000:=by omega
  have W:=za y;clear y;generalize (It.mk t l s).oB=R at*;rcases Nat.lt_trichotomy t.size 10000 with ny|ny|ny;all_goals
   have sY:Hid (min t.size 10000=c):=W;go_enter Tryz.func21,Tryz.ntmps21
   go_wp2_with fail
   go_loopw [3,4] (fun n i wr=>∃k m:Nat,k<=s.length/\i= .int .i64 k/\Hid (m=gC (s.take k) c)/\m<=10000/\n= .int .i64 m/\Below w.heap.size w wr/\wr.cell? ⟨w.heap.size,2,none⟩=some (.slice A s.length cap)) (fun _ i _=>s.length-(intOf i).toNat)
   case atStart=>
    refine⟨0,c,by omega,rfl,za (by simp[gC]),by omega, ?_,bM,by simp⟩;have hh:=sY.out;rcases(show(t.size:Int)=c\/(10000:Int)=c from by omega)with hx|hx
    ·(rw[<-hx])<;>first|rfl|(rw[show(t.size:Int)=10000 from by omega])
    (rw[<-hx])<;>first|rfl|(rw[show(t.size:Int)=10000 from by omega])
   case round=>
    obtain⟨k,m,hk,rfl,H,ab,rfl,d,L⟩:=hrel;by_cases G:k<s.length
    ·obtain⟨b,o,d0,d1,d2,rfl,fa,u,z,D,hi⟩:=O.out.at_ k G;simp only[zQ]at u z D;replace u:=(d.cell (p:=⟨b,o+k*3,none⟩) (by simp;omega)).trans u;replace z:=(d.cell (p:=⟨b,o+k*3+1,none⟩) (by simp;omega)).trans z;replace D:=(d.cell (p:=⟨b,o+k*3+2,none⟩) (by simp;omega)).trans D;have Z:=d.size;have U:=zM G;have N:=hi.below (d.mono hB);have r:=G6 s k G c;have aa:=SC s[k];have j:=H.out;obtain⟨q,M⟩:∃q,s[k].oB=q:=⟨_,rfl⟩
     have J:=za (IH.out _ U B wr d0 d1 d2 N (by omega));rw[M]at J r aa;rw[<-j]at r;have Hq:=za r;clear r j M N hi;rcases(show m+q<10000\/(m+q<=10000/\10000<=m+q)\/10000<m+q from by omega)with hx|⟨hx,hx2⟩|hx;all_goals
      go_wp2_with fail
      refine J.out.mono ?_;rintro e w2 ⟨rfl,I⟩;have kf:=lt_of_cell L;have X:=(I.cell (p:=⟨w.heap.size,2,none⟩) (by simp;omega)).trans L;have bS:=d.trans (I.mono Z);go_wp2;all_goals
       go_roundw
       case rel=>
        refine⟨k+1,min (m+q) 10000,by omega,by go_num,za Hq.out.symm,by omega, ?_,bS,X⟩;first
         |(rw[show min (m+q) 10000=m+q from by omega];go_num)
         |(rw[show min (m+q) 10000=10000 from by omega];rfl)
         |(rw[show((min (m+q) 10000:Nat):Int)=if(10000:Int)<(m:Int)+q then 10000 else(m:Int)+q from by split<;>omega])
       case measure=>simp[intOf];omega
    have j:=H.out;rw[zC (by omega)]at j;have Y:=za j;clear j;go_wp2;go_ret;exact⟨by show Ending.returned (.int .i64 m)=_;rw[Y.out,S.out],d⟩
theorem BS (w:World)(T:TypeId)(e d h:Value)(b:World)(c:Below (w.heap.size+1) (w.alloc (.cells #[e,d,h] T)) b):
 b.cell? ⟨w.heap.size,0,none⟩=some e/\b.cell? ⟨w.heap.size,1,none⟩=some d/\b.cell? ⟨w.heap.size,2,none⟩=some h:=by
 refine⟨?_, ?_, ?_⟩
 ·rw[c.cell (by simp)];simp
 ·rw[c.cell (by simp)];simp
 rw[c.cell (by simp)];simp
theorem Tp (x:It)(B:Nat)(w:World)(j i c:Value)(h:bW w B x j i c)(E:B<=w.heap.size):
 Calls Tryz.prog 7 #[.agg #[j,i,c]] w fun e w'=>e= .returned (.bool x.pB)/\Below w.heap.size w w':=by
 have l:bW (w.alloc (.cells #[j,i,c] 28)) B x j i c:=h.below (blm E);have o:=za (WK x B _ j i c l (by simp;omega) 1200 (by omega) (by omega));have s:=za (fun d b=>WL x B d j i c (bW.below l b));have k:Hid (x.pB=(decide (x.room 1200=0)||decide (6000<x.oB))):=za rfl;obtain⟨r,p⟩:∃r,x.room 1200=r:=⟨_,rfl⟩
 obtain⟨q,n⟩:∃q,x.oB=q:=⟨_,rfl⟩
 rw[p,n]at k;rw[p]at o;rw[n]at s;obtain⟨A,cap,rfl,rfl,rfl,_⟩:=h.open_;clear p n l h;generalize x.pB=R at*;by_cases hz:r=0
 ·have C:(r==0)=true:=by simp[hz]
  have m:Hid (R=true):=za (by rw[k.out];simp[hz]);clear hz k;go_enter Tryz.func7,Tryz.ntmps7
  go_wp2_with fail
  refine o.out.mono ?_;rintro e d ⟨rfl,b⟩;go_wp2;go_ret;exact⟨by rw[m.out];rfl,(yJ (zq _ _) (zi _) _).trans (b.mono (by simp))⟩
 have C:(r==0)=false:=by simp[hz]
 have m:Hid (R=decide (6000<q)):=za (by rw[k.out];simp[hz]);clear hz k;go_enter Tryz.func7,Tryz.ntmps7
 go_wp2_with fail
 refine o.out.mono ?_;rintro e d ⟨rfl,b⟩;obtain⟨g0,g1,g2⟩:=BS w 28 _ _ _ d (by simpa using b);have D:=b.size;simp only[zv]at D;have y:Below B (w.alloc (.cells #[.string x.text,.bool x.list,.slice A x.sub.length cap] 28)) d:=b.mono (by simp;omega);have u:=(yJ (zq w.heap.size w) (zi _) _).trans (b.mono (by simp));go_wp2_with fail
 refine(s.out d y (by omega)).mono ?_;rintro e F ⟨rfl,z⟩;go_wp2;all_goals
  go_ret;refine⟨?_,u.trans (z.mono (by omega))⟩;rw[m.out];first|rfl|(rw[show decide (6000<q)=true from by simp;omega];rfl)|(rw[show decide (6000<q)=false from by simp;omega];rfl)|(show Ending.returned (.bool (decide ((6000:Int)<q)))=_;rw[show decide ((6000:Int)<q)=decide (6000<q)from by simp only[decide_eq_decide];omega])
theorem Px (t:ByteArray)(l:Bool)(A:Option Addr)(n cap:Nat)(w:World)(h:n<=9223372036854775807):
 Calls Tryz.prog 132 #[.agg #[.string t,.bool l,.slice A n cap]] w fun e w'=>e= .returned (.bool (formed t l n))/\Below w.heap.size w w':=by
 cases l with
 |true=>
  rcases fR t with⟨hz,rfl⟩|⟨hz,j,d⟩
  ·have b:Hid (formed ⟨#[]⟩ true n=true):=za rfl;generalize formed ⟨#[]⟩ true n=R at*;clear hz;go_enter Tryz.func132,Tryz.ntmps132
   go_wp2;go_ret;exact⟨by rw[b.out];rfl,bM⟩
  have b:Hid (formed t true n=false):=za (by simp[formed,hz]);generalize formed t true n=R at*;clear hz;go_enter Tryz.func132,Tryz.ntmps132
  go_wp2;go_ret;exact⟨by rw[b.out];rfl,bM⟩
 |false=>
  by_cases c:n=0
  ·have b:Hid (formed t false n=true):=za (by simp[formed,c]);generalize formed t false n=R at*;go_enter Tryz.func132,Tryz.ntmps132
   go_wp2;go_ret;exact⟨by rw[b.out];rfl,bM⟩
  have b:Hid (formed t false n=false):=za (by simp[formed,c]);have i:((n:Int)==0)=false:=zr.2 (by omega);generalize formed t false n=R at*;clear c;go_enter Tryz.func132,Tryz.ntmps132
  go_wp2;go_ret;exact⟨by rw[b.out];rfl,bM⟩
theorem Iv (t:ByteArray)(l:Bool)(A:Option Addr)(n cap:Nat)(w:World):
 Calls Tryz.prog 137 #[.agg #[.string t,.bool l,.slice A n cap]] w fun e w'=>e= .returned (.bool true)/\Below w.heap.size w w':=by
 go_enter Tryz.func137,Tryz.ntmps137
 go_wp2;go_ret;exact⟨rfl,bM⟩
def UR (fv:Value)(x:It):Prop:=fv= .func (.func 132) #[] #[]\/fv= .func (.func 137) #[] #[]/\x.right=true
structure Ap (fv:Value)(w:World)(cb eb db vb c d:Nat):Prop where
 kI:af w cb 3 #[.int .i64 c]
 each:af w eb 34 #[fv]
 dp:af w db 3 #[.int .i64 d]
 gP:af w vb 221 #[.func (.func 175) #[] #[.pointer (some ⟨cb,0,none⟩),.pointer (some ⟨eb,0,none⟩),.pointer (some ⟨db,0,none⟩),.pointer (some ⟨vb,0,none⟩)]]
theorem Ap.below {e:Value}{w w':World}{cb i k j c d:Nat}(h:Ap e w cb i k j c d)(b:Below w.heap.size w w'):Ap e w' cb i k j c d:=
 ⟨h.kI.only (ae.ah b (zi _)) (by simp),h.each.only (ae.ah b (zi _)) (by simp),h.dp.only (ae.ah b (zi _)) (by simp),h.gP.only (ae.ah b (zi _)) (by simp)⟩
theorem af.US {w:World}{g c:Nat}{t d:TypeId}{e i:Array Value}(h:af w g t e)(b:af w c d i)(j:t≠d):g≠c:=by
 rintro rfl;unfold af at h b;rw[h]at b;injection b with b;injection b with _ ht;exact j ht
theorem Ap.step {e:Value}{w:World}{cb k b l c d i j:Nat}{u v:Int}(h:Ap e w cb k b l c d)(m:cb≠b)(hu:u=(i:Int))(n:v=(j:Int)):Ap e ((w.setCell ⟨cb,0,none⟩ (.int .i64 u)).setCell ⟨b,0,none⟩ (.int .i64 v)) cb k b l i j:=by
 subst hu;subst n;have n1:=h.kI.US h.each (by decide);have n2:=h.kI.US h.gP (by decide);have o:=h.dp.US h.each (by decide);have q:=h.dp.US h.gP (by decide);exact⟨af.dz (show af _ _ _ _ from one_setCell h.kI) (p:=⟨b,0,none⟩) m _,(h.each.dz (p:=⟨cb,0,none⟩) n1.symm _).dz (p:=⟨b,0,none⟩) o.symm _,one_setCell (h.dp.dz (p:=⟨cb,0,none⟩) m.symm _),(h.gP.dz (p:=⟨cb,0,none⟩) n2.symm _).dz (p:=⟨b,0,none⟩) q.symm _⟩
theorem Tq :∀(x:It) (B:Nat) (w:World) (c0 c1 C:Value),bW w B x c0 c1 C->B<=w.heap.size->∀(q:Value),UR q x->∀(cb E n u j c d:Nat),Ap q w cb E n u c d->B<=cb->B<=n->cb≠n->1<=j->j<=17->c<=1024->d<=17->
 Calls Tryz.prog 175 #[.agg #[c0,c1,C],.int .i64 j,.pointer (some ⟨cb,0,none⟩),.pointer (some ⟨E,0,none⟩),.pointer (some ⟨n,0,none⟩),.pointer (some ⟨u,0,none⟩)] w fun e w'=>
  e= .returned (.bool (x.gP j c d).1)/\Ap q w' cb E n u (x.gP j c d).2.1 (x.gP j c d).2.2/\ae [cb,n] w w':=by
 intro x;induction x using It.ind with
 |h t l s ih=>
  intro B w c0 c1 C h hB q ad cb E n u j c d m ai ah af an aq hc hd;obtain⟨rfl,rfl,ht,hs,A,cap,rfl,nW,lM,dx⟩:=h;have IH:=za ih;have HS:=za dx;clear ih dx;have n1:=m.kI.US m.each (by decide);have n2:=m.kI.US m.gP (by decide);have n3:=m.dp.US m.each (by decide);have n4:=m.dp.US m.gP (by decide);have q1:w.cell? ⟨cb,0,none⟩=some (.int .i64 c):=yd m.kI;have q2:w.cell? ⟨E,0,none⟩=some q:=yd m.each;have W:=za m;have l1:=m.kI.lt;have l2:=m.each.lt;have l4:=m.gP.lt;have z:Hid ((It.mk t l s).gP j c d=if 16<j\/c=1024\/formed t l s.length=false then(false,c,d)else fU s (j+1) (c+1) (max d j)):=za (by simp only[It.gP]);generalize (It.mk t l s).gP j c d=R at*;clear m;by_cases h1:16<j
  ·have y:Hid (R=(false,c,d)):=za (by rw[z.out,zl (.inl h1)]);clear z;go_enter Tryz.func175,Tryz.ntmps175
   go_wp2;go_ret;rw[y.out];exact⟨rfl,W.out.below bM,Cx⟩
  by_cases Y:c=1024
  ·have e1:((c:Int)==1024)=true:=by simp;omega
   have y:Hid (R=(false,c,d)):=za (by rw[z.out,zl (.inr (.inl Y))]);clear z Y;go_enter Tryz.func175,Tryz.ntmps175
   go_wp2;go_ret;rw[y.out];exact⟨rfl,W.out.below bM,Cx⟩
  have e1:((c:Int)==1024)=false:=zr.2 (by omega);have ak:=za ad;have Jo:(q= .func (.func 132) #[] #[]/\Hid (Calls Tryz.prog 132 #[.agg #[.string t,.bool l,.slice A s.length cap]] (w.alloc (.cells #[.string t,.bool l,.slice A s.length cap] 28)) fun e w'=>e= .returned (.bool (formed t l s.length))/\Below (w.alloc (.cells #[.string t,.bool l,.slice A s.length cap] 28)).heap.size (w.alloc (.cells #[.string t,.bool l,.slice A s.length cap] 28)) w'))\/
   (q= .func (.func 137) #[] #[]/\Hid (Calls Tryz.prog 137 #[.agg #[.string t,.bool l,.slice A s.length cap]] (w.alloc (.cells #[.string t,.bool l,.slice A s.length cap] 28)) fun e w'=>e= .returned (.bool (formed t l s.length))/\Below (w.alloc (.cells #[.string t,.bool l,.slice A s.length cap] 28)).heap.size (w.alloc (.cells #[.string t,.bool l,.slice A s.length cap] 28)) w')):=by
   rcases ad with h|⟨h,hx⟩
   ·exact .inl ⟨h,za (Px t l A s.length cap _ hs)⟩
   exact .inr ⟨h,za (by rw[(mF hx).1];exact Iv t l A s.length cap _)⟩
  clear ad;rcases Jo with⟨T8,H⟩|⟨T8,H⟩;all_goals
   cases hf:formed t l s.length with
   |false=>
    rw[hf]at H;have y:Hid (R=(false,c,d)):=za (by rw[z.out,zl (.inr (.inr hf))]);clear z hf Y;go_enter Tryz.func175,Tryz.ntmps175
    go_wp2_with fail
    refine H.out.mono ?_;rintro e D ⟨rfl,hb⟩;go_wp2;go_ret;rw[y.out];have J:Below w.heap.size w D:=(yJ (zq _ _) (zi _) _).trans (hb.mono (by simp));exact⟨rfl,W.out.below J,(ae.ah J (zi _)).mono (by simp)⟩
   |true=>
    rw[hf]at H;have y:Hid (R=fU s (j+1) (c+1) (max d j)):=za (by rw[z.out,zj (by rw[hf];simp;omega)]);have AL:c<=1023:=by omega
    clear z hf Y;obtain⟨M,hM⟩:∃M,max d j=M:=⟨_,rfl⟩
    rcases Nat.lt_trichotomy d j with hx|hx|hx;all_goals
     rw[hM]at y;have HM:=za hM;clear hM;go_enter Tryz.func175,Tryz.ntmps175
     go_wp2_with fail
     refine H.out.mono ?_;rintro e D ⟨rfl,kH⟩;obtain⟨g0,g1,g2⟩:=BS w 28 _ _ _ D (by simpa using kH);have J:Below w.heap.size w D:=(yJ (zq _ _) (zi _) _).trans (kH.mono (by simp));have I:=W.out.below J;have p1:D.cell? ⟨cb,0,none⟩=some (.int .i64 c):=yd I.kI;have au:D.frozen? ⟨cb,0,none⟩=false:=Zw I.kI;have p3:D.cell? ⟨n,0,none⟩=some (.int .i64 d):=yd I.dp;have ar:D.frozen? ⟨n,0,none⟩=false:=Zw I.dp;have GL:=za I;clear I kH q1 q2 H;go_wp2_with fail
     all_goals
      go_loopw [31] (fun i wr=>∃k F G:Nat,k<=s.length/\i= .int .i64 k/\Hid (fU (s.take k) (j+1) (c+1) M=(true,F,G))/\Ap q wr cb E n u F G/\ae [cb,n] w wr/\F<=1024/\G<=17) (fun i _=>s.length-(intOf i).toNat)
      case atStart=>
       refine⟨0,c+1,M,by omega,rfl,za (by simp[fU]),GL.out.step af (by omega) (by have:=HM.out;omega), ?_,by omega,by have:=HM.out;omega⟩;exact(((ae.ah J (zi _)).mono (by simp)).setCell (by simp) _).setCell (by simp) _
      case round=>
       obtain⟨k,F,G,hk,rfl,X8,ab,N,ag,aj⟩:=hrel;have q4:wr.cell? ⟨u,0,none⟩=some (.func (.func 175) #[] #[.pointer (some ⟨cb,0,none⟩),.pointer (some ⟨E,0,none⟩),.pointer (some ⟨n,0,none⟩),.pointer (some ⟨u,0,none⟩)]):=yd ab.gP;have U:Below B w wr:=N.below hB (by simp;omega);have U8:=N.size;have ao:u<wr.heap.size:=by omega
       have Jr:=za ab;clear ab;by_cases K:k<s.length
       ·obtain⟨b,o,d0,d1,d2,rfl,fa,e0,qy,e2,hi⟩:=HS.out.at_ k K;simp only[zQ]at e0 qy e2;replace e0:=(U.cell (p:=⟨b,o+k*3,none⟩) fa).trans e0;replace qy:=(U.cell (p:=⟨b,o+k*3+1,none⟩) fa).trans qy;replace e2:=(U.cell (p:=⟨b,o+k*3+2,none⟩) fa).trans e2;obtain⟨A2,ca,rfl,rfl,rfl,_⟩:=hi.open_;have iE:=zM K;have lh:=hi.below U;have aa:=Jr.out.below (yJ (zq _ wr) (zi _) (.cells #[.string s[k].text,.bool s[k].list,.slice A2 s[k].sub.length ca] 28));have HC:=za (IH.out _ iE B (wr.alloc (.cells #[.string s[k].text,.bool s[k].list,.slice A2 s[k].sub.length ca] 28)) _ _ _ (lh.below (yJ (zq _ _) (by omega) _)) (by simp;omega) q (ak.out.imp id (fun h=>⟨h.1,jv h.2 k K⟩)) cb E n u (j+1) F G aa ai ah af (by omega) (by omega) ag aj);have X:=(Ho s[k] (j+1) F G (by omega) ag).2.2;obtain⟨⟨r,C,Z⟩,S⟩:∃T,s[k].gP (j+1) F G=T:=⟨_,rfl⟩
        rw[S]at HC X;have al:C<=1024/\Z<=17:=by simp at X;omega
        obtain⟨K9,kh⟩:=al;have e9:(j:Int)+1=((j+1:Nat):Int):=by omega
        have E9:=za e9;cases r with
        |true=>
         have L:Hid (fU (s.take (k+1)) (j+1) (c+1) M=(true,C,Z)):=za (by rw[Bv K X8.out,S]);clear hi lh aa S X e9;go_wp2_with fail
         rw[E9.out];refine HC.out.mono ?_;rintro e w2 ⟨rfl,mh,O⟩;have Jq:ae [cb,n] w w2:=(N.alloc _).trans O;clear O;go_wp2;go_roundw
         case rel=>exact⟨k+1,C,Z,by omega,by go_num,L,mh,Jq,K9,kh⟩
         case measure=>simp[intOf];omega
        |false=>
         have L:Hid (fU s (j+1) (c+1) M=(false,C,Z)):=za (LU K X8.out S);clear hi lh aa S X e9;go_wp2_with fail
         rw[E9.out];refine HC.out.mono ?_;rintro e w2 ⟨rfl,mh,O⟩;have Jq:ae [cb,n] w w2:=(N.alloc _).trans O;clear O;go_wp2;go_ret;rw[y.out,L.out];exact⟨rfl,mh,Jq⟩
       have Js:=X8.out;rw[zC (by omega)]at Js;have L:=za Js;clear Js;go_wp2;go_ret;rw[y.out,L.out];exact⟨rfl,Jr.out,N⟩
def jF (a b:It)(e:Ending):Prop:=∃r:Bool,e= .returned (.bool r)/\(r=true↔a=b)
theorem jF.no {a b:It}(h:a≠b):jF a b (.returned (.bool false)):=⟨false,rfl,by simp[h]⟩
theorem jF.yes {a b:It}(h:a=b):jF a b (.returned (.bool true)):=⟨true,rfl,by simp[h]⟩
theorem Iw {s b:List It}(c:s.length=b.length)(h:∀j (e:j<s.length) (d:j<b.length),s[j]=b[j]):s=b:=List.ext_getElem c h
theorem Mz :∀(x:It) (B:Nat) (w:World) (O Z U:Value),bW w B x O Z U->B<=w.heap.size->∀(y:It) (u z C:Value),bW w B y u z C->
 Calls Tryz.prog 34 #[.agg #[O,Z,U],.agg #[u,z,C]] w fun e w'=>jF x y e/\Below w.heap.size w w':=by
 intro x;induction x using It.ind with
 |h t l s ih=>
  intro B w O Z U h hB y u z C hy;obtain⟨rfl,rfl,ht,hs,A,cap,rfl,nW,lM,dx⟩:=h;have IH:=za ih;have HS:=za dx;clear ih dx;obtain⟨Y,M,c⟩:=y;obtain⟨rfl,rfl,ak,U9,W,R,rfl,ai,aj,Vm⟩:=hy;have ag:=za Vm;clear Vm;by_cases m:l=M
  ·subst m;have F:(l !=l)=false:=by simp
   have D:(l==l)=true:=by simp
   rcases pt t Y with⟨rfl,q1,q2⟩|⟨ch,q1,q2⟩
   ·by_cases q:s.length=c.length
    ·have H3:=za q;have e3:((s.length:Int) !=(c.length:Int))=false:=by simp[q]
     have ah:(s.length !=c.length)=false:=by simp[q]
     clear q;go_enter Tryz.func34,Yr
     go_wp2_with fail
     go_loopw [5] (fun i wr=>∃k:Nat,k<=s.length/\i= .int .i64 k/\Hid (∀j (m:j<s.length) (G:j<c.length),j<k->s[j]=c[j])/\Below w.heap.size w wr/\af wr w.heap.size 28 #[.string t,.bool l,.slice A s.length cap]/\af wr (w.heap.size+1) 28 #[.string t,.bool l,.slice W c.length R]) (fun i _=>s.length-(intOf i).toNat)
     case atStart=>exact⟨0,by omega,rfl,za (by omega),bM,(af.new w _ _).alloc _,by have:=af.new (w.alloc (.cells #[.string t,.bool l,.slice A s.length cap] 28)) 28 #[.string t,.bool l,.slice W c.length R];simpa using this⟩
     case round=>
      obtain⟨k,hk,rfl,aa,d,S,E⟩:=hrel;have g1:wr.cell? ⟨w.heap.size,2,none⟩=some (.slice A s.length cap):=S.cell 2;have g2:wr.cell? ⟨w.heap.size+1,2,none⟩=some (.slice W c.length R):=E.cell 2;have Cg:=E.lt;have K1:=za S;have K2:=za E;clear S E;by_cases aD:k<s.length
      ·have X9:k<c.length:=by have:=H3.out;omega
       obtain⟨b,o,u,z,C,rfl,fa,I,F,X,hi⟩:=HS.out.at_ k aD;obtain⟨N,K,ad,ae,ab,rfl,al,L,D,J,Dk⟩:=ag.out.at_ k X9;simp only[zQ]at I F X L D J;replace I:=(d.cell (p:=⟨b,o+k*3,none⟩) (by simp;omega)).trans I;replace F:=(d.cell (p:=⟨b,o+k*3+1,none⟩) (by simp;omega)).trans F;replace X:=(d.cell (p:=⟨b,o+k*3+2,none⟩) (by simp;omega)).trans X;replace L:=(d.cell (p:=⟨N,K+k*3,none⟩) (by simp;omega)).trans L;replace D:=(d.cell (p:=⟨N,K+k*3+1,none⟩) (by simp;omega)).trans D;replace J:=(d.cell (p:=⟨N,K+k*3+2,none⟩) (by simp;omega)).trans J;have hZ:=d.size;have iE:=zM aD;have HC:=za (IH.out _ iE B wr.drew u z C ((hi.below (d.mono hB)).below (zq _ _).drew) (by simp;omega) _ ad ae ab ((Dk.below (d.mono hB)).below (zq _ _).drew));clear hi Dk;go_wp2_with fail
       go_still_tail 10,(by kernel_rfl)
       change wpList _ _ _ _ _ wr.drew
       go_wp2_with fail
       refine HC.out.mono ?_;rintro e w2 ⟨⟨r,rfl,hr⟩,aM⟩;have HR:=za hr;have H:=za aM;clear hr aM;cases r with
       |true=>
        go_wp2;go_roundw
        case rel=>
         refine⟨k+1,by omega,by go_num,za fun j m G hj=> ?_,d.drew.trans (H.out.mono (by simpa using hZ)),K1.out.drew.ag H.out (by simp;omega),K2.out.drew.ag H.out (by simpa using Cg)⟩;by_cases Sf:j=k
         ·subst Sf;exact HR.out.1 (by simp)
         exact aa.out j m G (by omega)
        case measure=>simp[intOf];omega
       |false=>
        have n:Hid (It.mk t l s≠It.mk t l c):=za (by
         intro e;injection e with _ _ e;subst e;have:=HR.out.2 rfl;simp at this)
        go_wp2;go_ret;exact⟨jF.no n.out,d.drew.trans (H.out.mono (by simpa using hZ))⟩
      have HE:Hid (It.mk t l s=It.mk t l c):=za (by rw[Iw H3.out (fun j m G=>aa.out j m G (by omega))]);go_wp2;go_ret;exact⟨jF.yes HE.out,d⟩
    have n:Hid (It.mk t l s≠It.mk t l c):=za (by intro e;injection e with _ _ e;exact q (by rw[e]));have e3:((s.length:Int) !=(c.length:Int))=true:=by simp;omega
    have ah:(s.length !=c.length)=true:=by simp;omega
    clear q;go_enter Tryz.func34,Yr
    go_wp2;go_ret;exact⟨jF.no n.out,bM⟩
   have n:Hid (It.mk t l s≠It.mk Y l c):=za (by intro e;injection e with e;exact ch e);clear ch;go_enter Tryz.func34,Yr
   go_wp2;go_ret;exact⟨jF.no n.out,bM⟩
  have n:Hid (It.mk t l s≠It.mk Y M c):=za (by intro e;injection e with _ e;exact m e);cases l<;>cases M
  ·exact absurd rfl m
  ·clear m;go_enter Tryz.func34,Yr
   go_wp2;go_ret;exact⟨jF.no n.out,bM⟩
  ·clear m;go_enter Tryz.func34,Yr
   go_wp2;go_ret;exact⟨jF.no n.out,bM⟩
  exact absurd rfl m
