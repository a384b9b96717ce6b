/- Package typed: Of, and what the kinds of types say; the table of the kinds. -/
import Derived.Test.YtdbmifjankgfpaaGreatDoorKA20
import Derived.StillTailTactics
set_option linter.all false
set_option maxRecDepth 100000
set_option maxHeartbeats 8000000
open Go.Proofs.Tryz
namespace Go.Proofs.YtdbmifjankgfpaaGreatDoor
open Go.RowKit
variable {s t:Int}{n g k e d:Nat}{w:World}
def ye:=@wp_loop_rounds
def ym:=@ntmps55
def yr:=@rounds_succ
def yt:=@func55
def yQ:=@Below.alloc
def Z2:=@free_of_one
theorem T0 (n b:Nat)(d:b<256)(e:n<72057594037927936):bits .or .u64 (IntKind.u64.wrap ((n:Int)*256)) (IntKind.u64.wrap (b:Int))=((256*n+b:Nat):Int):=by
 have c:((n:Int)*256)=((n*2^(8*1):Nat):Int):=by simp
 rw[xy (b:Int) (by omega),c,xy _ (by omega),u64_or_nat _ _ (by omega) (by omega),Nat.or_comm,Vb b n 1 (by simpa using d)];omega
theorem Qb (s:ByteArray)(w:World)(p:0<s.size)(l:s.size<=8):
 Calls prog 237 #[.string s] w fun e w'=>e= .returned (.tuple #[.int .u64 (lI s.data.toList),.int .i64 0])/\w=w':=by
 have hz:((s.size:Int)==0)=false:=zo.2 (by omega);go_enter func237,ntmps237
 go_wp2;go_loop [5,15] (fun n i=>∃k m:Nat,k<=s.size/\Hid (m=lI (s.data.toList.take k))/\n= .int .u64 m/\i= .int .i64 k) (fun _ i=>s.size-(intOf i).toNat)
 case atStart=>exact⟨0,0,by omega,rfl,rfl,rfl⟩
 case round=>
  obtain⟨k,m,h,b,rfl,rfl⟩:=hrel;by_cases c:k<s.size
  ·go_wp2;have d:=s[k].toNat_lt;have j:=uG (s.data.toList.take k);rw[length_take s k h,<-b.out]at j;have o:2^(8*k)<=2^56:=yu (by omega) (by omega);have e:=T0 m s[k].toNat d (by omega);go_round
   case rel=>
    refine⟨k+1,_,by omega,za rfl, ?_,by go_num⟩;rw[jC s k c,uF,<-b.out,<-e]
   case measure=>simp[intOf];omega
  go_wp2;go_ret2
  exact⟨Fk rfl (by rw[b.out,zz (by simp;omega)]),rfl⟩
def pH (s:ByteArray):Int:=if s.size=0 then 0 else if 8<s.size then 5 else if gG s.data.toList then 3 else 0
def vP (s:ByteArray):Nat:=if pH s=0 then lI s.data.toList else 0
theorem Qc (s:ByteArray)(h:0<s.size):gG s.data.toList=decide (s[0].toNat=0):=by
 have:=drop_cons s 0 h;rw[zL]at this;rw[this];simp only[gG];by_cases e:s[0]=0
 ·simp[e]
 have:s[0].toNat≠0:=fun h=>e (zS.1 h)
 simp[e,this]
theorem pn (s:ByteArray)(w:World)(n:s.size<=9223372036854775807):
 Calls prog 213 #[.string s] w fun e w'=>e= .returned (.tuple #[.int .u64 (vP s),.int .i64 (pH s)])/\w=w':=by
 rcases gq s with⟨hz,rfl⟩|⟨hz,p,o⟩
 ·have c:Hid (vP ⟨#[]⟩=0):=za (by simp[vP,pH,ByteArray.size,lI,dh]);have b:Hid (pH ⟨#[]⟩=0):=za (by simp[pH,ByteArray.size]);generalize vP ⟨#[]⟩=N at*;generalize pH ⟨#[]⟩=E at*;clear hz;go_enter func213,ntmps213
  go_wp2;go_ret2
  exact⟨by rw[c.out,b.out];rfl,rfl⟩
 have k:0<s.size:=by
  rcases Zi s.size with h|h
  ·exact absurd h (by first|exact hz|omega)
  exact h
 by_cases l:s.size<=8
 ·have i:=Qc s k;by_cases d:s[0].toNat=0
  ·have b:Hid (pH s=3):=za (by unfold pH;rw[zh (by omega),zh (by omega),i,d];rfl);have c:Hid (vP s=0):=za (by simp[vP,b.out]);have m:((s[0].toNat:Int)==0)=true:=by simp[d]
   generalize vP s=N at*;generalize pH s=E at*;clear hz d i;go_enter func213,ntmps213
   go_wp2;go_ret2
   exact⟨by rw[c.out,b.out];rfl,rfl⟩
  have b:Hid (pH s=0):=za (by unfold pH;rw[zh (by omega),zh (by omega),i,zv d];rfl);have c:Hid (vP s=lI s.data.toList):=za (by simp[vP,b.out]);have m:((s[0].toNat:Int)==0)=false:=zo.2 (by omega);have j:=za (Qb s w k l);rw[<-c.out]at j;generalize vP s=N at*;generalize pH s=E at*;clear hz d i;go_enter func213,ntmps213
  go_wp2_with fail
  refine j.out.mono ?_;rintro e w' ⟨rfl,rfl⟩;go_wp2;go_ret2
  exact⟨by rw[b.out];rfl,rfl⟩
 have b:Hid (pH s=5):=za (by unfold pH;rw[zh (by omega),zi (by omega)]);have c:Hid (vP s=0):=za (by simp[vP,b.out]);generalize vP s=N at*;generalize pH s=E at*;clear hz;go_enter func213,ntmps213
 go_wp2;go_ret2
 exact⟨by rw[c.out,b.out];rfl,rfl⟩
def Xj (tx:ByteArray)(l:Bool):Int:=if l then 12 else pH tx
def SM (tx:ByteArray)(l:Bool):Nat:=if l then 0 else vP tx
theorem abR (b:ByteArray)(l:Bool)(d:Value)(w:World)(h:b.size<=9223372036854775807):
 Calls prog 178 #[.agg #[.string b,.bool l,d]] w fun e w'=>e= .returned (.tuple #[.int .u64 (SM b l),.int .i64 (Xj b l)])/\Below w.heap.size w w':=by
 cases l with
 |true=>
  simp only[SM,Xj,xJ];go_enter func178,ntmps178
  go_wp2;go_ret2
  exact⟨rfl,bT⟩
 |false=>
  have i:=za (fun w=>pn b w h);have j:Hid (SM b false=vP b):=za rfl;have c:Hid (Xj b false=pH b):=za rfl;rw[j.out,c.out];generalize vP b=N at*;generalize pH b=E at*;go_enter func178,ntmps178
  go_wp2_with fail
  refine(i.out _).mono ?_;rintro e w' ⟨rfl,rfl⟩;go_wp2;go_ret2
  exact⟨rfl,bT⟩
theorem Xk (k s p:Int)(o:Value)(b:ByteArray)(l:Bool)(d2:Value)(w:World)(B:b.size<=9223372036854775807)(D:s<=8):
 Calls prog 198 #[.agg #[.int .i64 k,.int .i64 s,o,.int .i64 p],.agg #[.string b,.bool l,d2]] w fun e w'=>e= .returned (.bool (!l&&decide ((b.size:Int)<=s)&& !gG b.data.toList))/\Below w.heap.size w w':=by
 have x:=za (fun w=>abR b l d2 w B);obtain⟨R,m⟩:∃R,Hid ((!l&&decide ((b.size:Int)<=s)&& !gG b.data.toList)=R):=⟨_,za rfl⟩
 rw[m.out];obtain⟨E,d⟩:∃E,Hid (Xj b l=E):=⟨_,za rfl⟩
 rw[d.out]at x;generalize SM b l=N at*;by_cases hz:E=0
 ·subst hz;have u:Hid (R=decide ((b.size:Int)<=s)):=za (by
   have h:=d.out;rw[<-m.out];unfold Xj pH at h;cases l with
   |true=>simp at h
   |false=>
    simp only[Bool.not_false,Bool.true_and];by_cases j:b.size=0
    ·have:b.data.toList= []:=zp (by rw[aa];exact j);simp[this,gG]
    rw[zh (by simp),zh j]at h;split at h
    ·simp at h
    split at h
    ·simp at h
    rename_i n;simp[n])
  clear m d;go_enter func198,ntmps198
  go_wp2_with fail
  refine(x.out _).mono ?_;rintro e i ⟨rfl,c⟩;have r:=c;simp only[zq]at r;have q:Below w.heap.size w i:=((zm w.heap.size w).alloc (zg _) _|>.alloc (by simp) _).trans (r.mono (by omega));have z:af i w.heap.size 43 #[.int .i64 k,.int .i64 s,o,.int .i64 p]:=((af.new w _ _).alloc _).only (ae.ah c (zg _)) (by simp);have y:af i (w.heap.size+1) 28 #[.string b,.bool l,d2]:=(show af _ (w.heap.size+1) _ _ from by have:=af.new (w.alloc (.cells #[.int .i64 k,.int .i64 s,o,.int .i64 p] 43)) 28 #[.string b,.bool l,d2];simpa using this).only (ae.ah c (zg _)) (by simp);have C:=z.cell 1;have g2:=y.cell 0;clear c r z y;go_wp2;go_ret;exact⟨by rw[u.out];rfl,q⟩
 have u:Hid (R=false):=za (by
  have h:=d.out;rw[<-m.out];unfold Xj pH at h;cases l with
  |true=>simp
  |false=>
   simp only[Bool.not_false,Bool.true_and];by_cases j:b.size=0
   ·simp[j]at h;exact absurd h.symm hz
   rw[zh (by simp),zh j]at h;by_cases A:8<b.size
   ·rw[zv (by omega)];rfl
   rw[zh A]at h;by_cases n:gG b.data.toList=true
   ·simp[n]
   rw[zh n]at h;exact absurd h.symm hz)
 have F:(E==0)=false:=zo.2 hz;clear m d hz;go_enter func198,ntmps198
 go_wp2_with fail
 refine(x.out _).mono ?_;rintro e i ⟨rfl,c⟩;simp only[zq]at c;have q:Below w.heap.size w i:=((zm w.heap.size w).alloc (zg _) _|>.alloc (by simp) _).trans (c.mono (by omega));go_wp2;go_ret;exact⟨by rw[u.out];rfl,q⟩
theorem Xl (k s c:Int)(A:Option Addr)(n cap:Nat)(b:ByteArray)(l:Bool)(h:Option Addr)(m i:Nat)(w:World)(o:b.size<=9223372036854775807)(r:n<=9223372036854775807)(j:m<=9223372036854775807)(q:0<=c)(p:c<=n):
 Calls prog 199 #[.agg #[.int .i64 k,.int .i64 s,.slice A n cap,.int .i64 c],.agg #[.string b,.bool l,.slice h m i]] w fun e w'=>e= .returned (.bool (!l&&decide ((b.size:Int)=s)))/\Below w.heap.size w w':=by
 obtain⟨R,d⟩:∃R,Hid ((!l&&decide ((b.size:Int)=s))=R):=⟨_,za rfl⟩
 rw[d.out];go_enter func199,ntmps199
 cases l
 all_goals
  go_wp2;all_goals
   go_ret;refine⟨aV ?_,bT⟩;rw[<-d.out,yT];simp;try omega
theorem Xm (k s c:Int)(A:Option Addr)(n cap:Nat)(b:ByteArray)(l:Bool)(h:Option Addr)(m i:Nat)(w:World)(o:b.size<=9223372036854775807)(r:n<=9223372036854775807)(j:m<=9223372036854775807)(q:0<=c)(p:c<=n):
 Calls prog 202 #[.agg #[.int .i64 k,.int .i64 s,.slice A n cap,.int .i64 c],.agg #[.string b,.bool l,.slice h m i]] w fun e w'=>e= .returned (.bool (!l&&decide ((b.size:Int)<=s)))/\Below w.heap.size w w':=by
 obtain⟨R,d⟩:∃R,Hid ((!l&&decide ((b.size:Int)<=s))=R):=⟨_,za rfl⟩
 rw[d.out];go_enter func202,ntmps202
 cases l
 all_goals
  go_wp2;all_goals
   go_ret;refine⟨aV ?_,bT⟩;rw[<-d.out,yT];simp;try omega
theorem Xn (k s b:Int)(A:Option Addr)(n cap:Nat)(c:ByteArray)(l:Bool)(h:Option Addr)(m i:Nat)(w:World)(o:c.size<=9223372036854775807)(r:n<=9223372036854775807)(j:m<=9223372036854775807)(q:0<=b)(p:b<=n):
 Calls prog 203 #[.agg #[.int .i64 k,.int .i64 s,.slice A n cap,.int .i64 b],.agg #[.string c,.bool l,.slice h m i]] w fun e w'=>e= .returned (.bool (l&&decide ((m:Int)<=s)))/\Below w.heap.size w w':=by
 obtain⟨R,d⟩:∃R,Hid ((l&&decide ((m:Int)<=s))=R):=⟨_,za rfl⟩
 rw[d.out];go_enter func203,ntmps203
 cases l
 all_goals
  go_wp2;all_goals
   go_ret;refine⟨aV ?_,bT⟩;rw[<-d.out,yT];simp;try omega
theorem Xo (k s b:Int)(A:Option Addr)(n cap:Nat)(c:ByteArray)(l:Bool)(h:Option Addr)(m i:Nat)(w:World)(o:c.size<=9223372036854775807)(r:n<=9223372036854775807)(j:m<=9223372036854775807)(q:0<=b)(p:b<=n):
 Calls prog 206 #[.agg #[.int .i64 k,.int .i64 s,.slice A n cap,.int .i64 b],.agg #[.string c,.bool l,.slice h m i]] w fun e w'=>e= .returned (.bool (l&&decide (m<=n)&&decide ((n:Int)-b<=m)))/\Below w.heap.size w w':=by
 obtain⟨R,d⟩:∃R,Hid ((l&&decide (m<=n)&&decide ((n:Int)-b<=m))=R):=⟨_,za rfl⟩
 rw[d.out];go_enter func206,ntmps206
 cases l
 all_goals
  go_wp2;all_goals
   go_ret;refine⟨aV ?_,bT⟩;rw[<-d.out,yT];simp;try omega
def mu :Value:= .agg #[.func (.func 198) #[] #[],.func (.func 196) #[] #[]]
def jU :Value:= .agg #[.func (.func 199) #[] #[],.func (.func 200) #[] #[]]
def kJ :Value:= .agg #[.func (.func 202) #[] #[],.func (.func 196) #[] #[]]
def qy :Value:= .agg #[.func (.func 203) #[] #[],.func (.func 204) #[] #[]]
def ky :Value:= .agg #[.func (.func 206) #[] #[],.func (.func 207) #[] #[]]
def Ol :List MapEntry:= [⟨.int .i64 1,mu,0⟩,⟨.int .i64 2,jU,1⟩,⟨.int .i64 3,kJ,2⟩,⟨.int .i64 4,qy,3⟩,⟨.int .i64 5,ky,4⟩]
theorem T1 (w:World)(o b:Obj):({(w.alloc o)with heap:=(w.alloc o).heap.setIfInBounds w.heap.size b}:World)=w.alloc b:=by
 have h:(w.heap.push o).setIfInBounds w.heap.size b=w.heap.push b:=by
  apply Array.ext';simp
 show({w with heap:=(w.heap.push o).setIfInBounds w.heap.size b}:World)={w with heap:=w.heap.push b}
 rw[h]
theorem nH (w:World)(es:List MapEntry)(c:Nat)(k:Int)(v:Value)(h:Instr.findNow (.int .i64) (.int .i64 k) es 0=some none):
 (Instr.mapUpdate 217 (.map (some w.heap.size)) (.int .i64 k) v).run prog (w.alloc (.map es.toArray c))= .ok () (w.alloc (.map (es++ [({key:= .int .i64 k,val:=v,born:=c}:MapEntry)]).toArray (c+1))):=by
 have b:(w.alloc (.map es.toArray c)).heap[w.heap.size]?=some (.map es.toArray c):=yR w _;have d:MapKept.IsKey (.int .i64) (.int .i64 k):=by simp[MapKept.IsKey]
 simp[Instr.mapUpdate,xT underlying217,xP b,xY yE d,Zd yE h,MapKept.run_setObj_map _ b,Result.andThen];exact T1 w _ _
theorem nI {es:List MapEntry}{c:Nat}(b:w.heap[g]?=some (.map es.toArray c))(k:Int)(v:Value)(i:Nat)(h:Instr.findNow (.int .i64) (.int .i64 k) es 0=some (some (i,v))):
 (Instr.lookup 217 (.map (some g)) (.int .i64 k) false).run prog w= .ok v w:=by
 have d:MapKept.IsKey (.int .i64) (.int .i64 k):=by simp[MapKept.IsKey]
 simp[Instr.lookup,xT underlying217,xP b,xY yE d,Zd yE h,Result.andThen]
theorem T2 (w:World):Calls prog 168 #[] w fun e w'=>e= .returned (.map (some w.heap.size))/\w'=w.alloc (.map Ol.toArray 5):=by
 have j:= @run_makeMap prog;have c:=nH w [] 0 1 mu rfl;have i:=nH w [⟨.int .i64 1,mu,0⟩] 1 2 jU rfl;have d:=nH w [⟨.int .i64 1,mu,0⟩,⟨.int .i64 2,jU,1⟩] 2 3 kJ rfl;have h:=nH w [⟨.int .i64 1,mu,0⟩,⟨.int .i64 2,jU,1⟩,⟨.int .i64 3,kJ,2⟩] 3 4 qy rfl;have b:=nH w [⟨.int .i64 1,mu,0⟩,⟨.int .i64 2,jU,1⟩,⟨.int .i64 3,kJ,2⟩,⟨.int .i64 4,qy,3⟩] 4 5 ky rfl;simp only[yy,ya,Nat.reduceAdd]at c i d h b;simp only[mu,jU,kJ,qy,ky]at c i d h b;go_enter func168,ntmps168
 go_wp2;go_ret;exact⟨rfl,rfl⟩
theorem M0 (k:Int):k=1\/k=2\/k=3\/k=4\/k=5\/(k≠1/\k≠2/\k≠3/\k≠4/\k≠5):=by omega
theorem afJ (h:gu 1 s n t=false):(s≠1/\s≠2/\s≠4/\s≠8)\/((s=1\/s=2\/s=4\/s=8)/\n≠0)\/((s=1\/s=2\/s=4\/s=8)/\n=0/\t≠0):=by
 simp[gu]at h;omega
theorem afK (h:gu 2 s n t=false):s<1\/(1<=s/\65536<s)\/(1<=s/\s<=65536/\n≠0)\/(1<=s/\s<=65536/\n=0/\t≠0):=by
 simp[gu]at h;omega
theorem afL (h:gu 3 s n t=false):s<0\/(0<=s/\65536<s)\/(0<=s/\s<=65536/\n≠0)\/(0<=s/\s<=65536/\n=0/\t≠0):=by
 simp[gu]at h;omega
theorem afM (h:gu 4 s n t=false):s<0\/(0<=s/\1024<s)\/(0<=s/\s<=1024/\n≠1)\/(0<=s/\s<=1024/\n=1/\t≠0):=by
 simp[gu]at h;omega
theorem afN (h:gu 5 s n t=false):s≠0\/(s=0/\16<n)\/(s=0/\n<=16/\t<0)\/(s=0/\n<=16/\0<=t/\(n:Int)<t):=by
 simp[gu]at h;omega
theorem nb {a b:Int}(h:a≠b):(a==b)=false:=zo.2 h
theorem M3 :∀(x:Ty) (B:Nat) (w:World) (c0 U S c3:Value),cG w B x c0 U S c3->B<=w.heap.size->
 Calls prog 55 #[.agg #[c0,U,S,c3]] w fun e w'=>e= .returned (.bool x.right)/\Below w.heap.size w w':=by
 intro x;induction x using Ty.ind with
 |h ki s l ta ih=>
  intro B w c0 U S c3 h hB;obtain⟨rfl,rfl,rfl,sq,Cu,oq,hs,A,cap,rfl,so,mA,fx⟩:=h;have X:=za ih;have I:=za fx;unfold mL at sq Cu oq;obtain⟨RB,RA⟩:=sq;obtain⟨Rz,RD⟩:=Cu;obtain⟨RC,JH⟩:=oq;clear ih fx;have r:Hid ((Ty.mk ki s l ta).right=(gu ki s l.length ta&&bR l)):=za (by simp only[Ty.right]);generalize (Ty.mk ki s l ta).right=R at*;cases bG:gu ki s l.length ta with
  |true=>
   have hw:=lM bG;rcases hw with⟨rfl,L,d,rfl⟩|⟨rfl,h3,Y,d,rfl⟩|⟨rfl,h3,Y,d,rfl⟩|⟨rfl,h3,Y,d,rfl⟩|⟨rfl,rfl,Y,h5,h6⟩
   ·obtain rfl:l= []:=zp d;have c:Hid (R=true):=za (by rw[r.out,bG];rfl);clear r bG;rcases L with rfl|rfl|rfl|rfl;all_goals
     go_enter yt,ym
     go_wp2_with fail
     refine ye 1 ?_;rw[yr];go_wp2;go_ret;exact⟨by rw[c.out];rfl,bT⟩
   ·obtain rfl:l= []:=zp d;have c:Hid (R=true):=za (by rw[r.out,bG];rfl);clear r bG;go_enter yt,ym
    go_wp2_with fail
    refine ye 1 ?_;rw[yr];go_wp2;go_ret;exact⟨by rw[c.out];rfl,bT⟩
   ·obtain rfl:l= []:=zp d;have c:Hid (R=true):=za (by rw[r.out,bG];rfl);clear r bG;go_enter yt,ym
    go_wp2_with fail
    refine ye 1 ?_;rw[yr];go_wp2;go_ret;exact⟨by rw[c.out];rfl,bT⟩
   ·have c:Hid (R=bR l):=za (by rw[r.out,bG];rfl);have y:((l.length:Int)==1)=true:=by simp[d]
    clear r bG d;go_enter yt,ym
    go_wp2_with fail
    go_loopw [3,5] (fun ok i wr=>∃(k:Nat) (b:Bool),k<=l.length/\i= .int .i64 k/\ok= .bool b/\Hid (bR (l.take k)=b)/\Below w.heap.size w wr/\wr.cell? ⟨w.heap.size,2,none⟩=some (.slice A l.length cap)) (fun _ i _=>l.length-(intOf i).toNat)
    case atStart=>exact⟨0,true,by omega,rfl,rfl,za (by simp[bR]),bT,by simp⟩
    case round=>
     obtain⟨k,b,hk,rfl,rfl,C,m,O⟩:=hrel;by_cases u:k<l.length
     ·cases b with
      |true=>
       obtain⟨b,o,d0,d1,d2,d3,rfl,fL,E,y,F,D,hi⟩:=I.out.at_ k u;simp only[zQ]at E y F D;replace E:=(m.cell (p:=⟨b,o+k*4,none⟩) (by simp;omega)).trans E;replace y:=(m.cell (p:=⟨b,o+k*4+1,none⟩) (by simp;omega)).trans y;replace F:=(m.cell (p:=⟨b,o+k*4+2,none⟩) (by simp;omega)).trans F;replace D:=(m.cell (p:=⟨b,o+k*4+3,none⟩) (by simp;omega)).trans D;have mc:=m.size;have lC:=zR u;have M:=hi.below (m.mono hB);have J:=za (X.out _ lC B wr d0 d1 d2 d3 M (by omega));obtain⟨q,H⟩:∃q,l[k].right=q:=⟨_,rfl⟩
       rw[H]at J;have Hq:Hid (bR (l.take (k+1))=q):=za (by rw[mV l k u,C.out,H];rfl);clear H M hi;go_wp2_with fail
       refine J.out.mono ?_;rintro e w2 ⟨rfl,K⟩;have jJ:=lt_of_cell O;have gC:=(K.cell (p:=⟨w.heap.size,2,none⟩) (by simp;omega)).trans O;have ca:=m.trans (K.mono mc);go_wp2;go_roundw
       case rel=>
        exact⟨k+1,q,by omega,by go_num,rfl,Hq,ca,gC⟩
       case measure=>simp[intOf];omega
      |false=>
       have Z:Hid (bR l=false):=za (by
        have j:=iK (l.take k) (l.drop k);rw[zI,C.out]at j;simpa using j)
       obtain⟨b0,o0,_,_,_,_,rfl,_⟩:=I.out.at_ k u;go_wp2;go_ret;exact⟨by rw[c.out,Z.out];rfl,m⟩
     have G:=C.out;rw[zz (by omega)]at G;have W:=za G;clear G;go_wp2;go_ret;exact⟨by rw[c.out,W.out];rfl,m⟩
   have c:Hid (R=bR l):=za (by rw[r.out,bG];rfl);clear r bG;go_enter yt,ym
   go_wp2_with fail
   go_loopw [3,5] (fun ok i wr=>∃(k:Nat) (b:Bool),k<=l.length/\i= .int .i64 k/\ok= .bool b/\Hid (bR (l.take k)=b)/\Below w.heap.size w wr/\wr.cell? ⟨w.heap.size,2,none⟩=some (.slice A l.length cap)) (fun _ i _=>l.length-(intOf i).toNat)
   case atStart=>exact⟨0,true,by omega,rfl,rfl,za (by simp[bR]),bT,by simp⟩
   case round=>
    obtain⟨k,b,hk,rfl,rfl,C,m,O⟩:=hrel;by_cases u:k<l.length
    ·cases b with
     |true=>
      obtain⟨b,o,d0,d1,d2,d3,rfl,fL,E,y,F,D,hi⟩:=I.out.at_ k u;simp only[zQ]at E y F D;replace E:=(m.cell (p:=⟨b,o+k*4,none⟩) (by simp;omega)).trans E;replace y:=(m.cell (p:=⟨b,o+k*4+1,none⟩) (by simp;omega)).trans y;replace F:=(m.cell (p:=⟨b,o+k*4+2,none⟩) (by simp;omega)).trans F;replace D:=(m.cell (p:=⟨b,o+k*4+3,none⟩) (by simp;omega)).trans D;have mc:=m.size;have lC:=zR u;have M:=hi.below (m.mono hB);have J:=za (X.out _ lC B wr d0 d1 d2 d3 M (by omega));obtain⟨q,H⟩:∃q,l[k].right=q:=⟨_,rfl⟩
      rw[H]at J;have Hq:Hid (bR (l.take (k+1))=q):=za (by rw[mV l k u,C.out,H];rfl);clear H M hi;go_wp2_with fail
      refine J.out.mono ?_;rintro e w2 ⟨rfl,K⟩;have jJ:=lt_of_cell O;have gC:=(K.cell (p:=⟨w.heap.size,2,none⟩) (by simp;omega)).trans O;have ca:=m.trans (K.mono mc);go_wp2;go_roundw
      case rel=>
       exact⟨k+1,q,by omega,by go_num,rfl,Hq,ca,gC⟩
      case measure=>simp[intOf];omega
     |false=>
      have Z:Hid (bR l=false):=za (by
       have j:=iK (l.take k) (l.drop k);rw[zI,C.out]at j;simpa using j)
      obtain⟨b0,o0,_,_,_,_,rfl,_⟩:=I.out.at_ k u;go_wp2;go_ret;exact⟨by rw[c.out,Z.out];rfl,m⟩
    have G:=C.out;rw[zz (by omega)]at G;have W:=za G;clear G;go_wp2;go_ret;exact⟨by rw[c.out,W.out];rfl,m⟩
  |false=>
   have c:Hid (R=false):=za (by rw[r.out,bG];rfl);clear r I X;rcases M0 ki with rfl|rfl|rfl|rfl|rfl|⟨n1,n2,n3,n4,n5⟩
   ·rcases afJ bG with⟨m1,m2,m3,m4⟩|⟨L,d⟩|⟨L,d,n⟩
    ·have z:=nb m1;have N:=nb m2;have f3:=nb m3;have f4:=nb m4;clear bG m1 m2 m3 m4;go_enter yt,ym
     go_wp2_with fail
     refine ye 1 ?_;rw[yr];go_wp2;all_goals
      go_ret;exact⟨by rw[c.out];rfl,bT⟩
    ·have z:((l.length:Int)==0)=false:=nb (by omega);clear bG d;rcases L with rfl|rfl|rfl|rfl;all_goals
      go_enter yt,ym
      go_wp2_with fail
      refine ye 1 ?_;rw[yr];go_wp2;all_goals
       go_ret;exact⟨by rw[c.out];rfl,bT⟩
    obtain rfl:l= []:=zp d;have N:=nb n;clear bG n;rcases L with rfl|rfl|rfl|rfl;all_goals
     go_enter yt,ym
     go_wp2_with fail
     refine ye 1 ?_;rw[yr];go_wp2;all_goals
      go_ret;exact⟨by rw[c.out];rfl,bT⟩
   ·rcases afK bG with j|⟨j,h2⟩|⟨j,h2,d⟩|⟨j,h2,d,n⟩
    ·clear bG;go_enter yt,ym
     go_wp2_with fail
     refine ye 1 ?_;rw[yr];go_wp2;all_goals
      go_ret;exact⟨by rw[c.out];rfl,bT⟩
    ·clear bG;go_enter yt,ym
     go_wp2_with fail
     refine ye 1 ?_;rw[yr];go_wp2;all_goals
      go_ret;exact⟨by rw[c.out];rfl,bT⟩
    ·have z:((l.length:Int)==0)=false:=nb (by omega);clear bG d;go_enter yt,ym
     go_wp2_with fail
     refine ye 1 ?_;rw[yr];go_wp2;all_goals
      go_ret;exact⟨by rw[c.out];rfl,bT⟩
    obtain rfl:l= []:=zp d;have N:=nb n;clear bG n;go_enter yt,ym
    go_wp2_with fail
    refine ye 1 ?_;rw[yr];go_wp2;all_goals
     go_ret;exact⟨by rw[c.out];rfl,bT⟩
   ·rcases afL bG with j|⟨j,h2⟩|⟨j,h2,d⟩|⟨j,h2,d,n⟩
    ·clear bG;go_enter yt,ym
     go_wp2_with fail
     refine ye 1 ?_;rw[yr];go_wp2;all_goals
      go_ret;exact⟨by rw[c.out];rfl,bT⟩
    ·clear bG;go_enter yt,ym
     go_wp2_with fail
     refine ye 1 ?_;rw[yr];go_wp2;all_goals
      go_ret;exact⟨by rw[c.out];rfl,bT⟩
    ·have z:((l.length:Int)==0)=false:=nb (by omega);clear bG d;go_enter yt,ym
     go_wp2_with fail
     refine ye 1 ?_;rw[yr];go_wp2;all_goals
      go_ret;exact⟨by rw[c.out];rfl,bT⟩
    obtain rfl:l= []:=zp d;have N:=nb n;clear bG n;go_enter yt,ym
    go_wp2_with fail
    refine ye 1 ?_;rw[yr];go_wp2;all_goals
     go_ret;exact⟨by rw[c.out];rfl,bT⟩
   ·rcases afM bG with j|⟨j,h2⟩|⟨j,h2,d⟩|⟨j,h2,d,n⟩
    ·clear bG;go_enter yt,ym
     go_wp2_with fail
     refine ye 1 ?_;rw[yr];go_wp2;all_goals
      go_ret;exact⟨by rw[c.out];rfl,bT⟩
    ·clear bG;go_enter yt,ym
     go_wp2_with fail
     refine ye 1 ?_;rw[yr];go_wp2;all_goals
      go_ret;exact⟨by rw[c.out];rfl,bT⟩
    ·have z:((l.length:Int)==1)=false:=nb (by omega);clear bG d;go_enter yt,ym
     go_wp2_with fail
     refine ye 1 ?_;rw[yr];go_wp2;all_goals
      go_ret;exact⟨by rw[c.out];rfl,bT⟩
    have z:((l.length:Int)==1)=true:=by simp[d]
    have N:=nb n;clear bG n d;go_enter yt,ym
    go_wp2_with fail
    refine ye 1 ?_;rw[yr];go_wp2;all_goals
     go_ret;exact⟨by rw[c.out];rfl,bT⟩
   ·rcases afN bG with j|⟨rfl,h2⟩|⟨rfl,h2,n⟩|⟨rfl,h2,n,Rf⟩
    ·have z:=nb j;clear bG j;go_enter yt,ym
     go_wp2_with fail
     refine ye 1 ?_;rw[yr];go_wp2;all_goals
      go_ret;exact⟨by rw[c.out];rfl,bT⟩
    ·clear bG;go_enter yt,ym
     go_wp2_with fail
     refine ye 1 ?_;rw[yr];go_wp2;all_goals
      go_ret;exact⟨by rw[c.out];rfl,bT⟩
    ·clear bG;go_enter yt,ym
     go_wp2_with fail
     refine ye 1 ?_;rw[yr];go_wp2;all_goals
      go_ret;exact⟨by rw[c.out];rfl,bT⟩
    have z:decide (ta<=(l.length:Int))=false:=zv (by omega);clear bG;go_enter yt,ym
    go_wp2_with fail
    refine ye 1 ?_;rw[yr];go_wp2;all_goals
     go_ret;exact⟨by rw[c.out];rfl,bT⟩
   have z:=nb n1;have N:=nb n2;have f3:=nb n3;have f4:=nb n4;have f5:=nb n5;clear bG n1 n2 n3 n4 n5;go_enter yt,ym
   go_wp2_with fail
   refine ye 1 ?_;rw[yr];go_wp2;all_goals
    go_ret;exact⟨by rw[c.out];rfl,bT⟩
theorem KJ (x:Ty)(B:Nat)(w:World)(j i d k:Value)(h:cG w B x j i d k)(J:B<=w.heap.size)(N:x.count<=4611686018427387904):
 Calls prog 37 #[.agg #[j,i,d,k]] w fun e w'=>e= .returned (.bool x.may)/\Below w.heap.size w w':=by
 have I:=L6 x;have p:cG (w.alloc (.cells #[j,i,d,k] 43)) B x j i d k:=h.below (blm J);have o:=za (Da x B _ j i d k p (by simp;omega) (by omega));have y:=za (fun c b hz=>FA x B c j i d k (cG.below p b) hz (by omega));have F:=za (fun c b hz=>M3 x B c j i d k (cG.below p b) hz);have l:Hid (x.may=(decide (x.count<=64)&&decide (x.deep<=8)&&x.right)):=za rfl;obtain⟨r,s⟩:∃r,x.right=r:=⟨_,rfl⟩
 obtain⟨M,hd⟩:∃q,x.deep=q:=⟨_,rfl⟩
 obtain⟨q,C⟩:∃q,x.count=q:=⟨_,rfl⟩
 rw[s,C,hd]at l;rw[C]at o;rw[hd]at y;rw[s]at F;obtain⟨A,cap,rfl,rfl,rfl,rfl,_⟩:=h.open_;clear s C hd I p h N;generalize x.may=R at*;generalize x.kind=W at*;generalize x.size=O at*;generalize x.tail=S at*;by_cases E:q<=64
 ·by_cases D:M<=8
  ·have n:Hid (R=r):=za (by rw[l.out];simp[D,E]);clear l;go_enter func37,ntmps37
   go_wp2_with fail
   refine o.out.mono ?_;rintro e c ⟨rfl,b⟩;obtain⟨g0,g1,g2,g3⟩:=MB (by simpa using b);have z:=b.size;simp only[zq]at z;have u:=(yQ (zm w.heap.size w) (zg _) _).trans (b.mono (by simp));go_wp2_with fail
   refine(y.out c (b.mono (by simp;omega)) (by omega)).mono ?_;rintro e H ⟨rfl,m⟩;have G:=b.trans (m.mono (by simp;omega));have U:=m.size;obtain⟨Y,k1,k2,X⟩:=MB (by simpa using G);have L:=u.trans (m.mono (by omega));go_wp2_with fail
   refine(F.out H (G.mono (by simp;omega)) (by omega)).mono ?_;rintro e w3 ⟨rfl,K⟩;go_wp2;go_ret;exact⟨by rw[n.out];rfl,L.trans (K.mono (by omega))⟩
  have n:Hid (R=false):=za (by rw[l.out];simp[D]);clear l;go_enter func37,ntmps37
  go_wp2_with fail
  refine o.out.mono ?_;rintro e c ⟨rfl,b⟩;obtain⟨g0,g1,g2,g3⟩:=MB (by simpa using b);have z:=b.size;simp only[zq]at z;have u:=(yQ (zm w.heap.size w) (zg _) _).trans (b.mono (by simp));go_wp2_with fail
  refine(y.out c (b.mono (by simp;omega)) (by omega)).mono ?_;rintro e H ⟨rfl,m⟩;go_wp2;go_ret;exact⟨by rw[n.out];rfl,u.trans (m.mono (by omega))⟩
 have n:Hid (R=false):=za (by rw[l.out];simp[E]);clear l;go_enter func37,ntmps37
 go_wp2_with fail
 refine o.out.mono ?_;rintro e c ⟨rfl,b⟩;go_wp2;go_ret;exact⟨by rw[n.out];rfl,(yQ (zm _ _) (zg _) _).trans (b.mono (by simp))⟩
theorem M4 (w:World)(T:TypeId)(e h d:Value)(b:World)(c:Below (w.heap.size+1) (w.alloc (.cells #[e,h,d] T)) b):
 b.cell? ⟨w.heap.size,0,none⟩=some e/\b.cell? ⟨w.heap.size,1,none⟩=some h/\b.cell? ⟨w.heap.size,2,none⟩=some d:=by
 refine⟨?_, ?_, ?_⟩
 ·rw[c.cell (by simp)];simp
 ·rw[c.cell (by simp)];simp
 rw[c.cell (by simp)];simp
theorem Qd (t:ByteArray)(l:Bool)(A:Option Addr)(n cap:Nat)(w:World)(j:n<=9223372036854775807):
 Calls prog 172 #[.agg #[.string t,.bool l,.slice A n cap]] w fun e w'=>e= .returned (.bool (formed t l n))/\Below w.heap.size w w':=by
 cases l with
 |true=>
  rcases gq t with⟨hz,rfl⟩|⟨hz,h,d⟩
  ·have b:Hid (formed ⟨#[]⟩ true n=true):=za rfl;generalize formed ⟨#[]⟩ true n=R at*;clear hz;go_enter func172,ntmps172
   go_wp2;go_ret;exact⟨by rw[b.out];rfl,bT⟩
  have b:Hid (formed t true n=false):=za (by simp[formed,hz]);generalize formed t true n=R at*;clear hz;go_enter func172,ntmps172
  go_wp2;go_ret;exact⟨by rw[b.out];rfl,bT⟩
 |false=>
  by_cases c:n=0
  ·have b:Hid (formed t false n=true):=za (by simp[formed,c]);generalize formed t false n=R at*;go_enter func172,ntmps172
   go_wp2;go_ret;exact⟨by rw[b.out];rfl,bT⟩
  have b:Hid (formed t false n=false):=za (by simp[formed,c]);have i:((n:Int)==0)=false:=zo.2 (by omega);generalize formed t false n=R at*;clear c;go_enter func172,ntmps172
  go_wp2;go_ret;exact⟨by rw[b.out];rfl,bT⟩
theorem IN (t:ByteArray)(l:Bool)(A:Option Addr)(n cap:Nat)(w:World):
 Calls prog 177 #[.agg #[.string t,.bool l,.slice A n cap]] w fun e w'=>e= .returned (.bool true)/\Below w.heap.size w w':=by
 go_enter func177,ntmps177
 go_wp2;go_ret;exact⟨rfl,bT⟩
def Vk (fv:Value)(x:It):Prop:=fv= .func (.func 172) #[] #[]\/fv= .func (.func 177) #[] #[]/\x.right=true
structure AN (fv:Value)(w:World)(cb eb db vb c d:Nat):Prop where
 kU:af w cb 3 #[.int .i64 c]
 each:af w eb 34 #[fv]
 dp:af w db 3 #[.int .i64 d]
 hU:af w vb 254 #[.func (.func 208) #[] #[.pointer (some ⟨cb,0,none⟩),.pointer (some ⟨eb,0,none⟩),.pointer (some ⟨db,0,none⟩),.pointer (some ⟨vb,0,none⟩)]]
theorem AN.below {i:Value}{w':World}{cb j c:Nat}(h:AN i w cb k j e c d)(b:Below w.heap.size w w'):AN i w' cb k j e c d:=
 ⟨h.kU.only (ae.ah b (zg _)) (by simp),h.each.only (ae.ah b (zg _)) (by simp),h.dp.only (ae.ah b (zg _)) (by simp),h.hU.only (ae.ah b (zg _)) (by simp)⟩
theorem af.Vl {c:Nat}{t d:TypeId}{e i:Array Value}(h:af w g t e)(b:af w c d i)(j:t≠d):g≠c:=by
 rintro rfl;unfold af at h b;rw[h]at b;injection b with b;injection b with _ ht;exact j ht
theorem AN.step {j:Value}{cb m b c l:Nat}{u v:Int}(h:AN j w cb m b e c d)(i:cb≠b)(hu:u=(l:Int))(q:v=(k:Int)):AN j ((w.setCell ⟨cb,0,none⟩ (.int .i64 u)).setCell ⟨b,0,none⟩ (.int .i64 v)) cb m b e l k:=by
 subst hu;subst q;have n1:=h.kU.Vl h.each (by decide);have n2:=h.kU.Vl h.hU (by decide);have n:=h.dp.Vl h.each (by decide);have o:=h.dp.Vl h.hU (by decide);exact⟨af.dN (show af _ _ _ _ from one_setCell h.kU) (p:=⟨b,0,none⟩) i _,(h.each.dN (p:=⟨cb,0,none⟩) n1.symm _).dN (p:=⟨b,0,none⟩) n.symm _,one_setCell (h.dp.dN (p:=⟨cb,0,none⟩) i.symm _),(h.hU.dN (p:=⟨cb,0,none⟩) n2.symm _).dN (p:=⟨b,0,none⟩) o.symm _⟩
theorem T3 :∀(x:It) (B:Nat) (w:World) (c0 Z z:Value),dX w B x c0 Z z->B<=w.heap.size->∀(r:Value),Vk r x->∀(cb D n u j c d:Nat),AN r w cb D n u c d->B<=cb->B<=n->cb≠n->1<=j->j<=17->c<=1024->d<=17->
 Calls prog 208 #[.agg #[c0,Z,z],.int .i64 j,.pointer (some ⟨cb,0,none⟩),.pointer (some ⟨D,0,none⟩),.pointer (some ⟨n,0,none⟩),.pointer (some ⟨u,0,none⟩)] w fun e w'=>
  e= .returned (.bool (x.hU j c d).1)/\AN r w' cb D n u (x.hU j c d).2.1 (x.hU j c d).2.2/\ae [cb,n] w w':=by
 intro x;induction x using It.ind with
 |h t l s ih=>
  intro B w c0 Z z h hB r ab cb D n u j c d m ah al af aq au hc hd;obtain⟨rfl,rfl,ht,hs,A,cap,rfl,so,mA,fx⟩:=h;have IH:=za ih;have HS:=za fx;clear ih fx;have n1:=m.kU.Vl m.each (by decide);have n2:=m.kU.Vl m.hU (by decide);have n3:=m.dp.Vl m.each (by decide);have n4:=m.dp.Vl m.hU (by decide);have q1:w.cell? ⟨cb,0,none⟩=some (.int .i64 c):=yc m.kU;have q2:w.cell? ⟨D,0,none⟩=some r:=yc m.each;have X:=za m;have l1:=m.kU.lt;have l2:=m.each.lt;have l4:=m.hU.lt;have C:Hid ((It.mk t l s).hU j c d=if 16<j\/c=1024\/formed t l s.length=false then(false,c,d)else gx s (j+1) (c+1) (max d j)):=za (by simp only[It.hU]);generalize (It.mk t l s).hU j c d=R at*;clear m;by_cases h1:16<j
  ·have q:Hid (R=(false,c,d)):=za (by rw[C.out,zi (.inl h1)]);clear C;go_enter func208,ntmps208
   go_wp2;go_ret;rw[q.out];exact⟨rfl,X.out.below bT,CL⟩
  by_cases W:c=1024
  ·have e1:((c:Int)==1024)=true:=by simp;omega
   have q:Hid (R=(false,c,d)):=za (by rw[C.out,zi (.inr (.inl W))]);clear C W;go_enter func208,ntmps208
   go_wp2;go_ret;rw[q.out];exact⟨rfl,X.out.below bT,CL⟩
  have e1:((c:Int)==1024)=false:=zo.2 (by omega);have an:=za ab;have JD:(r= .func (.func 172) #[] #[]/\Hid (Calls prog 172 #[.agg #[.string t,.bool l,.slice A s.length cap]] (w.alloc (.cells #[.string t,.bool l,.slice A s.length cap] 28)) fun e w'=>e= .returned (.bool (formed t l s.length))/\Below (w.alloc (.cells #[.string t,.bool l,.slice A s.length cap] 28)).heap.size (w.alloc (.cells #[.string t,.bool l,.slice A s.length cap] 28)) w'))\/
   (r= .func (.func 177) #[] #[]/\Hid (Calls prog 177 #[.agg #[.string t,.bool l,.slice A s.length cap]] (w.alloc (.cells #[.string t,.bool l,.slice A s.length cap] 28)) fun e w'=>e= .returned (.bool (formed t l s.length))/\Below (w.alloc (.cells #[.string t,.bool l,.slice A s.length cap] 28)).heap.size (w.alloc (.cells #[.string t,.bool l,.slice A s.length cap] 28)) w')):=by
   rcases ab with h|⟨h,hx⟩
   ·exact .inl ⟨h,za (Qd t l A s.length cap _ hs)⟩
   exact .inr ⟨h,za (by rw[(mZ hx).1];exact IN t l A s.length cap _)⟩
  clear ab;rcases JD with⟨aj,G⟩|⟨aj,G⟩;all_goals
   cases hf:formed t l s.length with
   |false=>
    rw[hf]at G;have q:Hid (R=(false,c,d)):=za (by rw[C.out,zi (.inr (.inr hf))]);clear C hf W;go_enter func208,ntmps208
    go_wp2_with fail
    refine G.out.mono ?_;rintro e y ⟨rfl,hb⟩;go_wp2;go_ret;rw[q.out];have J:Below w.heap.size w y:=(yQ (zm _ _) (zg _) _).trans (hb.mono (by simp));exact⟨rfl,X.out.below J,(ae.ah J (zg _)).mono (by simp)⟩
   |true=>
    rw[hf]at G;have q:Hid (R=gx s (j+1) (c+1) (max d j)):=za (by rw[C.out,zh (by rw[hf];simp;omega)]);have Bg:c<=1023:=by omega
    clear C hf W;obtain⟨M,hM⟩:∃M,max d j=M:=⟨_,rfl⟩
    rcases Nat.lt_trichotomy d j with hx|hx|hx;all_goals
     rw[hM]at q;have HM:=za hM;clear hM;go_enter func208,ntmps208
     go_wp2_with fail
     refine G.out.mono ?_;rintro e y ⟨rfl,je⟩;obtain⟨g0,g1,g2⟩:=M4 w 28 _ _ _ y (by simpa using je);have J:Below w.heap.size w y:=(yQ (zm _ _) (zg _) _).trans (je.mono (by simp));have H:=X.out.below J;have p1:y.cell? ⟨cb,0,none⟩=some (.int .i64 c):=yc H.kU;have aw:y.frozen? ⟨cb,0,none⟩=false:=Z2 H.kU;have p3:y.cell? ⟨n,0,none⟩=some (.int .i64 d):=yc H.dp;have av:y.frozen? ⟨n,0,none⟩=false:=Z2 H.dp;have GY:=za H;clear H je q1 q2 G;go_wp2_with fail
     all_goals
      go_loopw [31] (fun i wr=>∃k F E:Nat,k<=s.length/\i= .int .i64 k/\Hid (gx (s.take k) (j+1) (c+1) M=(true,F,E))/\AN r wr cb D n u F E/\ae [cb,n] w wr/\F<=1024/\E<=17) (fun i _=>s.length-(intOf i).toNat)
      case atStart=>
       refine⟨0,c+1,M,by omega,rfl,za (by simp[gx]),GY.out.step af (by omega) (by have:=HM.out;omega), ?_,by omega,by have:=HM.out;omega⟩;exact(((ae.ah J (zg _)).mono (by simp)).setCell (by simp) _).setCell (by simp) _
      case round=>
       obtain⟨k,F,E,hk,rfl,Yr,ad,N,ag,ai⟩:=hrel;have q4:wr.cell? ⟨u,0,none⟩=some (.func (.func 208) #[] #[.pointer (some ⟨cb,0,none⟩),.pointer (some ⟨D,0,none⟩),.pointer (some ⟨n,0,none⟩),.pointer (some ⟨u,0,none⟩)]):=yc ad.hU;have U:Below B w wr:=N.below hB (by simp;omega);have UB:=N.size;have ar:u<wr.heap.size:=by omega
       have JJ:=za ad;clear ad;by_cases I:k<s.length
       ·obtain⟨b,o,d0,d1,d2,rfl,fL,e0,uy,e2,hi⟩:=HS.out.at_ k I;simp only[zQ]at e0 uy e2;replace e0:=(U.cell (p:=⟨b,o+k*3,none⟩) fL).trans e0;replace uy:=(U.cell (p:=⟨b,o+k*3+1,none⟩) fL).trans uy;replace e2:=(U.cell (p:=⟨b,o+k*3+2,none⟩) fL).trans e2;obtain⟨A2,cC,rfl,rfl,rfl,_⟩:=hi.open_;have lC:=zR I;have nQ:=hi.below U;have aa:=JJ.out.below (yQ (zm _ wr) (zg _) (.cells #[.string s[k].text,.bool s[k].list,.slice A2 s[k].sub.length cC] 28));have HC:=za (IH.out _ lC B (wr.alloc (.cells #[.string s[k].text,.bool s[k].list,.slice A2 s[k].sub.length cC] 28)) _ _ _ (nQ.below (yQ (zm _ _) (by omega) _)) (by simp;omega) r (an.out.imp id (fun h=>⟨h.1,jM h.2 k I⟩)) cb D n u (j+1) F E aa ah al af (by omega) (by omega) ag ai);have S:=(Hp s[k] (j+1) F E (by omega) ag).2.2;obtain⟨⟨ao,z,Y⟩,K⟩:∃T,s[k].hU (j+1) F E=T:=⟨_,rfl⟩
        rw[K]at HC S;have ak:z<=1024/\Y<=17:=by simp at S;omega
        obtain⟨Lu,kD⟩:=ak;have e9:(j:Int)+1=((j+1:Nat):Int):=by omega
        have E9:=za e9;cases ao with
        |true=>
         have L:Hid (gx (s.take (k+1)) (j+1) (c+1) M=(true,z,Y)):=za (by rw[BP I Yr.out,K]);clear hi nQ aa K S e9;go_wp2_with fail
         rw[E9.out];refine HC.out.mono ?_;rintro e w2 ⟨rfl,mP,O⟩;have JK:ae [cb,n] w w2:=(N.alloc _).trans O;clear O;go_wp2;go_roundw
         case rel=>exact⟨k+1,z,Y,by omega,by go_num,L,mP,JK,Lu,kD⟩
         case measure=>simp[intOf];omega
        |false=>
         have L:Hid (gx s (j+1) (c+1) M=(false,z,Y)):=za (Md I Yr.out K);clear hi nQ aa K S e9;go_wp2_with fail
         rw[E9.out];refine HC.out.mono ?_;rintro e w2 ⟨rfl,mP,O⟩;have JK:ae [cb,n] w w2:=(N.alloc _).trans O;clear O;go_wp2;go_ret;rw[q.out,L.out];exact⟨rfl,mP,JK⟩
       have JI:=Yr.out;rw[zz (by omega)]at JI;have L:=za JI;clear JI;go_wp2;go_ret;rw[q.out,L.out];exact⟨rfl,JJ.out,N⟩
def Qe (a b:It)(e:Ending):Prop:=∃r:Bool,e= .returned (.bool r)/\(r=true↔a=b)
theorem Qe.yes {a b:It}(h:a=b):Qe a b (.returned (.bool true)):=⟨true,rfl,by simp[h]⟩
