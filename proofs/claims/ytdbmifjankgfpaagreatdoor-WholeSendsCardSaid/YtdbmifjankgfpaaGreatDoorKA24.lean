/- Package typed: Of, and what the kinds of types say; the table of the kinds. -/
import Derived.Test.YtdbmifjankgfpaaGreatDoorKA18
import Derived.StillTailTactics
set_option linter.all false
set_option maxRecDepth 100000
set_option maxHeartbeats 8000000
open Go.Proofs.Tryz
namespace Go.Proofs.YtdbmifjankgfpaaGreatDoor
open Go.RowKit
variable {s t:Int}{n g k d:Nat}{w:World}{a:It}
def yb:=@wp_loop_rounds
def yk:=@ntmps55
def ym:=@rounds_succ
def yo:=@func55
def yv:=@Below.alloc
def Z6:=@free_of_one
def Ye:=@ntmps18
theorem T6 (n b:Nat)(d:b<256)(e:n<72057594037927936):bits .or .u64 (IntKind.u64.wrap ((n:Int)*256)) (IntKind.u64.wrap (b:Int))=((256*n+b:Nat):Int):=by
 have c:((n:Int)*256)=((n*2^(8*1):Nat):Int):=by simp
 rw[xy (b:Int) (by omega),c,xy _ (by omega),u64_or_nat _ _ (by omega) (by omega),Nat.or_comm,Vm b n 1 (by simpa using d)];omega
theorem Qq (s:ByteArray)(w:World)(l:0<s.size)(p:s.size<=8):
 Calls prog 237 #[.string s] w fun e w'=>e= .returned (.tuple #[.int .u64 (lK s.data.toList),.int .i64 0])/\w=w':=by
 have hz:((s.size:Int)==0)=false:=zm.2 (by omega);go_enter func237,ntmps237
 go_wp2;go_loop [5,15] (fun n i=>∃k m:Nat,k<=s.size/\Hid (m=lK (s.data.toList.take k))/\n= .int .u64 m/\i= .int .i64 k) (fun _ i=>s.size-(intOf i).toNat)
 case atStart=>exact⟨0,0,by omega,rfl,rfl,rfl⟩
 case round=>
  obtain⟨k,m,j,b,rfl,rfl⟩:=hrel;by_cases h:k<s.size
  ·go_wp2;have d:=s[k].toNat_lt;have c:=uJ (s.data.toList.take k);rw[length_take s k j,<-b.out]at c;have o:2^(8*k)<=2^56:=yp (by omega) (by omega);have e:=T6 m s[k].toNat d (by omega);go_round
   case rel=>
    refine⟨k+1,_,by omega,za rfl, ?_,by go_num⟩;rw[jt s k h,uI,<-b.out,<-e]
   case measure=>simp[intOf];omega
  go_wp2;go_ret2
  exact⟨FD rfl (by rw[b.out,zv (by simp;omega)]),rfl⟩
def pN (s:ByteArray):Int:=if s.size=0 then 0 else if 8<s.size then 5 else if fC s.data.toList then 3 else 0
def vR (s:ByteArray):Nat:=if pN s=0 then lK s.data.toList else 0
theorem FT (s:ByteArray)(h:0<s.size):fC s.data.toList=decide (s[0].toNat=0):=by
 have:=drop_cons s 0 h;rw[zJ]at this;rw[this];simp only[fC];by_cases e:s[0]=0
 ·simp[e]
 have:s[0].toNat≠0:=fun h=>e (zQ.1 h)
 simp[e,this]
theorem pn (s:ByteArray)(w:World)(p:s.size<=9223372036854775807):
 Calls prog 213 #[.string s] w fun e w'=>e= .returned (.tuple #[.int .u64 (vR s),.int .i64 (pN s)])/\w=w':=by
 rcases eu s with⟨hz,rfl⟩|⟨hz,n,o⟩
 ·have c:Hid (vR ⟨#[]⟩=0):=za (by simp[vR,pN,ByteArray.size,lK,du]);have b:Hid (pN ⟨#[]⟩=0):=za (by simp[pN,ByteArray.size]);generalize vR ⟨#[]⟩=N at*;generalize pN ⟨#[]⟩=E at*;clear hz;go_enter func213,ntmps213
  go_wp2;go_ret2
  exact⟨by rw[c.out,b.out];rfl,rfl⟩
 have k:0<s.size:=by
  rcases Zi s.size with h|h
  ·exact absurd h (by first|exact hz|omega)
  exact h
 by_cases m:s.size<=8
 ·have i:=FT s k;by_cases d:s[0].toNat=0
  ·have b:Hid (pN s=3):=za (by unfold pN;rw[zh (by omega),zh (by omega),i,d];rfl);have c:Hid (vR s=0):=za (by simp[vR,b.out]);have l:((s[0].toNat:Int)==0)=true:=by simp[d]
   generalize vR s=N at*;generalize pN s=E at*;clear hz d i;go_enter func213,ntmps213
   go_wp2;go_ret2
   exact⟨by rw[c.out,b.out];rfl,rfl⟩
  have b:Hid (pN s=0):=za (by unfold pN;rw[zh (by omega),zh (by omega),i,zu d];rfl);have c:Hid (vR s=lK s.data.toList):=za (by simp[vR,b.out]);have l:((s[0].toNat:Int)==0)=false:=zm.2 (by omega);have j:=za (Qq s w k m);rw[<-c.out]at j;generalize vR s=N at*;generalize pN s=E at*;clear hz d i;go_enter func213,ntmps213
  go_wp2_with fail
  refine j.out.mono ?_;rintro e w' ⟨rfl,rfl⟩;go_wp2;go_ret2
  exact⟨by rw[b.out];rfl,rfl⟩
 have b:Hid (pN s=5):=za (by unfold pN;rw[zh (by omega),zi (by omega)]);have c:Hid (vR s=0):=za (by simp[vR,b.out]);generalize vR s=N at*;generalize pN s=E at*;clear hz;go_enter func213,ntmps213
 go_wp2;go_ret2
 exact⟨by rw[c.out,b.out];rfl,rfl⟩
def Xw (tx:ByteArray)(l:Bool):Int:=if l then 12 else pN tx
def SW (tx:ByteArray)(l:Bool):Nat:=if l then 0 else vR tx
theorem ach (b:ByteArray)(l:Bool)(h:Value)(w:World)(i:b.size<=9223372036854775807):
 Calls prog 178 #[.agg #[.string b,.bool l,h]] w fun e w'=>e= .returned (.tuple #[.int .u64 (SW b l),.int .i64 (Xw b l)])/\Below w.heap.size w w':=by
 cases l with
 |true=>
  simp only[SW,Xw,xK];go_enter func178,ntmps178
  go_wp2;go_ret2
  exact⟨rfl,bD⟩
 |false=>
  have c:=za (fun w=>pn b w i);have d:Hid (SW b false=vR b):=za rfl;have j:Hid (Xw b false=pN b):=za rfl;rw[d.out,j.out];generalize vR b=N at*;generalize pN b=E at*;go_enter func178,ntmps178
  go_wp2_with fail
  refine(c.out _).mono ?_;rintro e w' ⟨rfl,rfl⟩;go_wp2;go_ret2
  exact⟨rfl,bD⟩
theorem Xx (k s q:Int)(r:Value)(b:ByteArray)(l:Bool)(d2:Value)(w:World)(B:b.size<=9223372036854775807)(D:s<=8):
 Calls prog 198 #[.agg #[.int .i64 k,.int .i64 s,r,.int .i64 q],.agg #[.string b,.bool l,d2]] w fun e w'=>e= .returned (.bool (!l&&decide ((b.size:Int)<=s)&& !fC b.data.toList))/\Below w.heap.size w w':=by
 have o:=za (fun w=>ach b l d2 w B);obtain⟨R,i⟩:∃R,Hid ((!l&&decide ((b.size:Int)<=s)&& !fC b.data.toList)=R):=⟨_,za rfl⟩
 rw[i.out];obtain⟨E,j⟩:∃E,Hid (Xw b l=E):=⟨_,za rfl⟩
 rw[j.out]at o;generalize SW b l=N at*;by_cases hz:E=0
 ·subst hz;have x:Hid (R=decide ((b.size:Int)<=s)):=za (by
   have h:=j.out;rw[<-i.out];unfold Xw pN at h;cases l with
   |true=>simp at h
   |false=>
    simp only[Bool.not_false,Bool.true_and];by_cases d:b.size=0
    ·have:b.data.toList= []:=zo (by rw[aa];exact d);simp[this,fC]
    rw[zh (by simp),zh d]at h;split at h
    ·simp at h
    split at h
    ·simp at h
    rename_i n;simp[n])
  clear i j;go_enter func198,ntmps198
  go_wp2_with fail
  refine(o.out _).mono ?_;rintro e m ⟨rfl,c⟩;have u:=c;simp only[zp]at u;have p:Below w.heap.size w m:=((zl w.heap.size w).alloc (zg _) _|>.alloc (by simp) _).trans (u.mono (by omega));have z:af m w.heap.size 43 #[.int .i64 k,.int .i64 s,r,.int .i64 q]:=((af.new w _ _).alloc _).only (ae.ah c (zg _)) (by simp);have y:af m (w.heap.size+1) 28 #[.string b,.bool l,d2]:=(show af _ (w.heap.size+1) _ _ from by have:=af.new (w.alloc (.cells #[.int .i64 k,.int .i64 s,r,.int .i64 q] 43)) 28 #[.string b,.bool l,d2];simpa using this).only (ae.ah c (zg _)) (by simp);have F:=z.cell 1;have g2:=y.cell 0;clear c u z y;go_wp2;go_ret;exact⟨by rw[x.out];rfl,p⟩
 have x:Hid (R=false):=za (by
  have h:=j.out;rw[<-i.out];unfold Xw pN at h;cases l with
  |true=>simp
  |false=>
   simp only[Bool.not_false,Bool.true_and];by_cases d:b.size=0
   ·simp[d]at h;exact absurd h.symm hz
   rw[zh (by simp),zh d]at h;by_cases A:8<b.size
   ·rw[zu (by omega)];rfl
   rw[zh A]at h;by_cases n:fC b.data.toList=true
   ·simp[n]
   rw[zh n]at h;exact absurd h.symm hz)
 have C:(E==0)=false:=zm.2 hz;clear i j hz;go_enter func198,ntmps198
 go_wp2_with fail
 refine(o.out _).mono ?_;rintro e m ⟨rfl,c⟩;simp only[zp]at c;have p:Below w.heap.size w m:=((zl w.heap.size w).alloc (zg _) _|>.alloc (by simp) _).trans (c.mono (by omega));go_wp2;go_ret;exact⟨by rw[x.out];rfl,p⟩
theorem Xy (k s c:Int)(A:Option Addr)(n cap:Nat)(b:ByteArray)(l:Bool)(h:Option Addr)(m i:Nat)(w:World)(o:b.size<=9223372036854775807)(j:n<=9223372036854775807)(r:m<=9223372036854775807)(q:0<=c)(p:c<=n):
 Calls prog 199 #[.agg #[.int .i64 k,.int .i64 s,.slice A n cap,.int .i64 c],.agg #[.string b,.bool l,.slice h m i]] w fun e w'=>e= .returned (.bool (!l&&decide ((b.size:Int)=s)))/\Below w.heap.size w w':=by
 obtain⟨R,d⟩:∃R,Hid ((!l&&decide ((b.size:Int)=s))=R):=⟨_,za rfl⟩
 rw[d.out];go_enter func199,ntmps199
 cases l
 all_goals
  go_wp2;all_goals
   go_ret;refine⟨aT ?_,bD⟩;rw[<-d.out,yE];simp;try omega
theorem Xz (k s c:Int)(A:Option Addr)(n cap:Nat)(b:ByteArray)(l:Bool)(h:Option Addr)(m i:Nat)(w:World)(o:b.size<=9223372036854775807)(j:n<=9223372036854775807)(r:m<=9223372036854775807)(q:0<=c)(p:c<=n):
 Calls prog 202 #[.agg #[.int .i64 k,.int .i64 s,.slice A n cap,.int .i64 c],.agg #[.string b,.bool l,.slice h m i]] w fun e w'=>e= .returned (.bool (!l&&decide ((b.size:Int)<=s)))/\Below w.heap.size w w':=by
 obtain⟨R,d⟩:∃R,Hid ((!l&&decide ((b.size:Int)<=s))=R):=⟨_,za rfl⟩
 rw[d.out];go_enter func202,ntmps202
 cases l
 all_goals
  go_wp2;all_goals
   go_ret;refine⟨aT ?_,bD⟩;rw[<-d.out,yE];simp;try omega
theorem XA (k s b:Int)(A:Option Addr)(n cap:Nat)(d:ByteArray)(l:Bool)(h:Option Addr)(m i:Nat)(w:World)(o:d.size<=9223372036854775807)(j:n<=9223372036854775807)(r:m<=9223372036854775807)(q:0<=b)(p:b<=n):
 Calls prog 203 #[.agg #[.int .i64 k,.int .i64 s,.slice A n cap,.int .i64 b],.agg #[.string d,.bool l,.slice h m i]] w fun e w'=>e= .returned (.bool (l&&decide ((m:Int)<=s)))/\Below w.heap.size w w':=by
 obtain⟨R,c⟩:∃R,Hid ((l&&decide ((m:Int)<=s))=R):=⟨_,za rfl⟩
 rw[c.out];go_enter func203,ntmps203
 cases l
 all_goals
  go_wp2;all_goals
   go_ret;refine⟨aT ?_,bD⟩;rw[<-c.out,yE];simp;try omega
theorem XB (k s b:Int)(A:Option Addr)(n cap:Nat)(d:ByteArray)(l:Bool)(h:Option Addr)(m i:Nat)(w:World)(o:d.size<=9223372036854775807)(j:n<=9223372036854775807)(r:m<=9223372036854775807)(q:0<=b)(p:b<=n):
 Calls prog 206 #[.agg #[.int .i64 k,.int .i64 s,.slice A n cap,.int .i64 b],.agg #[.string d,.bool l,.slice h m i]] w fun e w'=>e= .returned (.bool (l&&decide (m<=n)&&decide ((n:Int)-b<=m)))/\Below w.heap.size w w':=by
 obtain⟨R,c⟩:∃R,Hid ((l&&decide (m<=n)&&decide ((n:Int)-b<=m))=R):=⟨_,za rfl⟩
 rw[c.out];go_enter func206,ntmps206
 cases l
 all_goals
  go_wp2;all_goals
   go_ret;refine⟨aT ?_,bD⟩;rw[<-c.out,yE];simp;try omega
def mm :Value:= .agg #[.func (.func 198) #[] #[],.func (.func 196) #[] #[]]
def jN :Value:= .agg #[.func (.func 199) #[] #[],.func (.func 200) #[] #[]]
def kI :Value:= .agg #[.func (.func 202) #[] #[],.func (.func 196) #[] #[]]
def qI :Value:= .agg #[.func (.func 203) #[] #[],.func (.func 204) #[] #[]]
def kx :Value:= .agg #[.func (.func 206) #[] #[],.func (.func 207) #[] #[]]
def OM :List MapEntry:= [⟨.int .i64 1,mm,0⟩,⟨.int .i64 2,jN,1⟩,⟨.int .i64 3,kI,2⟩,⟨.int .i64 4,qI,3⟩,⟨.int .i64 5,kx,4⟩]
theorem T7 (w:World)(o b:Obj):({(w.alloc o)with heap:=(w.alloc o).heap.setIfInBounds w.heap.size b}:World)=w.alloc b:=by
 have h:(w.heap.push o).setIfInBounds w.heap.size b=w.heap.push b:=by
  apply Array.ext';simp
 show({w with heap:=(w.heap.push o).setIfInBounds w.heap.size b}:World)={w with heap:=w.heap.push b}
 rw[h]
theorem nE (w:World)(es:List MapEntry)(c:Nat)(k:Int)(v:Value)(h:Instr.findNow (.int .i64) (.int .i64 k) es 0=some none):
 (Instr.mapUpdate 217 (.map (some w.heap.size)) (.int .i64 k) v).run prog (w.alloc (.map es.toArray c))= .ok () (w.alloc (.map (es++ [({key:= .int .i64 k,val:=v,born:=c}:MapEntry)]).toArray (c+1))):=by
 have b:(w.alloc (.map es.toArray c)).heap[w.heap.size]?=some (.map es.toArray c):=yP w _;have d:MapKept.IsKey (.int .i64) (.int .i64 k):=by simp[MapKept.IsKey]
 simp[Instr.mapUpdate,xW underlying217,xS b,Zb yC d,Ze yC h,MapKept.run_setObj_map _ b,Result.andThen];exact T7 w _ _
theorem nF {es:List MapEntry}{c:Nat}(d:w.heap[g]?=some (.map es.toArray c))(k:Int)(v:Value)(i:Nat)(h:Instr.findNow (.int .i64) (.int .i64 k) es 0=some (some (i,v))):
 (Instr.lookup 217 (.map (some g)) (.int .i64 k) false).run prog w= .ok v w:=by
 have b:MapKept.IsKey (.int .i64) (.int .i64 k):=by simp[MapKept.IsKey]
 simp[Instr.lookup,xW underlying217,xS d,Zb yC b,Ze yC h,Result.andThen]
theorem T8 (w:World):Calls prog 168 #[] w fun e w'=>e= .returned (.map (some w.heap.size))/\w'=w.alloc (.map OM.toArray 5):=by
 have j:= @run_makeMap prog;have b:=nE w [] 0 1 mm rfl;have i:=nE w [⟨.int .i64 1,mm,0⟩] 1 2 jN rfl;have d:=nE w [⟨.int .i64 1,mm,0⟩,⟨.int .i64 2,jN,1⟩] 2 3 kI rfl;have c:=nE w [⟨.int .i64 1,mm,0⟩,⟨.int .i64 2,jN,1⟩,⟨.int .i64 3,kI,2⟩] 3 4 qI rfl;have h:=nE w [⟨.int .i64 1,mm,0⟩,⟨.int .i64 2,jN,1⟩,⟨.int .i64 3,kI,2⟩,⟨.int .i64 4,qI,3⟩] 4 5 kx rfl;simp only[yx,zP,Nat.reduceAdd]at b i d c h;simp only[mm,jN,kI,qI,kx]at b i d c h;go_enter func168,ntmps168
 go_wp2;go_ret;exact⟨rfl,rfl⟩
theorem No (k:Int):k=1\/k=2\/k=3\/k=4\/k=5\/(k≠1/\k≠2/\k≠3/\k≠4/\k≠5):=by omega
theorem agv (h:fW 1 s n t=false):(s≠1/\s≠2/\s≠4/\s≠8)\/((s=1\/s=2\/s=4\/s=8)/\n≠0)\/((s=1\/s=2\/s=4\/s=8)/\n=0/\t≠0):=by
 simp[fW]at h;omega
theorem agw (h:fW 2 s n t=false):s<1\/(1<=s/\65536<s)\/(1<=s/\s<=65536/\n≠0)\/(1<=s/\s<=65536/\n=0/\t≠0):=by
 simp[fW]at h;omega
theorem agx (h:fW 3 s n t=false):s<0\/(0<=s/\65536<s)\/(0<=s/\s<=65536/\n≠0)\/(0<=s/\s<=65536/\n=0/\t≠0):=by
 simp[fW]at h;omega
theorem agy (h:fW 4 s n t=false):s<0\/(0<=s/\1024<s)\/(0<=s/\s<=1024/\n≠1)\/(0<=s/\s<=1024/\n=1/\t≠0):=by
 simp[fW]at h;omega
theorem agz (h:fW 5 s n t=false):s≠0\/(s=0/\16<n)\/(s=0/\n<=16/\t<0)\/(s=0/\n<=16/\0<=t/\(n:Int)<t):=by
 simp[fW]at h;omega
theorem nb {a b:Int}(h:a≠b):(a==b)=false:=zm.2 h
theorem Np :∀(x:Ty) (B:Nat) (w:World) (c0 S c2 Y:Value),cC w B x c0 S c2 Y->B<=w.heap.size->
 Calls prog 55 #[.agg #[c0,S,c2,Y]] w fun e w'=>e= .returned (.bool x.right)/\Below w.heap.size w w':=by
 intro x;induction x using Ty.ind with
 |h ki s l ta ih=>
  intro B w c0 S c2 Y h hB;obtain⟨rfl,rfl,rfl,sm,Cr,mJ,hs,A,cap,rfl,lH,jR,cy⟩:=h;have Z:=za ih;have L:=za cy;unfold mD at sm Cr mJ;obtain⟨RL,RM⟩:=sm;obtain⟨RJ,RN⟩:=Cr;obtain⟨RK,JZ⟩:=mJ;clear ih cy;have r:Hid ((Ty.mk ki s l ta).right=(fW ki s l.length ta&&bR l)):=za (by simp only[Ty.right]);generalize (Ty.mk ki s l ta).right=R at*;cases bC:fW ki s l.length ta with
  |true=>
   have hw:=km bC;rcases hw with⟨rfl,J,d,rfl⟩|⟨rfl,h3,h4,d,rfl⟩|⟨rfl,h3,h4,d,rfl⟩|⟨rfl,h3,h4,d,rfl⟩|⟨rfl,rfl,h4,h5,h6⟩
   ·obtain rfl:l= []:=zo d;have c:Hid (R=true):=za (by rw[r.out,bC];rfl);clear r bC;rcases J with rfl|rfl|rfl|rfl;all_goals
     go_enter yo,yk
     go_wp2_with fail
     refine yb 1 ?_;rw[ym];go_wp2;go_ret;exact⟨by rw[c.out];rfl,bD⟩
   ·obtain rfl:l= []:=zo d;have c:Hid (R=true):=za (by rw[r.out,bC];rfl);clear r bC;go_enter yo,yk
    go_wp2_with fail
    refine yb 1 ?_;rw[ym];go_wp2;go_ret;exact⟨by rw[c.out];rfl,bD⟩
   ·obtain rfl:l= []:=zo d;have c:Hid (R=true):=za (by rw[r.out,bC];rfl);clear r bC;go_enter yo,yk
    go_wp2_with fail
    refine yb 1 ?_;rw[ym];go_wp2;go_ret;exact⟨by rw[c.out];rfl,bD⟩
   ·have c:Hid (R=bR l):=za (by rw[r.out,bC];rfl);have z:((l.length:Int)==1)=true:=by simp[d]
    clear r bC d;go_enter yo,yk
    go_wp2_with fail
    go_loopw [3,5] (fun ok i wr=>∃(k:Nat) (b:Bool),k<=l.length/\i= .int .i64 k/\ok= .bool b/\Hid (bR (l.take k)=b)/\Below w.heap.size w wr/\wr.cell? ⟨w.heap.size,2,none⟩=some (.slice A l.length cap)) (fun _ i _=>l.length-(intOf i).toNat)
    case atStart=>exact⟨0,true,by omega,rfl,rfl,za (by simp[bR]),bD,by simp⟩
    case round=>
     obtain⟨k,b,hk,rfl,rfl,H,m,M⟩:=hrel;by_cases u:k<l.length
     ·cases b with
      |true=>
       obtain⟨b,o,d0,d1,d2,d3,rfl,cZ,C,z,D,E,hi⟩:=L.out.at_ k u;simp only[zG]at C z D E;replace C:=(m.cell (p:=⟨b,o+k*4,none⟩) (by simp;omega)).trans C;replace z:=(m.cell (p:=⟨b,o+k*4+1,none⟩) (by simp;omega)).trans z;replace D:=(m.cell (p:=⟨b,o+k*4+2,none⟩) (by simp;omega)).trans D;replace E:=(m.cell (p:=⟨b,o+k*4+3,none⟩) (by simp;omega)).trans E;have gF:=m.size;have eR:=zE u;have N:=hi.below (m.mono hB);have K:=za (Z.out _ eR B wr d0 d1 d2 d3 N (by omega));obtain⟨q,F⟩:∃q,l[k].right=q:=⟨_,rfl⟩
       rw[F]at K;have Hq:Hid (bR (l.take (k+1))=q):=za (by rw[mR l k u,H.out,F];rfl);clear F N hi;go_wp2_with fail
       refine K.out.mono ?_;rintro e w2 ⟨rfl,I⟩;have gZ:=lt_of_cell M;have X:=(I.cell (p:=⟨w.heap.size,2,none⟩) (by simp;omega)).trans M;have W:=m.trans (I.mono gF);go_wp2;go_roundw
       case rel=>
        exact⟨k+1,q,by omega,by go_num,rfl,Hq,W,X⟩
       case measure=>simp[intOf];omega
      |false=>
       have HN:Hid (bR l=false):=za (by
        have j:=iy (l.take k) (l.drop k);rw[zC,H.out]at j;simpa using j)
       obtain⟨b0,o0,_,_,_,_,rfl,_⟩:=L.out.at_ k u;go_wp2;go_ret;exact⟨by rw[c.out,HN.out];rfl,m⟩
     have G:=H.out;rw[zv (by omega)]at G;have U:=za G;clear G;go_wp2;go_ret;exact⟨by rw[c.out,U.out];rfl,m⟩
   have c:Hid (R=bR l):=za (by rw[r.out,bC];rfl);clear r bC;go_enter yo,yk
   go_wp2_with fail
   go_loopw [3,5] (fun ok i wr=>∃(k:Nat) (b:Bool),k<=l.length/\i= .int .i64 k/\ok= .bool b/\Hid (bR (l.take k)=b)/\Below w.heap.size w wr/\wr.cell? ⟨w.heap.size,2,none⟩=some (.slice A l.length cap)) (fun _ i _=>l.length-(intOf i).toNat)
   case atStart=>exact⟨0,true,by omega,rfl,rfl,za (by simp[bR]),bD,by simp⟩
   case round=>
    obtain⟨k,b,hk,rfl,rfl,H,m,M⟩:=hrel;by_cases u:k<l.length
    ·cases b with
     |true=>
      obtain⟨b,o,d0,d1,d2,d3,rfl,cZ,C,z,D,E,hi⟩:=L.out.at_ k u;simp only[zG]at C z D E;replace C:=(m.cell (p:=⟨b,o+k*4,none⟩) (by simp;omega)).trans C;replace z:=(m.cell (p:=⟨b,o+k*4+1,none⟩) (by simp;omega)).trans z;replace D:=(m.cell (p:=⟨b,o+k*4+2,none⟩) (by simp;omega)).trans D;replace E:=(m.cell (p:=⟨b,o+k*4+3,none⟩) (by simp;omega)).trans E;have gF:=m.size;have eR:=zE u;have N:=hi.below (m.mono hB);have K:=za (Z.out _ eR B wr d0 d1 d2 d3 N (by omega));obtain⟨q,F⟩:∃q,l[k].right=q:=⟨_,rfl⟩
      rw[F]at K;have Hq:Hid (bR (l.take (k+1))=q):=za (by rw[mR l k u,H.out,F];rfl);clear F N hi;go_wp2_with fail
      refine K.out.mono ?_;rintro e w2 ⟨rfl,I⟩;have gZ:=lt_of_cell M;have X:=(I.cell (p:=⟨w.heap.size,2,none⟩) (by simp;omega)).trans M;have W:=m.trans (I.mono gF);go_wp2;go_roundw
      case rel=>
       exact⟨k+1,q,by omega,by go_num,rfl,Hq,W,X⟩
      case measure=>simp[intOf];omega
     |false=>
      have HN:Hid (bR l=false):=za (by
       have j:=iy (l.take k) (l.drop k);rw[zC,H.out]at j;simpa using j)
      obtain⟨b0,o0,_,_,_,_,rfl,_⟩:=L.out.at_ k u;go_wp2;go_ret;exact⟨by rw[c.out,HN.out];rfl,m⟩
    have G:=H.out;rw[zv (by omega)]at G;have U:=za G;clear G;go_wp2;go_ret;exact⟨by rw[c.out,U.out];rfl,m⟩
  |false=>
   have c:Hid (R=false):=za (by rw[r.out,bC];rfl);clear r L Z;rcases No ki with rfl|rfl|rfl|rfl|rfl|⟨n1,n2,n3,n4,n5⟩
   ·rcases agv bC with⟨m1,m2,m3,m4⟩|⟨J,d⟩|⟨J,d,n⟩
    ·have y:=nb m1;have O:=nb m2;have f3:=nb m3;have f4:=nb m4;clear bC m1 m2 m3 m4;go_enter yo,yk
     go_wp2_with fail
     refine yb 1 ?_;rw[ym];go_wp2;all_goals
      go_ret;exact⟨by rw[c.out];rfl,bD⟩
    ·have y:((l.length:Int)==0)=false:=nb (by omega);clear bC d;rcases J with rfl|rfl|rfl|rfl;all_goals
      go_enter yo,yk
      go_wp2_with fail
      refine yb 1 ?_;rw[ym];go_wp2;all_goals
       go_ret;exact⟨by rw[c.out];rfl,bD⟩
    obtain rfl:l= []:=zo d;have O:=nb n;clear bC n;rcases J with rfl|rfl|rfl|rfl;all_goals
     go_enter yo,yk
     go_wp2_with fail
     refine yb 1 ?_;rw[ym];go_wp2;all_goals
      go_ret;exact⟨by rw[c.out];rfl,bD⟩
   ·rcases agw bC with j|⟨j,h2⟩|⟨j,h2,d⟩|⟨j,h2,d,n⟩
    ·clear bC;go_enter yo,yk
     go_wp2_with fail
     refine yb 1 ?_;rw[ym];go_wp2;all_goals
      go_ret;exact⟨by rw[c.out];rfl,bD⟩
    ·clear bC;go_enter yo,yk
     go_wp2_with fail
     refine yb 1 ?_;rw[ym];go_wp2;all_goals
      go_ret;exact⟨by rw[c.out];rfl,bD⟩
    ·have y:((l.length:Int)==0)=false:=nb (by omega);clear bC d;go_enter yo,yk
     go_wp2_with fail
     refine yb 1 ?_;rw[ym];go_wp2;all_goals
      go_ret;exact⟨by rw[c.out];rfl,bD⟩
    obtain rfl:l= []:=zo d;have O:=nb n;clear bC n;go_enter yo,yk
    go_wp2_with fail
    refine yb 1 ?_;rw[ym];go_wp2;all_goals
     go_ret;exact⟨by rw[c.out];rfl,bD⟩
   ·rcases agx bC with j|⟨j,h2⟩|⟨j,h2,d⟩|⟨j,h2,d,n⟩
    ·clear bC;go_enter yo,yk
     go_wp2_with fail
     refine yb 1 ?_;rw[ym];go_wp2;all_goals
      go_ret;exact⟨by rw[c.out];rfl,bD⟩
    ·clear bC;go_enter yo,yk
     go_wp2_with fail
     refine yb 1 ?_;rw[ym];go_wp2;all_goals
      go_ret;exact⟨by rw[c.out];rfl,bD⟩
    ·have y:((l.length:Int)==0)=false:=nb (by omega);clear bC d;go_enter yo,yk
     go_wp2_with fail
     refine yb 1 ?_;rw[ym];go_wp2;all_goals
      go_ret;exact⟨by rw[c.out];rfl,bD⟩
    obtain rfl:l= []:=zo d;have O:=nb n;clear bC n;go_enter yo,yk
    go_wp2_with fail
    refine yb 1 ?_;rw[ym];go_wp2;all_goals
     go_ret;exact⟨by rw[c.out];rfl,bD⟩
   ·rcases agy bC with j|⟨j,h2⟩|⟨j,h2,d⟩|⟨j,h2,d,n⟩
    ·clear bC;go_enter yo,yk
     go_wp2_with fail
     refine yb 1 ?_;rw[ym];go_wp2;all_goals
      go_ret;exact⟨by rw[c.out];rfl,bD⟩
    ·clear bC;go_enter yo,yk
     go_wp2_with fail
     refine yb 1 ?_;rw[ym];go_wp2;all_goals
      go_ret;exact⟨by rw[c.out];rfl,bD⟩
    ·have y:((l.length:Int)==1)=false:=nb (by omega);clear bC d;go_enter yo,yk
     go_wp2_with fail
     refine yb 1 ?_;rw[ym];go_wp2;all_goals
      go_ret;exact⟨by rw[c.out];rfl,bD⟩
    have y:((l.length:Int)==1)=true:=by simp[d]
    have O:=nb n;clear bC n d;go_enter yo,yk
    go_wp2_with fail
    refine yb 1 ?_;rw[ym];go_wp2;all_goals
     go_ret;exact⟨by rw[c.out];rfl,bD⟩
   ·rcases agz bC with j|⟨rfl,h2⟩|⟨rfl,h2,n⟩|⟨rfl,h2,n,Rt⟩
    ·have y:=nb j;clear bC j;go_enter yo,yk
     go_wp2_with fail
     refine yb 1 ?_;rw[ym];go_wp2;all_goals
      go_ret;exact⟨by rw[c.out];rfl,bD⟩
    ·clear bC;go_enter yo,yk
     go_wp2_with fail
     refine yb 1 ?_;rw[ym];go_wp2;all_goals
      go_ret;exact⟨by rw[c.out];rfl,bD⟩
    ·clear bC;go_enter yo,yk
     go_wp2_with fail
     refine yb 1 ?_;rw[ym];go_wp2;all_goals
      go_ret;exact⟨by rw[c.out];rfl,bD⟩
    have y:decide (ta<=(l.length:Int))=false:=zu (by omega);clear bC;go_enter yo,yk
    go_wp2_with fail
    refine yb 1 ?_;rw[ym];go_wp2;all_goals
     go_ret;exact⟨by rw[c.out];rfl,bD⟩
   have y:=nb n1;have O:=nb n2;have f3:=nb n3;have f4:=nb n4;have f5:=nb n5;clear bC n1 n2 n3 n4 n5;go_enter yo,yk
   go_wp2_with fail
   refine yb 1 ?_;rw[ym];go_wp2;all_goals
    go_ret;exact⟨by rw[c.out];rfl,bD⟩
theorem De (x:Ty)(B:Nat)(w:World)(l d k i:Value)(h:cC w B x l d k i)(M:B<=w.heap.size)(L:x.count<=4611686018427387904):
 Calls prog 37 #[.agg #[l,d,k,i]] w fun e w'=>e= .returned (.bool x.may)/\Below w.heap.size w w':=by
 have K:=Mv x;have p:cC (w.alloc (.cells #[l,d,k,i] 43)) B x l d k i:=h.below (WQ M);have o:=za (Dd x B _ l d k i p (by simp;omega) (by omega));have C:=za (fun c b hz=>FR x B c l d k i (cC.below p b) hz (by omega));have F:=za (fun c b hz=>Np x B c l d k i (cC.below p b) hz);have j:Hid (x.may=(decide (x.count<=64)&&decide (x.deep<=8)&&x.right)):=za rfl;obtain⟨r,y⟩:∃r,x.right=r:=⟨_,rfl⟩
 obtain⟨I,hd⟩:∃q,x.deep=q:=⟨_,rfl⟩
 obtain⟨q,s⟩:∃q,x.count=q:=⟨_,rfl⟩
 rw[y,s,hd]at j;rw[s]at o;rw[hd]at C;rw[y]at F;obtain⟨A,cap,rfl,rfl,rfl,rfl,_⟩:=h.open_;clear y s hd K p h L;generalize x.may=R at*;generalize x.kind=U at*;generalize x.size=Y at*;generalize x.tail=W at*;by_cases E:q<=64
 ·by_cases H:I<=8
  ·have n:Hid (R=r):=za (by rw[j.out];simp[H,E]);clear j;go_enter func37,ntmps37
   go_wp2_with fail
   refine o.out.mono ?_;rintro e c ⟨rfl,b⟩;obtain⟨g0,g1,g2,g3⟩:=M3 (by simpa using b);have z:=b.size;simp only[zp]at z;have u:=(yv (zl w.heap.size w) (zg _) _).trans (b.mono (by simp));go_wp2_with fail
   refine(C.out c (b.mono (by simp;omega)) (by omega)).mono ?_;rintro e G ⟨rfl,m⟩;have D:=b.trans (m.mono (by simp;omega));have O:=m.size;obtain⟨S,k1,k2,X⟩:=M3 (by simpa using D);have N:=u.trans (m.mono (by omega));go_wp2_with fail
   refine(F.out G (D.mono (by simp;omega)) (by omega)).mono ?_;rintro e w3 ⟨rfl,J⟩;go_wp2;go_ret;exact⟨by rw[n.out];rfl,N.trans (J.mono (by omega))⟩
  have n:Hid (R=false):=za (by rw[j.out];simp[H]);clear j;go_enter func37,ntmps37
  go_wp2_with fail
  refine o.out.mono ?_;rintro e c ⟨rfl,b⟩;obtain⟨g0,g1,g2,g3⟩:=M3 (by simpa using b);have z:=b.size;simp only[zp]at z;have u:=(yv (zl w.heap.size w) (zg _) _).trans (b.mono (by simp));go_wp2_with fail
  refine(C.out c (b.mono (by simp;omega)) (by omega)).mono ?_;rintro e G ⟨rfl,m⟩;go_wp2;go_ret;exact⟨by rw[n.out];rfl,u.trans (m.mono (by omega))⟩
 have n:Hid (R=false):=za (by rw[j.out];simp[E]);clear j;go_enter func37,ntmps37
 go_wp2_with fail
 refine o.out.mono ?_;rintro e c ⟨rfl,b⟩;go_wp2;go_ret;exact⟨by rw[n.out];rfl,(yv (zl _ _) (zg _) _).trans (b.mono (by simp))⟩
theorem FU (s:List It)(k:Nat)(h:k<s.length):ay (s.take (k+1))=ay (s.take k)+s[k].count:=by
 rw[dD s k h,oE];simp[ay]
theorem vS (s:List It)(k:Nat):ay (s.take k)<=ay s:=by
 have:=oE (s.take k) (s.drop k);rw[zC]at this;omega
theorem I9 (s:List It)(k:Nat)(h:k<s.length):bA (s.take (k+1))=max (bA (s.take k)) s[k].deep:=by
 rw[dD s k h,qb];simp[bA]
theorem AQ (s:List It)(k:Nat):bA (s.take k)<=bA s:=by
 have:=qb (s.take k) (s.drop k);rw[zC]at this;omega
theorem I' :∀(x:It) (B:Nat) (w:World) (D r C:Value),bT w B x D r C->B<=w.heap.size->x.count<=4611686018427387904->
 Calls prog 58 #[.agg #[D,r,C]] w fun e w'=>e= .returned (.int .i64 x.count)/\Below w.heap.size w w':=by
 intro x;induction x using It.ind with
 |h t l s ih=>
  intro B w D r C h Y K;obtain⟨rfl,rfl,ht,hs,A,cap,rfl,lH,jR,L⟩:=h;have W:=za ih;have U:=za L;clear ih L;have pC:1+ay s<=4611686018427387904:=by simpa only[It.count]using K
  rw[show(It.mk t l s).count=1+ay s from by simp only[It.count]];clear K;go_enter func58,ntmps58
  go_wp2_with fail
  go_loopw [3,4] (fun n i wr=>∃k m:Nat,k<=s.length/\i= .int .i64 k/\Hid (m=1+ay (s.take k))/\n= .int .i64 m/\Below w.heap.size w wr/\wr.cell? ⟨w.heap.size,2,none⟩=some (.slice A s.length cap)) (fun _ i _=>s.length-(intOf i).toNat)
  case atStart=>exact⟨0,1,by omega,rfl,za (by simp[ay]),rfl,bD,by simp⟩
  case round=>
   obtain⟨k,m,hk,rfl,J,rfl,c,H⟩:=hrel;by_cases y:k<s.length
   ·obtain⟨b,o,d0,d1,d2,rfl,cZ,j,u,z,hi⟩:=U.out.at_ k y;simp only[zG]at j u z;replace j:=(c.cell (p:=⟨b,o+k*3,none⟩) (by simp;omega)).trans j;replace u:=(c.cell (p:=⟨b,o+k*3+1,none⟩) (by simp;omega)).trans u;replace z:=(c.cell (p:=⟨b,o+k*3+2,none⟩) (by simp;omega)).trans z;have Z:=c.size;have X:=zE y;have I:=hi.below (c.mono Y);have M:=FU s k y;have O:=vS s (k+1);have d:=J.out;obtain⟨q,G⟩:∃q,s[k].count=q:=⟨_,rfl⟩
    have aa:m+q<=4611686018427387904:=by omega
    have Hq:Hid (m+q=1+ay (s.take (k+1))):=za (by omega);have F:=za (W.out _ X B wr d0 d1 d2 I (by omega) (by omega));rw[G]at F;clear M O d G I hi;go_wp2_with fail
    refine F.out.mono ?_;rintro e w2 ⟨rfl,E⟩;have gZ:=lt_of_cell H;have S:=(E.cell (p:=⟨w.heap.size,2,none⟩) (by simp;omega)).trans H;have R:=c.trans (E.mono Z);go_wp2;go_roundw
    case rel=>exact⟨k+1,m+q,by omega,by go_num,Hq,by go_num,R,S⟩
    case measure=>simp[intOf];omega
   have d:=J.out;rw[zv (by omega)]at d;have N:=za d;clear d;go_wp2;go_ret;exact⟨by show Ending.returned (.int .i64 m)=_;rw[N.out],c⟩
theorem Nq :∀(x:It) (B:Nat) (w:World) (K y J:Value),bT w B x K y J->B<=w.heap.size->x.deep<=4611686018427387904->
 Calls prog 57 #[.agg #[K,y,J]] w fun e w'=>e= .returned (.int .i64 x.deep)/\Below w.heap.size w w':=by
 intro x;induction x using It.ind with
 |h t l s ih=>
  intro B w K y J h hB R;obtain⟨rfl,rfl,ht,hs,A,cap,rfl,lH,jR,U⟩:=h;have IH:=za ih;have Y:=za U;clear ih U;have pC:bA s+1<=4611686018427387904:=by simpa only[It.deep]using R
  rw[show(It.mk t l s).deep=bA s+1 from by simp only[It.deep]];clear R;go_enter func57,ntmps57
  go_wp2_with fail
  go_loopw [3,4] (fun n i wr=>∃k m:Nat,k<=s.length/\i= .int .i64 k/\Hid (m=bA (s.take k))/\m<=4611686018427387904/\n= .int .i64 m/\Below w.heap.size w wr/\wr.cell? ⟨w.heap.size,2,none⟩=some (.slice A s.length cap)) (fun _ i _=>s.length-(intOf i).toNat)
  case atStart=>exact⟨0,0,by omega,rfl,za (by simp[bA]),by omega,rfl,bD,by simp⟩
  case round=>
   obtain⟨k,m,hk,rfl,O,aa,rfl,c,r⟩:=hrel;by_cases F:k<s.length
   ·obtain⟨b,o,d0,d1,d2,rfl,cZ,u,E,G,hi⟩:=Y.out.at_ k F;simp only[zG]at u E G;replace u:=(c.cell (p:=⟨b,o+k*3,none⟩) (by simp;omega)).trans u;replace E:=(c.cell (p:=⟨b,o+k*3+1,none⟩) (by simp;omega)).trans E;replace G:=(c.cell (p:=⟨b,o+k*3+2,none⟩) (by simp;omega)).trans G;have S:=c.size;have eR:=zE F;have I:=hi.below (c.mono hB);have M:=I9 s k F;have N:=AQ s (k+1);have d:=O.out;obtain⟨q,H⟩:∃q,s[k].deep=q:=⟨_,rfl⟩
    have ab:q<=4611686018427387904:=by omega
    have z:=za (IH.out _ eR B wr d0 d1 d2 I (by omega) (by omega));rw[H]at z;by_cases DE:m<q
    ·have L:Hid (q=bA (s.take (k+1))):=za (by omega);clear M N d H I hi;go_wp2_with fail
     refine z.out.mono ?_;rintro e Z ⟨rfl,j⟩;have W:=lt_of_cell r;have D:=(j.cell (p:=⟨w.heap.size,2,none⟩) (by simp;omega)).trans r;have C:=c.trans (j.mono S);go_wp2;go_roundw
     case rel=>exact⟨k+1,q,by omega,by go_num,L,by omega,by go_num,C,D⟩
     case measure=>simp[intOf];omega
    have L:Hid (m=bA (s.take (k+1))):=za (by omega);clear M N d H I hi;go_wp2_with fail
    refine z.out.mono ?_;rintro e Z ⟨rfl,j⟩;have W:=lt_of_cell r;have D:=(j.cell (p:=⟨w.heap.size,2,none⟩) (by simp;omega)).trans r;have C:=c.trans (j.mono S);go_wp2;go_roundw
    case rel=>exact⟨k+1,m,by omega,by go_num,L,by omega,by go_num,C,D⟩
    case measure=>simp[intOf];omega
   have d:=O.out;rw[zv (by omega)]at d;have X:=za d;clear d;go_wp2;go_ret;exact⟨by show Ending.returned (.int .i64 ((m:Int)+1))=_;rw[X.out];go_num,c⟩
theorem sY (s:List It)(k:Nat)(h:k<s.length):bH (s.take (k+1))=(bH (s.take k)&&s[k].right):=by
 rw[dD s k h,oF];simp[bH]
theorem Df (s:List It)(k:Nat)(h:k<s.length)(c:s[k].right=false):bH s=false:=by
 have b:=oF (s.take (k+1)) (s.drop (k+1));rw[zC,sY s k h,c]at b;simpa using b
theorem Ja :∀(x:It) (B:Nat) (w:World) (H y G:Value),bT w B x H y G->B<=w.heap.size->
 Calls prog 56 #[.agg #[H,y,G]] w fun e w'=>e= .returned (.bool x.right)/\Below w.heap.size w w':=by
 intro x;induction x using It.ind with
 |h t l s ih=>
  intro B w H y G h Z;obtain⟨rfl,rfl,ht,hs,A,cap,rfl,lH,jR,M⟩:=h;have X:=za ih;have U:=za M;clear ih M;have d:Hid ((It.mk t l s).right=(formed t l s.length&&bH s)):=za (by simp only[It.right]);generalize (It.mk t l s).right=R at*;cases l with
  |true=>
   rcases eu t with⟨hz,rfl⟩|⟨hz,cc,cE⟩
   ·have c:Hid (R=bH s):=za (by rw[d.out];simp[formed,ByteArray.size]);clear d hz;go_enter func56,ntmps56
    go_wp2_with fail
    go_loopw [3] (fun i wr=>∃k:Nat,k<=s.length/\i= .int .i64 k/\Hid (bH (s.take k)=true)/\Below w.heap.size w wr/\wr.cell? ⟨w.heap.size,2,none⟩=some (.slice A s.length cap)) (fun i _=>s.length-(intOf i).toNat)
    case atStart=>exact⟨0,by omega,rfl,za (by simp[bH]),bD,by simp⟩
    case round=>
     obtain⟨k,hk,rfl,K,j,r⟩:=hrel;by_cases q:k<s.length
     ·obtain⟨b,o,d0,d1,d2,rfl,cZ,u,C,D,hi⟩:=U.out.at_ k q;simp only[zG]at u C D;replace u:=(j.cell (p:=⟨b,o+k*3,none⟩) (by simp;omega)).trans u;replace C:=(j.cell (p:=⟨b,o+k*3+1,none⟩) (by simp;omega)).trans C;replace D:=(j.cell (p:=⟨b,o+k*3+2,none⟩) (by simp;omega)).trans D;have L:=j.size;have Y:=zE q;have F:=hi.below (j.mono Z);have n:=za (X.out _ Y B wr d0 d1 d2 F (by omega));cases hq:s[k].right with
      |true=>
       rw[hq]at n;have I:Hid (bH (s.take (k+1))=true):=za (by rw[sY s k q,K.out,hq];rfl);clear hq F hi;go_wp2_with fail
       refine n.out.mono ?_;rintro e W ⟨rfl,m⟩;have N:=lt_of_cell r;have J:=(m.cell (p:=⟨w.heap.size,2,none⟩) (by simp;omega)).trans r;have z:=j.trans (m.mono L);go_wp2;go_roundw
       case rel=>exact⟨k+1,by omega,by go_num,I,z,J⟩
       case measure=>simp[intOf];omega
      |false=>
       rw[hq]at n;have I:Hid (bH s=false):=za (Df s k q hq);clear hq F hi;go_wp2_with fail
       refine n.out.mono ?_;rintro e W ⟨rfl,m⟩;have N:=lt_of_cell r;have J:=(m.cell (p:=⟨w.heap.size,2,none⟩) (by simp;omega)).trans r;have z:=j.trans (m.mono L);go_wp2;go_ret;exact⟨by rw[c.out,I.out];rfl,z⟩
     have E:=K.out;rw[zv (by omega)]at E;have S:=za E;clear E;go_wp2;go_ret;exact⟨by rw[c.out,S.out];rfl,j⟩
   have c:Hid (R=false):=za (by rw[d.out];simp[formed,hz]);clear d hz;go_enter func56,ntmps56
   go_wp2;go_ret;exact⟨by rw[c.out];rfl,bD⟩
  |false=>
   by_cases O:0<s.length
   ·have c:Hid (R=false):=za (by rw[d.out];simp[formed];intro h;exact absurd h (by intro h;simp[h]at O));clear d;go_enter func56,ntmps56
    go_wp2;go_ret;exact⟨by rw[c.out];rfl,bD⟩
   obtain rfl:s= []:=zo (by omega);have c:Hid (R=true):=za (by rw[d.out];rfl);clear d;go_enter func56,ntmps56
   go_wp2_with fail
   refine yb 1 ?_;rw[ym];go_wp2;go_ret;exact⟨by rw[c.out];rfl,bD⟩
theorem XC :∀(x:It) (B:Nat) (w:World) (H C F:Value),bT w B x H C F->B<=w.heap.size->∀left:Int,0<left->left<=4611686018427387904->
 Calls prog 31 #[.agg #[H,C,F],.int .i64 left] w fun e w'=>e= .returned (.int .i64 (x.room left))/\Below w.heap.size w w':=by
 intro x;induction x using It.ind with
 |h t l s ih=>
  intro B w H C F h hB left D7 DN;obtain⟨rfl,rfl,ht,hs,A,cap,rfl,lH,jR,U⟩:=h;have Z:=za ih;have K:=za U;clear ih U;have S:Hid ((It.mk t l s).room left=max (cO s (left-1)) 0):=za (by simp only[It.room]);have HB:=za (fun k=>EB (s.take k) (fun x _=>CH x) (left-1) (by omega));generalize (It.mk t l s).room left=R at*;go_enter func31,ntmps31
  go_wp2_with fail
  go_loopw [1,5] (fun n i wr=>∃(k:Nat) (m:Int),k<=s.length/\i= .int .i64 k/\Hid (m=cO (s.take k) (left-1))/\0<=m/\m<=left-1/\n= .int .i64 m/\Below w.heap.size w wr/\wr.cell? ⟨w.heap.size,2,none⟩=some (.slice A s.length cap)) (fun _ i _=>s.length-(intOf i).toNat)
  case atStart=>exact⟨0,left-1,by omega,rfl,za (by simp[cO]),by omega,by omega,rfl,bD,by simp⟩
  case round=>
   obtain⟨k,m,hk,rfl,j,G5,UJ,rfl,c,M⟩:=hrel;by_cases y:k<s.length
   ·by_cases G:0<m
    ·obtain⟨b,o,d0,d1,d2,rfl,cZ,z,D,E,hi⟩:=K.out.at_ k y;simp only[zG]at z D E;replace z:=(c.cell (p:=⟨b,o+k*3,none⟩) (by simp;omega)).trans z;replace D:=(c.cell (p:=⟨b,o+k*3+1,none⟩) (by simp;omega)).trans D;replace E:=(c.cell (p:=⟨b,o+k*3+2,none⟩) (by simp;omega)).trans E;have gF:=c.size;have eR:=zE y;have N:=hi.below (c.mono hB);have u:=Hw s k y (left-1) (by rw[<-j.out];exact G);have O:=CH s[k] m G;rw[<-j.out]at u;obtain⟨q,L⟩:∃q,s[k].room m=q:=⟨_,rfl⟩
     have J:=za (Z.out _ eR B wr d0 d1 d2 N (by omega) m G (by omega));rw[L]at J u O;have Hq:Hid (q=cO (s.take (k+1)) (left-1)):=za u.symm;obtain⟨Y,ab⟩:=O;clear u L N hi;go_wp2_with fail
     refine J.out.mono ?_;rintro e w2 ⟨rfl,I⟩;have gZ:=lt_of_cell M;have X:=(I.cell (p:=⟨w.heap.size,2,none⟩) (by simp;omega)).trans M;have W:=c.trans (I.mono gF);go_wp2;go_roundw
     case rel=>exact⟨k+1,q,by omega,by go_num,Hq,Y,by omega,rfl,W,X⟩
     case measure=>simp[intOf];omega
    have d:=BD s k (left-1) (.inl (by rw[<-j.out];omega));have r:Hid (R=0):=za (by rw[S.out,d,<-j.out];omega);have aa:m<=0:=by omega
    obtain⟨b0,o0,_,_,_,rfl,_⟩:=K.out.at_ k y;clear d;go_wp2;all_goals
     go_ret;exact⟨by first|(rw[r.out];rfl)|(show Ending.returned (.int .i64 m)=_;rw[r.out,show m=0 from by omega]),c⟩
   have d:=BD s k (left-1) (.inr (by omega));have r:Hid (R=m):=za (by rw[S.out,d,<-j.out];omega);clear d;go_wp2;all_goals
    go_ret;exact⟨by first|(show Ending.returned (.int .i64 m)=_;rw[r.out])|(rw[r.out,show m=0 from by omega];rfl),c⟩
theorem XD :∀(x:It) (B:Nat) (w:World) (G z F:Value),bT w B x G z F->B<=w.heap.size->
 Calls prog 32 #[.agg #[G,z,F]] w fun e w'=>e= .returned (.int .i64 x.o5)/\Below w.heap.size w w':=by
 intro x;induction x using It.ind with
 |h t l s ih=>
  intro B w G z F h hB;obtain⟨rfl,rfl,ht,hs,A,cap,rfl,lH,jR,N⟩:=h;have Y:=za ih;have W:=za N;clear ih N;obtain⟨c,u⟩:∃c,min t.size 10000=c:=⟨_,rfl⟩
  have HR:Hid ((It.mk t l s).o5=gJ s c):=za (by simp only[It.o5,u]);have qV:c<=10000:=by omega
  have HN:=za u;clear u;generalize (It.mk t l s).o5=R at*;rcases Nat.lt_trichotomy t.size 10000 with ma|ma|ma;all_goals
   have X:Hid (min t.size 10000=c):=HN;go_enter func32,ntmps32
   go_wp2_with fail
   go_loopw [3,4] (fun n i wr=>∃k m:Nat,k<=s.length/\i= .int .i64 k/\Hid (m=gJ (s.take k) c)/\m<=10000/\n= .int .i64 m/\Below w.heap.size w wr/\wr.cell? ⟨w.heap.size,2,none⟩=some (.slice A s.length cap)) (fun _ i _=>s.length-(intOf i).toNat)
   case atStart=>
    refine⟨0,c,by omega,rfl,za (by simp[gJ]),by omega, ?_,bD,by simp⟩;have hh:=X.out;rcases(show(t.size:Int)=c\/(10000:Int)=c from by omega)with hx|hx
    ·(rw[<-hx])<;>first|rfl|(rw[show(t.size:Int)=10000 from by omega])
    (rw[<-hx])<;>first|rfl|(rw[show(t.size:Int)=10000 from by omega])
   case round=>
    obtain⟨k,m,hk,rfl,M,ab,rfl,d,K⟩:=hrel;by_cases D:k<s.length
    ·obtain⟨b,o,d0,d1,d2,rfl,cZ,y,C,E,hi⟩:=W.out.at_ k D;simp only[zG]at y C E;replace y:=(d.cell (p:=⟨b,o+k*3,none⟩) (by simp;omega)).trans y;replace C:=(d.cell (p:=⟨b,o+k*3+1,none⟩) (by simp;omega)).trans C;replace E:=(d.cell (p:=⟨b,o+k*3+2,none⟩) (by simp;omega)).trans E;have gF:=d.size;have Z:=zE D;have L:=hi.below (d.mono hB);have r:=Hx s k D c;have aa:=Tl s[k];have j:=M.out;obtain⟨q,J⟩:∃q,s[k].o5=q:=⟨_,rfl⟩
     have I:=za (Y.out _ Z B wr d0 d1 d2 L (by omega));rw[J]at I r aa;rw[<-j]at r;have Hq:=za r;clear r j J L hi;rcases(show m+q<10000\/(m+q<=10000/\10000<=m+q)\/10000<m+q from by omega)with hx|⟨hx,hx2⟩|hx;all_goals
      go_wp2_with fail
      refine I.out.mono ?_;rintro e w2 ⟨rfl,H⟩;have gZ:=lt_of_cell K;have U:=(H.cell (p:=⟨w.heap.size,2,none⟩) (by simp;omega)).trans K;have S:=d.trans (H.mono gF);go_wp2;all_goals
       go_roundw
       case rel=>
        refine⟨k+1,min (m+q) 10000,by omega,by go_num,za Hq.out.symm,by omega, ?_,S,U⟩;first
         |(rw[show min (m+q) 10000=m+q from by omega];go_num)
         |(rw[show min (m+q) 10000=10000 from by omega];rfl)
         |(rw[show((min (m+q) 10000:Nat):Int)=if(10000:Int)<(m:Int)+q then 10000 else(m:Int)+q from by split<;>omega])
       case measure=>simp[intOf];omega
    have j:=M.out;rw[zv (by omega)]at j;have O:=za j;clear j;go_wp2;go_ret;exact⟨by show Ending.returned (.int .i64 m)=_;rw[O.out,HR.out],d⟩
theorem lp (w:World)(T:TypeId)(d e h:Value)(b:World)(c:Below (w.heap.size+1) (w.alloc (.cells #[d,e,h] T)) b):
 b.cell? ⟨w.heap.size,0,none⟩=some d/\b.cell? ⟨w.heap.size,1,none⟩=some e/\b.cell? ⟨w.heap.size,2,none⟩=some h:=by
 refine⟨?_, ?_, ?_⟩
 ·rw[c.cell (by simp)];simp
 ·rw[c.cell (by simp)];simp
 rw[c.cell (by simp)];simp
theorem T9 (x:It)(B:Nat)(w:World)(i c d:Value)(h:bT w B x i c d)(C:B<=w.heap.size):
 Calls prog 9 #[.agg #[i,c,d]] w fun e w'=>e= .returned (.bool x.qd)/\Below w.heap.size w w':=by
 have n:bT (w.alloc (.cells #[i,c,d] 28)) B x i c d:=h.below (WQ C);have l:=za (XC x B _ i c d n (by simp;omega) 1200 (by omega) (by omega));have s:=za (fun j b=>XD x B j i c d (bT.below n b));have k:Hid (x.qd=(decide (x.room 1200=0)||decide (6000<x.o5))):=za rfl;obtain⟨r,o⟩:∃r,x.room 1200=r:=⟨_,rfl⟩
 obtain⟨q,m⟩:∃q,x.o5=q:=⟨_,rfl⟩
 rw[o,m]at k;rw[o]at l;rw[m]at s;obtain⟨A,cap,rfl,rfl,rfl,_⟩:=h.open_;clear o m n h;generalize x.qd=R at*;by_cases hz:r=0
 ·have y:(r==0)=true:=by simp[hz]
  have p:Hid (R=true):=za (by rw[k.out];simp[hz]);clear hz k;go_enter func9,ntmps9
  go_wp2_with fail
  refine l.out.mono ?_;rintro e j ⟨rfl,b⟩;go_wp2;go_ret;exact⟨by rw[p.out];rfl,(yv (zl _ _) (zg _) _).trans (b.mono (by simp))⟩
 have y:(r==0)=false:=by simp[hz]
 have p:Hid (R=decide (6000<q)):=za (by rw[k.out];simp[hz]);clear hz k;go_enter func9,ntmps9
 go_wp2_with fail
 refine l.out.mono ?_;rintro e j ⟨rfl,b⟩;obtain⟨g0,g1,g2⟩:=lp w 28 _ _ _ j (by simpa using b);have D:=b.size;simp only[zp]at D;have E:Below B (w.alloc (.cells #[.string x.text,.bool x.list,.slice A x.sub.length cap] 28)) j:=b.mono (by simp;omega);have z:=(yv (zl w.heap.size w) (zg _) _).trans (b.mono (by simp));go_wp2_with fail
 refine(s.out j E (by omega)).mono ?_;rintro e F ⟨rfl,u⟩;go_wp2;all_goals
  go_ret;refine⟨?_,z.trans (u.mono (by omega))⟩;rw[p.out];first|rfl|(rw[show decide (6000<q)=true from by simp;omega];rfl)|(rw[show decide (6000<q)=false from by simp;omega];rfl)|(show Ending.returned (.bool (decide ((6000:Int)<q)))=_;rw[show decide ((6000:Int)<q)=decide (6000<q)from by simp only[decide_eq_decide];omega])
theorem Qr (x:It)(B:Nat)(w:World)(k d j:Value)(h:bT w B x k d j)(K:B<=w.heap.size)(I:x.count<=4611686018427387904):
 Calls prog 38 #[.agg #[k,d,j]] w fun e w'=>e= .returned (.bool x.may)/\Below w.heap.size w w':=by
 have J:=Tk x;have o:bT (w.alloc (.cells #[k,d,j] 28)) B x k d j:=h.below (WQ K);have n:=za (Ja x B _ k d j o (by simp;omega));have C:=za (fun c b hz=>Nq x B c k d j (bT.below o b) hz (by omega));have E:=za (fun c b hz=>I' x B c k d j (bT.below o b) hz (by omega));have i:Hid (x.may=(x.right&&decide (x.deep<=16)&&decide (x.count<=1024))):=za rfl;obtain⟨r,y⟩:∃r,x.right=r:=⟨_,rfl⟩
 obtain⟨G,hd⟩:∃q,x.deep=q:=⟨_,rfl⟩
 obtain⟨q,p⟩:∃q,x.count=q:=⟨_,rfl⟩
 rw[y,p,hd]at i;rw[y]at n;rw[hd]at C;rw[p]at E;obtain⟨A,cap,rfl,rfl,rfl,_⟩:=h.open_;clear y p hd J o h I;generalize x.may=R at*;cases r with
 |false=>
  have m:Hid (R=false):=za (by rw[i.out];rfl);clear i;go_enter func38,ntmps38
  go_wp2_with fail
  refine n.out.mono ?_;rintro e c ⟨rfl,b⟩;go_wp2;go_ret;exact⟨by rw[m.out];rfl,(yv (zl _ _) (zg _) _).trans (b.mono (by simp))⟩
 |true=>
  by_cases F:G<=16
  ·have m:Hid (R=decide (q<=1024)):=za (by rw[i.out];simp[F]);clear i;go_enter func38,ntmps38
   go_wp2_with fail
   refine n.out.mono ?_;rintro e c ⟨rfl,b⟩;obtain⟨g0,g1,g2⟩:=lp w 28 _ _ _ c (by simpa using b);have z:=b.size;simp only[zp]at z;have u:=(yv (zl w.heap.size w) (zg _) _).trans (b.mono (by simp));go_wp2_with fail
   refine(C.out c (b.mono (by simp;omega)) (by omega)).mono ?_;rintro e s ⟨rfl,l⟩;have D:=b.trans (l.mono (by simp;omega));have M:=l.size;obtain⟨N,k1,k2⟩:=lp w 28 _ _ _ s (by simpa using D);have L:=u.trans (l.mono (by omega));go_wp2_with fail
   refine(E.out s (D.mono (by simp;omega)) (by omega)).mono ?_;rintro e w3 ⟨rfl,H⟩;go_wp2;all_goals
    go_ret;refine⟨?_,L.trans (H.mono (by omega))⟩;rw[m.out];first|rfl|(show Ending.returned (.bool (decide ((q:Int)<=1024)))=_;rw[show decide ((q:Int)<=1024)=decide (q<=1024)from by simp only[decide_eq_decide];omega])
  have m:Hid (R=false):=za (by rw[i.out];simp[F]);clear i;go_enter func38,ntmps38
  go_wp2_with fail
  refine n.out.mono ?_;rintro e c ⟨rfl,b⟩;obtain⟨g0,g1,g2⟩:=lp w 28 _ _ _ c (by simpa using b);have z:=b.size;simp only[zp]at z;have u:=(yv (zl w.heap.size w) (zg _) _).trans (b.mono (by simp));go_wp2_with fail
  refine(C.out c (b.mono (by simp;omega)) (by omega)).mono ?_;rintro e s ⟨rfl,l⟩;go_wp2;go_ret;exact⟨by rw[m.out];rfl,u.trans (l.mono (by omega))⟩
theorem Qs (t:ByteArray)(l:Bool)(A:Option Addr)(n cap:Nat)(w:World)(d:n<=9223372036854775807):
 Calls prog 172 #[.agg #[.string t,.bool l,.slice A n cap]] w fun e w'=>e= .returned (.bool (formed t l n))/\Below w.heap.size w w':=by
 cases l with
 |true=>
  rcases eu t with⟨hz,rfl⟩|⟨hz,h,i⟩
  ·have b:Hid (formed ⟨#[]⟩ true n=true):=za rfl;generalize formed ⟨#[]⟩ true n=R at*;clear hz;go_enter func172,ntmps172
   go_wp2;go_ret;exact⟨by rw[b.out];rfl,bD⟩
  have b:Hid (formed t true n=false):=za (by simp[formed,hz]);generalize formed t true n=R at*;clear hz;go_enter func172,ntmps172
  go_wp2;go_ret;exact⟨by rw[b.out];rfl,bD⟩
 |false=>
  by_cases c:n=0
  ·have b:Hid (formed t false n=true):=za (by simp[formed,c]);generalize formed t false n=R at*;go_enter func172,ntmps172
   go_wp2;go_ret;exact⟨by rw[b.out];rfl,bD⟩
  have b:Hid (formed t false n=false):=za (by simp[formed,c]);have j:((n:Int)==0)=false:=zm.2 (by omega);generalize formed t false n=R at*;clear c;go_enter func172,ntmps172
  go_wp2;go_ret;exact⟨by rw[b.out];rfl,bD⟩
theorem Jb (t:ByteArray)(l:Bool)(A:Option Addr)(n cap:Nat)(w:World):
 Calls prog 177 #[.agg #[.string t,.bool l,.slice A n cap]] w fun e w'=>e= .returned (.bool true)/\Below w.heap.size w w':=by
 go_enter func177,ntmps177
 go_wp2;go_ret;exact⟨rfl,bD⟩
def Vx (fv:Value)(x:It):Prop:=fv= .func (.func 172) #[] #[]\/fv= .func (.func 177) #[] #[]/\x.right=true
structure AR (fv:Value)(w:World)(cb eb db vb c d:Nat):Prop where
 kV:af w cb 3 #[.int .i64 c]
 each:af w eb 34 #[fv]
 dp:af w db 3 #[.int .i64 d]
 gY:af w vb 254 #[.func (.func 208) #[] #[.pointer (some ⟨cb,0,none⟩),.pointer (some ⟨eb,0,none⟩),.pointer (some ⟨db,0,none⟩),.pointer (some ⟨vb,0,none⟩)]]
theorem AR.below {e:Value}{w':World}{cb j i c:Nat}(h:AR e w cb j i k c d)(b:Below w.heap.size w w'):AR e w' cb j i k c d:=
 ⟨h.kV.only (ae.ah b (zg _)) (by simp),h.each.only (ae.ah b (zg _)) (by simp),h.dp.only (ae.ah b (zg _)) (by simp),h.gY.only (ae.ah b (zg _)) (by simp)⟩
theorem af.Vy {c:Nat}{t d:TypeId}{e j:Array Value}(h:af w g t e)(b:af w c d j)(i:t≠d):g≠c:=by
 rintro rfl;unfold af at h b;rw[h]at b;injection b with b;injection b with _ ht;exact i ht
theorem AR.step {j:Value}{cb l b m c e:Nat}{u v:Int}(h:AR j w cb l b m c d)(i:cb≠b)(hu:u=(k:Int))(n:v=(e:Int)):AR j ((w.setCell ⟨cb,0,none⟩ (.int .i64 u)).setCell ⟨b,0,none⟩ (.int .i64 v)) cb l b m k e:=by
 subst hu;subst n;have n1:=h.kV.Vy h.each (by decide);have n2:=h.kV.Vy h.gY (by decide);have q:=h.dp.Vy h.each (by decide);have o:=h.dp.Vy h.gY (by decide);exact⟨af.dS (show af _ _ _ _ from one_setCell h.kV) (p:=⟨b,0,none⟩) i _,(h.each.dS (p:=⟨cb,0,none⟩) n1.symm _).dS (p:=⟨b,0,none⟩) q.symm _,one_setCell (h.dp.dS (p:=⟨cb,0,none⟩) i.symm _),(h.gY.dS (p:=⟨cb,0,none⟩) n2.symm _).dS (p:=⟨b,0,none⟩) o.symm _⟩
theorem T' :∀(x:It) (B:Nat) (w:World) (c0 c1 C:Value),bT w B x c0 c1 C->B<=w.heap.size->∀(q:Value),Vx q x->∀(cb z m u j c d:Nat),AR q w cb z m u c d->B<=cb->B<=m->cb≠m->1<=j->j<=17->c<=1024->d<=17->
 Calls prog 208 #[.agg #[c0,c1,C],.int .i64 j,.pointer (some ⟨cb,0,none⟩),.pointer (some ⟨z,0,none⟩),.pointer (some ⟨m,0,none⟩),.pointer (some ⟨u,0,none⟩)] w fun e w'=>
  e= .returned (.bool (x.gY j c d).1)/\AR q w' cb z m u (x.gY j c d).2.1 (x.gY j c d).2.2/\ae [cb,m] w w':=by
 intro x;induction x using It.ind with
 |h t l s ih=>
  intro B w c0 c1 C h hB q ab cb z m u j c d n ai ah af ar av hc hd;obtain⟨rfl,rfl,ht,hs,A,cap,rfl,lH,jR,cy⟩:=h;have IH:=za ih;have HS:=za cy;clear ih cy;have n1:=n.kV.Vy n.each (by decide);have n2:=n.kV.Vy n.gY (by decide);have n3:=n.dp.Vy n.each (by decide);have n4:=n.dp.Vy n.gY (by decide);have q1:w.cell? ⟨cb,0,none⟩=some (.int .i64 c):=zZ n.kV;have q2:w.cell? ⟨z,0,none⟩=some q:=zZ n.each;have W:=za n;have l1:=n.kV.lt;have l2:=n.each.lt;have l4:=n.gY.lt;have y:Hid ((It.mk t l s).gY j c d=if 16<j\/c=1024\/formed t l s.length=false then(false,c,d)else fY s (j+1) (c+1) (max d j)):=za (by simp only[It.gY]);generalize (It.mk t l s).gY j c d=R at*;clear n;by_cases h1:16<j
  ·have r:Hid (R=(false,c,d)):=za (by rw[y.out,zi (.inl h1)]);clear y;go_enter func208,ntmps208
   go_wp2;go_ret;rw[r.out];exact⟨rfl,W.out.below bD,CM⟩
  by_cases U:c=1024
  ·have e1:((c:Int)==1024)=true:=by simp;omega
   have r:Hid (R=(false,c,d)):=za (by rw[y.out,zi (.inr (.inl U))]);clear y U;go_enter func208,ntmps208
   go_wp2;go_ret;rw[r.out];exact⟨rfl,W.out.below bD,CM⟩
  have e1:((c:Int)==1024)=false:=zm.2 (by omega);have aj:=za ab;have JX:(q= .func (.func 172) #[] #[]/\Hid (Calls prog 172 #[.agg #[.string t,.bool l,.slice A s.length cap]] (w.alloc (.cells #[.string t,.bool l,.slice A s.length cap] 28)) fun e w'=>e= .returned (.bool (formed t l s.length))/\Below (w.alloc (.cells #[.string t,.bool l,.slice A s.length cap] 28)).heap.size (w.alloc (.cells #[.string t,.bool l,.slice A s.length cap] 28)) w'))\/
   (q= .func (.func 177) #[] #[]/\Hid (Calls prog 177 #[.agg #[.string t,.bool l,.slice A s.length cap]] (w.alloc (.cells #[.string t,.bool l,.slice A s.length cap] 28)) fun e w'=>e= .returned (.bool (formed t l s.length))/\Below (w.alloc (.cells #[.string t,.bool l,.slice A s.length cap] 28)).heap.size (w.alloc (.cells #[.string t,.bool l,.slice A s.length cap] 28)) w')):=by
   rcases ab with h|⟨h,hx⟩
   ·exact .inl ⟨h,za (Qs t l A s.length cap _ hs)⟩
   exact .inr ⟨h,za (by rw[(mV hx).1];exact Jb t l A s.length cap _)⟩
  clear ab;rcases JX with⟨ak,H⟩|⟨ak,H⟩;all_goals
   cases hf:formed t l s.length with
   |false=>
    rw[hf]at H;have r:Hid (R=(false,c,d)):=za (by rw[y.out,zi (.inr (.inr hf))]);clear y hf U;go_enter func208,ntmps208
    go_wp2_with fail
    refine H.out.mono ?_;rintro e D ⟨rfl,hb⟩;go_wp2;go_ret;rw[r.out];have O:Below w.heap.size w D:=(yv (zl _ _) (zg _) _).trans (hb.mono (by simp));exact⟨rfl,W.out.below O,(ae.ah O (zg _)).mono (by simp)⟩
   |true=>
    rw[hf]at H;have r:Hid (R=fY s (j+1) (c+1) (max d j)):=za (by rw[y.out,zh (by rw[hf];simp;omega)]);have Bd:c<=1023:=by omega
    clear y hf U;obtain⟨M,hM⟩:∃M,max d j=M:=⟨_,rfl⟩
    rcases Nat.lt_trichotomy d j with hx|hx|hx;all_goals
     rw[hM]at r;have HM:=za hM;clear hM;go_enter func208,ntmps208
     go_wp2_with fail
     refine H.out.mono ?_;rintro e D ⟨rfl,gA⟩;obtain⟨g0,g1,g2⟩:=lp w 28 _ _ _ D (by simpa using gA);have O:Below w.heap.size w D:=(yv (zl _ _) (zg _) _).trans (gA.mono (by simp));have G:=W.out.below O;have p1:D.cell? ⟨cb,0,none⟩=some (.int .i64 c):=zZ G.kV;have ao:D.frozen? ⟨cb,0,none⟩=false:=Z6 G.kV;have p3:D.cell? ⟨m,0,none⟩=some (.int .i64 d):=zZ G.dp;have aq:D.frozen? ⟨m,0,none⟩=false:=Z6 G.dp;have Ha:=za G;clear G gA q1 q2 H;go_wp2_with fail
     all_goals
      go_loopw [31] (fun i wr=>∃k E F:Nat,k<=s.length/\i= .int .i64 k/\Hid (fY (s.take k) (j+1) (c+1) M=(true,E,F))/\AR q wr cb z m u E F/\ae [cb,m] w wr/\E<=1024/\F<=17) (fun i _=>s.length-(intOf i).toNat)
      case atStart=>
       refine⟨0,c+1,M,by omega,rfl,za (by simp[fY]),Ha.out.step af (by omega) (by have:=HM.out;omega), ?_,by omega,by have:=HM.out;omega⟩;exact(((ae.ah O (zg _)).mono (by simp)).setCell (by simp) _).setCell (by simp) _
      case round=>
       obtain⟨k,E,F,hk,rfl,YV,Z,K,ad,ag⟩:=hrel;have q4:wr.cell? ⟨u,0,none⟩=some (.func (.func 208) #[] #[.pointer (some ⟨cb,0,none⟩),.pointer (some ⟨z,0,none⟩),.pointer (some ⟨m,0,none⟩),.pointer (some ⟨u,0,none⟩)]):=zZ Z.gY;have X:Below B w wr:=K.below hB (by simp;omega);have UH:=K.size;have au:u<wr.heap.size:=by omega
       have J0:=za Z;clear Z;by_cases I:k<s.length
       ·obtain⟨b,o,d0,d1,d2,rfl,cZ,e0,ra,e2,hi⟩:=HS.out.at_ k I;simp only[zG]at e0 ra e2;replace e0:=(X.cell (p:=⟨b,o+k*3,none⟩) cZ).trans e0;replace ra:=(X.cell (p:=⟨b,o+k*3+1,none⟩) cZ).trans ra;replace e2:=(X.cell (p:=⟨b,o+k*3+2,none⟩) cZ).trans e2;obtain⟨A2,cn,rfl,rfl,rfl,_⟩:=hi.open_;have eR:=zE I;have iU:=hi.below X;have aa:=J0.out.below (yv (zl _ wr) (zg _) (.cells #[.string s[k].text,.bool s[k].list,.slice A2 s[k].sub.length cn] 28));have HC:=za (IH.out _ eR B (wr.alloc (.cells #[.string s[k].text,.bool s[k].list,.slice A2 s[k].sub.length cn] 28)) _ _ _ (iU.below (yv (zl _ _) (by omega) _)) (by simp;omega) q (aj.out.imp id (fun h=>⟨h.1,fZ h.2 k I⟩)) cb z m u (j+1) E F aa ai ah af (by omega) (by omega) ad ag);have S:=(Ih s[k] (j+1) E F (by omega) ad).2.2;obtain⟨⟨al,C,Y⟩,J⟩:∃T,s[k].gY (j+1) E F=T:=⟨_,rfl⟩
        rw[J]at HC S;have an:C<=1024/\Y<=17:=by simp at S;omega
        obtain⟨LW,kD⟩:=an;have e9:(j:Int)+1=((j+1:Nat):Int):=by omega
        have E9:=za e9;cases al with
        |true=>
         have L:Hid (fY (s.take (k+1)) (j+1) (c+1) M=(true,C,Y)):=za (by rw[BL I YV.out,J]);clear hi iU aa J S e9;go_wp2_with fail
         rw[E9.out];refine HC.out.mono ?_;rintro e w2 ⟨rfl,mK,N⟩;have J2:ae [cb,m] w w2:=(K.alloc _).trans N;clear N;go_wp2;go_roundw
         case rel=>exact⟨k+1,C,Y,by omega,by go_num,L,mK,J2,LW,kD⟩
         case measure=>simp[intOf];omega
        |false=>
         have L:Hid (fY s (j+1) (c+1) M=(false,C,Y)):=za (MB I YV.out J);clear hi iU aa J S e9;go_wp2_with fail
         rw[E9.out];refine HC.out.mono ?_;rintro e w2 ⟨rfl,mK,N⟩;have J2:ae [cb,m] w w2:=(K.alloc _).trans N;clear N;go_wp2;go_ret;rw[r.out,L.out];exact⟨rfl,mK,J2⟩
       have J1:=YV.out;rw[zv (by omega)]at J1;have L:=za J1;clear J1;go_wp2;go_ret;rw[r.out,L.out];exact⟨rfl,J0.out,K⟩
def jO (a b:It)(e:Ending):Prop:=∃r:Bool,e= .returned (.bool r)/\(r=true↔a=b)
theorem jO.no {b:It}(h:a≠b):jO a b (.returned (.bool false)):=⟨false,rfl,by simp[h]⟩
theorem jO.yes {b:It}(h:a=b):jO a b (.returned (.bool true)):=⟨true,rfl,by simp[h]⟩
theorem Jc {s b:List It}(c:s.length=b.length)(h:∀j (e:j<s.length) (d:j<b.length),s[j]=b[j]):s=b:=List.ext_getElem c h
theorem Nr :∀(x:It) (B:Nat) (w:World) (U H S:Value),bT w B x U H S->B<=w.heap.size->∀(y:It) (z r u:Value),bT w B y z r u->
 Calls prog 18 #[.agg #[U,H,S],.agg #[z,r,u]] w fun e w'=>jO x y e/\Below w.heap.size w w':=by
 intro x;induction x using It.ind with
 |h t l s ih=>
  intro B w U H S h hB y z r u hy;obtain⟨rfl,rfl,ht,hs,A,cap,rfl,lH,jR,cy⟩:=h;have IH:=za ih;have HS:=za cy;clear ih cy;obtain⟨O,M,c⟩:=y;obtain⟨rfl,rfl,ak,VO,Y,R,rfl,al,ao,V8⟩:=hy;have ah:=za V8;clear V8;by_cases m:l=M
  ·subst m;have E:(l !=l)=false:=by simp
   have F:(l==l)=true:=by simp
   rcases pW t O with⟨rfl,q1,q2⟩|⟨cF,q1,q2⟩
   ·by_cases q:s.length=c.length
    ·have H3:=za q;have e3:((s.length:Int) !=(c.length:Int))=false:=by simp[q]
     have ad:(s.length !=c.length)=false:=by simp[q]
     clear q;go_enter func18,Ye
     go_wp2_with fail
     go_loopw [5] (fun i wr=>∃k:Nat,k<=s.length/\i= .int .i64 k/\Hid (∀j (m:j<s.length) (D:j<c.length),j<k->s[j]=c[j])/\Below w.heap.size w wr/\af wr w.heap.size 28 #[.string t,.bool l,.slice A s.length cap]/\af wr (w.heap.size+1) 28 #[.string t,.bool l,.slice Y c.length R]) (fun i _=>s.length-(intOf i).toNat)
     case atStart=>exact⟨0,by omega,rfl,za (by omega),bD,(af.new w _ _).alloc _,by have:=af.new (w.alloc (.cells #[.string t,.bool l,.slice A s.length cap] 28)) 28 #[.string t,.bool l,.slice Y c.length R];simpa using this⟩
     case round=>
      obtain⟨k,hk,rfl,aa,d,J,C⟩:=hrel;have g1:wr.cell? ⟨w.heap.size,2,none⟩=some (.slice A s.length cap):=J.cell 2;have g2:wr.cell? ⟨w.heap.size+1,2,none⟩=some (.slice Y c.length R):=C.cell 2;have DN:=C.lt;have K1:=za J;have K2:=za C;clear J C;by_cases aC:k<s.length
      ·have YS:k<c.length:=by have:=H3.out;omega
       obtain⟨b,o,z,r,u,rfl,cZ,I,E,K,hi⟩:=HS.out.at_ k aC;obtain⟨N,W,ag,ai,ae,rfl,an,X,F,L,Z⟩:=ah.out.at_ k YS;simp only[zG]at I E K X F L;replace I:=(d.cell (p:=⟨b,o+k*3,none⟩) (by simp;omega)).trans I;replace E:=(d.cell (p:=⟨b,o+k*3+1,none⟩) (by simp;omega)).trans E;replace K:=(d.cell (p:=⟨b,o+k*3+2,none⟩) (by simp;omega)).trans K;replace X:=(d.cell (p:=⟨N,W+k*3,none⟩) (by simp;omega)).trans X;replace F:=(d.cell (p:=⟨N,W+k*3+1,none⟩) (by simp;omega)).trans F;replace L:=(d.cell (p:=⟨N,W+k*3+2,none⟩) (by simp;omega)).trans L;have gF:=d.size;have eR:=zE aC;have HC:=za (IH.out _ eR B wr.drew z r u ((hi.below (d.mono hB)).below (zl _ _).drew) (by simp;omega) _ ag ai ae ((Z.below (d.mono hB)).below (zl _ _).drew));clear hi Z;go_wp2_with fail
       go_still_tail 10,(by kernel_rfl)
       change wpList _ _ _ _ _ wr.drew
       go_wp2_with fail
       refine HC.out.mono ?_;rintro e w2 ⟨⟨ab,rfl,hr⟩,aJ⟩;have HR:=za hr;have G:=za aJ;clear hr aJ;cases ab with
       |true=>
        go_wp2;go_roundw
        case rel=>
         refine⟨k+1,by omega,by go_num,za fun j m D hj=> ?_,d.drew.trans (G.out.mono (by simpa using gF)),K1.out.drew.ag G.out (by simp;omega),K2.out.drew.ag G.out (by simpa using DN)⟩;by_cases RA:j=k
         ·subst RA;exact HR.out.1 (by simp)
         exact aa.out j m D (by omega)
        case measure=>simp[intOf];omega
       |false=>
        have n:Hid (It.mk t l s≠It.mk t l c):=za (by
         intro e;injection e with _ _ e;subst e;have:=HR.out.2 rfl;simp at this)
        go_wp2;go_ret;exact⟨jO.no n.out,d.drew.trans (G.out.mono (by simpa using gF))⟩
      have HE:Hid (It.mk t l s=It.mk t l c):=za (by rw[Jc H3.out (fun j m D=>aa.out j m D (by omega))]);go_wp2;go_ret;exact⟨jO.yes HE.out,d⟩
    have n:Hid (It.mk t l s≠It.mk t l c):=za (by intro e;injection e with _ _ e;exact q (by rw[e]));have e3:((s.length:Int) !=(c.length:Int))=true:=by simp;omega
    have ad:(s.length !=c.length)=true:=by simp;omega
    clear q;go_enter func18,Ye
    go_wp2;go_ret;exact⟨jO.no n.out,bD⟩
   have n:Hid (It.mk t l s≠It.mk O l c):=za (by intro e;injection e with e;exact cF e);clear cF;go_enter func18,Ye
   go_wp2;go_ret;exact⟨jO.no n.out,bD⟩
  have n:Hid (It.mk t l s≠It.mk O M c):=za (by intro e;injection e with _ e;exact m e);cases l<;>cases M
  ·exact absurd rfl m
  ·clear m;go_enter func18,Ye
   go_wp2;go_ret;exact⟨jO.no n.out,bD⟩
  ·clear m;go_enter func18,Ye
   go_wp2;go_ret;exact⟨jO.no n.out,bD⟩
  exact absurd rfl m
