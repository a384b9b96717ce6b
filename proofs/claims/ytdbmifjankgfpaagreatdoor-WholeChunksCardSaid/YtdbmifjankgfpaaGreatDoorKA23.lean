/- Whether a type may be: the document's right and May. -/
import Derived.Test.YtdbmifjankgfpaaGreatDoorKA16
import Derived.StillTailTactics
set_option linter.all false
set_option maxRecDepth 100000
set_option maxHeartbeats 8000000
open Go.Proofs.Tryz
namespace Go.Proofs.YtdbmifjankgfpaaGreatDoor
open Go.RowKit
def ya:=@wp_loop_rounds
def yf:=@results212
def yj:=@ntmps55
def yl:=@ntmps212
def yn:=@rounds_succ
def yo:=@func55
def yq:=@func212
def yt:=@results157
def yK:=@Below.alloc
def xE:=@ntmps157
def xO:=@func157
def Zl:=@free_of_one
def Ye:=@ntmps18
theorem M7 (k:Int):k=1\/k=2\/k=3\/k=4\/k=5\/(k≠1/\k≠2/\k≠3/\k≠4/\k≠5):=by omega
theorem agL {s:Int}{n:Nat}{t:Int}(h:ga 1 s n t=false):(s≠1/\s≠2/\s≠4/\s≠8)\/((s=1\/s=2\/s=4\/s=8)/\n≠0)\/((s=1\/s=2\/s=4\/s=8)/\n=0/\t≠0):=by
 simp[ga]at h;omega
theorem agM {s:Int}{n:Nat}{t:Int}(h:ga 2 s n t=false):s<1\/(1<=s/\65536<s)\/(1<=s/\s<=65536/\n≠0)\/(1<=s/\s<=65536/\n=0/\t≠0):=by
 simp[ga]at h;omega
theorem agN {s:Int}{n:Nat}{t:Int}(h:ga 3 s n t=false):s<0\/(0<=s/\65536<s)\/(0<=s/\s<=65536/\n≠0)\/(0<=s/\s<=65536/\n=0/\t≠0):=by
 simp[ga]at h;omega
theorem agO {s:Int}{n:Nat}{t:Int}(h:ga 4 s n t=false):s<0\/(0<=s/\1024<s)\/(0<=s/\s<=1024/\n≠1)\/(0<=s/\s<=1024/\n=1/\t≠0):=by
 simp[ga]at h;omega
theorem agP {s:Int}{n:Nat}{t:Int}(h:ga 5 s n t=false):s≠0\/(s=0/\16<n)\/(s=0/\n<=16/\t<0)\/(s=0/\n<=16/\0<=t/\(n:Int)<t):=by
 simp[ga]at h;omega
theorem nb {a b:Int}(h:a≠b):(a==b)=false:=zm.2 h
theorem M8 :∀(x:Ty) (B:Nat) (w:World) (X c1 Z c3:Value),cD w B x X c1 Z c3->B<=w.heap.size->
 Calls prog 55 #[.agg #[X,c1,Z,c3]] w fun e w'=>e= .returned (.bool x.right)/\Below w.heap.size w w':=by
 intro x;induction x using Ty.ind with
 |h ki s l ta ih=>
  intro B w X c1 Z c3 h hB;obtain⟨rfl,rfl,rfl,nZ,CI,oF,hs,A,cap,rfl,qZ,mR,eH⟩:=h;have IH:=za ih;have L:=za eH;unfold mJ at nZ CI oF;obtain⟨Rx,Rw⟩:=nZ;obtain⟨Rv,Ry⟩:=CI;obtain⟨Rz,JU⟩:=oF;clear ih eH;have r:Hid ((Ty.mk ki s l ta).right=(ga ki s l.length ta&&bM l)):=za (by simp only[Ty.right]);generalize (Ty.mk ki s l ta).right=R at*;cases bF:ga ki s l.length ta with
  |true=>
   have hw:=lT bF;rcases hw with⟨rfl,J,d,rfl⟩|⟨rfl,h3,W,d,rfl⟩|⟨rfl,h3,W,d,rfl⟩|⟨rfl,h3,W,d,rfl⟩|⟨rfl,rfl,W,h5,h6⟩
   ·obtain rfl:l= []:=zo d;have c:Hid (R=true):=za (by rw[r.out,bF];rfl);clear r bF;rcases J with rfl|rfl|rfl|rfl;all_goals
     go_enter yo,yj
     go_wp2_with fail
     refine ya 1 ?_;rw[yn];go_wp2;go_ret;exact⟨by rw[c.out];rfl,bQ⟩
   ·obtain rfl:l= []:=zo d;have c:Hid (R=true):=za (by rw[r.out,bF];rfl);clear r bF;go_enter yo,yj
    go_wp2_with fail
    refine ya 1 ?_;rw[yn];go_wp2;go_ret;exact⟨by rw[c.out];rfl,bQ⟩
   ·obtain rfl:l= []:=zo d;have c:Hid (R=true):=za (by rw[r.out,bF];rfl);clear r bF;go_enter yo,yj
    go_wp2_with fail
    refine ya 1 ?_;rw[yn];go_wp2;go_ret;exact⟨by rw[c.out];rfl,bQ⟩
   ·have c:Hid (R=bM l):=za (by rw[r.out,bF];rfl);have z:((l.length:Int)==1)=true:=by simp[d]
    clear r bF d;go_enter yo,yj
    go_wp2_with fail
    go_loopw [3,5] (fun ok i wr=>∃(k:Nat) (b:Bool),k<=l.length/\i= .int .i64 k/\ok= .bool b/\Hid (bM (l.take k)=b)/\Below w.heap.size w wr/\wr.cell? ⟨w.heap.size,2,none⟩=some (.slice A l.length cap)) (fun _ i _=>l.length-(intOf i).toNat)
    case atStart=>exact⟨0,true,by omega,rfl,rfl,za (by simp[bM]),bQ,by simp⟩
    case round=>
     obtain⟨k,b,hk,rfl,rfl,D,m,O⟩:=hrel;by_cases u:k<l.length
     ·cases b with
      |true=>
       obtain⟨b,o,d0,d1,d2,d3,rfl,fA,C,z,H,F,hi⟩:=L.out.at_ k u;simp only[zM]at C z H F;replace C:=(m.cell (p:=⟨b,o+k*4,none⟩) (by simp;omega)).trans C;replace z:=(m.cell (p:=⟨b,o+k*4+1,none⟩) (by simp;omega)).trans z;replace H:=(m.cell (p:=⟨b,o+k*4+2,none⟩) (by simp;omega)).trans H;replace F:=(m.cell (p:=⟨b,o+k*4+3,none⟩) (by simp;omega)).trans F;have S:=m.size;have km:=zN u;have N:=hi.below (m.mono hB);have K:=za (IH.out _ km B wr d0 d1 d2 d3 N (by omega));obtain⟨q,E⟩:∃q,l[k].right=q:=⟨_,rfl⟩
       rw[E]at K;have Hq:Hid (bM (l.take (k+1))=q):=za (by rw[nf l k u,D.out,E];rfl);clear E N hi;go_wp2_with fail
       refine K.out.mono ?_;rintro e w2 ⟨rfl,M⟩;have kY:=lt_of_cell O;have U:=(M.cell (p:=⟨w.heap.size,2,none⟩) (by simp;omega)).trans O;have bU:=m.trans (M.mono S);go_wp2;go_roundw
       case rel=>
        exact⟨k+1,q,by omega,by go_num,rfl,Hq,bU,U⟩
       case measure=>simp[intOf];omega
      |false=>
       have HN:Hid (bM l=false):=za (by
        have j:=iD (l.take k) (l.drop k);rw[zJ,D.out]at j;simpa using j)
       obtain⟨b0,o0,_,_,_,_,rfl,_⟩:=L.out.at_ k u;go_wp2;go_ret;exact⟨by rw[c.out,HN.out];rfl,m⟩
     have G:=D.out;rw[zy (by omega)]at G;have Y:=za G;clear G;go_wp2;go_ret;exact⟨by rw[c.out,Y.out];rfl,m⟩
   have c:Hid (R=bM l):=za (by rw[r.out,bF];rfl);clear r bF;go_enter yo,yj
   go_wp2_with fail
   go_loopw [3,5] (fun ok i wr=>∃(k:Nat) (b:Bool),k<=l.length/\i= .int .i64 k/\ok= .bool b/\Hid (bM (l.take k)=b)/\Below w.heap.size w wr/\wr.cell? ⟨w.heap.size,2,none⟩=some (.slice A l.length cap)) (fun _ i _=>l.length-(intOf i).toNat)
   case atStart=>exact⟨0,true,by omega,rfl,rfl,za (by simp[bM]),bQ,by simp⟩
   case round=>
    obtain⟨k,b,hk,rfl,rfl,D,m,O⟩:=hrel;by_cases u:k<l.length
    ·cases b with
     |true=>
      obtain⟨b,o,d0,d1,d2,d3,rfl,fA,C,z,H,F,hi⟩:=L.out.at_ k u;simp only[zM]at C z H F;replace C:=(m.cell (p:=⟨b,o+k*4,none⟩) (by simp;omega)).trans C;replace z:=(m.cell (p:=⟨b,o+k*4+1,none⟩) (by simp;omega)).trans z;replace H:=(m.cell (p:=⟨b,o+k*4+2,none⟩) (by simp;omega)).trans H;replace F:=(m.cell (p:=⟨b,o+k*4+3,none⟩) (by simp;omega)).trans F;have S:=m.size;have km:=zN u;have N:=hi.below (m.mono hB);have K:=za (IH.out _ km B wr d0 d1 d2 d3 N (by omega));obtain⟨q,E⟩:∃q,l[k].right=q:=⟨_,rfl⟩
      rw[E]at K;have Hq:Hid (bM (l.take (k+1))=q):=za (by rw[nf l k u,D.out,E];rfl);clear E N hi;go_wp2_with fail
      refine K.out.mono ?_;rintro e w2 ⟨rfl,M⟩;have kY:=lt_of_cell O;have U:=(M.cell (p:=⟨w.heap.size,2,none⟩) (by simp;omega)).trans O;have bU:=m.trans (M.mono S);go_wp2;go_roundw
      case rel=>
       exact⟨k+1,q,by omega,by go_num,rfl,Hq,bU,U⟩
      case measure=>simp[intOf];omega
     |false=>
      have HN:Hid (bM l=false):=za (by
       have j:=iD (l.take k) (l.drop k);rw[zJ,D.out]at j;simpa using j)
      obtain⟨b0,o0,_,_,_,_,rfl,_⟩:=L.out.at_ k u;go_wp2;go_ret;exact⟨by rw[c.out,HN.out];rfl,m⟩
    have G:=D.out;rw[zy (by omega)]at G;have Y:=za G;clear G;go_wp2;go_ret;exact⟨by rw[c.out,Y.out];rfl,m⟩
  |false=>
   have c:Hid (R=false):=za (by rw[r.out,bF];rfl);clear r L IH;rcases M7 ki with rfl|rfl|rfl|rfl|rfl|⟨n1,n2,n3,n4,n5⟩
   ·rcases agL bF with⟨m1,m2,m3,m4⟩|⟨J,d⟩|⟨J,d,n⟩
    ·have y:=nb m1;have I:=nb m2;have f3:=nb m3;have f4:=nb m4;clear bF m1 m2 m3 m4;go_enter yo,yj
     go_wp2_with fail
     refine ya 1 ?_;rw[yn];go_wp2;all_goals
      go_ret;exact⟨by rw[c.out];rfl,bQ⟩
    ·have y:((l.length:Int)==0)=false:=nb (by omega);clear bF d;rcases J with rfl|rfl|rfl|rfl;all_goals
      go_enter yo,yj
      go_wp2_with fail
      refine ya 1 ?_;rw[yn];go_wp2;all_goals
       go_ret;exact⟨by rw[c.out];rfl,bQ⟩
    obtain rfl:l= []:=zo d;have I:=nb n;clear bF n;rcases J with rfl|rfl|rfl|rfl;all_goals
     go_enter yo,yj
     go_wp2_with fail
     refine ya 1 ?_;rw[yn];go_wp2;all_goals
      go_ret;exact⟨by rw[c.out];rfl,bQ⟩
   ·rcases agM bF with j|⟨j,h2⟩|⟨j,h2,d⟩|⟨j,h2,d,n⟩
    ·clear bF;go_enter yo,yj
     go_wp2_with fail
     refine ya 1 ?_;rw[yn];go_wp2;all_goals
      go_ret;exact⟨by rw[c.out];rfl,bQ⟩
    ·clear bF;go_enter yo,yj
     go_wp2_with fail
     refine ya 1 ?_;rw[yn];go_wp2;all_goals
      go_ret;exact⟨by rw[c.out];rfl,bQ⟩
    ·have y:((l.length:Int)==0)=false:=nb (by omega);clear bF d;go_enter yo,yj
     go_wp2_with fail
     refine ya 1 ?_;rw[yn];go_wp2;all_goals
      go_ret;exact⟨by rw[c.out];rfl,bQ⟩
    obtain rfl:l= []:=zo d;have I:=nb n;clear bF n;go_enter yo,yj
    go_wp2_with fail
    refine ya 1 ?_;rw[yn];go_wp2;all_goals
     go_ret;exact⟨by rw[c.out];rfl,bQ⟩
   ·rcases agN bF with j|⟨j,h2⟩|⟨j,h2,d⟩|⟨j,h2,d,n⟩
    ·clear bF;go_enter yo,yj
     go_wp2_with fail
     refine ya 1 ?_;rw[yn];go_wp2;all_goals
      go_ret;exact⟨by rw[c.out];rfl,bQ⟩
    ·clear bF;go_enter yo,yj
     go_wp2_with fail
     refine ya 1 ?_;rw[yn];go_wp2;all_goals
      go_ret;exact⟨by rw[c.out];rfl,bQ⟩
    ·have y:((l.length:Int)==0)=false:=nb (by omega);clear bF d;go_enter yo,yj
     go_wp2_with fail
     refine ya 1 ?_;rw[yn];go_wp2;all_goals
      go_ret;exact⟨by rw[c.out];rfl,bQ⟩
    obtain rfl:l= []:=zo d;have I:=nb n;clear bF n;go_enter yo,yj
    go_wp2_with fail
    refine ya 1 ?_;rw[yn];go_wp2;all_goals
     go_ret;exact⟨by rw[c.out];rfl,bQ⟩
   ·rcases agO bF with j|⟨j,h2⟩|⟨j,h2,d⟩|⟨j,h2,d,n⟩
    ·clear bF;go_enter yo,yj
     go_wp2_with fail
     refine ya 1 ?_;rw[yn];go_wp2;all_goals
      go_ret;exact⟨by rw[c.out];rfl,bQ⟩
    ·clear bF;go_enter yo,yj
     go_wp2_with fail
     refine ya 1 ?_;rw[yn];go_wp2;all_goals
      go_ret;exact⟨by rw[c.out];rfl,bQ⟩
    ·have y:((l.length:Int)==1)=false:=nb (by omega);clear bF d;go_enter yo,yj
     go_wp2_with fail
     refine ya 1 ?_;rw[yn];go_wp2;all_goals
      go_ret;exact⟨by rw[c.out];rfl,bQ⟩
    have y:((l.length:Int)==1)=true:=by simp[d]
    have I:=nb n;clear bF n d;go_enter yo,yj
    go_wp2_with fail
    refine ya 1 ?_;rw[yn];go_wp2;all_goals
     go_ret;exact⟨by rw[c.out];rfl,bQ⟩
   ·rcases agP bF with j|⟨rfl,h2⟩|⟨rfl,h2,n⟩|⟨rfl,h2,n,Rc⟩
    ·have y:=nb j;clear bF j;go_enter yo,yj
     go_wp2_with fail
     refine ya 1 ?_;rw[yn];go_wp2;all_goals
      go_ret;exact⟨by rw[c.out];rfl,bQ⟩
    ·clear bF;go_enter yo,yj
     go_wp2_with fail
     refine ya 1 ?_;rw[yn];go_wp2;all_goals
      go_ret;exact⟨by rw[c.out];rfl,bQ⟩
    ·clear bF;go_enter yo,yj
     go_wp2_with fail
     refine ya 1 ?_;rw[yn];go_wp2;all_goals
      go_ret;exact⟨by rw[c.out];rfl,bQ⟩
    have y:decide (ta<=(l.length:Int))=false:=zu (by omega);clear bF;go_enter yo,yj
    go_wp2_with fail
    refine ya 1 ?_;rw[yn];go_wp2;all_goals
     go_ret;exact⟨by rw[c.out];rfl,bQ⟩
   have y:=nb n1;have I:=nb n2;have f3:=nb n3;have f4:=nb n4;have f5:=nb n5;clear bF n1 n2 n3 n4 n5;go_enter yo,yj
   go_wp2_with fail
   refine ya 1 ?_;rw[yn];go_wp2;all_goals
    go_ret;exact⟨by rw[c.out];rfl,bQ⟩
theorem KS (x:Ty)(B:Nat)(w:World)(i l j k:Value)(h:cD w B x i l j k)(L:B<=w.heap.size)(I:x.count<=4611686018427387904):
 Calls prog 37 #[.agg #[i,l,j,k]] w fun e w'=>e= .returned (.bool x.may)/\Below w.heap.size w w':=by
 have J:=Mk x;have p:cD (w.alloc (.cells #[i,l,j,k] 43)) B x i l j k:=h.below (blm L);have o:=za (Dv x B _ i l j k p (by simp;omega) (by omega));have u:=za (fun c b hz=>FX x B c i l j k (cD.below p b) hz (by omega));have H:=za (fun c b hz=>M8 x B c i l j k (cD.below p b) hz);have d:Hid (x.may=(decide (x.count<=64)&&decide (x.deep<=8)&&x.right)):=za rfl;obtain⟨r,y⟩:∃r,x.right=r:=⟨_,rfl⟩
 obtain⟨M,hd⟩:∃q,x.deep=q:=⟨_,rfl⟩
 obtain⟨q,z⟩:∃q,x.count=q:=⟨_,rfl⟩
 rw[y,z,hd]at d;rw[z]at o;rw[hd]at u;rw[y]at H;obtain⟨A,cap,rfl,rfl,rfl,rfl,_⟩:=h.open_;clear y z hd J p h I;generalize x.may=R at*;generalize x.kind=S at*;generalize x.size=U at*;generalize x.tail=W at*;by_cases D:q<=64
 ·by_cases E:M<=8
  ·have m:Hid (R=r):=za (by rw[d.out];simp[E,D]);clear d;go_enter func37,ntmps37
   go_wp2_with fail
   refine o.out.mono ?_;rintro e c ⟨rfl,b⟩;obtain⟨g0,g1,g2,g3⟩:=MN (by simpa using b);have s:=b.size;simp only[zp]at s;have C:=(yK (zl w.heap.size w) (zd _) _).trans (b.mono (by simp));go_wp2_with fail
   refine(u.out c (b.mono (by simp;omega)) (by omega)).mono ?_;rintro e G ⟨rfl,n⟩;have F:=b.trans (n.mono (by simp;omega));have Y:=n.size;obtain⟨X,k1,k2,O⟩:=MN (by simpa using F);have N:=C.trans (n.mono (by omega));go_wp2_with fail
   refine(H.out G (F.mono (by simp;omega)) (by omega)).mono ?_;rintro e w3 ⟨rfl,K⟩;go_wp2;go_ret;exact⟨by rw[m.out];rfl,N.trans (K.mono (by omega))⟩
  have m:Hid (R=false):=za (by rw[d.out];simp[E]);clear d;go_enter func37,ntmps37
  go_wp2_with fail
  refine o.out.mono ?_;rintro e c ⟨rfl,b⟩;obtain⟨g0,g1,g2,g3⟩:=MN (by simpa using b);have s:=b.size;simp only[zp]at s;have C:=(yK (zl w.heap.size w) (zd _) _).trans (b.mono (by simp));go_wp2_with fail
  refine(u.out c (b.mono (by simp;omega)) (by omega)).mono ?_;rintro e G ⟨rfl,n⟩;go_wp2;go_ret;exact⟨by rw[m.out];rfl,C.trans (n.mono (by omega))⟩
 have m:Hid (R=false):=za (by rw[d.out];simp[D]);clear d;go_enter func37,ntmps37
 go_wp2_with fail
 refine o.out.mono ?_;rintro e c ⟨rfl,b⟩;go_wp2;go_ret;exact⟨by rw[m.out];rfl,(yK (zl _ _) (zd _) _).trans (b.mono (by simp))⟩
theorem M9 (w:World)(T:TypeId)(e d h:Value)(b:World)(c:Below (w.heap.size+1) (w.alloc (.cells #[e,d,h] T)) b):
 b.cell? ⟨w.heap.size,0,none⟩=some e/\b.cell? ⟨w.heap.size,1,none⟩=some d/\b.cell? ⟨w.heap.size,2,none⟩=some h:=by
 refine⟨?_, ?_, ?_⟩
 ·rw[c.cell (by simp)];simp
 ·rw[c.cell (by simp)];simp
 rw[c.cell (by simp)];simp
theorem Qd (t:ByteArray)(l:Bool)(A:Option Addr)(n cap:Nat)(w:World)(d:n<=9223372036854775807):
 Calls prog 172 #[.agg #[.string t,.bool l,.slice A n cap]] w fun e w'=>e= .returned (.bool (formed t l n))/\Below w.heap.size w w':=by
 cases l with
 |true=>
  rcases fX t with⟨hz,rfl⟩|⟨hz,h,j⟩
  ·have b:Hid (formed ⟨#[]⟩ true n=true):=za rfl;generalize formed ⟨#[]⟩ true n=R at*;clear hz;go_enter func172,ntmps172
   go_wp2;go_ret;exact⟨by rw[b.out];rfl,bQ⟩
  have b:Hid (formed t true n=false):=za (by simp[formed,hz]);generalize formed t true n=R at*;clear hz;go_enter func172,ntmps172
  go_wp2;go_ret;exact⟨by rw[b.out];rfl,bQ⟩
 |false=>
  by_cases c:n=0
  ·have b:Hid (formed t false n=true):=za (by simp[formed,c]);generalize formed t false n=R at*;go_enter func172,ntmps172
   go_wp2;go_ret;exact⟨by rw[b.out];rfl,bQ⟩
  have b:Hid (formed t false n=false):=za (by simp[formed,c]);have i:((n:Int)==0)=false:=zm.2 (by omega);generalize formed t false n=R at*;clear c;go_enter func172,ntmps172
  go_wp2;go_ret;exact⟨by rw[b.out];rfl,bQ⟩
theorem IZ (t:ByteArray)(l:Bool)(A:Option Addr)(n cap:Nat)(w:World):
 Calls prog 177 #[.agg #[.string t,.bool l,.slice A n cap]] w fun e w'=>e= .returned (.bool true)/\Below w.heap.size w w':=by
 go_enter func177,ntmps177
 go_wp2;go_ret;exact⟨rfl,bQ⟩
def Vv (fv:Value)(x:It):Prop:=fv= .func (.func 172) #[] #[]\/fv= .func (.func 177) #[] #[]/\x.right=true
structure Bc (fv:Value)(w:World)(cb eb db vb c d:Nat):Prop where
 k6:af w cb 3 #[.int .i64 c]
 each:af w eb 34 #[fv]
 dp:af w db 3 #[.int .i64 d]
 gZ:af w vb 254 #[.func (.func 208) #[] #[.pointer (some ⟨cb,0,none⟩),.pointer (some ⟨eb,0,none⟩),.pointer (some ⟨db,0,none⟩),.pointer (some ⟨vb,0,none⟩)]]
theorem Bc.below {e:Value}{w w':World}{cb j i k c d:Nat}(h:Bc e w cb j i k c d)(b:Below w.heap.size w w'):Bc e w' cb j i k c d:=
 ⟨h.k6.only (ae.ah b (zd _)) (by simp),h.each.only (ae.ah b (zd _)) (by simp),h.dp.only (ae.ah b (zd _)) (by simp),h.gZ.only (ae.ah b (zd _)) (by simp)⟩
theorem af.Vw {w:World}{g c:Nat}{t d:TypeId}{i j:Array Value}(h:af w g t i)(b:af w c d j)(e:t≠d):g≠c:=by
 rintro rfl;unfold af at h b;rw[h]at b;injection b with b;injection b with _ ht;exact e ht
theorem Bc.step {j:Value}{w:World}{cb m b i c d k e:Nat}{u v:Int}(h:Bc j w cb m b i c d)(l:cb≠b)(hu:u=(k:Int))(o:v=(e:Int)):Bc j ((w.setCell ⟨cb,0,none⟩ (.int .i64 u)).setCell ⟨b,0,none⟩ (.int .i64 v)) cb m b i k e:=by
 subst hu;subst o;have n1:=h.k6.Vw h.each (by decide);have n2:=h.k6.Vw h.gZ (by decide);have n:=h.dp.Vw h.each (by decide);have q:=h.dp.Vw h.gZ (by decide);exact⟨af.dK (show af _ _ _ _ from one_setCell h.k6) (p:=⟨b,0,none⟩) l _,(h.each.dK (p:=⟨cb,0,none⟩) n1.symm _).dK (p:=⟨b,0,none⟩) n.symm _,one_setCell (h.dp.dK (p:=⟨cb,0,none⟩) l.symm _),(h.gZ.dK (p:=⟨cb,0,none⟩) n2.symm _).dK (p:=⟨b,0,none⟩) q.symm _⟩
theorem T9 :∀(x:It) (B:Nat) (w:World) (c0 c1 D:Value),dg w B x c0 c1 D->B<=w.heap.size->∀(r:Value),Vv r x->∀(cb C m q j c d:Nat),Bc r w cb C m q c d->B<=cb->B<=m->cb≠m->1<=j->j<=17->c<=1024->d<=17->
 Calls prog 208 #[.agg #[c0,c1,D],.int .i64 j,.pointer (some ⟨cb,0,none⟩),.pointer (some ⟨C,0,none⟩),.pointer (some ⟨m,0,none⟩),.pointer (some ⟨q,0,none⟩)] w fun e w'=>
  e= .returned (.bool (x.gZ j c d).1)/\Bc r w' cb C m q (x.gZ j c d).2.1 (x.gZ j c d).2.2/\ae [cb,m] w w':=by
 intro x;induction x using It.ind with
 |h t l s ih=>
  intro B w c0 c1 D h hB r aa cb C m q j c d n ai an af aw aq hc hd;obtain⟨rfl,rfl,ht,hs,A,cap,rfl,qZ,mR,eH⟩:=h;have IH:=za ih;have HS:=za eH;clear ih eH;have n1:=n.k6.Vw n.each (by decide);have n2:=n.k6.Vw n.gZ (by decide);have n3:=n.dp.Vw n.each (by decide);have n4:=n.dp.Vw n.gZ (by decide);have q1:w.cell? ⟨cb,0,none⟩=some (.int .i64 c):=zW n.k6;have q2:w.cell? ⟨C,0,none⟩=some r:=zW n.each;have W:=za n;have l1:=n.k6.lt;have l2:=n.each.lt;have l4:=n.gZ.lt;have y:Hid ((It.mk t l s).gZ j c d=if 16<j\/c=1024\/formed t l s.length=false then(false,c,d)else gh s (j+1) (c+1) (max d j)):=za (by simp only[It.gZ]);generalize (It.mk t l s).gZ j c d=R at*;clear n;by_cases h1:16<j
  ·have u:Hid (R=(false,c,d)):=za (by rw[y.out,zi (.inl h1)]);clear y;go_enter func208,ntmps208
   go_wp2;go_ret;rw[u.out];exact⟨rfl,W.out.below bQ,C2⟩
  by_cases Y:c=1024
  ·have e1:((c:Int)==1024)=true:=by simp;omega
   have u:Hid (R=(false,c,d)):=za (by rw[y.out,zi (.inr (.inl Y))]);clear y Y;go_enter func208,ntmps208
   go_wp2;go_ret;rw[u.out];exact⟨rfl,W.out.below bQ,C2⟩
  have e1:((c:Int)==1024)=false:=zm.2 (by omega);have al:=za aa;have JR:(r= .func (.func 172) #[] #[]/\Hid (Calls prog 172 #[.agg #[.string t,.bool l,.slice A s.length cap]] (w.alloc (.cells #[.string t,.bool l,.slice A s.length cap] 28)) fun e w'=>e= .returned (.bool (formed t l s.length))/\Below (w.alloc (.cells #[.string t,.bool l,.slice A s.length cap] 28)).heap.size (w.alloc (.cells #[.string t,.bool l,.slice A s.length cap] 28)) w'))\/
   (r= .func (.func 177) #[] #[]/\Hid (Calls prog 177 #[.agg #[.string t,.bool l,.slice A s.length cap]] (w.alloc (.cells #[.string t,.bool l,.slice A s.length cap] 28)) fun e w'=>e= .returned (.bool (formed t l s.length))/\Below (w.alloc (.cells #[.string t,.bool l,.slice A s.length cap] 28)).heap.size (w.alloc (.cells #[.string t,.bool l,.slice A s.length cap] 28)) w')):=by
   rcases aa with h|⟨h,hx⟩
   ·exact .inl ⟨h,za (Qd t l A s.length cap _ hs)⟩
   exact .inr ⟨h,za (by rw[(nt hx).1];exact IZ t l A s.length cap _)⟩
  clear aa;rcases JR with⟨ak,G⟩|⟨ak,G⟩;all_goals
   cases hf:formed t l s.length with
   |false=>
    rw[hf]at G;have u:Hid (R=(false,c,d)):=za (by rw[y.out,zi (.inr (.inr hf))]);clear y hf Y;go_enter func208,ntmps208
    go_wp2_with fail
    refine G.out.mono ?_;rintro e z ⟨rfl,hb⟩;go_wp2;go_ret;rw[u.out];have I:Below w.heap.size w z:=(yK (zl _ _) (zd _) _).trans (hb.mono (by simp));exact⟨rfl,W.out.below I,(ae.ah I (zd _)).mono (by simp)⟩
   |true=>
    rw[hf]at G;have u:Hid (R=gh s (j+1) (c+1) (max d j)):=za (by rw[y.out,zh (by rw[hf];simp;omega)]);have AH:c<=1023:=by omega
    clear y hf Y;obtain⟨M,hM⟩:∃M,max d j=M:=⟨_,rfl⟩
    rcases Nat.lt_trichotomy d j with hx|hx|hx;all_goals
     rw[hM]at u;have HM:=za hM;clear hM;go_enter func208,ntmps208
     go_wp2_with fail
     refine G.out.mono ?_;rintro e z ⟨rfl,jb⟩;obtain⟨g0,g1,g2⟩:=M9 w 28 _ _ _ z (by simpa using jb);have I:Below w.heap.size w z:=(yK (zl _ _) (zd _) _).trans (jb.mono (by simp));have H:=W.out.below I;have p1:z.cell? ⟨cb,0,none⟩=some (.int .i64 c):=zW H.k6;have ar:z.frozen? ⟨cb,0,none⟩=false:=Zl H.k6;have p3:z.cell? ⟨m,0,none⟩=some (.int .i64 d):=zW H.dp;have au:z.frozen? ⟨m,0,none⟩=false:=Zl H.dp;have uH:=za H;clear H jb q1 q2 G;go_wp2_with fail
     all_goals
      go_loopw [31] (fun i wr=>∃k E F:Nat,k<=s.length/\i= .int .i64 k/\Hid (gh (s.take k) (j+1) (c+1) M=(true,E,F))/\Bc r wr cb C m q E F/\ae [cb,m] w wr/\E<=1024/\F<=17) (fun i _=>s.length-(intOf i).toNat)
      case atStart=>
       refine⟨0,c+1,M,by omega,rfl,za (by simp[gh]),uH.out.step af (by omega) (by have:=HM.out;omega), ?_,by omega,by have:=HM.out;omega⟩;exact(((ae.ah I (zd _)).mono (by simp)).setCell (by simp) _).setCell (by simp) _
      case round=>
       obtain⟨k,E,F,hk,rfl,YR,ab,J,ag,ao⟩:=hrel;have q4:wr.cell? ⟨q,0,none⟩=some (.func (.func 208) #[] #[.pointer (some ⟨cb,0,none⟩),.pointer (some ⟨C,0,none⟩),.pointer (some ⟨m,0,none⟩),.pointer (some ⟨q,0,none⟩)]):=zW ab.gZ;have S:Below B w wr:=J.below hB (by simp;omega);have UF:=J.size;have av:q<wr.heap.size:=by omega
       have JW:=za ab;clear ab;by_cases K:k<s.length
       ·obtain⟨b,o,d0,d1,d2,rfl,fA,e0,rl,e2,hi⟩:=HS.out.at_ k K;simp only[zM]at e0 rl e2;replace e0:=(S.cell (p:=⟨b,o+k*3,none⟩) fA).trans e0;replace rl:=(S.cell (p:=⟨b,o+k*3+1,none⟩) fA).trans rl;replace e2:=(S.cell (p:=⟨b,o+k*3+2,none⟩) fA).trans e2;obtain⟨A2,cn,rfl,rfl,rfl,_⟩:=hi.open_;have km:=zN K;have oa:=hi.below S;have ad:=JW.out.below (yK (zl _ wr) (zd _) (.cells #[.string s[k].text,.bool s[k].list,.slice A2 s[k].sub.length cn] 28));have HC:=za (IH.out _ km B (wr.alloc (.cells #[.string s[k].text,.bool s[k].list,.slice A2 s[k].sub.length cn] 28)) _ _ _ (oa.below (yK (zl _ _) (by omega) _)) (by simp;omega) r (al.out.imp id (fun h=>⟨h.1,jN h.2 k K⟩)) cb C m q (j+1) E F ad ai an af (by omega) (by omega) ag ao);have X:=(Ic s[k] (j+1) E F (by omega) ag).2.2;obtain⟨⟨aj,D,U⟩,L⟩:∃T,s[k].gZ (j+1) E F=T:=⟨_,rfl⟩
        rw[L]at HC X;have ah:D<=1024/\U<=17:=by simp at X;omega
        obtain⟨LN,kI⟩:=ah;have Z:(j:Int)+1=((j+1:Nat):Int):=by omega
        have E9:=za Z;cases aj with
        |true=>
         have O:Hid (gh (s.take (k+1)) (j+1) (c+1) M=(true,D,U)):=za (by rw[BZ K YR.out,L]);clear hi oa ad L X Z;go_wp2_with fail
         rw[E9.out];refine HC.out.mono ?_;rintro e w2 ⟨rfl,mU,N⟩;have JX:ae [cb,m] w w2:=(J.alloc _).trans N;clear N;go_wp2;go_roundw
         case rel=>exact⟨k+1,D,U,by omega,by go_num,O,mU,JX,LN,kI⟩
         case measure=>simp[intOf];omega
        |false=>
         have O:Hid (gh s (j+1) (c+1) M=(false,D,U)):=za (Mt K YR.out L);clear hi oa ad L X Z;go_wp2_with fail
         rw[E9.out];refine HC.out.mono ?_;rintro e w2 ⟨rfl,mU,N⟩;have JX:ae [cb,m] w w2:=(J.alloc _).trans N;clear N;go_wp2;go_ret;rw[u.out,O.out];exact⟨rfl,mU,JX⟩
       have JV:=YR.out;rw[zy (by omega)]at JV;have O:=za JV;clear JV;go_wp2;go_ret;rw[u.out,O.out];exact⟨rfl,JW.out,J⟩
def jU (a b:It)(e:Ending):Prop:=∃r:Bool,e= .returned (.bool r)/\(r=true↔a=b)
theorem jU.no {a b:It}(h:a≠b):jU a b (.returned (.bool false)):=⟨false,rfl,by simp[h]⟩
theorem jU.yes {a b:It}(h:a=b):jU a b (.returned (.bool true)):=⟨true,rfl,by simp[h]⟩
theorem I0 {s b:List It}(c:s.length=b.length)(h:∀j (e:j<s.length) (d:j<b.length),s[j]=b[j]):s=b:=List.ext_getElem c h
theorem Na :∀(x:It) (B:Nat) (w:World) (J U K:Value),dg w B x J U K->B<=w.heap.size->∀(y:It) (z r u:Value),dg w B y z r u->
 Calls prog 18 #[.agg #[J,U,K],.agg #[z,r,u]] w fun e w'=>jU x y e/\Below w.heap.size w w':=by
 intro x;induction x using It.ind with
 |h t l s ih=>
  intro B w J U K h hB y z r u hy;obtain⟨rfl,rfl,ht,hs,A,cap,rfl,qZ,mR,eH⟩:=h;have IH:=za ih;have HS:=za eH;clear ih eH;obtain⟨I,O,c⟩:=y;obtain⟨rfl,rfl,aj,VM,H,W,rfl,ak,an,V8⟩:=hy;have ad:=za V8;clear V8;by_cases m:l=O
  ·subst m;have C:(l !=l)=false:=by simp
   have G:(l==l)=true:=by simp
   rcases pZ t I with⟨rfl,q1,q2⟩|⟨cB,q1,q2⟩
   ·by_cases q:s.length=c.length
    ·have H3:=za q;have e3:((s.length:Int) !=(c.length:Int))=false:=by simp[q]
     have ag:(s.length !=c.length)=false:=by simp[q]
     clear q;go_enter func18,Ye
     go_wp2_with fail
     go_loopw [5] (fun i wr=>∃k:Nat,k<=s.length/\i= .int .i64 k/\Hid (∀j (m:j<s.length) (D:j<c.length),j<k->s[j]=c[j])/\Below w.heap.size w wr/\af wr w.heap.size 28 #[.string t,.bool l,.slice A s.length cap]/\af wr (w.heap.size+1) 28 #[.string t,.bool l,.slice H c.length W]) (fun i _=>s.length-(intOf i).toNat)
     case atStart=>exact⟨0,by omega,rfl,za (by omega),bQ,(af.new w _ _).alloc _,by have:=af.new (w.alloc (.cells #[.string t,.bool l,.slice A s.length cap] 28)) 28 #[.string t,.bool l,.slice H c.length W];simpa using this⟩
     case round=>
      obtain⟨k,hk,rfl,aa,d,N,E⟩:=hrel;have g1:wr.cell? ⟨w.heap.size,2,none⟩=some (.slice A s.length cap):=N.cell 2;have g2:wr.cell? ⟨w.heap.size+1,2,none⟩=some (.slice H c.length W):=E.cell 2;have LP:=E.lt;have K1:=za N;have K2:=za E;clear N E;by_cases aD:k<s.length
      ·have YP:k<c.length:=by have:=H3.out;omega
       obtain⟨b,o,z,r,u,rfl,fA,M,C,X,hi⟩:=HS.out.at_ k aD;obtain⟨R,Y,ab,ai,ae,rfl,al,L,G,S,hi'⟩:=ad.out.at_ k YP;simp only[zM]at M C X L G S;replace M:=(d.cell (p:=⟨b,o+k*3,none⟩) (by simp;omega)).trans M;replace C:=(d.cell (p:=⟨b,o+k*3+1,none⟩) (by simp;omega)).trans C;replace X:=(d.cell (p:=⟨b,o+k*3+2,none⟩) (by simp;omega)).trans X;replace L:=(d.cell (p:=⟨R,Y+k*3,none⟩) (by simp;omega)).trans L;replace G:=(d.cell (p:=⟨R,Y+k*3+1,none⟩) (by simp;omega)).trans G;replace S:=(d.cell (p:=⟨R,Y+k*3+2,none⟩) (by simp;omega)).trans S;have kd:=d.size;have km:=zN aD;have HC:=za (IH.out _ km B wr.drew z r u ((hi.below (d.mono hB)).below (zl _ _).drew) (by simp;omega) _ ab ai ae ((hi'.below (d.mono hB)).below (zl _ _).drew));clear hi hi';go_wp2_with fail
       go_still_tail 10,(by kernel_rfl)
       change wpList _ _ _ _ _ wr.drew
       go_wp2_with fail
       refine HC.out.mono ?_;rintro e w2 ⟨⟨ah,rfl,hr⟩,aS⟩;have Z:=za hr;have F:=za aS;clear hr aS;cases ah with
       |true=>
        go_wp2;go_roundw
        case rel=>
         refine⟨k+1,by omega,by go_num,za fun j m D hj=> ?_,d.drew.trans (F.out.mono (by simpa using kd)),K1.out.drew.ag F.out (by simp;omega),K2.out.drew.ag F.out (by simpa using LP)⟩;by_cases SV:j=k
         ·subst SV;exact Z.out.1 (by simp)
         exact aa.out j m D (by omega)
        case measure=>simp[intOf];omega
       |false=>
        have n:Hid (It.mk t l s≠It.mk t l c):=za (by
         intro e;injection e with _ _ e;subst e;have:=Z.out.2 rfl;simp at this)
        go_wp2;go_ret;exact⟨jU.no n.out,d.drew.trans (F.out.mono (by simpa using kd))⟩
      have HE:Hid (It.mk t l s=It.mk t l c):=za (by rw[I0 H3.out (fun j m D=>aa.out j m D (by omega))]);go_wp2;go_ret;exact⟨jU.yes HE.out,d⟩
    have n:Hid (It.mk t l s≠It.mk t l c):=za (by intro e;injection e with _ _ e;exact q (by rw[e]));have e3:((s.length:Int) !=(c.length:Int))=true:=by simp;omega
    have ag:(s.length !=c.length)=true:=by simp;omega
    clear q;go_enter func18,Ye
    go_wp2;go_ret;exact⟨jU.no n.out,bQ⟩
   have n:Hid (It.mk t l s≠It.mk I l c):=za (by intro e;injection e with e;exact cB e);clear cB;go_enter func18,Ye
   go_wp2;go_ret;exact⟨jU.no n.out,bQ⟩
  have n:Hid (It.mk t l s≠It.mk I O c):=za (by intro e;injection e with _ e;exact m e);cases l<;>cases O
  ·exact absurd rfl m
  ·clear m;go_enter func18,Ye
   go_wp2;go_ret;exact⟨jU.no n.out,bQ⟩
  ·clear m;go_enter func18,Ye
   go_wp2;go_ret;exact⟨jU.no n.out,bQ⟩
  exact absurd rfl m
def hdV (r:Bool×Nat×Nat×Int):Value:= .tuple #[.bool r.1,.int .i64 r.2.1,.int .i64 r.2.2.1,.int .i64 r.2.2.2]
theorem Nb (s:ByteArray)(d m:Bool)(w:World)(U:s.size<=4611686018427387904):
 Calls prog 212 #[.string s,.bool d,.bool m] w fun e w'=>e= .returned (hdV (hd s d m))/\w=w':=by
 unfold hdV;rcases fX s with⟨hz,rfl⟩|⟨hz,Z,Y⟩
 ·have c:Hid (hd ⟨#[]⟩ d m=(false,0,0,2)):=za (by unfold hd;rw[zi (by simp[ByteArray.size])]);clear hz;go_enter yq,yl
  go_wp2;refine zk (v:= .tuple #[.bool false,.int .i64 (0:Int),.int .i64 (0:Int),.int .i64 2]) (by simp[results,yf,go_sem]) rfl ?_;rw[c.out];exact⟨rfl,rfl⟩
 have L:0<s.size:=by
  rcases Zj s.size with h|h
  ·exact absurd h (by first|exact hz|omega)
  exact h
 cases d with
 |true=>
  have c:Hid (hd s true m=(false,0,0,6)):=za (by unfold hd;rw[zh (by omega),zi rfl]);go_enter yq,yl
  go_wp2;refine zk (v:= .tuple #[.bool false,.int .i64 (0:Int),.int .i64 (0:Int),.int .i64 6]) (by simp[results,yf,go_sem]) rfl ?_;rw[c.out];exact⟨rfl,rfl⟩
 |false=>
 cases m with
 |true=>
  have c:Hid (hd s false true=(false,0,0,4)):=za (by unfold hd;rw[zh (by omega),zh (by simp),zi rfl]);go_enter yq,yl
  go_wp2;refine zk (v:= .tuple #[.bool false,.int .i64 (0:Int),.int .i64 (0:Int),.int .i64 4]) (by simp[results,yf,go_sem]) rfl ?_;rw[c.out];exact⟨rfl,rfl⟩
 |false=>
 have x:hd s false false=AV s:=by unfold hd;rw[zh (by omega),zh (by simp),zh (by simp)]
 have B:s.data.toList.getD 0 0=s[0]:=by rw[zv,gL s 0 L];rfl
 have X:=s[0].toNat_lt;by_cases E:s[0].toNat<128
 ·have c:Hid (hd s false false=(false,0,1,0)):=za (by rw[x];unfold AV;dsimp only;rw[B,zi E]);clear x;go_enter yq,yl
  go_wp2;refine zk (v:= .tuple #[.bool false,.int .i64 (0:Int),.int .i64 (1:Int),.int .i64 0]) (by simp[results,yf,go_sem]) rfl ?_;rw[c.out];exact⟨rfl,rfl⟩
 by_cases J:192<=s[0].toNat
 ·obtain⟨t,F⟩:∃t,s[0].toNat=192+t:=⟨s[0].toNat-192,by omega⟩
  have b:=x;unfold AV at b;dsimp only at b;rw[B,F,zh (by omega:¬192+t<128),show decide (192<=192+t)=true from by simp,zi (by omega:192<=192+t),show 192+t-192=t from by omega]at b;have K:decide (192<=192+(t:Int))=true:=zE (by omega);have O:t<=63:=by omega
  clear x B E J;by_cases l:t<=55
  ·rw[zi l,zi l,zi l]at b;have D:192+(t:Int)-192=t:=by omega
   by_cases p:s.size<1+t
   ·have c:Hid (hd s false false=(false,0,0,2)):=za (by rw[b,zi p]);clear b;go_enter yq,yl
    go_wp2;refine zk (v:= .tuple #[.bool false,.int .i64 (0:Int),.int .i64 (0:Int),.int .i64 2]) (by simp[results,yf,go_sem]) rfl ?_;rw[c.out];exact⟨rfl,rfl⟩
   have c:Hid (hd s false false=(true,1,t,0)):=za (by rw[b,zh p,zh (by simp)]);clear b;go_enter yq,yl
   go_wp2;refine zk (v:= .tuple #[.bool true,.int .i64 (1:Int),.int .i64 (t:Int),.int .i64 0]) (by simp[results,yf,go_sem]) rfl ?_;rw[c.out];exact⟨rfl,rfl⟩
  rw[zh l,zh l,zh l]at b;obtain⟨k,rfl⟩:∃k,t=55+k:=⟨t-55,by omega⟩
  rw[show 55+k-55=k from by omega]at b;have D:192+(55+(k:Int))-192=55+k:=by omega
  have S:55+(k:Int)-55=k:=by omega
  by_cases p:s.size<1+k
  ·have c:Hid (hd s false false=(false,0,0,2)):=za (by rw[b,zi p]);clear b;go_enter yq,yl
   go_wp2;refine zk (v:= .tuple #[.bool false,.int .i64 (0:Int),.int .i64 (0:Int),.int .i64 2]) (by simp[results,yf,go_sem]) rfl ?_;rw[c.out];exact⟨rfl,rfl⟩
  rw[zh p]at b;have u:1<s.size:=by omega
  have o:s.data.toList.getD 1 0=s[1]:=by rw[zv,gL s 1 u];rfl
  rw[o]at b;have C:(s.extract 1 (1+k)).size=k:=by rw[aj _ _ _ (by omega)];omega
  have q:gB (s.extract 1 (1+k)).data.toList=decide (s[1].toNat=0):=by
   have H:(s.extract 1 (1+k)).data.toList=s[1]::(s.extract 1 (1+k)).data.toList.drop 1:=by
    rw[an];have i:(s.data.toList.take (1+k)).drop 1=((s.data.toList.drop 1).take k):=by rw[ZW,show 1+k-1=k from by omega]
    rw[i,drop_cons s 1 u,show k=(k-1)+1 from by omega,zP];rfl
   rw[H];simp only[gB];by_cases e:s[1]=0
   ·simp[e]
   have:s[1].toNat≠0:=fun h=>e (zO.1 h)
   simp[e,this]
  have j:=za (pz (s.extract 1 (1+k)) w (by omega));by_cases r:s[1].toNat=0
  ·have n:pU (s.extract 1 (1+k))=3:=by unfold pU;rw[zh (by omega),zh (by omega),q,r];rfl
   have c:Hid (hd s false false=(false,0,0,3)):=za (by rw[b,zi (.inl r)]);rw[n]at j;clear b n q o;generalize vX (s.extract 1 (1+k))=N at*;go_enter yq,yl
   go_wp2_with fail
   refine j.out.mono ?_;rintro e w' ⟨rfl,rfl⟩;go_wp2;refine zk (v:= .tuple #[.bool false,.int .i64 (0:Int),.int .i64 (0:Int),.int .i64 3]) (by simp[results,yf,go_sem]) rfl ?_;rw[c.out];exact⟨rfl,rfl⟩
  have n:pU (s.extract 1 (1+k))=0:=by unfold pU;rw[zh (by omega),zh (by omega),q,zu r];rfl
  have A:vX (s.extract 1 (1+k))=lP (s.extract 1 (1+k)).data.toList:=by unfold vX;rw[zi n]
  have M:lP (s.extract 1 (1+k)).data.toList<18446744073709551616:=by
   have i:=uQ (s.extract 1 (1+k)).data.toList;rw[aa,C]at i;have z:2^(8*k)<=2^(8*8):=yp (by omega) (by omega);exact zT i z
  rw[n,A]at j;clear n A q o C;generalize lP (s.extract 1 (1+k)).data.toList=N at*;by_cases i:N<=55
  ·have c:Hid (hd s false false=(false,0,0,3)):=za (by rw[b,zi (.inr i)]);clear b;go_enter yq,yl
   go_wp2_with fail
   refine j.out.mono ?_;rintro e w' ⟨rfl,rfl⟩;go_wp2;refine zk (v:= .tuple #[.bool false,.int .i64 (0:Int),.int .i64 (0:Int),.int .i64 3]) (by simp[results,yf,go_sem]) rfl ?_;rw[c.out];exact⟨rfl,rfl⟩
  rw[zh (fun h=>h.elim r i)]at b;by_cases z:s.size<N
  ·have c:Hid (hd s false false=(false,0,0,2)):=za (by rw[b,zi (by omega)]);clear b;go_enter yq,yl
   go_wp2_with fail
   refine j.out.mono ?_;rintro e w' ⟨rfl,rfl⟩;go_wp2;refine zk (v:= .tuple #[.bool false,.int .i64 (0:Int),.int .i64 (0:Int),.int .i64 2]) (by simp[results,yf,go_sem]) rfl ?_;rw[c.out];exact⟨rfl,rfl⟩
  by_cases y:s.size<1+k+N
  ·have c:Hid (hd s false false=(false,0,0,2)):=za (by rw[b,zi y]);clear b;go_enter yq,yl
   go_wp2_with fail
   refine j.out.mono ?_;rintro e w' ⟨rfl,rfl⟩;go_wp2;refine zk (v:= .tuple #[.bool false,.int .i64 (0:Int),.int .i64 (0:Int),.int .i64 2]) (by simp[results,yf,go_sem]) rfl ?_;rw[c.out];exact⟨rfl,rfl⟩
  have c:Hid (hd s false false=(true,1+k,N,0)):=za (by rw[b,zh y]);have R:((N:Int)==1)=false:=by simp;omega
  clear b;go_enter yq,yl
  go_wp2_with fail
  refine j.out.mono ?_;rintro e w' ⟨rfl,rfl⟩;go_wp2;refine zk (v:= .tuple #[.bool true,.int .i64 ((1+k:Nat):Int),.int .i64 (N:Int),.int .i64 0]) (by simp[results,yf,go_sem]<;>omega) rfl ?_;rw[c.out];exact⟨rfl,rfl⟩
 obtain⟨t,F⟩:∃t,s[0].toNat=128+t:=⟨s[0].toNat-128,by omega⟩
 have b:=x;unfold AV at b;dsimp only at b;have G:¬192<=128+t:=by omega
 rw[B,F,zh (by omega:¬128+t<128),zu G,zh G,show 128+t-128=t from by omega]at b;have K:decide (192<=128+(t:Int))=false:=zu (by omega);have O:t<=63:=by omega
 clear x B E J G;by_cases l:t<=55
 ·rw[zi l,zi l,zi l]at b;have D:128+(t:Int)-128=t:=by omega
  by_cases p:s.size<1+t
  ·have c:Hid (hd s false false=(false,0,0,2)):=za (by rw[b,zi p]);clear b;go_enter yq,yl
   go_wp2;refine zk (v:= .tuple #[.bool false,.int .i64 (0:Int),.int .i64 (0:Int),.int .i64 2]) (by simp[results,yf,go_sem]) rfl ?_;rw[c.out];exact⟨rfl,rfl⟩
  rw[zh p]at b;by_cases I:t=1
  ·subst I;have u:1<s.size:=by omega
   have o:s.data.toList.getD 1 0=s[1]:=by rw[zv,gL s 1 u];rfl
   rw[o]at b;by_cases i:s[1].toNat<128
   ·have c:Hid (hd s false false=(false,0,0,3)):=za (by rw[b,zi ⟨rfl,rfl,i⟩]);clear b o;go_enter yq,yl
    go_wp2;refine zk (v:= .tuple #[.bool false,.int .i64 (0:Int),.int .i64 (0:Int),.int .i64 3]) (by simp[results,yf,go_sem]) rfl ?_;rw[c.out];exact⟨rfl,rfl⟩
   have c:Hid (hd s false false=(false,1,1,0)):=za (by rw[b,zh (by simp;omega)]);clear b o;go_enter yq,yl
   go_wp2;refine zk (v:= .tuple #[.bool false,.int .i64 (1:Int),.int .i64 (1:Int),.int .i64 0]) (by simp[results,yf,go_sem]) rfl ?_;rw[c.out];exact⟨rfl,rfl⟩
  have c:Hid (hd s false false=(false,1,t,0)):=za (by rw[b,zh (fun h=>I h.2.1)]);have W:((t:Int)==1)=false:=by simp;omega
  clear b;go_enter yq,yl
  go_wp2;refine zk (v:= .tuple #[.bool false,.int .i64 (1:Int),.int .i64 (t:Int),.int .i64 0]) (by simp[results,yf,go_sem]) rfl ?_;rw[c.out];exact⟨rfl,rfl⟩
 rw[zh l,zh l,zh l]at b;obtain⟨k,rfl⟩:∃k,t=55+k:=⟨t-55,by omega⟩
 rw[show 55+k-55=k from by omega]at b;have D:128+(55+(k:Int))-128=55+k:=by omega
 have S:55+(k:Int)-55=k:=by omega
 by_cases p:s.size<1+k
 ·have c:Hid (hd s false false=(false,0,0,2)):=za (by rw[b,zi p]);clear b;go_enter yq,yl
  go_wp2;refine zk (v:= .tuple #[.bool false,.int .i64 (0:Int),.int .i64 (0:Int),.int .i64 2]) (by simp[results,yf,go_sem]) rfl ?_;rw[c.out];exact⟨rfl,rfl⟩
 rw[zh p]at b;have u:1<s.size:=by omega
 have o:s.data.toList.getD 1 0=s[1]:=by rw[zv,gL s 1 u];rfl
 rw[o]at b;have C:(s.extract 1 (1+k)).size=k:=by rw[aj _ _ _ (by omega)];omega
 have q:gB (s.extract 1 (1+k)).data.toList=decide (s[1].toNat=0):=by
  have H:(s.extract 1 (1+k)).data.toList=s[1]::(s.extract 1 (1+k)).data.toList.drop 1:=by
   rw[an];have i:(s.data.toList.take (1+k)).drop 1=((s.data.toList.drop 1).take k):=by rw[ZW,show 1+k-1=k from by omega]
   rw[i,drop_cons s 1 u,show k=(k-1)+1 from by omega,zP];rfl
  rw[H];simp only[gB];by_cases e:s[1]=0
  ·simp[e]
  have:s[1].toNat≠0:=fun h=>e (zO.1 h)
  simp[e,this]
 have j:=za (pz (s.extract 1 (1+k)) w (by omega));by_cases r:s[1].toNat=0
 ·have n:pU (s.extract 1 (1+k))=3:=by unfold pU;rw[zh (by omega),zh (by omega),q,r];rfl
  have c:Hid (hd s false false=(false,0,0,3)):=za (by rw[b,zi (.inl r)]);rw[n]at j;clear b n q o;generalize vX (s.extract 1 (1+k))=N at*;go_enter yq,yl
  go_wp2_with fail
  refine j.out.mono ?_;rintro e w' ⟨rfl,rfl⟩;go_wp2;refine zk (v:= .tuple #[.bool false,.int .i64 (0:Int),.int .i64 (0:Int),.int .i64 3]) (by simp[results,yf,go_sem]) rfl ?_;rw[c.out];exact⟨rfl,rfl⟩
 have n:pU (s.extract 1 (1+k))=0:=by unfold pU;rw[zh (by omega),zh (by omega),q,zu r];rfl
 have A:vX (s.extract 1 (1+k))=lP (s.extract 1 (1+k)).data.toList:=by unfold vX;rw[zi n]
 have M:lP (s.extract 1 (1+k)).data.toList<18446744073709551616:=by
  have i:=uQ (s.extract 1 (1+k)).data.toList;rw[aa,C]at i;have z:2^(8*k)<=2^(8*8):=yp (by omega) (by omega);exact zT i z
 rw[n,A]at j;clear n A q o C;generalize lP (s.extract 1 (1+k)).data.toList=N at*;by_cases i:N<=55
 ·have c:Hid (hd s false false=(false,0,0,3)):=za (by rw[b,zi (.inr i)]);clear b;go_enter yq,yl
  go_wp2_with fail
  refine j.out.mono ?_;rintro e w' ⟨rfl,rfl⟩;go_wp2;refine zk (v:= .tuple #[.bool false,.int .i64 (0:Int),.int .i64 (0:Int),.int .i64 3]) (by simp[results,yf,go_sem]) rfl ?_;rw[c.out];exact⟨rfl,rfl⟩
 rw[zh (fun h=>h.elim r i)]at b;by_cases z:s.size<N
 ·have c:Hid (hd s false false=(false,0,0,2)):=za (by rw[b,zi (by omega)]);clear b;go_enter yq,yl
  go_wp2_with fail
  refine j.out.mono ?_;rintro e w' ⟨rfl,rfl⟩;go_wp2;refine zk (v:= .tuple #[.bool false,.int .i64 (0:Int),.int .i64 (0:Int),.int .i64 2]) (by simp[results,yf,go_sem]) rfl ?_;rw[c.out];exact⟨rfl,rfl⟩
 by_cases y:s.size<1+k+N
 ·have c:Hid (hd s false false=(false,0,0,2)):=za (by rw[b,zi y]);clear b;go_enter yq,yl
  go_wp2_with fail
  refine j.out.mono ?_;rintro e w' ⟨rfl,rfl⟩;go_wp2;refine zk (v:= .tuple #[.bool false,.int .i64 (0:Int),.int .i64 (0:Int),.int .i64 2]) (by simp[results,yf,go_sem]) rfl ?_;rw[c.out];exact⟨rfl,rfl⟩
 have c:Hid (hd s false false=(false,1+k,N,0)):=za (by rw[b,zh y]);have R:((N:Int)==1)=false:=by simp;omega
 clear b;go_enter yq,yl
 go_wp2_with fail
 refine j.out.mono ?_;rintro e w' ⟨rfl,rfl⟩;go_wp2;refine zk (v:= .tuple #[.bool false,.int .i64 ((1+k:Nat):Int),.int .i64 (N:Int),.int .i64 0]) (by simp[results,yf,go_sem]<;>omega) rfl ?_;rw[c.out];exact⟨rfl,rfl⟩
theorem ox (g d:Nat)(s:ByteArray)(p L most:Nat)(k:Int)(w:World)(h:jF w g s p L)(i:af w d 203 #[.pointer (some ⟨g,0,none⟩)])(D:p<=s.size)(C:s.size<=100000)(E:most<=65536):
 Calls prog 185 #[.int .i64 k,.int .i64 most,.pointer (some ⟨d,0,none⟩)] w fun e w'=>∃(n:Nat) (ok:Bool) (q:Nat),e= .returned (.tuple #[.agg #[.int .i64 k,.int .i64 n,.slice none 0 0,.int .i64 0],.bool ok])/\jF w' g s q L/\ae [g] w w'/\oR most s p n ok q:=by
 have J:w.cell? ⟨d,0,none⟩=some (.pointer (some ⟨g,0,none⟩)):=i.cell 0;have O:=i.lt;have I:g<w.heap.size:=af.lt (show af w g _ _ from h);have F:=za (IT g s p L most (w.alloc (.cells #[.int .i64 0,.int .i64 0,.slice none 0 0,.int .i64 0] 43)) (af.alloc (show af w g _ _ from h) _) D C E);clear h i;go_enter func185,ntmps185
 go_wp2_with fail
 refine F.out.mono ?_;rintro e u ⟨n,ok,q,rfl,l,j,y⟩;have b:=(af.new w 43 #[.int .i64 0,.int .i64 0,.slice none 0 0,.int .i64 0]).only j (by simp;omega);have A:=za l;have B:Hid (ae [g] w u):=za (((ae.refl [g] w).alloc _).trans j);have z:=za y;obtain⟨M,R,U,G,N,S,K,H⟩:=aU b;have hz:=((((b.set 0 (.int .i64 k)).set 1 (.int .i64 n)).set 2 (.slice none 0 0)).set 3 (.int .i64 0))
 have o:=(b.set 0 (.int .i64 k)).cell 0;have m:=((b.set 0 (.int .i64 k)).set 1 (.int .i64 n)).cell 1;have r:=(((b.set 0 (.int .i64 k)).set 1 (.int .i64 n)).set 2 (.slice none 0 0)).cell 2;have x:=hz.cell 3;simp at o m r x;clear l j y b hz;go_wp2;refine zk (v:= .tuple #[.agg #[.int .i64 k,.int .i64 n,.slice none 0 0,.int .i64 0],.bool ok]) (by simp[results,results185,go_sem,o,m,r,x]) rfl ?_;have c:g≠w.heap.size:=by omega
 refine⟨n,ok,q,rfl, ?_,(((B.out.setCell (by simp) _).setCell (by simp) _).setCell (by simp) _).setCell (by simp) _,z.out⟩;exact(((af.dK (show af u g _ _ from A.out) (p:=⟨w.heap.size,0,none⟩) c _).dK (p:=⟨w.heap.size,1,none⟩) c _).dK (p:=⟨w.heap.size,2,none⟩) c _).dK (p:=⟨w.heap.size,3,none⟩) c _
def kE (w:World)(g:Nat)(s:ByteArray)(f L p:Nat)(e:Ending)(w':World):Prop:=
 ∃(t:Ty) (ok:Bool) (q L':Nat) (k z ta:Int) (A:Option Addr) (n cap:Nat),e= .returned (.tuple #[.agg #[.int .i64 k,.int .i64 z,.slice A n cap,.int .i64 ta],.bool ok])/\jF w' g s q L'/\ae [g] w w'/\L'<=L/\tF f L s p t ok q L'/\(ok=true->fD w' (w.heap.size<= ·) t (.int .i64 k) (.int .i64 z) (.slice A n cap) (.int .i64 ta))
structure tj (w:World)(g:Nat)(s:ByteArray)(p L:Nat)(V:World):Prop where
 box:af V w.heap.size 203 #[.pointer (some ⟨g,0,none⟩)]
 res:af V (w.heap.size+1) 43 #[.int .i64 0,.int .i64 0,.slice none 0 0,.int .i64 0]
 rd:jF V g s p L
 only:ae [g] w V
 siz:w.heap.size+2<=V.heap.size
 glt:g<w.heap.size
theorem tj.start {w:World}{g:Nat}{s:ByteArray}{p L:Nat}(h:jF w g s p L):tj w g s p L ((w.alloc (.cells #[.pointer (some ⟨g,0,none⟩)] 203)).alloc (.cells #[.int .i64 0,.int .i64 0,.slice none 0 0,.int .i64 0] 43)) where
 box:=(af.new w _ _).alloc _
 res:=af.at_ (by simp)
 rd:=(af.alloc (show af w g _ _ from h) _).alloc _
 only:=((ae.refl _ w).alloc _).alloc _
 siz:=by simp
 glt:=af.lt (show af w g _ _ from h)
theorem tj.dE {w V V':World}{g:Nat}{s:ByteArray}{p p' L L':Nat}(h:tj w g s p L V)(b:ae [g] V V')(c:jF V' g s p' L'):tj w g s p' L' V' where
 box:=h.box.only b (by have:=h.glt;simp;omega)
 res:=h.res.only b (by have:=h.glt;simp;omega)
 rd:=c
 only:=h.only.trans b
 siz:=zF h.siz b.size
 glt:=h.glt
theorem tj.below {w V V':World}{g:Nat}{s:ByteArray}{p L:Nat}(h:tj w g s p L V)(b:Below V.heap.size V V'):tj w g s p L V':=h.dE ((ae.ah b (zd _)).mono (by simp)) ((b.block _ (af.lt (show af V g _ _ from h.rd))).trans h.rd)
theorem tj.ends {w V:World}{g:Nat}{s:ByteArray}{p L:Nat}(h:tj w g s p L V)(b c d e:Value):
 jF ((((V.setCell ⟨w.heap.size+1,0,none⟩ b).setCell ⟨w.heap.size+1,1,none⟩ c).setCell ⟨w.heap.size+1,2,none⟩ d).setCell ⟨w.heap.size+1,3,none⟩ e) g s p L/\ae [g] w ((((V.setCell ⟨w.heap.size+1,0,none⟩ b).setCell ⟨w.heap.size+1,1,none⟩ c).setCell ⟨w.heap.size+1,2,none⟩ d).setCell ⟨w.heap.size+1,3,none⟩ e)/\
 (V.setCell ⟨w.heap.size+1,0,none⟩ b).cell? ⟨w.heap.size+1,0,none⟩=some b/\((V.setCell ⟨w.heap.size+1,0,none⟩ b).setCell ⟨w.heap.size+1,1,none⟩ c).cell? ⟨w.heap.size+1,1,none⟩=some c/\(((V.setCell ⟨w.heap.size+1,0,none⟩ b).setCell ⟨w.heap.size+1,1,none⟩ c).setCell ⟨w.heap.size+1,2,none⟩ d).cell? ⟨w.heap.size+1,2,none⟩=some d/\((((V.setCell ⟨w.heap.size+1,0,none⟩ b).setCell ⟨w.heap.size+1,1,none⟩ c).setCell ⟨w.heap.size+1,2,none⟩ d).setCell ⟨w.heap.size+1,3,none⟩ e).cell? ⟨w.heap.size+1,3,none⟩=some e:=
 have n1:g≠w.heap.size+1:=by have:=h.glt;omega
 ⟨(((af.dK (show af V g _ _ from h.rd) (p:=⟨w.heap.size+1,0,none⟩) n1 _).dK (p:=⟨w.heap.size+1,1,none⟩) n1 _).dK (p:=⟨w.heap.size+1,2,none⟩) n1 _).dK (p:=⟨w.heap.size+1,3,none⟩) n1 _,(((h.only.setCell (by simp) _).setCell (by simp) _).setCell (by simp) _).setCell (by simp) _,by have:=(h.res.set 0 b).cell 0;simpa using this,by have:=((h.res.set 0 b).set 1 c).cell 1;simpa using this,by have:=(((h.res.set 0 b).set 1 c).set 2 d).cell 2;simpa using this,by have:=((((h.res.set 0 b).set 1 c).set 2 d).set 3 e).cell 3;simpa using this⟩
theorem tj.step {w W:World}{g:Nat}{s:ByteArray}{p L:Nat}(h:tj w g s p L W)(a b:Int)(n1 n2:Nat){p' L':Nat}(i:a=L')(c:b=p'):tj w g s p' L' ((((W.drewN n1).setCell ⟨g,2,none⟩ (.int .i64 a)).drewN n2).setCell ⟨g,1,none⟩ (.int .i64 b)):=by
 have e:jF (W.drewN n1) g s p L:=h.rd;have d:jF (((W.drewN n1).setCell ⟨g,2,none⟩ (.int .i64 a)).drewN n2) g s p L':=e.less i;exact h.dE (((((ae.refl [g] W).drewN n1).setCell (p:=⟨g,2,none⟩) (by simp) _).drewN n2).setCell (p:=⟨g,1,none⟩) (by simp) _) (d.to c)
theorem qK {s:ByteArray}{p:Nat}{c:UInt8}(d:p<s.size)(b:s[p].toNat=c.toNat):s.data.toList.drop p=c::s.data.toList.drop (p+1):=by
 rw[drop_cons s p d,zO.1 b]
theorem Qe {k:Int}{most f L:Nat}{s:ByteArray}{p n q:Nat}{ok:Bool}(o:0<L)(c:aJ (f+1) (s.data.toList.drop p)=tE k (cw (s.data.toList.drop (p+1))))(i:(∀e r,cw (s.data.toList.drop (p+1))=some (e,r)->most<e)->∀(L:Nat) (t:Ty) (r:List UInt8),tE k (cw (s.data.toList.drop (p+1)))=some (t,r)->eh L t)(h:oR most s (p+1) n ok q):tF (f+1) L s p (.mk k n [] 0) ok q (L-1):=by
 refine⟨fun b=> ?_,fun b j r d=> ?_,h.2.2.1⟩
 ·obtain⟨l,m,u⟩:=h.1 b;exact⟨by rw[c,l];rfl,by simp[Ty.count,bc];omega,by omega⟩
 rw[c]at d;exact i (h.2.1 b) L j r d
theorem Qf (f d:Nat)(hd:d<=8)(g:Nat)(s:ByteArray)(p L:Nat)(w:World)(h:jF w g s p L)(C:p<s.size)(B:s.size<=100000)(I:0<L)(Z:L<=64)(y:s[p].toNat=98):
 Calls prog 157 #[.pointer (some ⟨g,0,none⟩),.int .i64 d] w fun e w'=>kE w g s (f+1) L p e w':=by
 have z:Hid (aJ (f+1) (s.data.toList.drop p)=tE 2 (cw (s.data.toList.drop (p+1)))):=za (by rw[qK (c:=98) C y,Km]);have j:=za (tj.start h);generalize R:((w.alloc (.cells #[.pointer (some ⟨g,0,none⟩)] 203)).alloc (.cells #[.int .i64 0,.int .i64 0,.slice none 0 0,.int .i64 0] 43))=W at*;obtain⟨g0,g1,g2,f0,f1,f2,M⟩:=j.out.rd.cells;have Y:W.cell? ⟨w.heap.size,0,none⟩=some (.pointer (some ⟨g,0,none⟩)):=j.out.box.cell 0;have K:decide ((8:Int)<(d:Int))=false:=zu (by omega);have U:((L:Int)==0)=false:=zm.2 (by omega);have dp:((p:Int)==(s.size:Int))=false:=zm.2 (by omega);have S:IntKind.i64.wrap ((L:Int)-1)=(L:Int)-1:=zZ _ (by omega);clear h;go_enter xO,xE
 go_wp2_with fail
 go_quiet (fail)
 obtain⟨b,rfl⟩:∃b,b=nq:=⟨nq,rfl⟩
 go_wp2_with fail
 go_quiet (fail)
 have i:=za (j.out.step ((L:Int)-1) ((p:Int)+1) b nq (L':=L-1) (p':=p+1) (by omega) (by omega));go_wp2_with fail
 refine(ox g w.heap.size s (p+1) (L-1) 65536 2 _ i.out.rd i.out.box (by omega) B (by omega)).mono ?_;rintro e N ⟨n,ok,q,rfl,l,x,u⟩;have m:=za (i.out.dE x l);have k:=za u;clear l x u;obtain⟨O,n1,n2,X,m0,m1,m2,m3⟩:=aU m.out.res;obtain⟨r,o,E,A,F,H⟩:=m.out.ends (.int .i64 2) (.int .i64 n) (.slice none 0 0) (.int .i64 0);have D:=za r;have J:=za o;clear r o;go_wp2;refine zk (v:= .tuple #[.agg #[.int .i64 2,.int .i64 n,.slice none 0 0,.int .i64 0],.bool ok]) (by simp[results,yt,go_sem,E,A,F,H]) rfl ?_;exact⟨.mk 2 n [] 0,ok,q,L-1,_,_,_,_,_,_,rfl,D.out,J.out,by omega,Qe I z.out acb k.out,fun G=>fD.leaf (aA (by omega) (by omega)) (aA (by omega) (by have:=(k.out.1 G).2.1;omega)) (aA (by omega) (by omega))⟩
theorem Qg (f d:Nat)(hd:d<=8)(g:Nat)(s:ByteArray)(p L:Nat)(w:World)(h:jF w g s p L)(C:p<s.size)(B:s.size<=100000)(I:0<L)(Z:L<=64)(y:s[p].toNat=115):
 Calls prog 157 #[.pointer (some ⟨g,0,none⟩),.int .i64 d] w fun e w'=>kE w g s (f+1) L p e w':=by
 have z:Hid (aJ (f+1) (s.data.toList.drop p)=tE 3 (cw (s.data.toList.drop (p+1)))):=za (by rw[qK (c:=115) C y,Kn]);have j:=za (tj.start h);generalize R:((w.alloc (.cells #[.pointer (some ⟨g,0,none⟩)] 203)).alloc (.cells #[.int .i64 0,.int .i64 0,.slice none 0 0,.int .i64 0] 43))=W at*;obtain⟨g0,g1,g2,f0,f1,f2,M⟩:=j.out.rd.cells;have Y:W.cell? ⟨w.heap.size,0,none⟩=some (.pointer (some ⟨g,0,none⟩)):=j.out.box.cell 0;have K:decide ((8:Int)<(d:Int))=false:=zu (by omega);have U:((L:Int)==0)=false:=zm.2 (by omega);have dp:((p:Int)==(s.size:Int))=false:=zm.2 (by omega);have S:IntKind.i64.wrap ((L:Int)-1)=(L:Int)-1:=zZ _ (by omega);clear h;go_enter xO,xE
 go_wp2_with fail
 go_quiet (fail)
 obtain⟨b,rfl⟩:∃b,b=nq:=⟨nq,rfl⟩
 go_wp2_with fail
 go_quiet (fail)
 have i:=za (j.out.step ((L:Int)-1) ((p:Int)+1) b nq (L':=L-1) (p':=p+1) (by omega) (by omega));go_wp2_with fail
 refine(ox g w.heap.size s (p+1) (L-1) 65536 3 _ i.out.rd i.out.box (by omega) B (by omega)).mono ?_;rintro e N ⟨n,ok,q,rfl,l,x,u⟩;have m:=za (i.out.dE x l);have k:=za u;clear l x u;obtain⟨O,n1,n2,X,m0,m1,m2,m3⟩:=aU m.out.res;obtain⟨r,o,E,A,F,H⟩:=m.out.ends (.int .i64 3) (.int .i64 n) (.slice none 0 0) (.int .i64 0);have D:=za r;have J:=za o;clear r o;go_wp2;refine zk (v:= .tuple #[.agg #[.int .i64 3,.int .i64 n,.slice none 0 0,.int .i64 0],.bool ok]) (by simp[results,yt,go_sem,E,A,F,H]) rfl ?_;exact⟨.mk 3 n [] 0,ok,q,L-1,_,_,_,_,_,_,rfl,D.out,J.out,by omega,Qe I z.out acd k.out,fun G=>fD.leaf (aA (by omega) (by omega)) (aA (by omega) (by have:=(k.out.1 G).2.1;omega)) (aA (by omega) (by omega))⟩
theorem Nc (f d:Nat)(hd:d<=8)(g:Nat)(s:ByteArray)(p L:Nat)(w:World)(h:jF w g s p L)(x:p<s.size)(H:s.size<=100000)(Z:0<L)(N6:L<=64)(o:s[p].toNat≠117)(k:s[p].toNat≠98)(j:s[p].toNat≠115)(i:s[p].toNat≠91)(m:s[p].toNat≠123):
 Calls prog 157 #[.pointer (some ⟨g,0,none⟩),.int .i64 d] w fun e w'=>kE w g s (f+1) L p e w':=by
 have G:((s[p].toNat:Int)==117)=false:=zm.2 (by omega);have e2:((s[p].toNat:Int)==98)=false:=zm.2 (by omega);have S:((s[p].toNat:Int)==115)=false:=zm.2 (by omega);have K:((s[p].toNat:Int)==91)=false:=zm.2 (by omega);have M:((s[p].toNat:Int)==123)=false:=zm.2 (by omega);have q:Hid (aJ (f+1) (s.data.toList.drop p)=none):=za (by rw[drop_cons s p x];exact ER f _ _ o k j i m);clear o k j i m;have b:=za (tj.start h);generalize O:((w.alloc (.cells #[.pointer (some ⟨g,0,none⟩)] 203)).alloc (.cells #[.int .i64 0,.int .i64 0,.slice none 0 0,.int .i64 0] 43))=W at*;obtain⟨g0,g1,g2,f0,f1,f2,J⟩:=b.out.rd.cells;have Y:W.cell? ⟨w.heap.size,0,none⟩=some (.pointer (some ⟨g,0,none⟩)):=b.out.box.cell 0;have I:=b.out.glt;have E:decide ((8:Int)<(d:Int))=false:=zu (by omega);have U:((L:Int)==0)=false:=zm.2 (by omega);have dp:((p:Int)==(s.size:Int))=false:=zm.2 (by omega);have R:IntKind.i64.wrap ((L:Int)-1)=(L:Int)-1:=zZ _ (by omega);clear h;go_enter xO,xE
 go_wp2_with fail
 go_quiet (fail)
 obtain⟨c,rfl⟩:∃c,c=nq:=⟨nq,rfl⟩
 go_wp2_with fail
 go_quiet (fail)
 have B:=za (b.out.step ((L:Int)-1) ((p:Int)+1) c nq (L':=L-1) (p':=p+1) (by omega) (by omega));obtain⟨N,n1,n2,X,m0,m1,m2,m3⟩:=aU b.out.res;obtain⟨n,l,z,u,A,C⟩:=B.out.ends (.int .i64 0) (.int .i64 0) (.slice none 0 0) (.int .i64 0);have y:=za n;have D:=za l;clear n l;go_wp2;refine zk (v:= .tuple #[.agg #[.int .i64 0,.int .i64 0,.slice none 0 0,.int .i64 0],.bool false]) (by simp[results,yt,go_sem,z,u,A,C]) rfl ?_;exact⟨.mk 0 0 [] 0,false,p+1,L-1,_,_,_,_,_,_,rfl,y.out,D.out,by omega,⟨(by intro h;cases h),(by intro _ F r h;rw[q.out]at h;cases h),by omega⟩,(by intro h;cases h)⟩
theorem XC {f L:Nat}{s:ByteArray}{p n q:Nat}{ok:Bool}(m:0<L)(e:aJ (f+1) (s.data.toList.drop p)=AT (cw (s.data.toList.drop (p+1))))(h:oR 64 s (p+1) n ok q):tF (f+1) L s p (.mk 1 ((n/8:Nat):Int) [] 0) (ok&&decide (n%8=0)) q (L-1):=by
 refine⟨fun b=> ?_,fun b j r c=> ?_,h.2.2.1⟩
 ·simp only[zx,zY]at b;obtain⟨d,i,l⟩:=h.1 b.1;exact⟨by rw[e,d,AT,zi b.2],by simp[Ty.count,bc];omega,by omega⟩
 rw[e]at c;cases ok with
 |false=>exact aca (h.2.1 rfl) L j r c
 |true=>
  obtain⟨d,i,l⟩:=h.1 rfl;have k:¬n%8=0:=by simpa using b
  rw[d,AT,zh k]at c;cases c
theorem Qh (f d:Nat)(hd:d<=8)(g:Nat)(s:ByteArray)(p L:Nat)(w:World)(h:jF w g s p L)(K:p<s.size)(J:s.size<=100000)(O:0<L)(N6:L<=64)(H:s[p].toNat=117):
 Calls prog 157 #[.pointer (some ⟨g,0,none⟩),.int .i64 d] w fun e w'=>kE w g s (f+1) L p e w':=by
 have I:Hid (aJ (f+1) (s.data.toList.drop p)=AT (cw (s.data.toList.drop (p+1)))):=za (by rw[qK (c:=117) K H,Kl]);have C:=za (tj.start h);generalize Z:((w.alloc (.cells #[.pointer (some ⟨g,0,none⟩)] 203)).alloc (.cells #[.int .i64 0,.int .i64 0,.slice none 0 0,.int .i64 0] 43))=W at*;obtain⟨g0,g1,g2,f0,f1,f2,U⟩:=C.out.rd.cells;have b0:W.cell? ⟨w.heap.size,0,none⟩=some (.pointer (some ⟨g,0,none⟩)):=C.out.box.cell 0;have S:decide ((8:Int)<(d:Int))=false:=zu (by omega);have dL:((L:Int)==0)=false:=zm.2 (by omega);have dp:((p:Int)==(s.size:Int))=false:=zm.2 (by omega);have ew:IntKind.i64.wrap ((L:Int)-1)=(L:Int)-1:=zZ _ (by omega);clear h;go_enter xO,xE
 go_wp2_with fail
 go_quiet (fail)
 obtain⟨z,rfl⟩:∃z,z=nq:=⟨nq,rfl⟩
 go_wp2_with fail
 go_quiet (fail)
 have B:=za (C.out.step ((L:Int)-1) ((p:Int)+1) z nq (L':=L-1) (p':=p+1) (by omega) (by omega));go_wp2_with fail
 refine(ox g w.heap.size s (p+1) (L-1) 64 1 _ B.out.rd B.out.box (by omega) J (by omega)).mono ?_;rintro e N ⟨n,ok,q,rfl,D,G,x⟩;have u:=za (B.out.dE G D);have R:=za x;obtain⟨b,E⟩:∃b,n/8=b:=⟨_,rfl⟩
 have e8:(n:Int)/8=b:=by omega
 have o:=za (XC O I.out x);rw[E]at o;have Rn:b<=8:=by have:=x.2.2.2;omega
 clear D G x E;obtain⟨Y,n1,n2,n3,m0,m1,m2,m3⟩:=aU u.out.res;have X:=u.out.siz;have y:w.heap.size+1<N.heap.size:=by omega
 by_cases F:n%8=0
 ·have M:((n:Int)%8==0)=true:=yN.2 (by omega);rw[zE F,Zf]at o;cases ok with
  |true=>
   go_wp2;obtain⟨j,r,k,i,l,m⟩:=u.out.ends (.int .i64 1) (.int .i64 b) (.slice none 0 0) (.int .i64 0);refine zk (v:= .tuple #[.agg #[.int .i64 1,.int .i64 b,.slice none 0 0,.int .i64 0],.bool true]) (by simp[results,yt,go_sem,k,i,l,m,zz,y]) rfl ?_;exact⟨.mk 1 b [] 0,true,q,L-1,_,_,_,_,_,_,rfl,af.alloc (show af _ g _ _ from j) _,r.alloc _,by omega,o.out,fun A=>fD.leaf (aA (by omega) (by omega)) (aA (by omega) (by omega)) (aA (by omega) (by omega))⟩
  |false=>
   go_wp2;obtain⟨j,r,k,i,l,m⟩:=u.out.ends (.int .i64 1) (.int .i64 b) (.slice none 0 0) (.int .i64 0);refine zk (v:= .tuple #[.agg #[.int .i64 1,.int .i64 b,.slice none 0 0,.int .i64 0],.bool false]) (by simp[results,yt,go_sem,k,i,l,m,zz,y]) rfl ?_;exact⟨.mk 1 b [] 0,false,q,L-1,_,_,_,_,_,_,rfl,af.alloc (show af _ g _ _ from j) _,r.alloc _,by omega,o.out,fun A=>fD.leaf (aA (by omega) (by omega)) (aA (by omega) (by omega)) (aA (by omega) (by omega))⟩
 have M:((n:Int)%8==0)=false:=zm.2 (by omega);rw[zu F,Bool.and_false]at o;cases ok with
 |true=>
  go_wp2;obtain⟨j,r,k,i,l,m⟩:=u.out.ends (.int .i64 1) (.int .i64 b) (.slice none 0 0) (.int .i64 0);refine zk (v:= .tuple #[.agg #[.int .i64 1,.int .i64 b,.slice none 0 0,.int .i64 0],.bool false]) (by simp[results,yt,go_sem,k,i,l,m,zz,y]) rfl ?_;exact⟨.mk 1 b [] 0,false,q,L-1,_,_,_,_,_,_,rfl,af.alloc (show af _ g _ _ from j) _,r.alloc _,by omega,o.out,fun A=>fD.leaf (aA (by omega) (by omega)) (aA (by omega) (by omega)) (aA (by omega) (by omega))⟩
 |false=>
  go_wp2;obtain⟨j,r,k,i,l,m⟩:=u.out.ends (.int .i64 1) (.int .i64 b) (.slice none 0 0) (.int .i64 0);refine zk (v:= .tuple #[.agg #[.int .i64 1,.int .i64 b,.slice none 0 0,.int .i64 0],.bool false]) (by simp[results,yt,go_sem,k,i,l,m,zz,y]) rfl ?_;exact⟨.mk 1 b [] 0,false,q,L-1,_,_,_,_,_,_,rfl,af.alloc (show af _ g _ _ from j) _,r.alloc _,by omega,o.out,fun A=>fD.leaf (aA (by omega) (by omega)) (aA (by omega) (by omega)) (aA (by omega) (by omega))⟩
