/- hatchwaytop.cut: bytes in pieces. -/
import Derived.Test.YtdbmifjankgfpaaGreatDoorKA6
import Derived.Lib.MinMax
import Derived.WalkSpells
set_option linter.all false
set_option maxRecDepth 100000
set_option maxHeartbeats 3200000
namespace Go.Proofs.YtdbmifjankgfpaaGreatDoor
open Go.RowKit
theorem Gv (w:World)(y:ByteArray):(w.alloc (.cells #[.string y] 9)).cell? ⟨w.heap.size,0,none⟩=some (.string y):=(af.new w _ _).cell 0
theorem UD (b:ByteArray)(c:List Nat)(H:Value)(B:Nat)(w:World)(x:B6 w B H c)(L:B<=w.heap.size)(G:∀k∈c,k<256)(M:b.size<=1000000)(J:c.length<=1000):
 Calls Tryz.prog 15 #[.string b,H] w fun e w'=>∃I,e= .returned I/\vC w' w.heap.size I (KR b c)/\Below w.heap.size w w':=by
 obtain⟨Ak,n,cap,rfl,p,S2,jR⟩:=x.cH;have HK:=za x;have aa:=za G;have qV:n<=1000:=by rw[p.out];exact J
 have HB:=za L;have ab:=za M;clear x G J L M;go_enter Tryz.func15,Tryz.ntmps15
 go_wp2_with fail
 go_loopw [0,5,6] (fun Z W u wr=>∃(j:Nat) (r:ByteArray) (acc:List ByteArray),u= .int .i64 j/\j<=n/\Z= .string r/\Hid (r.size<=1000000)/\Hid (vC wr w.heap.size W acc)/\acc.length=j/\Hid (acc++KR r (c.drop j)=KR b c)/\Hid (Below w.heap.size w wr)) (fun _ _ u _=>n-(intOf u).toNat)
 case atStart=>exact⟨0,b,[],rfl,by omega,rfl,ab,za (vC.nil _ _),rfl,za rfl,za (zl _ _)⟩
 case round=>
  obtain⟨j,r,acc,rfl,hj,rfl,HR,m,As,F,o⟩:=hrel;obtain⟨K,N,E,rfl,af,ah,ai⟩:=m.out.cH;by_cases X:j<n
  ·have tR:(j:Int)<n:=by omega
   have y:j<c.length:=by rw[<-p.out];exact X
   obtain⟨gk,ok,rfl,ak,O⟩:=(HK.out.below (o.out.mono HB.out)).at_ y;have hq:=aa.out _ (zE y);have s:=y9 y;obtain⟨q,D⟩:∃q,c[j]=q:=⟨_,rfl⟩
   rw[D]at O hq s;have UH:=HR.out;obtain⟨k2,C⟩:∃k2,min q r.size=k2:=⟨_,rfl⟩
   have al:min (q:Int) (r.size:Int)=(k2:Int):=by omega
   have ag:(k2:Int)<=r.size:=by omega
   have U:Hid (acc++ [r.extract 0 k2]++KR (r.extract k2 r.size) (c.drop (j+1))=KR b c):=za (by
    rw[<-F.out,s,zB];show _=acc++(r.extract 0 (min q r.size)::KR (r.extract (min q r.size) r.size) (c.drop (j+1)))
    rw[C];rfl)
   have R:Hid ((r.extract k2 r.size).size<=1000000):=za (by rw[aq _ _ _ (zg _)];omega);clear D C s;have d:Hid (vC (wr.alloc (.cells #[.string (r.extract 0 k2)] 9)) w.heap.size (.slice K N E) acc):=za (m.out.below ((zl _ wr).alloc (zg _) _));have LS:=o.out.size;go_wp2_with (at_builtin;refine Hid.out ?_)
   refine za ?_;refine kq (by rfl) (.tmp 22) (.tmp 26) (by rfl) w.heap.size acc (by rfl) d.out (r.extract 0 k2) wr.heap.size (by rfl) (Gv wr (r.extract 0 k2)) (by omega) (by simp;omega) ?_;intro g' Y aj w' S l h ad;have z:=za l;have A:Hid (Below w.heap.size w w'):=za ((o.out.alloc (by omega) _).trans ((ae.dW h).below (by simp;omega) (fun i hi=>by have:=(d.out.ge i (cA.1 hi)).1;omega)));clear l h d m;go_wp2;go_roundw
   case rel=>exact⟨j+1,_,_,by go_num,by omega,rfl,R,z,by simp[As],U,A⟩
   case measure=>simp[intOf];omega
  have tR:¬(j:Int)<n:=by omega
  obtain rfl:j=n:=by omega
  have Eo:Hid (acc++ [r]=KR b c):=za (by
   rw[<-F.out,zI (by rw[<-p.out];exact zg _)];rfl)
  have d:Hid (vC (wr.alloc (.cells #[.string (r)] 9)) w.heap.size (.slice K N E) acc):=za (m.out.below ((zl _ wr).alloc (zg _) _));have LS:=o.out.size;go_wp2_with (at_builtin;refine Hid.out ?_)
  refine za ?_;refine kq (by rfl) (.tmp 31) (.tmp 33) (by rfl) w.heap.size acc (by rfl) d.out (r) wr.heap.size (by rfl) (Gv wr (r)) (by omega) (by simp;omega) ?_;intro g' Y aj w' S l h ad;have z:=za l;have A:Hid (Below w.heap.size w w'):=za ((o.out.alloc (by omega) _).trans ((ae.dW h).below (by simp;omega) (fun i hi=>by have:=(d.out.ge i (cA.1 hi)).1;omega)));clear l h d m;go_wp2;go_ret;exact⟨_,rfl,by rw[<-Eo.out];exact z.out,A.out⟩
