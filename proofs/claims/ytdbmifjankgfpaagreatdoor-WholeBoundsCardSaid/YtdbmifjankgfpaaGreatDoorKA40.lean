/- package registry: Config, Len, ByFrame, ByName. -/
import Derived.Test.YtdbmifjankgfpaaGreatDoorKA25
import Derived.Test.YtdbmifjankgfpaaGreatDoorKA30
set_option linter.all false
set_option maxRecDepth 100000
set_option maxHeartbeats 800000
open Go.Proofs.Tryz
namespace Go.Proofs.YtdbmifjankgfpaaGreatDoor
open Go.RowKit
theorem Lb (q hi g o p:Nat)(c:aI)(l:List bZ)(w:World)(h:mr w q hi g o p c l):
 Calls prog 35 #[.pointer (some ⟨g,0,none⟩)] w fun e w'=>e= .returned c.val/\Below w.heap.size w w':=by
 obtain⟨g0,g1,g2,g3,g4,g5⟩:=h.cfg;have r:g<w.heap.size:=zU h.g2 h.his;have b:=af.new w 24 #[.int .i64 c.fm,.int .u32 c.mg,.int .i64 c.fr,.int .i64 c.un,.int .i64 c.de,.int .i64 c.it];clear h;go_enter func35,ntmps35
 go_wp2;have i:=b.cell 0;have d:=b.cell 1;have n:=b.cell 2;have m:=b.cell 3;have j:=b.cell 4;have k:=b.cell 5;simp at i d n m j k;refine zj (v:=c.val) (by simp[aI.val,results,results35,go_sem,i,d,n,m,j,k]) rfl ?_;exact⟨rfl,bT⟩
