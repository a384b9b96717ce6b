/- package registry: Config, Len, ByFrame, ByName. -/
import Derived.Test.YtpjgigllldipiaaGreatDoorKA24
import Derived.Test.YtpjgigllldipiaaGreatDoorKA31
set_option linter.all false
set_option maxRecDepth 100000
set_option maxHeartbeats 800000
namespace Go.Proofs.YtpjgigllldipiaaGreatDoor
open Go.RowKit
theorem KM (p hi g o q:Nat)(c:aS)(l:List bV)(w:World)(h:lS w p hi g o q c l):
 Calls Tryz.prog 29 #[.pointer (some ⟨g,0,none⟩)] w fun e w'=>e= .returned c.val/\Below w.heap.size w w':=by
 obtain⟨g0,g1,g2,g3,g4,g5⟩:=h.cfg;have r:g<w.heap.size:=yf h.g2 h.his;have b:=af.new w 24 #[.int .i64 c.fm,.int .u32 c.mg,.int .i64 c.fr,.int .i64 c.un,.int .i64 c.de,.int .i64 c.it];clear h;go_enter Tryz.func29,Tryz.ntmps29
 go_wp2;have j:=b.cell 0;have n:=b.cell 1;have m:=b.cell 2;have k:=b.cell 3;have i:=b.cell 4;have d:=b.cell 5;simp at j n m k i d;refine zp (v:=c.val) (by simp[aS.val,results,Tryz.results29,go_sem,j,n,m,k,i,d]) rfl ?_;exact⟨rfl,bM⟩
