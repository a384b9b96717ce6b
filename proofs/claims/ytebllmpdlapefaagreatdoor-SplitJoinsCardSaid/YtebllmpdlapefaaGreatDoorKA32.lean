/- What the formats tell of bytes: their closures, by any meter or none. -/
/- wire.Next, by any meter or none. -/
/- wire.Put. -/
/- The example of wire. -/
/- The document's wire: Next. -/
/- The document's wire: Put. -/
import Derived.Test.YtebllmpdlapefaaGreatDoorKA7
import Derived.Test.YtebllmpdlapefaaGreatDoorKA1
import Derived.Test.YtebllmpdlapefaaGreatDoorKCoinN
import Derived.Test.YtebllmpdlapefaaGreatDoorKA31
import Derived.Test.YtebllmpdlapefaaGreatDoorKA6
import Derived.Deep.RegionHeld3
import Derived.Deep.DeepCutAuto
import Derived.Test.YtebllmpdlapefaaGreatDoorKA21
import Derived.Test.YtebllmpdlapefaaGreatDoorKA33
import Derived.Laws.Rows
namespace Go.Proofs.YtebllmpdlapefaaGreatDoor
set_option linter.unusedVariables false
set_option linter.unusedSimpArgs false
open Go.RowKit

/-- The meter, if there is one: how much was taken, how much may be taken still. -/
def Met (w : World) : Option Nat → Nat → Nat → Prop
  | none, _, _ => True
  | some g, t, R => ∃ a u p, Mtr w g a u t p ∧ a ≤ 9223372036854775807 ∧ u + R ≤ a ∧ t + R ≤ 9223372036854775807
def mvOf : Option Nat → Value
  | none => .pointer none
  | some g => .pointer (some ⟨g, 0, none⟩)
theorem Met.only {L : List Nat} {w w' : World} {mo : Option Nat} {t R : Nat} (h : Met w mo t R) (ho : Only L w w') (hn : ∀ g, mo = some g → g ∉ L) : Met w' mo t R := by
  cases mo with
  | none => trivial
  | some g =>
    obtain ⟨a, u, p, h1, h2⟩ := h
    exact ⟨a, u, p, h1.only ho (hn g rfl), h2⟩
theorem Met.lt {w : World} {mo : Option Nat} {t R : Nat} (h : Met w mo t R) : ∀ g, mo = some g → g < w.heap.size := by
  rintro g rfl
  obtain ⟨a, u, p, h1, _⟩ := h
  exact h1.lt
theorem Met.less {w : World} {mo : Option Nat} {t R R' : Nat} (h : Met w mo t R) (hR : R' ≤ R) : Met w mo t R' := by
  cases mo with
  | none => trivial
  | some g =>
    obtain ⟨a, u, p, h1, h2, h3, h4⟩ := h
    exact ⟨a, u, p, h1, h2, by omega, by omega⟩
/-- Since W0 nothing of old has turned but the meter, which stands so. -/
structure MS (mo : Option Nat) (t R : Nat) (W0 V : World) : Prop where
  only : Only mo.toList W0 V
  met : Met V mo t R
theorem MS.refl {mo : Option Nat} {t R : Nat} {w : World} (h : Met w mo t R) : MS mo t R w w := ⟨Only.refl _ _, h⟩
theorem MS.below {mo : Option Nat} {t R : Nat} {W0 V V' : World} (h : MS mo t R W0 V) (hb : Below V.heap.size V V') : MS mo t R W0 V' :=
  ⟨h.only.trans' (Only.of_below hb (Nat.le_refl _)) (by simp), h.met.only (Only.of_below hb (Nat.le_refl _)) (by simp)⟩
theorem MS.alloc {mo : Option Nat} {t R : Nat} {W0 V : World} (h : MS mo t R W0 V) (o : Obj) : MS mo t R W0 (V.alloc o) := h.below ((Below.refl _ _).alloc (Nat.le_refl _) _)
theorem MS.drew {mo : Option Nat} {t R : Nat} {W0 V : World} (h : MS mo t R W0 V) : MS mo t R W0 V.drew := h.below (Below.refl _ _).drew
theorem MS.blk {mo : Option Nat} {t R : Nat} {W0 V : World} (h : MS mo t R W0 V) {g : Nat} {ty : TypeId} {cs : Array Value} (hB : Blk W0 g ty cs) (hg : ∀ k, mo = some k → k < g) : Blk V g ty cs :=
  hB.only h.only (by
    intro hm
    cases mo with
    | none => simp at hm
    | some k => have := hg k rfl; simp at hm; omega)
theorem MS.from {mo : Option Nat} {t R : Nat} {w W0 V : World} (h : MS mo t R W0 V) (ho : Only mo.toList w W0) : MS mo t R w V := ⟨ho.trans h.only, h.met⟩
theorem MS.size {mo : Option Nat} {t R : Nat} {W0 V : World} (h : MS mo t R W0 V) : W0.heap.size ≤ V.heap.size := h.only.size
theorem MS.put {mo : Option Nat} {t R : Nat} {w V : World} (h : MS mo t R w V) {b o : Nat} (hb : w.heap.size ≤ b) (hg : ∀ k, mo = some k → k < b) (v : Value) : MS mo t R w (V.setCell ⟨b, o, none⟩ v) := by
  refine ⟨h.only.setCell (.inr (by simpa using hb)) _, ?_⟩
  have := h.met
  cases mo with
  | none => trivial
  | some g =>
    obtain ⟨a, u, p, h1, h2⟩ := this
    exact ⟨a, u, p, h1.far (by have := hg g rfl; simp; omega) _, h2⟩
theorem MS.put3 {mo : Option Nat} {t R : Nat} {w V : World} (h : MS mo t R w V) {b : Nat} (hb : w.heap.size ≤ b) (hg : ∀ k, mo = some k → k < b) (v0 v1 v2 : Value) : MS mo t R w (((V.setCell ⟨b, 0, none⟩ v0).setCell ⟨b, 1, none⟩ v1).setCell ⟨b, 2, none⟩ v2) := ((h.put hb hg _).put hb hg _).put hb hg _
theorem MS.to_below {t R : Nat} {w V : World} (h : MS none t R w V) : Below w.heap.size w V := h.only.below (Nat.le_refl _) (by simp)
theorem two_new {w W0 : World} {t1 t2 : TypeId} {a b : Array Value} (h : (w.alloc (.cells a t1)).alloc (.cells b t2) = W0) : W0.heap.size = w.heap.size + 2 ∧ Below w.heap.size w W0 ∧ Blk W0 w.heap.size t1 a ∧ Blk W0 (w.heap.size + 1) t2 b := by
  subst h
  refine ⟨by simp, (by repeat (first | exact Below.refl _ _ | assumption | with_reducible refine Below.drewN' ?_ _ | with_reducible refine Below.drew ?_ | ((with_reducible refine Below.alloc' ?_ ?_ _); · (first | omega | (simp <;> omega))))), (Blk.new w _ _).alloc _, ?_⟩
  have := Blk.new (w.alloc (.cells a t1)) t2 b
  rwa [World.size_alloc] at this
def wRet (x : Int × Fr × Nat × Nat) : Value := .tuple #[x.2.1.val, .int .i64 x.2.2.1, .int .i64 x.1]
set_option maxRecDepth 100000 in
set_option maxHeartbeats 1000000 in
theorem wNextC_c (c : Cfg) (mo : Option Nat) (t R : Nat) (s : ByteArray) (hc : c.ok) (h1 : c.fm = 1) (hf : c.fr ≤ 65536) (hs : s.size ≤ 1099511627776) (W w : World) (hM : MS mo t R W w) :
    Calls Tryz.prog 66 #[c.val, mvOf mo, .string s] w fun e w' => e = .returned (wRet (wRaw c s)) ∧ MS mo (t + (wRaw c s).2.2.2) (R - (wRaw c s).2.2.2) W w' := by
  have hX : wRaw c s = ((cnNext c.mg c.fr s).1, ⟨0, (cnNext c.mg c.fr s).2.1, (cnNext c.mg c.fr s).2.2.1⟩, (cnNext c.mg c.fr s).2.2.2, 0) := by unfold wRaw; rw [if_pos h1]
  have HC : Hid (∀ W0 V, MS mo t R W0 V → Calls Tryz.prog 67 #[.int .u32 c.mg, .int .i64 c.fr, .string s] V fun e w' => e = .returned (.tuple #[.agg #[.int .u64 (wRaw c s).2.1.id, .string (wRaw c s).2.1.nm, .string (wRaw c s).2.1.body], .int .i64 (wRaw c s).2.2.1, .int .i64 (wRaw c s).1]) ∧ MS mo (t + (wRaw c s).2.2.2) (R - (wRaw c s).2.2.2) W0 w') := Lib.hid (fun W0 V hV =>
    (coinNext_c c.mg c.fr s V hc.mg hs hc.fr (.inr (by omega))).mono fun e w' ⟨h1, h2⟩ => by rw [hX]; exact ⟨h1, hV.below h2⟩)
  obtain ⟨W0, hW0⟩ : ∃ W0, (w.alloc (.cells #[.int .i64 c.fm, .int .u32 c.mg, .int .i64 c.fr, .int .i64 c.un, .int .i64 c.de, .int .i64 c.it] 24)).alloc (.cells #[.int .u64 0, .string ⟨#[]⟩, .string ⟨#[]⟩] 27) = W0 := ⟨_, rfl⟩
  have hN := two_new hW0
  have HO : Hid (Only mo.toList W W0) := Lib.hid (hM.only.trans ((Only.of_below hN.2.1 (Nat.le_refl _)).mono (by simp)))
  have HB : Hid (Blk W0 (w.heap.size + 1) 27 #[.int .u64 0, .string ⟨#[]⟩, .string ⟨#[]⟩]) := Lib.hid hN.2.2.2
  have HM : Hid (MS mo t R W0 W0) := Lib.hid (MS.refl (hM.met.only (Only.of_below hN.2.1 (Nat.le_refl _)) (by simp)))
  have HG : Hid (∀ k, mo = some k → k < w.heap.size + 1) := Lib.hid (fun k hk => by have := hM.met.lt k hk; omega)
  have HL : Hid (W.heap.size ≤ w.heap.size + 1) := Lib.hid (by have := hM.size; omega)
  have HW0 := Lib.hid hW0
  have HX := Lib.hid hX
  clear hW0 hN hM hX h1
  unfold Cfg.val
  generalize mvOf mo = mv at *
  obtain ⟨X, hXX⟩ : ∃ X, wRaw c s = X := ⟨_, rfl⟩
  rw [hXX] at HX HC ⊢
  clear hXX
  obtain ⟨y5, ⟨y1, y2, y3⟩, y4, m⟩ := X
  simp only at HC HX
  go_enter Tryz.func66, Tryz.ntmps66
  go_wp2_with fail
  rw [HW0.out]
  refine (HC.out _ _ HM.out).mono ?_
  rintro e w1 ⟨rfl, hb⟩
  have HB1 := Lib.hid (hb.blk HB.out HG.out)
  have HZ := Lib.hid (hb.from HO.out)
  clear hb
  obtain ⟨g0, g1, g2, f0, f1, f2⟩ := blk3 HB1.out
  go_wp2
  refine bodyPost_ret (v := .tuple #[.agg #[.int .u64 y1, .string y2, .string y3], .int .i64 y4, .int .i64 y5]) (by simp [results, Tryz.results66, go_sem, set3_at HB1.out]) rfl ?_
  exact ⟨rfl, HZ.out.put3 HL.out HG.out _ _ _⟩
set_option maxRecDepth 100000 in
set_option maxHeartbeats 1000000 in
theorem wNextP_c (c : Cfg) (mo : Option Nat) (t R : Nat) (s : ByteArray) (hc : c.ok) (h1 : c.fm = 2) (hf : c.fr ≤ 65536) (hs : s.size ≤ 1099511627776) (W w : World) (hM : MS mo t R W w) :
    Calls Tryz.prog 71 #[c.val, mvOf mo, .string s] w fun e w' => e = .returned (wRet (wRaw c s)) ∧ MS mo (t + (wRaw c s).2.2.2) (R - (wRaw c s).2.2.2) W w' := by
  have hX : wRaw c s = ((plNext c.fr s).1, ⟨(plNext c.fr s).2.1, ByteArray.empty, (plNext c.fr s).2.2.1⟩, (plNext c.fr s).2.2.2, 0) := by unfold wRaw; rw [if_neg (by omega), if_pos h1]
  have HC : Hid (∀ W0 V, MS mo t R W0 V → Calls Tryz.prog 72 #[.int .i64 c.fr, .string s] V fun e w' => e = .returned (.tuple #[.agg #[.int .u64 (wRaw c s).2.1.id, .string (wRaw c s).2.1.nm, .string (wRaw c s).2.1.body], .int .i64 (wRaw c s).2.2.1, .int .i64 (wRaw c s).1]) ∧ MS mo (t + (wRaw c s).2.2.2) (R - (wRaw c s).2.2.2) W0 w') := Lib.hid (fun W0 V hV =>
    (plainNext_c c.fr s V (by omega) hc.fr.1 hc.fr.2).mono fun e w' ⟨h1, h2⟩ => by rw [hX]; exact ⟨h1, hV.below h2⟩)
  obtain ⟨W0, hW0⟩ : ∃ W0, (w.alloc (.cells #[.int .i64 c.fm, .int .u32 c.mg, .int .i64 c.fr, .int .i64 c.un, .int .i64 c.de, .int .i64 c.it] 24)).alloc (.cells #[.int .u64 0, .string ⟨#[]⟩, .string ⟨#[]⟩] 27) = W0 := ⟨_, rfl⟩
  have hN := two_new hW0
  have HO : Hid (Only mo.toList W W0) := Lib.hid (hM.only.trans ((Only.of_below hN.2.1 (Nat.le_refl _)).mono (by simp)))
  have HB : Hid (Blk W0 (w.heap.size + 1) 27 #[.int .u64 0, .string ⟨#[]⟩, .string ⟨#[]⟩]) := Lib.hid hN.2.2.2
  have HM : Hid (MS mo t R W0 W0) := Lib.hid (MS.refl (hM.met.only (Only.of_below hN.2.1 (Nat.le_refl _)) (by simp)))
  have HG : Hid (∀ k, mo = some k → k < w.heap.size + 1) := Lib.hid (fun k hk => by have := hM.met.lt k hk; omega)
  have HL : Hid (W.heap.size ≤ w.heap.size + 1) := Lib.hid (by have := hM.size; omega)
  have HW0 := Lib.hid hW0
  have HX := Lib.hid hX
  clear hW0 hN hM hX h1
  unfold Cfg.val
  generalize mvOf mo = mv at *
  obtain ⟨X, hXX⟩ : ∃ X, wRaw c s = X := ⟨_, rfl⟩
  rw [hXX] at HX HC ⊢
  clear hXX
  obtain ⟨y5, ⟨y1, y2, y3⟩, y4, m⟩ := X
  simp only at HC HX
  go_enter Tryz.func71, Tryz.ntmps71
  go_wp2_with fail
  rw [HW0.out]
  refine (HC.out _ _ HM.out).mono ?_
  rintro e w1 ⟨rfl, hb⟩
  have HB1 := Lib.hid (hb.blk HB.out HG.out)
  have HZ := Lib.hid (hb.from HO.out)
  clear hb
  obtain ⟨g0, g1, g2, f0, f1, f2⟩ := blk3 HB1.out
  go_wp2
  refine bodyPost_ret (v := .tuple #[.agg #[.int .u64 y1, .string y2, .string y3], .int .i64 y4, .int .i64 y5]) (by simp [results, Tryz.results71, go_sem, set3_at HB1.out]) rfl ?_
  exact ⟨rfl, HZ.out.put3 HL.out HG.out _ _ _⟩
set_option maxRecDepth 100000 in
set_option maxHeartbeats 1000000 in
theorem wNextK_c (c : Cfg) (mo : Option Nat) (t R : Nat) (s : ByteArray) (hc : c.ok) (h1 : c.fm = 3) (hf : c.fr ≤ 65536) (hu : c.un ≤ 65536) (hR : 70000 ≤ R) (hs : s.size ≤ 1099511627776) (W w : World) (hM : MS mo t R W w) :
    Calls Tryz.prog 76 #[c.val, mvOf mo, .string s] w fun e w' => e = .returned (wRet (wRaw c s)) ∧ MS mo (t + (wRaw c s).2.2.2) (R - (wRaw c s).2.2.2) W w' := by
  have hX : wRaw c s = ((pkNext c.fr c.un s).1, ⟨(pkNext c.fr c.un s).2.1, ByteArray.empty, (pkNext c.fr c.un s).2.2.1⟩, (pkNext c.fr c.un s).2.2.2.1, (pkNext c.fr c.un s).2.2.2.2) := by unfold wRaw; rw [if_neg (by omega), if_neg (by omega)]
  have HC : Hid (∀ W0 V, MS mo t R W0 V → Calls Tryz.prog 77 #[.int .i64 c.fr, .int .i64 c.un, mvOf mo, .string s] V fun e w' => e = .returned (.tuple #[.agg #[.int .u64 (wRaw c s).2.1.id, .string (wRaw c s).2.1.nm, .string (wRaw c s).2.1.body], .int .i64 (wRaw c s).2.2.1, .int .i64 (wRaw c s).1]) ∧ MS mo (t + (wRaw c s).2.2.2) (R - (wRaw c s).2.2.2) W0 w') := Lib.hid (fun W0 V hV => by
    rw [hX]
    cases mo with
    | none => exact (packedNext_nil c.fr c.un s V (by omega) hc.fr.1 hc.fr.2).mono fun e w' ⟨h1, h2⟩ => ⟨h1, ⟨hV.only.trans' (Only.of_below h2 (Nat.le_refl _)) (by simp), trivial⟩⟩
    | some g =>
      obtain ⟨a, u, p, k1, k2, k3, k4⟩ := hV.met
      have hm := pkNext_met c.fr c.un s
      exact (packedNext_met c.fr c.un g a u t p s V (by omega) hc.fr.1 hc.fr.2 k1 k2 (by omega) (by omega) (by omega)).mono fun e w' ⟨h1, ⟨q, h2⟩, h3⟩ => ⟨h1, ⟨hV.only.trans h3, ⟨a, _, q, h2, k2, by simp only; omega, by simp only; omega⟩⟩⟩)
  obtain ⟨W0, hW0⟩ : ∃ W0, (w.alloc (.cells #[.int .i64 c.fm, .int .u32 c.mg, .int .i64 c.fr, .int .i64 c.un, .int .i64 c.de, .int .i64 c.it] 24)).alloc (.cells #[.int .u64 0, .string ⟨#[]⟩, .string ⟨#[]⟩] 27) = W0 := ⟨_, rfl⟩
  have hN := two_new hW0
  have HO : Hid (Only mo.toList W W0) := Lib.hid (hM.only.trans ((Only.of_below hN.2.1 (Nat.le_refl _)).mono (by simp)))
  have HB : Hid (Blk W0 (w.heap.size + 1) 27 #[.int .u64 0, .string ⟨#[]⟩, .string ⟨#[]⟩]) := Lib.hid hN.2.2.2
  have HM : Hid (MS mo t R W0 W0) := Lib.hid (MS.refl (hM.met.only (Only.of_below hN.2.1 (Nat.le_refl _)) (by simp)))
  have HG : Hid (∀ k, mo = some k → k < w.heap.size + 1) := Lib.hid (fun k hk => by have := hM.met.lt k hk; omega)
  have HL : Hid (W.heap.size ≤ w.heap.size + 1) := Lib.hid (by have := hM.size; omega)
  have HW0 := Lib.hid hW0
  have HX := Lib.hid hX
  clear hW0 hN hM hX h1
  unfold Cfg.val
  generalize mvOf mo = mv at *
  obtain ⟨X, hXX⟩ : ∃ X, wRaw c s = X := ⟨_, rfl⟩
  rw [hXX] at HX HC ⊢
  clear hXX
  obtain ⟨y5, ⟨y1, y2, y3⟩, y4, m⟩ := X
  simp only at HC HX
  go_enter Tryz.func76, Tryz.ntmps76
  go_wp2_with fail
  rw [HW0.out]
  refine (HC.out _ _ HM.out).mono ?_
  rintro e w1 ⟨rfl, hb⟩
  have HB1 := Lib.hid (hb.blk HB.out HG.out)
  have HZ := Lib.hid (hb.from HO.out)
  clear hb
  obtain ⟨g0, g1, g2, f0, f1, f2⟩ := blk3 HB1.out
  go_wp2
  refine bodyPost_ret (v := .tuple #[.agg #[.int .u64 y1, .string y2, .string y3], .int .i64 y4, .int .i64 y5]) (by simp [results, Tryz.results76, go_sem, set3_at HB1.out]) rfl ?_
  exact ⟨rfl, HZ.out.put3 HL.out HG.out _ _ _⟩
end Go.Proofs.YtebllmpdlapefaaGreatDoor
namespace Go.Proofs.YtebllmpdlapefaaGreatDoor
set_option linter.unusedVariables false
set_option linter.unusedSimpArgs false
open Go.RowKit

theorem Blk.ms {mo : Option Nat} {t R : Nat} {V V' : World} {g : Nat} {ty : TypeId} {cs : Array Value} (h : Blk V g ty cs) (hM : MS mo t R V V') (hg : ∀ k, mo = some k → k < g) : Blk V' g ty cs := hM.blk h hg
theorem Met.below {w w' : World} {mo : Option Nat} {t R : Nat} (h : Met w mo t R) (hb : Below w.heap.size w w') : Met w' mo t R := h.only (Only.of_below hb (Nat.le_refl _)) (by simp)
set_option maxRecDepth 100000 in
set_option maxHeartbeats 4000000 in
theorem wNx1_c (c : Cfg) (mo : Option Nat) (t R : Nat) (s : ByteArray) (hc : c.ok) (h1 : c.fm = 1) (hr : c.right = true) (hR : 70000 ≤ R) (hs : s.size ≤ 1099511627776) (W w : World) (hM : MS mo t R W w) :
    Calls Tryz.prog 21 #[c.val, mvOf mo, .string s] w fun e w' => e = .returned (wRet (wNext c s)) ∧ MS mo (t + (wNext c s).2.2.2) (R - (wNext c s).2.2.2) W w' := by
  have hRi := (c.right_iff).1 hr
  have HN := Lib.hid (wNextC_c c mo t R s hc h1 (by omega) hs)
  clear hRi hc hR
  have hI := fm_at1
  have hFd := fm_fld1_2
  unfold fmV fm1 fnV at hI
  unfold fm1 fnV at hFd
  have HR := Lib.hid (fun w => right_c c w)
  rw [hr] at HR
  have HRN := Lib.hid (wNext_right hr s)
  rw [HRN.out]
  clear HRN
  have HER := Lib.hid (wRaw_err c s)
  unfold Cfg.val at *
  obtain ⟨X, hXX⟩ : ∃ X, wRaw c s = X := ⟨_, rfl⟩
  rw [hXX] at HN HER ⊢
  clear hXX
  obtain ⟨y5, ⟨y1, y2, y3⟩, y4, m⟩ := X
  simp only at HN HER
  obtain ⟨fm, mg, fr, un, de, it⟩ := c
  simp only at h1
  subst h1
  simp only at *
  generalize mvOf mo = mv at *
  obtain ⟨W0, hW0⟩ : ∃ W0, (w.alloc (.cells #[.int .i64 1, .int .u32 mg, .int .i64 fr, .int .i64 un, .int .i64 de, .int .i64 it] 24)).alloc (.cells #[.int .u64 0, .string ⟨#[]⟩, .string ⟨#[]⟩] 27) = W0 := ⟨_, rfl⟩
  have hN := two_new hW0
  have HO : Hid (Only mo.toList W W0) := Lib.hid (hM.only.trans ((Only.of_below hN.2.1 (Nat.le_refl _)).mono (by simp)))
  have HB : Hid (Blk W0 (w.heap.size + 1) 27 #[.int .u64 0, .string ⟨#[]⟩, .string ⟨#[]⟩]) := Lib.hid hN.2.2.2
  have HM : Hid (Met W0 mo t R) := Lib.hid (hM.met.only (Only.of_below hN.2.1 (Nat.le_refl _)) (by simp))
  have HG : Hid (∀ k, mo = some k → k < w.heap.size) := Lib.hid (hM.met.lt)
  have HL : Hid (W.heap.size ≤ w.heap.size ∧ W0.heap.size = w.heap.size + 2) := Lib.hid ⟨hM.size, hN.1⟩
  have HKV : Hid (∀ V t R, MS mo t R W0 V → V.cell? ⟨w.heap.size, 0, none⟩ = some (.int .i64 1) ∧ V.cell? ⟨w.heap.size, 1, none⟩ = some (.int .u32 mg) ∧ V.cell? ⟨w.heap.size, 2, none⟩ = some (.int .i64 fr) ∧ V.cell? ⟨w.heap.size, 3, none⟩ = some (.int .i64 un) ∧ V.cell? ⟨w.heap.size, 4, none⟩ = some (.int .i64 de) ∧ V.cell? ⟨w.heap.size, 5, none⟩ = some (.int .i64 it)) := Lib.hid (fun V t R hV => by
    have hB := hV.blk hN.2.2.1 HG.out
    exact ⟨hB.cell 0, hB.cell 1, hB.cell 2, hB.cell 3, hB.cell 4, hB.cell 5⟩)
  have HW0 := Lib.hid hW0
  clear hW0 hN hM
  go_enter Tryz.func21, Tryz.ntmps21
  go_wp2_with fail
  rw [HW0.out]
  refine (HR.out _).mono ?_
  rintro e w1 ⟨rfl, hb1⟩
  have HM1 : Hid (MS mo t R W0 w1) := Lib.hid ((MS.refl HM.out).below hb1)
  clear hb1
  obtain ⟨q0, q1, q2, q3, q4, q5⟩ := HKV.out w1 _ _ HM1.out
  have HZ1 := Lib.hid HM1.out.size
  have HAL : Hid (∀ V, MS mo t R W0 V → ∀ k, mo = some k → k < V.heap.size) := Lib.hid (fun V hV => hV.met.lt)
  have HFa : Hid (Calls Tryz.prog 45 #[] (w1.alloc (.cells #[.int .u64 0, .string ⟨#[]⟩, .string ⟨#[]⟩] 27)).drew fun e w' => e = .returned fmV ∧ MS mo t R W0 w' ∧ Blk w' w1.heap.size 27 #[.int .u64 0, .string ⟨#[]⟩, .string ⟨#[]⟩]) := Lib.hid ((formats_c _).mono fun e w' ⟨h1, h2⟩ => ⟨h1, ((HM1.out.alloc _).drew).below h2, (Blk.new w1 _ _).drew.keep h2 (by simp)⟩)
  have HF0 : Hid (Calls Tryz.prog 45 #[] w1.drew fun e w' => e = .returned fmV ∧ MS mo t R W0 w') := Lib.hid ((formats_c _).mono fun e w' ⟨h1, h2⟩ => ⟨h1, HM1.out.drew.below h2⟩)
  have HNB : Hid (∀ V, MS mo t R W0 V → Calls Tryz.prog 66 #[.agg #[.int .i64 1, .int .u32 mg, .int .i64 fr, .int .i64 un, .int .i64 de, .int .i64 it], mv, .string s] (V.alloc (.cells #[.int .u64 0, .string ⟨#[]⟩, .string ⟨#[]⟩] 27)) fun e w' => e = .returned (.tuple #[.agg #[.int .u64 y1, .string y2, .string y3], .int .i64 y4, .int .i64 y5]) ∧ MS mo (t + m) (R - m) W0 w' ∧ Blk w' V.heap.size 27 #[.int .u64 0, .string ⟨#[]⟩, .string ⟨#[]⟩]) := Lib.hid (fun V hV =>
    (HN.out _ _ (MS.refl (hV.alloc _).met)).mono fun e w' ⟨h1, h2⟩ => ⟨h1, h2.from (hV.alloc _).only, (Blk.new V _ _).ms h2 (HAL.out V hV)⟩)
  have HNA : Hid (∀ V, MS mo t R W0 V → Blk V w1.heap.size 27 #[.int .u64 0, .string ⟨#[]⟩, .string ⟨#[]⟩] → Calls Tryz.prog 66 #[.agg #[.int .i64 1, .int .u32 mg, .int .i64 fr, .int .i64 un, .int .i64 de, .int .i64 it], mv, .string s] V fun e w' => e = .returned (.tuple #[.agg #[.int .u64 y1, .string y2, .string y3], .int .i64 y4, .int .i64 y5]) ∧ MS mo (t + m) (R - m) W0 w' ∧ Blk w' w1.heap.size 27 #[.int .u64 0, .string ⟨#[]⟩, .string ⟨#[]⟩]) := Lib.hid (fun V hV hB =>
    (HN.out _ _ (MS.refl hV.met)).mono fun e w' ⟨h1, h2⟩ => ⟨h1, h2.from hV.only, hB.ms h2 (HAL.out w1 HM1.out)⟩)
  have HN0 : Hid (∀ V, MS mo t R W0 V → Calls Tryz.prog 66 #[.agg #[.int .i64 1, .int .u32 mg, .int .i64 fr, .int .i64 un, .int .i64 de, .int .i64 it], mv, .string s] V fun e w' => e = .returned (.tuple #[.agg #[.int .u64 y1, .string y2, .string y3], .int .i64 y4, .int .i64 y5]) ∧ MS mo (t + m) (R - m) W0 w') := Lib.hid (fun V hV =>
    (HN.out _ _ (MS.refl hV.met)).mono fun e w' ⟨h1, h2⟩ => ⟨h1, h2.from hV.only⟩)
  unfold fmV fnV at HFa HF0
  clear HN HR
  go_upto_region 3 with fail
  go_cut [9, 10, 11] (fun v n er wx => ∃ b9 : Nat, v = .pointer (some ⟨b9, 0, none⟩) ∧ n = .int .i64 y4 ∧ er = .int .i64 y5 ∧ Hid (W0.heap.size ≤ b9) ∧ Hid (Blk wx b9 27 #[.int .u64 y1, .string y2, .string y3]) ∧ Hid (MS mo (t + m) (R - m) W0 wx))
  case first =>
    go_wp2_with fail
    go_region_held3 (fun V => V.cell? ⟨w.heap.size, 0, none⟩ = some (.int .i64 1) ∧ V.cell? ⟨w.heap.size, 1, none⟩ = some (.int .u32 mg) ∧ V.cell? ⟨w.heap.size, 2, none⟩ = some (.int .i64 fr) ∧ V.cell? ⟨w.heap.size, 3, none⟩ = some (.int .i64 un) ∧ V.cell? ⟨w.heap.size, 4, none⟩ = some (.int .i64 de) ∧ V.cell? ⟨w.heap.size, 5, none⟩ = some (.int .i64 it))
      (first | exact HKV.out _ _ _ HM1.out | exact HKV.out _ _ _ HM1.out.drew | exact HKV.out _ _ _ ((HM1.out.alloc _).drew) | exact HKV.out _ _ _ hv2 | exact HKV.out _ _ _ hv | exact HKV.out _ _ _ (hv.alloc _) | exact HKV.out _ _ _ (hv2.alloc _) | exact HKV.out _ _ _ (hv2.put3 HZ1.out (HAL.out _ HM1.out) _ _ _) | exact HKV.out _ _ _ (hv2.put3 hv.size (HAL.out _ hv) _ _ _))
      (first
        | (go_at_call 66; ((with_reducible refine (HNA.out _ hv hz).mono ?_); rintro e w2 ⟨rfl, hv2, hz2⟩; obtain ⟨z0, z1, z2, zf0, zf1, zf2⟩ := blk3 hz2))
        | (go_at_call 66; ((with_reducible refine (HNB.out _ hv).mono ?_); rintro e w2 ⟨rfl, hv2, hz2⟩; obtain ⟨z0, z1, z2, zf0, zf1, zf2⟩ := blk3 hz2))
        | (go_at_call 66; ((with_reducible refine (HN0.out _ hv).mono ?_); rintro e w2 ⟨rfl, hv2⟩))
        | (go_at_call 45; ((with_reducible refine HFa.out.mono ?_); rintro e w' ⟨rfl, hv, hz⟩; obtain ⟨z0, z1, z2, zf0, zf1, zf2⟩ := blk3 hz))
        | (go_at_call 45; ((with_reducible refine HF0.out.mono ?_); rintro e w' ⟨rfl, hv⟩)))
    all_goals
      go_wp2_with fail
      go_meet
      case rel =>
        first
          | exact ⟨_, rfl, rfl, rfl, Lib.hid hv2.size, Lib.hid (Blk.new _ _ _), Lib.hid (hv2.alloc _)⟩
          | exact ⟨_, rfl, rfl, rfl, HZ1, Lib.hid (set3 hz2 _ _ _), Lib.hid (hv2.put3 HZ1.out (HAL.out _ HM1.out) _ _ _)⟩
          | exact ⟨_, rfl, rfl, rfl, Lib.hid hv.size, Lib.hid (set3 hz2 _ _ _), Lib.hid (hv2.put3 hv.size (HAL.out _ hv) _ _ _)⟩
  case rest =>
    obtain ⟨b9, rfl, rfl, rfl, HZ9, HK9, HM9⟩ := hcut
    have HBc : Hid (Blk wc (w.heap.size + 1) 27 #[.int .u64 0, .string ⟨#[]⟩, .string ⟨#[]⟩]) := Lib.hid (HM9.out.blk HB.out (fun k hk => by have := HG.out k hk; omega))
    have HE9 : Hid (MS mo (t + m) (R - m) W wc) := Lib.hid (HM9.out.from HO.out)
    have HL1 : Hid (W.heap.size ≤ w.heap.size + 1) := Lib.hid (by have := HL.out; omega)
    have HG1 : Hid (∀ k, mo = some k → k < w.heap.size + 1) := Lib.hid (fun k hk => by have := HG.out k hk; omega)
    obtain ⟨g0, g1, g2, f0, f1, f2⟩ := blk3 HBc.out
    obtain ⟨k0, k1, k2, _, _, _⟩ := blk3 HK9.out
    clear HFa HF0 HNB HNA HN0 HKV q0 q1 q2 q3 q4 q5 hI hFd
    rcases beq0 y5 with ⟨h0, h1, h2⟩ | ⟨h0, h1, h2⟩
    · subst h0
      go_wp2
      refine bodyPost_ret (v := .tuple #[.agg #[.int .u64 y1, .string y2, .string y3], .int .i64 y4, .int .i64 0]) (by simp [results, Tryz.results21, go_sem, set3_at HBc.out]) rfl ?_
      exact ⟨rfl, HE9.out.put3 HL1.out HG1.out _ _ _⟩
    · obtain ⟨he1, rfl⟩ := HER.out h0
      obtain ⟨rfl, rfl, rfl⟩ : y1 = 0 ∧ y2 = ByteArray.empty ∧ y3 = ByteArray.empty := by injection he1 with a b c; exact ⟨a, b, c⟩
      clear HER
      go_wp2
      refine bodyPost_ret (v := .tuple #[.agg #[.int .u64 0, .string ByteArray.empty, .string ByteArray.empty], .int .i64 0, .int .i64 y5]) (by simp [results, Tryz.results21, go_sem, set3_at HBc.out, empB]) rfl ?_
      exact ⟨rfl, HE9.out.put3 HL1.out HG1.out _ _ _⟩
set_option maxRecDepth 100000 in
set_option maxHeartbeats 4000000 in
theorem wNx2_c (c : Cfg) (mo : Option Nat) (t R : Nat) (s : ByteArray) (hc : c.ok) (h1 : c.fm = 2) (hr : c.right = true) (hR : 70000 ≤ R) (hs : s.size ≤ 1099511627776) (W w : World) (hM : MS mo t R W w) :
    Calls Tryz.prog 21 #[c.val, mvOf mo, .string s] w fun e w' => e = .returned (wRet (wNext c s)) ∧ MS mo (t + (wNext c s).2.2.2) (R - (wNext c s).2.2.2) W w' := by
  have hRi := (c.right_iff).1 hr
  have HN := Lib.hid (wNextP_c c mo t R s hc h1 (by omega) hs)
  clear hRi hc hR
  have hI := fm_at2
  have hFd := fm_fld2_2
  unfold fmV fm2 fnV at hI
  unfold fm2 fnV at hFd
  have HR := Lib.hid (fun w => right_c c w)
  rw [hr] at HR
  have HRN := Lib.hid (wNext_right hr s)
  rw [HRN.out]
  clear HRN
  have HER := Lib.hid (wRaw_err c s)
  unfold Cfg.val at *
  obtain ⟨X, hXX⟩ : ∃ X, wRaw c s = X := ⟨_, rfl⟩
  rw [hXX] at HN HER ⊢
  clear hXX
  obtain ⟨y5, ⟨y1, y2, y3⟩, y4, m⟩ := X
  simp only at HN HER
  obtain ⟨fm, mg, fr, un, de, it⟩ := c
  simp only at h1
  subst h1
  simp only at *
  generalize mvOf mo = mv at *
  obtain ⟨W0, hW0⟩ : ∃ W0, (w.alloc (.cells #[.int .i64 2, .int .u32 mg, .int .i64 fr, .int .i64 un, .int .i64 de, .int .i64 it] 24)).alloc (.cells #[.int .u64 0, .string ⟨#[]⟩, .string ⟨#[]⟩] 27) = W0 := ⟨_, rfl⟩
  have hN := two_new hW0
  have HO : Hid (Only mo.toList W W0) := Lib.hid (hM.only.trans ((Only.of_below hN.2.1 (Nat.le_refl _)).mono (by simp)))
  have HB : Hid (Blk W0 (w.heap.size + 1) 27 #[.int .u64 0, .string ⟨#[]⟩, .string ⟨#[]⟩]) := Lib.hid hN.2.2.2
  have HM : Hid (Met W0 mo t R) := Lib.hid (hM.met.only (Only.of_below hN.2.1 (Nat.le_refl _)) (by simp))
  have HG : Hid (∀ k, mo = some k → k < w.heap.size) := Lib.hid (hM.met.lt)
  have HL : Hid (W.heap.size ≤ w.heap.size ∧ W0.heap.size = w.heap.size + 2) := Lib.hid ⟨hM.size, hN.1⟩
  have HKV : Hid (∀ V t R, MS mo t R W0 V → V.cell? ⟨w.heap.size, 0, none⟩ = some (.int .i64 2) ∧ V.cell? ⟨w.heap.size, 1, none⟩ = some (.int .u32 mg) ∧ V.cell? ⟨w.heap.size, 2, none⟩ = some (.int .i64 fr) ∧ V.cell? ⟨w.heap.size, 3, none⟩ = some (.int .i64 un) ∧ V.cell? ⟨w.heap.size, 4, none⟩ = some (.int .i64 de) ∧ V.cell? ⟨w.heap.size, 5, none⟩ = some (.int .i64 it)) := Lib.hid (fun V t R hV => by
    have hB := hV.blk hN.2.2.1 HG.out
    exact ⟨hB.cell 0, hB.cell 1, hB.cell 2, hB.cell 3, hB.cell 4, hB.cell 5⟩)
  have HW0 := Lib.hid hW0
  clear hW0 hN hM
  go_enter Tryz.func21, Tryz.ntmps21
  go_wp2_with fail
  rw [HW0.out]
  refine (HR.out _).mono ?_
  rintro e w1 ⟨rfl, hb1⟩
  have HM1 : Hid (MS mo t R W0 w1) := Lib.hid ((MS.refl HM.out).below hb1)
  clear hb1
  obtain ⟨q0, q1, q2, q3, q4, q5⟩ := HKV.out w1 _ _ HM1.out
  have HZ1 := Lib.hid HM1.out.size
  have HAL : Hid (∀ V, MS mo t R W0 V → ∀ k, mo = some k → k < V.heap.size) := Lib.hid (fun V hV => hV.met.lt)
  have HFa : Hid (Calls Tryz.prog 45 #[] (w1.alloc (.cells #[.int .u64 0, .string ⟨#[]⟩, .string ⟨#[]⟩] 27)).drew fun e w' => e = .returned fmV ∧ MS mo t R W0 w' ∧ Blk w' w1.heap.size 27 #[.int .u64 0, .string ⟨#[]⟩, .string ⟨#[]⟩]) := Lib.hid ((formats_c _).mono fun e w' ⟨h1, h2⟩ => ⟨h1, ((HM1.out.alloc _).drew).below h2, (Blk.new w1 _ _).drew.keep h2 (by simp)⟩)
  have HF0 : Hid (Calls Tryz.prog 45 #[] w1.drew fun e w' => e = .returned fmV ∧ MS mo t R W0 w') := Lib.hid ((formats_c _).mono fun e w' ⟨h1, h2⟩ => ⟨h1, HM1.out.drew.below h2⟩)
  have HNB : Hid (∀ V, MS mo t R W0 V → Calls Tryz.prog 71 #[.agg #[.int .i64 2, .int .u32 mg, .int .i64 fr, .int .i64 un, .int .i64 de, .int .i64 it], mv, .string s] (V.alloc (.cells #[.int .u64 0, .string ⟨#[]⟩, .string ⟨#[]⟩] 27)) fun e w' => e = .returned (.tuple #[.agg #[.int .u64 y1, .string y2, .string y3], .int .i64 y4, .int .i64 y5]) ∧ MS mo (t + m) (R - m) W0 w' ∧ Blk w' V.heap.size 27 #[.int .u64 0, .string ⟨#[]⟩, .string ⟨#[]⟩]) := Lib.hid (fun V hV =>
    (HN.out _ _ (MS.refl (hV.alloc _).met)).mono fun e w' ⟨h1, h2⟩ => ⟨h1, h2.from (hV.alloc _).only, (Blk.new V _ _).ms h2 (HAL.out V hV)⟩)
  have HNA : Hid (∀ V, MS mo t R W0 V → Blk V w1.heap.size 27 #[.int .u64 0, .string ⟨#[]⟩, .string ⟨#[]⟩] → Calls Tryz.prog 71 #[.agg #[.int .i64 2, .int .u32 mg, .int .i64 fr, .int .i64 un, .int .i64 de, .int .i64 it], mv, .string s] V fun e w' => e = .returned (.tuple #[.agg #[.int .u64 y1, .string y2, .string y3], .int .i64 y4, .int .i64 y5]) ∧ MS mo (t + m) (R - m) W0 w' ∧ Blk w' w1.heap.size 27 #[.int .u64 0, .string ⟨#[]⟩, .string ⟨#[]⟩]) := Lib.hid (fun V hV hB =>
    (HN.out _ _ (MS.refl hV.met)).mono fun e w' ⟨h1, h2⟩ => ⟨h1, h2.from hV.only, hB.ms h2 (HAL.out w1 HM1.out)⟩)
  have HN0 : Hid (∀ V, MS mo t R W0 V → Calls Tryz.prog 71 #[.agg #[.int .i64 2, .int .u32 mg, .int .i64 fr, .int .i64 un, .int .i64 de, .int .i64 it], mv, .string s] V fun e w' => e = .returned (.tuple #[.agg #[.int .u64 y1, .string y2, .string y3], .int .i64 y4, .int .i64 y5]) ∧ MS mo (t + m) (R - m) W0 w') := Lib.hid (fun V hV =>
    (HN.out _ _ (MS.refl hV.met)).mono fun e w' ⟨h1, h2⟩ => ⟨h1, h2.from hV.only⟩)
  unfold fmV fnV at HFa HF0
  clear HN HR
  go_upto_region 3 with fail
  go_cut [9, 10, 11] (fun v n er wx => ∃ b9 : Nat, v = .pointer (some ⟨b9, 0, none⟩) ∧ n = .int .i64 y4 ∧ er = .int .i64 y5 ∧ Hid (W0.heap.size ≤ b9) ∧ Hid (Blk wx b9 27 #[.int .u64 y1, .string y2, .string y3]) ∧ Hid (MS mo (t + m) (R - m) W0 wx))
  case first =>
    go_wp2_with fail
    go_region_held3 (fun V => V.cell? ⟨w.heap.size, 0, none⟩ = some (.int .i64 2) ∧ V.cell? ⟨w.heap.size, 1, none⟩ = some (.int .u32 mg) ∧ V.cell? ⟨w.heap.size, 2, none⟩ = some (.int .i64 fr) ∧ V.cell? ⟨w.heap.size, 3, none⟩ = some (.int .i64 un) ∧ V.cell? ⟨w.heap.size, 4, none⟩ = some (.int .i64 de) ∧ V.cell? ⟨w.heap.size, 5, none⟩ = some (.int .i64 it))
      (first | exact HKV.out _ _ _ HM1.out | exact HKV.out _ _ _ HM1.out.drew | exact HKV.out _ _ _ ((HM1.out.alloc _).drew) | exact HKV.out _ _ _ hv2 | exact HKV.out _ _ _ hv | exact HKV.out _ _ _ (hv.alloc _) | exact HKV.out _ _ _ (hv2.alloc _) | exact HKV.out _ _ _ (hv2.put3 HZ1.out (HAL.out _ HM1.out) _ _ _) | exact HKV.out _ _ _ (hv2.put3 hv.size (HAL.out _ hv) _ _ _))
      (first
        | (go_at_call 71; ((with_reducible refine (HNA.out _ hv hz).mono ?_); rintro e w2 ⟨rfl, hv2, hz2⟩; obtain ⟨z0, z1, z2, zf0, zf1, zf2⟩ := blk3 hz2))
        | (go_at_call 71; ((with_reducible refine (HNB.out _ hv).mono ?_); rintro e w2 ⟨rfl, hv2, hz2⟩; obtain ⟨z0, z1, z2, zf0, zf1, zf2⟩ := blk3 hz2))
        | (go_at_call 71; ((with_reducible refine (HN0.out _ hv).mono ?_); rintro e w2 ⟨rfl, hv2⟩))
        | (go_at_call 45; ((with_reducible refine HFa.out.mono ?_); rintro e w' ⟨rfl, hv, hz⟩; obtain ⟨z0, z1, z2, zf0, zf1, zf2⟩ := blk3 hz))
        | (go_at_call 45; ((with_reducible refine HF0.out.mono ?_); rintro e w' ⟨rfl, hv⟩)))
    all_goals
      go_wp2_with fail
      go_meet
      case rel =>
        first
          | exact ⟨_, rfl, rfl, rfl, Lib.hid hv2.size, Lib.hid (Blk.new _ _ _), Lib.hid (hv2.alloc _)⟩
          | exact ⟨_, rfl, rfl, rfl, HZ1, Lib.hid (set3 hz2 _ _ _), Lib.hid (hv2.put3 HZ1.out (HAL.out _ HM1.out) _ _ _)⟩
          | exact ⟨_, rfl, rfl, rfl, Lib.hid hv.size, Lib.hid (set3 hz2 _ _ _), Lib.hid (hv2.put3 hv.size (HAL.out _ hv) _ _ _)⟩
  case rest =>
    obtain ⟨b9, rfl, rfl, rfl, HZ9, HK9, HM9⟩ := hcut
    have HBc : Hid (Blk wc (w.heap.size + 1) 27 #[.int .u64 0, .string ⟨#[]⟩, .string ⟨#[]⟩]) := Lib.hid (HM9.out.blk HB.out (fun k hk => by have := HG.out k hk; omega))
    have HE9 : Hid (MS mo (t + m) (R - m) W wc) := Lib.hid (HM9.out.from HO.out)
    have HL1 : Hid (W.heap.size ≤ w.heap.size + 1) := Lib.hid (by have := HL.out; omega)
    have HG1 : Hid (∀ k, mo = some k → k < w.heap.size + 1) := Lib.hid (fun k hk => by have := HG.out k hk; omega)
    obtain ⟨g0, g1, g2, f0, f1, f2⟩ := blk3 HBc.out
    obtain ⟨k0, k1, k2, _, _, _⟩ := blk3 HK9.out
    clear HFa HF0 HNB HNA HN0 HKV q0 q1 q2 q3 q4 q5 hI hFd
    rcases beq0 y5 with ⟨h0, h1, h2⟩ | ⟨h0, h1, h2⟩
    · subst h0
      go_wp2
      refine bodyPost_ret (v := .tuple #[.agg #[.int .u64 y1, .string y2, .string y3], .int .i64 y4, .int .i64 0]) (by simp [results, Tryz.results21, go_sem, set3_at HBc.out]) rfl ?_
      exact ⟨rfl, HE9.out.put3 HL1.out HG1.out _ _ _⟩
    · obtain ⟨he1, rfl⟩ := HER.out h0
      obtain ⟨rfl, rfl, rfl⟩ : y1 = 0 ∧ y2 = ByteArray.empty ∧ y3 = ByteArray.empty := by injection he1 with a b c; exact ⟨a, b, c⟩
      clear HER
      go_wp2
      refine bodyPost_ret (v := .tuple #[.agg #[.int .u64 0, .string ByteArray.empty, .string ByteArray.empty], .int .i64 0, .int .i64 y5]) (by simp [results, Tryz.results21, go_sem, set3_at HBc.out, empB]) rfl ?_
      exact ⟨rfl, HE9.out.put3 HL1.out HG1.out _ _ _⟩
set_option maxRecDepth 100000 in
set_option maxHeartbeats 4000000 in
theorem wNx3_c (c : Cfg) (mo : Option Nat) (t R : Nat) (s : ByteArray) (hc : c.ok) (h1 : c.fm = 3) (hr : c.right = true) (hR : 70000 ≤ R) (hs : s.size ≤ 1099511627776) (W w : World) (hM : MS mo t R W w) :
    Calls Tryz.prog 21 #[c.val, mvOf mo, .string s] w fun e w' => e = .returned (wRet (wNext c s)) ∧ MS mo (t + (wNext c s).2.2.2) (R - (wNext c s).2.2.2) W w' := by
  have hRi := (c.right_iff).1 hr
  have HN := Lib.hid (wNextK_c c mo t R s hc h1 (by omega) (by omega) hR hs)
  clear hRi hc hR
  have hI := fm_at3
  have hFd := fm_fld3_2
  unfold fmV fm3 fnV at hI
  unfold fm3 fnV at hFd
  have HR := Lib.hid (fun w => right_c c w)
  rw [hr] at HR
  have HRN := Lib.hid (wNext_right hr s)
  rw [HRN.out]
  clear HRN
  have HER := Lib.hid (wRaw_err c s)
  unfold Cfg.val at *
  obtain ⟨X, hXX⟩ : ∃ X, wRaw c s = X := ⟨_, rfl⟩
  rw [hXX] at HN HER ⊢
  clear hXX
  obtain ⟨y5, ⟨y1, y2, y3⟩, y4, m⟩ := X
  simp only at HN HER
  obtain ⟨fm, mg, fr, un, de, it⟩ := c
  simp only at h1
  subst h1
  simp only at *
  generalize mvOf mo = mv at *
  obtain ⟨W0, hW0⟩ : ∃ W0, (w.alloc (.cells #[.int .i64 3, .int .u32 mg, .int .i64 fr, .int .i64 un, .int .i64 de, .int .i64 it] 24)).alloc (.cells #[.int .u64 0, .string ⟨#[]⟩, .string ⟨#[]⟩] 27) = W0 := ⟨_, rfl⟩
  have hN := two_new hW0
  have HO : Hid (Only mo.toList W W0) := Lib.hid (hM.only.trans ((Only.of_below hN.2.1 (Nat.le_refl _)).mono (by simp)))
  have HB : Hid (Blk W0 (w.heap.size + 1) 27 #[.int .u64 0, .string ⟨#[]⟩, .string ⟨#[]⟩]) := Lib.hid hN.2.2.2
  have HM : Hid (Met W0 mo t R) := Lib.hid (hM.met.only (Only.of_below hN.2.1 (Nat.le_refl _)) (by simp))
  have HG : Hid (∀ k, mo = some k → k < w.heap.size) := Lib.hid (hM.met.lt)
  have HL : Hid (W.heap.size ≤ w.heap.size ∧ W0.heap.size = w.heap.size + 2) := Lib.hid ⟨hM.size, hN.1⟩
  have HKV : Hid (∀ V t R, MS mo t R W0 V → V.cell? ⟨w.heap.size, 0, none⟩ = some (.int .i64 3) ∧ V.cell? ⟨w.heap.size, 1, none⟩ = some (.int .u32 mg) ∧ V.cell? ⟨w.heap.size, 2, none⟩ = some (.int .i64 fr) ∧ V.cell? ⟨w.heap.size, 3, none⟩ = some (.int .i64 un) ∧ V.cell? ⟨w.heap.size, 4, none⟩ = some (.int .i64 de) ∧ V.cell? ⟨w.heap.size, 5, none⟩ = some (.int .i64 it)) := Lib.hid (fun V t R hV => by
    have hB := hV.blk hN.2.2.1 HG.out
    exact ⟨hB.cell 0, hB.cell 1, hB.cell 2, hB.cell 3, hB.cell 4, hB.cell 5⟩)
  have HW0 := Lib.hid hW0
  clear hW0 hN hM
  go_enter Tryz.func21, Tryz.ntmps21
  go_wp2_with fail
  rw [HW0.out]
  refine (HR.out _).mono ?_
  rintro e w1 ⟨rfl, hb1⟩
  have HM1 : Hid (MS mo t R W0 w1) := Lib.hid ((MS.refl HM.out).below hb1)
  clear hb1
  obtain ⟨q0, q1, q2, q3, q4, q5⟩ := HKV.out w1 _ _ HM1.out
  have HZ1 := Lib.hid HM1.out.size
  have HAL : Hid (∀ V, MS mo t R W0 V → ∀ k, mo = some k → k < V.heap.size) := Lib.hid (fun V hV => hV.met.lt)
  have HFa : Hid (Calls Tryz.prog 45 #[] (w1.alloc (.cells #[.int .u64 0, .string ⟨#[]⟩, .string ⟨#[]⟩] 27)).drew fun e w' => e = .returned fmV ∧ MS mo t R W0 w' ∧ Blk w' w1.heap.size 27 #[.int .u64 0, .string ⟨#[]⟩, .string ⟨#[]⟩]) := Lib.hid ((formats_c _).mono fun e w' ⟨h1, h2⟩ => ⟨h1, ((HM1.out.alloc _).drew).below h2, (Blk.new w1 _ _).drew.keep h2 (by simp)⟩)
  have HF0 : Hid (Calls Tryz.prog 45 #[] w1.drew fun e w' => e = .returned fmV ∧ MS mo t R W0 w') := Lib.hid ((formats_c _).mono fun e w' ⟨h1, h2⟩ => ⟨h1, HM1.out.drew.below h2⟩)
  have HNB : Hid (∀ V, MS mo t R W0 V → Calls Tryz.prog 76 #[.agg #[.int .i64 3, .int .u32 mg, .int .i64 fr, .int .i64 un, .int .i64 de, .int .i64 it], mv, .string s] (V.alloc (.cells #[.int .u64 0, .string ⟨#[]⟩, .string ⟨#[]⟩] 27)) fun e w' => e = .returned (.tuple #[.agg #[.int .u64 y1, .string y2, .string y3], .int .i64 y4, .int .i64 y5]) ∧ MS mo (t + m) (R - m) W0 w' ∧ Blk w' V.heap.size 27 #[.int .u64 0, .string ⟨#[]⟩, .string ⟨#[]⟩]) := Lib.hid (fun V hV =>
    (HN.out _ _ (MS.refl (hV.alloc _).met)).mono fun e w' ⟨h1, h2⟩ => ⟨h1, h2.from (hV.alloc _).only, (Blk.new V _ _).ms h2 (HAL.out V hV)⟩)
  have HNA : Hid (∀ V, MS mo t R W0 V → Blk V w1.heap.size 27 #[.int .u64 0, .string ⟨#[]⟩, .string ⟨#[]⟩] → Calls Tryz.prog 76 #[.agg #[.int .i64 3, .int .u32 mg, .int .i64 fr, .int .i64 un, .int .i64 de, .int .i64 it], mv, .string s] V fun e w' => e = .returned (.tuple #[.agg #[.int .u64 y1, .string y2, .string y3], .int .i64 y4, .int .i64 y5]) ∧ MS mo (t + m) (R - m) W0 w' ∧ Blk w' w1.heap.size 27 #[.int .u64 0, .string ⟨#[]⟩, .string ⟨#[]⟩]) := Lib.hid (fun V hV hB =>
    (HN.out _ _ (MS.refl hV.met)).mono fun e w' ⟨h1, h2⟩ => ⟨h1, h2.from hV.only, hB.ms h2 (HAL.out w1 HM1.out)⟩)
  have HN0 : Hid (∀ V, MS mo t R W0 V → Calls Tryz.prog 76 #[.agg #[.int .i64 3, .int .u32 mg, .int .i64 fr, .int .i64 un, .int .i64 de, .int .i64 it], mv, .string s] V fun e w' => e = .returned (.tuple #[.agg #[.int .u64 y1, .string y2, .string y3], .int .i64 y4, .int .i64 y5]) ∧ MS mo (t + m) (R - m) W0 w') := Lib.hid (fun V hV =>
    (HN.out _ _ (MS.refl hV.met)).mono fun e w' ⟨h1, h2⟩ => ⟨h1, h2.from hV.only⟩)
  unfold fmV fnV at HFa HF0
  clear HN HR
  go_upto_region 3 with fail
  go_cut [9, 10, 11] (fun v n er wx => ∃ b9 : Nat, v = .pointer (some ⟨b9, 0, none⟩) ∧ n = .int .i64 y4 ∧ er = .int .i64 y5 ∧ Hid (W0.heap.size ≤ b9) ∧ Hid (Blk wx b9 27 #[.int .u64 y1, .string y2, .string y3]) ∧ Hid (MS mo (t + m) (R - m) W0 wx))
  case first =>
    go_wp2_with fail
    go_region_held3 (fun V => V.cell? ⟨w.heap.size, 0, none⟩ = some (.int .i64 3) ∧ V.cell? ⟨w.heap.size, 1, none⟩ = some (.int .u32 mg) ∧ V.cell? ⟨w.heap.size, 2, none⟩ = some (.int .i64 fr) ∧ V.cell? ⟨w.heap.size, 3, none⟩ = some (.int .i64 un) ∧ V.cell? ⟨w.heap.size, 4, none⟩ = some (.int .i64 de) ∧ V.cell? ⟨w.heap.size, 5, none⟩ = some (.int .i64 it))
      (first | exact HKV.out _ _ _ HM1.out | exact HKV.out _ _ _ HM1.out.drew | exact HKV.out _ _ _ ((HM1.out.alloc _).drew) | exact HKV.out _ _ _ hv2 | exact HKV.out _ _ _ hv | exact HKV.out _ _ _ (hv.alloc _) | exact HKV.out _ _ _ (hv2.alloc _) | exact HKV.out _ _ _ (hv2.put3 HZ1.out (HAL.out _ HM1.out) _ _ _) | exact HKV.out _ _ _ (hv2.put3 hv.size (HAL.out _ hv) _ _ _))
      (first
        | (go_at_call 76; ((with_reducible refine (HNA.out _ hv hz).mono ?_); rintro e w2 ⟨rfl, hv2, hz2⟩; obtain ⟨z0, z1, z2, zf0, zf1, zf2⟩ := blk3 hz2))
        | (go_at_call 76; ((with_reducible refine (HNB.out _ hv).mono ?_); rintro e w2 ⟨rfl, hv2, hz2⟩; obtain ⟨z0, z1, z2, zf0, zf1, zf2⟩ := blk3 hz2))
        | (go_at_call 76; ((with_reducible refine (HN0.out _ hv).mono ?_); rintro e w2 ⟨rfl, hv2⟩))
        | (go_at_call 45; ((with_reducible refine HFa.out.mono ?_); rintro e w' ⟨rfl, hv, hz⟩; obtain ⟨z0, z1, z2, zf0, zf1, zf2⟩ := blk3 hz))
        | (go_at_call 45; ((with_reducible refine HF0.out.mono ?_); rintro e w' ⟨rfl, hv⟩)))
    all_goals
      go_wp2_with fail
      go_meet
      case rel =>
        first
          | exact ⟨_, rfl, rfl, rfl, Lib.hid hv2.size, Lib.hid (Blk.new _ _ _), Lib.hid (hv2.alloc _)⟩
          | exact ⟨_, rfl, rfl, rfl, HZ1, Lib.hid (set3 hz2 _ _ _), Lib.hid (hv2.put3 HZ1.out (HAL.out _ HM1.out) _ _ _)⟩
          | exact ⟨_, rfl, rfl, rfl, Lib.hid hv.size, Lib.hid (set3 hz2 _ _ _), Lib.hid (hv2.put3 hv.size (HAL.out _ hv) _ _ _)⟩
  case rest =>
    obtain ⟨b9, rfl, rfl, rfl, HZ9, HK9, HM9⟩ := hcut
    have HBc : Hid (Blk wc (w.heap.size + 1) 27 #[.int .u64 0, .string ⟨#[]⟩, .string ⟨#[]⟩]) := Lib.hid (HM9.out.blk HB.out (fun k hk => by have := HG.out k hk; omega))
    have HE9 : Hid (MS mo (t + m) (R - m) W wc) := Lib.hid (HM9.out.from HO.out)
    have HL1 : Hid (W.heap.size ≤ w.heap.size + 1) := Lib.hid (by have := HL.out; omega)
    have HG1 : Hid (∀ k, mo = some k → k < w.heap.size + 1) := Lib.hid (fun k hk => by have := HG.out k hk; omega)
    obtain ⟨g0, g1, g2, f0, f1, f2⟩ := blk3 HBc.out
    obtain ⟨k0, k1, k2, _, _, _⟩ := blk3 HK9.out
    clear HFa HF0 HNB HNA HN0 HKV q0 q1 q2 q3 q4 q5 hI hFd
    rcases beq0 y5 with ⟨h0, h1, h2⟩ | ⟨h0, h1, h2⟩
    · subst h0
      go_wp2
      refine bodyPost_ret (v := .tuple #[.agg #[.int .u64 y1, .string y2, .string y3], .int .i64 y4, .int .i64 0]) (by simp [results, Tryz.results21, go_sem, set3_at HBc.out]) rfl ?_
      exact ⟨rfl, HE9.out.put3 HL1.out HG1.out _ _ _⟩
    · obtain ⟨he1, rfl⟩ := HER.out h0
      obtain ⟨rfl, rfl, rfl⟩ : y1 = 0 ∧ y2 = ByteArray.empty ∧ y3 = ByteArray.empty := by injection he1 with a b c; exact ⟨a, b, c⟩
      clear HER
      go_wp2
      refine bodyPost_ret (v := .tuple #[.agg #[.int .u64 0, .string ByteArray.empty, .string ByteArray.empty], .int .i64 0, .int .i64 y5]) (by simp [results, Tryz.results21, go_sem, set3_at HBc.out, empB]) rfl ?_
      exact ⟨rfl, HE9.out.put3 HL1.out HG1.out _ _ _⟩
set_option maxRecDepth 100000 in
set_option maxHeartbeats 1000000 in
theorem wNx0_c (c : Cfg) (mo : Option Nat) (t R : Nat) (s : ByteArray) (hr : c.right = false) (W w : World) (hM : MS mo t R W w) :
    Calls Tryz.prog 21 #[c.val, mvOf mo, .string s] w fun e w' => e = .returned (wRet (wNext c s)) ∧ MS mo (t + (wNext c s).2.2.2) (R - (wNext c s).2.2.2) W w' := by
  have hX : wNext c s = (1, noFr, 0, 0) := by unfold wNext; rw [hr]; rfl
  have HR := Lib.hid (fun w => right_c c w)
  rw [hr] at HR
  rw [hX]
  unfold Cfg.val at *
  generalize mvOf mo = mv at *
  obtain ⟨W0, hW0⟩ : ∃ W0, (w.alloc (.cells #[.int .i64 c.fm, .int .u32 c.mg, .int .i64 c.fr, .int .i64 c.un, .int .i64 c.de, .int .i64 c.it] 24)).alloc (.cells #[.int .u64 0, .string ⟨#[]⟩, .string ⟨#[]⟩] 27) = W0 := ⟨_, rfl⟩
  have hN := two_new hW0
  have HO : Hid (MS mo t R W W0) := Lib.hid (hM.below hN.2.1)
  have HB : Hid (Blk W0 (w.heap.size + 1) 27 #[.int .u64 0, .string ⟨#[]⟩, .string ⟨#[]⟩]) := Lib.hid hN.2.2.2
  have HG : Hid (∀ k, mo = some k → k < w.heap.size + 1) := Lib.hid (fun k hk => by have := hM.met.lt k hk; omega)
  have HL : Hid (W.heap.size ≤ w.heap.size + 1 ∧ W0.heap.size = w.heap.size + 2) := Lib.hid ⟨by have := hM.size; omega, hN.1⟩
  have HW0 := Lib.hid hW0
  clear hW0 hN hM hX
  go_enter Tryz.func21, Tryz.ntmps21
  go_wp2_with fail
  rw [HW0.out]
  refine (HR.out _).mono ?_
  rintro e w1 ⟨rfl, hb1⟩
  have HB1 := Lib.hid (HB.out.keep hb1 (by have := HL.out.2; omega))
  have HM1 := Lib.hid (HO.out.below hb1)
  clear hb1
  obtain ⟨g0, g1, g2, f0, f1, f2⟩ := blk3 HB1.out
  go_wp2
  refine bodyPost_ret (v := .tuple #[.agg #[.int .u64 0, .string ByteArray.empty, .string ByteArray.empty], .int .i64 0, .int .i64 1]) (by simp [results, Tryz.results21, go_sem, set3_at HB1.out, empB]) rfl ?_
  exact ⟨rfl, HM1.out.put3 HL.out.1 HG.out _ _ _⟩
/-- wire.Next tells wNext, and the meter takes what it tells. -/
theorem wNextM_c (c : Cfg) (mo : Option Nat) (t R : Nat) (s : ByteArray) (hc : c.ok) (hR : 70000 ≤ R) (hs : s.size ≤ 1099511627776) (W w : World) (hM : MS mo t R W w) :
    Calls Tryz.prog 21 #[c.val, mvOf mo, .string s] w fun e w' => e = .returned (wRet (wNext c s)) ∧ MS mo (t + (wNext c s).2.2.2) (R - (wNext c s).2.2.2) W w' := by
  cases hr : c.right with
  | false => exact wNx0_c c mo t R s hr W w hM
  | true =>
    have hRi := (c.right_iff).1 hr
    rcases (by omega : c.fm = 1 ∨ c.fm = 2 ∨ c.fm = 3) with h | h | h
    · exact wNx1_c c mo t R s hc h hr hR hs W w hM
    · exact wNx2_c c mo t R s hc h hr hR hs W w hM
    · exact wNx3_c c mo t R s hc h hr hR hs W w hM
/-- Without a meter. -/
theorem wNext_c (c : Cfg) (s : ByteArray) (hc : c.ok) (hs : s.size ≤ 1099511627776) (w : World) :
    Calls Tryz.prog 21 #[c.val, .pointer none, .string s] w fun e w' => e = .returned (wRet (wNext c s)) ∧ Below w.heap.size w w' :=
  (wNextM_c c none 0 140000 s hc (by omega) hs w w (MS.refl trivial)).mono fun e w' ⟨h1, h2⟩ => ⟨h1, h2.to_below⟩
end Go.Proofs.YtebllmpdlapefaaGreatDoor
namespace Go.Proofs.YtebllmpdlapefaaGreatDoor
set_option linter.unusedVariables false
set_option linter.unusedSimpArgs false
open Go.RowKit

theorem fits1_c (f : Fr) (w : World) : Calls Tryz.prog 63 #[f.val] w fun e w' => e = .returned (.bool (decide (f.id = 0))) ∧ Below w.heap.size w w' := by
  unfold Fr.val
  by_cases h : f.id = 0
  · have hd : decide ((f.id : Int) = 0) = true := by simp [h]
    obtain ⟨id, nm, body⟩ := f
    simp only at *
    subst h
    go_enter Tryz.func63, Tryz.ntmps63
    go_wp2
    go_ret
    exact ⟨ret_bool (by simp), (by repeat (first | exact Below.refl _ _ | assumption | with_reducible refine Below.drewN' ?_ _ | with_reducible refine Below.drew ?_ | ((with_reducible refine Below.alloc' ?_ ?_ _); · (first | omega | (simp <;> omega)))))⟩
  · have hd : ((f.id : Int) == 0) = false := by simpa using h
    obtain ⟨id, nm, body⟩ := f
    simp only at *
    go_enter Tryz.func63, Tryz.ntmps63
    go_wp2
    go_ret
    exact ⟨ret_bool (by simp [h]), (by repeat (first | exact Below.refl _ _ | assumption | with_reducible refine Below.drewN' ?_ _ | with_reducible refine Below.drew ?_ | ((with_reducible refine Below.alloc' ?_ ?_ _); · (first | omega | (simp <;> omega)))))⟩
theorem fitsN_c (f : Fr) (w : World) : Calls Tryz.prog 62 #[f.val] w fun e w' => e = .returned (.bool (decide (f.nm.size = 0))) ∧ Below w.heap.size w w' := by
  unfold Fr.val
  obtain ⟨id, nm, body⟩ := f
  simp only
  rcases empty_ways nm with ⟨_, rfl⟩ | ⟨h1, h2, h3⟩
  · go_enter Tryz.func62, Tryz.ntmps62
    go_wp2
    go_ret
    exact ⟨ret_bool (by rfl), (by repeat (first | exact Below.refl _ _ | assumption | with_reducible refine Below.drewN' ?_ _ | with_reducible refine Below.drew ?_ | ((with_reducible refine Below.alloc' ?_ ?_ _); · (first | omega | (simp <;> omega)))))⟩
  · go_enter Tryz.func62, Tryz.ntmps62
    go_wp2
    go_ret
    exact ⟨ret_bool (by simp_all), (by repeat (first | exact Below.refl _ _ | assumption | with_reducible refine Below.drewN' ?_ _ | with_reducible refine Below.drew ?_ | ((with_reducible refine Below.alloc' ?_ ?_ _); · (first | omega | (simp <;> omega)))))⟩
theorem wBytes_size (c : Cfg) (f : Fr) (hf : f.ok) (hb : f.body.size ≤ 1000000) : (wBytes c f).1.size ≤ 2000000 := by
  have hl := lebL_length 10 f.id (by have := hf.id; omega) (by omega)
  unfold wBytes
  split
  · split
    · rename_i hm
      split
      · simp
      · simp only; rw [cnPut_size c.mg f.nm f.body (nmMay_size hm).2]; omega
    · simp
  · split
    · split
      · simp
      · simp only
        rw [size_of]
        have h2 := lebL_length 10 ((lebL f.id).length + f.body.data.toList.length) (by rw [toList_size]; omega) (by omega)
        unfold plPut
        rw [List.length_append, List.length_append]
        rw [toList_size] at *
        omega
    · split
      · simp
      · split
        · simp
        · simp only
          rw [size_of]
          have h2 := lebL_length 10 ((lebL f.id).length + (pack f.body.data.toList).length) (by omega) (by omega)
          unfold plPut
          rw [List.length_append, List.length_append]
          omega
set_option maxRecDepth 100000 in
set_option maxHeartbeats 1000000 in
theorem put1_c (c : Cfg) (f : Fr) (hc : c.ok) (hf : f.ok) (h1 : c.fm = 1) (w : World) :
    Calls Tryz.prog 64 #[c.val, f.val] w fun e w' => e = .returned (.tuple #[.string (wBytes c f).1, .int .i64 (wBytes c f).2]) ∧ Below w.heap.size w w' := by
  have HC : Hid (∀ V, Calls Tryz.prog 65 #[.int .u32 c.mg, .string f.nm, .string f.body] V fun e w' => e = .returned (.tuple #[.string (wBytes c f).1, .int .i64 (wBytes c f).2]) ∧ Below V.heap.size V w') := Lib.hid (fun V => by
    unfold wBytes
    rw [if_pos h1]
    cases hm : nmMay f.nm with
    | false => exact (coinPut_no c.mg f.nm f.body V hc.mg hf.nm hm).mono fun e w' ⟨h1, h2⟩ => ⟨h1, by rw [← h2]; exact Below.refl _ _⟩
    | true =>
      rw [if_pos rfl]
      by_cases hb : 65536 < f.body.size
      · rw [if_pos hb]; exact coinPut_over c.mg f.nm f.body V hc.mg hm hb hf.body
      · rw [if_neg hb]; exact coinPut_c c.mg f.nm f.body V hc.mg hm (by omega))
  clear hc hf h1
  unfold Cfg.val Fr.val
  generalize wBytes c f = X at *
  obtain ⟨B, E⟩ := X
  simp only at HC
  go_enter Tryz.func64, Tryz.ntmps64
  go_wp2_with fail
  refine (HC.out _).mono ?_
  rintro e w1 ⟨rfl, hb⟩
  have HB := Lib.hid ((((Below.refl w.heap.size w).alloc (Nat.le_refl _) _).alloc (by simp) _).trans (hb.mono (by simp; omega)))
  clear hb
  go_wp2
  go_ret2
  exact ⟨rfl, HB.out⟩
set_option maxRecDepth 100000 in
set_option maxHeartbeats 1000000 in
theorem put2_c (c : Cfg) (f : Fr) (hf : f.ok) (hb : f.body.size ≤ 1000000) (h1 : c.fm = 2) (w : World) :
    Calls Tryz.prog 69 #[c.val, f.val] w fun e w' => e = .returned (.tuple #[.string (wBytes c f).1, .int .i64 (wBytes c f).2]) ∧ Below w.heap.size w w' := by
  have HC : Hid (∀ V, Calls Tryz.prog 70 #[.int .u64 f.id, .string f.body] V fun e w' => e = .returned (.tuple #[.string (wBytes c f).1, .int .i64 (wBytes c f).2]) ∧ Below V.heap.size V w') := Lib.hid (fun V => by
    unfold wBytes
    rw [if_neg (by omega), if_pos h1]
    by_cases hb2 : 65536 < (lebL f.id).length + f.body.size
    · rw [if_pos hb2]; exact plainPut_over f.id f.body V hf.id hb2 hb
    · rw [if_neg hb2]; exact plainPut_c f.id f.body V hf.id (by omega))
  clear hf h1 hb
  unfold Cfg.val Fr.val
  generalize wBytes c f = X at *
  obtain ⟨B, E⟩ := X
  simp only at HC
  go_enter Tryz.func69, Tryz.ntmps69
  go_wp2_with fail
  refine (HC.out _).mono ?_
  rintro e w1 ⟨rfl, hb⟩
  have HB := Lib.hid ((((Below.refl w.heap.size w).alloc (Nat.le_refl _) _).alloc (by simp) _).trans (hb.mono (by simp; omega)))
  clear hb
  go_wp2
  go_ret2
  exact ⟨rfl, HB.out⟩
set_option maxRecDepth 100000 in
set_option maxHeartbeats 1000000 in
theorem put3_c (c : Cfg) (f : Fr) (hf : f.ok) (hu : c.un ≤ 65536) (h1 : c.fm = 3) (w : World) :
    Calls Tryz.prog 74 #[c.val, f.val] w fun e w' => e = .returned (.tuple #[.string (wBytes c f).1, .int .i64 (wBytes c f).2]) ∧ Below w.heap.size w w' := by
  by_cases ho : c.un < f.body.size
  · have HE : Hid (wBytes c f = (ByteArray.empty, 5)) := Lib.hid (by unfold wBytes; rw [if_neg (by omega), if_neg (by omega), if_pos ho])
    rw [HE.out]
    unfold Cfg.val Fr.val
    clear HE hu
    have hm := hf.body
    clear hf
    obtain ⟨fm, mg, fr, un, de, it⟩ := c
    obtain ⟨id, nm, body⟩ := f
    simp only at *
    subst h1
    go_enter Tryz.func74, Tryz.ntmps74
    go_wp2
    go_ret2
    exact ⟨rfl, (by repeat (first | exact Below.refl _ _ | assumption | with_reducible refine Below.drewN' ?_ _ | with_reducible refine Below.drew ?_ | ((with_reducible refine Below.alloc' ?_ ?_ _); · (first | omega | (simp <;> omega)))))⟩
  · have HC : Hid (∀ V, Calls Tryz.prog 75 #[.int .u64 f.id, .string f.body] V fun e w' => e = .returned (.tuple #[.string (wBytes c f).1, .int .i64 (wBytes c f).2]) ∧ Below V.heap.size V w') := Lib.hid (fun V => by
      unfold wBytes
      rw [if_neg (by omega), if_neg (by omega), if_neg ho]
      refine (packedPut_any f.id f.body V hf.id (by omega)).mono fun e w' ⟨h1, h2⟩ => ⟨?_, h2⟩
      rw [h1]
      unfold pkPutS pkPutE
      by_cases hb2 : 65536 < (lebL f.id).length + (pack f.body.data.toList).length
      · rw [if_pos hb2, if_pos hb2, if_pos hb2]
      · rw [if_neg hb2, if_neg hb2, if_neg hb2])
    have hm := hf.body
    clear hf hu
    unfold Cfg.val Fr.val
    generalize wBytes c f = X at *
    obtain ⟨B, E⟩ := X
    simp only at HC
    obtain ⟨fm, mg, fr, un, de, it⟩ := c
    obtain ⟨id, nm, body⟩ := f
    simp only at *
    subst h1
    go_enter Tryz.func74, Tryz.ntmps74
    go_wp2_with fail
    refine (HC.out _).mono ?_
    rintro e w1 ⟨rfl, hb⟩
    have HB := Lib.hid ((((Below.refl w.heap.size w).alloc (Nat.le_refl _) _).alloc (by simp) _).trans (hb.mono (by simp; omega)))
    clear hb
    go_wp2
    go_ret2
    exact ⟨rfl, HB.out⟩
/-- What is done with a format's struct. -/
theorem blk4f {w : World} {g : Nat} {t : TypeId} {a b c d : Value} (h : Blk w g t #[a, b, c, d]) : w.cell? ⟨g, 0, none⟩ = some a ∧ w.cell? ⟨g, 1, none⟩ = some b ∧ w.cell? ⟨g, 2, none⟩ = some c ∧ w.cell? ⟨g, 3, none⟩ = some d ∧ w.frozen? ⟨g, 0, none⟩ = false ∧ w.frozen? ⟨g, 1, none⟩ = false ∧ w.frozen? ⟨g, 2, none⟩ = false ∧ w.frozen? ⟨g, 3, none⟩ = false :=
  ⟨h.cell 0, h.cell 1, h.cell 2, h.cell 3, h.frozen 0, h.frozen 1, h.frozen 2, h.frozen 3⟩
theorem wPut_ways (c : Cfg) (f : Fr) (hr : c.right = true) : (wFits c f = false → wPut c f = (ByteArray.empty, 1)) ∧ (wFits c f = true → (wBytes c f).2 ≠ 0 → wPut c f = (ByteArray.empty, (wBytes c f).2)) ∧ (wFits c f = true → (wBytes c f).2 = 0 → (wRaw c (wBytes c f).1).1 = 5 → wPut c f = (ByteArray.empty, 5)) ∧ (wFits c f = true → (wBytes c f).2 = 0 → (wRaw c (wBytes c f).1).1 ≠ 5 → wPut c f = ((wBytes c f).1, 0)) := by
  refine ⟨fun h => ?_, fun h h2 => ?_, fun h h2 h3 => ?_, fun h h2 h3 => ?_⟩ <;> unfold wPut
  · rw [if_neg (by simp [h])]
  · rw [if_pos ⟨hr, h⟩, if_pos h2]
  · rw [if_pos ⟨hr, h⟩, if_neg (by simp [h2]), if_pos h3]
  · rw [if_pos ⟨hr, h⟩, if_neg (by simp [h2]), if_neg h3]
set_option maxRecDepth 100000 in
set_option maxHeartbeats 4000000 in
theorem wPut1_c (c : Cfg) (f : Fr) (hc : c.ok) (hf : f.ok) (hb : f.body.size ≤ 1000000) (h1 : c.fm = 1) (hr : c.right = true) (w : World) :
    Calls Tryz.prog 15 #[c.val, f.val] w fun e w' => e = .returned (.tuple #[.string (wPut c f).1, .int .i64 (wPut c f).2]) ∧ Below w.heap.size w w' := by
  have hRi := (c.right_iff).1 hr
  have hz := wBytes_size c f hf hb
  have HN0 := Lib.hid (wNextC_c c none 0 140000 (wBytes c f).1 hc h1 (by omega) (by omega))
  have HF : Hid (∀ V, Calls Tryz.prog 63 #[f.val] V fun e w' => e = .returned (.bool (wFits c f)) ∧ Below V.heap.size V w') := Lib.hid (fun V => by have := fits1_c f V; unfold wFits; rw [if_pos h1]; exact this)
  have HY := Lib.hid (fun V => put1_c c f hc hf h1 V)
  clear hRi hc hf hb hz
  have hI := fm_at1
  unfold fmV fm1 fnV at hI
  have HR := Lib.hid (fun w => right_c c w)
  rw [hr] at HR
  have HW := Lib.hid (wPut_ways c f hr)
  have HN : Hid (∀ V, Calls Tryz.prog 66 #[c.val, .pointer none, .string (wBytes c f).1] V fun e w' => e = .returned (wRet (wRaw c (wBytes c f).1)) ∧ Below V.heap.size V w') := Lib.hid (fun V => (HN0.out V V (MS.refl trivial)).mono fun e w' ⟨h1, h2⟩ => ⟨h1, h2.to_below⟩)
  clear HN0
  unfold wRet Fr.val at *
  obtain ⟨X, hX⟩ : ∃ X, wRaw c (wBytes c f).1 = X := ⟨_, rfl⟩
  rw [hX] at HN HW
  clear hX
  obtain ⟨y5, ⟨y1, y2, y3⟩, y4, m⟩ := X
  obtain ⟨X, hX⟩ : ∃ X, wBytes c f = X := ⟨_, rfl⟩
  rw [hX] at HN HW HY
  clear hX
  obtain ⟨S, E⟩ := X
  obtain ⟨X, hX⟩ : ∃ X, wPut c f = X := ⟨_, rfl⟩
  rw [hX] at HW ⊢
  clear hX
  obtain ⟨P1, P2⟩ := X
  obtain ⟨ft, hft⟩ : ∃ ft, wFits c f = ft := ⟨_, rfl⟩
  rw [hft] at HW HF
  clear hft
  simp only at HN HW HY
  unfold Cfg.val at *
  obtain ⟨fm, mg, fr, un, de, it⟩ := c
  obtain ⟨id, nm, body⟩ := f
  simp only at *
  subst h1
  obtain ⟨W0, hW0⟩ : ∃ W0, (w.alloc (.cells #[.int .i64 1, .int .u32 mg, .int .i64 fr, .int .i64 un, .int .i64 de, .int .i64 it] 24)).alloc (.cells #[.int .u64 id, .string nm, .string body] 27) = W0 := ⟨_, rfl⟩
  have hN := two_new hW0
  have HO : Hid (Below w.heap.size w W0) := Lib.hid hN.2.1
  have HL : Hid (W0.heap.size = w.heap.size + 2) := Lib.hid hN.1
  have HKV : Hid (∀ V, Below W0.heap.size W0 V → (V.cell? ⟨w.heap.size, 0, none⟩ = some (.int .i64 1) ∧ V.cell? ⟨w.heap.size, 1, none⟩ = some (.int .u32 mg) ∧ V.cell? ⟨w.heap.size, 2, none⟩ = some (.int .i64 fr) ∧ V.cell? ⟨w.heap.size, 3, none⟩ = some (.int .i64 un) ∧ V.cell? ⟨w.heap.size, 4, none⟩ = some (.int .i64 de) ∧ V.cell? ⟨w.heap.size, 5, none⟩ = some (.int .i64 it))) := Lib.hid (fun V hV => by
    have hB := hN.2.2.1.keep hV (by omega)
    exact ⟨hB.cell 0, hB.cell 1, hB.cell 2, hB.cell 3, hB.cell 4, hB.cell 5⟩)
  have HKF : Hid (∀ V, Below W0.heap.size W0 V → (V.cell? ⟨w.heap.size + 1, 0, none⟩ = some (.int .u64 id) ∧ V.cell? ⟨w.heap.size + 1, 1, none⟩ = some (.string nm) ∧ V.cell? ⟨w.heap.size + 1, 2, none⟩ = some (.string body))) := Lib.hid (fun V hV => by
    have hB := hN.2.2.2.keep hV (by omega)
    exact ⟨hB.cell 0, hB.cell 1, hB.cell 2⟩)
  have HW0 := Lib.hid hW0
  clear hW0 hN
  go_enter Tryz.func15, Tryz.ntmps15
  go_wp2_with fail
  rw [HW0.out]
  refine (HR.out _).mono ?_
  rintro e w1 ⟨rfl, hb1⟩
  have HM1 : Hid (Below W0.heap.size W0 w1) := Lib.hid hb1
  clear hb1
  obtain ⟨q0, q1, q2, q3, q4, q5⟩ := HKV.out w1 HM1.out
  have HZ1 := Lib.hid HM1.out.size
  have HFa : Hid (Calls Tryz.prog 45 #[] (w1.alloc (.cells #[.nilFunc, .nilFunc, .nilFunc, .nilFunc] 83)).drew fun e w' => e = .returned fmV ∧ Below W0.heap.size W0 w' ∧ Blk w' w1.heap.size 83 #[.nilFunc, .nilFunc, .nilFunc, .nilFunc]) := Lib.hid ((formats_c _).mono fun e w' ⟨h1, h2⟩ => ⟨h1, ((HM1.out.alloc HZ1.out _).drew).trans (h2.mono (by have := HZ1.out; simp; omega)), (Blk.new w1 _ _).drew.keep h2 (by simp)⟩)
  have HF0 : Hid (Calls Tryz.prog 45 #[] w1.drew fun e w' => e = .returned fmV ∧ Below W0.heap.size W0 w') := Lib.hid ((formats_c _).mono fun e w' ⟨h1, h2⟩ => ⟨h1, HM1.out.drew.trans (h2.mono HZ1.out)⟩)
  unfold fmV fnV at HFa HF0
  clear HR
  go_upto_region 3 with fail
  go_cut [6] (fun v wx => ∃ b9 : Nat, v = .pointer (some ⟨b9, 0, none⟩) ∧ Hid (W0.heap.size ≤ b9) ∧ Hid (Blk wx b9 83 #[.func (.func 63) #[] #[], .func (.func 64) #[] #[], .func (.func 66) #[] #[], .func (.func 68) #[] #[]]) ∧ Hid (Below W0.heap.size W0 wx))
  case first =>
    go_wp2_with fail
    go_region_held3 (fun V => V.cell? ⟨w.heap.size, 0, none⟩ = some (.int .i64 1) ∧ V.cell? ⟨w.heap.size, 1, none⟩ = some (.int .u32 mg) ∧ V.cell? ⟨w.heap.size, 2, none⟩ = some (.int .i64 fr) ∧ V.cell? ⟨w.heap.size, 3, none⟩ = some (.int .i64 un) ∧ V.cell? ⟨w.heap.size, 4, none⟩ = some (.int .i64 de) ∧ V.cell? ⟨w.heap.size, 5, none⟩ = some (.int .i64 it))
      (first | exact HKV.out _ HM1.out | exact HKV.out _ HM1.out.drew | exact HKV.out _ ((HM1.out.alloc HZ1.out _).drew) | exact HKV.out _ hv | exact HKV.out _ (hv.alloc hv.size _) | exact HKV.out _ ((((hv.setCell HZ1.out _).setCell HZ1.out _).setCell HZ1.out _).setCell HZ1.out _))
      (first
        | (go_at_call 45; ((with_reducible refine HFa.out.mono ?_); rintro e w' ⟨rfl, hv, hz⟩; obtain ⟨z0, z1, z2, z3, zf0, zf1, zf2, zf3⟩ := blk4f hz))
        | (go_at_call 45; ((with_reducible refine HF0.out.mono ?_); rintro e w' ⟨rfl, hv⟩)))
    all_goals
      go_wp2_with fail
      go_meet
      case rel =>
        first
          | exact ⟨_, rfl, Lib.hid hv.size, Lib.hid (Blk.new _ _ _), Lib.hid (hv.alloc hv.size _)⟩
          | exact ⟨_, rfl, HZ1, Lib.hid ((((hz.set 0 _).set 1 _).set 2 _).set 3 _), Lib.hid ((((hv.setCell HZ1.out _).setCell HZ1.out _).setCell HZ1.out _).setCell HZ1.out _)⟩
  case rest =>
    obtain ⟨b9, rfl, HZ9, HK9, HM9⟩ := hcut
    have HKK : Hid (∀ V, Below wc.heap.size wc V → Below W0.heap.size W0 V ∧ Blk V b9 83 #[.func (.func 63) #[] #[], .func (.func 64) #[] #[], .func (.func 66) #[] #[], .func (.func 68) #[] #[]]) := Lib.hid (fun V hV => ⟨HM9.out.trans (hV.mono HM9.out.size), HK9.out.keep hV HK9.out.lt⟩)
    have HE : Hid (∀ V, Below W0.heap.size W0 V → Below w.heap.size w V) := Lib.hid (fun V hV => HO.out.trans (hV.mono (by have := HL.out; omega)))
    clear HFa HF0 q0 q1 q2 q3 q4 q5 hI
    obtain ⟨q0, q1, q2, q3, q4, q5⟩ := HKV.out wc HM9.out
    obtain ⟨p0, p1, p2⟩ := HKF.out wc HM9.out
    obtain ⟨z0, z1, z2, z3, _⟩ := blk4f HK9.out
    go_wp2_with fail
    refine (HF.out _).mono ?_
    rintro e w2 ⟨rfl, hb⟩
    obtain ⟨hV2, hB2⟩ := HKK.out w2 hb
    have HB2 := Lib.hid hb
    have HV2 := Lib.hid hV2
    clear q0 q1 q2 q3 q4 q5 p0 p1 p2 z0 z1 z2 z3 hb
    obtain ⟨q0, q1, q2, q3, q4, q5⟩ := HKV.out w2 hV2
    obtain ⟨p0, p1, p2⟩ := HKF.out w2 hV2
    obtain ⟨z0, z1, z2, z3, _⟩ := blk4f hB2
    clear hV2 hB2
    cases ft with
    | false =>
      have hp := HW.out.1 (by simp)
      injection hp with hp1 hp2
      subst hp1; subst hp2
      clear HW
      go_wp2
      go_ret2
      exact ⟨rfl, HE.out _ HV2.out⟩
    | true =>
      go_wp2_with fail
      refine (HY.out _).mono ?_
      rintro e w3 ⟨rfl, hb⟩
      have HB3 : Hid (Below wc.heap.size wc w3) := Lib.hid (HB2.out.trans (hb.mono HB2.out.size))
      obtain ⟨hV3, hB3⟩ := HKK.out w3 HB3.out
      have HV3 := Lib.hid hV3
      clear q0 q1 q2 q3 q4 q5 p0 p1 p2 z0 z1 z2 z3 hb
      obtain ⟨q0, q1, q2, q3, q4, q5⟩ := HKV.out w3 hV3
      obtain ⟨p0, p1, p2⟩ := HKF.out w3 hV3
      obtain ⟨z0, z1, z2, z3, _⟩ := blk4f hB3
      clear hV3 hB3
      rcases beq0 E with ⟨e0, e1, e2⟩ | ⟨e0, e1, e2⟩
      · subst e0
        have HW2 := Lib.hid (And.intro (HW.out.2.2.1 (by simp) (by simp)) (HW.out.2.2.2 (by simp) (by simp)))
        clear HW
        go_wp2_with fail
        refine (HN.out _).mono ?_
        rintro e w4 ⟨rfl, hb⟩
        have HV4 : Hid (Below W0.heap.size W0 w4) := Lib.hid (HV3.out.trans (hb.mono HV3.out.size))
        clear q0 q1 q2 q3 q4 q5 p0 p1 p2 z0 z1 z2 z3 hb
        by_cases h5 : y5 = 5
        · have hp := HW2.out.1 h5
          injection hp with hp1 hp2
          subst hp1; subst hp2; subst h5
          clear HW2
          go_wp2
          go_ret2
          exact ⟨rfl, HE.out _ (HV4.out.alloc HV4.out.size _)⟩
        · have hp := HW2.out.2 h5
          injection hp with hp1 hp2
          subst hp1; subst hp2
          clear HW2
          have h6 : (y5 == 5) = false := by simpa using h5
          go_wp2
          go_ret2
          exact ⟨rfl, HE.out _ (HV4.out.alloc HV4.out.size _)⟩
      · have hp := HW.out.2.1 (by simp) e0
        injection hp with hp1 hp2
        subst hp1; subst hp2
        clear HW
        go_wp2
        go_ret2
        exact ⟨rfl, HE.out _ HV3.out⟩
set_option maxRecDepth 100000 in
set_option maxHeartbeats 4000000 in
theorem wPut2_c (c : Cfg) (f : Fr) (hc : c.ok) (hf : f.ok) (hb : f.body.size ≤ 1000000) (h1 : c.fm = 2) (hr : c.right = true) (w : World) :
    Calls Tryz.prog 15 #[c.val, f.val] w fun e w' => e = .returned (.tuple #[.string (wPut c f).1, .int .i64 (wPut c f).2]) ∧ Below w.heap.size w w' := by
  have hRi := (c.right_iff).1 hr
  have hz := wBytes_size c f hf hb
  have HN0 := Lib.hid (wNextP_c c none 0 140000 (wBytes c f).1 hc h1 (by omega) (by omega))
  have HF : Hid (∀ V, Calls Tryz.prog 62 #[f.val] V fun e w' => e = .returned (.bool (wFits c f)) ∧ Below V.heap.size V w') := Lib.hid (fun V => by have := fitsN_c f V; unfold wFits; rw [if_neg (by omega)]; exact this)
  have HY := Lib.hid (fun V => put2_c c f hf hb h1 V)
  clear hRi hc hf hb hz
  have hI := fm_at2
  unfold fmV fm2 fnV at hI
  have HR := Lib.hid (fun w => right_c c w)
  rw [hr] at HR
  have HW := Lib.hid (wPut_ways c f hr)
  have HN : Hid (∀ V, Calls Tryz.prog 71 #[c.val, .pointer none, .string (wBytes c f).1] V fun e w' => e = .returned (wRet (wRaw c (wBytes c f).1)) ∧ Below V.heap.size V w') := Lib.hid (fun V => (HN0.out V V (MS.refl trivial)).mono fun e w' ⟨h1, h2⟩ => ⟨h1, h2.to_below⟩)
  clear HN0
  unfold wRet Fr.val at *
  obtain ⟨X, hX⟩ : ∃ X, wRaw c (wBytes c f).1 = X := ⟨_, rfl⟩
  rw [hX] at HN HW
  clear hX
  obtain ⟨y5, ⟨y1, y2, y3⟩, y4, m⟩ := X
  obtain ⟨X, hX⟩ : ∃ X, wBytes c f = X := ⟨_, rfl⟩
  rw [hX] at HN HW HY
  clear hX
  obtain ⟨S, E⟩ := X
  obtain ⟨X, hX⟩ : ∃ X, wPut c f = X := ⟨_, rfl⟩
  rw [hX] at HW ⊢
  clear hX
  obtain ⟨P1, P2⟩ := X
  obtain ⟨ft, hft⟩ : ∃ ft, wFits c f = ft := ⟨_, rfl⟩
  rw [hft] at HW HF
  clear hft
  simp only at HN HW HY
  unfold Cfg.val at *
  obtain ⟨fm, mg, fr, un, de, it⟩ := c
  obtain ⟨id, nm, body⟩ := f
  simp only at *
  subst h1
  obtain ⟨W0, hW0⟩ : ∃ W0, (w.alloc (.cells #[.int .i64 2, .int .u32 mg, .int .i64 fr, .int .i64 un, .int .i64 de, .int .i64 it] 24)).alloc (.cells #[.int .u64 id, .string nm, .string body] 27) = W0 := ⟨_, rfl⟩
  have hN := two_new hW0
  have HO : Hid (Below w.heap.size w W0) := Lib.hid hN.2.1
  have HL : Hid (W0.heap.size = w.heap.size + 2) := Lib.hid hN.1
  have HKV : Hid (∀ V, Below W0.heap.size W0 V → (V.cell? ⟨w.heap.size, 0, none⟩ = some (.int .i64 2) ∧ V.cell? ⟨w.heap.size, 1, none⟩ = some (.int .u32 mg) ∧ V.cell? ⟨w.heap.size, 2, none⟩ = some (.int .i64 fr) ∧ V.cell? ⟨w.heap.size, 3, none⟩ = some (.int .i64 un) ∧ V.cell? ⟨w.heap.size, 4, none⟩ = some (.int .i64 de) ∧ V.cell? ⟨w.heap.size, 5, none⟩ = some (.int .i64 it))) := Lib.hid (fun V hV => by
    have hB := hN.2.2.1.keep hV (by omega)
    exact ⟨hB.cell 0, hB.cell 1, hB.cell 2, hB.cell 3, hB.cell 4, hB.cell 5⟩)
  have HKF : Hid (∀ V, Below W0.heap.size W0 V → (V.cell? ⟨w.heap.size + 1, 0, none⟩ = some (.int .u64 id) ∧ V.cell? ⟨w.heap.size + 1, 1, none⟩ = some (.string nm) ∧ V.cell? ⟨w.heap.size + 1, 2, none⟩ = some (.string body))) := Lib.hid (fun V hV => by
    have hB := hN.2.2.2.keep hV (by omega)
    exact ⟨hB.cell 0, hB.cell 1, hB.cell 2⟩)
  have HW0 := Lib.hid hW0
  clear hW0 hN
  go_enter Tryz.func15, Tryz.ntmps15
  go_wp2_with fail
  rw [HW0.out]
  refine (HR.out _).mono ?_
  rintro e w1 ⟨rfl, hb1⟩
  have HM1 : Hid (Below W0.heap.size W0 w1) := Lib.hid hb1
  clear hb1
  obtain ⟨q0, q1, q2, q3, q4, q5⟩ := HKV.out w1 HM1.out
  have HZ1 := Lib.hid HM1.out.size
  have HFa : Hid (Calls Tryz.prog 45 #[] (w1.alloc (.cells #[.nilFunc, .nilFunc, .nilFunc, .nilFunc] 83)).drew fun e w' => e = .returned fmV ∧ Below W0.heap.size W0 w' ∧ Blk w' w1.heap.size 83 #[.nilFunc, .nilFunc, .nilFunc, .nilFunc]) := Lib.hid ((formats_c _).mono fun e w' ⟨h1, h2⟩ => ⟨h1, ((HM1.out.alloc HZ1.out _).drew).trans (h2.mono (by have := HZ1.out; simp; omega)), (Blk.new w1 _ _).drew.keep h2 (by simp)⟩)
  have HF0 : Hid (Calls Tryz.prog 45 #[] w1.drew fun e w' => e = .returned fmV ∧ Below W0.heap.size W0 w') := Lib.hid ((formats_c _).mono fun e w' ⟨h1, h2⟩ => ⟨h1, HM1.out.drew.trans (h2.mono HZ1.out)⟩)
  unfold fmV fnV at HFa HF0
  clear HR
  go_upto_region 3 with fail
  go_cut [6] (fun v wx => ∃ b9 : Nat, v = .pointer (some ⟨b9, 0, none⟩) ∧ Hid (W0.heap.size ≤ b9) ∧ Hid (Blk wx b9 83 #[.func (.func 62) #[] #[], .func (.func 69) #[] #[], .func (.func 71) #[] #[], .func (.func 73) #[] #[]]) ∧ Hid (Below W0.heap.size W0 wx))
  case first =>
    go_wp2_with fail
    go_region_held3 (fun V => V.cell? ⟨w.heap.size, 0, none⟩ = some (.int .i64 2) ∧ V.cell? ⟨w.heap.size, 1, none⟩ = some (.int .u32 mg) ∧ V.cell? ⟨w.heap.size, 2, none⟩ = some (.int .i64 fr) ∧ V.cell? ⟨w.heap.size, 3, none⟩ = some (.int .i64 un) ∧ V.cell? ⟨w.heap.size, 4, none⟩ = some (.int .i64 de) ∧ V.cell? ⟨w.heap.size, 5, none⟩ = some (.int .i64 it))
      (first | exact HKV.out _ HM1.out | exact HKV.out _ HM1.out.drew | exact HKV.out _ ((HM1.out.alloc HZ1.out _).drew) | exact HKV.out _ hv | exact HKV.out _ (hv.alloc hv.size _) | exact HKV.out _ ((((hv.setCell HZ1.out _).setCell HZ1.out _).setCell HZ1.out _).setCell HZ1.out _))
      (first
        | (go_at_call 45; ((with_reducible refine HFa.out.mono ?_); rintro e w' ⟨rfl, hv, hz⟩; obtain ⟨z0, z1, z2, z3, zf0, zf1, zf2, zf3⟩ := blk4f hz))
        | (go_at_call 45; ((with_reducible refine HF0.out.mono ?_); rintro e w' ⟨rfl, hv⟩)))
    all_goals
      go_wp2_with fail
      go_meet
      case rel =>
        first
          | exact ⟨_, rfl, Lib.hid hv.size, Lib.hid (Blk.new _ _ _), Lib.hid (hv.alloc hv.size _)⟩
          | exact ⟨_, rfl, HZ1, Lib.hid ((((hz.set 0 _).set 1 _).set 2 _).set 3 _), Lib.hid ((((hv.setCell HZ1.out _).setCell HZ1.out _).setCell HZ1.out _).setCell HZ1.out _)⟩
  case rest =>
    obtain ⟨b9, rfl, HZ9, HK9, HM9⟩ := hcut
    have HKK : Hid (∀ V, Below wc.heap.size wc V → Below W0.heap.size W0 V ∧ Blk V b9 83 #[.func (.func 62) #[] #[], .func (.func 69) #[] #[], .func (.func 71) #[] #[], .func (.func 73) #[] #[]]) := Lib.hid (fun V hV => ⟨HM9.out.trans (hV.mono HM9.out.size), HK9.out.keep hV HK9.out.lt⟩)
    have HE : Hid (∀ V, Below W0.heap.size W0 V → Below w.heap.size w V) := Lib.hid (fun V hV => HO.out.trans (hV.mono (by have := HL.out; omega)))
    clear HFa HF0 q0 q1 q2 q3 q4 q5 hI
    obtain ⟨q0, q1, q2, q3, q4, q5⟩ := HKV.out wc HM9.out
    obtain ⟨p0, p1, p2⟩ := HKF.out wc HM9.out
    obtain ⟨z0, z1, z2, z3, _⟩ := blk4f HK9.out
    go_wp2_with fail
    refine (HF.out _).mono ?_
    rintro e w2 ⟨rfl, hb⟩
    obtain ⟨hV2, hB2⟩ := HKK.out w2 hb
    have HB2 := Lib.hid hb
    have HV2 := Lib.hid hV2
    clear q0 q1 q2 q3 q4 q5 p0 p1 p2 z0 z1 z2 z3 hb
    obtain ⟨q0, q1, q2, q3, q4, q5⟩ := HKV.out w2 hV2
    obtain ⟨p0, p1, p2⟩ := HKF.out w2 hV2
    obtain ⟨z0, z1, z2, z3, _⟩ := blk4f hB2
    clear hV2 hB2
    cases ft with
    | false =>
      have hp := HW.out.1 (by simp)
      injection hp with hp1 hp2
      subst hp1; subst hp2
      clear HW
      go_wp2
      go_ret2
      exact ⟨rfl, HE.out _ HV2.out⟩
    | true =>
      go_wp2_with fail
      refine (HY.out _).mono ?_
      rintro e w3 ⟨rfl, hb⟩
      have HB3 : Hid (Below wc.heap.size wc w3) := Lib.hid (HB2.out.trans (hb.mono HB2.out.size))
      obtain ⟨hV3, hB3⟩ := HKK.out w3 HB3.out
      have HV3 := Lib.hid hV3
      clear q0 q1 q2 q3 q4 q5 p0 p1 p2 z0 z1 z2 z3 hb
      obtain ⟨q0, q1, q2, q3, q4, q5⟩ := HKV.out w3 hV3
      obtain ⟨p0, p1, p2⟩ := HKF.out w3 hV3
      obtain ⟨z0, z1, z2, z3, _⟩ := blk4f hB3
      clear hV3 hB3
      rcases beq0 E with ⟨e0, e1, e2⟩ | ⟨e0, e1, e2⟩
      · subst e0
        have HW2 := Lib.hid (And.intro (HW.out.2.2.1 (by simp) (by simp)) (HW.out.2.2.2 (by simp) (by simp)))
        clear HW
        go_wp2_with fail
        refine (HN.out _).mono ?_
        rintro e w4 ⟨rfl, hb⟩
        have HV4 : Hid (Below W0.heap.size W0 w4) := Lib.hid (HV3.out.trans (hb.mono HV3.out.size))
        clear q0 q1 q2 q3 q4 q5 p0 p1 p2 z0 z1 z2 z3 hb
        by_cases h5 : y5 = 5
        · have hp := HW2.out.1 h5
          injection hp with hp1 hp2
          subst hp1; subst hp2; subst h5
          clear HW2
          go_wp2
          go_ret2
          exact ⟨rfl, HE.out _ (HV4.out.alloc HV4.out.size _)⟩
        · have hp := HW2.out.2 h5
          injection hp with hp1 hp2
          subst hp1; subst hp2
          clear HW2
          have h6 : (y5 == 5) = false := by simpa using h5
          go_wp2
          go_ret2
          exact ⟨rfl, HE.out _ (HV4.out.alloc HV4.out.size _)⟩
      · have hp := HW.out.2.1 (by simp) e0
        injection hp with hp1 hp2
        subst hp1; subst hp2
        clear HW
        go_wp2
        go_ret2
        exact ⟨rfl, HE.out _ HV3.out⟩
set_option maxRecDepth 100000 in
set_option maxHeartbeats 4000000 in
theorem wPut3_c (c : Cfg) (f : Fr) (hc : c.ok) (hf : f.ok) (hb : f.body.size ≤ 1000000) (h1 : c.fm = 3) (hr : c.right = true) (w : World) :
    Calls Tryz.prog 15 #[c.val, f.val] w fun e w' => e = .returned (.tuple #[.string (wPut c f).1, .int .i64 (wPut c f).2]) ∧ Below w.heap.size w w' := by
  have hRi := (c.right_iff).1 hr
  have hz := wBytes_size c f hf hb
  have HN0 := Lib.hid (wNextK_c c none 0 140000 (wBytes c f).1 hc h1 (by omega) (by omega) (by omega) (by omega))
  have HF : Hid (∀ V, Calls Tryz.prog 62 #[f.val] V fun e w' => e = .returned (.bool (wFits c f)) ∧ Below V.heap.size V w') := Lib.hid (fun V => by have := fitsN_c f V; unfold wFits; rw [if_neg (by omega)]; exact this)
  have HY := Lib.hid (fun V => put3_c c f hf (by omega) h1 V)
  clear hRi hc hf hb hz
  have hI := fm_at3
  unfold fmV fm3 fnV at hI
  have HR := Lib.hid (fun w => right_c c w)
  rw [hr] at HR
  have HW := Lib.hid (wPut_ways c f hr)
  have HN : Hid (∀ V, Calls Tryz.prog 76 #[c.val, .pointer none, .string (wBytes c f).1] V fun e w' => e = .returned (wRet (wRaw c (wBytes c f).1)) ∧ Below V.heap.size V w') := Lib.hid (fun V => (HN0.out V V (MS.refl trivial)).mono fun e w' ⟨h1, h2⟩ => ⟨h1, h2.to_below⟩)
  clear HN0
  unfold wRet Fr.val at *
  obtain ⟨X, hX⟩ : ∃ X, wRaw c (wBytes c f).1 = X := ⟨_, rfl⟩
  rw [hX] at HN HW
  clear hX
  obtain ⟨y5, ⟨y1, y2, y3⟩, y4, m⟩ := X
  obtain ⟨X, hX⟩ : ∃ X, wBytes c f = X := ⟨_, rfl⟩
  rw [hX] at HN HW HY
  clear hX
  obtain ⟨S, E⟩ := X
  obtain ⟨X, hX⟩ : ∃ X, wPut c f = X := ⟨_, rfl⟩
  rw [hX] at HW ⊢
  clear hX
  obtain ⟨P1, P2⟩ := X
  obtain ⟨ft, hft⟩ : ∃ ft, wFits c f = ft := ⟨_, rfl⟩
  rw [hft] at HW HF
  clear hft
  simp only at HN HW HY
  unfold Cfg.val at *
  obtain ⟨fm, mg, fr, un, de, it⟩ := c
  obtain ⟨id, nm, body⟩ := f
  simp only at *
  subst h1
  obtain ⟨W0, hW0⟩ : ∃ W0, (w.alloc (.cells #[.int .i64 3, .int .u32 mg, .int .i64 fr, .int .i64 un, .int .i64 de, .int .i64 it] 24)).alloc (.cells #[.int .u64 id, .string nm, .string body] 27) = W0 := ⟨_, rfl⟩
  have hN := two_new hW0
  have HO : Hid (Below w.heap.size w W0) := Lib.hid hN.2.1
  have HL : Hid (W0.heap.size = w.heap.size + 2) := Lib.hid hN.1
  have HKV : Hid (∀ V, Below W0.heap.size W0 V → (V.cell? ⟨w.heap.size, 0, none⟩ = some (.int .i64 3) ∧ V.cell? ⟨w.heap.size, 1, none⟩ = some (.int .u32 mg) ∧ V.cell? ⟨w.heap.size, 2, none⟩ = some (.int .i64 fr) ∧ V.cell? ⟨w.heap.size, 3, none⟩ = some (.int .i64 un) ∧ V.cell? ⟨w.heap.size, 4, none⟩ = some (.int .i64 de) ∧ V.cell? ⟨w.heap.size, 5, none⟩ = some (.int .i64 it))) := Lib.hid (fun V hV => by
    have hB := hN.2.2.1.keep hV (by omega)
    exact ⟨hB.cell 0, hB.cell 1, hB.cell 2, hB.cell 3, hB.cell 4, hB.cell 5⟩)
  have HKF : Hid (∀ V, Below W0.heap.size W0 V → (V.cell? ⟨w.heap.size + 1, 0, none⟩ = some (.int .u64 id) ∧ V.cell? ⟨w.heap.size + 1, 1, none⟩ = some (.string nm) ∧ V.cell? ⟨w.heap.size + 1, 2, none⟩ = some (.string body))) := Lib.hid (fun V hV => by
    have hB := hN.2.2.2.keep hV (by omega)
    exact ⟨hB.cell 0, hB.cell 1, hB.cell 2⟩)
  have HW0 := Lib.hid hW0
  clear hW0 hN
  go_enter Tryz.func15, Tryz.ntmps15
  go_wp2_with fail
  rw [HW0.out]
  refine (HR.out _).mono ?_
  rintro e w1 ⟨rfl, hb1⟩
  have HM1 : Hid (Below W0.heap.size W0 w1) := Lib.hid hb1
  clear hb1
  obtain ⟨q0, q1, q2, q3, q4, q5⟩ := HKV.out w1 HM1.out
  have HZ1 := Lib.hid HM1.out.size
  have HFa : Hid (Calls Tryz.prog 45 #[] (w1.alloc (.cells #[.nilFunc, .nilFunc, .nilFunc, .nilFunc] 83)).drew fun e w' => e = .returned fmV ∧ Below W0.heap.size W0 w' ∧ Blk w' w1.heap.size 83 #[.nilFunc, .nilFunc, .nilFunc, .nilFunc]) := Lib.hid ((formats_c _).mono fun e w' ⟨h1, h2⟩ => ⟨h1, ((HM1.out.alloc HZ1.out _).drew).trans (h2.mono (by have := HZ1.out; simp; omega)), (Blk.new w1 _ _).drew.keep h2 (by simp)⟩)
  have HF0 : Hid (Calls Tryz.prog 45 #[] w1.drew fun e w' => e = .returned fmV ∧ Below W0.heap.size W0 w') := Lib.hid ((formats_c _).mono fun e w' ⟨h1, h2⟩ => ⟨h1, HM1.out.drew.trans (h2.mono HZ1.out)⟩)
  unfold fmV fnV at HFa HF0
  clear HR
  go_upto_region 3 with fail
  go_cut [6] (fun v wx => ∃ b9 : Nat, v = .pointer (some ⟨b9, 0, none⟩) ∧ Hid (W0.heap.size ≤ b9) ∧ Hid (Blk wx b9 83 #[.func (.func 62) #[] #[], .func (.func 74) #[] #[], .func (.func 76) #[] #[], .func (.func 73) #[] #[]]) ∧ Hid (Below W0.heap.size W0 wx))
  case first =>
    go_wp2_with fail
    go_region_held3 (fun V => V.cell? ⟨w.heap.size, 0, none⟩ = some (.int .i64 3) ∧ V.cell? ⟨w.heap.size, 1, none⟩ = some (.int .u32 mg) ∧ V.cell? ⟨w.heap.size, 2, none⟩ = some (.int .i64 fr) ∧ V.cell? ⟨w.heap.size, 3, none⟩ = some (.int .i64 un) ∧ V.cell? ⟨w.heap.size, 4, none⟩ = some (.int .i64 de) ∧ V.cell? ⟨w.heap.size, 5, none⟩ = some (.int .i64 it))
      (first | exact HKV.out _ HM1.out | exact HKV.out _ HM1.out.drew | exact HKV.out _ ((HM1.out.alloc HZ1.out _).drew) | exact HKV.out _ hv | exact HKV.out _ (hv.alloc hv.size _) | exact HKV.out _ ((((hv.setCell HZ1.out _).setCell HZ1.out _).setCell HZ1.out _).setCell HZ1.out _))
      (first
        | (go_at_call 45; ((with_reducible refine HFa.out.mono ?_); rintro e w' ⟨rfl, hv, hz⟩; obtain ⟨z0, z1, z2, z3, zf0, zf1, zf2, zf3⟩ := blk4f hz))
        | (go_at_call 45; ((with_reducible refine HF0.out.mono ?_); rintro e w' ⟨rfl, hv⟩)))
    all_goals
      go_wp2_with fail
      go_meet
      case rel =>
        first
          | exact ⟨_, rfl, Lib.hid hv.size, Lib.hid (Blk.new _ _ _), Lib.hid (hv.alloc hv.size _)⟩
          | exact ⟨_, rfl, HZ1, Lib.hid ((((hz.set 0 _).set 1 _).set 2 _).set 3 _), Lib.hid ((((hv.setCell HZ1.out _).setCell HZ1.out _).setCell HZ1.out _).setCell HZ1.out _)⟩
  case rest =>
    obtain ⟨b9, rfl, HZ9, HK9, HM9⟩ := hcut
    have HKK : Hid (∀ V, Below wc.heap.size wc V → Below W0.heap.size W0 V ∧ Blk V b9 83 #[.func (.func 62) #[] #[], .func (.func 74) #[] #[], .func (.func 76) #[] #[], .func (.func 73) #[] #[]]) := Lib.hid (fun V hV => ⟨HM9.out.trans (hV.mono HM9.out.size), HK9.out.keep hV HK9.out.lt⟩)
    have HE : Hid (∀ V, Below W0.heap.size W0 V → Below w.heap.size w V) := Lib.hid (fun V hV => HO.out.trans (hV.mono (by have := HL.out; omega)))
    clear HFa HF0 q0 q1 q2 q3 q4 q5 hI
    obtain ⟨q0, q1, q2, q3, q4, q5⟩ := HKV.out wc HM9.out
    obtain ⟨p0, p1, p2⟩ := HKF.out wc HM9.out
    obtain ⟨z0, z1, z2, z3, _⟩ := blk4f HK9.out
    go_wp2_with fail
    refine (HF.out _).mono ?_
    rintro e w2 ⟨rfl, hb⟩
    obtain ⟨hV2, hB2⟩ := HKK.out w2 hb
    have HB2 := Lib.hid hb
    have HV2 := Lib.hid hV2
    clear q0 q1 q2 q3 q4 q5 p0 p1 p2 z0 z1 z2 z3 hb
    obtain ⟨q0, q1, q2, q3, q4, q5⟩ := HKV.out w2 hV2
    obtain ⟨p0, p1, p2⟩ := HKF.out w2 hV2
    obtain ⟨z0, z1, z2, z3, _⟩ := blk4f hB2
    clear hV2 hB2
    cases ft with
    | false =>
      have hp := HW.out.1 (by simp)
      injection hp with hp1 hp2
      subst hp1; subst hp2
      clear HW
      go_wp2
      go_ret2
      exact ⟨rfl, HE.out _ HV2.out⟩
    | true =>
      go_wp2_with fail
      refine (HY.out _).mono ?_
      rintro e w3 ⟨rfl, hb⟩
      have HB3 : Hid (Below wc.heap.size wc w3) := Lib.hid (HB2.out.trans (hb.mono HB2.out.size))
      obtain ⟨hV3, hB3⟩ := HKK.out w3 HB3.out
      have HV3 := Lib.hid hV3
      clear q0 q1 q2 q3 q4 q5 p0 p1 p2 z0 z1 z2 z3 hb
      obtain ⟨q0, q1, q2, q3, q4, q5⟩ := HKV.out w3 hV3
      obtain ⟨p0, p1, p2⟩ := HKF.out w3 hV3
      obtain ⟨z0, z1, z2, z3, _⟩ := blk4f hB3
      clear hV3 hB3
      rcases beq0 E with ⟨e0, e1, e2⟩ | ⟨e0, e1, e2⟩
      · subst e0
        have HW2 := Lib.hid (And.intro (HW.out.2.2.1 (by simp) (by simp)) (HW.out.2.2.2 (by simp) (by simp)))
        clear HW
        go_wp2_with fail
        refine (HN.out _).mono ?_
        rintro e w4 ⟨rfl, hb⟩
        have HV4 : Hid (Below W0.heap.size W0 w4) := Lib.hid (HV3.out.trans (hb.mono HV3.out.size))
        clear q0 q1 q2 q3 q4 q5 p0 p1 p2 z0 z1 z2 z3 hb
        by_cases h5 : y5 = 5
        · have hp := HW2.out.1 h5
          injection hp with hp1 hp2
          subst hp1; subst hp2; subst h5
          clear HW2
          go_wp2
          go_ret2
          exact ⟨rfl, HE.out _ (HV4.out.alloc HV4.out.size _)⟩
        · have hp := HW2.out.2 h5
          injection hp with hp1 hp2
          subst hp1; subst hp2
          clear HW2
          have h6 : (y5 == 5) = false := by simpa using h5
          go_wp2
          go_ret2
          exact ⟨rfl, HE.out _ (HV4.out.alloc HV4.out.size _)⟩
      · have hp := HW.out.2.1 (by simp) e0
        injection hp with hp1 hp2
        subst hp1; subst hp2
        clear HW
        go_wp2
        go_ret2
        exact ⟨rfl, HE.out _ HV3.out⟩
set_option maxRecDepth 100000 in
set_option maxHeartbeats 1000000 in
/-- wire.Put tells wPut. -/
theorem wPut_c (c : Cfg) (f : Fr) (hc : c.ok) (hf : f.ok) (hb : f.body.size ≤ 1000000) (w : World) :
    Calls Tryz.prog 15 #[c.val, f.val] w fun e w' => e = .returned (.tuple #[.string (wPut c f).1, .int .i64 (wPut c f).2]) ∧ Below w.heap.size w w' := by
  cases hr : c.right with
  | true =>
    have hRi := (c.right_iff).1 hr
    rcases (by omega : c.fm = 1 ∨ c.fm = 2 ∨ c.fm = 3) with h | h | h
    · exact wPut1_c c f hc hf hb h hr w
    · exact wPut2_c c f hc hf hb h hr w
    · exact wPut3_c c f hc hf hb h hr w
  | false =>
    have hE : wPut c f = (ByteArray.empty, 1) := by unfold wPut; rw [if_neg (by simp [hr])]
    have HR := Lib.hid (fun w => right_c c w)
    rw [hr] at HR
    rw [hE]
    clear hE hr hc hf hb
    unfold Cfg.val Fr.val at *
    go_enter Tryz.func15, Tryz.ntmps15
    go_wp2_with fail
    refine (HR.out _).mono ?_
    rintro e w1 ⟨rfl, hb1⟩
    have hb2 : Below w.heap.size w w1 := (((Below.refl w.heap.size w).alloc (Nat.le_refl _) _).alloc (by simp) _).trans (hb1.mono (by simp; omega))
    clear hb1
    go_wp2
    go_ret2
    exact ⟨rfl, hb2⟩
end Go.Proofs.YtebllmpdlapefaaGreatDoor
namespace Go.Proofs.YtebllmpdlapefaaGreatDoor
set_option linter.unusedVariables false
set_option linter.unusedSimpArgs false
open Go.RowKit

def exC : Cfg := ⟨2, 0, 9, 1, 1, 1⟩
def exF : Fr := ⟨5, ByteArray.empty, ⟨#[97, 98]⟩⟩
theorem wPut_ex : wPut exC exF = (⟨#[3, 5, 97, 98]⟩, 0) := by decide +kernel
theorem wMost_ex : wMost exC = 10 := by decide +kernel
theorem exC_ok : exC.ok := ⟨by decide, by decide, by decide, by decide, by decide, by decide⟩
theorem exF_ok : exF.ok := ⟨by decide, by decide, by decide⟩
set_option maxRecDepth 100000 in
set_option maxHeartbeats 1000000 in
theorem wireAlive (w : World) : Calls Tryz.prog 13 #[] w fun e w' => e = .returned (.bool true) ∧ Below w.heap.size w w' := by
  have HP : Hid (∀ V, Calls Tryz.prog 15 #[.agg #[.int .i64 2, .int .u32 0, .int .i64 9, .int .i64 1, .int .i64 1, .int .i64 1], .agg #[.int .u64 5, .string ⟨#[]⟩, .string ⟨#[97, 98]⟩]] V fun e w' => e = .returned (.tuple #[.string ⟨#[3, 5, 97, 98]⟩, .int .i64 0]) ∧ Below V.heap.size V w') := Lib.hid (fun V => by
    have := wPut_c exC exF exC_ok exF_ok (by decide) V
    rw [wPut_ex] at this
    exact this)
  have HM : Hid (∀ V, Calls Tryz.prog 19 #[.agg #[.int .i64 2, .int .u32 0, .int .i64 9, .int .i64 1, .int .i64 1, .int .i64 1]] V fun e w' => e = .returned (.int .i64 10) ∧ Below V.heap.size V w') := Lib.hid (fun V => by
    have := wMost_c exC V
    rw [wMost_ex] at this
    exact this)
  have hs : ((⟨#[3, 5, 97, 98]⟩ : ByteArray) == ⟨#[3, 5, 97, 98]⟩) = true := by decide
  go_enter Tryz.func13, Tryz.ntmps13
  go_wp2_with fail
  refine (HP.out _).mono ?_
  rintro e w1 ⟨rfl, hb⟩
  have HB : Hid (Below w.heap.size w w1) := Lib.hid (((Below.refl w.heap.size w).alloc (Nat.le_refl _) _).trans (hb.mono (by simp)))
  have hK : Blk w1 w.heap.size 24 #[.int .i64 2, .int .u32 0, .int .i64 9, .int .i64 1, .int .i64 1, .int .i64 1] := (hb.block w.heap.size (by simp)).trans (Blk.new w _ _)
  have q0 := hK.cell 0
  have q1 := hK.cell 1
  have q2 := hK.cell 2
  have q3 := hK.cell 3
  have q4 := hK.cell 4
  have q5 := hK.cell 5
  simp at q0 q1 q2 q3 q4 q5
  clear hb hK
  go_wp2_with fail
  refine (HM.out _).mono ?_
  rintro e w2 ⟨rfl, hb⟩
  have HB2 : Hid (Below w.heap.size w w2) := Lib.hid (HB.out.trans (hb.mono HB.out.size))
  clear hb
  go_wp2
  go_ret
  exact ⟨rfl, HB2.out⟩
end Go.Proofs.YtebllmpdlapefaaGreatDoor
namespace Go.Proofs.YtebllmpdlapefaaGreatDoor
set_option linter.unusedVariables false
set_option linter.unusedSimpArgs false
open Go.RowKit

def rRet (x : Int × Fr × Nat × Nat) : Value := .tuple #[x.2.1.val, .int .i64 x.2.2.1, .int .i64 x.2.2.2, .int .i64 x.1]
theorem three_new {w W0 : World} {t1 t2 t3 : TypeId} {a b c : Array Value} (h : ((w.alloc (.cells a t1)).alloc (.cells b t2)).alloc (.cells c t3) = W0) : W0.heap.size = w.heap.size + 3 ∧ Below w.heap.size w W0 ∧ Blk W0 w.heap.size t1 a ∧ Blk W0 (w.heap.size + 1) t2 b ∧ Blk W0 (w.heap.size + 1 + 1) t3 c := by
  obtain ⟨h1, h2, h3, h4⟩ := two_new (w := w) (t1 := t1) (t2 := t2) (a := a) (b := b) rfl
  subst h
  refine ⟨by simp, h2.alloc (by omega) _, h3.alloc _, h4.alloc _, ?_⟩
  have := Blk.new ((w.alloc (.cells a t1)).alloc (.cells b t2)) t3 c
  rwa [h1] at this
set_option maxRecDepth 100000 in
set_option maxHeartbeats 4000000 in
theorem rNx1_c (c : Cfg) (s : ByteArray) (hc : c.ok) (h1 : c.fm = 1) (hr : c.right = true) (hs : s.size ≤ 1099511627776) (w : World) :
    Calls Tryz.prog 23 #[keyV, c.val, .string s] w fun e w' => e = .returned (rRet (wNext c s)) ∧ Below w.heap.size w w' := by
  have hR := (c.right_iff).1 hr
  rw [wNext_right hr]
  have hX : wRaw c s = ((cnNext c.mg c.fr s).1, ⟨0, (cnNext c.mg c.fr s).2.1, (cnNext c.mg c.fr s).2.2.1⟩, (cnNext c.mg c.fr s).2.2.2, 0) := by unfold wRaw; rw [if_pos h1]
  have HN := Lib.hid (fun V => ref14Next_c c.mg c.fr s V hc.mg hs hc.fr (.inr (by omega)))
  rw [hX]
  clear hX hc hR
  generalize cnNext c.mg c.fr s = X at *
  obtain ⟨y5, y2, y3, y4⟩ := X
  unfold cnRet rRet Fr.val at *
  simp only at *
  have HI := Lib.hid (info_key' 64)
  have HR := Lib.hid (fun w => refRight17_c c w)
  rw [hr] at HR
  unfold keyV at *
  generalize kC 64 = KL at *
  unfold Cfg.val at *
  obtain ⟨fm, mg, fr, un, de, it⟩ := c
  simp only at *
  (try subst h1)
  obtain ⟨W0, hW0⟩ : ∃ W0, ((w.alloc (.cells KL 32)).alloc (.cells #[.int .i64 1, .int .u32 mg, .int .i64 fr, .int .i64 un, .int .i64 de, .int .i64 it] 24)).alloc (.cells #[.int .u64 0, .string ⟨#[]⟩, .string ⟨#[]⟩] 27) = W0 := ⟨_, rfl⟩
  have hN := three_new hW0
  have HO : Hid (Below w.heap.size w W0) := Lib.hid hN.2.1
  have HL : Hid (W0.heap.size = w.heap.size + 3) := Lib.hid hN.1
  have HKV : Hid (∀ V, Below W0.heap.size W0 V → (V.cell? ⟨w.heap.size + 1, 0, none⟩ = some (.int .i64 1) ∧ V.cell? ⟨w.heap.size + 1, 1, none⟩ = some (.int .u32 mg) ∧ V.cell? ⟨w.heap.size + 1, 2, none⟩ = some (.int .i64 fr) ∧ V.cell? ⟨w.heap.size + 1, 3, none⟩ = some (.int .i64 un) ∧ V.cell? ⟨w.heap.size + 1, 4, none⟩ = some (.int .i64 de) ∧ V.cell? ⟨w.heap.size + 1, 5, none⟩ = some (.int .i64 it))) := Lib.hid (fun V hV => by
    have hB := hN.2.2.2.1.keep hV (by omega)
    exact ⟨hB.cell 0, hB.cell 1, hB.cell 2, hB.cell 3, hB.cell 4, hB.cell 5⟩)
  have HKK : Hid (∀ V, Below W0.heap.size W0 V → Blk V w.heap.size 32 KL ∧ Blk V (w.heap.size + 1 + 1) 27 #[.int .u64 0, .string ⟨#[]⟩, .string ⟨#[]⟩]) := Lib.hid (fun V hV => ⟨hN.2.2.1.keep hV (by omega), hN.2.2.2.2.keep hV (by omega)⟩)
  have HE : Hid (∀ V, Below W0.heap.size W0 V → Below w.heap.size w V) := Lib.hid (fun V hV => HO.out.trans (hV.mono (by have := HL.out; omega)))
  have HW0 := Lib.hid hW0
  clear hW0 hN
  go_enter Tryz.func23, Tryz.ntmps23
  go_wp2_with fail
  rw [HW0.out]
  refine (HR.out _).mono ?_
  rintro e w1 ⟨rfl, hb1⟩
  have HM1 : Hid (Below W0.heap.size W0 w1) := Lib.hid hb1
  obtain ⟨q0, q1, q2, q3, q4, q5⟩ := HKV.out w1 HM1.out
  obtain ⟨hKK, hFF⟩ := HKK.out w1 HM1.out
  have HKB := Lib.hid hKK
  have HFB := Lib.hid hFF
  clear hb1 hKK hFF HR
  obtain ⟨g0, g1, g2, f0, f1, f2⟩ := blk3 HFB.out
  go_wp2_with (refine wpList_load_row (by rfl) 32 (.tmp 3) (by rfl) w.heap.size (by rfl) 32 KL (0, 0) _ HKB.out Tryz.underlying32 rfl HI.out ?_)
  refine (HN.out _).mono ?_
  rintro e w2 ⟨rfl, hb2⟩
  have HM2 : Hid (Below W0.heap.size W0 w2) := Lib.hid (HM1.out.trans (hb2.mono HM1.out.size))
  obtain ⟨_, hFF⟩ := HKK.out w2 HM2.out
  have HFC := Lib.hid hFF
  have hlt : w.heap.size + 1 + 1 < w2.heap.size := HFC.out.lt
  clear hb2 hFF q0 q1 q2 q3 q4 q5 g0 g1 g2 f0 f1 f2
  obtain ⟨g0, g1, g2, f0, f1, f2⟩ := blk3 HFC.out
  go_wp2
  refine bodyPost_ret (v := .tuple #[.agg #[.int .u64 0, .string y2, .string y3], .int .i64 y4, .int .i64 0, .int .i64 y5]) (by simp [results, Tryz.results23, go_sem, empB, set3_al HFC.out]) rfl ?_
  exact ⟨rfl, (below3 (HE.out _ HM2.out) (by omega) _ _ _).alloc (by simp [World.setCell]; omega) _⟩
set_option maxRecDepth 100000 in
set_option maxHeartbeats 4000000 in
theorem rNx2_c (c : Cfg) (s : ByteArray) (hc : c.ok) (h1 : c.fm = 2) (hr : c.right = true) (hs : s.size ≤ 1099511627776) (w : World) :
    Calls Tryz.prog 23 #[keyV, c.val, .string s] w fun e w' => e = .returned (rRet (wNext c s)) ∧ Below w.heap.size w w' := by
  have hR := (c.right_iff).1 hr
  rw [wNext_right hr]
  have hX : wRaw c s = ((plNext c.fr s).1, ⟨(plNext c.fr s).2.1, ByteArray.empty, (plNext c.fr s).2.2.1⟩, (plNext c.fr s).2.2.2, 0) := by unfold wRaw; rw [if_neg (by omega), if_pos h1]
  have HN := Lib.hid (fun V => refPlainNext_c c.fr s V (by omega) hc.fr.1 hc.fr.2)
  rw [hX]
  clear hX hc hR
  generalize plNext c.fr s = X at *
  obtain ⟨y5, y1, y3, y4⟩ := X
  unfold NextEnd at HN
  unfold rRet Fr.val at *
  simp only at *
  have HI := Lib.hid (info_key' 64)
  have HR := Lib.hid (fun w => refRight17_c c w)
  rw [hr] at HR
  unfold keyV at *
  generalize kC 64 = KL at *
  unfold Cfg.val at *
  obtain ⟨fm, mg, fr, un, de, it⟩ := c
  simp only at *
  (try subst h1)
  obtain ⟨W0, hW0⟩ : ∃ W0, ((w.alloc (.cells KL 32)).alloc (.cells #[.int .i64 2, .int .u32 mg, .int .i64 fr, .int .i64 un, .int .i64 de, .int .i64 it] 24)).alloc (.cells #[.int .u64 0, .string ⟨#[]⟩, .string ⟨#[]⟩] 27) = W0 := ⟨_, rfl⟩
  have hN := three_new hW0
  have HO : Hid (Below w.heap.size w W0) := Lib.hid hN.2.1
  have HL : Hid (W0.heap.size = w.heap.size + 3) := Lib.hid hN.1
  have HKV : Hid (∀ V, Below W0.heap.size W0 V → (V.cell? ⟨w.heap.size + 1, 0, none⟩ = some (.int .i64 2) ∧ V.cell? ⟨w.heap.size + 1, 1, none⟩ = some (.int .u32 mg) ∧ V.cell? ⟨w.heap.size + 1, 2, none⟩ = some (.int .i64 fr) ∧ V.cell? ⟨w.heap.size + 1, 3, none⟩ = some (.int .i64 un) ∧ V.cell? ⟨w.heap.size + 1, 4, none⟩ = some (.int .i64 de) ∧ V.cell? ⟨w.heap.size + 1, 5, none⟩ = some (.int .i64 it))) := Lib.hid (fun V hV => by
    have hB := hN.2.2.2.1.keep hV (by omega)
    exact ⟨hB.cell 0, hB.cell 1, hB.cell 2, hB.cell 3, hB.cell 4, hB.cell 5⟩)
  have HKK : Hid (∀ V, Below W0.heap.size W0 V → Blk V w.heap.size 32 KL ∧ Blk V (w.heap.size + 1 + 1) 27 #[.int .u64 0, .string ⟨#[]⟩, .string ⟨#[]⟩]) := Lib.hid (fun V hV => ⟨hN.2.2.1.keep hV (by omega), hN.2.2.2.2.keep hV (by omega)⟩)
  have HE : Hid (∀ V, Below W0.heap.size W0 V → Below w.heap.size w V) := Lib.hid (fun V hV => HO.out.trans (hV.mono (by have := HL.out; omega)))
  have HW0 := Lib.hid hW0
  clear hW0 hN
  go_enter Tryz.func23, Tryz.ntmps23
  go_wp2_with fail
  rw [HW0.out]
  refine (HR.out _).mono ?_
  rintro e w1 ⟨rfl, hb1⟩
  have HM1 : Hid (Below W0.heap.size W0 w1) := Lib.hid hb1
  obtain ⟨q0, q1, q2, q3, q4, q5⟩ := HKV.out w1 HM1.out
  obtain ⟨hKK, hFF⟩ := HKK.out w1 HM1.out
  have HKB := Lib.hid hKK
  have HFB := Lib.hid hFF
  clear hb1 hKK hFF HR
  obtain ⟨g0, g1, g2, f0, f1, f2⟩ := blk3 HFB.out
  go_wp2_with (refine wpList_load_row (by rfl) 32 (.tmp 3) (by rfl) w.heap.size (by rfl) 32 KL (0, 0) _ HKB.out Tryz.underlying32 rfl HI.out ?_)
  refine (HN.out _).mono ?_
  rintro e w2 ⟨rfl, hb2⟩
  have HM2 : Hid (Below W0.heap.size W0 w2) := Lib.hid (HM1.out.trans (hb2.mono HM1.out.size))
  obtain ⟨_, hFF⟩ := HKK.out w2 HM2.out
  have HFC := Lib.hid hFF
  have hlt : w.heap.size + 1 + 1 < w2.heap.size := HFC.out.lt
  clear hb2 hFF q0 q1 q2 q3 q4 q5 g0 g1 g2 f0 f1 f2
  obtain ⟨g0, g1, g2, f0, f1, f2⟩ := blk3 HFC.out
  go_wp2
  refine bodyPost_ret (v := .tuple #[.agg #[.int .u64 y1, .string ByteArray.empty, .string y3], .int .i64 y4, .int .i64 0, .int .i64 y5]) (by simp [results, Tryz.results23, go_sem, empB, set3_al HFC.out]) rfl ?_
  exact ⟨rfl, (below3 (HE.out _ HM2.out) (by omega) _ _ _).alloc (by simp [World.setCell]; omega) _⟩
set_option maxRecDepth 100000 in
set_option maxHeartbeats 4000000 in
theorem rNx3_c (c : Cfg) (s : ByteArray) (hc : c.ok) (h1 : c.fm = 3) (hr : c.right = true) (hs : s.size ≤ 1099511627776) (w : World) :
    Calls Tryz.prog 23 #[keyV, c.val, .string s] w fun e w' => e = .returned (rRet (wNext c s)) ∧ Below w.heap.size w w' := by
  have hR := (c.right_iff).1 hr
  rw [wNext_right hr]
  have hX : wRaw c s = ((pkNext c.fr c.un s).1, ⟨(pkNext c.fr c.un s).2.1, ByteArray.empty, (pkNext c.fr c.un s).2.2.1⟩, (pkNext c.fr c.un s).2.2.2.1, (pkNext c.fr c.un s).2.2.2.2) := by unfold wRaw; rw [if_neg (by omega), if_neg (by omega)]
  have HN := Lib.hid (fun V => refPackedNext_c c.fr c.un s V (by omega) hc.fr.1 hc.fr.2)
  rw [hX]
  clear hX hc hR
  generalize pkNext c.fr c.un s = X at *
  obtain ⟨y5, y1, y3, y4, y6⟩ := X
  unfold pkRef at HN
  unfold rRet Fr.val at *
  simp only at *
  have HI := Lib.hid (info_key' 64)
  have HR := Lib.hid (fun w => refRight17_c c w)
  rw [hr] at HR
  unfold keyV at *
  generalize kC 64 = KL at *
  unfold Cfg.val at *
  obtain ⟨fm, mg, fr, un, de, it⟩ := c
  simp only at *
  (try subst h1)
  obtain ⟨W0, hW0⟩ : ∃ W0, ((w.alloc (.cells KL 32)).alloc (.cells #[.int .i64 3, .int .u32 mg, .int .i64 fr, .int .i64 un, .int .i64 de, .int .i64 it] 24)).alloc (.cells #[.int .u64 0, .string ⟨#[]⟩, .string ⟨#[]⟩] 27) = W0 := ⟨_, rfl⟩
  have hN := three_new hW0
  have HO : Hid (Below w.heap.size w W0) := Lib.hid hN.2.1
  have HL : Hid (W0.heap.size = w.heap.size + 3) := Lib.hid hN.1
  have HKV : Hid (∀ V, Below W0.heap.size W0 V → (V.cell? ⟨w.heap.size + 1, 0, none⟩ = some (.int .i64 3) ∧ V.cell? ⟨w.heap.size + 1, 1, none⟩ = some (.int .u32 mg) ∧ V.cell? ⟨w.heap.size + 1, 2, none⟩ = some (.int .i64 fr) ∧ V.cell? ⟨w.heap.size + 1, 3, none⟩ = some (.int .i64 un) ∧ V.cell? ⟨w.heap.size + 1, 4, none⟩ = some (.int .i64 de) ∧ V.cell? ⟨w.heap.size + 1, 5, none⟩ = some (.int .i64 it))) := Lib.hid (fun V hV => by
    have hB := hN.2.2.2.1.keep hV (by omega)
    exact ⟨hB.cell 0, hB.cell 1, hB.cell 2, hB.cell 3, hB.cell 4, hB.cell 5⟩)
  have HKK : Hid (∀ V, Below W0.heap.size W0 V → Blk V w.heap.size 32 KL ∧ Blk V (w.heap.size + 1 + 1) 27 #[.int .u64 0, .string ⟨#[]⟩, .string ⟨#[]⟩]) := Lib.hid (fun V hV => ⟨hN.2.2.1.keep hV (by omega), hN.2.2.2.2.keep hV (by omega)⟩)
  have HE : Hid (∀ V, Below W0.heap.size W0 V → Below w.heap.size w V) := Lib.hid (fun V hV => HO.out.trans (hV.mono (by have := HL.out; omega)))
  have HW0 := Lib.hid hW0
  clear hW0 hN
  go_enter Tryz.func23, Tryz.ntmps23
  go_wp2_with fail
  rw [HW0.out]
  refine (HR.out _).mono ?_
  rintro e w1 ⟨rfl, hb1⟩
  have HM1 : Hid (Below W0.heap.size W0 w1) := Lib.hid hb1
  obtain ⟨q0, q1, q2, q3, q4, q5⟩ := HKV.out w1 HM1.out
  obtain ⟨hKK, hFF⟩ := HKK.out w1 HM1.out
  have HKB := Lib.hid hKK
  have HFB := Lib.hid hFF
  clear hb1 hKK hFF HR
  obtain ⟨g0, g1, g2, f0, f1, f2⟩ := blk3 HFB.out
  go_wp2_with (refine wpList_load_row (by rfl) 32 (.tmp 3) (by rfl) w.heap.size (by rfl) 32 KL (0, 0) _ HKB.out Tryz.underlying32 rfl HI.out ?_)
  refine (HN.out _).mono ?_
  rintro e w2 ⟨rfl, hb2⟩
  have HM2 : Hid (Below W0.heap.size W0 w2) := Lib.hid (HM1.out.trans (hb2.mono HM1.out.size))
  obtain ⟨_, hFF⟩ := HKK.out w2 HM2.out
  have HFC := Lib.hid hFF
  have hlt : w.heap.size + 1 + 1 < w2.heap.size := HFC.out.lt
  clear hb2 hFF q0 q1 q2 q3 q4 q5 g0 g1 g2 f0 f1 f2
  obtain ⟨g0, g1, g2, f0, f1, f2⟩ := blk3 HFC.out
  go_wp2
  refine bodyPost_ret (v := .tuple #[.agg #[.int .u64 y1, .string ByteArray.empty, .string y3], .int .i64 y4, .int .i64 y6, .int .i64 y5]) (by simp [results, Tryz.results23, go_sem, empB, set3_at HFC.out]) rfl ?_
  exact ⟨rfl, below3 (HE.out _ HM2.out) (by omega) _ _ _⟩
set_option maxRecDepth 100000 in
set_option maxHeartbeats 4000000 in
/-- The document's Next tells wNext, and what is metered. -/
theorem refNext17_c (c : Cfg) (s : ByteArray) (hc : c.ok) (hs : s.size ≤ 1099511627776) (w : World) :
    Calls Tryz.prog 23 #[keyV, c.val, .string s] w fun e w' => e = .returned (rRet (wNext c s)) ∧ Below w.heap.size w w' := by
  cases hr : c.right with
  | true =>
    have hRi := (c.right_iff).1 hr
    rcases (by omega : c.fm = 1 ∨ c.fm = 2 ∨ c.fm = 3) with h | h | h
    · exact rNx1_c c s hc h hr hs w
    · exact rNx2_c c s hc h hr hs w
    · exact rNx3_c c s hc h hr hs w
  | false =>
    have hX : wNext c s = (1, noFr, 0, 0) := by unfold wNext; rw [hr]; rfl
    rw [hX]
    clear hX hc
    unfold rRet
    have HI := Lib.hid (info_key' 64)
    have HR := Lib.hid (fun w => refRight17_c c w)
    rw [hr] at HR
    unfold keyV at *
    generalize kC 64 = KL at *
    unfold Cfg.val at *
    obtain ⟨fm, mg, fr, un, de, it⟩ := c
    simp only at *
    (try subst h1)
    obtain ⟨W0, hW0⟩ : ∃ W0, ((w.alloc (.cells KL 32)).alloc (.cells #[.int .i64 fm, .int .u32 mg, .int .i64 fr, .int .i64 un, .int .i64 de, .int .i64 it] 24)).alloc (.cells #[.int .u64 0, .string ⟨#[]⟩, .string ⟨#[]⟩] 27) = W0 := ⟨_, rfl⟩
    have hN := three_new hW0
    have HO : Hid (Below w.heap.size w W0) := Lib.hid hN.2.1
    have HL : Hid (W0.heap.size = w.heap.size + 3) := Lib.hid hN.1
    have HKV : Hid (∀ V, Below W0.heap.size W0 V → (V.cell? ⟨w.heap.size + 1, 0, none⟩ = some (.int .i64 fm) ∧ V.cell? ⟨w.heap.size + 1, 1, none⟩ = some (.int .u32 mg) ∧ V.cell? ⟨w.heap.size + 1, 2, none⟩ = some (.int .i64 fr) ∧ V.cell? ⟨w.heap.size + 1, 3, none⟩ = some (.int .i64 un) ∧ V.cell? ⟨w.heap.size + 1, 4, none⟩ = some (.int .i64 de) ∧ V.cell? ⟨w.heap.size + 1, 5, none⟩ = some (.int .i64 it))) := Lib.hid (fun V hV => by
      have hB := hN.2.2.2.1.keep hV (by omega)
      exact ⟨hB.cell 0, hB.cell 1, hB.cell 2, hB.cell 3, hB.cell 4, hB.cell 5⟩)
    have HKK : Hid (∀ V, Below W0.heap.size W0 V → Blk V w.heap.size 32 KL ∧ Blk V (w.heap.size + 1 + 1) 27 #[.int .u64 0, .string ⟨#[]⟩, .string ⟨#[]⟩]) := Lib.hid (fun V hV => ⟨hN.2.2.1.keep hV (by omega), hN.2.2.2.2.keep hV (by omega)⟩)
    have HE : Hid (∀ V, Below W0.heap.size W0 V → Below w.heap.size w V) := Lib.hid (fun V hV => HO.out.trans (hV.mono (by have := HL.out; omega)))
    have HW0 := Lib.hid hW0
    clear hW0 hN
    go_enter Tryz.func23, Tryz.ntmps23
    go_wp2_with fail
    rw [HW0.out]
    refine (HR.out _).mono ?_
    rintro e w1 ⟨rfl, hb1⟩
    have HM1 : Hid (Below W0.heap.size W0 w1) := Lib.hid hb1
    obtain ⟨q0, q1, q2, q3, q4, q5⟩ := HKV.out w1 HM1.out
    obtain ⟨hKK, hFF⟩ := HKK.out w1 HM1.out
    have HKB := Lib.hid hKK
    have HFB := Lib.hid hFF
    clear hb1 hKK hFF HR
    obtain ⟨g0, g1, g2, f0, f1, f2⟩ := blk3 HFB.out
    go_wp2
    refine bodyPost_ret (v := .tuple #[.agg #[.int .u64 0, .string ByteArray.empty, .string ByteArray.empty], .int .i64 0, .int .i64 0, .int .i64 1]) (by simp [results, Tryz.results23, go_sem, empB, set3_at HFB.out]) rfl ?_
    exact ⟨rfl, below3 (HE.out _ HM1.out) (by omega) _ _ _⟩
end Go.Proofs.YtebllmpdlapefaaGreatDoor
namespace Go.Proofs.YtebllmpdlapefaaGreatDoor
set_option linter.unusedVariables false
set_option linter.unusedSimpArgs false
open Go.RowKit

set_option maxRecDepth 100000 in
set_option maxHeartbeats 4000000 in
theorem rPut0_c (c : Cfg) (f : Fr) (hr : c.right = false) (w : World) :
    Calls Tryz.prog 16 #[keyV, c.val, f.val] w fun e w' => e = .returned (.tuple #[.string (wPutR c f).1, .int .i64 (wPutR c f).2]) ∧ Below w.heap.size w w' := by
  have hX : wPutR c f = (ByteArray.empty, 1) := by unfold wPutR; rw [if_neg (by simp [hr])]
  rw [hX]
  clear hX
  have HI := Lib.hid (info_key' 64)
  have HR := Lib.hid (fun w => refRight17_c c w)
  rw [hr] at HR
  unfold keyV at *
  generalize kC 64 = KL at *
  unfold Cfg.val Fr.val at *
  obtain ⟨fm, mg, fr, un, de, it⟩ := c
  obtain ⟨id, nm, body⟩ := f
  simp only at *
  (try subst h1)
  (try subst h2)
  obtain ⟨W0, hW0⟩ : ∃ W0, ((w.alloc (.cells KL 32)).alloc (.cells #[.int .i64 fm, .int .u32 mg, .int .i64 fr, .int .i64 un, .int .i64 de, .int .i64 it] 24)).alloc (.cells #[.int .u64 id, .string nm, .string body] 27) = W0 := ⟨_, rfl⟩
  have hN := three_new hW0
  have HO : Hid (Below w.heap.size w W0) := Lib.hid hN.2.1
  have HL : Hid (W0.heap.size = w.heap.size + 3) := Lib.hid hN.1
  have HKV : Hid (∀ V, Below W0.heap.size W0 V → (V.cell? ⟨w.heap.size + 1, 0, none⟩ = some (.int .i64 fm) ∧ V.cell? ⟨w.heap.size + 1, 1, none⟩ = some (.int .u32 mg) ∧ V.cell? ⟨w.heap.size + 1, 2, none⟩ = some (.int .i64 fr) ∧ V.cell? ⟨w.heap.size + 1, 3, none⟩ = some (.int .i64 un) ∧ V.cell? ⟨w.heap.size + 1, 4, none⟩ = some (.int .i64 de) ∧ V.cell? ⟨w.heap.size + 1, 5, none⟩ = some (.int .i64 it))) := Lib.hid (fun V hV => by
    have hB := hN.2.2.2.1.keep hV (by omega)
    exact ⟨hB.cell 0, hB.cell 1, hB.cell 2, hB.cell 3, hB.cell 4, hB.cell 5⟩)
  have HKF : Hid (∀ V, Below W0.heap.size W0 V → (V.cell? ⟨w.heap.size + 1 + 1, 0, none⟩ = some (.int .u64 id) ∧ V.cell? ⟨w.heap.size + 1 + 1, 1, none⟩ = some (.string nm) ∧ V.cell? ⟨w.heap.size + 1 + 1, 2, none⟩ = some (.string body))) := Lib.hid (fun V hV => by
    have hB := hN.2.2.2.2.keep hV (by omega)
    exact ⟨hB.cell 0, hB.cell 1, hB.cell 2⟩)
  have HKK : Hid (∀ V, Below W0.heap.size W0 V → Blk V w.heap.size 32 KL) := Lib.hid (fun V hV => hN.2.2.1.keep hV (by omega))
  have HE : Hid (∀ V, Below W0.heap.size W0 V → Below w.heap.size w V) := Lib.hid (fun V hV => HO.out.trans (hV.mono (by have := HL.out; omega)))
  have HW0 := Lib.hid hW0
  clear hW0 hN
  go_enter Tryz.func16, Tryz.ntmps16
  go_wp2_with fail
  rw [HW0.out]
  refine (HR.out _).mono ?_
  rintro e w1 ⟨rfl, hb1⟩
  have HM1 : Hid (Below W0.heap.size W0 w1) := Lib.hid hb1
  obtain ⟨q0, q1, q2, q3, q4, q5⟩ := HKV.out w1 HM1.out
  obtain ⟨p0, p1, p2⟩ := HKF.out w1 HM1.out
  clear hb1 HR
  go_wp2
  go_ret2
  exact ⟨rfl, HE.out _ HM1.out⟩
set_option maxRecDepth 100000 in
set_option maxHeartbeats 4000000 in
theorem rPut1_c (c : Cfg) (f : Fr) (hc : c.ok) (hf : f.ok) (hb : f.body.size ≤ 400) (h1 : c.fm = 1) (hr : c.right = true) (w : World) :
    Calls Tryz.prog 16 #[keyV, c.val, f.val] w fun e w' => e = .returned (.tuple #[.string (wPutR c f).1, .int .i64 (wPutR c f).2]) ∧ Below w.heap.size w w' := by
  have hR := (c.right_iff).1 hr
  by_cases h2 : f.id = 0
  · have hft : wFits c f = true := by unfold wFits; rw [if_pos h1]; simpa using h2
    have HY := Lib.hid (fun V => refMayN_c f.nm V hf.nm)
    cases hm : nmMay f.nm with
    | false =>
      have hX : wPutR c f = (ByteArray.empty, 11) := by unfold wPutR; rw [if_pos ⟨hr, hft⟩, if_pos h1, hm]; simp
      rw [hX]
      rw [hm] at HY
      clear hX hR hc hf hft
      have HI := Lib.hid (info_key' 64)
      have HR := Lib.hid (fun w => refRight17_c c w)
      rw [hr] at HR
      unfold keyV at *
      generalize kC 64 = KL at *
      unfold Cfg.val Fr.val at *
      obtain ⟨fm, mg, fr, un, de, it⟩ := c
      obtain ⟨id, nm, body⟩ := f
      simp only at *
      (try subst h1)
      (try subst h2)
      obtain ⟨W0, hW0⟩ : ∃ W0, ((w.alloc (.cells KL 32)).alloc (.cells #[.int .i64 1, .int .u32 mg, .int .i64 fr, .int .i64 un, .int .i64 de, .int .i64 it] 24)).alloc (.cells #[.int .u64 0, .string nm, .string body] 27) = W0 := ⟨_, rfl⟩
      have hN := three_new hW0
      have HO : Hid (Below w.heap.size w W0) := Lib.hid hN.2.1
      have HL : Hid (W0.heap.size = w.heap.size + 3) := Lib.hid hN.1
      have HKV : Hid (∀ V, Below W0.heap.size W0 V → (V.cell? ⟨w.heap.size + 1, 0, none⟩ = some (.int .i64 1) ∧ V.cell? ⟨w.heap.size + 1, 1, none⟩ = some (.int .u32 mg) ∧ V.cell? ⟨w.heap.size + 1, 2, none⟩ = some (.int .i64 fr) ∧ V.cell? ⟨w.heap.size + 1, 3, none⟩ = some (.int .i64 un) ∧ V.cell? ⟨w.heap.size + 1, 4, none⟩ = some (.int .i64 de) ∧ V.cell? ⟨w.heap.size + 1, 5, none⟩ = some (.int .i64 it))) := Lib.hid (fun V hV => by
        have hB := hN.2.2.2.1.keep hV (by omega)
        exact ⟨hB.cell 0, hB.cell 1, hB.cell 2, hB.cell 3, hB.cell 4, hB.cell 5⟩)
      have HKF : Hid (∀ V, Below W0.heap.size W0 V → (V.cell? ⟨w.heap.size + 1 + 1, 0, none⟩ = some (.int .u64 0) ∧ V.cell? ⟨w.heap.size + 1 + 1, 1, none⟩ = some (.string nm) ∧ V.cell? ⟨w.heap.size + 1 + 1, 2, none⟩ = some (.string body))) := Lib.hid (fun V hV => by
        have hB := hN.2.2.2.2.keep hV (by omega)
        exact ⟨hB.cell 0, hB.cell 1, hB.cell 2⟩)
      have HKK : Hid (∀ V, Below W0.heap.size W0 V → Blk V w.heap.size 32 KL) := Lib.hid (fun V hV => hN.2.2.1.keep hV (by omega))
      have HE : Hid (∀ V, Below W0.heap.size W0 V → Below w.heap.size w V) := Lib.hid (fun V hV => HO.out.trans (hV.mono (by have := HL.out; omega)))
      have HW0 := Lib.hid hW0
      clear hW0 hN
      go_enter Tryz.func16, Tryz.ntmps16
      go_wp2_with fail
      rw [HW0.out]
      refine (HR.out _).mono ?_
      rintro e w1 ⟨rfl, hb1⟩
      have HM1 : Hid (Below W0.heap.size W0 w1) := Lib.hid hb1
      obtain ⟨q0, q1, q2, q3, q4, q5⟩ := HKV.out w1 HM1.out
      obtain ⟨p0, p1, p2⟩ := HKF.out w1 HM1.out
      clear hb1 HR
      go_wp2_with fail
      refine (HY.out _).mono ?_
      rintro e w2 ⟨rfl, rfl⟩
      go_wp2
      go_ret2
      exact ⟨rfl, HE.out _ HM1.out⟩
    | true =>
      rw [hm] at HY
      by_cases h3 : c.fr < f.body.size
      · have hX : wPutR c f = (ByteArray.empty, 5) := by unfold wPutR; rw [if_pos ⟨hr, hft⟩, if_pos h1, hm]; simp [h3]
        rw [hX]
        have hb5 : ¬ (65536 : Int) < f.body.size := by omega
        clear hX hR hc hf hft
        have HI := Lib.hid (info_key' 64)
        have HR := Lib.hid (fun w => refRight17_c c w)
        rw [hr] at HR
        unfold keyV at *
        generalize kC 64 = KL at *
        unfold Cfg.val Fr.val at *
        obtain ⟨fm, mg, fr, un, de, it⟩ := c
        obtain ⟨id, nm, body⟩ := f
        simp only at *
        (try subst h1)
        (try subst h2)
        obtain ⟨W0, hW0⟩ : ∃ W0, ((w.alloc (.cells KL 32)).alloc (.cells #[.int .i64 1, .int .u32 mg, .int .i64 fr, .int .i64 un, .int .i64 de, .int .i64 it] 24)).alloc (.cells #[.int .u64 0, .string nm, .string body] 27) = W0 := ⟨_, rfl⟩
        have hN := three_new hW0
        have HO : Hid (Below w.heap.size w W0) := Lib.hid hN.2.1
        have HL : Hid (W0.heap.size = w.heap.size + 3) := Lib.hid hN.1
        have HKV : Hid (∀ V, Below W0.heap.size W0 V → (V.cell? ⟨w.heap.size + 1, 0, none⟩ = some (.int .i64 1) ∧ V.cell? ⟨w.heap.size + 1, 1, none⟩ = some (.int .u32 mg) ∧ V.cell? ⟨w.heap.size + 1, 2, none⟩ = some (.int .i64 fr) ∧ V.cell? ⟨w.heap.size + 1, 3, none⟩ = some (.int .i64 un) ∧ V.cell? ⟨w.heap.size + 1, 4, none⟩ = some (.int .i64 de) ∧ V.cell? ⟨w.heap.size + 1, 5, none⟩ = some (.int .i64 it))) := Lib.hid (fun V hV => by
          have hB := hN.2.2.2.1.keep hV (by omega)
          exact ⟨hB.cell 0, hB.cell 1, hB.cell 2, hB.cell 3, hB.cell 4, hB.cell 5⟩)
        have HKF : Hid (∀ V, Below W0.heap.size W0 V → (V.cell? ⟨w.heap.size + 1 + 1, 0, none⟩ = some (.int .u64 0) ∧ V.cell? ⟨w.heap.size + 1 + 1, 1, none⟩ = some (.string nm) ∧ V.cell? ⟨w.heap.size + 1 + 1, 2, none⟩ = some (.string body))) := Lib.hid (fun V hV => by
          have hB := hN.2.2.2.2.keep hV (by omega)
          exact ⟨hB.cell 0, hB.cell 1, hB.cell 2⟩)
        have HKK : Hid (∀ V, Below W0.heap.size W0 V → Blk V w.heap.size 32 KL) := Lib.hid (fun V hV => hN.2.2.1.keep hV (by omega))
        have HE : Hid (∀ V, Below W0.heap.size W0 V → Below w.heap.size w V) := Lib.hid (fun V hV => HO.out.trans (hV.mono (by have := HL.out; omega)))
        have HW0 := Lib.hid hW0
        clear hW0 hN
        go_enter Tryz.func16, Tryz.ntmps16
        go_wp2_with fail
        rw [HW0.out]
        refine (HR.out _).mono ?_
        rintro e w1 ⟨rfl, hb1⟩
        have HM1 : Hid (Below W0.heap.size W0 w1) := Lib.hid hb1
        obtain ⟨q0, q1, q2, q3, q4, q5⟩ := HKV.out w1 HM1.out
        obtain ⟨p0, p1, p2⟩ := HKF.out w1 HM1.out
        clear hb1 HR
        go_wp2_with fail
        refine (HY.out _).mono ?_
        rintro e w2 ⟨rfl, rfl⟩
        go_wp2
        go_ret2
        exact ⟨rfl, HE.out _ HM1.out⟩
      · have hX : wPutR c f = (cnPut c.mg f.nm f.body, 0) := by unfold wPutR; rw [if_pos ⟨hr, hft⟩, if_pos h1, hm, if_pos rfl, if_neg (by omega)]
        rw [hX]
        have HP := Lib.hid (fun V => ref14Put_c c.mg f.nm f.body V hc.mg hm (by omega))
        generalize cnPut c.mg f.nm f.body = S at *
        have hb5 : ¬ (65536 : Int) < f.body.size := by omega
        clear hX hR hc hf hft
        have HI := Lib.hid (info_key' 64)
        have HR := Lib.hid (fun w => refRight17_c c w)
        rw [hr] at HR
        unfold keyV at *
        generalize kC 64 = KL at *
        unfold Cfg.val Fr.val at *
        obtain ⟨fm, mg, fr, un, de, it⟩ := c
        obtain ⟨id, nm, body⟩ := f
        simp only at *
        (try subst h1)
        (try subst h2)
        obtain ⟨W0, hW0⟩ : ∃ W0, ((w.alloc (.cells KL 32)).alloc (.cells #[.int .i64 1, .int .u32 mg, .int .i64 fr, .int .i64 un, .int .i64 de, .int .i64 it] 24)).alloc (.cells #[.int .u64 0, .string nm, .string body] 27) = W0 := ⟨_, rfl⟩
        have hN := three_new hW0
        have HO : Hid (Below w.heap.size w W0) := Lib.hid hN.2.1
        have HL : Hid (W0.heap.size = w.heap.size + 3) := Lib.hid hN.1
        have HKV : Hid (∀ V, Below W0.heap.size W0 V → (V.cell? ⟨w.heap.size + 1, 0, none⟩ = some (.int .i64 1) ∧ V.cell? ⟨w.heap.size + 1, 1, none⟩ = some (.int .u32 mg) ∧ V.cell? ⟨w.heap.size + 1, 2, none⟩ = some (.int .i64 fr) ∧ V.cell? ⟨w.heap.size + 1, 3, none⟩ = some (.int .i64 un) ∧ V.cell? ⟨w.heap.size + 1, 4, none⟩ = some (.int .i64 de) ∧ V.cell? ⟨w.heap.size + 1, 5, none⟩ = some (.int .i64 it))) := Lib.hid (fun V hV => by
          have hB := hN.2.2.2.1.keep hV (by omega)
          exact ⟨hB.cell 0, hB.cell 1, hB.cell 2, hB.cell 3, hB.cell 4, hB.cell 5⟩)
        have HKF : Hid (∀ V, Below W0.heap.size W0 V → (V.cell? ⟨w.heap.size + 1 + 1, 0, none⟩ = some (.int .u64 0) ∧ V.cell? ⟨w.heap.size + 1 + 1, 1, none⟩ = some (.string nm) ∧ V.cell? ⟨w.heap.size + 1 + 1, 2, none⟩ = some (.string body))) := Lib.hid (fun V hV => by
          have hB := hN.2.2.2.2.keep hV (by omega)
          exact ⟨hB.cell 0, hB.cell 1, hB.cell 2⟩)
        have HKK : Hid (∀ V, Below W0.heap.size W0 V → Blk V w.heap.size 32 KL) := Lib.hid (fun V hV => hN.2.2.1.keep hV (by omega))
        have HE : Hid (∀ V, Below W0.heap.size W0 V → Below w.heap.size w V) := Lib.hid (fun V hV => HO.out.trans (hV.mono (by have := HL.out; omega)))
        have HW0 := Lib.hid hW0
        clear hW0 hN
        go_enter Tryz.func16, Tryz.ntmps16
        go_wp2_with fail
        rw [HW0.out]
        refine (HR.out _).mono ?_
        rintro e w1 ⟨rfl, hb1⟩
        have HM1 : Hid (Below W0.heap.size W0 w1) := Lib.hid hb1
        obtain ⟨q0, q1, q2, q3, q4, q5⟩ := HKV.out w1 HM1.out
        obtain ⟨p0, p1, p2⟩ := HKF.out w1 HM1.out
        clear hb1 HR
        go_wp2_with fail
        refine (HY.out _).mono ?_
        rintro e w2 ⟨rfl, rfl⟩
        have HKB := Lib.hid (HKK.out _ HM1.out)
        go_wp2_with (refine wpList_load_row (by rfl) 32 (.tmp 3) (by rfl) w.heap.size (by rfl) 32 KL (0, 0) _ HKB.out Tryz.underlying32 rfl HI.out ?_)
        refine (HP.out _).mono ?_
        rintro e w3 ⟨rfl, hb3⟩
        have HM3 : Hid (Below W0.heap.size W0 w3) := Lib.hid (HM1.out.trans (hb3.mono HM1.out.size))
        clear hb3
        go_wp2
        go_ret2
        exact ⟨rfl, HE.out _ HM3.out⟩
  · have hX : wPutR c f = (ByteArray.empty, 1) := by have hft : wFits c f = false := (by unfold wFits; rw [if_pos h1]; simpa using h2); unfold wPutR; rw [if_neg (by simp [hft])]
    rw [hX]
    have h3 : ((f.id : Int) == 0) = false := by simpa using h2
    have h4 : ((f.id : Int) != 0) = true := by simpa using h2
    clear hX hR hc hf h2
    have HI := Lib.hid (info_key' 64)
    have HR := Lib.hid (fun w => refRight17_c c w)
    rw [hr] at HR
    unfold keyV at *
    generalize kC 64 = KL at *
    unfold Cfg.val Fr.val at *
    obtain ⟨fm, mg, fr, un, de, it⟩ := c
    obtain ⟨id, nm, body⟩ := f
    simp only at *
    (try subst h1)
    (try subst h2)
    obtain ⟨W0, hW0⟩ : ∃ W0, ((w.alloc (.cells KL 32)).alloc (.cells #[.int .i64 1, .int .u32 mg, .int .i64 fr, .int .i64 un, .int .i64 de, .int .i64 it] 24)).alloc (.cells #[.int .u64 id, .string nm, .string body] 27) = W0 := ⟨_, rfl⟩
    have hN := three_new hW0
    have HO : Hid (Below w.heap.size w W0) := Lib.hid hN.2.1
    have HL : Hid (W0.heap.size = w.heap.size + 3) := Lib.hid hN.1
    have HKV : Hid (∀ V, Below W0.heap.size W0 V → (V.cell? ⟨w.heap.size + 1, 0, none⟩ = some (.int .i64 1) ∧ V.cell? ⟨w.heap.size + 1, 1, none⟩ = some (.int .u32 mg) ∧ V.cell? ⟨w.heap.size + 1, 2, none⟩ = some (.int .i64 fr) ∧ V.cell? ⟨w.heap.size + 1, 3, none⟩ = some (.int .i64 un) ∧ V.cell? ⟨w.heap.size + 1, 4, none⟩ = some (.int .i64 de) ∧ V.cell? ⟨w.heap.size + 1, 5, none⟩ = some (.int .i64 it))) := Lib.hid (fun V hV => by
      have hB := hN.2.2.2.1.keep hV (by omega)
      exact ⟨hB.cell 0, hB.cell 1, hB.cell 2, hB.cell 3, hB.cell 4, hB.cell 5⟩)
    have HKF : Hid (∀ V, Below W0.heap.size W0 V → (V.cell? ⟨w.heap.size + 1 + 1, 0, none⟩ = some (.int .u64 id) ∧ V.cell? ⟨w.heap.size + 1 + 1, 1, none⟩ = some (.string nm) ∧ V.cell? ⟨w.heap.size + 1 + 1, 2, none⟩ = some (.string body))) := Lib.hid (fun V hV => by
      have hB := hN.2.2.2.2.keep hV (by omega)
      exact ⟨hB.cell 0, hB.cell 1, hB.cell 2⟩)
    have HKK : Hid (∀ V, Below W0.heap.size W0 V → Blk V w.heap.size 32 KL) := Lib.hid (fun V hV => hN.2.2.1.keep hV (by omega))
    have HE : Hid (∀ V, Below W0.heap.size W0 V → Below w.heap.size w V) := Lib.hid (fun V hV => HO.out.trans (hV.mono (by have := HL.out; omega)))
    have HW0 := Lib.hid hW0
    clear hW0 hN
    go_enter Tryz.func16, Tryz.ntmps16
    go_wp2_with fail
    rw [HW0.out]
    refine (HR.out _).mono ?_
    rintro e w1 ⟨rfl, hb1⟩
    have HM1 : Hid (Below W0.heap.size W0 w1) := Lib.hid hb1
    obtain ⟨q0, q1, q2, q3, q4, q5⟩ := HKV.out w1 HM1.out
    obtain ⟨p0, p1, p2⟩ := HKF.out w1 HM1.out
    clear hb1 HR
    go_wp2
    go_ret2
    exact ⟨rfl, HE.out _ HM1.out⟩
set_option maxRecDepth 100000 in
set_option maxHeartbeats 4000000 in
theorem rPut2_c (c : Cfg) (f : Fr) (hc : c.ok) (hf : f.ok) (hb : f.body.size ≤ 400) (h1 : c.fm = 2) (hr : c.right = true) (w : World) :
    Calls Tryz.prog 16 #[keyV, c.val, f.val] w fun e w' => e = .returned (.tuple #[.string (wPutR c f).1, .int .i64 (wPutR c f).2]) ∧ Below w.heap.size w w' := by
  have hR := (c.right_iff).1 hr
  rcases empty_ways f.nm with ⟨h20, h2⟩ | ⟨h2, h3, h4⟩
  · have hft : wFits c f = true := by unfold wFits; rw [if_neg (by omega)]; simpa using h20
    have hl := lebL_length 10 f.id (by have := hf.id; omega) (by omega)
    have HY := Lib.hid (fun V => refPlainPut_c f.id f.body V hf.id (by omega))
    have hlp := lebL_length 10 ((lebL f.id).length + f.body.data.toList.length) (by rw [toList_size]; omega) (by omega)
    have hsz : (⟨(plPut f.id f.body.data.toList).toArray⟩ : ByteArray).size ≤ 2000 := by
      rw [size_of]; unfold plPut; rw [List.length_append, List.length_append]; rw [toList_size] at *; omega
    have HS := Lib.hid (fun V => refPlainSize_c c.fr ⟨(plPut f.id f.body.data.toList).toArray⟩ V (by omega) hc.fr.1 hc.fr.2)
    have HX : Hid (((plSize c.fr ⟨(plPut f.id f.body.data.toList).toArray⟩).2.2 = 0 → wPutR c f = (⟨(plPut f.id f.body.data.toList).toArray⟩, 0)) ∧ ((plSize c.fr ⟨(plPut f.id f.body.data.toList).toArray⟩).2.2 ≠ 0 → wPutR c f = (ByteArray.empty, (plSize c.fr ⟨(plPut f.id f.body.data.toList).toArray⟩).2.2))) := Lib.hid (by
      constructor
      · intro h; unfold wPutR; rw [if_pos ⟨hr, hft⟩, if_neg (by omega), if_pos h1, if_neg (by simp [h])]
      · intro h; unfold wPutR; rw [if_pos ⟨hr, hft⟩, if_neg (by omega), if_pos h1, if_pos h])
    generalize (⟨(plPut f.id f.body.data.toList).toArray⟩ : ByteArray) = S at *
    generalize plSize c.fr S = Z at *
    obtain ⟨z1, z2, E⟩ := Z
    simp only at HX HS
    generalize wPutR c f = PP at *
    obtain ⟨P1, P2⟩ := PP
    clear hR hc hf hft hl hlp hsz h20
    have HI := Lib.hid (info_key' 64)
    have HR := Lib.hid (fun w => refRight17_c c w)
    rw [hr] at HR
    unfold keyV at *
    generalize kC 64 = KL at *
    unfold Cfg.val Fr.val at *
    obtain ⟨fm, mg, fr, un, de, it⟩ := c
    obtain ⟨id, nm, body⟩ := f
    simp only at *
    (try subst h1)
    (try subst h2)
    obtain ⟨W0, hW0⟩ : ∃ W0, ((w.alloc (.cells KL 32)).alloc (.cells #[.int .i64 2, .int .u32 mg, .int .i64 fr, .int .i64 un, .int .i64 de, .int .i64 it] 24)).alloc (.cells #[.int .u64 id, .string ⟨#[]⟩, .string body] 27) = W0 := ⟨_, rfl⟩
    have hN := three_new hW0
    have HO : Hid (Below w.heap.size w W0) := Lib.hid hN.2.1
    have HL : Hid (W0.heap.size = w.heap.size + 3) := Lib.hid hN.1
    have HKV : Hid (∀ V, Below W0.heap.size W0 V → (V.cell? ⟨w.heap.size + 1, 0, none⟩ = some (.int .i64 2) ∧ V.cell? ⟨w.heap.size + 1, 1, none⟩ = some (.int .u32 mg) ∧ V.cell? ⟨w.heap.size + 1, 2, none⟩ = some (.int .i64 fr) ∧ V.cell? ⟨w.heap.size + 1, 3, none⟩ = some (.int .i64 un) ∧ V.cell? ⟨w.heap.size + 1, 4, none⟩ = some (.int .i64 de) ∧ V.cell? ⟨w.heap.size + 1, 5, none⟩ = some (.int .i64 it))) := Lib.hid (fun V hV => by
      have hB := hN.2.2.2.1.keep hV (by omega)
      exact ⟨hB.cell 0, hB.cell 1, hB.cell 2, hB.cell 3, hB.cell 4, hB.cell 5⟩)
    have HKF : Hid (∀ V, Below W0.heap.size W0 V → (V.cell? ⟨w.heap.size + 1 + 1, 0, none⟩ = some (.int .u64 id) ∧ V.cell? ⟨w.heap.size + 1 + 1, 1, none⟩ = some (.string ⟨#[]⟩) ∧ V.cell? ⟨w.heap.size + 1 + 1, 2, none⟩ = some (.string body))) := Lib.hid (fun V hV => by
      have hB := hN.2.2.2.2.keep hV (by omega)
      exact ⟨hB.cell 0, hB.cell 1, hB.cell 2⟩)
    have HKK : Hid (∀ V, Below W0.heap.size W0 V → Blk V w.heap.size 32 KL) := Lib.hid (fun V hV => hN.2.2.1.keep hV (by omega))
    have HE : Hid (∀ V, Below W0.heap.size W0 V → Below w.heap.size w V) := Lib.hid (fun V hV => HO.out.trans (hV.mono (by have := HL.out; omega)))
    have HW0 := Lib.hid hW0
    clear hW0 hN
    go_enter Tryz.func16, Tryz.ntmps16
    go_wp2_with fail
    rw [HW0.out]
    refine (HR.out _).mono ?_
    rintro e w1 ⟨rfl, hb1⟩
    have HM1 : Hid (Below W0.heap.size W0 w1) := Lib.hid hb1
    obtain ⟨q0, q1, q2, q3, q4, q5⟩ := HKV.out w1 HM1.out
    obtain ⟨p0, p1, p2⟩ := HKF.out w1 HM1.out
    clear hb1 HR
    go_wp2_with fail
    refine (HY.out _).mono ?_
    rintro e w2 ⟨rfl, hb2⟩
    have HM2 : Hid (Below W0.heap.size W0 w2) := Lib.hid (HM1.out.trans (hb2.mono HM1.out.size))
    clear q0 q1 q2 q3 q4 q5 p0 p1 p2 hb2
    obtain ⟨q0, q1, q2, q3, q4, q5⟩ := HKV.out w2 HM2.out
    obtain ⟨p0, p1, p2⟩ := HKF.out w2 HM2.out
    rcases beq0 E with ⟨e0, e1, e2⟩ | ⟨e0, e1, e2⟩
    · subst e0
      have hX := HX.out.1 (by simp)
      injection hX with hx1 hx2
      subst hx1; subst hx2
      clear HX
      go_wp2_with fail
      refine (HS.out _).mono ?_
      rintro e w9 ⟨rfl, rfl⟩
      go_wp2
      go_ret2
      exact ⟨rfl, HE.out _ HM2.out⟩
    · have hX := HX.out.2 e0
      injection hX with hx1 hx2
      subst hx1; subst hx2
      clear HX
      go_wp2_with fail
      refine (HS.out _).mono ?_
      rintro e w9 ⟨rfl, rfl⟩
      go_wp2
      go_ret2
      exact ⟨rfl, HE.out _ HM2.out⟩
  · have hX : wPutR c f = (ByteArray.empty, 1) := by have hft : wFits c f = false := (by unfold wFits; rw [if_neg (by omega)]; simpa using h2); unfold wPutR; rw [if_neg (by simp [hft])]
    rw [hX]
    clear hX hR hc hf h2
    have HI := Lib.hid (info_key' 64)
    have HR := Lib.hid (fun w => refRight17_c c w)
    rw [hr] at HR
    unfold keyV at *
    generalize kC 64 = KL at *
    unfold Cfg.val Fr.val at *
    obtain ⟨fm, mg, fr, un, de, it⟩ := c
    obtain ⟨id, nm, body⟩ := f
    simp only at *
    (try subst h1)
    (try subst h2)
    obtain ⟨W0, hW0⟩ : ∃ W0, ((w.alloc (.cells KL 32)).alloc (.cells #[.int .i64 2, .int .u32 mg, .int .i64 fr, .int .i64 un, .int .i64 de, .int .i64 it] 24)).alloc (.cells #[.int .u64 id, .string nm, .string body] 27) = W0 := ⟨_, rfl⟩
    have hN := three_new hW0
    have HO : Hid (Below w.heap.size w W0) := Lib.hid hN.2.1
    have HL : Hid (W0.heap.size = w.heap.size + 3) := Lib.hid hN.1
    have HKV : Hid (∀ V, Below W0.heap.size W0 V → (V.cell? ⟨w.heap.size + 1, 0, none⟩ = some (.int .i64 2) ∧ V.cell? ⟨w.heap.size + 1, 1, none⟩ = some (.int .u32 mg) ∧ V.cell? ⟨w.heap.size + 1, 2, none⟩ = some (.int .i64 fr) ∧ V.cell? ⟨w.heap.size + 1, 3, none⟩ = some (.int .i64 un) ∧ V.cell? ⟨w.heap.size + 1, 4, none⟩ = some (.int .i64 de) ∧ V.cell? ⟨w.heap.size + 1, 5, none⟩ = some (.int .i64 it))) := Lib.hid (fun V hV => by
      have hB := hN.2.2.2.1.keep hV (by omega)
      exact ⟨hB.cell 0, hB.cell 1, hB.cell 2, hB.cell 3, hB.cell 4, hB.cell 5⟩)
    have HKF : Hid (∀ V, Below W0.heap.size W0 V → (V.cell? ⟨w.heap.size + 1 + 1, 0, none⟩ = some (.int .u64 id) ∧ V.cell? ⟨w.heap.size + 1 + 1, 1, none⟩ = some (.string nm) ∧ V.cell? ⟨w.heap.size + 1 + 1, 2, none⟩ = some (.string body))) := Lib.hid (fun V hV => by
      have hB := hN.2.2.2.2.keep hV (by omega)
      exact ⟨hB.cell 0, hB.cell 1, hB.cell 2⟩)
    have HKK : Hid (∀ V, Below W0.heap.size W0 V → Blk V w.heap.size 32 KL) := Lib.hid (fun V hV => hN.2.2.1.keep hV (by omega))
    have HE : Hid (∀ V, Below W0.heap.size W0 V → Below w.heap.size w V) := Lib.hid (fun V hV => HO.out.trans (hV.mono (by have := HL.out; omega)))
    have HW0 := Lib.hid hW0
    clear hW0 hN
    go_enter Tryz.func16, Tryz.ntmps16
    go_wp2_with fail
    rw [HW0.out]
    refine (HR.out _).mono ?_
    rintro e w1 ⟨rfl, hb1⟩
    have HM1 : Hid (Below W0.heap.size W0 w1) := Lib.hid hb1
    obtain ⟨q0, q1, q2, q3, q4, q5⟩ := HKV.out w1 HM1.out
    obtain ⟨p0, p1, p2⟩ := HKF.out w1 HM1.out
    clear hb1 HR
    go_wp2
    go_ret2
    exact ⟨rfl, HE.out _ HM1.out⟩
set_option maxRecDepth 100000 in
set_option maxHeartbeats 4000000 in
theorem rPut3_c (c : Cfg) (f : Fr) (hc : c.ok) (hf : f.ok) (hb : f.body.size ≤ 400) (h1 : c.fm = 3) (hr : c.right = true) (w : World) :
    Calls Tryz.prog 16 #[keyV, c.val, f.val] w fun e w' => e = .returned (.tuple #[.string (wPutR c f).1, .int .i64 (wPutR c f).2]) ∧ Below w.heap.size w w' := by
  have hR := (c.right_iff).1 hr
  rcases empty_ways f.nm with ⟨h20, h2⟩ | ⟨h2, h3, h4⟩
  · have hft : wFits c f = true := by unfold wFits; rw [if_neg (by omega)]; simpa using h20
    have hl := lebL_length 10 f.id (by have := hf.id; omega) (by omega)
    have HY := Lib.hid (fun V => refPlainPut_c f.id f.body V hf.id (by omega))
    by_cases hu : c.un < f.body.size
    · have hX : wPutR c f = (ByteArray.empty, 5) := by unfold wPutR; rw [if_pos ⟨hr, hft⟩, if_neg (by omega), if_neg (by omega), if_pos hu]
      rw [hX]
      generalize (⟨(plPut f.id f.body.data.toList).toArray⟩ : ByteArray) = S at *
      clear hR hc hf hft hl h20 hX
      have HI := Lib.hid (info_key' 64)
      have HR := Lib.hid (fun w => refRight17_c c w)
      rw [hr] at HR
      unfold keyV at *
      generalize kC 64 = KL at *
      unfold Cfg.val Fr.val at *
      obtain ⟨fm, mg, fr, un, de, it⟩ := c
      obtain ⟨id, nm, body⟩ := f
      simp only at *
      (try subst h1)
      (try subst h2)
      obtain ⟨W0, hW0⟩ : ∃ W0, ((w.alloc (.cells KL 32)).alloc (.cells #[.int .i64 3, .int .u32 mg, .int .i64 fr, .int .i64 un, .int .i64 de, .int .i64 it] 24)).alloc (.cells #[.int .u64 id, .string ⟨#[]⟩, .string body] 27) = W0 := ⟨_, rfl⟩
      have hN := three_new hW0
      have HO : Hid (Below w.heap.size w W0) := Lib.hid hN.2.1
      have HL : Hid (W0.heap.size = w.heap.size + 3) := Lib.hid hN.1
      have HKV : Hid (∀ V, Below W0.heap.size W0 V → (V.cell? ⟨w.heap.size + 1, 0, none⟩ = some (.int .i64 3) ∧ V.cell? ⟨w.heap.size + 1, 1, none⟩ = some (.int .u32 mg) ∧ V.cell? ⟨w.heap.size + 1, 2, none⟩ = some (.int .i64 fr) ∧ V.cell? ⟨w.heap.size + 1, 3, none⟩ = some (.int .i64 un) ∧ V.cell? ⟨w.heap.size + 1, 4, none⟩ = some (.int .i64 de) ∧ V.cell? ⟨w.heap.size + 1, 5, none⟩ = some (.int .i64 it))) := Lib.hid (fun V hV => by
        have hB := hN.2.2.2.1.keep hV (by omega)
        exact ⟨hB.cell 0, hB.cell 1, hB.cell 2, hB.cell 3, hB.cell 4, hB.cell 5⟩)
      have HKF : Hid (∀ V, Below W0.heap.size W0 V → (V.cell? ⟨w.heap.size + 1 + 1, 0, none⟩ = some (.int .u64 id) ∧ V.cell? ⟨w.heap.size + 1 + 1, 1, none⟩ = some (.string ⟨#[]⟩) ∧ V.cell? ⟨w.heap.size + 1 + 1, 2, none⟩ = some (.string body))) := Lib.hid (fun V hV => by
        have hB := hN.2.2.2.2.keep hV (by omega)
        exact ⟨hB.cell 0, hB.cell 1, hB.cell 2⟩)
      have HKK : Hid (∀ V, Below W0.heap.size W0 V → Blk V w.heap.size 32 KL) := Lib.hid (fun V hV => hN.2.2.1.keep hV (by omega))
      have HE : Hid (∀ V, Below W0.heap.size W0 V → Below w.heap.size w V) := Lib.hid (fun V hV => HO.out.trans (hV.mono (by have := HL.out; omega)))
      have HW0 := Lib.hid hW0
      clear hW0 hN
      go_enter Tryz.func16, Tryz.ntmps16
      go_wp2_with fail
      rw [HW0.out]
      refine (HR.out _).mono ?_
      rintro e w1 ⟨rfl, hb1⟩
      have HM1 : Hid (Below W0.heap.size W0 w1) := Lib.hid hb1
      obtain ⟨q0, q1, q2, q3, q4, q5⟩ := HKV.out w1 HM1.out
      obtain ⟨p0, p1, p2⟩ := HKF.out w1 HM1.out
      clear hb1 HR
      go_wp2_with fail
      refine (HY.out _).mono ?_
      rintro e w2 ⟨rfl, hb2⟩
      have HM2 : Hid (Below W0.heap.size W0 w2) := Lib.hid (HM1.out.trans (hb2.mono HM1.out.size))
      clear q0 q1 q2 q3 q4 q5 p0 p1 p2 hb2
      obtain ⟨q0, q1, q2, q3, q4, q5⟩ := HKV.out w2 HM2.out
      obtain ⟨p0, p1, p2⟩ := HKF.out w2 HM2.out
      go_wp2
      go_ret2
      exact ⟨rfl, HE.out _ HM2.out⟩
    · have hp := pack_length f.body.data.toList (by rw [toList_size]; omega)
      rw [toList_size] at hp
      have HQ := Lib.hid (fun V => refPackedPut_c f.id f.body V hf.id (by omega))
      have hlp := lebL_length 10 ((lebL f.id).length + (pack f.body.data.toList).length) (by omega) (by omega)
      have hsz : (⟨(plPut f.id (pack f.body.data.toList)).toArray⟩ : ByteArray).size ≤ 2000 := by
        rw [size_of]; unfold plPut; rw [List.length_append, List.length_append]; omega
      have HS := Lib.hid (fun V => refPlainSize_c c.fr ⟨(plPut f.id (pack f.body.data.toList)).toArray⟩ V (by omega) hc.fr.1 hc.fr.2)
      have HX : Hid (((plSize c.fr ⟨(plPut f.id (pack f.body.data.toList)).toArray⟩).2.2 = 0 → wPutR c f = (⟨(plPut f.id (pack f.body.data.toList)).toArray⟩, 0)) ∧ ((plSize c.fr ⟨(plPut f.id (pack f.body.data.toList)).toArray⟩).2.2 ≠ 0 → wPutR c f = (ByteArray.empty, (plSize c.fr ⟨(plPut f.id (pack f.body.data.toList)).toArray⟩).2.2))) := Lib.hid (by
        constructor
        · intro h; unfold wPutR; rw [if_pos ⟨hr, hft⟩, if_neg (by omega), if_neg (by omega), if_neg hu, if_neg (by simp [h])]
        · intro h; unfold wPutR; rw [if_pos ⟨hr, hft⟩, if_neg (by omega), if_neg (by omega), if_neg hu, if_pos h])
      generalize (⟨(plPut f.id f.body.data.toList).toArray⟩ : ByteArray) = S0 at *
      generalize (⟨(plPut f.id (pack f.body.data.toList)).toArray⟩ : ByteArray) = S at *
      generalize plSize c.fr S = Z at *
      obtain ⟨z1, z2, E⟩ := Z
      simp only at HX HS
      generalize wPutR c f = PP at *
      obtain ⟨P1, P2⟩ := PP
      clear hR hc hf hft hl hlp hsz h20 hp
      have HI := Lib.hid (info_key' 64)
      have HR := Lib.hid (fun w => refRight17_c c w)
      rw [hr] at HR
      unfold keyV at *
      generalize kC 64 = KL at *
      unfold Cfg.val Fr.val at *
      obtain ⟨fm, mg, fr, un, de, it⟩ := c
      obtain ⟨id, nm, body⟩ := f
      simp only at *
      (try subst h1)
      (try subst h2)
      obtain ⟨W0, hW0⟩ : ∃ W0, ((w.alloc (.cells KL 32)).alloc (.cells #[.int .i64 3, .int .u32 mg, .int .i64 fr, .int .i64 un, .int .i64 de, .int .i64 it] 24)).alloc (.cells #[.int .u64 id, .string ⟨#[]⟩, .string body] 27) = W0 := ⟨_, rfl⟩
      have hN := three_new hW0
      have HO : Hid (Below w.heap.size w W0) := Lib.hid hN.2.1
      have HL : Hid (W0.heap.size = w.heap.size + 3) := Lib.hid hN.1
      have HKV : Hid (∀ V, Below W0.heap.size W0 V → (V.cell? ⟨w.heap.size + 1, 0, none⟩ = some (.int .i64 3) ∧ V.cell? ⟨w.heap.size + 1, 1, none⟩ = some (.int .u32 mg) ∧ V.cell? ⟨w.heap.size + 1, 2, none⟩ = some (.int .i64 fr) ∧ V.cell? ⟨w.heap.size + 1, 3, none⟩ = some (.int .i64 un) ∧ V.cell? ⟨w.heap.size + 1, 4, none⟩ = some (.int .i64 de) ∧ V.cell? ⟨w.heap.size + 1, 5, none⟩ = some (.int .i64 it))) := Lib.hid (fun V hV => by
        have hB := hN.2.2.2.1.keep hV (by omega)
        exact ⟨hB.cell 0, hB.cell 1, hB.cell 2, hB.cell 3, hB.cell 4, hB.cell 5⟩)
      have HKF : Hid (∀ V, Below W0.heap.size W0 V → (V.cell? ⟨w.heap.size + 1 + 1, 0, none⟩ = some (.int .u64 id) ∧ V.cell? ⟨w.heap.size + 1 + 1, 1, none⟩ = some (.string ⟨#[]⟩) ∧ V.cell? ⟨w.heap.size + 1 + 1, 2, none⟩ = some (.string body))) := Lib.hid (fun V hV => by
        have hB := hN.2.2.2.2.keep hV (by omega)
        exact ⟨hB.cell 0, hB.cell 1, hB.cell 2⟩)
      have HKK : Hid (∀ V, Below W0.heap.size W0 V → Blk V w.heap.size 32 KL) := Lib.hid (fun V hV => hN.2.2.1.keep hV (by omega))
      have HE : Hid (∀ V, Below W0.heap.size W0 V → Below w.heap.size w V) := Lib.hid (fun V hV => HO.out.trans (hV.mono (by have := HL.out; omega)))
      have HW0 := Lib.hid hW0
      clear hW0 hN
      go_enter Tryz.func16, Tryz.ntmps16
      go_wp2_with fail
      rw [HW0.out]
      refine (HR.out _).mono ?_
      rintro e w1 ⟨rfl, hb1⟩
      have HM1 : Hid (Below W0.heap.size W0 w1) := Lib.hid hb1
      obtain ⟨q0, q1, q2, q3, q4, q5⟩ := HKV.out w1 HM1.out
      obtain ⟨p0, p1, p2⟩ := HKF.out w1 HM1.out
      clear hb1 HR
      go_wp2_with fail
      refine (HY.out _).mono ?_
      rintro e w2 ⟨rfl, hb2⟩
      have HM2 : Hid (Below W0.heap.size W0 w2) := Lib.hid (HM1.out.trans (hb2.mono HM1.out.size))
      clear q0 q1 q2 q3 q4 q5 p0 p1 p2 hb2
      obtain ⟨q0, q1, q2, q3, q4, q5⟩ := HKV.out w2 HM2.out
      obtain ⟨p0, p1, p2⟩ := HKF.out w2 HM2.out
      go_wp2_with fail
      refine (HQ.out _).mono ?_
      rintro e w3 ⟨rfl, hb3⟩
      have HM3 : Hid (Below W0.heap.size W0 w3) := Lib.hid (HM2.out.trans (hb3.mono HM2.out.size))
      clear q0 q1 q2 q3 q4 q5 p0 p1 p2 hb3
      obtain ⟨q0, q1, q2, q3, q4, q5⟩ := HKV.out w3 HM3.out
      obtain ⟨p0, p1, p2⟩ := HKF.out w3 HM3.out
      rcases beq0 E with ⟨e0, e1, e2⟩ | ⟨e0, e1, e2⟩
      · subst e0
        have hX := HX.out.1 (by simp)
        injection hX with hx1 hx2
        subst hx1; subst hx2
        clear HX
        go_wp2_with fail
        refine (HS.out _).mono ?_
        rintro e w9 ⟨rfl, rfl⟩
        go_wp2
        go_ret2
        exact ⟨rfl, HE.out _ HM3.out⟩
      · have hX := HX.out.2 e0
        injection hX with hx1 hx2
        subst hx1; subst hx2
        clear HX
        go_wp2_with fail
        refine (HS.out _).mono ?_
        rintro e w9 ⟨rfl, rfl⟩
        go_wp2
        go_ret2
        exact ⟨rfl, HE.out _ HM3.out⟩
  · have hX : wPutR c f = (ByteArray.empty, 1) := by have hft : wFits c f = false := (by unfold wFits; rw [if_neg (by omega)]; simpa using h2); unfold wPutR; rw [if_neg (by simp [hft])]
    rw [hX]
    clear hX hR hc hf h2
    have HI := Lib.hid (info_key' 64)
    have HR := Lib.hid (fun w => refRight17_c c w)
    rw [hr] at HR
    unfold keyV at *
    generalize kC 64 = KL at *
    unfold Cfg.val Fr.val at *
    obtain ⟨fm, mg, fr, un, de, it⟩ := c
    obtain ⟨id, nm, body⟩ := f
    simp only at *
    (try subst h1)
    (try subst h2)
    obtain ⟨W0, hW0⟩ : ∃ W0, ((w.alloc (.cells KL 32)).alloc (.cells #[.int .i64 3, .int .u32 mg, .int .i64 fr, .int .i64 un, .int .i64 de, .int .i64 it] 24)).alloc (.cells #[.int .u64 id, .string nm, .string body] 27) = W0 := ⟨_, rfl⟩
    have hN := three_new hW0
    have HO : Hid (Below w.heap.size w W0) := Lib.hid hN.2.1
    have HL : Hid (W0.heap.size = w.heap.size + 3) := Lib.hid hN.1
    have HKV : Hid (∀ V, Below W0.heap.size W0 V → (V.cell? ⟨w.heap.size + 1, 0, none⟩ = some (.int .i64 3) ∧ V.cell? ⟨w.heap.size + 1, 1, none⟩ = some (.int .u32 mg) ∧ V.cell? ⟨w.heap.size + 1, 2, none⟩ = some (.int .i64 fr) ∧ V.cell? ⟨w.heap.size + 1, 3, none⟩ = some (.int .i64 un) ∧ V.cell? ⟨w.heap.size + 1, 4, none⟩ = some (.int .i64 de) ∧ V.cell? ⟨w.heap.size + 1, 5, none⟩ = some (.int .i64 it))) := Lib.hid (fun V hV => by
      have hB := hN.2.2.2.1.keep hV (by omega)
      exact ⟨hB.cell 0, hB.cell 1, hB.cell 2, hB.cell 3, hB.cell 4, hB.cell 5⟩)
    have HKF : Hid (∀ V, Below W0.heap.size W0 V → (V.cell? ⟨w.heap.size + 1 + 1, 0, none⟩ = some (.int .u64 id) ∧ V.cell? ⟨w.heap.size + 1 + 1, 1, none⟩ = some (.string nm) ∧ V.cell? ⟨w.heap.size + 1 + 1, 2, none⟩ = some (.string body))) := Lib.hid (fun V hV => by
      have hB := hN.2.2.2.2.keep hV (by omega)
      exact ⟨hB.cell 0, hB.cell 1, hB.cell 2⟩)
    have HKK : Hid (∀ V, Below W0.heap.size W0 V → Blk V w.heap.size 32 KL) := Lib.hid (fun V hV => hN.2.2.1.keep hV (by omega))
    have HE : Hid (∀ V, Below W0.heap.size W0 V → Below w.heap.size w V) := Lib.hid (fun V hV => HO.out.trans (hV.mono (by have := HL.out; omega)))
    have HW0 := Lib.hid hW0
    clear hW0 hN
    go_enter Tryz.func16, Tryz.ntmps16
    go_wp2_with fail
    rw [HW0.out]
    refine (HR.out _).mono ?_
    rintro e w1 ⟨rfl, hb1⟩
    have HM1 : Hid (Below W0.heap.size W0 w1) := Lib.hid hb1
    obtain ⟨q0, q1, q2, q3, q4, q5⟩ := HKV.out w1 HM1.out
    obtain ⟨p0, p1, p2⟩ := HKF.out w1 HM1.out
    clear hb1 HR
    go_wp2
    go_ret2
    exact ⟨rfl, HE.out _ HM1.out⟩
/-- The document's Put tells wPut, too. -/
theorem refPut17_c (c : Cfg) (f : Fr) (hc : c.ok) (hf : f.ok) (hb : f.body.size ≤ 400) (w : World) :
    Calls Tryz.prog 16 #[keyV, c.val, f.val] w fun e w' => e = .returned (.tuple #[.string (wPut c f).1, .int .i64 (wPut c f).2]) ∧ Below w.heap.size w w' := by
  rw [← wPutR_eq c f hf.id hb]
  cases hr : c.right with
  | true =>
    have hRi := (c.right_iff).1 hr
    rcases (by omega : c.fm = 1 ∨ c.fm = 2 ∨ c.fm = 3) with h | h | h
    · exact rPut1_c c f hc hf hb h hr w
    · exact rPut2_c c f hc hf hb h hr w
    · exact rPut3_c c f hc hf hb h hr w
  | false => exact rPut0_c c f hr w
end Go.Proofs.YtebllmpdlapefaaGreatDoor
