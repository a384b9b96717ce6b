/- What the formats tell of bytes: their closures, by any meter or none. -/
/- wire.Next, by any meter or none. -/
/- The document's wire: Next. -/
import Derived.Test.YtebllmpdlapefaaGreatDoorKA8
import Derived.Test.YtebllmpdlapefaaGreatDoorKA2
import Derived.Test.YtebllmpdlapefaaGreatDoorKCoinN
import Derived.Test.YtebllmpdlapefaaGreatDoorKA32
import Derived.Test.YtebllmpdlapefaaGreatDoorKA5
import Derived.Deep.RegionHeld3
import Derived.Deep.DeepCutAuto
import Derived.Test.YtebllmpdlapefaaGreatDoorKA35
import Derived.Test.YtebllmpdlapefaaGreatDoorKA22
import Derived.Laws.Rows
namespace Go.Proofs.YtebllmpdlapefaaGreatDoor
set_option linter.unusedVariables false
set_option linter.unusedSimpArgs false
open Go.RowKit

/-- The meter, if there is one: how much was taken, how much may be taken still. -/
def Met (w : World) : Option Nat → Nat → Nat → Prop
  | none, _, _ => True
  | some g, t, R => ∃ a u p, Mtr w g a u t p ∧ a ≤ 9223372036854775807 ∧ u + R ≤ a ∧ t + R ≤ 9223372036854775807
def mvOf : Option Nat → Value
  | none => .pointer none
  | some g => .pointer (some ⟨g, 0, none⟩)
theorem Met.only {L : List Nat} {w w' : World} {mo : Option Nat} {t R : Nat} (h : Met w mo t R) (ho : Only L w w') (hn : ∀ g, mo = some g → g ∉ L) : Met w' mo t R := by
  cases mo with
  | none => trivial
  | some g =>
    obtain ⟨a, u, p, h1, h2⟩ := h
    exact ⟨a, u, p, h1.only ho (hn g rfl), h2⟩
theorem Met.lt {w : World} {mo : Option Nat} {t R : Nat} (h : Met w mo t R) : ∀ g, mo = some g → g < w.heap.size := by
  rintro g rfl
  obtain ⟨a, u, p, h1, _⟩ := h
  exact h1.lt
theorem Met.less {w : World} {mo : Option Nat} {t R R' : Nat} (h : Met w mo t R) (hR : R' ≤ R) : Met w mo t R' := by
  cases mo with
  | none => trivial
  | some g =>
    obtain ⟨a, u, p, h1, h2, h3, h4⟩ := h
    exact ⟨a, u, p, h1, h2, by omega, by omega⟩
/-- Since W0 nothing of old has turned but the meter, which stands so. -/
structure MS (mo : Option Nat) (t R : Nat) (W0 V : World) : Prop where
  only : Only mo.toList W0 V
  met : Met V mo t R
theorem MS.refl {mo : Option Nat} {t R : Nat} {w : World} (h : Met w mo t R) : MS mo t R w w := ⟨Only.refl _ _, h⟩
theorem MS.below {mo : Option Nat} {t R : Nat} {W0 V V' : World} (h : MS mo t R W0 V) (hb : Below V.heap.size V V') : MS mo t R W0 V' :=
  ⟨h.only.trans' (Only.of_below hb (Nat.le_refl _)) (by simp), h.met.only (Only.of_below hb (Nat.le_refl _)) (by simp)⟩
theorem MS.alloc {mo : Option Nat} {t R : Nat} {W0 V : World} (h : MS mo t R W0 V) (o : Obj) : MS mo t R W0 (V.alloc o) := h.below ((Below.refl _ _).alloc (Nat.le_refl _) _)
theorem MS.drew {mo : Option Nat} {t R : Nat} {W0 V : World} (h : MS mo t R W0 V) : MS mo t R W0 V.drew := h.below (Below.refl _ _).drew
theorem MS.blk {mo : Option Nat} {t R : Nat} {W0 V : World} (h : MS mo t R W0 V) {g : Nat} {ty : TypeId} {cs : Array Value} (hB : Blk W0 g ty cs) (hg : ∀ k, mo = some k → k < g) : Blk V g ty cs :=
  hB.only h.only (by
    intro hm
    cases mo with
    | none => simp at hm
    | some k => have := hg k rfl; simp at hm; omega)
theorem MS.from {mo : Option Nat} {t R : Nat} {w W0 V : World} (h : MS mo t R W0 V) (ho : Only mo.toList w W0) : MS mo t R w V := ⟨ho.trans h.only, h.met⟩
theorem MS.size {mo : Option Nat} {t R : Nat} {W0 V : World} (h : MS mo t R W0 V) : W0.heap.size ≤ V.heap.size := h.only.size
theorem MS.put {mo : Option Nat} {t R : Nat} {w V : World} (h : MS mo t R w V) {b o : Nat} (hb : w.heap.size ≤ b) (hg : ∀ k, mo = some k → k < b) (v : Value) : MS mo t R w (V.setCell ⟨b, o, none⟩ v) := by
  refine ⟨h.only.setCell (.inr (by simpa using hb)) _, ?_⟩
  have := h.met
  cases mo with
  | none => trivial
  | some g =>
    obtain ⟨a, u, p, h1, h2⟩ := this
    exact ⟨a, u, p, h1.far (by have := hg g rfl; simp; omega) _, h2⟩
theorem MS.put3 {mo : Option Nat} {t R : Nat} {w V : World} (h : MS mo t R w V) {b : Nat} (hb : w.heap.size ≤ b) (hg : ∀ k, mo = some k → k < b) (v0 v1 v2 : Value) : MS mo t R w (((V.setCell ⟨b, 0, none⟩ v0).setCell ⟨b, 1, none⟩ v1).setCell ⟨b, 2, none⟩ v2) := ((h.put hb hg _).put hb hg _).put hb hg _
theorem MS.to_below {t R : Nat} {w V : World} (h : MS none t R w V) : Below w.heap.size w V := h.only.below (Nat.le_refl _) (by simp)
theorem two_new {w W0 : World} {t1 t2 : TypeId} {a b : Array Value} (h : (w.alloc (.cells a t1)).alloc (.cells b t2) = W0) : W0.heap.size = w.heap.size + 2 ∧ Below w.heap.size w W0 ∧ Blk W0 w.heap.size t1 a ∧ Blk W0 (w.heap.size + 1) t2 b := by
  subst h
  refine ⟨by simp, (by repeat (first | exact Below.refl _ _ | assumption | with_reducible refine Below.drewN' ?_ _ | with_reducible refine Below.drew ?_ | ((with_reducible refine Below.alloc' ?_ ?_ _); · (first | omega | (simp <;> omega))))), (Blk.new w _ _).alloc _, ?_⟩
  have := Blk.new (w.alloc (.cells a t1)) t2 b
  rwa [World.size_alloc] at this
def wRet (x : Int × Fr × Nat × Nat) : Value := .tuple #[x.2.1.val, .int .i64 x.2.2.1, .int .i64 x.1]
set_option maxRecDepth 100000 in
set_option maxHeartbeats 1000000 in
theorem wNextC_c (c : Cfg) (mo : Option Nat) (t R : Nat) (s : ByteArray) (hc : c.ok) (h1 : c.fm = 1) (hf : c.fr ≤ 65536) (hs : s.size ≤ 1099511627776) (W w : World) (hM : MS mo t R W w) :
    Calls Tryz.prog 66 #[c.val, mvOf mo, .string s] w fun e w' => e = .returned (wRet (wRaw c s)) ∧ MS mo (t + (wRaw c s).2.2.2) (R - (wRaw c s).2.2.2) W w' := by
  have hX : wRaw c s = ((cnNext c.mg c.fr s).1, ⟨0, (cnNext c.mg c.fr s).2.1, (cnNext c.mg c.fr s).2.2.1⟩, (cnNext c.mg c.fr s).2.2.2, 0) := by unfold wRaw; rw [if_pos h1]
  have HC : Hid (∀ W0 V, MS mo t R W0 V → Calls Tryz.prog 67 #[.int .u32 c.mg, .int .i64 c.fr, .string s] V fun e w' => e = .returned (.tuple #[.agg #[.int .u64 (wRaw c s).2.1.id, .string (wRaw c s).2.1.nm, .string (wRaw c s).2.1.body], .int .i64 (wRaw c s).2.2.1, .int .i64 (wRaw c s).1]) ∧ MS mo (t + (wRaw c s).2.2.2) (R - (wRaw c s).2.2.2) W0 w') := Lib.hid (fun W0 V hV =>
    (coinNext_c c.mg c.fr s V hc.mg hs hc.fr (.inr (by omega))).mono fun e w' ⟨h1, h2⟩ => by rw [hX]; exact ⟨h1, hV.below h2⟩)
  obtain ⟨W0, hW0⟩ : ∃ W0, (w.alloc (.cells #[.int .i64 c.fm, .int .u32 c.mg, .int .i64 c.fr, .int .i64 c.un, .int .i64 c.de, .int .i64 c.it] 24)).alloc (.cells #[.int .u64 0, .string ⟨#[]⟩, .string ⟨#[]⟩] 27) = W0 := ⟨_, rfl⟩
  have hN := two_new hW0
  have HO : Hid (Only mo.toList W W0) := Lib.hid (hM.only.trans ((Only.of_below hN.2.1 (Nat.le_refl _)).mono (by simp)))
  have HB : Hid (Blk W0 (w.heap.size + 1) 27 #[.int .u64 0, .string ⟨#[]⟩, .string ⟨#[]⟩]) := Lib.hid hN.2.2.2
  have HM : Hid (MS mo t R W0 W0) := Lib.hid (MS.refl (hM.met.only (Only.of_below hN.2.1 (Nat.le_refl _)) (by simp)))
  have HG : Hid (∀ k, mo = some k → k < w.heap.size + 1) := Lib.hid (fun k hk => by have := hM.met.lt k hk; omega)
  have HL : Hid (W.heap.size ≤ w.heap.size + 1) := Lib.hid (by have := hM.size; omega)
  have HW0 := Lib.hid hW0
  have HX := Lib.hid hX
  clear hW0 hN hM hX h1
  unfold Cfg.val
  generalize mvOf mo = mv at *
  obtain ⟨X, hXX⟩ : ∃ X, wRaw c s = X := ⟨_, rfl⟩
  rw [hXX] at HX HC ⊢
  clear hXX
  obtain ⟨y5, ⟨y1, y2, y3⟩, y4, m⟩ := X
  simp only at HC HX
  go_enter Tryz.func66, Tryz.ntmps66
  go_wp2_with fail
  rw [HW0.out]
  refine (HC.out _ _ HM.out).mono ?_
  rintro e w1 ⟨rfl, hb⟩
  have HB1 := Lib.hid (hb.blk HB.out HG.out)
  have HZ := Lib.hid (hb.from HO.out)
  clear hb
  obtain ⟨g0, g1, g2, f0, f1, f2⟩ := blk3 HB1.out
  go_wp2
  refine bodyPost_ret (v := .tuple #[.agg #[.int .u64 y1, .string y2, .string y3], .int .i64 y4, .int .i64 y5]) (by simp [results, Tryz.results66, go_sem, set3_at HB1.out]) rfl ?_
  exact ⟨rfl, HZ.out.put3 HL.out HG.out _ _ _⟩
set_option maxRecDepth 100000 in
set_option maxHeartbeats 1000000 in
theorem wNextP_c (c : Cfg) (mo : Option Nat) (t R : Nat) (s : ByteArray) (hc : c.ok) (h1 : c.fm = 2) (hf : c.fr ≤ 65536) (hs : s.size ≤ 1099511627776) (W w : World) (hM : MS mo t R W w) :
    Calls Tryz.prog 71 #[c.val, mvOf mo, .string s] w fun e w' => e = .returned (wRet (wRaw c s)) ∧ MS mo (t + (wRaw c s).2.2.2) (R - (wRaw c s).2.2.2) W w' := by
  have hX : wRaw c s = ((plNext c.fr s).1, ⟨(plNext c.fr s).2.1, ByteArray.empty, (plNext c.fr s).2.2.1⟩, (plNext c.fr s).2.2.2, 0) := by unfold wRaw; rw [if_neg (by omega), if_pos h1]
  have HC : Hid (∀ W0 V, MS mo t R W0 V → Calls Tryz.prog 72 #[.int .i64 c.fr, .string s] V fun e w' => e = .returned (.tuple #[.agg #[.int .u64 (wRaw c s).2.1.id, .string (wRaw c s).2.1.nm, .string (wRaw c s).2.1.body], .int .i64 (wRaw c s).2.2.1, .int .i64 (wRaw c s).1]) ∧ MS mo (t + (wRaw c s).2.2.2) (R - (wRaw c s).2.2.2) W0 w') := Lib.hid (fun W0 V hV =>
    (plainNext_c c.fr s V (by omega) hc.fr.1 hc.fr.2).mono fun e w' ⟨h1, h2⟩ => by rw [hX]; exact ⟨h1, hV.below h2⟩)
  obtain ⟨W0, hW0⟩ : ∃ W0, (w.alloc (.cells #[.int .i64 c.fm, .int .u32 c.mg, .int .i64 c.fr, .int .i64 c.un, .int .i64 c.de, .int .i64 c.it] 24)).alloc (.cells #[.int .u64 0, .string ⟨#[]⟩, .string ⟨#[]⟩] 27) = W0 := ⟨_, rfl⟩
  have hN := two_new hW0
  have HO : Hid (Only mo.toList W W0) := Lib.hid (hM.only.trans ((Only.of_below hN.2.1 (Nat.le_refl _)).mono (by simp)))
  have HB : Hid (Blk W0 (w.heap.size + 1) 27 #[.int .u64 0, .string ⟨#[]⟩, .string ⟨#[]⟩]) := Lib.hid hN.2.2.2
  have HM : Hid (MS mo t R W0 W0) := Lib.hid (MS.refl (hM.met.only (Only.of_below hN.2.1 (Nat.le_refl _)) (by simp)))
  have HG : Hid (∀ k, mo = some k → k < w.heap.size + 1) := Lib.hid (fun k hk => by have := hM.met.lt k hk; omega)
  have HL : Hid (W.heap.size ≤ w.heap.size + 1) := Lib.hid (by have := hM.size; omega)
  have HW0 := Lib.hid hW0
  have HX := Lib.hid hX
  clear hW0 hN hM hX h1
  unfold Cfg.val
  generalize mvOf mo = mv at *
  obtain ⟨X, hXX⟩ : ∃ X, wRaw c s = X := ⟨_, rfl⟩
  rw [hXX] at HX HC ⊢
  clear hXX
  obtain ⟨y5, ⟨y1, y2, y3⟩, y4, m⟩ := X
  simp only at HC HX
  go_enter Tryz.func71, Tryz.ntmps71
  go_wp2_with fail
  rw [HW0.out]
  refine (HC.out _ _ HM.out).mono ?_
  rintro e w1 ⟨rfl, hb⟩
  have HB1 := Lib.hid (hb.blk HB.out HG.out)
  have HZ := Lib.hid (hb.from HO.out)
  clear hb
  obtain ⟨g0, g1, g2, f0, f1, f2⟩ := blk3 HB1.out
  go_wp2
  refine bodyPost_ret (v := .tuple #[.agg #[.int .u64 y1, .string y2, .string y3], .int .i64 y4, .int .i64 y5]) (by simp [results, Tryz.results71, go_sem, set3_at HB1.out]) rfl ?_
  exact ⟨rfl, HZ.out.put3 HL.out HG.out _ _ _⟩
set_option maxRecDepth 100000 in
set_option maxHeartbeats 1000000 in
theorem wNextK_c (c : Cfg) (mo : Option Nat) (t R : Nat) (s : ByteArray) (hc : c.ok) (h1 : c.fm = 3) (hf : c.fr ≤ 65536) (hu : c.un ≤ 65536) (hR : 70000 ≤ R) (hs : s.size ≤ 1099511627776) (W w : World) (hM : MS mo t R W w) :
    Calls Tryz.prog 76 #[c.val, mvOf mo, .string s] w fun e w' => e = .returned (wRet (wRaw c s)) ∧ MS mo (t + (wRaw c s).2.2.2) (R - (wRaw c s).2.2.2) W w' := by
  have hX : wRaw c s = ((pkNext c.fr c.un s).1, ⟨(pkNext c.fr c.un s).2.1, ByteArray.empty, (pkNext c.fr c.un s).2.2.1⟩, (pkNext c.fr c.un s).2.2.2.1, (pkNext c.fr c.un s).2.2.2.2) := by unfold wRaw; rw [if_neg (by omega), if_neg (by omega)]
  have HC : Hid (∀ W0 V, MS mo t R W0 V → Calls Tryz.prog 77 #[.int .i64 c.fr, .int .i64 c.un, mvOf mo, .string s] V fun e w' => e = .returned (.tuple #[.agg #[.int .u64 (wRaw c s).2.1.id, .string (wRaw c s).2.1.nm, .string (wRaw c s).2.1.body], .int .i64 (wRaw c s).2.2.1, .int .i64 (wRaw c s).1]) ∧ MS mo (t + (wRaw c s).2.2.2) (R - (wRaw c s).2.2.2) W0 w') := Lib.hid (fun W0 V hV => by
    rw [hX]
    cases mo with
    | none => exact (packedNext_nil c.fr c.un s V (by omega) hc.fr.1 hc.fr.2).mono fun e w' ⟨h1, h2⟩ => ⟨h1, ⟨hV.only.trans' (Only.of_below h2 (Nat.le_refl _)) (by simp), trivial⟩⟩
    | some g =>
      obtain ⟨a, u, p, k1, k2, k3, k4⟩ := hV.met
      have hm := pkNext_met c.fr c.un s
      exact (packedNext_met c.fr c.un g a u t p s V (by omega) hc.fr.1 hc.fr.2 k1 k2 (by omega) (by omega) (by omega)).mono fun e w' ⟨h1, ⟨q, h2⟩, h3⟩ => ⟨h1, ⟨hV.only.trans h3, ⟨a, _, q, h2, k2, by simp only; omega, by simp only; omega⟩⟩⟩)
  obtain ⟨W0, hW0⟩ : ∃ W0, (w.alloc (.cells #[.int .i64 c.fm, .int .u32 c.mg, .int .i64 c.fr, .int .i64 c.un, .int .i64 c.de, .int .i64 c.it] 24)).alloc (.cells #[.int .u64 0, .string ⟨#[]⟩, .string ⟨#[]⟩] 27) = W0 := ⟨_, rfl⟩
  have hN := two_new hW0
  have HO : Hid (Only mo.toList W W0) := Lib.hid (hM.only.trans ((Only.of_below hN.2.1 (Nat.le_refl _)).mono (by simp)))
  have HB : Hid (Blk W0 (w.heap.size + 1) 27 #[.int .u64 0, .string ⟨#[]⟩, .string ⟨#[]⟩]) := Lib.hid hN.2.2.2
  have HM : Hid (MS mo t R W0 W0) := Lib.hid (MS.refl (hM.met.only (Only.of_below hN.2.1 (Nat.le_refl _)) (by simp)))
  have HG : Hid (∀ k, mo = some k → k < w.heap.size + 1) := Lib.hid (fun k hk => by have := hM.met.lt k hk; omega)
  have HL : Hid (W.heap.size ≤ w.heap.size + 1) := Lib.hid (by have := hM.size; omega)
  have HW0 := Lib.hid hW0
  have HX := Lib.hid hX
  clear hW0 hN hM hX h1
  unfold Cfg.val
  generalize mvOf mo = mv at *
  obtain ⟨X, hXX⟩ : ∃ X, wRaw c s = X := ⟨_, rfl⟩
  rw [hXX] at HX HC ⊢
  clear hXX
  obtain ⟨y5, ⟨y1, y2, y3⟩, y4, m⟩ := X
  simp only at HC HX
  go_enter Tryz.func76, Tryz.ntmps76
  go_wp2_with fail
  rw [HW0.out]
  refine (HC.out _ _ HM.out).mono ?_
  rintro e w1 ⟨rfl, hb⟩
  have HB1 := Lib.hid (hb.blk HB.out HG.out)
  have HZ := Lib.hid (hb.from HO.out)
  clear hb
  obtain ⟨g0, g1, g2, f0, f1, f2⟩ := blk3 HB1.out
  go_wp2
  refine bodyPost_ret (v := .tuple #[.agg #[.int .u64 y1, .string y2, .string y3], .int .i64 y4, .int .i64 y5]) (by simp [results, Tryz.results76, go_sem, set3_at HB1.out]) rfl ?_
  exact ⟨rfl, HZ.out.put3 HL.out HG.out _ _ _⟩
end Go.Proofs.YtebllmpdlapefaaGreatDoor
namespace Go.Proofs.YtebllmpdlapefaaGreatDoor
set_option linter.unusedVariables false
set_option linter.unusedSimpArgs false
open Go.RowKit

theorem Blk.ms {mo : Option Nat} {t R : Nat} {V V' : World} {g : Nat} {ty : TypeId} {cs : Array Value} (h : Blk V g ty cs) (hM : MS mo t R V V') (hg : ∀ k, mo = some k → k < g) : Blk V' g ty cs := hM.blk h hg
theorem Met.below {w w' : World} {mo : Option Nat} {t R : Nat} (h : Met w mo t R) (hb : Below w.heap.size w w') : Met w' mo t R := h.only (Only.of_below hb (Nat.le_refl _)) (by simp)
set_option maxRecDepth 100000 in
set_option maxHeartbeats 4000000 in
theorem wNx1_c (c : Cfg) (mo : Option Nat) (t R : Nat) (s : ByteArray) (hc : c.ok) (h1 : c.fm = 1) (hr : c.right = true) (hR : 70000 ≤ R) (hs : s.size ≤ 1099511627776) (W w : World) (hM : MS mo t R W w) :
    Calls Tryz.prog 21 #[c.val, mvOf mo, .string s] w fun e w' => e = .returned (wRet (wNext c s)) ∧ MS mo (t + (wNext c s).2.2.2) (R - (wNext c s).2.2.2) W w' := by
  have hRi := (c.right_iff).1 hr
  have HN := Lib.hid (wNextC_c c mo t R s hc h1 (by omega) hs)
  clear hRi hc hR
  have hI := fm_at1
  have hFd := fm_fld1_2
  unfold fmV fm1 fnV at hI
  unfold fm1 fnV at hFd
  have HR := Lib.hid (fun w => right_c c w)
  rw [hr] at HR
  have HRN := Lib.hid (wNext_right hr s)
  rw [HRN.out]
  clear HRN
  have HER := Lib.hid (wRaw_err c s)
  unfold Cfg.val at *
  obtain ⟨X, hXX⟩ : ∃ X, wRaw c s = X := ⟨_, rfl⟩
  rw [hXX] at HN HER ⊢
  clear hXX
  obtain ⟨y5, ⟨y1, y2, y3⟩, y4, m⟩ := X
  simp only at HN HER
  obtain ⟨fm, mg, fr, un, de, it⟩ := c
  simp only at h1
  subst h1
  simp only at *
  generalize mvOf mo = mv at *
  obtain ⟨W0, hW0⟩ : ∃ W0, (w.alloc (.cells #[.int .i64 1, .int .u32 mg, .int .i64 fr, .int .i64 un, .int .i64 de, .int .i64 it] 24)).alloc (.cells #[.int .u64 0, .string ⟨#[]⟩, .string ⟨#[]⟩] 27) = W0 := ⟨_, rfl⟩
  have hN := two_new hW0
  have HO : Hid (Only mo.toList W W0) := Lib.hid (hM.only.trans ((Only.of_below hN.2.1 (Nat.le_refl _)).mono (by simp)))
  have HB : Hid (Blk W0 (w.heap.size + 1) 27 #[.int .u64 0, .string ⟨#[]⟩, .string ⟨#[]⟩]) := Lib.hid hN.2.2.2
  have HM : Hid (Met W0 mo t R) := Lib.hid (hM.met.only (Only.of_below hN.2.1 (Nat.le_refl _)) (by simp))
  have HG : Hid (∀ k, mo = some k → k < w.heap.size) := Lib.hid (hM.met.lt)
  have HL : Hid (W.heap.size ≤ w.heap.size ∧ W0.heap.size = w.heap.size + 2) := Lib.hid ⟨hM.size, hN.1⟩
  have HKV : Hid (∀ V t R, MS mo t R W0 V → V.cell? ⟨w.heap.size, 0, none⟩ = some (.int .i64 1) ∧ V.cell? ⟨w.heap.size, 1, none⟩ = some (.int .u32 mg) ∧ V.cell? ⟨w.heap.size, 2, none⟩ = some (.int .i64 fr) ∧ V.cell? ⟨w.heap.size, 3, none⟩ = some (.int .i64 un) ∧ V.cell? ⟨w.heap.size, 4, none⟩ = some (.int .i64 de) ∧ V.cell? ⟨w.heap.size, 5, none⟩ = some (.int .i64 it)) := Lib.hid (fun V t R hV => by
    have hB := hV.blk hN.2.2.1 HG.out
    exact ⟨hB.cell 0, hB.cell 1, hB.cell 2, hB.cell 3, hB.cell 4, hB.cell 5⟩)
  have HW0 := Lib.hid hW0
  clear hW0 hN hM
  go_enter Tryz.func21, Tryz.ntmps21
  go_wp2_with fail
  rw [HW0.out]
  refine (HR.out _).mono ?_
  rintro e w1 ⟨rfl, hb1⟩
  have HM1 : Hid (MS mo t R W0 w1) := Lib.hid ((MS.refl HM.out).below hb1)
  clear hb1
  obtain ⟨q0, q1, q2, q3, q4, q5⟩ := HKV.out w1 _ _ HM1.out
  have HZ1 := Lib.hid HM1.out.size
  have HAL : Hid (∀ V, MS mo t R W0 V → ∀ k, mo = some k → k < V.heap.size) := Lib.hid (fun V hV => hV.met.lt)
  have HFa : Hid (Calls Tryz.prog 45 #[] (w1.alloc (.cells #[.int .u64 0, .string ⟨#[]⟩, .string ⟨#[]⟩] 27)).drew fun e w' => e = .returned fmV ∧ MS mo t R W0 w' ∧ Blk w' w1.heap.size 27 #[.int .u64 0, .string ⟨#[]⟩, .string ⟨#[]⟩]) := Lib.hid ((formats_c _).mono fun e w' ⟨h1, h2⟩ => ⟨h1, ((HM1.out.alloc _).drew).below h2, (Blk.new w1 _ _).drew.keep h2 (by simp)⟩)
  have HF0 : Hid (Calls Tryz.prog 45 #[] w1.drew fun e w' => e = .returned fmV ∧ MS mo t R W0 w') := Lib.hid ((formats_c _).mono fun e w' ⟨h1, h2⟩ => ⟨h1, HM1.out.drew.below h2⟩)
  have HNB : Hid (∀ V, MS mo t R W0 V → Calls Tryz.prog 66 #[.agg #[.int .i64 1, .int .u32 mg, .int .i64 fr, .int .i64 un, .int .i64 de, .int .i64 it], mv, .string s] (V.alloc (.cells #[.int .u64 0, .string ⟨#[]⟩, .string ⟨#[]⟩] 27)) fun e w' => e = .returned (.tuple #[.agg #[.int .u64 y1, .string y2, .string y3], .int .i64 y4, .int .i64 y5]) ∧ MS mo (t + m) (R - m) W0 w' ∧ Blk w' V.heap.size 27 #[.int .u64 0, .string ⟨#[]⟩, .string ⟨#[]⟩]) := Lib.hid (fun V hV =>
    (HN.out _ _ (MS.refl (hV.alloc _).met)).mono fun e w' ⟨h1, h2⟩ => ⟨h1, h2.from (hV.alloc _).only, (Blk.new V _ _).ms h2 (HAL.out V hV)⟩)
  have HNA : Hid (∀ V, MS mo t R W0 V → Blk V w1.heap.size 27 #[.int .u64 0, .string ⟨#[]⟩, .string ⟨#[]⟩] → Calls Tryz.prog 66 #[.agg #[.int .i64 1, .int .u32 mg, .int .i64 fr, .int .i64 un, .int .i64 de, .int .i64 it], mv, .string s] V fun e w' => e = .returned (.tuple #[.agg #[.int .u64 y1, .string y2, .string y3], .int .i64 y4, .int .i64 y5]) ∧ MS mo (t + m) (R - m) W0 w' ∧ Blk w' w1.heap.size 27 #[.int .u64 0, .string ⟨#[]⟩, .string ⟨#[]⟩]) := Lib.hid (fun V hV hB =>
    (HN.out _ _ (MS.refl hV.met)).mono fun e w' ⟨h1, h2⟩ => ⟨h1, h2.from hV.only, hB.ms h2 (HAL.out w1 HM1.out)⟩)
  have HN0 : Hid (∀ V, MS mo t R W0 V → Calls Tryz.prog 66 #[.agg #[.int .i64 1, .int .u32 mg, .int .i64 fr, .int .i64 un, .int .i64 de, .int .i64 it], mv, .string s] V fun e w' => e = .returned (.tuple #[.agg #[.int .u64 y1, .string y2, .string y3], .int .i64 y4, .int .i64 y5]) ∧ MS mo (t + m) (R - m) W0 w') := Lib.hid (fun V hV =>
    (HN.out _ _ (MS.refl hV.met)).mono fun e w' ⟨h1, h2⟩ => ⟨h1, h2.from hV.only⟩)
  unfold fmV fnV at HFa HF0
  clear HN HR
  go_upto_region 3 with fail
  go_cut [9, 10, 11] (fun v n er wx => ∃ b9 : Nat, v = .pointer (some ⟨b9, 0, none⟩) ∧ n = .int .i64 y4 ∧ er = .int .i64 y5 ∧ Hid (W0.heap.size ≤ b9) ∧ Hid (Blk wx b9 27 #[.int .u64 y1, .string y2, .string y3]) ∧ Hid (MS mo (t + m) (R - m) W0 wx))
  case first =>
    go_wp2_with fail
    go_region_held3 (fun V => V.cell? ⟨w.heap.size, 0, none⟩ = some (.int .i64 1) ∧ V.cell? ⟨w.heap.size, 1, none⟩ = some (.int .u32 mg) ∧ V.cell? ⟨w.heap.size, 2, none⟩ = some (.int .i64 fr) ∧ V.cell? ⟨w.heap.size, 3, none⟩ = some (.int .i64 un) ∧ V.cell? ⟨w.heap.size, 4, none⟩ = some (.int .i64 de) ∧ V.cell? ⟨w.heap.size, 5, none⟩ = some (.int .i64 it))
      (first | exact HKV.out _ _ _ HM1.out | exact HKV.out _ _ _ HM1.out.drew | exact HKV.out _ _ _ ((HM1.out.alloc _).drew) | exact HKV.out _ _ _ hv2 | exact HKV.out _ _ _ hv | exact HKV.out _ _ _ (hv.alloc _) | exact HKV.out _ _ _ (hv2.alloc _) | exact HKV.out _ _ _ (hv2.put3 HZ1.out (HAL.out _ HM1.out) _ _ _) | exact HKV.out _ _ _ (hv2.put3 hv.size (HAL.out _ hv) _ _ _))
      (first
        | (go_at_call 66; ((with_reducible refine (HNA.out _ hv hz).mono ?_); rintro e w2 ⟨rfl, hv2, hz2⟩; obtain ⟨z0, z1, z2, zf0, zf1, zf2⟩ := blk3 hz2))
        | (go_at_call 66; ((with_reducible refine (HNB.out _ hv).mono ?_); rintro e w2 ⟨rfl, hv2, hz2⟩; obtain ⟨z0, z1, z2, zf0, zf1, zf2⟩ := blk3 hz2))
        | (go_at_call 66; ((with_reducible refine (HN0.out _ hv).mono ?_); rintro e w2 ⟨rfl, hv2⟩))
        | (go_at_call 45; ((with_reducible refine HFa.out.mono ?_); rintro e w' ⟨rfl, hv, hz⟩; obtain ⟨z0, z1, z2, zf0, zf1, zf2⟩ := blk3 hz))
        | (go_at_call 45; ((with_reducible refine HF0.out.mono ?_); rintro e w' ⟨rfl, hv⟩)))
    all_goals
      go_wp2_with fail
      go_meet
      case rel =>
        first
          | exact ⟨_, rfl, rfl, rfl, Lib.hid hv2.size, Lib.hid (Blk.new _ _ _), Lib.hid (hv2.alloc _)⟩
          | exact ⟨_, rfl, rfl, rfl, HZ1, Lib.hid (set3 hz2 _ _ _), Lib.hid (hv2.put3 HZ1.out (HAL.out _ HM1.out) _ _ _)⟩
          | exact ⟨_, rfl, rfl, rfl, Lib.hid hv.size, Lib.hid (set3 hz2 _ _ _), Lib.hid (hv2.put3 hv.size (HAL.out _ hv) _ _ _)⟩
  case rest =>
    obtain ⟨b9, rfl, rfl, rfl, HZ9, HK9, HM9⟩ := hcut
    have HBc : Hid (Blk wc (w.heap.size + 1) 27 #[.int .u64 0, .string ⟨#[]⟩, .string ⟨#[]⟩]) := Lib.hid (HM9.out.blk HB.out (fun k hk => by have := HG.out k hk; omega))
    have HE9 : Hid (MS mo (t + m) (R - m) W wc) := Lib.hid (HM9.out.from HO.out)
    have HL1 : Hid (W.heap.size ≤ w.heap.size + 1) := Lib.hid (by have := HL.out; omega)
    have HG1 : Hid (∀ k, mo = some k → k < w.heap.size + 1) := Lib.hid (fun k hk => by have := HG.out k hk; omega)
    obtain ⟨g0, g1, g2, f0, f1, f2⟩ := blk3 HBc.out
    obtain ⟨k0, k1, k2, _, _, _⟩ := blk3 HK9.out
    clear HFa HF0 HNB HNA HN0 HKV q0 q1 q2 q3 q4 q5 hI hFd
    rcases beq0 y5 with ⟨h0, h1, h2⟩ | ⟨h0, h1, h2⟩
    · subst h0
      go_wp2
      refine bodyPost_ret (v := .tuple #[.agg #[.int .u64 y1, .string y2, .string y3], .int .i64 y4, .int .i64 0]) (by simp [results, Tryz.results21, go_sem, set3_at HBc.out]) rfl ?_
      exact ⟨rfl, HE9.out.put3 HL1.out HG1.out _ _ _⟩
    · obtain ⟨he1, rfl⟩ := HER.out h0
      obtain ⟨rfl, rfl, rfl⟩ : y1 = 0 ∧ y2 = ByteArray.empty ∧ y3 = ByteArray.empty := by injection he1 with a b c; exact ⟨a, b, c⟩
      clear HER
      go_wp2
      refine bodyPost_ret (v := .tuple #[.agg #[.int .u64 0, .string ByteArray.empty, .string ByteArray.empty], .int .i64 0, .int .i64 y5]) (by simp [results, Tryz.results21, go_sem, set3_at HBc.out, empB]) rfl ?_
      exact ⟨rfl, HE9.out.put3 HL1.out HG1.out _ _ _⟩
set_option maxRecDepth 100000 in
set_option maxHeartbeats 4000000 in
theorem wNx2_c (c : Cfg) (mo : Option Nat) (t R : Nat) (s : ByteArray) (hc : c.ok) (h1 : c.fm = 2) (hr : c.right = true) (hR : 70000 ≤ R) (hs : s.size ≤ 1099511627776) (W w : World) (hM : MS mo t R W w) :
    Calls Tryz.prog 21 #[c.val, mvOf mo, .string s] w fun e w' => e = .returned (wRet (wNext c s)) ∧ MS mo (t + (wNext c s).2.2.2) (R - (wNext c s).2.2.2) W w' := by
  have hRi := (c.right_iff).1 hr
  have HN := Lib.hid (wNextP_c c mo t R s hc h1 (by omega) hs)
  clear hRi hc hR
  have hI := fm_at2
  have hFd := fm_fld2_2
  unfold fmV fm2 fnV at hI
  unfold fm2 fnV at hFd
  have HR := Lib.hid (fun w => right_c c w)
  rw [hr] at HR
  have HRN := Lib.hid (wNext_right hr s)
  rw [HRN.out]
  clear HRN
  have HER := Lib.hid (wRaw_err c s)
  unfold Cfg.val at *
  obtain ⟨X, hXX⟩ : ∃ X, wRaw c s = X := ⟨_, rfl⟩
  rw [hXX] at HN HER ⊢
  clear hXX
  obtain ⟨y5, ⟨y1, y2, y3⟩, y4, m⟩ := X
  simp only at HN HER
  obtain ⟨fm, mg, fr, un, de, it⟩ := c
  simp only at h1
  subst h1
  simp only at *
  generalize mvOf mo = mv at *
  obtain ⟨W0, hW0⟩ : ∃ W0, (w.alloc (.cells #[.int .i64 2, .int .u32 mg, .int .i64 fr, .int .i64 un, .int .i64 de, .int .i64 it] 24)).alloc (.cells #[.int .u64 0, .string ⟨#[]⟩, .string ⟨#[]⟩] 27) = W0 := ⟨_, rfl⟩
  have hN := two_new hW0
  have HO : Hid (Only mo.toList W W0) := Lib.hid (hM.only.trans ((Only.of_below hN.2.1 (Nat.le_refl _)).mono (by simp)))
  have HB : Hid (Blk W0 (w.heap.size + 1) 27 #[.int .u64 0, .string ⟨#[]⟩, .string ⟨#[]⟩]) := Lib.hid hN.2.2.2
  have HM : Hid (Met W0 mo t R) := Lib.hid (hM.met.only (Only.of_below hN.2.1 (Nat.le_refl _)) (by simp))
  have HG : Hid (∀ k, mo = some k → k < w.heap.size) := Lib.hid (hM.met.lt)
  have HL : Hid (W.heap.size ≤ w.heap.size ∧ W0.heap.size = w.heap.size + 2) := Lib.hid ⟨hM.size, hN.1⟩
  have HKV : Hid (∀ V t R, MS mo t R W0 V → V.cell? ⟨w.heap.size, 0, none⟩ = some (.int .i64 2) ∧ V.cell? ⟨w.heap.size, 1, none⟩ = some (.int .u32 mg) ∧ V.cell? ⟨w.heap.size, 2, none⟩ = some (.int .i64 fr) ∧ V.cell? ⟨w.heap.size, 3, none⟩ = some (.int .i64 un) ∧ V.cell? ⟨w.heap.size, 4, none⟩ = some (.int .i64 de) ∧ V.cell? ⟨w.heap.size, 5, none⟩ = some (.int .i64 it)) := Lib.hid (fun V t R hV => by
    have hB := hV.blk hN.2.2.1 HG.out
    exact ⟨hB.cell 0, hB.cell 1, hB.cell 2, hB.cell 3, hB.cell 4, hB.cell 5⟩)
  have HW0 := Lib.hid hW0
  clear hW0 hN hM
  go_enter Tryz.func21, Tryz.ntmps21
  go_wp2_with fail
  rw [HW0.out]
  refine (HR.out _).mono ?_
  rintro e w1 ⟨rfl, hb1⟩
  have HM1 : Hid (MS mo t R W0 w1) := Lib.hid ((MS.refl HM.out).below hb1)
  clear hb1
  obtain ⟨q0, q1, q2, q3, q4, q5⟩ := HKV.out w1 _ _ HM1.out
  have HZ1 := Lib.hid HM1.out.size
  have HAL : Hid (∀ V, MS mo t R W0 V → ∀ k, mo = some k → k < V.heap.size) := Lib.hid (fun V hV => hV.met.lt)
  have HFa : Hid (Calls Tryz.prog 45 #[] (w1.alloc (.cells #[.int .u64 0, .string ⟨#[]⟩, .string ⟨#[]⟩] 27)).drew fun e w' => e = .returned fmV ∧ MS mo t R W0 w' ∧ Blk w' w1.heap.size 27 #[.int .u64 0, .string ⟨#[]⟩, .string ⟨#[]⟩]) := Lib.hid ((formats_c _).mono fun e w' ⟨h1, h2⟩ => ⟨h1, ((HM1.out.alloc _).drew).below h2, (Blk.new w1 _ _).drew.keep h2 (by simp)⟩)
  have HF0 : Hid (Calls Tryz.prog 45 #[] w1.drew fun e w' => e = .returned fmV ∧ MS mo t R W0 w') := Lib.hid ((formats_c _).mono fun e w' ⟨h1, h2⟩ => ⟨h1, HM1.out.drew.below h2⟩)
  have HNB : Hid (∀ V, MS mo t R W0 V → Calls Tryz.prog 71 #[.agg #[.int .i64 2, .int .u32 mg, .int .i64 fr, .int .i64 un, .int .i64 de, .int .i64 it], mv, .string s] (V.alloc (.cells #[.int .u64 0, .string ⟨#[]⟩, .string ⟨#[]⟩] 27)) fun e w' => e = .returned (.tuple #[.agg #[.int .u64 y1, .string y2, .string y3], .int .i64 y4, .int .i64 y5]) ∧ MS mo (t + m) (R - m) W0 w' ∧ Blk w' V.heap.size 27 #[.int .u64 0, .string ⟨#[]⟩, .string ⟨#[]⟩]) := Lib.hid (fun V hV =>
    (HN.out _ _ (MS.refl (hV.alloc _).met)).mono fun e w' ⟨h1, h2⟩ => ⟨h1, h2.from (hV.alloc _).only, (Blk.new V _ _).ms h2 (HAL.out V hV)⟩)
  have HNA : Hid (∀ V, MS mo t R W0 V → Blk V w1.heap.size 27 #[.int .u64 0, .string ⟨#[]⟩, .string ⟨#[]⟩] → Calls Tryz.prog 71 #[.agg #[.int .i64 2, .int .u32 mg, .int .i64 fr, .int .i64 un, .int .i64 de, .int .i64 it], mv, .string s] V fun e w' => e = .returned (.tuple #[.agg #[.int .u64 y1, .string y2, .string y3], .int .i64 y4, .int .i64 y5]) ∧ MS mo (t + m) (R - m) W0 w' ∧ Blk w' w1.heap.size 27 #[.int .u64 0, .string ⟨#[]⟩, .string ⟨#[]⟩]) := Lib.hid (fun V hV hB =>
    (HN.out _ _ (MS.refl hV.met)).mono fun e w' ⟨h1, h2⟩ => ⟨h1, h2.from hV.only, hB.ms h2 (HAL.out w1 HM1.out)⟩)
  have HN0 : Hid (∀ V, MS mo t R W0 V → Calls Tryz.prog 71 #[.agg #[.int .i64 2, .int .u32 mg, .int .i64 fr, .int .i64 un, .int .i64 de, .int .i64 it], mv, .string s] V fun e w' => e = .returned (.tuple #[.agg #[.int .u64 y1, .string y2, .string y3], .int .i64 y4, .int .i64 y5]) ∧ MS mo (t + m) (R - m) W0 w') := Lib.hid (fun V hV =>
    (HN.out _ _ (MS.refl hV.met)).mono fun e w' ⟨h1, h2⟩ => ⟨h1, h2.from hV.only⟩)
  unfold fmV fnV at HFa HF0
  clear HN HR
  go_upto_region 3 with fail
  go_cut [9, 10, 11] (fun v n er wx => ∃ b9 : Nat, v = .pointer (some ⟨b9, 0, none⟩) ∧ n = .int .i64 y4 ∧ er = .int .i64 y5 ∧ Hid (W0.heap.size ≤ b9) ∧ Hid (Blk wx b9 27 #[.int .u64 y1, .string y2, .string y3]) ∧ Hid (MS mo (t + m) (R - m) W0 wx))
  case first =>
    go_wp2_with fail
    go_region_held3 (fun V => V.cell? ⟨w.heap.size, 0, none⟩ = some (.int .i64 2) ∧ V.cell? ⟨w.heap.size, 1, none⟩ = some (.int .u32 mg) ∧ V.cell? ⟨w.heap.size, 2, none⟩ = some (.int .i64 fr) ∧ V.cell? ⟨w.heap.size, 3, none⟩ = some (.int .i64 un) ∧ V.cell? ⟨w.heap.size, 4, none⟩ = some (.int .i64 de) ∧ V.cell? ⟨w.heap.size, 5, none⟩ = some (.int .i64 it))
      (first | exact HKV.out _ _ _ HM1.out | exact HKV.out _ _ _ HM1.out.drew | exact HKV.out _ _ _ ((HM1.out.alloc _).drew) | exact HKV.out _ _ _ hv2 | exact HKV.out _ _ _ hv | exact HKV.out _ _ _ (hv.alloc _) | exact HKV.out _ _ _ (hv2.alloc _) | exact HKV.out _ _ _ (hv2.put3 HZ1.out (HAL.out _ HM1.out) _ _ _) | exact HKV.out _ _ _ (hv2.put3 hv.size (HAL.out _ hv) _ _ _))
      (first
        | (go_at_call 71; ((with_reducible refine (HNA.out _ hv hz).mono ?_); rintro e w2 ⟨rfl, hv2, hz2⟩; obtain ⟨z0, z1, z2, zf0, zf1, zf2⟩ := blk3 hz2))
        | (go_at_call 71; ((with_reducible refine (HNB.out _ hv).mono ?_); rintro e w2 ⟨rfl, hv2, hz2⟩; obtain ⟨z0, z1, z2, zf0, zf1, zf2⟩ := blk3 hz2))
        | (go_at_call 71; ((with_reducible refine (HN0.out _ hv).mono ?_); rintro e w2 ⟨rfl, hv2⟩))
        | (go_at_call 45; ((with_reducible refine HFa.out.mono ?_); rintro e w' ⟨rfl, hv, hz⟩; obtain ⟨z0, z1, z2, zf0, zf1, zf2⟩ := blk3 hz))
        | (go_at_call 45; ((with_reducible refine HF0.out.mono ?_); rintro e w' ⟨rfl, hv⟩)))
    all_goals
      go_wp2_with fail
      go_meet
      case rel =>
        first
          | exact ⟨_, rfl, rfl, rfl, Lib.hid hv2.size, Lib.hid (Blk.new _ _ _), Lib.hid (hv2.alloc _)⟩
          | exact ⟨_, rfl, rfl, rfl, HZ1, Lib.hid (set3 hz2 _ _ _), Lib.hid (hv2.put3 HZ1.out (HAL.out _ HM1.out) _ _ _)⟩
          | exact ⟨_, rfl, rfl, rfl, Lib.hid hv.size, Lib.hid (set3 hz2 _ _ _), Lib.hid (hv2.put3 hv.size (HAL.out _ hv) _ _ _)⟩
  case rest =>
    obtain ⟨b9, rfl, rfl, rfl, HZ9, HK9, HM9⟩ := hcut
    have HBc : Hid (Blk wc (w.heap.size + 1) 27 #[.int .u64 0, .string ⟨#[]⟩, .string ⟨#[]⟩]) := Lib.hid (HM9.out.blk HB.out (fun k hk => by have := HG.out k hk; omega))
    have HE9 : Hid (MS mo (t + m) (R - m) W wc) := Lib.hid (HM9.out.from HO.out)
    have HL1 : Hid (W.heap.size ≤ w.heap.size + 1) := Lib.hid (by have := HL.out; omega)
    have HG1 : Hid (∀ k, mo = some k → k < w.heap.size + 1) := Lib.hid (fun k hk => by have := HG.out k hk; omega)
    obtain ⟨g0, g1, g2, f0, f1, f2⟩ := blk3 HBc.out
    obtain ⟨k0, k1, k2, _, _, _⟩ := blk3 HK9.out
    clear HFa HF0 HNB HNA HN0 HKV q0 q1 q2 q3 q4 q5 hI hFd
    rcases beq0 y5 with ⟨h0, h1, h2⟩ | ⟨h0, h1, h2⟩
    · subst h0
      go_wp2
      refine bodyPost_ret (v := .tuple #[.agg #[.int .u64 y1, .string y2, .string y3], .int .i64 y4, .int .i64 0]) (by simp [results, Tryz.results21, go_sem, set3_at HBc.out]) rfl ?_
      exact ⟨rfl, HE9.out.put3 HL1.out HG1.out _ _ _⟩
    · obtain ⟨he1, rfl⟩ := HER.out h0
      obtain ⟨rfl, rfl, rfl⟩ : y1 = 0 ∧ y2 = ByteArray.empty ∧ y3 = ByteArray.empty := by injection he1 with a b c; exact ⟨a, b, c⟩
      clear HER
      go_wp2
      refine bodyPost_ret (v := .tuple #[.agg #[.int .u64 0, .string ByteArray.empty, .string ByteArray.empty], .int .i64 0, .int .i64 y5]) (by simp [results, Tryz.results21, go_sem, set3_at HBc.out, empB]) rfl ?_
      exact ⟨rfl, HE9.out.put3 HL1.out HG1.out _ _ _⟩
set_option maxRecDepth 100000 in
set_option maxHeartbeats 4000000 in
theorem wNx3_c (c : Cfg) (mo : Option Nat) (t R : Nat) (s : ByteArray) (hc : c.ok) (h1 : c.fm = 3) (hr : c.right = true) (hR : 70000 ≤ R) (hs : s.size ≤ 1099511627776) (W w : World) (hM : MS mo t R W w) :
    Calls Tryz.prog 21 #[c.val, mvOf mo, .string s] w fun e w' => e = .returned (wRet (wNext c s)) ∧ MS mo (t + (wNext c s).2.2.2) (R - (wNext c s).2.2.2) W w' := by
  have hRi := (c.right_iff).1 hr
  have HN := Lib.hid (wNextK_c c mo t R s hc h1 (by omega) (by omega) hR hs)
  clear hRi hc hR
  have hI := fm_at3
  have hFd := fm_fld3_2
  unfold fmV fm3 fnV at hI
  unfold fm3 fnV at hFd
  have HR := Lib.hid (fun w => right_c c w)
  rw [hr] at HR
  have HRN := Lib.hid (wNext_right hr s)
  rw [HRN.out]
  clear HRN
  have HER := Lib.hid (wRaw_err c s)
  unfold Cfg.val at *
  obtain ⟨X, hXX⟩ : ∃ X, wRaw c s = X := ⟨_, rfl⟩
  rw [hXX] at HN HER ⊢
  clear hXX
  obtain ⟨y5, ⟨y1, y2, y3⟩, y4, m⟩ := X
  simp only at HN HER
  obtain ⟨fm, mg, fr, un, de, it⟩ := c
  simp only at h1
  subst h1
  simp only at *
  generalize mvOf mo = mv at *
  obtain ⟨W0, hW0⟩ : ∃ W0, (w.alloc (.cells #[.int .i64 3, .int .u32 mg, .int .i64 fr, .int .i64 un, .int .i64 de, .int .i64 it] 24)).alloc (.cells #[.int .u64 0, .string ⟨#[]⟩, .string ⟨#[]⟩] 27) = W0 := ⟨_, rfl⟩
  have hN := two_new hW0
  have HO : Hid (Only mo.toList W W0) := Lib.hid (hM.only.trans ((Only.of_below hN.2.1 (Nat.le_refl _)).mono (by simp)))
  have HB : Hid (Blk W0 (w.heap.size + 1) 27 #[.int .u64 0, .string ⟨#[]⟩, .string ⟨#[]⟩]) := Lib.hid hN.2.2.2
  have HM : Hid (Met W0 mo t R) := Lib.hid (hM.met.only (Only.of_below hN.2.1 (Nat.le_refl _)) (by simp))
  have HG : Hid (∀ k, mo = some k → k < w.heap.size) := Lib.hid (hM.met.lt)
  have HL : Hid (W.heap.size ≤ w.heap.size ∧ W0.heap.size = w.heap.size + 2) := Lib.hid ⟨hM.size, hN.1⟩
  have HKV : Hid (∀ V t R, MS mo t R W0 V → V.cell? ⟨w.heap.size, 0, none⟩ = some (.int .i64 3) ∧ V.cell? ⟨w.heap.size, 1, none⟩ = some (.int .u32 mg) ∧ V.cell? ⟨w.heap.size, 2, none⟩ = some (.int .i64 fr) ∧ V.cell? ⟨w.heap.size, 3, none⟩ = some (.int .i64 un) ∧ V.cell? ⟨w.heap.size, 4, none⟩ = some (.int .i64 de) ∧ V.cell? ⟨w.heap.size, 5, none⟩ = some (.int .i64 it)) := Lib.hid (fun V t R hV => by
    have hB := hV.blk hN.2.2.1 HG.out
    exact ⟨hB.cell 0, hB.cell 1, hB.cell 2, hB.cell 3, hB.cell 4, hB.cell 5⟩)
  have HW0 := Lib.hid hW0
  clear hW0 hN hM
  go_enter Tryz.func21, Tryz.ntmps21
  go_wp2_with fail
  rw [HW0.out]
  refine (HR.out _).mono ?_
  rintro e w1 ⟨rfl, hb1⟩
  have HM1 : Hid (MS mo t R W0 w1) := Lib.hid ((MS.refl HM.out).below hb1)
  clear hb1
  obtain ⟨q0, q1, q2, q3, q4, q5⟩ := HKV.out w1 _ _ HM1.out
  have HZ1 := Lib.hid HM1.out.size
  have HAL : Hid (∀ V, MS mo t R W0 V → ∀ k, mo = some k → k < V.heap.size) := Lib.hid (fun V hV => hV.met.lt)
  have HFa : Hid (Calls Tryz.prog 45 #[] (w1.alloc (.cells #[.int .u64 0, .string ⟨#[]⟩, .string ⟨#[]⟩] 27)).drew fun e w' => e = .returned fmV ∧ MS mo t R W0 w' ∧ Blk w' w1.heap.size 27 #[.int .u64 0, .string ⟨#[]⟩, .string ⟨#[]⟩]) := Lib.hid ((formats_c _).mono fun e w' ⟨h1, h2⟩ => ⟨h1, ((HM1.out.alloc _).drew).below h2, (Blk.new w1 _ _).drew.keep h2 (by simp)⟩)
  have HF0 : Hid (Calls Tryz.prog 45 #[] w1.drew fun e w' => e = .returned fmV ∧ MS mo t R W0 w') := Lib.hid ((formats_c _).mono fun e w' ⟨h1, h2⟩ => ⟨h1, HM1.out.drew.below h2⟩)
  have HNB : Hid (∀ V, MS mo t R W0 V → Calls Tryz.prog 76 #[.agg #[.int .i64 3, .int .u32 mg, .int .i64 fr, .int .i64 un, .int .i64 de, .int .i64 it], mv, .string s] (V.alloc (.cells #[.int .u64 0, .string ⟨#[]⟩, .string ⟨#[]⟩] 27)) fun e w' => e = .returned (.tuple #[.agg #[.int .u64 y1, .string y2, .string y3], .int .i64 y4, .int .i64 y5]) ∧ MS mo (t + m) (R - m) W0 w' ∧ Blk w' V.heap.size 27 #[.int .u64 0, .string ⟨#[]⟩, .string ⟨#[]⟩]) := Lib.hid (fun V hV =>
    (HN.out _ _ (MS.refl (hV.alloc _).met)).mono fun e w' ⟨h1, h2⟩ => ⟨h1, h2.from (hV.alloc _).only, (Blk.new V _ _).ms h2 (HAL.out V hV)⟩)
  have HNA : Hid (∀ V, MS mo t R W0 V → Blk V w1.heap.size 27 #[.int .u64 0, .string ⟨#[]⟩, .string ⟨#[]⟩] → Calls Tryz.prog 76 #[.agg #[.int .i64 3, .int .u32 mg, .int .i64 fr, .int .i64 un, .int .i64 de, .int .i64 it], mv, .string s] V fun e w' => e = .returned (.tuple #[.agg #[.int .u64 y1, .string y2, .string y3], .int .i64 y4, .int .i64 y5]) ∧ MS mo (t + m) (R - m) W0 w' ∧ Blk w' w1.heap.size 27 #[.int .u64 0, .string ⟨#[]⟩, .string ⟨#[]⟩]) := Lib.hid (fun V hV hB =>
    (HN.out _ _ (MS.refl hV.met)).mono fun e w' ⟨h1, h2⟩ => ⟨h1, h2.from hV.only, hB.ms h2 (HAL.out w1 HM1.out)⟩)
  have HN0 : Hid (∀ V, MS mo t R W0 V → Calls Tryz.prog 76 #[.agg #[.int .i64 3, .int .u32 mg, .int .i64 fr, .int .i64 un, .int .i64 de, .int .i64 it], mv, .string s] V fun e w' => e = .returned (.tuple #[.agg #[.int .u64 y1, .string y2, .string y3], .int .i64 y4, .int .i64 y5]) ∧ MS mo (t + m) (R - m) W0 w') := Lib.hid (fun V hV =>
    (HN.out _ _ (MS.refl hV.met)).mono fun e w' ⟨h1, h2⟩ => ⟨h1, h2.from hV.only⟩)
  unfold fmV fnV at HFa HF0
  clear HN HR
  go_upto_region 3 with fail
  go_cut [9, 10, 11] (fun v n er wx => ∃ b9 : Nat, v = .pointer (some ⟨b9, 0, none⟩) ∧ n = .int .i64 y4 ∧ er = .int .i64 y5 ∧ Hid (W0.heap.size ≤ b9) ∧ Hid (Blk wx b9 27 #[.int .u64 y1, .string y2, .string y3]) ∧ Hid (MS mo (t + m) (R - m) W0 wx))
  case first =>
    go_wp2_with fail
    go_region_held3 (fun V => V.cell? ⟨w.heap.size, 0, none⟩ = some (.int .i64 3) ∧ V.cell? ⟨w.heap.size, 1, none⟩ = some (.int .u32 mg) ∧ V.cell? ⟨w.heap.size, 2, none⟩ = some (.int .i64 fr) ∧ V.cell? ⟨w.heap.size, 3, none⟩ = some (.int .i64 un) ∧ V.cell? ⟨w.heap.size, 4, none⟩ = some (.int .i64 de) ∧ V.cell? ⟨w.heap.size, 5, none⟩ = some (.int .i64 it))
      (first | exact HKV.out _ _ _ HM1.out | exact HKV.out _ _ _ HM1.out.drew | exact HKV.out _ _ _ ((HM1.out.alloc _).drew) | exact HKV.out _ _ _ hv2 | exact HKV.out _ _ _ hv | exact HKV.out _ _ _ (hv.alloc _) | exact HKV.out _ _ _ (hv2.alloc _) | exact HKV.out _ _ _ (hv2.put3 HZ1.out (HAL.out _ HM1.out) _ _ _) | exact HKV.out _ _ _ (hv2.put3 hv.size (HAL.out _ hv) _ _ _))
      (first
        | (go_at_call 76; ((with_reducible refine (HNA.out _ hv hz).mono ?_); rintro e w2 ⟨rfl, hv2, hz2⟩; obtain ⟨z0, z1, z2, zf0, zf1, zf2⟩ := blk3 hz2))
        | (go_at_call 76; ((with_reducible refine (HNB.out _ hv).mono ?_); rintro e w2 ⟨rfl, hv2, hz2⟩; obtain ⟨z0, z1, z2, zf0, zf1, zf2⟩ := blk3 hz2))
        | (go_at_call 76; ((with_reducible refine (HN0.out _ hv).mono ?_); rintro e w2 ⟨rfl, hv2⟩))
        | (go_at_call 45; ((with_reducible refine HFa.out.mono ?_); rintro e w' ⟨rfl, hv, hz⟩; obtain ⟨z0, z1, z2, zf0, zf1, zf2⟩ := blk3 hz))
        | (go_at_call 45; ((with_reducible refine HF0.out.mono ?_); rintro e w' ⟨rfl, hv⟩)))
    all_goals
      go_wp2_with fail
      go_meet
      case rel =>
        first
          | exact ⟨_, rfl, rfl, rfl, Lib.hid hv2.size, Lib.hid (Blk.new _ _ _), Lib.hid (hv2.alloc _)⟩
          | exact ⟨_, rfl, rfl, rfl, HZ1, Lib.hid (set3 hz2 _ _ _), Lib.hid (hv2.put3 HZ1.out (HAL.out _ HM1.out) _ _ _)⟩
          | exact ⟨_, rfl, rfl, rfl, Lib.hid hv.size, Lib.hid (set3 hz2 _ _ _), Lib.hid (hv2.put3 hv.size (HAL.out _ hv) _ _ _)⟩
  case rest =>
    obtain ⟨b9, rfl, rfl, rfl, HZ9, HK9, HM9⟩ := hcut
    have HBc : Hid (Blk wc (w.heap.size + 1) 27 #[.int .u64 0, .string ⟨#[]⟩, .string ⟨#[]⟩]) := Lib.hid (HM9.out.blk HB.out (fun k hk => by have := HG.out k hk; omega))
    have HE9 : Hid (MS mo (t + m) (R - m) W wc) := Lib.hid (HM9.out.from HO.out)
    have HL1 : Hid (W.heap.size ≤ w.heap.size + 1) := Lib.hid (by have := HL.out; omega)
    have HG1 : Hid (∀ k, mo = some k → k < w.heap.size + 1) := Lib.hid (fun k hk => by have := HG.out k hk; omega)
    obtain ⟨g0, g1, g2, f0, f1, f2⟩ := blk3 HBc.out
    obtain ⟨k0, k1, k2, _, _, _⟩ := blk3 HK9.out
    clear HFa HF0 HNB HNA HN0 HKV q0 q1 q2 q3 q4 q5 hI hFd
    rcases beq0 y5 with ⟨h0, h1, h2⟩ | ⟨h0, h1, h2⟩
    · subst h0
      go_wp2
      refine bodyPost_ret (v := .tuple #[.agg #[.int .u64 y1, .string y2, .string y3], .int .i64 y4, .int .i64 0]) (by simp [results, Tryz.results21, go_sem, set3_at HBc.out]) rfl ?_
      exact ⟨rfl, HE9.out.put3 HL1.out HG1.out _ _ _⟩
    · obtain ⟨he1, rfl⟩ := HER.out h0
      obtain ⟨rfl, rfl, rfl⟩ : y1 = 0 ∧ y2 = ByteArray.empty ∧ y3 = ByteArray.empty := by injection he1 with a b c; exact ⟨a, b, c⟩
      clear HER
      go_wp2
      refine bodyPost_ret (v := .tuple #[.agg #[.int .u64 0, .string ByteArray.empty, .string ByteArray.empty], .int .i64 0, .int .i64 y5]) (by simp [results, Tryz.results21, go_sem, set3_at HBc.out, empB]) rfl ?_
      exact ⟨rfl, HE9.out.put3 HL1.out HG1.out _ _ _⟩
set_option maxRecDepth 100000 in
set_option maxHeartbeats 1000000 in
theorem wNx0_c (c : Cfg) (mo : Option Nat) (t R : Nat) (s : ByteArray) (hr : c.right = false) (W w : World) (hM : MS mo t R W w) :
    Calls Tryz.prog 21 #[c.val, mvOf mo, .string s] w fun e w' => e = .returned (wRet (wNext c s)) ∧ MS mo (t + (wNext c s).2.2.2) (R - (wNext c s).2.2.2) W w' := by
  have hX : wNext c s = (1, noFr, 0, 0) := by unfold wNext; rw [hr]; rfl
  have HR := Lib.hid (fun w => right_c c w)
  rw [hr] at HR
  rw [hX]
  unfold Cfg.val at *
  generalize mvOf mo = mv at *
  obtain ⟨W0, hW0⟩ : ∃ W0, (w.alloc (.cells #[.int .i64 c.fm, .int .u32 c.mg, .int .i64 c.fr, .int .i64 c.un, .int .i64 c.de, .int .i64 c.it] 24)).alloc (.cells #[.int .u64 0, .string ⟨#[]⟩, .string ⟨#[]⟩] 27) = W0 := ⟨_, rfl⟩
  have hN := two_new hW0
  have HO : Hid (MS mo t R W W0) := Lib.hid (hM.below hN.2.1)
  have HB : Hid (Blk W0 (w.heap.size + 1) 27 #[.int .u64 0, .string ⟨#[]⟩, .string ⟨#[]⟩]) := Lib.hid hN.2.2.2
  have HG : Hid (∀ k, mo = some k → k < w.heap.size + 1) := Lib.hid (fun k hk => by have := hM.met.lt k hk; omega)
  have HL : Hid (W.heap.size ≤ w.heap.size + 1 ∧ W0.heap.size = w.heap.size + 2) := Lib.hid ⟨by have := hM.size; omega, hN.1⟩
  have HW0 := Lib.hid hW0
  clear hW0 hN hM hX
  go_enter Tryz.func21, Tryz.ntmps21
  go_wp2_with fail
  rw [HW0.out]
  refine (HR.out _).mono ?_
  rintro e w1 ⟨rfl, hb1⟩
  have HB1 := Lib.hid (HB.out.keep hb1 (by have := HL.out.2; omega))
  have HM1 := Lib.hid (HO.out.below hb1)
  clear hb1
  obtain ⟨g0, g1, g2, f0, f1, f2⟩ := blk3 HB1.out
  go_wp2
  refine bodyPost_ret (v := .tuple #[.agg #[.int .u64 0, .string ByteArray.empty, .string ByteArray.empty], .int .i64 0, .int .i64 1]) (by simp [results, Tryz.results21, go_sem, set3_at HB1.out, empB]) rfl ?_
  exact ⟨rfl, HM1.out.put3 HL.out.1 HG.out _ _ _⟩
/-- wire.Next tells wNext, and the meter takes what it tells. -/
theorem wNextM_c (c : Cfg) (mo : Option Nat) (t R : Nat) (s : ByteArray) (hc : c.ok) (hR : 70000 ≤ R) (hs : s.size ≤ 1099511627776) (W w : World) (hM : MS mo t R W w) :
    Calls Tryz.prog 21 #[c.val, mvOf mo, .string s] w fun e w' => e = .returned (wRet (wNext c s)) ∧ MS mo (t + (wNext c s).2.2.2) (R - (wNext c s).2.2.2) W w' := by
  cases hr : c.right with
  | false => exact wNx0_c c mo t R s hr W w hM
  | true =>
    have hRi := (c.right_iff).1 hr
    rcases (by omega : c.fm = 1 ∨ c.fm = 2 ∨ c.fm = 3) with h | h | h
    · exact wNx1_c c mo t R s hc h hr hR hs W w hM
    · exact wNx2_c c mo t R s hc h hr hR hs W w hM
    · exact wNx3_c c mo t R s hc h hr hR hs W w hM
/-- Without a meter. -/
theorem wNext_c (c : Cfg) (s : ByteArray) (hc : c.ok) (hs : s.size ≤ 1099511627776) (w : World) :
    Calls Tryz.prog 21 #[c.val, .pointer none, .string s] w fun e w' => e = .returned (wRet (wNext c s)) ∧ Below w.heap.size w w' :=
  (wNextM_c c none 0 140000 s hc (by omega) hs w w (MS.refl trivial)).mono fun e w' ⟨h1, h2⟩ => ⟨h1, h2.to_below⟩
end Go.Proofs.YtebllmpdlapefaaGreatDoor
namespace Go.Proofs.YtebllmpdlapefaaGreatDoor
set_option linter.unusedVariables false
set_option linter.unusedSimpArgs false
open Go.RowKit

def rRet (x : Int × Fr × Nat × Nat) : Value := .tuple #[x.2.1.val, .int .i64 x.2.2.1, .int .i64 x.2.2.2, .int .i64 x.1]
theorem three_new {w W0 : World} {t1 t2 t3 : TypeId} {a b c : Array Value} (h : ((w.alloc (.cells a t1)).alloc (.cells b t2)).alloc (.cells c t3) = W0) : W0.heap.size = w.heap.size + 3 ∧ Below w.heap.size w W0 ∧ Blk W0 w.heap.size t1 a ∧ Blk W0 (w.heap.size + 1) t2 b ∧ Blk W0 (w.heap.size + 1 + 1) t3 c := by
  obtain ⟨h1, h2, h3, h4⟩ := two_new (w := w) (t1 := t1) (t2 := t2) (a := a) (b := b) rfl
  subst h
  refine ⟨by simp, h2.alloc (by omega) _, h3.alloc _, h4.alloc _, ?_⟩
  have := Blk.new ((w.alloc (.cells a t1)).alloc (.cells b t2)) t3 c
  rwa [h1] at this
set_option maxRecDepth 100000 in
set_option maxHeartbeats 4000000 in
theorem rNx1_c (c : Cfg) (s : ByteArray) (hc : c.ok) (h1 : c.fm = 1) (hr : c.right = true) (hs : s.size ≤ 1099511627776) (w : World) :
    Calls Tryz.prog 23 #[keyV, c.val, .string s] w fun e w' => e = .returned (rRet (wNext c s)) ∧ Below w.heap.size w w' := by
  have hR := (c.right_iff).1 hr
  rw [wNext_right hr]
  have hX : wRaw c s = ((cnNext c.mg c.fr s).1, ⟨0, (cnNext c.mg c.fr s).2.1, (cnNext c.mg c.fr s).2.2.1⟩, (cnNext c.mg c.fr s).2.2.2, 0) := by unfold wRaw; rw [if_pos h1]
  have HN := Lib.hid (fun V => ref14Next_c c.mg c.fr s V hc.mg hs hc.fr (.inr (by omega)))
  rw [hX]
  clear hX hc hR
  generalize cnNext c.mg c.fr s = X at *
  obtain ⟨y5, y2, y3, y4⟩ := X
  unfold cnRet rRet Fr.val at *
  simp only at *
  have HI := Lib.hid (info_key' 64)
  have HR := Lib.hid (fun w => refRight17_c c w)
  rw [hr] at HR
  unfold keyV at *
  generalize kC 64 = KL at *
  unfold Cfg.val at *
  obtain ⟨fm, mg, fr, un, de, it⟩ := c
  simp only at *
  (try subst h1)
  obtain ⟨W0, hW0⟩ : ∃ W0, ((w.alloc (.cells KL 32)).alloc (.cells #[.int .i64 1, .int .u32 mg, .int .i64 fr, .int .i64 un, .int .i64 de, .int .i64 it] 24)).alloc (.cells #[.int .u64 0, .string ⟨#[]⟩, .string ⟨#[]⟩] 27) = W0 := ⟨_, rfl⟩
  have hN := three_new hW0
  have HO : Hid (Below w.heap.size w W0) := Lib.hid hN.2.1
  have HL : Hid (W0.heap.size = w.heap.size + 3) := Lib.hid hN.1
  have HKV : Hid (∀ V, Below W0.heap.size W0 V → (V.cell? ⟨w.heap.size + 1, 0, none⟩ = some (.int .i64 1) ∧ V.cell? ⟨w.heap.size + 1, 1, none⟩ = some (.int .u32 mg) ∧ V.cell? ⟨w.heap.size + 1, 2, none⟩ = some (.int .i64 fr) ∧ V.cell? ⟨w.heap.size + 1, 3, none⟩ = some (.int .i64 un) ∧ V.cell? ⟨w.heap.size + 1, 4, none⟩ = some (.int .i64 de) ∧ V.cell? ⟨w.heap.size + 1, 5, none⟩ = some (.int .i64 it))) := Lib.hid (fun V hV => by
    have hB := hN.2.2.2.1.keep hV (by omega)
    exact ⟨hB.cell 0, hB.cell 1, hB.cell 2, hB.cell 3, hB.cell 4, hB.cell 5⟩)
  have HKK : Hid (∀ V, Below W0.heap.size W0 V → Blk V w.heap.size 32 KL ∧ Blk V (w.heap.size + 1 + 1) 27 #[.int .u64 0, .string ⟨#[]⟩, .string ⟨#[]⟩]) := Lib.hid (fun V hV => ⟨hN.2.2.1.keep hV (by omega), hN.2.2.2.2.keep hV (by omega)⟩)
  have HE : Hid (∀ V, Below W0.heap.size W0 V → Below w.heap.size w V) := Lib.hid (fun V hV => HO.out.trans (hV.mono (by have := HL.out; omega)))
  have HW0 := Lib.hid hW0
  clear hW0 hN
  go_enter Tryz.func23, Tryz.ntmps23
  go_wp2_with fail
  rw [HW0.out]
  refine (HR.out _).mono ?_
  rintro e w1 ⟨rfl, hb1⟩
  have HM1 : Hid (Below W0.heap.size W0 w1) := Lib.hid hb1
  obtain ⟨q0, q1, q2, q3, q4, q5⟩ := HKV.out w1 HM1.out
  obtain ⟨hKK, hFF⟩ := HKK.out w1 HM1.out
  have HKB := Lib.hid hKK
  have HFB := Lib.hid hFF
  clear hb1 hKK hFF HR
  obtain ⟨g0, g1, g2, f0, f1, f2⟩ := blk3 HFB.out
  go_wp2_with (refine wpList_load_row (by rfl) 32 (.tmp 3) (by rfl) w.heap.size (by rfl) 32 KL (0, 0) _ HKB.out Tryz.underlying32 rfl HI.out ?_)
  refine (HN.out _).mono ?_
  rintro e w2 ⟨rfl, hb2⟩
  have HM2 : Hid (Below W0.heap.size W0 w2) := Lib.hid (HM1.out.trans (hb2.mono HM1.out.size))
  obtain ⟨_, hFF⟩ := HKK.out w2 HM2.out
  have HFC := Lib.hid hFF
  have hlt : w.heap.size + 1 + 1 < w2.heap.size := HFC.out.lt
  clear hb2 hFF q0 q1 q2 q3 q4 q5 g0 g1 g2 f0 f1 f2
  obtain ⟨g0, g1, g2, f0, f1, f2⟩ := blk3 HFC.out
  go_wp2
  refine bodyPost_ret (v := .tuple #[.agg #[.int .u64 0, .string y2, .string y3], .int .i64 y4, .int .i64 0, .int .i64 y5]) (by simp [results, Tryz.results23, go_sem, empB, set3_al HFC.out]) rfl ?_
  exact ⟨rfl, (below3 (HE.out _ HM2.out) (by omega) _ _ _).alloc (by simp [World.setCell]; omega) _⟩
set_option maxRecDepth 100000 in
set_option maxHeartbeats 4000000 in
theorem rNx2_c (c : Cfg) (s : ByteArray) (hc : c.ok) (h1 : c.fm = 2) (hr : c.right = true) (hs : s.size ≤ 1099511627776) (w : World) :
    Calls Tryz.prog 23 #[keyV, c.val, .string s] w fun e w' => e = .returned (rRet (wNext c s)) ∧ Below w.heap.size w w' := by
  have hR := (c.right_iff).1 hr
  rw [wNext_right hr]
  have hX : wRaw c s = ((plNext c.fr s).1, ⟨(plNext c.fr s).2.1, ByteArray.empty, (plNext c.fr s).2.2.1⟩, (plNext c.fr s).2.2.2, 0) := by unfold wRaw; rw [if_neg (by omega), if_pos h1]
  have HN := Lib.hid (fun V => refPlainNext_c c.fr s V (by omega) hc.fr.1 hc.fr.2)
  rw [hX]
  clear hX hc hR
  generalize plNext c.fr s = X at *
  obtain ⟨y5, y1, y3, y4⟩ := X
  unfold NextEnd at HN
  unfold rRet Fr.val at *
  simp only at *
  have HI := Lib.hid (info_key' 64)
  have HR := Lib.hid (fun w => refRight17_c c w)
  rw [hr] at HR
  unfold keyV at *
  generalize kC 64 = KL at *
  unfold Cfg.val at *
  obtain ⟨fm, mg, fr, un, de, it⟩ := c
  simp only at *
  (try subst h1)
  obtain ⟨W0, hW0⟩ : ∃ W0, ((w.alloc (.cells KL 32)).alloc (.cells #[.int .i64 2, .int .u32 mg, .int .i64 fr, .int .i64 un, .int .i64 de, .int .i64 it] 24)).alloc (.cells #[.int .u64 0, .string ⟨#[]⟩, .string ⟨#[]⟩] 27) = W0 := ⟨_, rfl⟩
  have hN := three_new hW0
  have HO : Hid (Below w.heap.size w W0) := Lib.hid hN.2.1
  have HL : Hid (W0.heap.size = w.heap.size + 3) := Lib.hid hN.1
  have HKV : Hid (∀ V, Below W0.heap.size W0 V → (V.cell? ⟨w.heap.size + 1, 0, none⟩ = some (.int .i64 2) ∧ V.cell? ⟨w.heap.size + 1, 1, none⟩ = some (.int .u32 mg) ∧ V.cell? ⟨w.heap.size + 1, 2, none⟩ = some (.int .i64 fr) ∧ V.cell? ⟨w.heap.size + 1, 3, none⟩ = some (.int .i64 un) ∧ V.cell? ⟨w.heap.size + 1, 4, none⟩ = some (.int .i64 de) ∧ V.cell? ⟨w.heap.size + 1, 5, none⟩ = some (.int .i64 it))) := Lib.hid (fun V hV => by
    have hB := hN.2.2.2.1.keep hV (by omega)
    exact ⟨hB.cell 0, hB.cell 1, hB.cell 2, hB.cell 3, hB.cell 4, hB.cell 5⟩)
  have HKK : Hid (∀ V, Below W0.heap.size W0 V → Blk V w.heap.size 32 KL ∧ Blk V (w.heap.size + 1 + 1) 27 #[.int .u64 0, .string ⟨#[]⟩, .string ⟨#[]⟩]) := Lib.hid (fun V hV => ⟨hN.2.2.1.keep hV (by omega), hN.2.2.2.2.keep hV (by omega)⟩)
  have HE : Hid (∀ V, Below W0.heap.size W0 V → Below w.heap.size w V) := Lib.hid (fun V hV => HO.out.trans (hV.mono (by have := HL.out; omega)))
  have HW0 := Lib.hid hW0
  clear hW0 hN
  go_enter Tryz.func23, Tryz.ntmps23
  go_wp2_with fail
  rw [HW0.out]
  refine (HR.out _).mono ?_
  rintro e w1 ⟨rfl, hb1⟩
  have HM1 : Hid (Below W0.heap.size W0 w1) := Lib.hid hb1
  obtain ⟨q0, q1, q2, q3, q4, q5⟩ := HKV.out w1 HM1.out
  obtain ⟨hKK, hFF⟩ := HKK.out w1 HM1.out
  have HKB := Lib.hid hKK
  have HFB := Lib.hid hFF
  clear hb1 hKK hFF HR
  obtain ⟨g0, g1, g2, f0, f1, f2⟩ := blk3 HFB.out
  go_wp2_with (refine wpList_load_row (by rfl) 32 (.tmp 3) (by rfl) w.heap.size (by rfl) 32 KL (0, 0) _ HKB.out Tryz.underlying32 rfl HI.out ?_)
  refine (HN.out _).mono ?_
  rintro e w2 ⟨rfl, hb2⟩
  have HM2 : Hid (Below W0.heap.size W0 w2) := Lib.hid (HM1.out.trans (hb2.mono HM1.out.size))
  obtain ⟨_, hFF⟩ := HKK.out w2 HM2.out
  have HFC := Lib.hid hFF
  have hlt : w.heap.size + 1 + 1 < w2.heap.size := HFC.out.lt
  clear hb2 hFF q0 q1 q2 q3 q4 q5 g0 g1 g2 f0 f1 f2
  obtain ⟨g0, g1, g2, f0, f1, f2⟩ := blk3 HFC.out
  go_wp2
  refine bodyPost_ret (v := .tuple #[.agg #[.int .u64 y1, .string ByteArray.empty, .string y3], .int .i64 y4, .int .i64 0, .int .i64 y5]) (by simp [results, Tryz.results23, go_sem, empB, set3_al HFC.out]) rfl ?_
  exact ⟨rfl, (below3 (HE.out _ HM2.out) (by omega) _ _ _).alloc (by simp [World.setCell]; omega) _⟩
set_option maxRecDepth 100000 in
set_option maxHeartbeats 4000000 in
theorem rNx3_c (c : Cfg) (s : ByteArray) (hc : c.ok) (h1 : c.fm = 3) (hr : c.right = true) (hs : s.size ≤ 1099511627776) (w : World) :
    Calls Tryz.prog 23 #[keyV, c.val, .string s] w fun e w' => e = .returned (rRet (wNext c s)) ∧ Below w.heap.size w w' := by
  have hR := (c.right_iff).1 hr
  rw [wNext_right hr]
  have hX : wRaw c s = ((pkNext c.fr c.un s).1, ⟨(pkNext c.fr c.un s).2.1, ByteArray.empty, (pkNext c.fr c.un s).2.2.1⟩, (pkNext c.fr c.un s).2.2.2.1, (pkNext c.fr c.un s).2.2.2.2) := by unfold wRaw; rw [if_neg (by omega), if_neg (by omega)]
  have HN := Lib.hid (fun V => refPackedNext_c c.fr c.un s V (by omega) hc.fr.1 hc.fr.2)
  rw [hX]
  clear hX hc hR
  generalize pkNext c.fr c.un s = X at *
  obtain ⟨y5, y1, y3, y4, y6⟩ := X
  unfold pkRef at HN
  unfold rRet Fr.val at *
  simp only at *
  have HI := Lib.hid (info_key' 64)
  have HR := Lib.hid (fun w => refRight17_c c w)
  rw [hr] at HR
  unfold keyV at *
  generalize kC 64 = KL at *
  unfold Cfg.val at *
  obtain ⟨fm, mg, fr, un, de, it⟩ := c
  simp only at *
  (try subst h1)
  obtain ⟨W0, hW0⟩ : ∃ W0, ((w.alloc (.cells KL 32)).alloc (.cells #[.int .i64 3, .int .u32 mg, .int .i64 fr, .int .i64 un, .int .i64 de, .int .i64 it] 24)).alloc (.cells #[.int .u64 0, .string ⟨#[]⟩, .string ⟨#[]⟩] 27) = W0 := ⟨_, rfl⟩
  have hN := three_new hW0
  have HO : Hid (Below w.heap.size w W0) := Lib.hid hN.2.1
  have HL : Hid (W0.heap.size = w.heap.size + 3) := Lib.hid hN.1
  have HKV : Hid (∀ V, Below W0.heap.size W0 V → (V.cell? ⟨w.heap.size + 1, 0, none⟩ = some (.int .i64 3) ∧ V.cell? ⟨w.heap.size + 1, 1, none⟩ = some (.int .u32 mg) ∧ V.cell? ⟨w.heap.size + 1, 2, none⟩ = some (.int .i64 fr) ∧ V.cell? ⟨w.heap.size + 1, 3, none⟩ = some (.int .i64 un) ∧ V.cell? ⟨w.heap.size + 1, 4, none⟩ = some (.int .i64 de) ∧ V.cell? ⟨w.heap.size + 1, 5, none⟩ = some (.int .i64 it))) := Lib.hid (fun V hV => by
    have hB := hN.2.2.2.1.keep hV (by omega)
    exact ⟨hB.cell 0, hB.cell 1, hB.cell 2, hB.cell 3, hB.cell 4, hB.cell 5⟩)
  have HKK : Hid (∀ V, Below W0.heap.size W0 V → Blk V w.heap.size 32 KL ∧ Blk V (w.heap.size + 1 + 1) 27 #[.int .u64 0, .string ⟨#[]⟩, .string ⟨#[]⟩]) := Lib.hid (fun V hV => ⟨hN.2.2.1.keep hV (by omega), hN.2.2.2.2.keep hV (by omega)⟩)
  have HE : Hid (∀ V, Below W0.heap.size W0 V → Below w.heap.size w V) := Lib.hid (fun V hV => HO.out.trans (hV.mono (by have := HL.out; omega)))
  have HW0 := Lib.hid hW0
  clear hW0 hN
  go_enter Tryz.func23, Tryz.ntmps23
  go_wp2_with fail
  rw [HW0.out]
  refine (HR.out _).mono ?_
  rintro e w1 ⟨rfl, hb1⟩
  have HM1 : Hid (Below W0.heap.size W0 w1) := Lib.hid hb1
  obtain ⟨q0, q1, q2, q3, q4, q5⟩ := HKV.out w1 HM1.out
  obtain ⟨hKK, hFF⟩ := HKK.out w1 HM1.out
  have HKB := Lib.hid hKK
  have HFB := Lib.hid hFF
  clear hb1 hKK hFF HR
  obtain ⟨g0, g1, g2, f0, f1, f2⟩ := blk3 HFB.out
  go_wp2_with (refine wpList_load_row (by rfl) 32 (.tmp 3) (by rfl) w.heap.size (by rfl) 32 KL (0, 0) _ HKB.out Tryz.underlying32 rfl HI.out ?_)
  refine (HN.out _).mono ?_
  rintro e w2 ⟨rfl, hb2⟩
  have HM2 : Hid (Below W0.heap.size W0 w2) := Lib.hid (HM1.out.trans (hb2.mono HM1.out.size))
  obtain ⟨_, hFF⟩ := HKK.out w2 HM2.out
  have HFC := Lib.hid hFF
  have hlt : w.heap.size + 1 + 1 < w2.heap.size := HFC.out.lt
  clear hb2 hFF q0 q1 q2 q3 q4 q5 g0 g1 g2 f0 f1 f2
  obtain ⟨g0, g1, g2, f0, f1, f2⟩ := blk3 HFC.out
  go_wp2
  refine bodyPost_ret (v := .tuple #[.agg #[.int .u64 y1, .string ByteArray.empty, .string y3], .int .i64 y4, .int .i64 y6, .int .i64 y5]) (by simp [results, Tryz.results23, go_sem, empB, set3_at HFC.out]) rfl ?_
  exact ⟨rfl, below3 (HE.out _ HM2.out) (by omega) _ _ _⟩
set_option maxRecDepth 100000 in
set_option maxHeartbeats 4000000 in
/-- The document's Next tells wNext, and what is metered. -/
theorem refNext17_c (c : Cfg) (s : ByteArray) (hc : c.ok) (hs : s.size ≤ 1099511627776) (w : World) :
    Calls Tryz.prog 23 #[keyV, c.val, .string s] w fun e w' => e = .returned (rRet (wNext c s)) ∧ Below w.heap.size w w' := by
  cases hr : c.right with
  | true =>
    have hRi := (c.right_iff).1 hr
    rcases (by omega : c.fm = 1 ∨ c.fm = 2 ∨ c.fm = 3) with h | h | h
    · exact rNx1_c c s hc h hr hs w
    · exact rNx2_c c s hc h hr hs w
    · exact rNx3_c c s hc h hr hs w
  | false =>
    have hX : wNext c s = (1, noFr, 0, 0) := by unfold wNext; rw [hr]; rfl
    rw [hX]
    clear hX hc
    unfold rRet
    have HI := Lib.hid (info_key' 64)
    have HR := Lib.hid (fun w => refRight17_c c w)
    rw [hr] at HR
    unfold keyV at *
    generalize kC 64 = KL at *
    unfold Cfg.val at *
    obtain ⟨fm, mg, fr, un, de, it⟩ := c
    simp only at *
    (try subst h1)
    obtain ⟨W0, hW0⟩ : ∃ W0, ((w.alloc (.cells KL 32)).alloc (.cells #[.int .i64 fm, .int .u32 mg, .int .i64 fr, .int .i64 un, .int .i64 de, .int .i64 it] 24)).alloc (.cells #[.int .u64 0, .string ⟨#[]⟩, .string ⟨#[]⟩] 27) = W0 := ⟨_, rfl⟩
    have hN := three_new hW0
    have HO : Hid (Below w.heap.size w W0) := Lib.hid hN.2.1
    have HL : Hid (W0.heap.size = w.heap.size + 3) := Lib.hid hN.1
    have HKV : Hid (∀ V, Below W0.heap.size W0 V → (V.cell? ⟨w.heap.size + 1, 0, none⟩ = some (.int .i64 fm) ∧ V.cell? ⟨w.heap.size + 1, 1, none⟩ = some (.int .u32 mg) ∧ V.cell? ⟨w.heap.size + 1, 2, none⟩ = some (.int .i64 fr) ∧ V.cell? ⟨w.heap.size + 1, 3, none⟩ = some (.int .i64 un) ∧ V.cell? ⟨w.heap.size + 1, 4, none⟩ = some (.int .i64 de) ∧ V.cell? ⟨w.heap.size + 1, 5, none⟩ = some (.int .i64 it))) := Lib.hid (fun V hV => by
      have hB := hN.2.2.2.1.keep hV (by omega)
      exact ⟨hB.cell 0, hB.cell 1, hB.cell 2, hB.cell 3, hB.cell 4, hB.cell 5⟩)
    have HKK : Hid (∀ V, Below W0.heap.size W0 V → Blk V w.heap.size 32 KL ∧ Blk V (w.heap.size + 1 + 1) 27 #[.int .u64 0, .string ⟨#[]⟩, .string ⟨#[]⟩]) := Lib.hid (fun V hV => ⟨hN.2.2.1.keep hV (by omega), hN.2.2.2.2.keep hV (by omega)⟩)
    have HE : Hid (∀ V, Below W0.heap.size W0 V → Below w.heap.size w V) := Lib.hid (fun V hV => HO.out.trans (hV.mono (by have := HL.out; omega)))
    have HW0 := Lib.hid hW0
    clear hW0 hN
    go_enter Tryz.func23, Tryz.ntmps23
    go_wp2_with fail
    rw [HW0.out]
    refine (HR.out _).mono ?_
    rintro e w1 ⟨rfl, hb1⟩
    have HM1 : Hid (Below W0.heap.size W0 w1) := Lib.hid hb1
    obtain ⟨q0, q1, q2, q3, q4, q5⟩ := HKV.out w1 HM1.out
    obtain ⟨hKK, hFF⟩ := HKK.out w1 HM1.out
    have HKB := Lib.hid hKK
    have HFB := Lib.hid hFF
    clear hb1 hKK hFF HR
    obtain ⟨g0, g1, g2, f0, f1, f2⟩ := blk3 HFB.out
    go_wp2
    refine bodyPost_ret (v := .tuple #[.agg #[.int .u64 0, .string ByteArray.empty, .string ByteArray.empty], .int .i64 0, .int .i64 0, .int .i64 1]) (by simp [results, Tryz.results23, go_sem, empB, set3_at HFB.out]) rfl ?_
    exact ⟨rfl, below3 (HE.out _ HM1.out) (by omega) _ _ _⟩
end Go.Proofs.YtebllmpdlapefaaGreatDoor
