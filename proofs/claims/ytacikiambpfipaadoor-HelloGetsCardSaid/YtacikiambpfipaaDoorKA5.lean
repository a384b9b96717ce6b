/- Package item: item.May. -/
/- tree.first: three checks, up to the first error. -/
/- The document's number of bytes, the highest first. -/
/- Appending to a Buf inside a region that draws its order; small words for literals. Own text; no program in sight. -/
import Derived.Test.YtacikiambpfipaaDoorKItem
import Derived.Laws.EntriesVeiled
import Derived.Test.YtacikiambpfipaaDoorProg
import Derived.Test.YtacikiambpfipaaDoorKA1
import Derived.WalkSpells
import Derived.Test.YtacikiambpfipaaDoorKBuf
import Derived.Deep.RegionLaw
namespace Go.Proofs.YtacikiambpfipaaDoor
set_option linter.unusedVariables false
set_option linter.unusedSimpArgs false
open Go.RowKit

/-- The world in which scan begins its walk: five new blocks. -/
def scanW (w : World) (c0 c1 c2 : Value) : World :=
  ((((w.alloc (.cells #[c0, c1, c2] 27)).alloc (.cells #[.func (.func 102) #[] #[]] 30)).alloc (.cells #[.int .i64 0] 3)).alloc (.cells #[.int .i64 0] 3)).alloc
    (.cells #[.func (.func 142) #[] #[.pointer (some ⟨w.heap.size + 1 + 1, 0, none⟩), .pointer (some ⟨w.heap.size + 1, 0, none⟩), .pointer (some ⟨w.heap.size + 1 + 1 + 1, 0, none⟩), .pointer (some ⟨w.heap.size + 1 + 1 + 1 + 1, 0, none⟩)]] 167)
theorem scan_vars (w : World) (c0 c1 c2 : Value) : Vars (scanW w c0 c1 c2) (w.heap.size + 1 + 1) (w.heap.size + 1) (w.heap.size + 1 + 1 + 1) (w.heap.size + 1 + 1 + 1 + 1) 0 0 := by
  unfold scanW
  refine ⟨?_, ?_, ?_, ?_⟩
  · refine Blk.alloc (Blk.alloc ?_ _) _
    have := Blk.new ((w.alloc (.cells #[c0, c1, c2] 27)).alloc (.cells #[.func (.func 102) #[] #[]] 30)) 3 #[.int .i64 0]
    simpa using this
  · refine Blk.alloc (Blk.alloc (Blk.alloc ?_ _) _) _
    have := Blk.new (w.alloc (.cells #[c0, c1, c2] 27)) 30 #[.func (.func 102) #[] #[]]
    simpa using this
  · refine Blk.alloc ?_ _
    have := Blk.new (((w.alloc (.cells #[c0, c1, c2] 27)).alloc (.cells #[.func (.func 102) #[] #[]] 30)).alloc (.cells #[.int .i64 0] 3)) 3 #[.int .i64 0]
    simpa using this
  · have := Blk.new ((((w.alloc (.cells #[c0, c1, c2] 27)).alloc (.cells #[.func (.func 102) #[] #[]] 30)).alloc (.cells #[.int .i64 0] 3)).alloc (.cells #[.int .i64 0] 3)) 167 #[.func (.func 142) #[] #[.pointer (some ⟨w.heap.size + 1 + 1, 0, none⟩), .pointer (some ⟨w.heap.size + 1, 0, none⟩), .pointer (some ⟨w.heap.size + 1 + 1 + 1, 0, none⟩), .pointer (some ⟨w.heap.size + 1 + 1 + 1 + 1, 0, none⟩)]]
    simpa using this
theorem scan_below (w : World) (c0 c1 c2 : Value) : Below w.heap.size w (scanW w c0 c1 c2) := by
  unfold scanW
  exact (by repeat (first | exact Below.refl _ _ | assumption | with_reducible refine Below.drewN' ?_ _ | with_reducible refine Below.drew ?_ | ((with_reducible refine Below.alloc' ?_ ?_ _); · (first | omega | (simp <;> omega)))))
theorem scan_size (w : World) (c0 c1 c2 : Value) : (scanW w c0 c1 c2).heap.size = w.heap.size + 5 := by
  unfold scanW; simp

/-- What scan tells: how many, how deep, whether it came to the end. -/
def scanV (x : It) : Value := .tuple #[.int .i64 (if x.may then (x.count : Int) else 0), .int .i64 (if x.may then (x.deep : Int) else 0), .bool x.may]
set_option maxRecDepth 100000 in
set_option maxHeartbeats 800000 in
theorem scan_c (x : It) (B : Nat) (w : World) (c0 c1 c2 : Value) (h : ItIn w B x c0 c1 c2) (hB : B ≤ w.heap.size) :
    Calls Tryd.prog 101 #[.agg #[c0, c1, c2], .func (.func 102) #[] #[]] w fun e w' => e = .returned (scanV x) ∧ Below w.heap.size w w' := by
  have hsz := scan_size w c0 c1 c2
  have HC := Lib.hid (visit_c x B (scanW w c0 c1 c2) c0 c1 c2 (h.below ((scan_below w c0 c1 c2).mono hB)) (by omega) _ _ _ _ 1 0 0 (scan_vars w c0 c1 c2) (by omega) (by omega) (by omega) (by omega) (by omega) (by omega) (by omega))
  have hsb := scan_below w c0 c1 c2
  have HB := Lib.hid hsb
  have hm : x.may = (x.vis 1 0 0).1 := (vis_may x).symm
  have hv : (x.vis 1 0 0).1 = true → (x.vis 1 0 0).2 = (0 + x.count, max 0 (1 - 1 + x.deep)) := (vis_is x 1 0 0 (by omega) (by omega)).2.1
  obtain ⟨⟨r, c, d⟩, hT⟩ : ∃ T, x.vis 1 0 0 = T := ⟨_, rfl⟩
  rw [hT] at HC hm hv
  have HM : Hid (scanV x = .tuple #[.int .i64 (if r then (c : Int) else 0), .int .i64 (if r then (d : Int) else 0), .bool r]) := Lib.hid (by
    dsimp only at hm hv
    unfold scanV
    rw [hm]
    cases r with
    | false => rfl
    | true =>
      have h2 := hv rfl
      injection h2 with h3 h4
      subst h3; subst h4
      simp)
  clear hm hv
  obtain ⟨A, cap, rfl, rfl, rfl, _⟩ := h.open_
  have HZ := Lib.hid hsz
  clear hT h hsb hsz
  cases r with
  | true =>
    go_enter Tryd.func101, Tryd.ntmps101
    go_wp2_with fail
    refine HC.out.mono ?_
    rintro e w2 ⟨rfl, hV, ho⟩
    have hb2 : Below w.heap.size w w2 := HB.out.trans (ho.below (by have := HZ.out; omega) (by simp; omega))
    have p1 : w2.cell? ⟨w.heap.size + 1 + 1, 0, none⟩ = some (.int .i64 c) := cell_of_one hV.cnt
    have p1f : w2.frozen? ⟨w.heap.size + 1 + 1, 0, none⟩ = false := free_of_one hV.cnt
    have p3 : w2.cell? ⟨w.heap.size + 1 + 1 + 1, 0, none⟩ = some (.int .i64 d) := cell_of_one hV.dp
    have p3f : w2.frozen? ⟨w.heap.size + 1 + 1 + 1, 0, none⟩ = false := free_of_one hV.dp
    clear ho hV
    go_wp2
    go_region
    all_goals go_wp2
    all_goals
      refine bodyPost_ret (v := .tuple #[.int .i64 c, .int .i64 d, .bool true]) (by simp [results, Tryd.results101, go_sem, p1, p3]) rfl ⟨by rw [HM.out]; rfl, ?_⟩
      exact (((hb2.setCell (by simp; omega) _).setCell (by simp; omega) _).drew)
  | false =>
    go_enter Tryd.func101, Tryd.ntmps101
    go_wp2_with fail
    refine HC.out.mono ?_
    rintro e w2 ⟨rfl, hV, ho⟩
    have hb2 : Below w.heap.size w w2 := HB.out.trans (ho.below (by have := HZ.out; omega) (by simp; omega))
    have p1 : w2.cell? ⟨w.heap.size + 1 + 1, 0, none⟩ = some (.int .i64 c) := cell_of_one hV.cnt
    have p1f : w2.frozen? ⟨w.heap.size + 1 + 1, 0, none⟩ = false := free_of_one hV.cnt
    have p3 : w2.cell? ⟨w.heap.size + 1 + 1 + 1, 0, none⟩ = some (.int .i64 d) := cell_of_one hV.dp
    have p3f : w2.frozen? ⟨w.heap.size + 1 + 1 + 1, 0, none⟩ = false := free_of_one hV.dp
    clear ho hV
    go_wp2
    refine bodyPost_ret (v := .tuple #[.int .i64 0, .int .i64 0, .bool false]) (by simp [results, Tryd.results101, go_sem, p1, p3]) rfl ⟨by rw [HM.out]; rfl, ?_⟩
    exact ((hb2.setCell (by simp; omega) _).setCell (by simp; omega) _)

set_option maxHeartbeats 400000 in
theorem may_c (x : It) (B : Nat) (w : World) (c0 c1 c2 : Value) (h : ItIn w B x c0 c1 c2) (hB : B ≤ w.heap.size) :
    Calls Tryd.prog 97 #[.agg #[c0, c1, c2]] w fun e w' => e = .returned (.bool x.may) ∧ Below w.heap.size w w' := by
  have HC := Lib.hid (scan_c x B (w.alloc (.cells #[c0, c1, c2] 27)) c0 c1 c2 (h.below (by repeat (first | exact Below.refl _ _ | assumption | with_reducible refine Below.drewN' ?_ _ | with_reducible refine Below.drew ?_ | ((with_reducible refine Below.alloc' ?_ ?_ _); · (first | omega | (simp <;> omega)))))) (by simp; omega))
  obtain ⟨a, b, hab⟩ : ∃ a b : Int, scanV x = .tuple #[.int .i64 a, .int .i64 b, .bool x.may] := ⟨_, _, rfl⟩
  rw [hab] at HC
  obtain ⟨A, cap, rfl, rfl, rfl, _⟩ := h.open_
  clear h hab
  generalize x.may = R at *
  go_enter Tryd.func97, Tryd.ntmps97
  go_wp2_with fail
  refine HC.out.mono ?_
  rintro e w2 ⟨rfl, hb⟩
  go_wp2
  go_ret
  exact ⟨rfl, (Below.alloc (Below.refl _ _) (Nat.le_refl _) _).trans (hb.mono (by simp))⟩
end Go.Proofs.YtacikiambpfipaaDoor
namespace Go.Proofs.YtacikiambpfipaaDoor
set_option linter.unusedVariables false
set_option linter.unusedSimpArgs false
open Go.RowKit

theorem blk3' {w : World} {g : Nat} {t : TypeId} {a b c : Value} (h : Blk w g t #[a, b, c]) : w.cell? ⟨g, 0, none⟩ = some a ∧ w.cell? ⟨g, 1, none⟩ = some b ∧ w.cell? ⟨g, 2, none⟩ = some c := ⟨h.cell 0, h.cell 1, h.cell 2⟩
def fstE (e0 e1 e2 : Int) : Int := if e0 ≠ 0 then e0 else if e1 ≠ 0 then e1 else e2
def fstI (e0 e1 : Int) (I1 I2 I3 : World → Prop) (w : World) : Prop := if e0 ≠ 0 then I1 w else if e1 ≠ 0 then I2 w else I3 w
theorem fst_0 {e0 : Int} (h : e0 ≠ 0) (e1 e2 : Int) (I1 I2 I3 : World → Prop) (w : World) (hi : I1 w) : fstE e0 e1 e2 = e0 ∧ fstI e0 e1 I1 I2 I3 w := by
  unfold fstE fstI; rw [if_pos h, if_pos h]; exact ⟨rfl, hi⟩
theorem fst_1 {e0 e1 : Int} (h : e0 = 0) (h1 : e1 ≠ 0) (e2 : Int) (I1 I2 I3 : World → Prop) (w : World) (hi : I2 w) : fstE e0 e1 e2 = e1 ∧ fstI e0 e1 I1 I2 I3 w := by
  subst h; simp [fstE, fstI, h1, hi]
theorem fst_2 {e0 e1 : Int} (h : e0 = 0) (h1 : e1 = 0) (e2 : Int) (I1 I2 I3 : World → Prop) (w : World) (hi : I3 w) : fstE e0 e1 e2 = e2 ∧ fstI e0 e1 I1 I2 I3 w := by
  subst h; subst h1; simp [fstE, fstI, hi]
set_option maxRecDepth 100000 in
set_option maxHeartbeats 2000000 in
theorem firstPut_c (w : World) (B : Nat) (k0 k1 k2 : Array Value) (e0 e1 e2 : Int) (I1 I2 I3 : World → Prop)
    (hB : Blk w B 84 #[.func (.func 42) #[] k0, .func (.func 44) #[] k1, .func (.func 46) #[] k2])
    (h0 : Calls Tryd.prog 42 k0 w fun e w' => e = .returned (.int .i64 e0) ∧ I1 w') (h1 : e0 = 0 → ∀ w1, I1 w1 → Calls Tryd.prog 44 k1 w1 fun e w' => e = .returned (.int .i64 e1) ∧ I2 w') (h2 : e0 = 0 → e1 = 0 → ∀ w2, I2 w2 → Calls Tryd.prog 46 k2 w2 fun e w' => e = .returned (.int .i64 e2) ∧ I3 w')
    (b1 : ∀ w', I1 w' → Blk w' B 84 #[.func (.func 42) #[] k0, .func (.func 44) #[] k1, .func (.func 46) #[] k2]) (b2 : ∀ w', I2 w' → Blk w' B 84 #[.func (.func 42) #[] k0, .func (.func 44) #[] k1, .func (.func 46) #[] k2]) :
    Calls Tryd.prog 41 #[.slice (some ⟨B, 0, none⟩) 3 3] w fun e w' => e = .returned (.int .i64 (fstE e0 e1 e2)) ∧ fstI e0 e1 I1 I2 I3 w' := by
  have H0 := Lib.hid h0
  have H1 := Lib.hid h1
  have H2 := Lib.hid h2
  have B1 := Lib.hid b1
  have B2 := Lib.hid b2
  have HB := Lib.hid hB
  clear h0 h1 h2 b1 b2 hB
  go_enter Tryd.func41, Tryd.ntmps41
  go_wp2_with fail
  go_loopw [8] (fun i wr => (i = .int .i64 0 ∧ Hid (wr = w)) ∨ (i = .int .i64 1 ∧ Hid (e0 = 0 ∧ I1 wr)) ∨ (i = .int .i64 2 ∧ Hid (e0 = 0 ∧ e1 = 0 ∧ I2 wr)) ∨ (i = .int .i64 3 ∧ Hid (e0 = 0 ∧ e1 = 0 ∧ e2 = 0 ∧ I3 wr))) (fun i _ => 3 - (intOf i).toNat)
  case atStart => exact .inl ⟨rfl, Lib.hid rfl⟩
  case round =>
    rcases hrel with ⟨rfl, hi⟩ | ⟨rfl, hi⟩ | ⟨rfl, hi⟩ | ⟨rfl, hi⟩
    · have HC : Hid (Calls Tryd.prog 42 k0 wr fun e w' => e = .returned (.int .i64 e0) ∧ I1 w') := Lib.hid (by rw [hi.out]; exact H0.out)
      have HBW : Hid (Blk wr B 84 #[.func (.func 42) #[] k0, .func (.func 44) #[] k1, .func (.func 46) #[] k2]) := Lib.hid (by rw [hi.out]; exact HB.out)
      obtain ⟨q0, q1, q2⟩ := blk3' HBW.out
      have hp : Hid True := Lib.hid trivial
      rcases beq0 (e0) with ⟨h0, k1, k2⟩ | ⟨h0, k1, k2⟩
      · subst h0
        clear k1 k2 hi
        go_wp2_with fail
        refine HC.out.mono ?_
        rintro e w1 ⟨rfl, hi2⟩
        have HI2 := Lib.hid hi2
        clear hi2
        go_wp2
        go_roundw
        case rel =>
          have hi2 := HI2.out
          exact (.inr (.inl ⟨rfl, Lib.hid ⟨by simp, hi2⟩⟩))
        case measure => simp [intOf]
      have H00 := Lib.hid h0
      clear h0 hi
      go_wp2_with fail
      refine HC.out.mono ?_
      rintro e w1 ⟨rfl, hi2⟩
      have HI2 := Lib.hid hi2
      clear hi2
      go_wp2
      go_ret
      have hi2 := HI2.out
      obtain ⟨z1, z2⟩ := fst_0 H00.out e1 e2 I1 I2 I3 w1 hi2
      exact ⟨by rw [z1]; rfl, z2⟩
    · have HC := Lib.hid (H1.out hi.out.1 wr hi.out.2)
      obtain ⟨q0, q1, q2⟩ := blk3' (B1.out wr hi.out.2)
      have hp := hi
      rcases beq0 (e1) with ⟨h0, k1, k2⟩ | ⟨h0, k1, k2⟩
      · subst h0
        clear k1 k2 hi
        go_wp2_with fail
        refine HC.out.mono ?_
        rintro e w1 ⟨rfl, hi2⟩
        have HI2 := Lib.hid hi2
        clear hi2
        go_wp2
        go_roundw
        case rel =>
          have hi2 := HI2.out
          exact (.inr (.inr (.inl ⟨rfl, Lib.hid ⟨hp.out.1, by simp, hi2⟩⟩)))
        case measure => simp [intOf]
      have H00 := Lib.hid h0
      clear h0 hi
      go_wp2_with fail
      refine HC.out.mono ?_
      rintro e w1 ⟨rfl, hi2⟩
      have HI2 := Lib.hid hi2
      clear hi2
      go_wp2
      go_ret
      have hi2 := HI2.out
      obtain ⟨z1, z2⟩ := fst_1 hp.out.1 H00.out e2 I1 I2 I3 w1 hi2
      exact ⟨by rw [z1]; rfl, z2⟩
    · have HC := Lib.hid (H2.out hi.out.1 hi.out.2.1 wr hi.out.2.2)
      obtain ⟨q0, q1, q2⟩ := blk3' (B2.out wr hi.out.2.2)
      have hp := hi
      rcases beq0 (e2) with ⟨h0, k1, k2⟩ | ⟨h0, k1, k2⟩
      · subst h0
        clear k1 k2 hi
        go_wp2_with fail
        refine HC.out.mono ?_
        rintro e w1 ⟨rfl, hi2⟩
        have HI2 := Lib.hid hi2
        clear hi2
        go_wp2
        go_roundw
        case rel =>
          have hi2 := HI2.out
          exact (.inr (.inr (.inr ⟨rfl, Lib.hid ⟨hp.out.1, hp.out.2.1, by simp, hi2⟩⟩)))
        case measure => simp [intOf]
      have H00 := Lib.hid h0
      clear h0 hi
      go_wp2_with fail
      refine HC.out.mono ?_
      rintro e w1 ⟨rfl, hi2⟩
      have HI2 := Lib.hid hi2
      clear hi2
      go_wp2
      go_ret
      have hi2 := HI2.out
      obtain ⟨z1, z2⟩ := fst_2 hp.out.1 hp.out.2.1 e2 I1 I2 I3 w1 hi2
      exact ⟨by rw [z1]; rfl, z2⟩
    · go_wp2
      go_ret
      obtain ⟨h1, h2, h3, h4⟩ := hi.out
      obtain ⟨z1, z2⟩ := fst_2 h1 h2 e2 I1 I2 I3 wr h4
      exact ⟨by rw [z1, h3]; rfl, z2⟩
set_option maxRecDepth 100000 in
set_option maxHeartbeats 2000000 in
theorem firstGet_c (w : World) (B : Nat) (k0 k1 k2 : Array Value) (e0 e1 e2 : Int) (I1 I2 I3 : World → Prop)
    (hB : Blk w B 84 #[.func (.func 73) #[] k0, .func (.func 75) #[] k1, .func (.func 77) #[] k2])
    (h0 : Calls Tryd.prog 73 k0 w fun e w' => e = .returned (.int .i64 e0) ∧ I1 w') (h1 : e0 = 0 → ∀ w1, I1 w1 → Calls Tryd.prog 75 k1 w1 fun e w' => e = .returned (.int .i64 e1) ∧ I2 w') (h2 : e0 = 0 → e1 = 0 → ∀ w2, I2 w2 → Calls Tryd.prog 77 k2 w2 fun e w' => e = .returned (.int .i64 e2) ∧ I3 w')
    (b1 : ∀ w', I1 w' → Blk w' B 84 #[.func (.func 73) #[] k0, .func (.func 75) #[] k1, .func (.func 77) #[] k2]) (b2 : ∀ w', I2 w' → Blk w' B 84 #[.func (.func 73) #[] k0, .func (.func 75) #[] k1, .func (.func 77) #[] k2]) :
    Calls Tryd.prog 41 #[.slice (some ⟨B, 0, none⟩) 3 3] w fun e w' => e = .returned (.int .i64 (fstE e0 e1 e2)) ∧ fstI e0 e1 I1 I2 I3 w' := by
  have H0 := Lib.hid h0
  have H1 := Lib.hid h1
  have H2 := Lib.hid h2
  have B1 := Lib.hid b1
  have B2 := Lib.hid b2
  have HB := Lib.hid hB
  clear h0 h1 h2 b1 b2 hB
  go_enter Tryd.func41, Tryd.ntmps41
  go_wp2_with fail
  go_loopw [8] (fun i wr => (i = .int .i64 0 ∧ Hid (wr = w)) ∨ (i = .int .i64 1 ∧ Hid (e0 = 0 ∧ I1 wr)) ∨ (i = .int .i64 2 ∧ Hid (e0 = 0 ∧ e1 = 0 ∧ I2 wr)) ∨ (i = .int .i64 3 ∧ Hid (e0 = 0 ∧ e1 = 0 ∧ e2 = 0 ∧ I3 wr))) (fun i _ => 3 - (intOf i).toNat)
  case atStart => exact .inl ⟨rfl, Lib.hid rfl⟩
  case round =>
    rcases hrel with ⟨rfl, hi⟩ | ⟨rfl, hi⟩ | ⟨rfl, hi⟩ | ⟨rfl, hi⟩
    · have HC : Hid (Calls Tryd.prog 73 k0 wr fun e w' => e = .returned (.int .i64 e0) ∧ I1 w') := Lib.hid (by rw [hi.out]; exact H0.out)
      have HBW : Hid (Blk wr B 84 #[.func (.func 73) #[] k0, .func (.func 75) #[] k1, .func (.func 77) #[] k2]) := Lib.hid (by rw [hi.out]; exact HB.out)
      obtain ⟨q0, q1, q2⟩ := blk3' HBW.out
      have hp : Hid True := Lib.hid trivial
      rcases beq0 (e0) with ⟨h0, k1, k2⟩ | ⟨h0, k1, k2⟩
      · subst h0
        clear k1 k2 hi
        go_wp2_with fail
        refine HC.out.mono ?_
        rintro e w1 ⟨rfl, hi2⟩
        have HI2 := Lib.hid hi2
        clear hi2
        go_wp2
        go_roundw
        case rel =>
          have hi2 := HI2.out
          exact (.inr (.inl ⟨rfl, Lib.hid ⟨by simp, hi2⟩⟩))
        case measure => simp [intOf]
      have H00 := Lib.hid h0
      clear h0 hi
      go_wp2_with fail
      refine HC.out.mono ?_
      rintro e w1 ⟨rfl, hi2⟩
      have HI2 := Lib.hid hi2
      clear hi2
      go_wp2
      go_ret
      have hi2 := HI2.out
      obtain ⟨z1, z2⟩ := fst_0 H00.out e1 e2 I1 I2 I3 w1 hi2
      exact ⟨by rw [z1]; rfl, z2⟩
    · have HC := Lib.hid (H1.out hi.out.1 wr hi.out.2)
      obtain ⟨q0, q1, q2⟩ := blk3' (B1.out wr hi.out.2)
      have hp := hi
      rcases beq0 (e1) with ⟨h0, k1, k2⟩ | ⟨h0, k1, k2⟩
      · subst h0
        clear k1 k2 hi
        go_wp2_with fail
        refine HC.out.mono ?_
        rintro e w1 ⟨rfl, hi2⟩
        have HI2 := Lib.hid hi2
        clear hi2
        go_wp2
        go_roundw
        case rel =>
          have hi2 := HI2.out
          exact (.inr (.inr (.inl ⟨rfl, Lib.hid ⟨hp.out.1, by simp, hi2⟩⟩)))
        case measure => simp [intOf]
      have H00 := Lib.hid h0
      clear h0 hi
      go_wp2_with fail
      refine HC.out.mono ?_
      rintro e w1 ⟨rfl, hi2⟩
      have HI2 := Lib.hid hi2
      clear hi2
      go_wp2
      go_ret
      have hi2 := HI2.out
      obtain ⟨z1, z2⟩ := fst_1 hp.out.1 H00.out e2 I1 I2 I3 w1 hi2
      exact ⟨by rw [z1]; rfl, z2⟩
    · have HC := Lib.hid (H2.out hi.out.1 hi.out.2.1 wr hi.out.2.2)
      obtain ⟨q0, q1, q2⟩ := blk3' (B2.out wr hi.out.2.2)
      have hp := hi
      rcases beq0 (e2) with ⟨h0, k1, k2⟩ | ⟨h0, k1, k2⟩
      · subst h0
        clear k1 k2 hi
        go_wp2_with fail
        refine HC.out.mono ?_
        rintro e w1 ⟨rfl, hi2⟩
        have HI2 := Lib.hid hi2
        clear hi2
        go_wp2
        go_roundw
        case rel =>
          have hi2 := HI2.out
          exact (.inr (.inr (.inr ⟨rfl, Lib.hid ⟨hp.out.1, hp.out.2.1, by simp, hi2⟩⟩)))
        case measure => simp [intOf]
      have H00 := Lib.hid h0
      clear h0 hi
      go_wp2_with fail
      refine HC.out.mono ?_
      rintro e w1 ⟨rfl, hi2⟩
      have HI2 := Lib.hid hi2
      clear hi2
      go_wp2
      go_ret
      have hi2 := HI2.out
      obtain ⟨z1, z2⟩ := fst_2 hp.out.1 hp.out.2.1 e2 I1 I2 I3 w1 hi2
      exact ⟨by rw [z1]; rfl, z2⟩
    · go_wp2
      go_ret
      obtain ⟨h1, h2, h3, h4⟩ := hi.out
      obtain ⟨z1, z2⟩ := fst_2 h1 h2 e2 I1 I2 I3 wr h4
      exact ⟨by rw [z1, h3]; rfl, z2⟩
end Go.Proofs.YtacikiambpfipaaDoor
namespace Go.Proofs.YtacikiambpfipaaDoor
set_option linter.unusedVariables false
set_option linter.unusedSimpArgs false
open Go.RowKit

theorem ret2_num {a : Int} {b c : Nat} (h : a = (b : Int)) (h' : b = c) : Ending.returned (.tuple #[.int .u64 a, .int .i64 0]) = .returned (.tuple #[.int .u64 c, .int .i64 0]) := by
  subst h; subst h'; rfl

set_option maxRecDepth 100000 in
set_option maxHeartbeats 1000000 in
theorem refNumber_c (s : ByteArray) (w : World) (h8 : s.size ≤ 8) :
    Calls Tryd.prog 68 #[.string s] w fun e w' => e = .returned (.int .u64 (beL s.data.toList)) ∧ w = w' := by
  go_enter Tryd.func68, Tryd.ntmps68
  go_wp2
  go_loop [3, 4] (fun n i => ∃ k m : Nat, k ≤ s.size ∧ Hid (m = beL (s.data.toList.take k)) ∧ n = .int .u64 m ∧ i = .int .i64 k) (fun _ i => s.size - (intOf i).toNat)
  case atStart => exact ⟨0, 0, by omega, rfl, rfl, rfl⟩
  case round =>
    obtain ⟨k, m, hk, hm, rfl, rfl⟩ := hrel
    by_cases hlt : k < s.size
    · go_wp2
      go_round
      case rel =>
        have hb := s[k].toNat_lt
        have hn := beL_lt (s.data.toList.take (k + 1))
        rw [length_take s (k + 1) (by omega), take_snoc s k hlt, beL_snoc, ← hm.out] at hn
        have hp := le_pow (k + 1) (by omega)
        refine ⟨k + 1, _, by omega, Lib.hid rfl, ?_, by go_num⟩
        rw [take_snoc s k hlt, beL_snoc, ← hm.out, IntWalk.u64_in (256 * (m : Int)) (by omega), IntWalk.u64_in (s[k].toNat : Int) (by omega), IntWalk.u64_in _ (by omega)]
        go_num
      case measure => simp [intOf]; omega
    · go_wp2
      go_ret
      exact ⟨by show Ending.returned (.int .u64 m) = _; rw [hm.out, List.take_of_length_le (by simp; omega)], rfl⟩
end Go.Proofs.YtacikiambpfipaaDoor
namespace Go.Proofs.YtacikiambpfipaaDoor
set_option linter.unusedVariables false
set_option linter.unusedSimpArgs false
open Go.RowKit

theorem wp_append_buf {P : Program} {w : World} {o : Oper} {a : Act} {K : Act → World → Prop} {Q : Exit → Act → World → Prop} (s x : Operand) (t tx : TypeId)
    (ho : o.op = .call { callee := .builtin .append, args := #[s, x], argTypes := #[t, tx] }) (base : Nat) (E : TypeId) (i : TypeInfo) (ht : P.underlying t = some (.slice E)) (hi : P.info? E = some i) (hz : i.zero = some (.int .u8 0)) (h1 : i.size = 1) (hby : i.bytes = 1)
    {v : Value} {l : List UInt8} (hv : a.eval s = v) (h : Buf w base E v l) (xv : Value) (m : List UInt8) (hx : a.eval x = xv) (hs : Src P 1 tx xv m.length (cb m) w) (hb : base ≤ w.heap.size) (hlen : l.length + m.length ≤ 140737488355328)
    (hK : ∀ (A' : Option Addr) (n' cap' : Nat) w', Buf w' base E (.slice A' n' cap') (l ++ m) → Kept E base w w' → K (a.put o.dst (.slice A' n' cap')) w') : Oper.wp P o a w K Q := by
  obtain ⟨v', w', hrun, r1, r2⟩ := h.append (P := P) t tx o.type i ht hi hz h1 hby xv m hs hb hlen
  obtain ⟨A', cap', hv', _⟩ := r1.form
  unfold Oper.wp
  simp [execOp, ho, resolve, invoke, builtin, hv, hx, hrun, Result.andThen]
  subst hv'
  exact hK _ _ _ w' r1 r2
/-- At a step of a region that draws its order. -/
theorem step_append_buf {P : Program} {w : World} {ops : Array Oper} {o : Oper} {a : Act} {K : Act → World → Prop} {Q : Exit → Act → World → Prop} {E' : Prop} (hgd : o.guard = none) (s x : Operand) (t tx : TypeId)
    (ho : o.op = .call { callee := .builtin .append, args := #[s, x], argTypes := #[t, tx] }) (base : Nat) (E : TypeId) (i : TypeInfo) (ht : P.underlying t = some (.slice E)) (hi : P.info? E = some i) (hz : i.zero = some (.int .u8 0)) (h1 : i.size = 1) (hby : i.bytes = 1)
    {v : Value} {l : List UInt8} (hv : a.eval s = v) (h : Buf w base E v l) (xv : Value) (m : List UInt8) (hx : a.eval x = xv) (hs : Src P 1 tx xv m.length (cb m) w) (hb : base ≤ w.heap.size) (hlen : l.length + m.length ≤ 140737488355328)
    (hK : ∀ (A' : Option Addr) (n' cap' : Nat) w', Buf w' base E (.slice A' n' cap') (l ++ m) → Kept E base w w' → K (a.put o.dst (.slice A' n' cap')) w') :
    if Region.wanted o (yielded ops a.tmps) = true then Oper.wp P o a w K Q else E' := by
  have hw : Region.wanted o (yielded ops a.tmps) = true := by simp [Region.wanted, hgd]
  rw [if_pos hw]
  exact wp_append_buf s x t tx ho base E i ht hi hz h1 hby hv h xv m hx hs hb hlen hK
theorem src_lit {P : Program} {tx e' : TypeId} (hk : P.underlying tx = some (.slice e')) (w : World) (E : TypeId) (cs : Array Value) (m : List UInt8) (c g : Nat) (hg : g = w.heap.size) (hcs : cs.toList = cb m) : Src P 1 tx (.slice (some ⟨g, 0, none⟩) m.length c) m.length (cb m) (w.alloc (.cells cs E)) := by
  subst hg; exact src_new hk w E cs m c hcs
theorem src_litD {P : Program} {tx e' : TypeId} (hk : P.underlying tx = some (.slice e')) (w : World) (E : TypeId) (cs : Array Value) (m : List UInt8) (c g : Nat) (hg : g = w.heap.size) (hcs : cs.toList = cb m) : Src P 1 tx (.slice (some ⟨g, 0, none⟩) m.length c) m.length (cb m) (w.alloc (.cells cs E)).drew := by
  subst hg
  exact Src.ofSlice _ hk _ _ _ _ (by rw [cb_length, Nat.mul_one]) (fun j u hu => show (w.alloc (.cells cs E)).cell? _ = _ from World.news_of_block (heap_alloc_new w (.cells cs E)) j u (by rw [← hcs] at hu; simpa using hu)) (cb_one m)
theorem Buf.form' {w : World} {base : Nat} {E : TypeId} {v : Value} {l : List UInt8} (h : Buf w base E v l) : ∃ A n cap, v = .slice A n cap ∧ Hid (n = l.length) ∧ n ≤ cap ∧ cap ≤ 9223372036854775807 := by
  obtain ⟨A, cap, h1, h2, h3⟩ := h.form
  exact ⟨A, _, cap, h1, Lib.hid rfl, h2, h3⟩
theorem Blk.kept {E : TypeId} {base g : Nat} {w w' : World} {t : TypeId} {cs : Array Value} (h : Blk w g t cs) (hk : Kept E base w w') (hne : t ≠ E) : Blk w' g t cs := hk.other g _ h (by
  intro c f e; injection e with _ e2; exact hne e2)
theorem Blk.keep {w w' : World} {g B : Nat} {t : TypeId} {cs : Array Value} (h : Blk w g t cs) (hb : Below B w w') (hg : g < B) : Blk w' g t cs := (hb.block g hg).trans h
theorem blk3 {w : World} {g : Nat} {t : TypeId} {a b c : Value} (h : Blk w g t #[a, b, c]) : w.cell? ⟨g, 0, none⟩ = some a ∧ w.cell? ⟨g, 1, none⟩ = some b ∧ w.cell? ⟨g, 2, none⟩ = some c ∧ w.frozen? ⟨g, 0, none⟩ = false ∧ w.frozen? ⟨g, 1, none⟩ = false ∧ w.frozen? ⟨g, 2, none⟩ = false :=
  ⟨h.cell 0, h.cell 1, h.cell 2, h.frozen 0, h.frozen 1, h.frozen 2⟩
end Go.Proofs.YtacikiambpfipaaDoor
