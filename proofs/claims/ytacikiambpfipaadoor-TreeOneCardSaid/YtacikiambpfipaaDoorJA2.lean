/- Package item: item.May. -/
/- Numbers out of bytes: the plain functions and their laws. No program in sight. -/
/- string([]byte{..}) of a literal of one to five bytes. Own text; no program in sight. -/
/- []byte(s): the world behind it, in my words. Own text; no program in sight. -/
import Derived.Test.YtacikiambpfipaaDoorJItem
import Derived.Laws.EntriesVeiled
import Derived.Test.YtacikiambpfipaaDoorJA1
import Derived.Test.YtacikiambpfipaaDoorJWords
import Derived.Lib.ConvBytes
import Derived.Lib.AtoiErrMem
namespace Go.Proofs.YtacikiambpfipaaDoor
set_option linter.unusedVariables false
set_option linter.unusedSimpArgs false
open Go.RowKit

/-- The world in which scan begins its walk: five new blocks. -/
def scanW (w : World) (c0 c1 c2 : Value) : World :=
  ((((w.alloc (.cells #[c0, c1, c2] 27)).alloc (.cells #[.func (.func 102) #[] #[]] 30)).alloc (.cells #[.int .i64 0] 3)).alloc (.cells #[.int .i64 0] 3)).alloc
    (.cells #[.func (.func 142) #[] #[.pointer (some ⟨w.heap.size + 1 + 1, 0, none⟩), .pointer (some ⟨w.heap.size + 1, 0, none⟩), .pointer (some ⟨w.heap.size + 1 + 1 + 1, 0, none⟩), .pointer (some ⟨w.heap.size + 1 + 1 + 1 + 1, 0, none⟩)]] 167)
theorem scan_vars (w : World) (c0 c1 c2 : Value) : Vars (scanW w c0 c1 c2) (w.heap.size + 1 + 1) (w.heap.size + 1) (w.heap.size + 1 + 1 + 1) (w.heap.size + 1 + 1 + 1 + 1) 0 0 := by
  unfold scanW
  refine ⟨?_, ?_, ?_, ?_⟩
  · refine Blk.alloc (Blk.alloc ?_ _) _
    have := Blk.new ((w.alloc (.cells #[c0, c1, c2] 27)).alloc (.cells #[.func (.func 102) #[] #[]] 30)) 3 #[.int .i64 0]
    simpa using this
  · refine Blk.alloc (Blk.alloc (Blk.alloc ?_ _) _) _
    have := Blk.new (w.alloc (.cells #[c0, c1, c2] 27)) 30 #[.func (.func 102) #[] #[]]
    simpa using this
  · refine Blk.alloc ?_ _
    have := Blk.new (((w.alloc (.cells #[c0, c1, c2] 27)).alloc (.cells #[.func (.func 102) #[] #[]] 30)).alloc (.cells #[.int .i64 0] 3)) 3 #[.int .i64 0]
    simpa using this
  · have := Blk.new ((((w.alloc (.cells #[c0, c1, c2] 27)).alloc (.cells #[.func (.func 102) #[] #[]] 30)).alloc (.cells #[.int .i64 0] 3)).alloc (.cells #[.int .i64 0] 3)) 167 #[.func (.func 142) #[] #[.pointer (some ⟨w.heap.size + 1 + 1, 0, none⟩), .pointer (some ⟨w.heap.size + 1, 0, none⟩), .pointer (some ⟨w.heap.size + 1 + 1 + 1, 0, none⟩), .pointer (some ⟨w.heap.size + 1 + 1 + 1 + 1, 0, none⟩)]]
    simpa using this
theorem scan_below (w : World) (c0 c1 c2 : Value) : Below w.heap.size w (scanW w c0 c1 c2) := by
  unfold scanW
  exact (by repeat (first | exact Below.refl _ _ | assumption | with_reducible refine Below.drewN' ?_ _ | with_reducible refine Below.drew ?_ | ((with_reducible refine Below.alloc' ?_ ?_ _); · (first | omega | (simp <;> omega)))))
theorem scan_size (w : World) (c0 c1 c2 : Value) : (scanW w c0 c1 c2).heap.size = w.heap.size + 5 := by
  unfold scanW; simp

/-- What scan tells: how many, how deep, whether it came to the end. -/
def scanV (x : It) : Value := .tuple #[.int .i64 (if x.may then (x.count : Int) else 0), .int .i64 (if x.may then (x.deep : Int) else 0), .bool x.may]
set_option maxRecDepth 100000 in
set_option maxHeartbeats 800000 in
theorem scan_c (x : It) (B : Nat) (w : World) (c0 c1 c2 : Value) (h : ItIn w B x c0 c1 c2) (hB : B ≤ w.heap.size) :
    Calls Tryd.prog 101 #[.agg #[c0, c1, c2], .func (.func 102) #[] #[]] w fun e w' => e = .returned (scanV x) ∧ Below w.heap.size w w' := by
  have hsz := scan_size w c0 c1 c2
  have HC := Lib.hid (visit_c x B (scanW w c0 c1 c2) c0 c1 c2 (h.below ((scan_below w c0 c1 c2).mono hB)) (by omega) _ _ _ _ 1 0 0 (scan_vars w c0 c1 c2) (by omega) (by omega) (by omega) (by omega) (by omega) (by omega) (by omega))
  have hsb := scan_below w c0 c1 c2
  have HB := Lib.hid hsb
  have hm : x.may = (x.vis 1 0 0).1 := (vis_may x).symm
  have hv : (x.vis 1 0 0).1 = true → (x.vis 1 0 0).2 = (0 + x.count, max 0 (1 - 1 + x.deep)) := (vis_is x 1 0 0 (by omega) (by omega)).2.1
  obtain ⟨⟨r, c, d⟩, hT⟩ : ∃ T, x.vis 1 0 0 = T := ⟨_, rfl⟩
  rw [hT] at HC hm hv
  have HM : Hid (scanV x = .tuple #[.int .i64 (if r then (c : Int) else 0), .int .i64 (if r then (d : Int) else 0), .bool r]) := Lib.hid (by
    dsimp only at hm hv
    unfold scanV
    rw [hm]
    cases r with
    | false => rfl
    | true =>
      have h2 := hv rfl
      injection h2 with h3 h4
      subst h3; subst h4
      simp)
  clear hm hv
  obtain ⟨A, cap, rfl, rfl, rfl, _⟩ := h.open_
  have HZ := Lib.hid hsz
  clear hT h hsb hsz
  cases r with
  | true =>
    go_enter Tryd.func101, Tryd.ntmps101
    go_wp2_with fail
    refine HC.out.mono ?_
    rintro e w2 ⟨rfl, hV, ho⟩
    have hb2 : Below w.heap.size w w2 := HB.out.trans (ho.below (by have := HZ.out; omega) (by simp; omega))
    have p1 : w2.cell? ⟨w.heap.size + 1 + 1, 0, none⟩ = some (.int .i64 c) := cell_of_one hV.cnt
    have p1f : w2.frozen? ⟨w.heap.size + 1 + 1, 0, none⟩ = false := free_of_one hV.cnt
    have p3 : w2.cell? ⟨w.heap.size + 1 + 1 + 1, 0, none⟩ = some (.int .i64 d) := cell_of_one hV.dp
    have p3f : w2.frozen? ⟨w.heap.size + 1 + 1 + 1, 0, none⟩ = false := free_of_one hV.dp
    clear ho hV
    go_wp2
    go_region
    all_goals go_wp2
    all_goals
      refine bodyPost_ret (v := .tuple #[.int .i64 c, .int .i64 d, .bool true]) (by simp [results, Tryd.results101, go_sem, p1, p3]) rfl ⟨by rw [HM.out]; rfl, ?_⟩
      exact (((hb2.setCell (by simp; omega) _).setCell (by simp; omega) _).drew)
  | false =>
    go_enter Tryd.func101, Tryd.ntmps101
    go_wp2_with fail
    refine HC.out.mono ?_
    rintro e w2 ⟨rfl, hV, ho⟩
    have hb2 : Below w.heap.size w w2 := HB.out.trans (ho.below (by have := HZ.out; omega) (by simp; omega))
    have p1 : w2.cell? ⟨w.heap.size + 1 + 1, 0, none⟩ = some (.int .i64 c) := cell_of_one hV.cnt
    have p1f : w2.frozen? ⟨w.heap.size + 1 + 1, 0, none⟩ = false := free_of_one hV.cnt
    have p3 : w2.cell? ⟨w.heap.size + 1 + 1 + 1, 0, none⟩ = some (.int .i64 d) := cell_of_one hV.dp
    have p3f : w2.frozen? ⟨w.heap.size + 1 + 1 + 1, 0, none⟩ = false := free_of_one hV.dp
    clear ho hV
    go_wp2
    refine bodyPost_ret (v := .tuple #[.int .i64 0, .int .i64 0, .bool false]) (by simp [results, Tryd.results101, go_sem, p1, p3]) rfl ⟨by rw [HM.out]; rfl, ?_⟩
    exact ((hb2.setCell (by simp; omega) _).setCell (by simp; omega) _)

set_option maxHeartbeats 400000 in
theorem may_c (x : It) (B : Nat) (w : World) (c0 c1 c2 : Value) (h : ItIn w B x c0 c1 c2) (hB : B ≤ w.heap.size) :
    Calls Tryd.prog 97 #[.agg #[c0, c1, c2]] w fun e w' => e = .returned (.bool x.may) ∧ Below w.heap.size w w' := by
  have HC := Lib.hid (scan_c x B (w.alloc (.cells #[c0, c1, c2] 27)) c0 c1 c2 (h.below (by repeat (first | exact Below.refl _ _ | assumption | with_reducible refine Below.drewN' ?_ _ | with_reducible refine Below.drew ?_ | ((with_reducible refine Below.alloc' ?_ ?_ _); · (first | omega | (simp <;> omega)))))) (by simp; omega))
  obtain ⟨a, b, hab⟩ : ∃ a b : Int, scanV x = .tuple #[.int .i64 a, .int .i64 b, .bool x.may] := ⟨_, _, rfl⟩
  rw [hab] at HC
  obtain ⟨A, cap, rfl, rfl, rfl, _⟩ := h.open_
  clear h hab
  generalize x.may = R at *
  go_enter Tryd.func97, Tryd.ntmps97
  go_wp2_with fail
  refine HC.out.mono ?_
  rintro e w2 ⟨rfl, hb⟩
  go_wp2
  go_ret
  exact ⟨rfl, (Below.alloc (Below.refl _ _) (Nat.le_refl _) _).trans (hb.mono (by simp))⟩
end Go.Proofs.YtacikiambpfipaaDoor
namespace Go.Proofs.YtacikiambpfipaaDoor
set_option linter.unusedVariables false
set_option linter.unusedSimpArgs false

/-- The number whose bytes these are, the lowest first. -/
def leL : List UInt8 → Nat
  | [] => 0
  | b :: t => b.toNat + 256 * leL t
theorem leL_lt (l : List UInt8) : leL l < 2 ^ (8 * l.length) := by
  induction l with
  | nil => simp [leL]
  | cons b t ih =>
    have := b.toNat_lt
    rw [List.length_cons, show 8 * (t.length + 1) = 8 + 8 * t.length from by omega, Nat.pow_add]
    simp only [leL]
    omega
theorem leL_append (l t : List UInt8) : leL (l ++ t) = leL l + 2 ^ (8 * l.length) * leL t := by
  induction l with
  | nil => simp [leL]
  | cons b r ih =>
    rw [List.cons_append, leL, leL, ih, List.length_cons, show 8 * (r.length + 1) = 8 + 8 * r.length from by omega, Nat.pow_add, Nat.mul_add, Nat.mul_assoc]
    omega
theorem leL_snoc (l : List UInt8) (b : UInt8) : leL (l ++ [b]) = leL l + b.toNat * 2 ^ (8 * l.length) := by
  rw [leL_append]; simp [leL, Nat.mul_comm]
/-- The number whose bytes these are, the highest first. -/
def beL (l : List UInt8) : Nat := leL l.reverse
theorem beL_snoc (l : List UInt8) (b : UInt8) : beL (l ++ [b]) = 256 * beL l + b.toNat := by
  simp [beL, leL]; omega
theorem beL_lt (l : List UInt8) : beL l < 2 ^ (8 * l.length) := by
  have := leL_lt l.reverse; simpa [beL] using this

theorem le_or (n b i : Nat) (hn : n < 2 ^ (8 * i)) : n ||| b * 2 ^ (8 * i) = n + b * 2 ^ (8 * i) := by
  rw [Nat.or_comm, Nat.mul_comm, ← Nat.two_pow_add_eq_or_of_lt hn]; omega
theorem le_pow (i : Nat) (hi : i ≤ 8) : 2 ^ (8 * i) ≤ 18446744073709551616 := by
  have : 2 ^ (8 * i) ≤ 2 ^ 64 := Nat.pow_le_pow_right (by omega) (by omega)
  simpa using this
theorem le_step (n b i : Nat) (hb : b < 256) (hn : n < 2 ^ (8 * i)) : n + b * 2 ^ (8 * i) < 2 ^ (8 * (i + 1)) := by
  have h2 : 2 ^ (8 * (i + 1)) = 256 * 2 ^ (8 * i) := by rw [show 8 * (i + 1) = 8 + 8 * i from by omega, Nat.pow_add]
  have h3 : b * 2 ^ (8 * i) ≤ 255 * 2 ^ (8 * i) := Nat.mul_le_mul_right _ (by omega)
  omega
end Go.Proofs.YtacikiambpfipaaDoor
namespace Go.Proofs.YtacikiambpfipaaDoor
set_option linter.unusedVariables false
set_option linter.unusedSimpArgs false
open Go.RowKit

/-- A byte out of a number. -/
def ub (n : Int) : UInt8 := UInt8.ofNat n.toNat
theorem ub_toNat (n : Nat) (h : n < 256) : (ub n).toNat = n := by
  simp [ub]; omega
theorem run_str_new {P : Program} {src dst e : TypeId} (hs : P.underlying src = some (.slice e)) (he : P.underlying e = some (.int .u8)) (hd : P.underlying dst = some .string) (w : World) (xs : List Int) (cap : Nat) :
    (convert src dst (.slice (some ⟨w.heap.size, 0, none⟩) xs.length cap)).run P (w.alloc (.cells (xs.map (Value.int .u8)).toArray e)) = .ok (.string ⟨(xs.map ub).toArray⟩) (w.alloc (.cells (xs.map (Value.int .u8)).toArray e)) := by
  rw [run_convert_bytes_string _ src dst e _ xs.length cap hs he hd]
  have hl := run_loadCells_list (P := P) (w := w.alloc (.cells (xs.map (Value.int .u8)).toArray e)) ⟨w.heap.size, 0, none⟩ (xs.map (Value.int .u8)) (by
    intro j v hj
    have := World.news_of_block (heap_alloc_new w (.cells (xs.map (Value.int .u8)).toArray e)) j v (by simpa using hj)
    exact this)
  rw [List.length_map] at hl
  rw [run_bytesToString _ _ _ cap xs hl]
  have h : ∀ (l : List Int) (s : ByteArray), l.foldl (fun r n => r.push (UInt8.ofNat n.toNat)) s = ⟨(s.data.toList ++ l.map ub).toArray⟩ := by
    intro l
    induction l with
    | nil => intro s; cases s; simp
    | cons b t ih =>
      intro s
      rw [List.foldl_cons, ih]
      congr 1
      simp [ByteArray.push, ub]
  rw [h]
  simp
section
variable {P : Program} {src dst e : TypeId} (hs : P.underlying src = some (.slice e)) (he : P.underlying e = some (.int .u8)) (hd : P.underlying dst = some .string)
include hs he hd
theorem run_str1 (w : World) (a : Int) : (convert src dst (.slice (some ⟨w.heap.size, 0, none⟩) 1 1)).run P (w.alloc (.cells #[.int .u8 a] e)) = .ok (.string ⟨#[ub a]⟩) (w.alloc (.cells #[.int .u8 a] e)) := run_str_new hs he hd w [a] 1
theorem run_str2 (w : World) (a b : Int) : (convert src dst (.slice (some ⟨w.heap.size, 0, none⟩) 2 2)).run P (w.alloc (.cells #[.int .u8 a, .int .u8 b] e)) = .ok (.string ⟨#[ub a, ub b]⟩) (w.alloc (.cells #[.int .u8 a, .int .u8 b] e)) := run_str_new hs he hd w [a, b] 2
theorem run_str3 (w : World) (a b c : Int) : (convert src dst (.slice (some ⟨w.heap.size, 0, none⟩) 3 3)).run P (w.alloc (.cells #[.int .u8 a, .int .u8 b, .int .u8 c] e)) = .ok (.string ⟨#[ub a, ub b, ub c]⟩) (w.alloc (.cells #[.int .u8 a, .int .u8 b, .int .u8 c] e)) := run_str_new hs he hd w [a, b, c] 3
theorem run_str1_1 (w : World) (o1 : Obj) (a : Int) : (convert src dst (.slice (some ⟨w.heap.size + 1, 0, none⟩) 1 1)).run P ((w.alloc o1).alloc (.cells #[.int .u8 a] e)) = .ok (.string ⟨#[ub a]⟩) ((w.alloc o1).alloc (.cells #[.int .u8 a] e)) := by
  have := run_str1 hs he hd (w.alloc o1) a
  simp only [World.size_alloc] at this
  exact this
theorem run_str1_2 (w : World) (o1 o2 : Obj) (a : Int) : (convert src dst (.slice (some ⟨w.heap.size + 1 + 1, 0, none⟩) 1 1)).run P (((w.alloc o1).alloc o2).alloc (.cells #[.int .u8 a] e)) = .ok (.string ⟨#[ub a]⟩) (((w.alloc o1).alloc o2).alloc (.cells #[.int .u8 a] e)) := by
  have := run_str1 hs he hd ((w.alloc o1).alloc o2) a
  simp only [World.size_alloc] at this
  exact this
theorem run_str1_3 (w : World) (o1 o2 o3 : Obj) (a : Int) : (convert src dst (.slice (some ⟨w.heap.size + 1 + 1 + 1, 0, none⟩) 1 1)).run P ((((w.alloc o1).alloc o2).alloc o3).alloc (.cells #[.int .u8 a] e)) = .ok (.string ⟨#[ub a]⟩) ((((w.alloc o1).alloc o2).alloc o3).alloc (.cells #[.int .u8 a] e)) := by
  have := run_str1 hs he hd (((w.alloc o1).alloc o2).alloc o3) a
  simp only [World.size_alloc] at this
  exact this
theorem run_str2_1 (w : World) (o1 : Obj) (a b : Int) : (convert src dst (.slice (some ⟨w.heap.size + 1, 0, none⟩) 2 2)).run P ((w.alloc o1).alloc (.cells #[.int .u8 a, .int .u8 b] e)) = .ok (.string ⟨#[ub a, ub b]⟩) ((w.alloc o1).alloc (.cells #[.int .u8 a, .int .u8 b] e)) := by
  have := run_str2 hs he hd (w.alloc o1) a b
  simp only [World.size_alloc] at this
  exact this
theorem run_str2_2 (w : World) (o1 o2 : Obj) (a b : Int) : (convert src dst (.slice (some ⟨w.heap.size + 1 + 1, 0, none⟩) 2 2)).run P (((w.alloc o1).alloc o2).alloc (.cells #[.int .u8 a, .int .u8 b] e)) = .ok (.string ⟨#[ub a, ub b]⟩) (((w.alloc o1).alloc o2).alloc (.cells #[.int .u8 a, .int .u8 b] e)) := by
  have := run_str2 hs he hd ((w.alloc o1).alloc o2) a b
  simp only [World.size_alloc] at this
  exact this
theorem run_str2_3 (w : World) (o1 o2 o3 : Obj) (a b : Int) : (convert src dst (.slice (some ⟨w.heap.size + 1 + 1 + 1, 0, none⟩) 2 2)).run P ((((w.alloc o1).alloc o2).alloc o3).alloc (.cells #[.int .u8 a, .int .u8 b] e)) = .ok (.string ⟨#[ub a, ub b]⟩) ((((w.alloc o1).alloc o2).alloc o3).alloc (.cells #[.int .u8 a, .int .u8 b] e)) := by
  have := run_str2 hs he hd (((w.alloc o1).alloc o2).alloc o3) a b
  simp only [World.size_alloc] at this
  exact this
theorem run_str3_1 (w : World) (o1 : Obj) (a b c : Int) : (convert src dst (.slice (some ⟨w.heap.size + 1, 0, none⟩) 3 3)).run P ((w.alloc o1).alloc (.cells #[.int .u8 a, .int .u8 b, .int .u8 c] e)) = .ok (.string ⟨#[ub a, ub b, ub c]⟩) ((w.alloc o1).alloc (.cells #[.int .u8 a, .int .u8 b, .int .u8 c] e)) := by
  have := run_str3 hs he hd (w.alloc o1) a b c
  simp only [World.size_alloc] at this
  exact this
theorem run_str3_2 (w : World) (o1 o2 : Obj) (a b c : Int) : (convert src dst (.slice (some ⟨w.heap.size + 1 + 1, 0, none⟩) 3 3)).run P (((w.alloc o1).alloc o2).alloc (.cells #[.int .u8 a, .int .u8 b, .int .u8 c] e)) = .ok (.string ⟨#[ub a, ub b, ub c]⟩) (((w.alloc o1).alloc o2).alloc (.cells #[.int .u8 a, .int .u8 b, .int .u8 c] e)) := by
  have := run_str3 hs he hd ((w.alloc o1).alloc o2) a b c
  simp only [World.size_alloc] at this
  exact this
theorem run_str3_3 (w : World) (o1 o2 o3 : Obj) (a b c : Int) : (convert src dst (.slice (some ⟨w.heap.size + 1 + 1 + 1, 0, none⟩) 3 3)).run P ((((w.alloc o1).alloc o2).alloc o3).alloc (.cells #[.int .u8 a, .int .u8 b, .int .u8 c] e)) = .ok (.string ⟨#[ub a, ub b, ub c]⟩) ((((w.alloc o1).alloc o2).alloc o3).alloc (.cells #[.int .u8 a, .int .u8 b, .int .u8 c] e)) := by
  have := run_str3 hs he hd (((w.alloc o1).alloc o2).alloc o3) a b c
  simp only [World.size_alloc] at this
  exact this
end
end Go.Proofs.YtacikiambpfipaaDoor
namespace Go.Proofs.YtacikiambpfipaaDoor
set_option linter.unusedVariables false
set_option linter.unusedSimpArgs false
open Go.RowKit

theorem bw_only (w : World) (e : TypeId) (s : ByteArray) : Only [] w (Lib.bytesWorld w e s) := Only.of_below (Lib.bytesWorld_below w e s) (Nat.le_refl _)
theorem bw_below {B : Nat} {a w : World} (h : Below B a w) (hB : B ≤ w.heap.size) (e : TypeId) (s : ByteArray) : Below B a (Lib.bytesWorld w e s) := h.trans ((Lib.bytesWorld_below w e s).mono hB)
theorem bw_own {w : World} {base : Nat} {t : TypeId} {size : Nat} {v : Value} {n : Nat} {xs : List Value} (h : w.ownsRow base t size v n xs) (e : TypeId) (s : ByteArray) : (Lib.bytesWorld w e s).ownsRow base t size v n xs :=
  (bw_only w e s).own h (by simp)
theorem bw_cells (w : World) (e : TypeId) (s : ByteArray) : ∀ j u, (cb s.data.toList)[j]? = some u → (Lib.bytesWorld w e s).cell? ((⟨w.heap.size, 0, none⟩ : Addr).add j) = some u := by
  intro j u hu
  have hj : j < s.size := by
    have := (List.getElem?_eq_some_iff.1 hu).1
    rw [cb_length] at this; simpa using this
  have e1 : (⟨w.heap.size, 0, none⟩ : Addr).add j = ⟨w.heap.size, j, none⟩ := by
    unfold Addr.add; split <;> simp_all
  rw [e1, Lib.bytesWorld_cell w e s j hj, ← hu, cb_at, List.getElem?_eq_getElem (by simpa using hj)]
  simp [List.getD, List.getElem?_eq_getElem (show j < s.data.toList.length by simpa using hj)]
theorem own_some {w : World} {base : Nat} {e : TypeId} {size n cap : Nat} {A : Option Addr} {xs : List Value} (ho : w.ownsRow base e size (.slice A n cap) n xs) (hn : 0 < n) : ∃ h, A = some ⟨h, 0, none⟩ := by
  obtain ⟨h, c, hv, _⟩ := ho.form hn
  injection hv with hv
  exact ⟨h, hv⟩
theorem own_byte {w : World} {base : Nat} {e : TypeId} {h cap j : Nat} {l : List UInt8} (ho : w.ownsRow base e 1 (.slice (some ⟨h, 0, none⟩) l.length cap) l.length (cb l)) (hj : j < l.length) : w.cell? ⟨h, j, none⟩ = some (.int .u8 (l.getD j 0).toNat) := by
  rw [ho.cellAt j (by omega), cb_at, List.getElem?_eq_getElem hj, List.getD_eq_getElem?_getD, List.getElem?_eq_getElem hj]; rfl
/-- string(b) of bytes that a value owns, nil or not. -/
theorem run_str_any {P : Program} {w : World} {src dst e : TypeId} (hs : P.underlying src = some (.slice e)) (he : P.underlying e = some (.int .u8)) (hd : P.underlying dst = some .string) {base cap : Nat} {A : Option Addr} {l : List UInt8}
    (ho : w.ownsRow base e 1 (.slice A l.length cap) l.length (cb l)) : (convert src dst (.slice A l.length cap)).run P w = .ok (.string ⟨l.toArray⟩) w := by
  rcases ho.2 with ⟨h1, h2⟩ | ⟨g', cap', cur, hv, _⟩
  · injection h1 with h1 h3 h4
    subst h1
    have hl : l = [] := List.eq_nil_of_length_eq_zero h2
    subst hl
    subst h4
    rw [run_convert_bytes_string w src dst e none _ 0 hs he hd]
    rfl
  · injection hv with hv
    subst hv
    exact run_str_own hs he hd ho
end Go.Proofs.YtacikiambpfipaaDoor
