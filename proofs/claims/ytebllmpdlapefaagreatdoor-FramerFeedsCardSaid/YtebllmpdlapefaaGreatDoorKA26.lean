/- plain.Size, Next, Put, and the document's. -/
/- squeeze.Match, appendLiteral, appendCopy, and the document's. -/
/- squeeze.appendLiteral, appendCopy, and the document's literal and copied. -/
/- The document's Pack tells 'pack'. -/
import Derived.Test.YtebllmpdlapefaaGreatDoorKA23
import Derived.Test.YtebllmpdlapefaaGreatDoorKA24
import Derived.Test.YtebllmpdlapefaaGreatDoorKA25
import Derived.Test.YtebllmpdlapefaaGreatDoorKA1
import Derived.Test.YtebllmpdlapefaaGreatDoorKA11
import Derived.Test.YtebllmpdlapefaaGreatDoorKA12
import Derived.Deep.QuietTactic
import Derived.BigQuiet
namespace Go.Proofs.YtebllmpdlapefaaGreatDoor
set_option linter.unusedVariables false
set_option linter.unusedSimpArgs false
open Go.RowKit

theorem ret3_size {x : Nat × Nat × Int} {a b : Nat} {c : Int} (h : x = (a, b, c)) : Ending.returned (.tuple #[.int .i64 a, .int .i64 b, .int .i64 c]) = .returned (.tuple #[.int .i64 x.1, .int .i64 x.2.1, .int .i64 x.2.2]) := by rw [h]
set_option maxRecDepth 100000 in
set_option maxHeartbeats 1000000 in
theorem plainSize_c (most : Int) (s : ByteArray) (w : World) (hs : s.size ≤ 9223372036854775807) (hm1 : -9223372036854775808 ≤ most) (hm2 : most ≤ 9223372036854775807) :
    Calls Tryz.prog 113 #[.int .i64 most, .string s] w fun e w' => e = .returned (.tuple #[.int .i64 (plSize most s).1, .int .i64 (plSize most s).2.1, .int .i64 (plSize most s).2.2]) ∧ w = w' := by
  -- both sizes: the same tests
  have hok := lebNext_ok s
  have HC := Lib.hid (fun w => lebNext_c s w hs)
  have HZ := Lib.hid (show plSize most s = (if (lebNext s).2.2 = 0 then (if most < (lebNext s).1 then (0, 0, 5) else ((lebNext s).1, (lebNext s).2.1, 0)) else (0, 0, (lebNext s).2.2)) from rfl)
  generalize lebNext s = x at *
  obtain ⟨n, k, er⟩ := x
  dsimp only at *
  rcases beq0 er with ⟨h0, h1, h2⟩ | ⟨h0, h1, h2⟩
  · subst h0
    have hk := hok rfl
    clear hok
    by_cases hm : most < n
    · have HX := Lib.hid (by have := HZ.out; rw [if_pos rfl, if_pos hm] at this; exact this)
      rcases Int.lt_or_le most 0 with hm0 | hm0
      · go_enter Tryz.func113, Tryz.ntmps113
        go_wp2_with fail
        refine (HC.out _).mono ?_
        rintro e w' ⟨rfl, rfl⟩
        go_wp2
        go_ret3
        exact ⟨ret3_size HX.out, rfl⟩
      · have e1 : IntKind.u64.wrap most = most := IntWalk.u64_in _ (by omega)
        go_enter Tryz.func113, Tryz.ntmps113
        go_wp2_with fail
        refine (HC.out _).mono ?_
        rintro e w' ⟨rfl, rfl⟩
        go_wp2
        go_ret3
        exact ⟨ret3_size HX.out, rfl⟩
    · have HX := Lib.hid (by have := HZ.out; rw [if_pos rfl, if_neg hm] at this; exact this)
      have e1 : IntKind.u64.wrap most = most := IntWalk.u64_in _ (by omega)
      have d1 : decide (most < (n : Int)) = false := decide_eq_false hm
      go_enter Tryz.func113, Tryz.ntmps113
      go_wp2_with fail
      refine (HC.out _).mono ?_
      rintro e w' ⟨rfl, rfl⟩
      go_wp2
      go_ret3
      exact ⟨ret3_size HX.out, rfl⟩
  · have HX := Lib.hid (by have := HZ.out; rw [if_neg h0] at this; exact this)
    clear hok h0
    go_enter Tryz.func113, Tryz.ntmps113
    go_wp2_with fail
    refine (HC.out _).mono ?_
    rintro e w' ⟨rfl, rfl⟩
    go_wp2
    go_ret3
    exact ⟨ret3_size HX.out, rfl⟩
set_option maxRecDepth 100000 in
set_option maxHeartbeats 1000000 in
theorem refPlainSize_c (most : Int) (s : ByteArray) (w : World) (hs : s.size ≤ 9223372036854775807) (hm1 : -9223372036854775808 ≤ most) (hm2 : most ≤ 9223372036854775807) :
    Calls Tryz.prog 50 #[.int .i64 most, .string s] w fun e w' => e = .returned (.tuple #[.int .i64 (plSize most s).1, .int .i64 (plSize most s).2.1, .int .i64 (plSize most s).2.2]) ∧ w = w' := by
  -- both sizes: the same tests
  have hok := lebNext_ok s
  have HC := Lib.hid (fun w => refLebNext_c s w hs)
  have HZ := Lib.hid (show plSize most s = (if (lebNext s).2.2 = 0 then (if most < (lebNext s).1 then (0, 0, 5) else ((lebNext s).1, (lebNext s).2.1, 0)) else (0, 0, (lebNext s).2.2)) from rfl)
  generalize lebNext s = x at *
  obtain ⟨n, k, er⟩ := x
  dsimp only at *
  rcases beq0 er with ⟨h0, h1, h2⟩ | ⟨h0, h1, h2⟩
  · subst h0
    have hk := hok rfl
    clear hok
    by_cases hm : most < n
    · have HX := Lib.hid (by have := HZ.out; rw [if_pos rfl, if_pos hm] at this; exact this)
      rcases Int.lt_or_le most 0 with hm0 | hm0
      · go_enter Tryz.func50, Tryz.ntmps50
        go_wp2_with fail
        refine (HC.out _).mono ?_
        rintro e w' ⟨rfl, rfl⟩
        go_wp2
        go_ret3
        exact ⟨ret3_size HX.out, rfl⟩
      · have e1 : IntKind.u64.wrap most = most := IntWalk.u64_in _ (by omega)
        go_enter Tryz.func50, Tryz.ntmps50
        go_wp2_with fail
        refine (HC.out _).mono ?_
        rintro e w' ⟨rfl, rfl⟩
        go_wp2
        go_ret3
        exact ⟨ret3_size HX.out, rfl⟩
    · have HX := Lib.hid (by have := HZ.out; rw [if_pos rfl, if_neg hm] at this; exact this)
      have e1 : IntKind.u64.wrap most = most := IntWalk.u64_in _ (by omega)
      have d1 : decide (most < (n : Int)) = false := decide_eq_false hm
      go_enter Tryz.func50, Tryz.ntmps50
      go_wp2_with fail
      refine (HC.out _).mono ?_
      rintro e w' ⟨rfl, rfl⟩
      go_wp2
      go_ret3
      exact ⟨ret3_size HX.out, rfl⟩
  · have HX := Lib.hid (by have := HZ.out; rw [if_neg h0] at this; exact this)
    clear hok h0
    go_enter Tryz.func50, Tryz.ntmps50
    go_wp2_with fail
    refine (HC.out _).mono ?_
    rintro e w' ⟨rfl, rfl⟩
    go_wp2
    go_ret3
    exact ⟨ret3_size HX.out, rfl⟩

theorem empB : ByteArray.empty = ⟨#[]⟩ := rfl
/-- A frame as a value. -/
def frm (id : Nat) (name body : ByteArray) : Value := .agg #[.int .u64 id, .string name, .string body]
def NextEnd (x : Int × Nat × ByteArray × Nat) (w : World) (e : Ending) (w' : World) : Prop :=
  e = .returned (.tuple #[.agg #[.int .u64 x.2.1, .string ByteArray.empty, .string x.2.2.1], .int .i64 x.2.2.2, .int .i64 x.1]) ∧ Below w.heap.size w w'
theorem nextEnd {x : Int × Nat × ByteArray × Nat} {w w' : World} {a : Int} {b : Nat} {c : ByteArray} {d : Nat} {di : Int} (h : x = (a, b, c, d)) (hd : di = d) (hb : Below w.heap.size w w') :
    NextEnd x w (.returned (.tuple #[.agg #[.int .u64 b, .string ByteArray.empty, .string c], .int .i64 di, .int .i64 a])) w' := by
  subst h; subst hd; exact ⟨rfl, hb⟩

set_option maxRecDepth 100000 in
set_option maxHeartbeats 2000000 in
theorem refPlainNext_c (most : Int) (s : ByteArray) (w : World) (hs : s.size ≤ 9223372036854775807) (hm1 : -9223372036854775808 ≤ most) (hm2 : most ≤ 9223372036854775807) :
    Calls Tryz.prog 53 #[.int .i64 most, .string s] w (NextEnd (plNext most s) w) := by
  have hok := plSize_ok most s
  have HC := Lib.hid (fun w => refPlainSize_c most s w hs hm1 hm2)
  have HX := Lib.hid (plNext_eq most s)
  generalize plNext most s = X at *
  generalize plSize most s = z at *
  obtain ⟨n, k, er⟩ := z
  dsimp only at *
  rcases beq0 er with ⟨h0, h1, h2⟩ | ⟨h0, h1, h2⟩
  · subst h0
    obtain ⟨hn, hk, hk0, hk10⟩ := hok rfl
    clear hok
    by_cases hsh : s.size < k + n
    · have HE := Lib.hid (by have := HX.out; rw [if_neg (by simp), if_pos hsh] at this; exact this)
      clear HX
      go_enter Tryz.func53, Tryz.ntmps53
      go_wp2_with fail
      refine (HC.out _).mono ?_
      rintro e w' ⟨rfl, rfl⟩
      go_wp2
      refine bodyPost_ret (v := .tuple #[.agg #[.int .u64 0, .string ByteArray.empty, .string ByteArray.empty], .int .i64 0, .int .i64 2]) (by simp [results, Tryz.results53, go_sem, empB]) rfl ?_
      exact nextEnd HE.out rfl (by repeat (first | exact Below.refl _ _ | assumption | with_reducible refine Below.drewN' ?_ _ | with_reducible refine Below.drew ?_ | ((with_reducible refine Below.alloc' ?_ ?_ _); · (first | omega | (simp <;> omega)))))
    · have HL := Lib.hid (fun w => refLebNext_c (s.extract k (k + n)) w (by rw [size_cut _ _ _ (by omega)]; omega))
      have hlk := lebNext_ok (s.extract k (k + n))
      rw [size_cut _ _ _ (by omega : k + n ≤ s.size), Nat.add_sub_cancel_left] at hlk
      have hiz : (s.extract k (k + n)).size = n := by rw [size_cut _ _ _ (by omega)]; omega
      generalize hIN : s.extract k (k + n) = inn at *
      have HIN := Lib.hid hIN
      generalize lebNext inn = y at *
      obtain ⟨id, sz, f⟩ := y
      dsimp only at *
      rcases beq0 f with ⟨g0, g1, g2⟩ | ⟨g0, g1, g2⟩
      · subst g0
        obtain ⟨l1, l2, l3, l4⟩ := hlk rfl
        have HE := Lib.hid (by have := HX.out; rw [if_neg (by simp), if_neg hsh, if_neg (by simp)] at this; exact this)
        clear HX hlk
        go_enter Tryz.func53, Tryz.ntmps53
        go_wp2_with fail
        refine (HC.out _).mono ?_
        rintro e w' ⟨rfl, rfl⟩
        go_wp2_with fail
        refine (HL.out _).mono ?_
        rintro e w' ⟨rfl, rfl⟩
        go_wp2
        refine bodyPost_ret (v := .tuple #[.agg #[.int .u64 id, .string ByteArray.empty, .string (inn.extract sz n)], .int .i64 ((k : Int) + n), .int .i64 0]) (by simp [results, Tryz.results53, go_sem, empB]) rfl ?_
        exact nextEnd HE.out (by omega) (by repeat (first | exact Below.refl _ _ | assumption | with_reducible refine Below.drewN' ?_ _ | with_reducible refine Below.drew ?_ | ((with_reducible refine Below.alloc' ?_ ?_ _); · (first | omega | (simp <;> omega)))))
      · have HE := Lib.hid (by have := HX.out; rw [if_neg (by simp), if_neg hsh, if_pos g0] at this; exact this)
        clear HX hlk g0
        go_enter Tryz.func53, Tryz.ntmps53
        go_wp2_with fail
        refine (HC.out _).mono ?_
        rintro e w' ⟨rfl, rfl⟩
        go_wp2_with fail
        refine (HL.out _).mono ?_
        rintro e w' ⟨rfl, rfl⟩
        go_wp2
        refine bodyPost_ret (v := .tuple #[.agg #[.int .u64 0, .string ByteArray.empty, .string ByteArray.empty], .int .i64 0, .int .i64 3]) (by simp [results, Tryz.results53, go_sem, empB]) rfl ?_
        exact nextEnd HE.out rfl (by repeat (first | exact Below.refl _ _ | assumption | with_reducible refine Below.drewN' ?_ _ | with_reducible refine Below.drew ?_ | ((with_reducible refine Below.alloc' ?_ ?_ _); · (first | omega | (simp <;> omega)))))
  · have HE := Lib.hid (by have := HX.out; rw [if_pos h0] at this; exact this)
    clear HX hok h0
    go_enter Tryz.func53, Tryz.ntmps53
    go_wp2_with fail
    refine (HC.out _).mono ?_
    rintro e w' ⟨rfl, rfl⟩
    go_wp2
    refine bodyPost_ret (v := .tuple #[.agg #[.int .u64 0, .string ByteArray.empty, .string ByteArray.empty], .int .i64 0, .int .i64 er]) (by simp [results, Tryz.results53, go_sem, empB]) rfl ?_
    exact nextEnd HE.out rfl (by repeat (first | exact Below.refl _ _ | assumption | with_reducible refine Below.drewN' ?_ _ | with_reducible refine Below.drew ?_ | ((with_reducible refine Below.alloc' ?_ ?_ _); · (first | omega | (simp <;> omega)))))
set_option maxRecDepth 100000 in
set_option maxHeartbeats 2000000 in
theorem plainNext_c (most : Int) (s : ByteArray) (w : World) (hs : s.size ≤ 9223372036854775807) (hm1 : -9223372036854775808 ≤ most) (hm2 : most ≤ 9223372036854775807) :
    Calls Tryz.prog 72 #[.int .i64 most, .string s] w (NextEnd (plNext most s) w) := by
  have hok := plSize_ok most s
  have HC := Lib.hid (fun w => plainSize_c most s w hs hm1 hm2)
  have HX := Lib.hid (plNext_eq most s)
  generalize plNext most s = X at *
  generalize plSize most s = z at *
  obtain ⟨n, k, er⟩ := z
  dsimp only at *
  rcases beq0 er with ⟨h0, h1, h2⟩ | ⟨h0, h1, h2⟩
  · subst h0
    obtain ⟨hn, hk, hk0, hk10⟩ := hok rfl
    clear hok
    by_cases hsh : s.size < k + n
    · have HE := Lib.hid (by have := HX.out; rw [if_neg (by simp), if_pos hsh] at this; exact this)
      clear HX
      go_enter Tryz.func72, Tryz.ntmps72
      -- the reader, the first take
      go_wp2_with fail
      refine (HC.out _).mono ?_
      rintro e w' ⟨rfl, rfl⟩
      go_wp2_with fail
      refine (read_c s _).mono ?_
      rintro e w1 ⟨rfl, hw1⟩
      have hR1 : Rdr w1 (w.heap.size + 1) s 0 0 := by rw [hw1]; have := Blk.new (w.alloc (.cells #[.int .u64 0, .string ⟨#[]⟩, .string ⟨#[]⟩] 27)) 160 #[.string s, .int .i64 0, .int .i64 0]; rw [World.size_alloc] at this; exact this
      have hF1 : Blk w1 w.heap.size 27 #[.int .u64 0, .string ⟨#[]⟩, .string ⟨#[]⟩] := by rw [hw1]; exact (Blk.new w _ _).alloc _
      have hB1 : Below w.heap.size w w1 := by rw [hw1]; exact (by repeat (first | exact Below.refl _ _ | assumption | with_reducible refine Below.drewN' ?_ _ | with_reducible refine Below.drew ?_ | ((with_reducible refine Below.alloc' ?_ ?_ _); · (first | omega | (simp <;> omega)))))
      have hz1 : w1.heap.size = w.heap.size + 2 := by rw [hw1]; simp
      rw [World.size_alloc]
      clear hw1
      go_wp2_with fail
      refine (take_yes (w.heap.size + 1) s 0 k _ hR1 hs (by omega)).mono ?_
      rintro e w2 ⟨rfl, hR2, ho2⟩
      rw [Nat.zero_add] at hR2
      have hF2 := hF1.only ho2 (by simp)
      have hz2 := ho2.size
      have hB2 := hB1.trans (ho2.below (B := w.heap.size) (by omega) (by simp))
      clear hR1 hF1 hB1
      go_wp2_with fail
      refine (take_short (w.heap.size + 1) s k n _ hR2 hk hs hsh (by omega)).mono ?_
      rintro e w3 ⟨rfl, hR3, ho3⟩
      have hF3 := hF2.only ho3 (by simp)
      have hz3 := ho3.size
      have hB3 := Lib.hid (hB2.trans (ho3.below (B := w.heap.size) (by omega) (by simp)))
      have c0 := hF3.cell 0
      have c1 := hF3.cell 1
      have c2 := hF3.cell 2
      have f0 := hF3.frozen 0
      have f1 := hF3.frozen 1
      have f2 := hF3.frozen 2
      simp at c0 c1 c2
      clear hF2 hB2 hR2
      go_wp2_with fail
      refine (fault_c (w.heap.size + 1) s _ _ _ hR3).mono ?_
      rintro e w' ⟨rfl, rfl⟩
      go_wp2
      refine bodyPost_ret (v := .tuple #[.agg #[.int .u64 0, .string ByteArray.empty, .string ByteArray.empty], .int .i64 0, .int .i64 2]) (by simp [results, Tryz.results72, go_sem, empB, c0, c1, c2]) rfl ?_
      exact nextEnd HE.out rfl (((hB3.out.setCell (by simp) _).setCell (by simp) _).setCell (by simp) _)
    · have HL := Lib.hid (fun w => lebNext_c (s.extract k (k + n)) w (by rw [size_cut _ _ _ (by omega)]; omega))
      have hlk := lebNext_ok (s.extract k (k + n))
      rw [size_cut _ _ _ (by omega : k + n ≤ s.size), Nat.add_sub_cancel_left] at hlk
      have hiz : (s.extract k (k + n)).size = n := by rw [size_cut _ _ _ (by omega)]; omega
      generalize hIN : s.extract k (k + n) = inn at *
      have HIN := Lib.hid hIN
      generalize lebNext inn = y at *
      obtain ⟨id, sz, f⟩ := y
      dsimp only at *
      clear hIN
      rcases beq0 f with ⟨g0, g1, g2⟩ | ⟨g0, g1, g2⟩
      · subst g0
        obtain ⟨l1, l2, l3, l4⟩ := hlk rfl
        have HE := Lib.hid (by have := HX.out; rw [if_neg (by simp), if_neg hsh, if_neg (by simp)] at this; exact this)
        clear HX hlk
        go_enter Tryz.func72, Tryz.ntmps72
        -- the reader, the first take
        go_wp2_with fail
        refine (HC.out _).mono ?_
        rintro e w' ⟨rfl, rfl⟩
        go_wp2_with fail
        refine (read_c s _).mono ?_
        rintro e w1 ⟨rfl, hw1⟩
        have hR1 : Rdr w1 (w.heap.size + 1) s 0 0 := by rw [hw1]; have := Blk.new (w.alloc (.cells #[.int .u64 0, .string ⟨#[]⟩, .string ⟨#[]⟩] 27)) 160 #[.string s, .int .i64 0, .int .i64 0]; rw [World.size_alloc] at this; exact this
        have hF1 : Blk w1 w.heap.size 27 #[.int .u64 0, .string ⟨#[]⟩, .string ⟨#[]⟩] := by rw [hw1]; exact (Blk.new w _ _).alloc _
        have hB1 : Below w.heap.size w w1 := by rw [hw1]; exact (by repeat (first | exact Below.refl _ _ | assumption | with_reducible refine Below.drewN' ?_ _ | with_reducible refine Below.drew ?_ | ((with_reducible refine Below.alloc' ?_ ?_ _); · (first | omega | (simp <;> omega)))))
        have hz1 : w1.heap.size = w.heap.size + 2 := by rw [hw1]; simp
        rw [World.size_alloc]
        clear hw1
        go_wp2_with fail
        refine (take_yes (w.heap.size + 1) s 0 k _ hR1 hs (by omega)).mono ?_
        rintro e w2 ⟨rfl, hR2, ho2⟩
        rw [Nat.zero_add] at hR2
        have hF2 := hF1.only ho2 (by simp)
        have hz2 := ho2.size
        have hB2 := hB1.trans (ho2.below (B := w.heap.size) (by omega) (by simp))
        clear hR1 hF1 hB1
        go_wp2_with fail
        refine (take_yes (w.heap.size + 1) s k n _ hR2 hs (by omega)).mono ?_
        rintro e w3 ⟨rfl, hR3, ho3⟩
        rw [HIN.out]
        have hF3 := hF2.only ho3 (by simp)
        have hz3 := ho3.size
        have hB3 := Lib.hid (hB2.trans (ho3.below (B := w.heap.size) (by omega) (by simp)))
        have c0 := hF3.cell 0
        have c1 := hF3.cell 1
        have c2 := hF3.cell 2
        have f0 := hF3.frozen 0
        have f1 := hF3.frozen 1
        have f2 := hF3.frozen 2
        simp at c0 c1 c2
        clear hF2 hB2 hR2
        go_wp2_with fail
        refine (fault_c (w.heap.size + 1) s _ _ _ hR3).mono ?_
        rintro e w' ⟨rfl, rfl⟩
        go_wp2_with fail
        refine (HL.out _).mono ?_
        rintro e w' ⟨rfl, rfl⟩
        go_wp2
        refine bodyPost_ret (v := .tuple #[.agg #[.int .u64 id, .string ByteArray.empty, .string (inn.extract sz n)], .int .i64 ((k : Int) + n), .int .i64 0]) (by simp [results, Tryz.results72, go_sem, empB, c0, c1, c2]) rfl ?_
        exact nextEnd HE.out (by omega) (((hB3.out.setCell (by simp) _).setCell (by simp) _).setCell (by simp) _)
      · have HE := Lib.hid (by have := HX.out; rw [if_neg (by simp), if_neg hsh, if_pos g0] at this; exact this)
        clear HX hlk g0
        go_enter Tryz.func72, Tryz.ntmps72
        -- the reader, the first take
        go_wp2_with fail
        refine (HC.out _).mono ?_
        rintro e w' ⟨rfl, rfl⟩
        go_wp2_with fail
        refine (read_c s _).mono ?_
        rintro e w1 ⟨rfl, hw1⟩
        have hR1 : Rdr w1 (w.heap.size + 1) s 0 0 := by rw [hw1]; have := Blk.new (w.alloc (.cells #[.int .u64 0, .string ⟨#[]⟩, .string ⟨#[]⟩] 27)) 160 #[.string s, .int .i64 0, .int .i64 0]; rw [World.size_alloc] at this; exact this
        have hF1 : Blk w1 w.heap.size 27 #[.int .u64 0, .string ⟨#[]⟩, .string ⟨#[]⟩] := by rw [hw1]; exact (Blk.new w _ _).alloc _
        have hB1 : Below w.heap.size w w1 := by rw [hw1]; exact (by repeat (first | exact Below.refl _ _ | assumption | with_reducible refine Below.drewN' ?_ _ | with_reducible refine Below.drew ?_ | ((with_reducible refine Below.alloc' ?_ ?_ _); · (first | omega | (simp <;> omega)))))
        have hz1 : w1.heap.size = w.heap.size + 2 := by rw [hw1]; simp
        rw [World.size_alloc]
        clear hw1
        go_wp2_with fail
        refine (take_yes (w.heap.size + 1) s 0 k _ hR1 hs (by omega)).mono ?_
        rintro e w2 ⟨rfl, hR2, ho2⟩
        rw [Nat.zero_add] at hR2
        have hF2 := hF1.only ho2 (by simp)
        have hz2 := ho2.size
        have hB2 := hB1.trans (ho2.below (B := w.heap.size) (by omega) (by simp))
        clear hR1 hF1 hB1
        go_wp2_with fail
        refine (take_yes (w.heap.size + 1) s k n _ hR2 hs (by omega)).mono ?_
        rintro e w3 ⟨rfl, hR3, ho3⟩
        rw [HIN.out]
        have hF3 := hF2.only ho3 (by simp)
        have hz3 := ho3.size
        have hB3 := Lib.hid (hB2.trans (ho3.below (B := w.heap.size) (by omega) (by simp)))
        have c0 := hF3.cell 0
        have c1 := hF3.cell 1
        have c2 := hF3.cell 2
        have f0 := hF3.frozen 0
        have f1 := hF3.frozen 1
        have f2 := hF3.frozen 2
        simp at c0 c1 c2
        clear hF2 hB2 hR2
        go_wp2_with fail
        refine (fault_c (w.heap.size + 1) s _ _ _ hR3).mono ?_
        rintro e w' ⟨rfl, rfl⟩
        go_wp2_with fail
        refine (HL.out _).mono ?_
        rintro e w' ⟨rfl, rfl⟩
        go_wp2
        refine bodyPost_ret (v := .tuple #[.agg #[.int .u64 0, .string ByteArray.empty, .string ByteArray.empty], .int .i64 0, .int .i64 3]) (by simp [results, Tryz.results72, go_sem, empB, c0, c1, c2]) rfl ?_
        exact nextEnd HE.out rfl (((hB3.out.setCell (by simp) _).setCell (by simp) _).setCell (by simp) _)
  · have HE := Lib.hid (by have := HX.out; rw [if_pos h0] at this; exact this)
    clear HX hok h0
    go_enter Tryz.func72, Tryz.ntmps72
    go_wp2_with fail
    refine (HC.out _).mono ?_
    rintro e w' ⟨rfl, rfl⟩
    go_wp2
    refine bodyPost_ret (v := .tuple #[.agg #[.int .u64 0, .string ByteArray.empty, .string ByteArray.empty], .int .i64 0, .int .i64 er]) (by simp [results, Tryz.results72, go_sem, empB]) rfl ?_
    exact nextEnd HE.out rfl (by repeat (first | exact Below.refl _ _ | assumption | with_reducible refine Below.drewN' ?_ _ | with_reducible refine Below.drew ?_ | ((with_reducible refine Below.alloc' ?_ ?_ _); · (first | omega | (simp <;> omega)))))
end Go.Proofs.YtebllmpdlapefaaGreatDoor
namespace Go.Proofs.YtebllmpdlapefaaGreatDoor
set_option linter.unusedVariables false
set_option linter.unusedSimpArgs false
open Go.RowKit

theorem mt_yes {L : List UInt8} {j i n : Nat} {X : Nat} (hX : n + mt L (j + n) (i + n) (64 - n) = X) (hn : n < 64) (hlt : i + n < L.length) (he : L[j + n]? = L[i + n]?) : (n + 1) + mt L (j + (n + 1)) (i + (n + 1)) (64 - (n + 1)) = X := by
  rw [← hX, show 64 - n = (64 - (n + 1)) + 1 from by omega, mt, if_pos ⟨hlt, he⟩]
  rw [show j + (n + 1) = j + n + 1 from by omega, show i + (n + 1) = i + n + 1 from by omega]
  omega
theorem mt_no {L : List UInt8} {j i n : Nat} {X : Nat} (hX : n + mt L (j + n) (i + n) (64 - n) = X) (hn : n ≤ 64) (h : ¬ n < 64 ∨ ¬ i + n < L.length ∨ L[j + n]? ≠ L[i + n]?) : X = n := by
  rw [← hX]
  by_cases h64 : n < 64
  · rw [show 64 - n = (64 - (n + 1)) + 1 from by omega, mt, if_neg (by
      rintro ⟨h1, h2⟩
      rcases h with h | h | h
      · exact h h64
      · exact h h1
      · exact h h2)]; rfl
  · rw [show 64 - n = 0 from by omega]; rfl
theorem byte_eq {s : ByteArray} {a b : Nat} (ha : a < s.size) (hb : b < s.size) : (s[a].toNat == s[b].toNat) = true ↔ s.data.toList[a]? = s.data.toList[b]? := by
  rw [byte_at s a ha, byte_at s b hb]
  simp [UInt8.toNat_inj]

theorem drewN2 (w : World) (a b : Nat) : (w.drewN a).drewN b = w.drewN (a + b) := by simp [World.drewN, Nat.add_assoc]
theorem ret_num {k : IntKind} {a b : Nat} (h : a = b) : Ending.returned (.int k b) = .returned (.int k a) := by rw [h]
set_option maxRecDepth 100000 in
set_option maxHeartbeats 1000000 in
theorem match_c (s : ByteArray) (j i : Nat) (w : World) (hj : j < i) (hi : i ≤ s.size) (hs : s.size ≤ 9223372036854775000) :
    Calls Tryz.prog 139 #[.string s, .int .i64 j, .int .i64 i] w fun e w' => e = .returned (.int .i64 (mt s.data.toList j i 64)) ∧ ∃ m, w' = w.drewN m := by
  go_enter Tryz.func139, Tryz.ntmps139
  go_wp2
  go_loopw [7] (fun v wr => ∃ n : Nat, n ≤ 64 ∧ n ≤ 64 ∧ v = .int .i64 n ∧ Hid (n + mt s.data.toList (j + n) (i + n) (64 - n) = mt s.data.toList j i 64) ∧ ∃ m, wr = w.drewN m) (fun v _ => 64 - (intOf v).toNat)
  case atStart => exact ⟨0, by omega, by omega, rfl, Lib.hid (by simp), 0, rfl⟩
  case round =>
    obtain ⟨n, hn, _, rfl, hX, m, rfl⟩ := hrel
    by_cases hn64 : n < 64
    · have d0 : decide ((n : Int) < 64) = true := decide_eq_true (by omega)
      have e1 : IntKind.i64.wrap ((i : Int) + n) = (i : Int) + n := IntWalk.i64_in _ (by omega)
      have e2 : IntKind.i64.wrap ((j : Int) + n) = (j : Int) + n := IntWalk.i64_in _ (by omega)
      by_cases hlt : i + n < s.size
      · have d1 : decide ((i : Int) + n < s.size) = true := decide_eq_true (by omega)
        have e3 : ((j : Int) + n).toNat = j + n := by omega
        have e4 : ((i : Int) + n).toNat = i + n := by omega
        have e5 : 0 ≤ (j : Int) + n := by omega
        have e6 : 0 ≤ (i : Int) + n := by omega
        have e7 : (j : Int) + n < s.size := by omega
        have e8 : (i : Int) + n < s.size := by omega
        have e9 : j + n < s.size := by omega
        rcases Bool.eq_false_or_eq_true (s[j + n].toNat == s[i + n].toNat) with hb | hb
        · have HB := Lib.hid ((byte_eq e9 hlt).1 hb)
          have hb' : ((s[j + n].toNat : Int) == s[i + n].toNat) = true := by
            have := eq_of_beq hb
            rw [this]; simp
          clear hb
          go_wp2
          go_quiet (fail)
          go_wp2
          go_roundw
          case rel => exact ⟨n + 1, by omega, by omega, by go_num, Lib.hid (mt_yes hX.out hn64 (by simpa using hlt) HB.out), _, rfl⟩
          case measure => simp [intOf]; omega
        · have HB : Hid (¬ (s.data.toList[j + n]? = s.data.toList[i + n]?)) := Lib.hid (by
            intro h
            rw [(byte_eq e9 hlt).2 h] at hb
            exact absurd hb (by decide))
          have hb' : ((s[j + n].toNat : Int) == s[i + n].toNat) = false := by
            have := ne_of_beq_false hb
            exact beq_eq_false_iff_ne.2 (by omega)
          clear hb
          go_wp2
          go_quiet (fail)
          go_wp2
          go_ret
          exact ⟨ret_num (mt_no hX.out hn (.inr (.inr HB.out))), _, drewN2 _ _ _⟩
      · have d1 : decide ((i : Int) + n < s.size) = false := decide_eq_false (by omega)
        go_wp2
        go_quiet (fail)
        go_wp2
        go_ret
        exact ⟨ret_num (mt_no hX.out hn (.inr (.inl (by simpa using hlt)))), _, drewN2 _ _ _⟩
    · have d0 : decide ((n : Int) < 64) = false := decide_eq_false (by omega)
      go_wp2
      go_quiet (fail)
      go_wp2
      go_ret
      exact ⟨ret_num (mt_no hX.out hn (.inl hn64)), _, drewN2 _ _ _⟩
set_option maxRecDepth 100000 in
set_option maxHeartbeats 1000000 in
theorem refMatch_c (s : ByteArray) (j i : Nat) (w : World) (hj : j < i) (hi : i ≤ s.size) (hs : s.size ≤ 9223372036854775000) :
    Calls Tryz.prog 123 #[.string s, .int .i64 j, .int .i64 i] w fun e w' => e = .returned (.int .i64 (mt s.data.toList j i 64)) ∧ ∃ m, w' = w.drewN m := by
  go_enter Tryz.func123, Tryz.ntmps123
  go_wp2
  go_loopw [7] (fun v wr => ∃ n : Nat, n ≤ 64 ∧ n ≤ 64 ∧ v = .int .i64 n ∧ Hid (n + mt s.data.toList (j + n) (i + n) (64 - n) = mt s.data.toList j i 64) ∧ ∃ m, wr = w.drewN m) (fun v _ => 64 - (intOf v).toNat)
  case atStart => exact ⟨0, by omega, by omega, rfl, Lib.hid (by simp), 0, rfl⟩
  case round =>
    obtain ⟨n, hn, _, rfl, hX, m, rfl⟩ := hrel
    have e1 : IntKind.i64.wrap ((i : Int) + n) = (i : Int) + n := IntWalk.i64_in _ (by omega)
    have e2 : IntKind.i64.wrap ((j : Int) + n) = (j : Int) + n := IntWalk.i64_in _ (by omega)
    by_cases hn64 : n < 64
    · have d0 : decide ((n : Int) < 64) = true := decide_eq_true (by omega)
      by_cases hlt : i + n < s.size
      · have d1 : decide ((i : Int) + n < s.size) = true := decide_eq_true (by omega)
        have d2 : decide ((j : Int) + n < s.size) = true := decide_eq_true (by omega)
        have e3 : ((j : Int) + n).toNat = j + n := by omega
        have e4 : ((i : Int) + n).toNat = i + n := by omega
        have e5 : 0 ≤ (j : Int) + n := by omega
        have e6 : 0 ≤ (i : Int) + n := by omega
        have e7 : (j : Int) + n < s.size := by omega
        have e8 : (i : Int) + n < s.size := by omega
        have e9 : j + n < s.size := by omega
        rcases Bool.eq_false_or_eq_true (s[j + n].toNat == s[i + n].toNat) with hb | hb
        · have HB := Lib.hid ((byte_eq e9 hlt).1 hb)
          have hb' : ((s[j + n].toNat : Int) == s[i + n].toNat) = true := by
            have := eq_of_beq hb
            rw [this]; simp
          clear hb
          go_wp2
          go_quiet (fail)
          go_wp2
          go_roundw
          case rel => exact ⟨n + 1, by omega, by omega, by go_num, Lib.hid (mt_yes hX.out hn64 (by simpa using hlt) HB.out), _, rfl⟩
          case measure => simp [intOf]; omega
        · have HB : Hid (¬ (s.data.toList[j + n]? = s.data.toList[i + n]?)) := Lib.hid (by
            intro h
            rw [(byte_eq e9 hlt).2 h] at hb
            exact absurd hb (by decide))
          have hb' : ((s[j + n].toNat : Int) == s[i + n].toNat) = false := by
            have := ne_of_beq_false hb
            exact beq_eq_false_iff_ne.2 (by omega)
          clear hb
          go_wp2
          go_quiet (fail)
          go_wp2
          go_ret
          exact ⟨ret_num (mt_no hX.out hn (.inr (.inr HB.out))), _, drewN2 _ _ _⟩
      · have d1 : decide ((i : Int) + n < s.size) = false := decide_eq_false (by omega)
        by_cases hl2 : j + n < s.size
        · have d2 : decide ((j : Int) + n < s.size) = true := decide_eq_true (by omega)
          go_wp2
          go_quiet (fail)
          go_wp2
          go_ret
          exact ⟨ret_num (mt_no hX.out hn (.inr (.inl (by simpa using hlt)))), _, drewN2 _ _ _⟩
        · have d2 : decide ((j : Int) + n < s.size) = false := decide_eq_false (by omega)
          go_wp2
          go_quiet (fail)
          go_wp2
          go_ret
          exact ⟨ret_num (mt_no hX.out hn (.inr (.inl (by simpa using hlt)))), _, drewN2 _ _ _⟩
    · have d0 : decide ((n : Int) < 64) = false := decide_eq_false (by omega)
      go_wp2
      go_quiet (fail)
      go_wp2
      go_ret
      exact ⟨ret_num (mt_no hX.out hn (.inl hn64)), _, drewN2 _ _ _⟩
end Go.Proofs.YtebllmpdlapefaaGreatDoor
namespace Go.Proofs.YtebllmpdlapefaaGreatDoor
set_option linter.unusedVariables false
set_option linter.unusedSimpArgs false
open Go.RowKit

def ApEnd (base : Nat) (w : World) (l : List UInt8) (e : Ending) (w' : World) : Prop :=
  ∃ (A : Option Addr) (n cap : Nat), e = .returned (.slice A n cap) ∧ Buf w' base 5 (.slice A n cap) l ∧ Kept 5 base w w'

theorem litE_0 {l : List UInt8} (h : l.length = 0) : litE l = [] := by unfold litE; rw [if_pos h]
theorem litE_1 {l : List UInt8} (h : l.length ≠ 0) (h2 : l.length ≤ 60) : litE l = [ub (4 * (l.length - 1) : Nat)] ++ l := by unfold litE; rw [if_neg h, if_pos h2]; rfl
theorem litE_2 {l : List UInt8} (h : ¬ l.length ≤ 60) (h2 : l.length ≤ 256) : litE l = [ub (240 : Nat), ub (l.length - 1 : Nat)] ++ l := by unfold litE; rw [if_neg (by omega), if_neg h, if_pos h2]; rfl
theorem litE_3 {l : List UInt8} (h : ¬ l.length ≤ 256) (h2 : l.length ≤ 65536) : litE l = [ub (244 : Nat)] ++ (leD (l.length - 1) 2 ++ l) := by
  unfold litE; rw [if_neg (by omega), if_neg (by omega), if_neg h]
  simp only [leD]
  simp
  refine ⟨rfl, ?_⟩
  rw [Int.emod_eq_of_lt (by omega) (by omega)]

set_option maxRecDepth 100000 in
set_option maxHeartbeats 1000000 in
theorem apLit_c (base : Nat) (v : Value) (l : List UInt8) (s : ByteArray) (w : World) (h : Buf w base 5 v l) (hb : base ≤ w.heap.size) (hl : l.length ≤ 1000000) (hs : s.size ≤ 65536) :
    Calls Tryz.prog 138 #[v, .string s] w (ApEnd base w (l ++ litE s.data.toList)) := by
  obtain ⟨i0, hi, hz0, hz1, hz2⟩ := info_parts info_byte
  obtain ⟨A, cap, rfl, hlc, hcm⟩ := h.form
  generalize hn : l.length = n at *
  have hsl := toList_size s
  by_cases h0 : s.size = 0
  · have e0 : ((s.size : Int) == 0) = true := by simp [h0]
    have HL := Lib.hid (litE_0 (l := s.data.toList) (by omega))
    clear h0 hsl
    go_enter Tryz.func138, Tryz.ntmps138
    go_wp2
    go_ret
    exact ⟨A, n, cap, rfl, by rw [HL.out, List.append_nil]; exact h, Kept.refl _ _ _⟩
  · have e0 : ((s.size : Int) == 0) = false := beq_eq_false_iff_ne.2 (by omega)
    have hpos : 1 ≤ s.size := by omega
    by_cases h1 : s.size ≤ 60
    · have HL := Lib.hid (litE_1 (l := s.data.toList) (by omega) (by omega))
      have HN := Lib.hid (show s.data.toList.length - 1 = s.size - 1 by rw [hsl])
      clear h0 hsl
      go_enter Tryz.func138, Tryz.ntmps138
      go_wp2_with (first | (at_builtin; refine wpList_append_buf (by rfl) (.tmp 29) (.tmp 34) 104 104 (by rfl) base 5 i0 Tryz.underlying104 hi hz0 hz1 hz2 (by rfl) (h.alloc _) _ [ub (4 * (s.size - 1) : Nat)] (by rfl) (src_new Tryz.underlying104 w 5 _ [ub (4 * (s.size - 1) : Nat)] 1 (cb_ub1 (by omega) (by omega))) (by rw [World.size_alloc]; omega) (by simp only [List.length_cons, List.length_nil]; omega) ?_; intro A1 n1 c1 w1 hb1 hk1) | (at_builtin; refine wpList_append_buf (by rfl) (.tmp 45) (.tmp 46) 104 9 (by rfl) base 5 i0 Tryz.underlying104 hi hz0 hz1 hz2 (by rfl) hb1 _ s.data.toList (by rfl) (src_str Tryz.underlying9 _ s) (Nat.le_trans (by rw [World.size_alloc]; omega) hk1.size) (by simp only [List.length_append, List.length_cons, List.length_nil, toList_size]; omega) ?_; intro A2 n2 c2 w2 hb2 hk2))
      go_ret
      refine ⟨A2, n2, c2, rfl, ?_, ((Kept.refl _ _ _).alloc hb _).trans (hk1.trans hk2)⟩
      rw [HL.out, HN.out, ← List.append_assoc]; exact hb2
    · by_cases h2 : s.size ≤ 256
      · have HL := Lib.hid (litE_2 (l := s.data.toList) (by omega) (by omega))
        have HN := Lib.hid (show s.data.toList.length - 1 = s.size - 1 by rw [hsl])
        clear h0 hsl
        go_enter Tryz.func138, Tryz.ntmps138
        go_wp2_with (first | (at_builtin; refine wpList_append_buf (by rfl) (.tmp 39) (.tmp 43) 104 104 (by rfl) base 5 i0 Tryz.underlying104 hi hz0 hz1 hz2 (by rfl) (h.alloc _) _ [ub (240 : Nat), ub (s.size - 1 : Nat)] (by rfl) (src_new Tryz.underlying104 w 5 _ [ub (240 : Nat), ub (s.size - 1 : Nat)] 2 (cb_ub2 (by omega) (by omega) (by omega) (by omega))) (by rw [World.size_alloc]; omega) (by simp only [List.length_cons, List.length_nil]; omega) ?_; intro A1 n1 c1 w1 hb1 hk1) | (at_builtin; refine wpList_append_buf (by rfl) (.tmp 45) (.tmp 46) 104 9 (by rfl) base 5 i0 Tryz.underlying104 hi hz0 hz1 hz2 (by rfl) hb1 _ s.data.toList (by rfl) (src_str Tryz.underlying9 _ s) (Nat.le_trans (by rw [World.size_alloc]; omega) hk1.size) (by simp only [List.length_append, List.length_cons, List.length_nil, toList_size]; omega) ?_; intro A2 n2 c2 w2 hb2 hk2))
        go_ret
        refine ⟨A2, n2, c2, rfl, ?_, ((Kept.refl _ _ _).alloc hb _).trans (hk1.trans hk2)⟩
        rw [HL.out, HN.out, ← List.append_assoc]; exact hb2
      · have HL := Lib.hid (litE_3 (l := s.data.toList) (by omega) (by omega))
        have HN := Lib.hid (show s.data.toList.length - 1 = s.size - 1 by rw [hsl])
        have HC := Lib.hid (little_c (s.size - 1) 2 w (by omega) (by omega) (by omega))
        rw [show ((s.size - 1 : Nat) : Int) = (s.size : Int) - 1 from by omega] at HC
        have hTl : (⟨(leD (s.size - 1) 2).toArray⟩ : ByteArray).data.toList = leD (s.size - 1) 2 := rfl
        generalize (⟨(leD (s.size - 1) 2).toArray⟩ : ByteArray) = T at *
        have hT2 : T.data.toList.length = 2 := by rw [hTl, leD_length]
        have HT := Lib.hid hTl
        clear h0 hsl hTl
        go_enter Tryz.func138, Tryz.ntmps138
        go_wp2_with fail
        refine HC.out.mono ?_
        rintro e w0 ⟨rfl, hw0⟩
        have hz := hw0.size
        have h' := h.below hw0
        have hk0 : Kept 5 base w w0 := Kept.of_below hw0 (Nat.le_refl _) hb
        go_wp2_with (first | (at_builtin; refine wpList_append_buf (by rfl) (.tmp 17) (.tmp 18) 104 104 (by rfl) base 5 i0 Tryz.underlying104 hi hz0 hz1 hz2 (by rfl) (h'.alloc _) _ [ub (244 : Nat)] (by rfl) (src_new Tryz.underlying104 w0 5 _ [ub (244 : Nat)] 1 (cb_ub1 (by omega) (by omega))) (by rw [World.size_alloc]; omega) (by simp only [List.length_cons, List.length_nil]; omega) ?_; intro A1 n1 c1 w1 hb1 hk1) | (at_builtin; refine wpList_append_buf (by rfl) (.tmp 19) (.tmp 20) 104 9 (by rfl) base 5 i0 Tryz.underlying104 hi hz0 hz1 hz2 (by rfl) hb1 _ T.data.toList (by rfl) (src_str Tryz.underlying9 _ T) (Nat.le_trans (by rw [World.size_alloc]; omega) hk1.size) (by simp only [List.length_append, List.length_cons, List.length_nil]; omega) ?_; intro A2 n2 c2 w2 hb2 hk2) | (at_builtin; refine wpList_append_buf (by rfl) (.tmp 45) (.tmp 46) 104 9 (by rfl) base 5 i0 Tryz.underlying104 hi hz0 hz1 hz2 (by rfl) hb2 _ s.data.toList (by rfl) (src_str Tryz.underlying9 _ s) (Nat.le_trans (by rw [World.size_alloc]; omega) (hk1.trans hk2).size) (by simp only [List.length_append, List.length_cons, List.length_nil, toList_size]; rw [← toList_size T]; omega) ?_; intro A3 n3 c3 w3 hb3 hk3))
        go_ret
        refine ⟨A3, n3, c3, rfl, ?_, hk0.trans (((Kept.refl _ _ _).alloc (by omega) _).trans (hk1.trans (hk2.trans hk3)))⟩
        rw [HT.out] at hb3
        rw [HL.out, HN.out, ← List.append_assoc, ← List.append_assoc]; exact hb3
theorem cpyE_1 {n d : Nat} (h : n ≤ 11) (h2 : d < 2048) : cpyE n d = [ub (1 + 4 * (n - 4) + 32 * (d / 256) : Nat), ub (d % 256 : Nat)] := by unfold cpyE; rw [if_pos ⟨h, h2⟩]
theorem cpyE_2 {n d : Nat} (h : ¬ (n ≤ 11 ∧ d < 2048)) (hd : d < 65536) : cpyE n d = [ub (2 + 4 * (n - 1) : Nat)] ++ leD d 2 := by
  unfold cpyE; rw [if_neg h]
  simp only [leD]
  simp
  rw [Int.emod_eq_of_lt (by omega) (by omega)]
set_option maxRecDepth 100000 in
set_option maxHeartbeats 1000000 in
theorem apCpy_c (base : Nat) (v : Value) (l : List UInt8) (n d : Nat) (w : World) (h : Buf w base 5 v l) (hb : base ≤ w.heap.size) (hl : l.length ≤ 1000000) (h4 : 4 ≤ n) (hn : n ≤ 64) (hd : d < 65536) :
    Calls Tryz.prog 140 #[v, .int .i64 n, .int .i64 d] w (ApEnd base w (l ++ cpyE n d)) := by
  obtain ⟨i0, hi, hz0, hz1, hz2⟩ := info_parts info_byte
  obtain ⟨A, cap, rfl, hlc, hcm⟩ := h.form
  generalize hln : l.length = ln at *
  by_cases h1 : n ≤ 11 ∧ d < 2048
  · obtain ⟨h1, h2⟩ := h1
    have HL := Lib.hid (cpyE_1 h1 h2)
    have d1 : decide ((d : Int) < 2048) = true := decide_eq_true (by omega)
    go_enter Tryz.func140, Tryz.ntmps140
    go_wp2_with (at_builtin; refine wpList_append_buf (by rfl) (.tmp 15) (.tmp 28) 104 104 (by rfl) base 5 i0 Tryz.underlying104 hi hz0 hz1 hz2 (by rfl) (h.alloc _) _ [ub (1 + 4 * (n - 4) + 32 * (d / 256) : Nat), ub (d % 256 : Nat)] (by rfl) (src_new Tryz.underlying104 w 5 _ [ub (1 + 4 * (n - 4) + 32 * (d / 256) : Nat), ub (d % 256 : Nat)] 2 (cb_ub2 (by omega) (by omega) (by omega) (by omega))) (by rw [World.size_alloc]; omega) (by simp only [List.length_cons, List.length_nil]; omega) ?_; intro A1 n1 c1 w1 hb1 hk1)
    go_ret
    exact ⟨A1, n1, c1, rfl, by rw [HL.out]; exact hb1, ((Kept.refl _ _ _).alloc hb _).trans hk1⟩
  · have HL := Lib.hid (cpyE_2 h1 hd)
    have hways : 11 < n ∨ (n ≤ 11 ∧ 2048 ≤ d) := by omega
    have HC := Lib.hid (little_c d 2 w (by omega) (by omega) (by omega))
    have hTl : (⟨(leD d 2).toArray⟩ : ByteArray).data.toList = leD d 2 := rfl
    generalize (⟨(leD d 2).toArray⟩ : ByteArray) = T at *
    have hT2 : T.data.toList.length = 2 := by rw [hTl, leD_length]
    have HT := Lib.hid hTl
    clear h1 hTl
    rcases hways with h1 | ⟨h1, h2⟩
    all_goals
      go_enter Tryz.func140, Tryz.ntmps140
      go_wp2_with fail
      refine HC.out.mono ?_
      rintro e w0 ⟨rfl, hw0⟩
      have hz := hw0.size
      have h' := h.below hw0
      have hk0 : Kept 5 base w w0 := Kept.of_below hw0 (Nat.le_refl _) hb
      go_wp2_with (first | (at_builtin; refine wpList_append_buf (by rfl) (.tmp 36) (.tmp 42) 104 104 (by rfl) base 5 i0 Tryz.underlying104 hi hz0 hz1 hz2 (by rfl) (h'.alloc _) _ [ub (2 + 4 * (n - 1) : Nat)] (by rfl) (src_new Tryz.underlying104 w0 5 _ [ub (2 + 4 * (n - 1) : Nat)] 1 (cb_ub1 (by omega) (by omega))) (by rw [World.size_alloc]; omega) (by simp only [List.length_cons, List.length_nil]; omega) ?_; intro A1 n1 c1 w1 hb1 hk1) | (at_builtin; refine wpList_append_buf (by rfl) (.tmp 43) (.tmp 44) 104 9 (by rfl) base 5 i0 Tryz.underlying104 hi hz0 hz1 hz2 (by rfl) hb1 _ T.data.toList (by rfl) (src_str Tryz.underlying9 _ T) (Nat.le_trans (by rw [World.size_alloc]; omega) hk1.size) (by simp only [List.length_append, List.length_cons, List.length_nil]; omega) ?_; intro A2 n2 c2 w2 hb2 hk2))
      go_ret
      refine ⟨A2, n2, c2, rfl, ?_, hk0.trans (((Kept.refl _ _ _).alloc (by omega) _).trans (hk1.trans hk2))⟩
      rw [HT.out] at hb2
      rw [HL.out, ← List.append_assoc]; exact hb2

/-- The document's two little bytes. -/
theorem refLittle2_c (n : Nat) (w : World) (hn : n < 65536) :
    Calls Tryz.prog 148 #[.int .i64 n] w fun e w' => e = .returned (.string ⟨(leD n 2).toArray⟩) ∧ Below w.heap.size w w' := by
  have HB := Lib.hid (refBig_c n 2 w (by omega) (by omega))
  have hz : (⟨((leD n 2).reverse).toArray⟩ : ByteArray).size ≤ 1000000 := by rw [size_of]; simp [leD_length]
  have HT := Lib.hid (fun w => refTurned_c ⟨((leD n 2).reverse).toArray⟩ w hz)
  simp only [List.reverse_reverse] at HT
  clear hz
  generalize (⟨((leD n 2).reverse).toArray⟩ : ByteArray) = R at *
  go_enter Tryz.func148, Tryz.ntmps148
  go_wp2_with fail
  refine HB.out.mono ?_
  rintro e w1 ⟨rfl, hb⟩
  go_wp2_with fail
  refine (HT.out _).mono ?_
  rintro e w' ⟨rfl, rfl⟩
  go_wp2
  go_ret
  exact ⟨rfl, hb⟩

theorem str_lit (l : List UInt8) (s : ByteArray) : (⟨l.toArray⟩ ++ s : ByteArray) = ⟨(l ++ s.data.toList).toArray⟩ := bytes_ext (by rw [toList_app])
set_option maxRecDepth 100000 in
set_option maxHeartbeats 1000000 in
theorem refLit_c (s : ByteArray) (w : World) (hs : s.size ≤ 65536) :
    Calls Tryz.prog 124 #[.string s] w fun e w' => e = .returned (.string ⟨(litE s.data.toList).toArray⟩) ∧ Below w.heap.size w w' := by
  have hsl := toList_size s
  have k1 := fun (w : World) (a : Int) => run_str1 Tryz.underlying104 Tryz.underlying5 Tryz.underlying9 w a
  have k2 := fun (w : World) (a b : Int) => run_str2 Tryz.underlying104 Tryz.underlying5 Tryz.underlying9 w a b
  by_cases h0 : s.size = 0
  · have e0 : ((s.size : Int) == 0) = true := by simp [h0]
    have HL := Lib.hid (litE_0 (l := s.data.toList) (by omega))
    clear h0 hsl
    go_enter Tryz.func124, Tryz.ntmps124
    go_wp2
    go_ret
    exact ⟨by rw [HL.out]; rfl, Below.refl _ _⟩
  · have e0 : ((s.size : Int) == 0) = false := beq_eq_false_iff_ne.2 (by omega)
    have hpos : 1 ≤ s.size := by omega
    by_cases h1 : s.size ≤ 60
    · have HL := Lib.hid (litE_1 (l := s.data.toList) (by omega) (by omega))
      clear h0
      have hv : 4 * ((s.size : Int) - 1) = ((4 * (s.data.toList.length - 1) : Nat) : Int) := by omega
      have HV := Lib.hid hv
      clear hv hsl
      go_enter Tryz.func124, Tryz.ntmps124
      go_wp2
      go_ret
      exact ⟨ret_str (by rw [HL.out, ← HV.out, ← str_lit]), (by repeat (first | exact Below.refl _ _ | assumption | with_reducible refine Below.drewN' ?_ _ | with_reducible refine Below.drew ?_ | ((with_reducible refine Below.alloc' ?_ ?_ _); · (first | omega | (simp <;> omega)))))⟩
    · by_cases h2 : s.size ≤ 256
      · have HL := Lib.hid (litE_2 (l := s.data.toList) (by omega) (by omega))
        clear h0
        have hv : (s.size : Int) - 1 = ((s.data.toList.length - 1 : Nat) : Int) := by omega
        have HV := Lib.hid hv
        clear hv hsl
        go_enter Tryz.func124, Tryz.ntmps124
        go_wp2
        go_ret
        exact ⟨ret_str (by rw [HL.out, ← HV.out, ← str_lit]; rfl), (by repeat (first | exact Below.refl _ _ | assumption | with_reducible refine Below.drewN' ?_ _ | with_reducible refine Below.drew ?_ | ((with_reducible refine Below.alloc' ?_ ?_ _); · (first | omega | (simp <;> omega)))))⟩
      · have HL := Lib.hid (litE_3 (l := s.data.toList) (by omega) (by omega))
        have HC := Lib.hid (refLittle2_c (s.size - 1) w (by omega))
        rw [show ((s.size - 1 : Nat) : Int) = (s.size : Int) - 1 from by omega] at HC
        have HT := Lib.hid (show (⟨#[244]⟩ ++ ⟨(leD (s.size - 1) 2).toArray⟩ ++ s : ByteArray) = ⟨([ub (244 : Nat)] ++ (leD (s.data.toList.length - 1) 2 ++ s.data.toList)).toArray⟩ by
          apply bytes_ext; rw [toList_app, toList_app, hsl]; simp; rfl)
        have hT2 : (⟨(leD (s.size - 1) 2).toArray⟩ : ByteArray).size = 2 := by rw [size_of, leD_length]
        have hT3 : (⟨(leD (s.size - 1) 2).toArray⟩ : ByteArray).size ≤ 2 := by omega
        clear hT2
        generalize (⟨(leD (s.size - 1) 2).toArray⟩ : ByteArray) = T at *
        clear h0 hsl
        go_enter Tryz.func124, Tryz.ntmps124
        go_wp2_with fail
        refine HC.out.mono ?_
        rintro e w1 ⟨rfl, hb⟩
        go_wp2
        go_ret
        exact ⟨ret_str (by rw [HL.out]; exact HT.out.symm), hb⟩
set_option maxRecDepth 100000 in
set_option maxHeartbeats 1000000 in
theorem refCpy_c (n d : Nat) (w : World) (h4 : 4 ≤ n) (hn : n ≤ 64) (hd : d < 65536) :
    Calls Tryz.prog 125 #[.int .i64 n, .int .i64 d] w fun e w' => e = .returned (.string ⟨(cpyE n d).toArray⟩) ∧ Below w.heap.size w w' := by
  have k2 := fun (w : World) (a b : Int) => run_str2 Tryz.underlying104 Tryz.underlying5 Tryz.underlying9 w a b
  by_cases h1 : n ≤ 11 ∧ d < 2048
  · obtain ⟨h1, h2⟩ := h1
    have HL := Lib.hid (cpyE_1 h1 h2)
    have d1 : decide ((d : Int) < 2048) = true := decide_eq_true (by omega)
    have HV2 := Lib.hid (show (d : Int) % 256 = ((d % 256 : Nat) : Int) by omega)
    have HV := Lib.hid (show 1 + 4 * ((n : Int) - 4) + 32 * ((d : Int) / 256) = ((1 + 4 * (n - 4) + 32 * (d / 256) : Nat) : Int) by omega)
    go_enter Tryz.func125, Tryz.ntmps125
    go_wp2
    go_ret
    exact ⟨ret_str (by rw [HL.out, ← HV.out, ← HV2.out]), (by repeat (first | exact Below.refl _ _ | assumption | with_reducible refine Below.drewN' ?_ _ | with_reducible refine Below.drew ?_ | ((with_reducible refine Below.alloc' ?_ ?_ _); · (first | omega | (simp <;> omega)))))⟩
  · have HL := Lib.hid (cpyE_2 h1 hd)
    have hways : 11 < n ∨ (n ≤ 11 ∧ 2048 ≤ d) := by omega
    have HC := Lib.hid (fun w => refLittle2_c d w hd)
    have e1 : IntKind.i64.wrap ((n : Int) - 1) = (n : Int) - 1 := IntWalk.i64_in _ (by omega)
    have e2 : IntKind.i64.wrap (4 * ((n : Int) - 1)) = 4 * ((n : Int) - 1) := IntWalk.i64_in _ (by omega)
    have e3 : IntKind.i64.wrap (2 + 4 * ((n : Int) - 1)) = 2 + 4 * ((n : Int) - 1) := IntWalk.i64_in _ (by omega)
    have e4 : IntKind.u8.wrap (2 + 4 * ((n : Int) - 1)) = (2 + 4 * ((n : Int) - 1)) % 256 := by simp [IntKind.wrap, IntKind.signed, IntKind.bits]
    have HV := Lib.hid (show (2 + 4 * ((n : Int) - 1)) % 256 = ((2 + 4 * (n - 1) : Nat) : Int) by omega)
    have HT := Lib.hid (show (⟨#[ub ((2 + 4 * (n - 1) : Nat) : Int)]⟩ ++ ⟨(leD d 2).toArray⟩ : ByteArray) = ⟨([ub (2 + 4 * (n - 1) : Nat)] ++ leD d 2).toArray⟩ by
      apply bytes_ext; rw [toList_app])
    have hT3 : (⟨(leD d 2).toArray⟩ : ByteArray).size ≤ 2 := by (rw [size_of, leD_length]; exact Nat.le_refl _)
    generalize (⟨(leD d 2).toArray⟩ : ByteArray) = T at *
    clear h1
    rcases hways with h1 | ⟨h1, h2⟩
    all_goals
      go_enter Tryz.func125, Tryz.ntmps125
      go_wp2_with fail
      have kd := str1_laterD (w := w) (a := (2 + 4 * ((n : Int) - 1)) % 256) (Below.refl _ _)
      have k1 := fun (w : World) (a : Int) => run_str1 Tryz.underlying104 Tryz.underlying5 Tryz.underlying9 w a
      go_region_with (go_at_call 148; refine (HC.out _).mono ?_; rintro e w' ⟨rfl, hb⟩; try have kx := str1_laterD hb)
      all_goals
        go_wp2
        go_ret
        refine ⟨ret_str (by rw [HL.out, HV.out]; exact HT.out.symm), ?_⟩
        first
        | exact ((Below.refl w.heap.size w).alloc (Nat.le_refl _) _).drew.trans (hb.mono (by simp))
        | exact ((Below.refl w.heap.size w).drew.trans hb).alloc hb.size _
end Go.Proofs.YtebllmpdlapefaaGreatDoor
namespace Go.Proofs.YtebllmpdlapefaaGreatDoor
set_option linter.unusedVariables false
set_option linter.unusedSimpArgs false
open Go.RowKit

theorem refMatch_b (s : ByteArray) (j i : Nat) (w : World) (hj : j < i) (hi : i ≤ s.size) (hs : s.size ≤ 65536) :
    Calls Tryz.prog 123 #[.string s, .int .i64 j, .int .i64 i] w fun e w' => e = .returned (.int .i64 (mt s.data.toList j i 64)) ∧ Below w.heap.size w w' :=
  (refMatch_c s j i w hj hi (by omega)).mono fun e w' ⟨he, m, hw⟩ => ⟨he, by rw [hw]; exact (Below.refl _ _).drewN' m⟩
theorem match_b (s : ByteArray) (j i : Nat) (w : World) (hj : j < i) (hi : i ≤ s.size) (hs : s.size ≤ 65536) :
    Calls Tryz.prog 139 #[.string s, .int .i64 j, .int .i64 i] w fun e w' => e = .returned (.int .i64 (mt s.data.toList j i 64)) ∧ Below w.heap.size w w' :=
  (match_c s j i w hj hi (by omega)).mono fun e w' ⟨he, m, hw⟩ => ⟨he, by rw [hw]; exact (Below.refl _ _).drewN' m⟩

def RPInv (s : ByteArray) (w : World) (i p f : Nat) (out pend : ByteArray) (wr : World) : Prop :=
  p ≤ i ∧ i ≤ s.size ∧ pend.data.toList = (s.data.toList.take i).drop p ∧ out.data.toList ++ pk s.data.toList f p i = pack s.data.toList ∧ s.size - i < f ∧ Below w.heap.size w wr
theorem RPInv.bd {s : ByteArray} {w : World} {i p f : Nat} {out pend : ByteArray} {wr : World} (h : RPInv s w i p f out pend wr) (hs : s.size ≤ 65536) : out.size ≤ 100000 ∧ pend.size = i - p ∧ i ≤ s.size ∧ p ≤ i ∧ s.size - i < f := by
  obtain ⟨h1, h2, h3, h4, h5, _⟩ := h
  have hp := pack_length s.data.toList (by simpa using hs)
  have := congrArg List.length h4
  have h6 := congrArg List.length h3
  simp only [List.length_append, toList_size, List.length_drop, List.length_take] at this h6 hp
  refine ⟨by omega, by omega, h2, h1, h5⟩
theorem RPInv.none {s : ByteArray} {w : World} {i p f : Nat} {out pend : ByteArray} {wr : World} (h : RPInv s w i p f out pend wr) (hi : i < s.size) (hf : fnd s.data.toList i i = none) (x : ByteArray) (hx : x.data.toList = [s[i]]) (wr' : World) (hw : Below w.heap.size w wr') : RPInv s w (i + 1) p (f - 1) out (pend ++ x) wr' := by
  obtain ⟨h1, h2, h3, h4, h5, h6⟩ := h
  obtain ⟨g, rfl⟩ : ∃ g, f = g + 1 := ⟨f - 1, by omega⟩
  unfold pk at h4
  rw [if_pos (by simpa using hi), hf] at h4
  refine ⟨by omega, by omega, ?_, h4, by omega, hw⟩
  rw [toList_app, h3, hx, take_snoc s i hi, List.drop_append_of_le_length (by rw [length_take s i h2]; exact h1)]
theorem RPInv.some {s : ByteArray} {w : World} {i p f j : Nat} {out pend a b : ByteArray} {wr : World} (h : RPInv s w i p f out pend wr) (hi : i < s.size) (hf : fnd s.data.toList i i = some j) (ha : a.data.toList = litE pend.data.toList) (hb : b.data.toList = cpyE (mt s.data.toList j i 64) (i - j)) (wr' : World) (hw : Below w.heap.size w wr') (e : ByteArray) (he : e.data.toList = []) :
    RPInv s w (i + mt s.data.toList j i 64) (i + mt s.data.toList j i 64) (f - 1) (out ++ a ++ b) e wr' := by
  obtain ⟨h1, h2, h3, h4, h5, h6⟩ := h
  obtain ⟨g, rfl⟩ : ∃ g, f = g + 1 := ⟨f - 1, by omega⟩
  unfold pk at h4
  rw [if_pos (by simpa using hi), hf] at h4
  simp only at h4
  have hm := (mt_le s.data.toList 64 j i).2 (by simpa using h2)
  have h44 := (fnd_some _ _ _ _ hf).2
  rw [toList_size] at hm
  refine ⟨Nat.le_refl _, hm, ?_, ?_, by simp; omega, hw⟩
  · rw [he, List.drop_eq_nil_of_le]; rw [List.length_take]; omega
  · rw [← h4, toList_app, toList_app, ha, hb, h3]; simp
theorem RPInv.end_ {s : ByteArray} {w : World} {i p f : Nat} {out pend a : ByteArray} {wr : World} (h : RPInv s w i p f out pend wr) (hi : ¬ i < s.size) (ha : a.data.toList = litE pend.data.toList) : (⟨(pack s.data.toList).toArray⟩ : ByteArray) = out ++ a := by
  obtain ⟨h1, h2, h3, h4, h5, h6⟩ := h
  obtain ⟨g, rfl⟩ : ∃ g, f = g + 1 := ⟨f - 1, by omega⟩
  unfold pk at h4
  rw [if_neg (by simpa using hi)] at h4
  apply bytes_ext
  rw [toList_app, ha, h3, ← h4, List.take_of_length_le (by simp; omega)]
theorem fnd_next {L : List UInt8} {i j : Nat} {X : Option Nat} (h : fnd L i (j + 1) = X) (hm : mt L j i 64 < 4) : fnd L i j = X := by
  rw [← h, fnd, if_neg (by omega)]
theorem fnd_hit {L : List UInt8} {i j : Nat} {X : Option Nat} (h : fnd L i (j + 1) = X) (hm : ¬ mt L j i 64 < 4) : X = some j := by
  rw [← h, fnd, if_pos (by omega)]

def RPAt (s : ByteArray) (w : World) (v3 v4 v5 : Value) (wr : World) : Prop :=
  ∃ (i p f : Nat) (out pend : ByteArray), v3 = .string out ∧ v4 = .string pend ∧ v5 = .int .i64 i ∧ RPInv s w i p f out pend wr
def RPIn (L : List UInt8) (i : Nat) (wo : World) (v6 : Value) (wr : World) : Prop :=
  ∃ jn : Nat, v6 = .int .i64 ((jn : Int) - 1) ∧ jn ≤ i ∧ fnd L i jn = fnd L i i ∧ Below wo.heap.size wo wr

set_option maxRecDepth 100000 in
set_option maxHeartbeats 2000000 in
theorem refPack_c (s : ByteArray) (w : World) (hs : s.size ≤ 65536) :
    Calls Tryz.prog 82 #[.string s] w fun e w' => e = .returned (.string ⟨(pack s.data.toList).toArray⟩) ∧ Below w.heap.size w w' := by
  have H1 := Lib.hid (refLebPut_c 9 s.size w (by omega) (by omega))
  have hstart : ∀ w1, Below w.heap.size w w1 → RPInv s w 0 0 (s.size + 1) ⟨(lebL s.size).toArray⟩ ⟨#[]⟩ w1 := fun w1 hb => ⟨by omega, by omega, by simp, by simp [pack, toList_size], by omega, hb⟩
  have HS := Lib.hid hstart
  clear hstart
  go_enter Tryz.func82, Tryz.ntmps82
  go_wp2_with fail
  refine H1.out.mono ?_
  rintro e w1 ⟨rfl, hb1⟩
  go_wp2
  go_loopw [3, 4, 5] (fun v3 v4 v5 wr => RPAt s w v3 v4 v5 wr) (fun _ _ v5 _ => s.size - (intOf v5).toNat)
  case atStart => exact ⟨0, 0, _, _, _, rfl, rfl, rfl, HS.out w1 hb1⟩
  case round =>
    obtain ⟨i, p, f, out, pend, rfl, rfl, rfl, hinv⟩ := hrel
    obtain ⟨ho, hpz, hi, hpi, hf⟩ := hinv.bd hs
    have HI := Lib.hid hinv
    have hbb := hinv.2.2.2.2.2
    have hbz := hbb.size
    clear hinv
    have HP := Lib.hid hpz
    have hpz' : pend.size ≤ 65536 := by omega
    clear hpz
    by_cases hlt : i < s.size
    · obtain ⟨wo, hwo⟩ : ∃ wo : World, wo = wr := ⟨_, rfl⟩
      subst hwo
      go_wp2
      go_loopw [6] (fun v6 wr => RPIn s.data.toList i wo v6 wr) (fun v6 _ => (intOf v6 + 1).toNat)
      case atStart => exact ⟨i, rfl, Nat.le_refl _, rfl, Below.refl _ _⟩
      case round =>
        obtain ⟨jn, rfl, hjn, hfn, hbo⟩ := hrel
        have HF := Lib.hid hfn
        clear hfn
        rcases Nat.eq_zero_or_pos jn with h0 | h0
        · subst h0
          go_wp2
          go_roundw
          case rel => exact ⟨i + 1, p, f - 1, _, _, rfl, rfl, by go_num, HI.out.none hlt HF.out.symm _ (cut_one s i hlt) _ (hbb.trans (hbo.mono hbz))⟩
          case measure => simp [intOf]; omega
        · obtain ⟨j, rfl⟩ : ∃ j, jn = j + 1 := ⟨jn - 1, by omega⟩
          have ej : (((j + 1 : Nat) : Int) - 1) = (j : Int) := by omega
          rw [ej]
          have hboz := hbo.size
          have HM := Lib.hid (fun w => refMatch_b s j i w (by omega) (by omega) hs)
          by_cases hm : mt s.data.toList j i 64 < 4
          · have HM' := Lib.hid hm
            go_wp2_with (go_at_call 123; refine (HM.out _).mono ?_; rintro e w2 ⟨rfl, hb2⟩)
            go_roundw
            case rel => exact ⟨j, rfl, by omega, fnd_next HF.out HM'.out, hbo.trans (hb2.mono hboz)⟩
            case measure => simp [intOf]
          · have HX := Lib.hid (fnd_hit HF.out hm)
            have hmm := mt_le s.data.toList 64 j i
            have hmi := hmm.2 (by simpa using hi)
            rw [toList_size] at hmi
            have hm64 := hmm.1
            have HL := Lib.hid (fun w => refLit_c pend w hpz')
            have hll := litE_length pend.data.toList (by simpa using hpz')
            have hlz : (⟨(litE pend.data.toList).toArray⟩ : ByteArray).size ≤ 70000 := by
              rw [size_of]; rw [toList_size] at hll
              have : (if pend.size = 0 then 0 else if pend.size ≤ 60 then 1 else if pend.size ≤ 256 then 2 else 3) ≤ 3 := by split <;> (try split) <;> (try split) <;> omega
              omega
            have HLL := Lib.hid (show (⟨(litE pend.data.toList).toArray⟩ : ByteArray).data.toList = litE pend.data.toList from rfl)
            generalize (⟨(litE pend.data.toList).toArray⟩ : ByteArray) = LT at *
            generalize hmt : mt s.data.toList j i 64 = n at *
            have HC := Lib.hid (fun w => refCpy_c n (i - j) w (by omega) (by omega) (by omega))
            rw [show ((i - j : Nat) : Int) = (i : Int) - j from by omega] at HC
            have hcz : (⟨(cpyE n (i - j)).toArray⟩ : ByteArray).size ≤ 3 := by rw [size_of]; exact (cpyE_length _ _).2
            have HCC := Lib.hid (show (⟨(cpyE n (i - j)).toArray⟩ : ByteArray).data.toList = cpyE n (i - j) from rfl)
            generalize (⟨(cpyE n (i - j)).toArray⟩ : ByteArray) = CT at *
            have HMT := Lib.hid hmt
            have hm4 : 4 ≤ n := by omega
            clear hmm hll hmt hm
            go_wp2_with fail
            refine (HM.out _).mono ?_
            rintro e w2 ⟨rfl, hb2⟩
            have hb2z := hb2.size
            go_wp2_with fail
            refine (HM.out _).mono ?_
            rintro e w3 ⟨rfl, hb3⟩
            have hb3z := hb3.size
            go_wp2_with fail
            refine (HL.out _).mono ?_
            rintro e w4 ⟨rfl, hb4⟩
            have hb4z := hb4.size
            go_wp2_with fail
            refine (HC.out _).mono ?_
            rintro e w5 ⟨rfl, hb5⟩
            have hW : Below w.heap.size w w5 := (hbb.trans (hbo.mono hbz)).trans ((hb2.mono (by omega)).trans ((hb3.mono (by omega)).trans ((hb4.mono (by omega)).trans (hb5.mono (by omega)))))
            have HR := Lib.hid (HI.out.some hlt HX.out HLL.out (by rw [HMT.out]; exact HCC.out) w5 hW ⟨#[]⟩ rfl)
            rw [HMT.out] at HR
            go_wp2
            go_roundw
            case rel => exact ⟨i + n, i + n, f - 1, _, _, rfl, rfl, by go_num, HR.out⟩
            case measure => simp [intOf]; omega
    · have HL := Lib.hid (fun w => refLit_c pend w hpz')
      have hll := litE_length pend.data.toList (by simpa using hpz')
      have hlz : (⟨(litE pend.data.toList).toArray⟩ : ByteArray).size ≤ 70000 := by
        rw [size_of]; rw [toList_size] at hll
        have : (if pend.size = 0 then 0 else if pend.size ≤ 60 then 1 else if pend.size ≤ 256 then 2 else 3) ≤ 3 := by split <;> (try split) <;> (try split) <;> omega
        omega
      have HR := Lib.hid (HI.out.end_ hlt (a := ⟨(litE pend.data.toList).toArray⟩) rfl)
      generalize (⟨(litE pend.data.toList).toArray⟩ : ByteArray) = LT at *
      clear hll
      go_wp2_with fail
      refine (HL.out _).mono ?_
      rintro e w2 ⟨rfl, hb2⟩
      go_wp2
      go_ret
      exact ⟨ret_str HR.out, hbb.trans (hb2.mono hbz)⟩
end Go.Proofs.YtebllmpdlapefaaGreatDoor
