/- plain.Size, Next, Put, and the document's. -/
import Derived.Test.YthbechmkjhkipaaLebPut
import Derived.Test.YthbechmkjhkipaaLeb
import Derived.Test.YthbechmkjhkipaaCursor
import Derived.Test.YthbechmkjhkipaaPlainP
namespace Go.Proofs.Ythbechmkjhkipaa
set_option linter.unusedVariables false
set_option linter.unusedSimpArgs false
open Go.RowKit

theorem ret3_size {x : Nat × Nat × Int} {a b : Nat} {c : Int} (h : x = (a, b, c)) : Ending.returned (.tuple #[.int .i64 a, .int .i64 b, .int .i64 c]) = .returned (.tuple #[.int .i64 x.1, .int .i64 x.2.1, .int .i64 x.2.2]) := by rw [h]
set_option maxRecDepth 100000 in
set_option maxHeartbeats 1000000 in
theorem plainSize_c (most : Int) (s : ByteArray) (w : World) (hs : s.size ≤ 9223372036854775807) (hm1 : -9223372036854775808 ≤ most) (hm2 : most ≤ 9223372036854775807) :
    Calls Try.prog 61 #[.int .i64 most, .string s] w fun e w' => e = .returned (.tuple #[.int .i64 (plSize most s).1, .int .i64 (plSize most s).2.1, .int .i64 (plSize most s).2.2]) ∧ w = w' := by
  -- both sizes: the same tests
  have hok := lebNext_ok s
  have HC := Lib.hid (fun w => lebNext_c s w hs)
  have HZ := Lib.hid (show plSize most s = (if (lebNext s).2.2 = 0 then (if most < (lebNext s).1 then (0, 0, 5) else ((lebNext s).1, (lebNext s).2.1, 0)) else (0, 0, (lebNext s).2.2)) from rfl)
  generalize lebNext s = x at *
  obtain ⟨n, k, er⟩ := x
  dsimp only at *
  rcases beq0 er with ⟨h0, h1, h2⟩ | ⟨h0, h1, h2⟩
  · subst h0
    have hk := hok rfl
    clear hok
    by_cases hm : most < n
    · have HX := Lib.hid (by have := HZ.out; rw [if_pos rfl, if_pos hm] at this; exact this)
      rcases Int.lt_or_le most 0 with hm0 | hm0
      · go_enter Try.func61, Try.ntmps61
        go_wp2_with fail
        refine (HC.out _).mono ?_
        rintro e w' ⟨rfl, rfl⟩
        go_wp2
        go_ret3
        exact ⟨ret3_size HX.out, rfl⟩
      · have e1 : IntKind.u64.wrap most = most := IntWalk.u64_in _ (by omega)
        go_enter Try.func61, Try.ntmps61
        go_wp2_with fail
        refine (HC.out _).mono ?_
        rintro e w' ⟨rfl, rfl⟩
        go_wp2
        go_ret3
        exact ⟨ret3_size HX.out, rfl⟩
    · have HX := Lib.hid (by have := HZ.out; rw [if_pos rfl, if_neg hm] at this; exact this)
      have e1 : IntKind.u64.wrap most = most := IntWalk.u64_in _ (by omega)
      have d1 : decide (most < (n : Int)) = false := decide_eq_false hm
      go_enter Try.func61, Try.ntmps61
      go_wp2_with fail
      refine (HC.out _).mono ?_
      rintro e w' ⟨rfl, rfl⟩
      go_wp2
      go_ret3
      exact ⟨ret3_size HX.out, rfl⟩
  · have HX := Lib.hid (by have := HZ.out; rw [if_neg h0] at this; exact this)
    clear hok h0
    go_enter Try.func61, Try.ntmps61
    go_wp2_with fail
    refine (HC.out _).mono ?_
    rintro e w' ⟨rfl, rfl⟩
    go_wp2
    go_ret3
    exact ⟨ret3_size HX.out, rfl⟩
set_option maxRecDepth 100000 in
set_option maxHeartbeats 1000000 in
theorem refPlainSize_c (most : Int) (s : ByteArray) (w : World) (hs : s.size ≤ 9223372036854775807) (hm1 : -9223372036854775808 ≤ most) (hm2 : most ≤ 9223372036854775807) :
    Calls Try.prog 62 #[.int .i64 most, .string s] w fun e w' => e = .returned (.tuple #[.int .i64 (plSize most s).1, .int .i64 (plSize most s).2.1, .int .i64 (plSize most s).2.2]) ∧ w = w' := by
  -- both sizes: the same tests
  have hok := lebNext_ok s
  have HC := Lib.hid (fun w => refLebNext_c s w hs)
  have HZ := Lib.hid (show plSize most s = (if (lebNext s).2.2 = 0 then (if most < (lebNext s).1 then (0, 0, 5) else ((lebNext s).1, (lebNext s).2.1, 0)) else (0, 0, (lebNext s).2.2)) from rfl)
  generalize lebNext s = x at *
  obtain ⟨n, k, er⟩ := x
  dsimp only at *
  rcases beq0 er with ⟨h0, h1, h2⟩ | ⟨h0, h1, h2⟩
  · subst h0
    have hk := hok rfl
    clear hok
    by_cases hm : most < n
    · have HX := Lib.hid (by have := HZ.out; rw [if_pos rfl, if_pos hm] at this; exact this)
      rcases Int.lt_or_le most 0 with hm0 | hm0
      · go_enter Try.func62, Try.ntmps62
        go_wp2_with fail
        refine (HC.out _).mono ?_
        rintro e w' ⟨rfl, rfl⟩
        go_wp2
        go_ret3
        exact ⟨ret3_size HX.out, rfl⟩
      · have e1 : IntKind.u64.wrap most = most := IntWalk.u64_in _ (by omega)
        go_enter Try.func62, Try.ntmps62
        go_wp2_with fail
        refine (HC.out _).mono ?_
        rintro e w' ⟨rfl, rfl⟩
        go_wp2
        go_ret3
        exact ⟨ret3_size HX.out, rfl⟩
    · have HX := Lib.hid (by have := HZ.out; rw [if_pos rfl, if_neg hm] at this; exact this)
      have e1 : IntKind.u64.wrap most = most := IntWalk.u64_in _ (by omega)
      have d1 : decide (most < (n : Int)) = false := decide_eq_false hm
      go_enter Try.func62, Try.ntmps62
      go_wp2_with fail
      refine (HC.out _).mono ?_
      rintro e w' ⟨rfl, rfl⟩
      go_wp2
      go_ret3
      exact ⟨ret3_size HX.out, rfl⟩
  · have HX := Lib.hid (by have := HZ.out; rw [if_neg h0] at this; exact this)
    clear hok h0
    go_enter Try.func62, Try.ntmps62
    go_wp2_with fail
    refine (HC.out _).mono ?_
    rintro e w' ⟨rfl, rfl⟩
    go_wp2
    go_ret3
    exact ⟨ret3_size HX.out, rfl⟩

theorem empB : ByteArray.empty = ⟨#[]⟩ := rfl
/-- A frame as a value. -/
def frm (id : Nat) (name body : ByteArray) : Value := .agg #[.int .u64 id, .string name, .string body]
def NextEnd (x : Int × Nat × ByteArray × Nat) (w : World) (e : Ending) (w' : World) : Prop :=
  e = .returned (.tuple #[.agg #[.int .u64 x.2.1, .string ByteArray.empty, .string x.2.2.1], .int .i64 x.2.2.2, .int .i64 x.1]) ∧ Below w.heap.size w w'
theorem nextEnd {x : Int × Nat × ByteArray × Nat} {w w' : World} {a : Int} {b : Nat} {c : ByteArray} {d : Nat} {di : Int} (h : x = (a, b, c, d)) (hd : di = d) (hb : Below w.heap.size w w') :
    NextEnd x w (.returned (.tuple #[.agg #[.int .u64 b, .string ByteArray.empty, .string c], .int .i64 di, .int .i64 a])) w' := by
  subst h; subst hd; exact ⟨rfl, hb⟩

set_option maxRecDepth 100000 in
set_option maxHeartbeats 2000000 in
theorem refPlainNext_c (most : Int) (s : ByteArray) (w : World) (hs : s.size ≤ 9223372036854775807) (hm1 : -9223372036854775808 ≤ most) (hm2 : most ≤ 9223372036854775807) :
    Calls Try.prog 44 #[.int .i64 most, .string s] w (NextEnd (plNext most s) w) := by
  have hok := plSize_ok most s
  have HC := Lib.hid (fun w => refPlainSize_c most s w hs hm1 hm2)
  have HX := Lib.hid (plNext_eq most s)
  generalize plNext most s = X at *
  generalize plSize most s = z at *
  obtain ⟨n, k, er⟩ := z
  dsimp only at *
  rcases beq0 er with ⟨h0, h1, h2⟩ | ⟨h0, h1, h2⟩
  · subst h0
    obtain ⟨hn, hk, hk0, hk10⟩ := hok rfl
    clear hok
    by_cases hsh : s.size < k + n
    · have HE := Lib.hid (by have := HX.out; rw [if_neg (by simp), if_pos hsh] at this; exact this)
      clear HX
      go_enter Try.func44, Try.ntmps44
      go_wp2_with fail
      refine (HC.out _).mono ?_
      rintro e w' ⟨rfl, rfl⟩
      go_wp2
      refine bodyPost_ret (v := .tuple #[.agg #[.int .u64 0, .string ByteArray.empty, .string ByteArray.empty], .int .i64 0, .int .i64 2]) (by simp [results, Try.results44, go_sem, empB]) rfl ?_
      exact nextEnd HE.out rfl (by repeat (first | exact Below.refl _ _ | assumption | with_reducible refine Below.drewN' ?_ _ | with_reducible refine Below.drew ?_ | ((with_reducible refine Below.alloc' ?_ ?_ _); · (first | omega | (simp <;> omega)))))
    · have HL := Lib.hid (fun w => refLebNext_c (s.extract k (k + n)) w (by rw [size_cut _ _ _ (by omega)]; omega))
      have hlk := lebNext_ok (s.extract k (k + n))
      rw [size_cut _ _ _ (by omega : k + n ≤ s.size), Nat.add_sub_cancel_left] at hlk
      have hiz : (s.extract k (k + n)).size = n := by rw [size_cut _ _ _ (by omega)]; omega
      generalize hIN : s.extract k (k + n) = inn at *
      have HIN := Lib.hid hIN
      generalize lebNext inn = y at *
      obtain ⟨id, sz, f⟩ := y
      dsimp only at *
      rcases beq0 f with ⟨g0, g1, g2⟩ | ⟨g0, g1, g2⟩
      · subst g0
        obtain ⟨l1, l2, l3, l4⟩ := hlk rfl
        have HE := Lib.hid (by have := HX.out; rw [if_neg (by simp), if_neg hsh, if_neg (by simp)] at this; exact this)
        clear HX hlk
        go_enter Try.func44, Try.ntmps44
        go_wp2_with fail
        refine (HC.out _).mono ?_
        rintro e w' ⟨rfl, rfl⟩
        go_wp2_with fail
        refine (HL.out _).mono ?_
        rintro e w' ⟨rfl, rfl⟩
        go_wp2
        refine bodyPost_ret (v := .tuple #[.agg #[.int .u64 id, .string ByteArray.empty, .string (inn.extract sz n)], .int .i64 ((k : Int) + n), .int .i64 0]) (by simp [results, Try.results44, go_sem, empB]) rfl ?_
        exact nextEnd HE.out (by omega) (by repeat (first | exact Below.refl _ _ | assumption | with_reducible refine Below.drewN' ?_ _ | with_reducible refine Below.drew ?_ | ((with_reducible refine Below.alloc' ?_ ?_ _); · (first | omega | (simp <;> omega)))))
      · have HE := Lib.hid (by have := HX.out; rw [if_neg (by simp), if_neg hsh, if_pos g0] at this; exact this)
        clear HX hlk g0
        go_enter Try.func44, Try.ntmps44
        go_wp2_with fail
        refine (HC.out _).mono ?_
        rintro e w' ⟨rfl, rfl⟩
        go_wp2_with fail
        refine (HL.out _).mono ?_
        rintro e w' ⟨rfl, rfl⟩
        go_wp2
        refine bodyPost_ret (v := .tuple #[.agg #[.int .u64 0, .string ByteArray.empty, .string ByteArray.empty], .int .i64 0, .int .i64 3]) (by simp [results, Try.results44, go_sem, empB]) rfl ?_
        exact nextEnd HE.out rfl (by repeat (first | exact Below.refl _ _ | assumption | with_reducible refine Below.drewN' ?_ _ | with_reducible refine Below.drew ?_ | ((with_reducible refine Below.alloc' ?_ ?_ _); · (first | omega | (simp <;> omega)))))
  · have HE := Lib.hid (by have := HX.out; rw [if_pos h0] at this; exact this)
    clear HX hok h0
    go_enter Try.func44, Try.ntmps44
    go_wp2_with fail
    refine (HC.out _).mono ?_
    rintro e w' ⟨rfl, rfl⟩
    go_wp2
    refine bodyPost_ret (v := .tuple #[.agg #[.int .u64 0, .string ByteArray.empty, .string ByteArray.empty], .int .i64 0, .int .i64 er]) (by simp [results, Try.results44, go_sem, empB]) rfl ?_
    exact nextEnd HE.out rfl (by repeat (first | exact Below.refl _ _ | assumption | with_reducible refine Below.drewN' ?_ _ | with_reducible refine Below.drew ?_ | ((with_reducible refine Below.alloc' ?_ ?_ _); · (first | omega | (simp <;> omega)))))
set_option maxRecDepth 100000 in
set_option maxHeartbeats 2000000 in
theorem plainNext_c (most : Int) (s : ByteArray) (w : World) (hs : s.size ≤ 9223372036854775807) (hm1 : -9223372036854775808 ≤ most) (hm2 : most ≤ 9223372036854775807) :
    Calls Try.prog 42 #[.int .i64 most, .string s] w (NextEnd (plNext most s) w) := by
  have hok := plSize_ok most s
  have HC := Lib.hid (fun w => plainSize_c most s w hs hm1 hm2)
  have HX := Lib.hid (plNext_eq most s)
  generalize plNext most s = X at *
  generalize plSize most s = z at *
  obtain ⟨n, k, er⟩ := z
  dsimp only at *
  rcases beq0 er with ⟨h0, h1, h2⟩ | ⟨h0, h1, h2⟩
  · subst h0
    obtain ⟨hn, hk, hk0, hk10⟩ := hok rfl
    clear hok
    by_cases hsh : s.size < k + n
    · have HE := Lib.hid (by have := HX.out; rw [if_neg (by simp), if_pos hsh] at this; exact this)
      clear HX
      go_enter Try.func42, Try.ntmps42
      -- the reader, the first take
      go_wp2_with fail
      refine (HC.out _).mono ?_
      rintro e w' ⟨rfl, rfl⟩
      go_wp2_with fail
      refine (read_c s _).mono ?_
      rintro e w1 ⟨rfl, hw1⟩
      have hR1 : Rdr w1 (w.heap.size + 1) s 0 0 := by rw [hw1]; have := Blk.new (w.alloc (.cells #[.int .u64 0, .string ⟨#[]⟩, .string ⟨#[]⟩] 42)) 77 #[.string s, .int .i64 0, .int .i64 0]; rw [World.size_alloc] at this; exact this
      have hF1 : Blk w1 w.heap.size 42 #[.int .u64 0, .string ⟨#[]⟩, .string ⟨#[]⟩] := by rw [hw1]; exact (Blk.new w _ _).alloc _
      have hB1 : Below w.heap.size w w1 := by rw [hw1]; exact (by repeat (first | exact Below.refl _ _ | assumption | with_reducible refine Below.drewN' ?_ _ | with_reducible refine Below.drew ?_ | ((with_reducible refine Below.alloc' ?_ ?_ _); · (first | omega | (simp <;> omega)))))
      have hz1 : w1.heap.size = w.heap.size + 2 := by rw [hw1]; simp
      rw [World.size_alloc]
      clear hw1
      go_wp2_with fail
      refine (take_yes (w.heap.size + 1) s 0 k _ hR1 hs (by omega)).mono ?_
      rintro e w2 ⟨rfl, hR2, ho2⟩
      rw [Nat.zero_add] at hR2
      have hF2 := hF1.only ho2 (by simp)
      have hz2 := ho2.size
      have hB2 := hB1.trans (ho2.below (B := w.heap.size) (by omega) (by simp))
      clear hR1 hF1 hB1
      go_wp2_with fail
      refine (take_short (w.heap.size + 1) s k n _ hR2 hk hs hsh (by omega)).mono ?_
      rintro e w3 ⟨rfl, hR3, ho3⟩
      have hF3 := hF2.only ho3 (by simp)
      have hz3 := ho3.size
      have hB3 := Lib.hid (hB2.trans (ho3.below (B := w.heap.size) (by omega) (by simp)))
      have c0 := hF3.cell 0
      have c1 := hF3.cell 1
      have c2 := hF3.cell 2
      have f0 := hF3.frozen 0
      have f1 := hF3.frozen 1
      have f2 := hF3.frozen 2
      simp at c0 c1 c2
      clear hF2 hB2 hR2
      go_wp2_with fail
      refine (fault_c (w.heap.size + 1) s _ _ _ hR3).mono ?_
      rintro e w' ⟨rfl, rfl⟩
      go_wp2
      refine bodyPost_ret (v := .tuple #[.agg #[.int .u64 0, .string ByteArray.empty, .string ByteArray.empty], .int .i64 0, .int .i64 2]) (by simp [results, Try.results42, go_sem, empB, c0, c1, c2]) rfl ?_
      exact nextEnd HE.out rfl (((hB3.out.setCell (by simp) _).setCell (by simp) _).setCell (by simp) _)
    · have HL := Lib.hid (fun w => lebNext_c (s.extract k (k + n)) w (by rw [size_cut _ _ _ (by omega)]; omega))
      have hlk := lebNext_ok (s.extract k (k + n))
      rw [size_cut _ _ _ (by omega : k + n ≤ s.size), Nat.add_sub_cancel_left] at hlk
      have hiz : (s.extract k (k + n)).size = n := by rw [size_cut _ _ _ (by omega)]; omega
      generalize hIN : s.extract k (k + n) = inn at *
      have HIN := Lib.hid hIN
      generalize lebNext inn = y at *
      obtain ⟨id, sz, f⟩ := y
      dsimp only at *
      clear hIN
      rcases beq0 f with ⟨g0, g1, g2⟩ | ⟨g0, g1, g2⟩
      · subst g0
        obtain ⟨l1, l2, l3, l4⟩ := hlk rfl
        have HE := Lib.hid (by have := HX.out; rw [if_neg (by simp), if_neg hsh, if_neg (by simp)] at this; exact this)
        clear HX hlk
        go_enter Try.func42, Try.ntmps42
        -- the reader, the first take
        go_wp2_with fail
        refine (HC.out _).mono ?_
        rintro e w' ⟨rfl, rfl⟩
        go_wp2_with fail
        refine (read_c s _).mono ?_
        rintro e w1 ⟨rfl, hw1⟩
        have hR1 : Rdr w1 (w.heap.size + 1) s 0 0 := by rw [hw1]; have := Blk.new (w.alloc (.cells #[.int .u64 0, .string ⟨#[]⟩, .string ⟨#[]⟩] 42)) 77 #[.string s, .int .i64 0, .int .i64 0]; rw [World.size_alloc] at this; exact this
        have hF1 : Blk w1 w.heap.size 42 #[.int .u64 0, .string ⟨#[]⟩, .string ⟨#[]⟩] := by rw [hw1]; exact (Blk.new w _ _).alloc _
        have hB1 : Below w.heap.size w w1 := by rw [hw1]; exact (by repeat (first | exact Below.refl _ _ | assumption | with_reducible refine Below.drewN' ?_ _ | with_reducible refine Below.drew ?_ | ((with_reducible refine Below.alloc' ?_ ?_ _); · (first | omega | (simp <;> omega)))))
        have hz1 : w1.heap.size = w.heap.size + 2 := by rw [hw1]; simp
        rw [World.size_alloc]
        clear hw1
        go_wp2_with fail
        refine (take_yes (w.heap.size + 1) s 0 k _ hR1 hs (by omega)).mono ?_
        rintro e w2 ⟨rfl, hR2, ho2⟩
        rw [Nat.zero_add] at hR2
        have hF2 := hF1.only ho2 (by simp)
        have hz2 := ho2.size
        have hB2 := hB1.trans (ho2.below (B := w.heap.size) (by omega) (by simp))
        clear hR1 hF1 hB1
        go_wp2_with fail
        refine (take_yes (w.heap.size + 1) s k n _ hR2 hs (by omega)).mono ?_
        rintro e w3 ⟨rfl, hR3, ho3⟩
        rw [HIN.out]
        have hF3 := hF2.only ho3 (by simp)
        have hz3 := ho3.size
        have hB3 := Lib.hid (hB2.trans (ho3.below (B := w.heap.size) (by omega) (by simp)))
        have c0 := hF3.cell 0
        have c1 := hF3.cell 1
        have c2 := hF3.cell 2
        have f0 := hF3.frozen 0
        have f1 := hF3.frozen 1
        have f2 := hF3.frozen 2
        simp at c0 c1 c2
        clear hF2 hB2 hR2
        go_wp2_with fail
        refine (fault_c (w.heap.size + 1) s _ _ _ hR3).mono ?_
        rintro e w' ⟨rfl, rfl⟩
        go_wp2_with fail
        refine (HL.out _).mono ?_
        rintro e w' ⟨rfl, rfl⟩
        go_wp2
        refine bodyPost_ret (v := .tuple #[.agg #[.int .u64 id, .string ByteArray.empty, .string (inn.extract sz n)], .int .i64 ((k : Int) + n), .int .i64 0]) (by simp [results, Try.results42, go_sem, empB, c0, c1, c2]) rfl ?_
        exact nextEnd HE.out (by omega) (((hB3.out.setCell (by simp) _).setCell (by simp) _).setCell (by simp) _)
      · have HE := Lib.hid (by have := HX.out; rw [if_neg (by simp), if_neg hsh, if_pos g0] at this; exact this)
        clear HX hlk g0
        go_enter Try.func42, Try.ntmps42
        -- the reader, the first take
        go_wp2_with fail
        refine (HC.out _).mono ?_
        rintro e w' ⟨rfl, rfl⟩
        go_wp2_with fail
        refine (read_c s _).mono ?_
        rintro e w1 ⟨rfl, hw1⟩
        have hR1 : Rdr w1 (w.heap.size + 1) s 0 0 := by rw [hw1]; have := Blk.new (w.alloc (.cells #[.int .u64 0, .string ⟨#[]⟩, .string ⟨#[]⟩] 42)) 77 #[.string s, .int .i64 0, .int .i64 0]; rw [World.size_alloc] at this; exact this
        have hF1 : Blk w1 w.heap.size 42 #[.int .u64 0, .string ⟨#[]⟩, .string ⟨#[]⟩] := by rw [hw1]; exact (Blk.new w _ _).alloc _
        have hB1 : Below w.heap.size w w1 := by rw [hw1]; exact (by repeat (first | exact Below.refl _ _ | assumption | with_reducible refine Below.drewN' ?_ _ | with_reducible refine Below.drew ?_ | ((with_reducible refine Below.alloc' ?_ ?_ _); · (first | omega | (simp <;> omega)))))
        have hz1 : w1.heap.size = w.heap.size + 2 := by rw [hw1]; simp
        rw [World.size_alloc]
        clear hw1
        go_wp2_with fail
        refine (take_yes (w.heap.size + 1) s 0 k _ hR1 hs (by omega)).mono ?_
        rintro e w2 ⟨rfl, hR2, ho2⟩
        rw [Nat.zero_add] at hR2
        have hF2 := hF1.only ho2 (by simp)
        have hz2 := ho2.size
        have hB2 := hB1.trans (ho2.below (B := w.heap.size) (by omega) (by simp))
        clear hR1 hF1 hB1
        go_wp2_with fail
        refine (take_yes (w.heap.size + 1) s k n _ hR2 hs (by omega)).mono ?_
        rintro e w3 ⟨rfl, hR3, ho3⟩
        rw [HIN.out]
        have hF3 := hF2.only ho3 (by simp)
        have hz3 := ho3.size
        have hB3 := Lib.hid (hB2.trans (ho3.below (B := w.heap.size) (by omega) (by simp)))
        have c0 := hF3.cell 0
        have c1 := hF3.cell 1
        have c2 := hF3.cell 2
        have f0 := hF3.frozen 0
        have f1 := hF3.frozen 1
        have f2 := hF3.frozen 2
        simp at c0 c1 c2
        clear hF2 hB2 hR2
        go_wp2_with fail
        refine (fault_c (w.heap.size + 1) s _ _ _ hR3).mono ?_
        rintro e w' ⟨rfl, rfl⟩
        go_wp2_with fail
        refine (HL.out _).mono ?_
        rintro e w' ⟨rfl, rfl⟩
        go_wp2
        refine bodyPost_ret (v := .tuple #[.agg #[.int .u64 0, .string ByteArray.empty, .string ByteArray.empty], .int .i64 0, .int .i64 3]) (by simp [results, Try.results42, go_sem, empB, c0, c1, c2]) rfl ?_
        exact nextEnd HE.out rfl (((hB3.out.setCell (by simp) _).setCell (by simp) _).setCell (by simp) _)
  · have HE := Lib.hid (by have := HX.out; rw [if_pos h0] at this; exact this)
    clear HX hok h0
    go_enter Try.func42, Try.ntmps42
    go_wp2_with fail
    refine (HC.out _).mono ?_
    rintro e w' ⟨rfl, rfl⟩
    go_wp2
    refine bodyPost_ret (v := .tuple #[.agg #[.int .u64 0, .string ByteArray.empty, .string ByteArray.empty], .int .i64 0, .int .i64 er]) (by simp [results, Try.results42, go_sem, empB]) rfl ?_
    exact nextEnd HE.out rfl (by repeat (first | exact Below.refl _ _ | assumption | with_reducible refine Below.drewN' ?_ _ | with_reducible refine Below.drew ?_ | ((with_reducible refine Below.alloc' ?_ ?_ _); · (first | omega | (simp <;> omega)))))
end Go.Proofs.Ythbechmkjhkipaa
