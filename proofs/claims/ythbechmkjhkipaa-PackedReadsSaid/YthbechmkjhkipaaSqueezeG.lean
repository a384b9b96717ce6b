/- squeeze.appendLiteral, appendCopy, and the document's literal and copied. -/
import Derived.Test.YthbechmkjhkipaaSqueezeF
namespace Go.Proofs.Ythbechmkjhkipaa
set_option linter.unusedVariables false
set_option linter.unusedSimpArgs false
open Go.RowKit

def ApEnd (base : Nat) (w : World) (l : List UInt8) (e : Ending) (w' : World) : Prop :=
  ∃ (A : Option Addr) (n cap : Nat), e = .returned (.slice A n cap) ∧ Buf w' base 5 (.slice A n cap) l ∧ Kept 5 base w w'

theorem litE_0 {l : List UInt8} (h : l.length = 0) : litE l = [] := by unfold litE; rw [if_pos h]
theorem litE_1 {l : List UInt8} (h : l.length ≠ 0) (h2 : l.length ≤ 60) : litE l = [ub (4 * (l.length - 1) : Nat)] ++ l := by unfold litE; rw [if_neg h, if_pos h2]; rfl
theorem litE_2 {l : List UInt8} (h : ¬ l.length ≤ 60) (h2 : l.length ≤ 256) : litE l = [ub (240 : Nat), ub (l.length - 1 : Nat)] ++ l := by unfold litE; rw [if_neg (by omega), if_neg h, if_pos h2]; rfl
theorem litE_3 {l : List UInt8} (h : ¬ l.length ≤ 256) (h2 : l.length ≤ 65536) : litE l = [ub (244 : Nat)] ++ (leD (l.length - 1) 2 ++ l) := by
  unfold litE; rw [if_neg (by omega), if_neg (by omega), if_neg h]
  simp only [leD]
  simp
  refine ⟨rfl, ?_⟩
  rw [Int.emod_eq_of_lt (by omega) (by omega)]

set_option maxRecDepth 100000 in
set_option maxHeartbeats 1000000 in
theorem apLit_c (base : Nat) (v : Value) (l : List UInt8) (s : ByteArray) (w : World) (h : Buf w base 5 v l) (hb : base ≤ w.heap.size) (hl : l.length ≤ 1000000) (hs : s.size ≤ 65536) :
    Calls Try.prog 24 #[v, .string s] w (ApEnd base w (l ++ litE s.data.toList)) := by
  obtain ⟨i0, hi, hz0, hz1, hz2⟩ := info_parts info_byte
  obtain ⟨A, cap, rfl, hlc, hcm⟩ := h.form
  generalize hn : l.length = n at *
  have hsl := toList_size s
  by_cases h0 : s.size = 0
  · have e0 : ((s.size : Int) == 0) = true := by simp [h0]
    have HL := Lib.hid (litE_0 (l := s.data.toList) (by omega))
    clear h0 hsl
    go_enter Try.func24, Try.ntmps24
    go_wp2
    go_ret
    exact ⟨A, n, cap, rfl, by rw [HL.out, List.append_nil]; exact h, Kept.refl _ _ _⟩
  · have e0 : ((s.size : Int) == 0) = false := beq_eq_false_iff_ne.2 (by omega)
    have hpos : 1 ≤ s.size := by omega
    by_cases h1 : s.size ≤ 60
    · have HL := Lib.hid (litE_1 (l := s.data.toList) (by omega) (by omega))
      have HN := Lib.hid (show s.data.toList.length - 1 = s.size - 1 by rw [hsl])
      clear h0 hsl
      go_enter Try.func24, Try.ntmps24
      go_wp2_with (first | (at_builtin; refine wpList_append_buf (by rfl) (.tmp 29) (.tmp 34) 24 24 (by rfl) base 5 i0 Try.underlying24 hi hz0 hz1 hz2 (by rfl) (h.alloc _) _ [ub (4 * (s.size - 1) : Nat)] (by rfl) (src_new Try.underlying24 w 5 _ [ub (4 * (s.size - 1) : Nat)] 1 (cb_ub1 (by omega) (by omega))) (by rw [World.size_alloc]; omega) (by simp only [List.length_cons, List.length_nil]; omega) ?_; intro A1 n1 c1 w1 hb1 hk1) | (at_builtin; refine wpList_append_buf (by rfl) (.tmp 45) (.tmp 46) 24 9 (by rfl) base 5 i0 Try.underlying24 hi hz0 hz1 hz2 (by rfl) hb1 _ s.data.toList (by rfl) (src_str Try.underlying9 _ s) (Nat.le_trans (by rw [World.size_alloc]; omega) hk1.size) (by simp only [List.length_append, List.length_cons, List.length_nil, toList_size]; omega) ?_; intro A2 n2 c2 w2 hb2 hk2))
      go_ret
      refine ⟨A2, n2, c2, rfl, ?_, ((Kept.refl _ _ _).alloc hb _).trans (hk1.trans hk2)⟩
      rw [HL.out, HN.out, ← List.append_assoc]; exact hb2
    · by_cases h2 : s.size ≤ 256
      · have HL := Lib.hid (litE_2 (l := s.data.toList) (by omega) (by omega))
        have HN := Lib.hid (show s.data.toList.length - 1 = s.size - 1 by rw [hsl])
        clear h0 hsl
        go_enter Try.func24, Try.ntmps24
        go_wp2_with (first | (at_builtin; refine wpList_append_buf (by rfl) (.tmp 39) (.tmp 43) 24 24 (by rfl) base 5 i0 Try.underlying24 hi hz0 hz1 hz2 (by rfl) (h.alloc _) _ [ub (240 : Nat), ub (s.size - 1 : Nat)] (by rfl) (src_new Try.underlying24 w 5 _ [ub (240 : Nat), ub (s.size - 1 : Nat)] 2 (cb_ub2 (by omega) (by omega) (by omega) (by omega))) (by rw [World.size_alloc]; omega) (by simp only [List.length_cons, List.length_nil]; omega) ?_; intro A1 n1 c1 w1 hb1 hk1) | (at_builtin; refine wpList_append_buf (by rfl) (.tmp 45) (.tmp 46) 24 9 (by rfl) base 5 i0 Try.underlying24 hi hz0 hz1 hz2 (by rfl) hb1 _ s.data.toList (by rfl) (src_str Try.underlying9 _ s) (Nat.le_trans (by rw [World.size_alloc]; omega) hk1.size) (by simp only [List.length_append, List.length_cons, List.length_nil, toList_size]; omega) ?_; intro A2 n2 c2 w2 hb2 hk2))
        go_ret
        refine ⟨A2, n2, c2, rfl, ?_, ((Kept.refl _ _ _).alloc hb _).trans (hk1.trans hk2)⟩
        rw [HL.out, HN.out, ← List.append_assoc]; exact hb2
      · have HL := Lib.hid (litE_3 (l := s.data.toList) (by omega) (by omega))
        have HN := Lib.hid (show s.data.toList.length - 1 = s.size - 1 by rw [hsl])
        have HC := Lib.hid (little_c (s.size - 1) 2 w (by omega) (by omega) (by omega))
        rw [show ((s.size - 1 : Nat) : Int) = (s.size : Int) - 1 from by omega] at HC
        have hTl : (⟨(leD (s.size - 1) 2).toArray⟩ : ByteArray).data.toList = leD (s.size - 1) 2 := rfl
        generalize (⟨(leD (s.size - 1) 2).toArray⟩ : ByteArray) = T at *
        have hT2 : T.data.toList.length = 2 := by rw [hTl, leD_length]
        have HT := Lib.hid hTl
        clear h0 hsl hTl
        go_enter Try.func24, Try.ntmps24
        go_wp2_with fail
        refine HC.out.mono ?_
        rintro e w0 ⟨rfl, hw0⟩
        have hz := hw0.size
        have h' := h.below hw0
        have hk0 : Kept 5 base w w0 := Kept.of_below hw0 (Nat.le_refl _) hb
        go_wp2_with (first | (at_builtin; refine wpList_append_buf (by rfl) (.tmp 17) (.tmp 18) 24 24 (by rfl) base 5 i0 Try.underlying24 hi hz0 hz1 hz2 (by rfl) (h'.alloc _) _ [ub (244 : Nat)] (by rfl) (src_new Try.underlying24 w0 5 _ [ub (244 : Nat)] 1 (cb_ub1 (by omega) (by omega))) (by rw [World.size_alloc]; omega) (by simp only [List.length_cons, List.length_nil]; omega) ?_; intro A1 n1 c1 w1 hb1 hk1) | (at_builtin; refine wpList_append_buf (by rfl) (.tmp 19) (.tmp 20) 24 9 (by rfl) base 5 i0 Try.underlying24 hi hz0 hz1 hz2 (by rfl) hb1 _ T.data.toList (by rfl) (src_str Try.underlying9 _ T) (Nat.le_trans (by rw [World.size_alloc]; omega) hk1.size) (by simp only [List.length_append, List.length_cons, List.length_nil]; omega) ?_; intro A2 n2 c2 w2 hb2 hk2) | (at_builtin; refine wpList_append_buf (by rfl) (.tmp 45) (.tmp 46) 24 9 (by rfl) base 5 i0 Try.underlying24 hi hz0 hz1 hz2 (by rfl) hb2 _ s.data.toList (by rfl) (src_str Try.underlying9 _ s) (Nat.le_trans (by rw [World.size_alloc]; omega) (hk1.trans hk2).size) (by simp only [List.length_append, List.length_cons, List.length_nil, toList_size]; rw [← toList_size T]; omega) ?_; intro A3 n3 c3 w3 hb3 hk3))
        go_ret
        refine ⟨A3, n3, c3, rfl, ?_, hk0.trans (((Kept.refl _ _ _).alloc (by omega) _).trans (hk1.trans (hk2.trans hk3)))⟩
        rw [HT.out] at hb3
        rw [HL.out, HN.out, ← List.append_assoc, ← List.append_assoc]; exact hb3
theorem cpyE_1 {n d : Nat} (h : n ≤ 11) (h2 : d < 2048) : cpyE n d = [ub (1 + 4 * (n - 4) + 32 * (d / 256) : Nat), ub (d % 256 : Nat)] := by unfold cpyE; rw [if_pos ⟨h, h2⟩]
theorem cpyE_2 {n d : Nat} (h : ¬ (n ≤ 11 ∧ d < 2048)) (hd : d < 65536) : cpyE n d = [ub (2 + 4 * (n - 1) : Nat)] ++ leD d 2 := by
  unfold cpyE; rw [if_neg h]
  simp only [leD]
  simp
  rw [Int.emod_eq_of_lt (by omega) (by omega)]
set_option maxRecDepth 100000 in
set_option maxHeartbeats 1000000 in
theorem apCpy_c (base : Nat) (v : Value) (l : List UInt8) (n d : Nat) (w : World) (h : Buf w base 5 v l) (hb : base ≤ w.heap.size) (hl : l.length ≤ 1000000) (h4 : 4 ≤ n) (hn : n ≤ 64) (hd : d < 65536) :
    Calls Try.prog 26 #[v, .int .i64 n, .int .i64 d] w (ApEnd base w (l ++ cpyE n d)) := by
  obtain ⟨i0, hi, hz0, hz1, hz2⟩ := info_parts info_byte
  obtain ⟨A, cap, rfl, hlc, hcm⟩ := h.form
  generalize hln : l.length = ln at *
  by_cases h1 : n ≤ 11 ∧ d < 2048
  · obtain ⟨h1, h2⟩ := h1
    have HL := Lib.hid (cpyE_1 h1 h2)
    have d1 : decide ((d : Int) < 2048) = true := decide_eq_true (by omega)
    go_enter Try.func26, Try.ntmps26
    go_wp2_with (at_builtin; refine wpList_append_buf (by rfl) (.tmp 15) (.tmp 28) 24 24 (by rfl) base 5 i0 Try.underlying24 hi hz0 hz1 hz2 (by rfl) (h.alloc _) _ [ub (1 + 4 * (n - 4) + 32 * (d / 256) : Nat), ub (d % 256 : Nat)] (by rfl) (src_new Try.underlying24 w 5 _ [ub (1 + 4 * (n - 4) + 32 * (d / 256) : Nat), ub (d % 256 : Nat)] 2 (cb_ub2 (by omega) (by omega) (by omega) (by omega))) (by rw [World.size_alloc]; omega) (by simp only [List.length_cons, List.length_nil]; omega) ?_; intro A1 n1 c1 w1 hb1 hk1)
    go_ret
    exact ⟨A1, n1, c1, rfl, by rw [HL.out]; exact hb1, ((Kept.refl _ _ _).alloc hb _).trans hk1⟩
  · have HL := Lib.hid (cpyE_2 h1 hd)
    have hways : 11 < n ∨ (n ≤ 11 ∧ 2048 ≤ d) := by omega
    have HC := Lib.hid (little_c d 2 w (by omega) (by omega) (by omega))
    have hTl : (⟨(leD d 2).toArray⟩ : ByteArray).data.toList = leD d 2 := rfl
    generalize (⟨(leD d 2).toArray⟩ : ByteArray) = T at *
    have hT2 : T.data.toList.length = 2 := by rw [hTl, leD_length]
    have HT := Lib.hid hTl
    clear h1 hTl
    rcases hways with h1 | ⟨h1, h2⟩
    all_goals
      go_enter Try.func26, Try.ntmps26
      go_wp2_with fail
      refine HC.out.mono ?_
      rintro e w0 ⟨rfl, hw0⟩
      have hz := hw0.size
      have h' := h.below hw0
      have hk0 : Kept 5 base w w0 := Kept.of_below hw0 (Nat.le_refl _) hb
      go_wp2_with (first | (at_builtin; refine wpList_append_buf (by rfl) (.tmp 36) (.tmp 42) 24 24 (by rfl) base 5 i0 Try.underlying24 hi hz0 hz1 hz2 (by rfl) (h'.alloc _) _ [ub (2 + 4 * (n - 1) : Nat)] (by rfl) (src_new Try.underlying24 w0 5 _ [ub (2 + 4 * (n - 1) : Nat)] 1 (cb_ub1 (by omega) (by omega))) (by rw [World.size_alloc]; omega) (by simp only [List.length_cons, List.length_nil]; omega) ?_; intro A1 n1 c1 w1 hb1 hk1) | (at_builtin; refine wpList_append_buf (by rfl) (.tmp 43) (.tmp 44) 24 9 (by rfl) base 5 i0 Try.underlying24 hi hz0 hz1 hz2 (by rfl) hb1 _ T.data.toList (by rfl) (src_str Try.underlying9 _ T) (Nat.le_trans (by rw [World.size_alloc]; omega) hk1.size) (by simp only [List.length_append, List.length_cons, List.length_nil]; omega) ?_; intro A2 n2 c2 w2 hb2 hk2))
      go_ret
      refine ⟨A2, n2, c2, rfl, ?_, hk0.trans (((Kept.refl _ _ _).alloc (by omega) _).trans (hk1.trans hk2))⟩
      rw [HT.out] at hb2
      rw [HL.out, ← List.append_assoc]; exact hb2

/-- The document's two little bytes. -/
theorem refLittle2_c (n : Nat) (w : World) (hn : n < 65536) :
    Calls Try.prog 59 #[.int .i64 n] w fun e w' => e = .returned (.string ⟨(leD n 2).toArray⟩) ∧ Below w.heap.size w w' := by
  have HB := Lib.hid (refBig_c n 2 w (by omega) (by omega))
  have hz : (⟨((leD n 2).reverse).toArray⟩ : ByteArray).size ≤ 1000000 := by rw [size_of]; simp [leD_length]
  have HT := Lib.hid (fun w => refTurned_c ⟨((leD n 2).reverse).toArray⟩ w hz)
  simp only [List.reverse_reverse] at HT
  clear hz
  generalize (⟨((leD n 2).reverse).toArray⟩ : ByteArray) = R at *
  go_enter Try.func59, Try.ntmps59
  go_wp2_with fail
  refine HB.out.mono ?_
  rintro e w1 ⟨rfl, hb⟩
  go_wp2_with fail
  refine (HT.out _).mono ?_
  rintro e w' ⟨rfl, rfl⟩
  go_wp2
  go_ret
  exact ⟨rfl, hb⟩

theorem str_lit (l : List UInt8) (s : ByteArray) : (⟨l.toArray⟩ ++ s : ByteArray) = ⟨(l ++ s.data.toList).toArray⟩ := bytes_ext (by rw [toList_app])
set_option maxRecDepth 100000 in
set_option maxHeartbeats 1000000 in
theorem refLit_c (s : ByteArray) (w : World) (hs : s.size ≤ 65536) :
    Calls Try.prog 38 #[.string s] w fun e w' => e = .returned (.string ⟨(litE s.data.toList).toArray⟩) ∧ Below w.heap.size w w' := by
  have hsl := toList_size s
  have k1 := fun (w : World) (a : Int) => run_str1 Try.underlying24 Try.underlying5 Try.underlying9 w a
  have k2 := fun (w : World) (a b : Int) => run_str2 Try.underlying24 Try.underlying5 Try.underlying9 w a b
  by_cases h0 : s.size = 0
  · have e0 : ((s.size : Int) == 0) = true := by simp [h0]
    have HL := Lib.hid (litE_0 (l := s.data.toList) (by omega))
    clear h0 hsl
    go_enter Try.func38, Try.ntmps38
    go_wp2
    go_ret
    exact ⟨by rw [HL.out]; rfl, Below.refl _ _⟩
  · have e0 : ((s.size : Int) == 0) = false := beq_eq_false_iff_ne.2 (by omega)
    have hpos : 1 ≤ s.size := by omega
    by_cases h1 : s.size ≤ 60
    · have HL := Lib.hid (litE_1 (l := s.data.toList) (by omega) (by omega))
      clear h0
      have hv : 4 * ((s.size : Int) - 1) = ((4 * (s.data.toList.length - 1) : Nat) : Int) := by omega
      have HV := Lib.hid hv
      clear hv hsl
      go_enter Try.func38, Try.ntmps38
      go_wp2
      go_ret
      exact ⟨ret_str (by rw [HL.out, ← HV.out, ← str_lit]), (by repeat (first | exact Below.refl _ _ | assumption | with_reducible refine Below.drewN' ?_ _ | with_reducible refine Below.drew ?_ | ((with_reducible refine Below.alloc' ?_ ?_ _); · (first | omega | (simp <;> omega)))))⟩
    · by_cases h2 : s.size ≤ 256
      · have HL := Lib.hid (litE_2 (l := s.data.toList) (by omega) (by omega))
        clear h0
        have hv : (s.size : Int) - 1 = ((s.data.toList.length - 1 : Nat) : Int) := by omega
        have HV := Lib.hid hv
        clear hv hsl
        go_enter Try.func38, Try.ntmps38
        go_wp2
        go_ret
        exact ⟨ret_str (by rw [HL.out, ← HV.out, ← str_lit]; rfl), (by repeat (first | exact Below.refl _ _ | assumption | with_reducible refine Below.drewN' ?_ _ | with_reducible refine Below.drew ?_ | ((with_reducible refine Below.alloc' ?_ ?_ _); · (first | omega | (simp <;> omega)))))⟩
      · have HL := Lib.hid (litE_3 (l := s.data.toList) (by omega) (by omega))
        have HC := Lib.hid (refLittle2_c (s.size - 1) w (by omega))
        rw [show ((s.size - 1 : Nat) : Int) = (s.size : Int) - 1 from by omega] at HC
        have HT := Lib.hid (show (⟨#[244]⟩ ++ ⟨(leD (s.size - 1) 2).toArray⟩ ++ s : ByteArray) = ⟨([ub (244 : Nat)] ++ (leD (s.data.toList.length - 1) 2 ++ s.data.toList)).toArray⟩ by
          apply bytes_ext; rw [toList_app, toList_app, hsl]; simp; rfl)
        have hT2 : (⟨(leD (s.size - 1) 2).toArray⟩ : ByteArray).size = 2 := by rw [size_of, leD_length]
        have hT3 : (⟨(leD (s.size - 1) 2).toArray⟩ : ByteArray).size ≤ 2 := by omega
        clear hT2
        generalize (⟨(leD (s.size - 1) 2).toArray⟩ : ByteArray) = T at *
        clear h0 hsl
        go_enter Try.func38, Try.ntmps38
        go_wp2_with fail
        refine HC.out.mono ?_
        rintro e w1 ⟨rfl, hb⟩
        go_wp2
        go_ret
        exact ⟨ret_str (by rw [HL.out]; exact HT.out.symm), hb⟩
set_option maxRecDepth 100000 in
set_option maxHeartbeats 1000000 in
theorem refCpy_c (n d : Nat) (w : World) (h4 : 4 ≤ n) (hn : n ≤ 64) (hd : d < 65536) :
    Calls Try.prog 39 #[.int .i64 n, .int .i64 d] w fun e w' => e = .returned (.string ⟨(cpyE n d).toArray⟩) ∧ Below w.heap.size w w' := by
  have k2 := fun (w : World) (a b : Int) => run_str2 Try.underlying24 Try.underlying5 Try.underlying9 w a b
  by_cases h1 : n ≤ 11 ∧ d < 2048
  · obtain ⟨h1, h2⟩ := h1
    have HL := Lib.hid (cpyE_1 h1 h2)
    have d1 : decide ((d : Int) < 2048) = true := decide_eq_true (by omega)
    have HV2 := Lib.hid (show (d : Int) % 256 = ((d % 256 : Nat) : Int) by omega)
    have HV := Lib.hid (show 1 + 4 * ((n : Int) - 4) + 32 * ((d : Int) / 256) = ((1 + 4 * (n - 4) + 32 * (d / 256) : Nat) : Int) by omega)
    go_enter Try.func39, Try.ntmps39
    go_wp2
    go_ret
    exact ⟨ret_str (by rw [HL.out, ← HV.out, ← HV2.out]), (by repeat (first | exact Below.refl _ _ | assumption | with_reducible refine Below.drewN' ?_ _ | with_reducible refine Below.drew ?_ | ((with_reducible refine Below.alloc' ?_ ?_ _); · (first | omega | (simp <;> omega)))))⟩
  · have HL := Lib.hid (cpyE_2 h1 hd)
    have hways : 11 < n ∨ (n ≤ 11 ∧ 2048 ≤ d) := by omega
    have HC := Lib.hid (fun w => refLittle2_c d w hd)
    have e1 : IntKind.i64.wrap ((n : Int) - 1) = (n : Int) - 1 := IntWalk.i64_in _ (by omega)
    have e2 : IntKind.i64.wrap (4 * ((n : Int) - 1)) = 4 * ((n : Int) - 1) := IntWalk.i64_in _ (by omega)
    have e3 : IntKind.i64.wrap (2 + 4 * ((n : Int) - 1)) = 2 + 4 * ((n : Int) - 1) := IntWalk.i64_in _ (by omega)
    have e4 : IntKind.u8.wrap (2 + 4 * ((n : Int) - 1)) = (2 + 4 * ((n : Int) - 1)) % 256 := by simp [IntKind.wrap, IntKind.signed, IntKind.bits]
    have HV := Lib.hid (show (2 + 4 * ((n : Int) - 1)) % 256 = ((2 + 4 * (n - 1) : Nat) : Int) by omega)
    have HT := Lib.hid (show (⟨#[ub ((2 + 4 * (n - 1) : Nat) : Int)]⟩ ++ ⟨(leD d 2).toArray⟩ : ByteArray) = ⟨([ub (2 + 4 * (n - 1) : Nat)] ++ leD d 2).toArray⟩ by
      apply bytes_ext; rw [toList_app])
    have hT3 : (⟨(leD d 2).toArray⟩ : ByteArray).size ≤ 2 := by (rw [size_of, leD_length]; exact Nat.le_refl _)
    generalize (⟨(leD d 2).toArray⟩ : ByteArray) = T at *
    clear h1
    rcases hways with h1 | ⟨h1, h2⟩
    all_goals
      go_enter Try.func39, Try.ntmps39
      go_wp2_with fail
      have kd := str1_laterD (w := w) (a := (2 + 4 * ((n : Int) - 1)) % 256) (Below.refl _ _)
      have k1 := fun (w : World) (a : Int) => run_str1 Try.underlying24 Try.underlying5 Try.underlying9 w a
      go_region_with (go_at_call 59; refine (HC.out _).mono ?_; rintro e w' ⟨rfl, hb⟩; try have kx := str1_laterD hb)
      all_goals
        go_wp2
        go_ret
        refine ⟨ret_str (by rw [HL.out, HV.out]; exact HT.out.symm), ?_⟩
        first
        | exact ((Below.refl w.heap.size w).alloc (Nat.le_refl _) _).drew.trans (hb.mono (by simp))
        | exact ((Below.refl w.heap.size w).drew.trans hb).alloc hb.size _
end Go.Proofs.Ythbechmkjhkipaa
