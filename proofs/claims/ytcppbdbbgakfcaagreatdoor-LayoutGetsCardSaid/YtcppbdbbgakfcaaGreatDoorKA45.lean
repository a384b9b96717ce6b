/- The document's read of a value: too many; a Uint; a Fixed. -/
import Derived.Test.YtcppbdbbgakfcaaGreatDoorKA43
set_option linter.unusedVariables false
set_option linter.unusedSimpArgs false
set_option maxRecDepth 100000
set_option maxHeartbeats 1600000
namespace Go.Proofs.YtcppbdbbgakfcaaGreatDoor
open Go.RowKit
theorem read_many (k z ta : Int) (tl : List Ty) (A : Option Addr) (cap : Nat) (w : World) (g : Nat) (s : ByteArray) (kp n : Nat) (M : Int) (hS : Rd1 w g s kp 0) (hk : kp ≤ s.size) (hM : min M 1024 ≤ n) (hn : n ≤ 1024) :
 Calls Tryz.prog 41 #[.pointer (some ⟨g, 0, none⟩), .agg #[.int .i64 k, .int .i64 z, .slice A tl.length cap, .int .i64 ta], .int .i64 n, .int .i64 M] w fun e w' => RedEnd w g s (.bad 4 n (s.data.toList.drop kp)) e w' := by
 have hlt := hS.lt
 have HV0 := Lib.hid (ReW.start (tc := #[.int .i64 (k), .int .i64 z, .slice A tl.length cap, .int .i64 ta]) hS)
 generalize hW3 : ((w.alloc (.cells #[.int .i64 (k), .int .i64 z, .slice A tl.length cap, .int .i64 ta] 24)).alloc (.cells #[.string ⟨#[]⟩, .bool false, .slice none 0 0] 27)) = W3 at *
 obtain ⟨q0, q1, q2, q3, _⟩ := blk4 HV0.out.ty
 have r2 : W3.cell? ⟨g, 2, none⟩ = some (.int .i64 0) := HV0.out.rd.cell 2
 have HF := Lib.hid (fail1_yes g s kp 4 W3 HV0.out.rd)
 clear hS
 by_cases hA : M < (n : Int) + 1
 ·have d0 : decide (M < (n : Int) + 1) = true := decide_eq_true hA
  go_enter Tryz.func41, Tryz.ntmps41
  go_wp2_with fail
  refine HF.out.mono ?_
  rintro e w1 ⟨rfl, hr, ho⟩
  have HV1 := Lib.hid (HV0.out.turn ho hr)
  have r3 : w1.cell? ⟨g, 2, none⟩ = some (.int .i64 4) := HV1.out.rd.cell 2
  clear hr ho
  obtain ⟨n0, n1, n2, m0, m1, m2⟩ := blk3f HV1.out.res
  obtain ⟨e1, e2, y0, y1, y2⟩ := HV1.out.ends (.string ⟨#[]⟩) (.bool false) (.slice none 0 0)
  have E1 := Lib.hid e1
  have E2 := Lib.hid e2
  clear e1 e2
  go_wp2
  have e1 := E1.out
  have e2 := E2.out
  refine bodyPost_ret (v := .tuple #[.agg #[.string ⟨#[]⟩, .bool false, .slice none 0 0], .int .i64 ((n : Int) + 1)]) (by simp [results, Tryz.results41, go_sem, y0, y1, y2]) rfl ?_
  exact ⟨noIt, _, _, _, kp, _, rfl, ItS.text false (by simp [ByteArray.size]), e1, e2, hk, fun h => absurd h (show ¬ (4 : Int) = 0 by decide)⟩
 ·have d0 : decide (M < (n : Int) + 1) = false := decide_eq_false hA
  have d1 : decide ((1024 : Int) < (n : Int) + 1) = true := decide_eq_true (by omega)
  go_enter Tryz.func41, Tryz.ntmps41
  go_wp2_with fail
  refine HF.out.mono ?_
  rintro e w1 ⟨rfl, hr, ho⟩
  have HV1 := Lib.hid (HV0.out.turn ho hr)
  have r3 : w1.cell? ⟨g, 2, none⟩ = some (.int .i64 4) := HV1.out.rd.cell 2
  clear hr ho
  obtain ⟨n0, n1, n2, m0, m1, m2⟩ := blk3f HV1.out.res
  obtain ⟨e1, e2, y0, y1, y2⟩ := HV1.out.ends (.string ⟨#[]⟩) (.bool false) (.slice none 0 0)
  have E1 := Lib.hid e1
  have E2 := Lib.hid e2
  clear e1 e2
  go_wp2
  have e1 := E1.out
  have e2 := E2.out
  refine bodyPost_ret (v := .tuple #[.agg #[.string ⟨#[]⟩, .bool false, .slice none 0 0], .int .i64 ((n : Int) + 1)]) (by simp [results, Tryz.results41, go_sem, y0, y1, y2]) rfl ?_
  exact ⟨noIt, _, _, _, kp, _, rfl, ItS.text false (by simp [ByteArray.size]), e1, e2, hk, fun h => absurd h (show ¬ (4 : Int) = 0 by decide)⟩
theorem read_one (zn : Nat) (A : Option Addr) (cap : Nat) (w : World) (g : Nat) (s : ByteArray) (kp n : Nat) (M : Int) (hS : Rd1 w g s kp 0) (hk : kp ≤ s.size) (hs : s.size ≤ 1099511627776) (hM : ¬ min M 1024 ≤ n) (hz : 1 ≤ zn) (hz8 : zn ≤ 8) :
 Calls Tryz.prog 41 #[.pointer (some ⟨g, 0, none⟩), .agg #[.int .i64 1, .int .i64 zn, .slice A ([] : List Ty).length cap, .int .i64 0], .int .i64 n, .int .i64 M] w fun e w' => RedEnd w g s ((Ty.mk 1 zn [] 0).rd (min M 1024) n (s.data.toList.drop kp)) e w' := by
 have hlt := hS.lt
 have d0 : decide (M < (n : Int) + 1) = false := decide_eq_false (by omega)
 have d1 : decide ((1024 : Int) < (n : Int) + 1) = false := decide_eq_false (by omega)
 rw [rd_one hM, show ((zn : Int)).toNat = zn from rfl, List.length_drop, toList_size]
 obtain ⟨z, ta, tl, ez, et, el⟩ : ∃ (z ta : Int) (tl : List Ty), z = zn ∧ ta = 0 ∧ tl = [] := ⟨_, _, _, rfl, rfl, rfl⟩
 rw [← ez, ← et, ← el]
 have HV0 := Lib.hid (ReW.start (tc := #[.int .i64 (1), .int .i64 z, .slice A tl.length cap, .int .i64 ta]) hS)
 generalize hW3 : ((w.alloc (.cells #[.int .i64 (1), .int .i64 z, .slice A tl.length cap, .int .i64 ta] 24)).alloc (.cells #[.string ⟨#[]⟩, .bool false, .slice none 0 0] 27)) = W3 at *
 obtain ⟨q0, q1, q2, q3, _⟩ := blk4 HV0.out.ty
 have r2 : W3.cell? ⟨g, 2, none⟩ = some (.int .i64 0) := HV0.out.rd.cell 2
 subst ez et el
 simp only [List.length_nil] at hW3 HV0
 clear hS
 by_cases hsh : s.size < kp + zn
 ·rw [if_pos (by omega)]
  go_enter Tryz.func41, Tryz.ntmps41
  go_wp2_with fail
  refine (take1_short g s kp zn W3 HV0.out.rd hk (by omega) hsh (by omega)).mono ?_
  rintro e w1 ⟨rfl, hr, ho⟩
  have HV5 := Lib.hid (HV0.out.turn ho hr)
  clear hr ho
  go_wp2_with fail
  refine (refTurned_c ⟨#[]⟩ w1 (by simp [ByteArray.size])).mono ?_
  rintro e w' ⟨rfl, rfl⟩
  go_wp2_with fail
  refine (refNumber_c _ w1 (by simp [ByteArray.size])).mono ?_
  rintro e w' ⟨rfl, rfl⟩
  have hb0 : beL (⟨#[]⟩ : ByteArray).data.toList = 0 := rfl
  rw [hb0]
  go_wp2_with fail
  refine (refLeast_c 0 w1 (by omega)).mono ?_
  rintro e w2 ⟨rfl, hb⟩
  have HV6 := Lib.hid (HV5.out.below hb)
  clear hb
  obtain ⟨n0, n1, n2, m0, m1, m2⟩ := blk3f HV6.out.res
  obtain ⟨e1, e2, y0, y1, y2⟩ := HV6.out.ends (.string ⟨(minL 0).toArray⟩) (.bool false) (.slice none 0 0)
  have E1 := Lib.hid e1
  have E2 := Lib.hid e2
  clear e1 e2
  go_wp2
  have e1 := E1.out
  have e2 := E2.out
  refine bodyPost_ret (v := .tuple #[.agg #[.string ⟨(minL 0).toArray⟩, .bool false, .slice none 0 0], .int .i64 ((n : Int) + 1)]) (by simp [results, Tryz.results41, go_sem, y0, y1, y2]) rfl ?_
  exact ⟨.mk ⟨(minL 0).toArray⟩ false [], _, _, _, kp, _, rfl, ItS.text false (by simp [minL_zero, ByteArray.size]), e1, e2, hk, fun h => absurd h (show ¬ (2 : Int) = 0 by decide)⟩
 ·rw [if_neg (by omega)]
  have hX := cut_take s kp zn
  have hXs : (s.extract kp (kp + zn)).size = zn := by rw [size_cut s kp (kp + zn) (by omega)]; omega
  have HT := Lib.hid (fun V => refTurned_c (s.extract kp (kp + zn)) V (by omega))
  rw [hX] at HT
  have hrs : (⟨((s.data.toList.drop kp).take zn).reverse.toArray⟩ : ByteArray).size ≤ 8 := by rw [size_of, List.length_reverse, ← hX, toList_size]; omega
  have HM := Lib.hid (fun V => refNumber_c (⟨((s.data.toList.drop kp).take zn).reverse.toArray⟩ : ByteArray) V hrs)
  have hbe : beL ((s.data.toList.drop kp).take zn).reverse = leL ((s.data.toList.drop kp).take zn) := by simp [beL]
  simp only [hbe] at HM
  have hm := leL_lt ((s.data.toList.drop kp).take zn)
  rw [← hX, toList_size, hXs] at hm
  have hp8 : 2 ^ (8 * zn) ≤ 18446744073709551616 := le_pow _ hz8
  rw [hX] at hm
  generalize leL ((s.data.toList.drop kp).take zn) = m at *
  have HN := Lib.hid (fun V => refLeast_c m V (by omega))
  have hms := minL_length zn m hm
  have HMS : Hid ((⟨(minL m).toArray⟩ : ByteArray).size ≤ 9223372036854775807) := Lib.hid (by rw [size_of]; omega)
  have HDR : Hid ((s.data.toList.drop kp).drop zn = s.data.toList.drop (kp + zn)) := Lib.hid (by rw [List.drop_drop])
  generalize (⟨(minL m).toArray⟩ : ByteArray) = T at *
  generalize (⟨((s.data.toList.drop kp).take zn).reverse.toArray⟩ : ByteArray) = Y at *
  clear hX hXs hm hms hrs hbe
  go_enter Tryz.func41, Tryz.ntmps41
  go_wp2_with fail
  refine (take1_yes g s kp zn W3 HV0.out.rd (by omega) (by omega)).mono ?_
  rintro e w1 ⟨rfl, hr, ho⟩
  have HV5 := Lib.hid (HV0.out.turn ho hr)
  clear hr ho
  go_wp2_with fail
  refine (HT.out w1).mono ?_
  rintro e w' ⟨rfl, rfl⟩
  go_wp2_with fail
  refine (HM.out w1).mono ?_
  rintro e w' ⟨rfl, rfl⟩
  go_wp2_with fail
  refine (HN.out w1).mono ?_
  rintro e w2 ⟨rfl, hb⟩
  have HV6 := Lib.hid (HV5.out.below hb)
  clear hb
  obtain ⟨n0, n1, n2, m0, m1, m2⟩ := blk3f HV6.out.res
  obtain ⟨e1, e2, y0, y1, y2⟩ := HV6.out.ends (.string T) (.bool false) (.slice none 0 0)
  have E1 := Lib.hid e1
  have E2 := Lib.hid e2
  clear e1 e2
  go_wp2
  have e1 := E1.out
  have e2 := E2.out
  refine bodyPost_ret (v := .tuple #[.agg #[.string T, .bool false, .slice none 0 0], .int .i64 ((n : Int) + 1)]) (by simp [results, Tryz.results41, go_sem, y0, y1, y2]) rfl ?_
  exact ⟨.mk T false [], _, _, _, kp + zn, _, rfl, ItS.text false HMS.out, e1, e2, by omega, fun _ => ⟨rfl, HDR.out, by simp⟩⟩
theorem read_two (zn : Nat) (A : Option Addr) (cap : Nat) (w : World) (g : Nat) (s : ByteArray) (kp n : Nat) (M : Int) (hS : Rd1 w g s kp 0) (hk : kp ≤ s.size) (hs : s.size ≤ 1099511627776) (hM : ¬ min M 1024 ≤ n) (hz8 : zn ≤ 65536) :
 Calls Tryz.prog 41 #[.pointer (some ⟨g, 0, none⟩), .agg #[.int .i64 2, .int .i64 zn, .slice A ([] : List Ty).length cap, .int .i64 0], .int .i64 n, .int .i64 M] w fun e w' => RedEnd w g s ((Ty.mk 2 zn [] 0).rd (min M 1024) n (s.data.toList.drop kp)) e w' := by
 have hlt := hS.lt
 have d0 : decide (M < (n : Int) + 1) = false := decide_eq_false (by omega)
 have d1 : decide ((1024 : Int) < (n : Int) + 1) = false := decide_eq_false (by omega)
 rw [rd_two hM, show ((zn : Int)).toNat = zn from rfl, List.length_drop, toList_size]
 obtain ⟨z, ta, tl, ez, et, el⟩ : ∃ (z ta : Int) (tl : List Ty), z = zn ∧ ta = 0 ∧ tl = [] := ⟨_, _, _, rfl, rfl, rfl⟩
 rw [← ez, ← et, ← el]
 have HV0 := Lib.hid (ReW.start (tc := #[.int .i64 (2), .int .i64 z, .slice A tl.length cap, .int .i64 ta]) hS)
 generalize hW3 : ((w.alloc (.cells #[.int .i64 (2), .int .i64 z, .slice A tl.length cap, .int .i64 ta] 24)).alloc (.cells #[.string ⟨#[]⟩, .bool false, .slice none 0 0] 27)) = W3 at *
 obtain ⟨q0, q1, q2, q3, _⟩ := blk4 HV0.out.ty
 have r2 : W3.cell? ⟨g, 2, none⟩ = some (.int .i64 0) := HV0.out.rd.cell 2
 subst ez et el
 simp only [List.length_nil] at hW3 HV0
 clear hS
 by_cases hsh : s.size < kp + zn
 ·rw [if_pos (by omega)]
  go_enter Tryz.func41, Tryz.ntmps41
  go_wp2_with fail
  refine (take1_short g s kp zn W3 HV0.out.rd hk (by omega) hsh (by omega)).mono ?_
  rintro e w1 ⟨rfl, hr, ho⟩
  have HV6 := Lib.hid (HV0.out.turn ho hr)
  clear hr ho
  obtain ⟨n0, n1, n2, m0, m1, m2⟩ := blk3f HV6.out.res
  obtain ⟨e1, e2, y0, y1, y2⟩ := HV6.out.ends (.string ⟨#[]⟩) (.bool false) (.slice none 0 0)
  have E1 := Lib.hid e1
  have E2 := Lib.hid e2
  clear e1 e2
  go_wp2
  have e1 := E1.out
  have e2 := E2.out
  refine bodyPost_ret (v := .tuple #[.agg #[.string ⟨#[]⟩, .bool false, .slice none 0 0], .int .i64 ((n : Int) + 1)]) (by simp [results, Tryz.results41, go_sem, y0, y1, y2]) rfl ?_
  exact ⟨noIt, _, _, _, kp, _, rfl, ItS.text false (by simp [ByteArray.size]), e1, e2, hk, fun h => absurd h (show ¬ (2 : Int) = 0 by decide)⟩
 ·rw [if_neg (by omega)]
  have hX := cut_take s kp zn
  have hXs : (s.extract kp (kp + zn)).size = zn := by rw [size_cut s kp (kp + zn) (by omega)]; omega
  have HX : Hid ((⟨((s.data.toList.drop kp).take zn).toArray⟩ : ByteArray) = s.extract kp (kp + zn)) := Lib.hid (bytes_ext (by rw [hX]))
  rw [HX.out]
  have HMS : Hid ((s.extract kp (kp + zn)).size ≤ 9223372036854775807) := Lib.hid (by omega)
  have HDR : Hid ((s.data.toList.drop kp).drop zn = s.data.toList.drop (kp + zn)) := Lib.hid (by rw [List.drop_drop])
  clear hX hXs
  go_enter Tryz.func41, Tryz.ntmps41
  go_wp2_with fail
  refine (take1_yes g s kp zn W3 HV0.out.rd (by omega) (by omega)).mono ?_
  rintro e w1 ⟨rfl, hr, ho⟩
  have HV6 := Lib.hid (HV0.out.turn ho hr)
  clear hr ho
  obtain ⟨n0, n1, n2, m0, m1, m2⟩ := blk3f HV6.out.res
  obtain ⟨e1, e2, y0, y1, y2⟩ := HV6.out.ends (.string (s.extract kp (kp + zn))) (.bool false) (.slice none 0 0)
  have E1 := Lib.hid e1
  have E2 := Lib.hid e2
  clear e1 e2
  go_wp2
  have e1 := E1.out
  have e2 := E2.out
  refine bodyPost_ret (v := .tuple #[.agg #[.string (s.extract kp (kp + zn)), .bool false, .slice none 0 0], .int .i64 ((n : Int) + 1)]) (by simp [results, Tryz.results41, go_sem, y0, y1, y2]) rfl ?_
  exact ⟨.mk (s.extract kp (kp + zn)) false [], _, _, _, kp + zn, _, rfl, ItS.text false HMS.out, e1, e2, by omega, fun _ => ⟨rfl, HDR.out, by simp⟩⟩
theorem read_three (zn : Nat) (A : Option Addr) (cap : Nat) (w : World) (g : Nat) (s : ByteArray) (kp n : Nat) (M : Int) (hS : Rd1 w g s kp 0) (hk : kp ≤ s.size) (hs : s.size ≤ 1099511627776) (hM : ¬ min M 1024 ≤ n) (hz8 : zn ≤ 65536) :
 Calls Tryz.prog 41 #[.pointer (some ⟨g, 0, none⟩), .agg #[.int .i64 3, .int .i64 zn, .slice A ([] : List Ty).length cap, .int .i64 0], .int .i64 n, .int .i64 M] w fun e w' => RedEnd w g s ((Ty.mk 3 zn [] 0).rd (min M 1024) n (s.data.toList.drop kp)) e w' := by
 have hlt := hS.lt
 have d0 : decide (M < (n : Int) + 1) = false := decide_eq_false (by omega)
 have d1 : decide ((1024 : Int) < (n : Int) + 1) = false := decide_eq_false (by omega)
 rw [rd_three hM]
 have HNC := Lib.hid (fun V (hV : Rd1 V g s kp 0) => refCpRead_c g s kp zn V hV hk (by omega) (by omega))
 have hback := fun (h0 : (cpNext (s.data.toList.drop kp)).2.2 = 0) => (cpNext_back (s.data.toList.drop kp) (cpNext (s.data.toList.drop kp)).1 (cpNext (s.data.toList.drop kp)).2.1 (by rw [← h0])).2.1
 rw [List.length_drop, toList_size] at hback
 have HW := cpRd_ways (cpNext (s.data.toList.drop kp)) zn kp
 have ez1 : IntKind.u64.wrap (zn : Int) = zn := IntWalk.u64_in _ (by omega)
 obtain ⟨z, ta, tl, ez, et, el⟩ : ∃ (z ta : Int) (tl : List Ty), z = zn ∧ ta = 0 ∧ tl = [] := ⟨_, _, _, rfl, rfl, rfl⟩
 rw [← et, ← el, ← ez]
 have HV0 := Lib.hid (ReW.start (tc := #[.int .i64 (3), .int .i64 z, .slice A tl.length cap, .int .i64 ta]) hS)
 generalize hW3 : ((w.alloc (.cells #[.int .i64 (3), .int .i64 z, .slice A tl.length cap, .int .i64 ta] 24)).alloc (.cells #[.string ⟨#[]⟩, .bool false, .slice none 0 0] 27)) = W3 at *
 obtain ⟨q0, q1, q2, q3, _⟩ := blk4 HV0.out.ty
 have r2 : W3.cell? ⟨g, 2, none⟩ = some (.int .i64 0) := HV0.out.rd.cell 2
 subst ez et el
 simp only [List.length_nil] at hW3 HV0
 clear hS
 generalize cpNext (s.data.toList.drop kp) = N at *
 obtain ⟨Nm, Nz, Ne⟩ := N
 simp only at hback HW ⊢
 rcases HW with ⟨h1, hE, hNN, hK⟩ | ⟨h1, h2, hE, hNN, hK⟩ | ⟨h1, h2, hE, hNN, hK⟩
 ·rw [if_pos h1]
  rw [hE, hNN, hK] at HNC
  go_enter Tryz.func41, Tryz.ntmps41
  go_wp2_with fail
  refine (HNC.out W3 HV0.out.rd).mono ?_
  rintro e w1 ⟨rfl, hr, ho⟩
  have HV5 := Lib.hid (HV0.out.turn ho hr)
  clear hr ho
  go_wp2_with fail
  refine (take1_fault g s kp Ne 0 w1 HV5.out.rd h1).mono ?_
  rintro e w' ⟨rfl, rfl⟩
  obtain ⟨n0, n1, n2, m0, m1, m2⟩ := blk3f HV5.out.res
  obtain ⟨e1, e2, y0, y1, y2⟩ := HV5.out.ends (.string ⟨#[]⟩) (.bool false) (.slice none 0 0)
  have E1 := Lib.hid e1
  have E2 := Lib.hid e2
  clear e1 e2
  go_wp2
  have e1 := E1.out
  have e2 := E2.out
  refine bodyPost_ret (v := .tuple #[.agg #[.string ⟨#[]⟩, .bool false, .slice none 0 0], .int .i64 ((n : Int) + 1)]) (by simp [results, Tryz.results41, go_sem, y0, y1, y2]) rfl ?_
  exact ⟨noIt, _, _, _, kp, _, rfl, ItS.text false (by simp [ByteArray.size]), e1, e2, hk, fun h => absurd h h1⟩
 ·rw [if_neg (by rw [h1]; simp), if_pos (by omega)]
  rw [hE, hNN, hK] at HNC
  go_enter Tryz.func41, Tryz.ntmps41
  go_wp2_with fail
  refine (HNC.out W3 HV0.out.rd).mono ?_
  rintro e w1 ⟨rfl, hr, ho⟩
  have HV5 := Lib.hid (HV0.out.turn ho hr)
  clear hr ho
  go_wp2_with fail
  refine (take1_fault g s kp 5 0 w1 HV5.out.rd (by decide)).mono ?_
  rintro e w' ⟨rfl, rfl⟩
  obtain ⟨n0, n1, n2, m0, m1, m2⟩ := blk3f HV5.out.res
  obtain ⟨e1, e2, y0, y1, y2⟩ := HV5.out.ends (.string ⟨#[]⟩) (.bool false) (.slice none 0 0)
  have E1 := Lib.hid e1
  have E2 := Lib.hid e2
  clear e1 e2
  go_wp2
  have e1 := E1.out
  have e2 := E2.out
  refine bodyPost_ret (v := .tuple #[.agg #[.string ⟨#[]⟩, .bool false, .slice none 0 0], .int .i64 ((n : Int) + 1)]) (by simp [results, Tryz.results41, go_sem, y0, y1, y2]) rfl ?_
  exact ⟨noIt, _, _, _, kp, _, rfl, ItS.text false (by simp [ByteArray.size]), e1, e2, hk, fun h => absurd h (show ¬ (5 : Int) = 0 by decide)⟩
 ·rw [if_neg (by rw [h1]; simp), if_neg (by omega)]
  rw [hE, hNN, hK] at HNC
  have hb2 := hback h1
  rw [List.drop_drop, List.length_drop, toList_size]
  by_cases hsh : s.size < kp + Nz + Nm
  ·rw [if_pos (by omega)]
   go_enter Tryz.func41, Tryz.ntmps41
   go_wp2_with fail
   refine (HNC.out W3 HV0.out.rd).mono ?_
   rintro e w1 ⟨rfl, hr, ho⟩
   have HV5 := Lib.hid (HV0.out.turn ho hr)
   clear hr ho
   go_wp2_with fail
   refine (take1_short g s (kp + Nz) Nm w1 HV5.out.rd (by omega) (by omega) hsh (by omega)).mono ?_
   rintro e w2 ⟨rfl, hr, ho⟩
   have HV6 := Lib.hid (HV5.out.turn ho hr)
   clear hr ho
   obtain ⟨n0, n1, n2, m0, m1, m2⟩ := blk3f HV6.out.res
   obtain ⟨e1, e2, y0, y1, y2⟩ := HV6.out.ends (.string ⟨#[]⟩) (.bool false) (.slice none 0 0)
   have E1 := Lib.hid e1
   have E2 := Lib.hid e2
   clear e1 e2
   go_wp2
   have e1 := E1.out
   have e2 := E2.out
   refine bodyPost_ret (v := .tuple #[.agg #[.string ⟨#[]⟩, .bool false, .slice none 0 0], .int .i64 ((n : Int) + 1)]) (by simp [results, Tryz.results41, go_sem, y0, y1, y2]) rfl ?_
   exact ⟨noIt, _, _, _, kp + Nz, _, rfl, ItS.text false (by simp [ByteArray.size]), e1, e2, by omega, fun h => absurd h (show ¬ (2 : Int) = 0 by decide)⟩
  ·rw [if_neg (by omega)]
   have hX := cut_take s (kp + Nz) Nm
   have hXs : (s.extract (kp + Nz) (kp + Nz + Nm)).size = Nm := by rw [size_cut s (kp + Nz) (kp + Nz + Nm) (by omega)]; omega
   have HX : Hid ((⟨((s.data.toList.drop (kp + Nz)).take Nm).toArray⟩ : ByteArray) = s.extract (kp + Nz) (kp + Nz + Nm)) := Lib.hid (bytes_ext (by rw [hX]))
   rw [HX.out]
   have HMS : Hid ((s.extract (kp + Nz) (kp + Nz + Nm)).size ≤ 9223372036854775807) := Lib.hid (by omega)
   have HDR : Hid ((s.data.toList.drop (kp + Nz)).drop Nm = s.data.toList.drop (kp + Nz + Nm)) := Lib.hid (by rw [List.drop_drop])
   clear hX hXs
   go_enter Tryz.func41, Tryz.ntmps41
   go_wp2_with fail
   refine (HNC.out W3 HV0.out.rd).mono ?_
   rintro e w1 ⟨rfl, hr, ho⟩
   have HV5 := Lib.hid (HV0.out.turn ho hr)
   clear hr ho
   go_wp2_with fail
   refine (take1_yes g s (kp + Nz) Nm w1 HV5.out.rd (by omega) (by omega)).mono ?_
   rintro e w2 ⟨rfl, hr, ho⟩
   have HV6 := Lib.hid (HV5.out.turn ho hr)
   clear hr ho
   obtain ⟨n0, n1, n2, m0, m1, m2⟩ := blk3f HV6.out.res
   obtain ⟨e1, e2, y0, y1, y2⟩ := HV6.out.ends (.string (s.extract (kp + Nz) (kp + Nz + Nm))) (.bool false) (.slice none 0 0)
   have E1 := Lib.hid e1
   have E2 := Lib.hid e2
   clear e1 e2
   go_wp2
   have e1 := E1.out
   have e2 := E2.out
   refine bodyPost_ret (v := .tuple #[.agg #[.string (s.extract (kp + Nz) (kp + Nz + Nm)), .bool false, .slice none 0 0], .int .i64 ((n : Int) + 1)]) (by simp [results, Tryz.results41, go_sem, y0, y1, y2]) rfl ?_
   exact ⟨.mk (s.extract (kp + Nz) (kp + Nz + Nm)) false [], _, _, _, kp + Nz + Nm, _, rfl, ItS.text false HMS.out, e1, e2, by omega, fun _ => ⟨rfl, HDR.out, by simp⟩⟩
end Go.Proofs.YtcppbdbbgakfcaaGreatDoor
