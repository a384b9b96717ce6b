/- layout: a value is read: too many; a Uint; a Fixed. -/
import Derived.Test.YtcppbdbbgakfcaaGreatDoorKA33
import Derived.Test.YtcppbdbbgakfcaaGreatDoorKA30
set_option linter.unusedVariables false
set_option linter.unusedSimpArgs false
set_option maxRecDepth 100000
set_option maxHeartbeats 1600000
namespace Go.Proofs.YtcppbdbbgakfcaaGreatDoor
open Go.RowKit
theorem blk3f {w : World} {g : Nat} {t : TypeId} {a b c : Value} (h : Blk w g t #[a, b, c]) : w.cell? ⟨g, 0, none⟩ = some a ∧ w.cell? ⟨g, 1, none⟩ = some b ∧ w.cell? ⟨g, 2, none⟩ = some c ∧ w.frozen? ⟨g, 0, none⟩ = false ∧ w.frozen? ⟨g, 1, none⟩ = false ∧ w.frozen? ⟨g, 2, none⟩ = false := ⟨h.cell 0, h.cell 1, h.cell 2, h.frozen 0, h.frozen 1, h.frozen 2⟩
theorem value_many (k z ta : Int) (tl : List Ty) (A : Option Addr) (cap : Nat) (w : World) (g gl fb : Nat) (s : ByteArray) (kp n : Nat) (M : Int) (hS : LyR w g gl fb s kp 0 (M - n)) (hk : kp ≤ s.size) (hM : M ≤ n) :
 Calls Tryz.prog 33 #[rdgV g gl fb, .agg #[.int .i64 k, .int .i64 z, .slice A tl.length cap, .int .i64 ta]] w fun e w' => ValEnd w g gl fb s M (.bad 4 n (s.data.toList.drop kp)) e w' := by
 have hlt := hS.rdr.lt
 have d0 : decide (M - (n : Int) ≤ 0) = true := decide_eq_true (by omega)
 have HV0 := Lib.hid (VaW.start (tc := #[.int .i64 (k), .int .i64 z, .slice A tl.length cap, .int .i64 ta]) hS)
 generalize hW3 : (((w.alloc (.cells (rdgC g gl fb) 61)).alloc (.cells #[.int .i64 (k), .int .i64 z, .slice A tl.length cap, .int .i64 ta] 24)).alloc (.cells #[.string ⟨#[]⟩, .bool false, .slice none 0 0] 27)) = W3 at *
 unfold rdgC at hW3
 obtain ⟨p0, p1, p2, p3, p4, p5⟩ := blk6 (show Blk W3 w.heap.size 61 #[_, _, _, _, _, _] from HV0.out.rdg)
 obtain ⟨q0, q1, q2, q3, _⟩ := blk4 HV0.out.ty
 have l0 : W3.cell? ⟨gl, 0, none⟩ = some (.int .i64 (M - n)) := HV0.out.st.left.cell 0
 have l1 := HV0.out.st.left.frozen 0
 have HF := Lib.hid (fail_yes g s kp 4 W3 HV0.out.st.rdr)
 unfold rdgV
 clear hS
 go_enter Tryz.func33, Tryz.ntmps33
 go_wp2_with fail
 refine HF.out.mono ?_
 rintro e w1 ⟨rfl, hr, ho⟩
 have HV1 := Lib.hid (HV0.out.turn ho hr)
 clear hr ho
 obtain ⟨n0, n1, n2, m0, m1, m2⟩ := blk3f HV1.out.res
 obtain ⟨e1, e2, y0, y1, y2⟩ := HV1.out.ends (.string ⟨#[]⟩) (.bool false) (.slice none 0 0)
 have E1 := Lib.hid e1
 have E2 := Lib.hid e2
 clear e1 e2
 go_wp2
 have e1 := E1.out
 have e2 := E2.out
 refine bodyPost_ret (v := .agg #[.string ⟨#[]⟩, .bool false, .slice none 0 0]) (by simp [results, Tryz.results33, go_sem, y0, y1, y2]) rfl ?_
 exact ⟨noIt, _, _, _, kp, _, rfl, ItS.text false (by simp [ByteArray.size]), e1, e2, hk, fun h => absurd h (show ¬ (4 : Int) = 0 by decide)⟩
theorem cut_take (s : ByteArray) (k n : Nat) : (s.extract k (k + n)).data.toList = (s.data.toList.drop k).take n := by
 rw [toList_cut, List.drop_take, show k + n - k = n from by omega]
theorem value_one (zn : Nat) (A : Option Addr) (cap : Nat) (w : World) (g gl fb : Nat) (s : ByteArray) (kp n : Nat) (M : Int) (hS : LyR w g gl fb s kp 0 (M - n)) (hk : kp ≤ s.size) (hs : s.size ≤ 1099511627776) (hM : ¬ M ≤ n) (hM2 : M ≤ 1024) (hz : 1 ≤ zn) (hz8 : zn ≤ 8) :
 Calls Tryz.prog 33 #[rdgV g gl fb, .agg #[.int .i64 1, .int .i64 zn, .slice A ([] : List Ty).length cap, .int .i64 0]] w fun e w' => ValEnd w g gl fb s M ((Ty.mk 1 zn [] 0).rd M n (s.data.toList.drop kp)) e w' := by
 have hlt := hS.rdr.lt
 have d0 : decide (M - (n : Int) ≤ 0) = false := decide_eq_false (by omega)
 rw [rd_one hM, show ((zn : Int)).toNat = zn from rfl, List.length_drop, toList_size]
 obtain ⟨z, ta, tl, ez, et, el⟩ : ∃ (z ta : Int) (tl : List Ty), z = zn ∧ ta = 0 ∧ tl = [] := ⟨_, _, _, rfl, rfl, rfl⟩
 rw [← ez, ← et, ← el]
 have HV0 := Lib.hid (VaW.start (tc := #[.int .i64 (1), .int .i64 z, .slice A tl.length cap, .int .i64 ta]) hS)
 generalize hW3 : (((w.alloc (.cells (rdgC g gl fb) 61)).alloc (.cells #[.int .i64 (1), .int .i64 z, .slice A tl.length cap, .int .i64 ta] 24)).alloc (.cells #[.string ⟨#[]⟩, .bool false, .slice none 0 0] 27)) = W3 at *
 unfold rdgC at hW3
 obtain ⟨p0, p1, p2, p3, p4, p5⟩ := blk6 (show Blk W3 w.heap.size 61 #[_, _, _, _, _, _] from HV0.out.rdg)
 obtain ⟨q0, q1, q2, q3, _⟩ := blk4 HV0.out.ty
 have l0 : W3.cell? ⟨gl, 0, none⟩ = some (.int .i64 (M - n)) := HV0.out.st.left.cell 0
 have l1 := HV0.out.st.left.frozen 0
 subst ez et el
 simp only [List.length_nil] at hW3 HV0
 by_cases hsh : s.size < kp + zn
 ·rw [if_pos (by omega)]
  have HV4 := Lib.hid (HV0.out.less (M - n - 1))
  generalize hW4 : W3.setCell ⟨gl, 0, none⟩ (.int .i64 (M - n - 1)) = W4 at *
  clear q0 q1 q2 q3
  obtain ⟨p0, p1, p2, p3, p4, p5⟩ := blk6 (show Blk W4 w.heap.size 61 #[_, _, _, _, _, _] from HV4.out.rdg)
  obtain ⟨q0, q1, q2, q3, _⟩ := blk4 HV4.out.ty
  unfold rdgV
  clear hS
  go_enter Tryz.func33, Tryz.ntmps33
  go_wp2_with fail
  refine (take_short g s kp zn W4 HV4.out.st.rdr hk (by omega) hsh (by omega)).mono ?_
  rintro e w1 ⟨rfl, hr, ho⟩
  have HV5 := Lib.hid (HV4.out.turn ho hr)
  clear hr ho
  go_wp2_with fail
  refine (getLittle_none ⟨#[]⟩ w1 rfl).mono ?_
  rintro e w' ⟨rfl, rfl⟩
  go_wp2_with fail
  refine (number_c 0 w1 (by omega)).mono ?_
  rintro e w2 ⟨rfl, hb⟩
  have HV6 := Lib.hid (HV5.out.below hb)
  clear hb
  obtain ⟨n0, n1, n2, m0, m1, m2⟩ := blk3f HV6.out.res
  obtain ⟨e1, e2, y0, y1, y2⟩ := HV6.out.ends (.string ⟨(minL 0).toArray⟩) (.bool false) (.slice none 0 0)
  have E1 := Lib.hid e1
  have E2 := Lib.hid e2
  clear e1 e2
  go_wp2
  have e1 := E1.out
  have e2 := E2.out
  refine bodyPost_ret (v := .agg #[.string ⟨(minL 0).toArray⟩, .bool false, .slice none 0 0]) (by simp [results, Tryz.results33, go_sem, y0, y1, y2]) rfl ?_
  exact ⟨.mk ⟨(minL 0).toArray⟩ false [], _, _, _, kp, _, rfl, ItS.text false (by simp [minL_zero, ByteArray.size]), e1, e2, hk, fun h => absurd h (show ¬ (2 : Int) = 0 by decide)⟩
 ·rw [if_neg (by omega)]
  have hX := cut_take s kp zn
  have hXs : (s.extract kp (kp + zn)).size = zn := by rw [size_cut s kp (kp + zn) (by omega)]; omega
  have HG := Lib.hid (fun V => getLittle_c (s.extract kp (kp + zn)) V (by omega) (by omega))
  rw [hX] at HG
  have hm := leL_lt ((s.data.toList.drop kp).take zn)
  rw [← hX, toList_size, hXs] at hm
  have hp8 : 2 ^ (8 * zn) ≤ 18446744073709551616 := le_pow _ hz8
  rw [hX] at hm
  generalize leL ((s.data.toList.drop kp).take zn) = m at *
  have HN := Lib.hid (fun V => number_c m V (by omega))
  have hms := minL_length zn m hm
  have HMS : Hid ((⟨(minL m).toArray⟩ : ByteArray).size ≤ 9223372036854775807) := Lib.hid (by rw [size_of]; omega)
  have HDR : Hid ((s.data.toList.drop kp).drop zn = s.data.toList.drop (kp + zn)) := Lib.hid (by rw [List.drop_drop])
  generalize (⟨(minL m).toArray⟩ : ByteArray) = T at *
  clear hX hXs hm hms
  have HV4 := Lib.hid (HV0.out.less (M - n - 1))
  generalize hW4 : W3.setCell ⟨gl, 0, none⟩ (.int .i64 (M - n - 1)) = W4 at *
  clear q0 q1 q2 q3
  obtain ⟨p0, p1, p2, p3, p4, p5⟩ := blk6 (show Blk W4 w.heap.size 61 #[_, _, _, _, _, _] from HV4.out.rdg)
  obtain ⟨q0, q1, q2, q3, _⟩ := blk4 HV4.out.ty
  unfold rdgV
  clear hS
  go_enter Tryz.func33, Tryz.ntmps33
  go_wp2_with fail
  refine (take_yes g s kp zn W4 HV4.out.st.rdr (by omega) (by omega)).mono ?_
  rintro e w1 ⟨rfl, hr, ho⟩
  have HV5 := Lib.hid (HV4.out.turn ho hr)
  clear hr ho
  go_wp2_with fail
  refine (HG.out w1).mono ?_
  rintro e w' ⟨rfl, rfl⟩
  go_wp2_with fail
  refine (HN.out w1).mono ?_
  rintro e w2 ⟨rfl, hb⟩
  have HV6 := Lib.hid (HV5.out.below hb)
  clear hb
  obtain ⟨n0, n1, n2, m0, m1, m2⟩ := blk3f HV6.out.res
  obtain ⟨e1, e2, y0, y1, y2⟩ := HV6.out.ends (.string T) (.bool false) (.slice none 0 0)
  have E1 := Lib.hid e1
  have E2 := Lib.hid e2
  clear e1 e2
  go_wp2
  have e1 := E1.out
  have e2 := E2.out
  refine bodyPost_ret (v := .agg #[.string T, .bool false, .slice none 0 0]) (by simp [results, Tryz.results33, go_sem, y0, y1, y2]) rfl ?_
  exact ⟨.mk T false [], _, _, _, kp + zn, _, rfl, ItS.text false HMS.out, e1, e2, by omega, fun _ => ⟨rfl, HDR.out, by simp only; omega⟩⟩
theorem value_two (zn : Nat) (A : Option Addr) (cap : Nat) (w : World) (g gl fb : Nat) (s : ByteArray) (kp n : Nat) (M : Int) (hS : LyR w g gl fb s kp 0 (M - n)) (hk : kp ≤ s.size) (hs : s.size ≤ 1099511627776) (hM : ¬ M ≤ n) (hM2 : M ≤ 1024) (hz8 : zn ≤ 65536) :
 Calls Tryz.prog 33 #[rdgV g gl fb, .agg #[.int .i64 2, .int .i64 zn, .slice A ([] : List Ty).length cap, .int .i64 0]] w fun e w' => ValEnd w g gl fb s M ((Ty.mk 2 zn [] 0).rd M n (s.data.toList.drop kp)) e w' := by
 have hlt := hS.rdr.lt
 have d0 : decide (M - (n : Int) ≤ 0) = false := decide_eq_false (by omega)
 rw [rd_two hM, show ((zn : Int)).toNat = zn from rfl, List.length_drop, toList_size]
 obtain ⟨z, ta, tl, ez, et, el⟩ : ∃ (z ta : Int) (tl : List Ty), z = zn ∧ ta = 0 ∧ tl = [] := ⟨_, _, _, rfl, rfl, rfl⟩
 rw [← ez, ← et, ← el]
 have HV0 := Lib.hid (VaW.start (tc := #[.int .i64 (2), .int .i64 z, .slice A tl.length cap, .int .i64 ta]) hS)
 generalize hW3 : (((w.alloc (.cells (rdgC g gl fb) 61)).alloc (.cells #[.int .i64 (2), .int .i64 z, .slice A tl.length cap, .int .i64 ta] 24)).alloc (.cells #[.string ⟨#[]⟩, .bool false, .slice none 0 0] 27)) = W3 at *
 unfold rdgC at hW3
 obtain ⟨p0, p1, p2, p3, p4, p5⟩ := blk6 (show Blk W3 w.heap.size 61 #[_, _, _, _, _, _] from HV0.out.rdg)
 obtain ⟨q0, q1, q2, q3, _⟩ := blk4 HV0.out.ty
 have l0 : W3.cell? ⟨gl, 0, none⟩ = some (.int .i64 (M - n)) := HV0.out.st.left.cell 0
 have l1 := HV0.out.st.left.frozen 0
 subst ez et el
 simp only [List.length_nil] at hW3 HV0
 by_cases hsh : s.size < kp + zn
 ·rw [if_pos (by omega)]
  have HV4 := Lib.hid (HV0.out.less (M - n - 1))
  generalize hW4 : W3.setCell ⟨gl, 0, none⟩ (.int .i64 (M - n - 1)) = W4 at *
  clear q0 q1 q2 q3
  obtain ⟨p0, p1, p2, p3, p4, p5⟩ := blk6 (show Blk W4 w.heap.size 61 #[_, _, _, _, _, _] from HV4.out.rdg)
  obtain ⟨q0, q1, q2, q3, _⟩ := blk4 HV4.out.ty
  unfold rdgV
  clear hS
  go_enter Tryz.func33, Tryz.ntmps33
  go_wp2_with fail
  refine (take_short g s kp zn W4 HV4.out.st.rdr hk (by omega) hsh (by omega)).mono ?_
  rintro e w1 ⟨rfl, hr, ho⟩
  have HV5 := Lib.hid (HV4.out.turn ho hr)
  clear hr ho
  go_wp2_with fail
  refine (text_c ⟨#[]⟩ w1).mono ?_
  rintro e w2 ⟨rfl, hb⟩
  have HV6 := Lib.hid (HV5.out.below hb)
  clear hb
  obtain ⟨n0, n1, n2, m0, m1, m2⟩ := blk3f HV6.out.res
  obtain ⟨e1, e2, y0, y1, y2⟩ := HV6.out.ends (.string ⟨#[]⟩) (.bool false) (.slice none 0 0)
  have E1 := Lib.hid e1
  have E2 := Lib.hid e2
  clear e1 e2
  go_wp2
  have e1 := E1.out
  have e2 := E2.out
  refine bodyPost_ret (v := .agg #[.string ⟨#[]⟩, .bool false, .slice none 0 0]) (by simp [results, Tryz.results33, go_sem, y0, y1, y2]) rfl ?_
  exact ⟨noIt, _, _, _, kp, _, rfl, ItS.text false (by simp [ByteArray.size]), e1, e2, hk, fun h => absurd h (show ¬ (2 : Int) = 0 by decide)⟩
 ·rw [if_neg (by omega)]
  have hX := cut_take s kp zn
  have hXs : (s.extract kp (kp + zn)).size = zn := by rw [size_cut s kp (kp + zn) (by omega)]; omega
  have HX : Hid ((⟨((s.data.toList.drop kp).take zn).toArray⟩ : ByteArray) = s.extract kp (kp + zn)) := Lib.hid (bytes_ext (by rw [hX]))
  rw [HX.out]
  have HMS : Hid ((s.extract kp (kp + zn)).size ≤ 9223372036854775807) := Lib.hid (by omega)
  have HDR : Hid ((s.data.toList.drop kp).drop zn = s.data.toList.drop (kp + zn)) := Lib.hid (by rw [List.drop_drop])
  clear hX hXs
  have HV4 := Lib.hid (HV0.out.less (M - n - 1))
  generalize hW4 : W3.setCell ⟨gl, 0, none⟩ (.int .i64 (M - n - 1)) = W4 at *
  clear q0 q1 q2 q3
  obtain ⟨p0, p1, p2, p3, p4, p5⟩ := blk6 (show Blk W4 w.heap.size 61 #[_, _, _, _, _, _] from HV4.out.rdg)
  obtain ⟨q0, q1, q2, q3, _⟩ := blk4 HV4.out.ty
  unfold rdgV
  clear hS
  go_enter Tryz.func33, Tryz.ntmps33
  go_wp2_with fail
  refine (take_yes g s kp zn W4 HV4.out.st.rdr (by omega) (by omega)).mono ?_
  rintro e w1 ⟨rfl, hr, ho⟩
  have HV5 := Lib.hid (HV4.out.turn ho hr)
  clear hr ho HX
  generalize hT : s.extract kp (kp + zn) = T at *
  have HT := Lib.hid hT
  clear hT
  go_wp2_with fail
  refine (text_c T w1).mono ?_
  rintro e w2 ⟨rfl, hb⟩
  have HV6 := Lib.hid (HV5.out.below hb)
  clear hb
  obtain ⟨n0, n1, n2, m0, m1, m2⟩ := blk3f HV6.out.res
  obtain ⟨e1, e2, y0, y1, y2⟩ := HV6.out.ends (.string T) (.bool false) (.slice none 0 0)
  have E1 := Lib.hid e1
  have E2 := Lib.hid e2
  clear e1 e2
  go_wp2
  have e1 := E1.out
  have e2 := E2.out
  refine bodyPost_ret (v := .agg #[.string T, .bool false, .slice none 0 0]) (by simp [results, Tryz.results33, go_sem, y0, y1, y2]) rfl ?_
  exact ⟨.mk T false [], _, _, _, kp + zn, _, rfl, ItS.text false HMS.out, e1, e2, by omega, fun _ => ⟨by show It.mk T false [] = It.mk (s.extract kp (kp + zn)) false []; rw [HT.out], HDR.out, by simp only; omega⟩⟩
theorem LyR.drew {w : World} {g gl fb : Nat} {s : ByteArray} {k : Nat} {f m : Int} (h : LyR w g gl fb s k f m) : LyR w.drew g gl fb s k f m := ⟨h.rdr.drew, h.left.drew, h.box.drew⟩
theorem value_three (zn : Nat) (A : Option Addr) (cap : Nat) (w : World) (g gl fb : Nat) (s : ByteArray) (kp n : Nat) (M : Int) (hS : LyR w g gl fb s kp 0 (M - n)) (hk : kp ≤ s.size) (hs : s.size ≤ 1099511627776) (hM : ¬ M ≤ n) (hM2 : M ≤ 1024) (hz8 : zn ≤ 65536) (hL : LaidC w) (hg : 0 < g) (hgl : 0 < gl) :
 Calls Tryz.prog 33 #[rdgV g gl fb, .agg #[.int .i64 3, .int .i64 zn, .slice A ([] : List Ty).length cap, .int .i64 0]] w fun e w' => ValEnd w g gl fb s M ((Ty.mk 3 zn [] 0).rd M n (s.data.toList.drop kp)) e w' := by
 have hlt := hS.rdr.lt
 have d0 : decide (M - (n : Int) ≤ 0) = false := decide_eq_false (by omega)
 rw [rd_three hM]
 have HNC := Lib.hid (fun V (hV : LyR V g gl fb s kp 0 (M - n - 1)) (hl : LaidC V) => numberL_c g gl fb s kp zn _ V hV hk (by omega) hz8 hl (by omega))
 have hback := fun (h0 : (cpNext (s.data.toList.drop kp)).2.2 = 0) => (cpNext_back (s.data.toList.drop kp) (cpNext (s.data.toList.drop kp)).1 (cpNext (s.data.toList.drop kp)).2.1 (by rw [← h0])).2.1
 rw [List.length_drop, toList_size] at hback
 have HW := cpRd_ways (cpNext (s.data.toList.drop kp)) zn kp
 obtain ⟨z, ta, tl, ez, et, el⟩ : ∃ (z ta : Int) (tl : List Ty), z = zn ∧ ta = 0 ∧ tl = [] := ⟨_, _, _, rfl, rfl, rfl⟩
 rw [← et, ← el, ← ez]
 have HV0 := Lib.hid (VaW.start (tc := #[.int .i64 (3), .int .i64 z, .slice A tl.length cap, .int .i64 ta]) hS)
 generalize hW3 : (((w.alloc (.cells (rdgC g gl fb) 61)).alloc (.cells #[.int .i64 (3), .int .i64 z, .slice A tl.length cap, .int .i64 ta] 24)).alloc (.cells #[.string ⟨#[]⟩, .bool false, .slice none 0 0] 27)) = W3 at *
 unfold rdgC at hW3
 obtain ⟨p0, p1, p2, p3, p4, p5⟩ := blk6 (show Blk W3 w.heap.size 61 #[_, _, _, _, _, _] from HV0.out.rdg)
 obtain ⟨q0, q1, q2, q3, _⟩ := blk4 HV0.out.ty
 have l0 : W3.cell? ⟨gl, 0, none⟩ = some (.int .i64 (M - n)) := HV0.out.st.left.cell 0
 have l1 := HV0.out.st.left.frozen 0
 subst ez et el
 simp only [List.length_nil] at hW3 HV0
 have hlc4 := fun V (h : VaW w g gl fb s kp 0 (M - n - 1) #[.int .i64 3, .int .i64 zn, .slice A 0 cap, .int .i64 0] V) => hL.only h.only (by simp; omega)
 have HLC := Lib.hid hlc4
 clear hlc4 hL
 generalize cpNext (s.data.toList.drop kp) = N at *
 obtain ⟨Nm, Nz, Ne⟩ := N
 simp only at hback HW ⊢
 rcases HW with ⟨h1, hE, hNN, hK⟩ | ⟨h1, h2, hE, hNN, hK⟩ | ⟨h1, h2, hE, hNN, hK⟩
 ·rw [if_pos h1]
  rw [hE, hNN, hK] at HNC
  have HV4 := Lib.hid (HV0.out.less (M - n - 1))
  generalize hW4 : W3.setCell ⟨gl, 0, none⟩ (.int .i64 (M - n - 1)) = W4 at *
  clear q0 q1 q2 q3
  obtain ⟨p0, p1, p2, p3, p4, p5⟩ := blk6 (show Blk W4 w.heap.size 61 #[_, _, _, _, _, _] from HV4.out.rdg)
  obtain ⟨q0, q1, q2, q3, _⟩ := blk4 HV4.out.ty
  unfold rdgV
  clear hS
  go_enter Tryz.func33, Tryz.ntmps33
  go_wp2_with fail
  have hlc : LaidC W4.drew := HLC.out W4 HV4.out
  refine wp_region_last 9 (fun V => V.cell? ⟨w.heap.size, 0, none⟩ = some (.func (.func 27) #[.pointer (some ⟨g, 0, none⟩)] #[]) ∧ V.cell? ⟨w.heap.size, 4, none⟩ = some (.func (.func 31) #[] #[.pointer (some ⟨fb, 0, none⟩)]) ∧ V.cell? ⟨w.heap.size + 1, 1, none⟩ = some (.int .i64 zn)) (by kernel_rfl) (by kernel_rfl) ?_
  have hHeld : (fun V : World => V.cell? ⟨w.heap.size, 0, none⟩ = some (.func (.func 27) #[.pointer (some ⟨g, 0, none⟩)] #[]) ∧ V.cell? ⟨w.heap.size, 4, none⟩ = some (.func (.func 31) #[] #[.pointer (some ⟨fb, 0, none⟩)]) ∧ V.cell? ⟨w.heap.size + 1, 1, none⟩ = some (.int .i64 zn)) W4.drew := ⟨p0, p4, q1⟩
  refine GT.take (i := 0) (v := .pointer (some ⟨w.heap.size, 0, none⟩)) (by simp only [List.getElem?_toArray, List.getElem?_cons_zero, List.getElem?_cons_succ]; rfl) (by kernel_rfl) (by kernel_rfl) (by kernel_rfl) (by kernel_rfl) (by intro _ _ _ h; exact h) (Or.inl ⟨by rfl, fun V hV => by ((try dsimp only at hV); go_simp)⟩) hHeld ?_
  try simp only [Act.put, List.setIfInBounds_toArray, List.set_cons_zero, List.set_cons_succ]
  refine GT.take (i := 1) (v := .func (.func 27) #[.pointer (some ⟨g, 0, none⟩)] #[]) (by simp only [List.getElem?_toArray, List.getElem?_cons_zero, List.getElem?_cons_succ]; rfl) (by kernel_rfl) (by kernel_rfl) (by kernel_rfl) (by kernel_rfl) (by intro _ _ _ h; exact h) (Or.inl ⟨by rfl, fun V hV => by ((try dsimp only at hV); go_simp)⟩) hHeld ?_
  try simp only [Act.put, List.setIfInBounds_toArray, List.set_cons_zero, List.set_cons_succ]
  refine GT.take (i := 2) (v := .pointer (some ⟨w.heap.size, 4, none⟩)) (by simp only [List.getElem?_toArray, List.getElem?_cons_zero, List.getElem?_cons_succ]; rfl) (by kernel_rfl) (by kernel_rfl) (by kernel_rfl) (by kernel_rfl) (by intro _ _ _ h; exact h) (Or.inl ⟨by rfl, fun V hV => by ((try dsimp only at hV); go_simp)⟩) hHeld ?_
  try simp only [Act.put, List.setIfInBounds_toArray, List.set_cons_zero, List.set_cons_succ]
  refine GT.take (i := 3) (v := .func (.func 31) #[] #[.pointer (some ⟨fb, 0, none⟩)]) (by simp only [List.getElem?_toArray, List.getElem?_cons_zero, List.getElem?_cons_succ]; rfl) (by kernel_rfl) (by kernel_rfl) (by kernel_rfl) (by kernel_rfl) (by intro _ _ _ h; exact h) (Or.inl ⟨by rfl, fun V hV => by ((try dsimp only at hV); go_simp)⟩) hHeld ?_
  try simp only [Act.put, List.setIfInBounds_toArray, List.set_cons_zero, List.set_cons_succ]
  refine GT.take (i := 4) (v := .pointer (some ⟨w.heap.size + 1, 1, none⟩)) (by simp only [List.getElem?_toArray, List.getElem?_cons_zero, List.getElem?_cons_succ]; rfl) (by kernel_rfl) (by kernel_rfl) (by kernel_rfl) (by kernel_rfl) (by intro _ _ _ h; exact h) (Or.inl ⟨by rfl, fun V hV => by ((try dsimp only at hV); go_simp)⟩) hHeld ?_
  try simp only [Act.put, List.setIfInBounds_toArray, List.set_cons_zero, List.set_cons_succ]
  refine GT.take (i := 5) (v := .int .i64 zn) (by simp only [List.getElem?_toArray, List.getElem?_cons_zero, List.getElem?_cons_succ]; rfl) (by kernel_rfl) (by kernel_rfl) (by kernel_rfl) (by kernel_rfl) (by intro _ _ _ h; exact h) (Or.inl ⟨by rfl, fun V hV => by ((try dsimp only at hV); go_simp)⟩) hHeld ?_
  try simp only [Act.put, List.setIfInBounds_toArray, List.set_cons_zero, List.set_cons_succ]
  refine GT.step (i := 6) (by simp only [List.getElem?_toArray, List.getElem?_cons_zero, List.getElem?_cons_succ]; rfl) (by kernel_rfl) (by kernel_rfl) (fun K hK => ?_)
  go_simp
  refine (HNC.out W4.drew HV4.out.st.drew hlc).mono ?_
  rintro e w1 ⟨rfl, hr, ho⟩
  have HV5 := Lib.hid ((HV4.out.below (Below.refl _ _).drew).turn ho hr.rdr)
  have hH5 : (fun V : World => V.cell? ⟨w.heap.size, 0, none⟩ = some (.func (.func 27) #[.pointer (some ⟨g, 0, none⟩)] #[]) ∧ V.cell? ⟨w.heap.size, 4, none⟩ = some (.func (.func 31) #[] #[.pointer (some ⟨fb, 0, none⟩)]) ∧ V.cell? ⟨w.heap.size + 1, 1, none⟩ = some (.int .i64 zn)) w1 := ⟨HV5.out.rdg.cell 0, HV5.out.rdg.cell 4, HV5.out.ty.cell 1⟩
  clear hr ho
  go_wp2_with fail
  refine hK.out _ _ hH5 (fun hHeld => ?_)
  clear hK K
  try simp only [Act.put, List.setIfInBounds_toArray, List.set_cons_zero, List.set_cons_succ]
  refine GT.step (i := 7) (by simp only [List.getElem?_toArray, List.getElem?_cons_zero, List.getElem?_cons_succ]; rfl) (by kernel_rfl) (by kernel_rfl) (fun K hK => ?_)
  go_simp
  refine (take_fault g s kp Ne 0 w1 HV5.out.st.rdr (beq_eq_false_iff_ne.2 h1)).mono ?_
  rintro e w2 ⟨rfl, hr, ho⟩
  have HV6 := Lib.hid (HV5.out.turn ho hr)
  have hH6 : (fun V : World => V.cell? ⟨w.heap.size, 0, none⟩ = some (.func (.func 27) #[.pointer (some ⟨g, 0, none⟩)] #[]) ∧ V.cell? ⟨w.heap.size, 4, none⟩ = some (.func (.func 31) #[] #[.pointer (some ⟨fb, 0, none⟩)]) ∧ V.cell? ⟨w.heap.size + 1, 1, none⟩ = some (.int .i64 zn)) w2 := ⟨HV6.out.rdg.cell 0, HV6.out.rdg.cell 4, HV6.out.ty.cell 1⟩
  clear hr ho
  go_wp2_with fail
  refine hK.out _ _ hH6 (fun hHeld => ?_)
  clear hK K
  try simp only [Act.put, List.setIfInBounds_toArray, List.set_cons_zero, List.set_cons_succ]
  refine GT.step (i := 8) (by simp only [List.getElem?_toArray, List.getElem?_cons_zero, List.getElem?_cons_succ]; rfl) (by kernel_rfl) (by kernel_rfl) (fun K hK => ?_)
  go_simp
  refine (text_c ⟨#[]⟩ w2).mono ?_
  rintro e w3 ⟨rfl, hb⟩
  have HV7 := Lib.hid (HV6.out.below hb)
  have hH7 : (fun V : World => V.cell? ⟨w.heap.size, 0, none⟩ = some (.func (.func 27) #[.pointer (some ⟨g, 0, none⟩)] #[]) ∧ V.cell? ⟨w.heap.size, 4, none⟩ = some (.func (.func 31) #[] #[.pointer (some ⟨fb, 0, none⟩)]) ∧ V.cell? ⟨w.heap.size + 1, 1, none⟩ = some (.int .i64 zn)) w3 := ⟨HV7.out.rdg.cell 0, HV7.out.rdg.cell 4, HV7.out.ty.cell 1⟩
  clear hb
  go_wp2_with fail
  refine hK.out _ _ hH7 (fun hHeld => ?_)
  clear hK K
  try simp only [Act.put, List.setIfInBounds_toArray, List.set_cons_zero, List.set_cons_succ]
  obtain ⟨n0, n1, n2, m0, m1, m2⟩ := blk3f HV7.out.res
  obtain ⟨e1, e2, y0, y1, y2⟩ := HV7.out.ends (.string ⟨#[]⟩) (.bool false) (.slice none 0 0)
  have E1 := Lib.hid e1
  have E2 := Lib.hid e2
  clear e1 e2
  refine GT.last (i := 9) (by simp only [List.getElem?_toArray, List.getElem?_cons_zero, List.getElem?_cons_succ]; rfl) (by kernel_rfl) (by kernel_rfl) (by kernel_rfl) ?_
  go_simp
  go_wp2
  have e1 := E1.out
  have e2 := E2.out
  refine bodyPost_ret (v := .agg #[.string ⟨#[]⟩, .bool false, .slice none 0 0]) (by simp [results, Tryz.results33, go_sem, y0, y1, y2]) rfl ?_
  exact ⟨noIt, _, _, _, kp, _, rfl, ItS.text false (by simp [ByteArray.size]), e1, e2, hk, fun h => absurd h h1⟩
 ·rw [if_neg (by rw [h1]; simp), if_pos (by omega)]
  rw [hE, hNN, hK] at HNC
  have HV4 := Lib.hid (HV0.out.less (M - n - 1))
  generalize hW4 : W3.setCell ⟨gl, 0, none⟩ (.int .i64 (M - n - 1)) = W4 at *
  clear q0 q1 q2 q3
  obtain ⟨p0, p1, p2, p3, p4, p5⟩ := blk6 (show Blk W4 w.heap.size 61 #[_, _, _, _, _, _] from HV4.out.rdg)
  obtain ⟨q0, q1, q2, q3, _⟩ := blk4 HV4.out.ty
  unfold rdgV
  clear hS
  go_enter Tryz.func33, Tryz.ntmps33
  go_wp2_with fail
  have hlc : LaidC W4.drew := HLC.out W4 HV4.out
  refine wp_region_last 9 (fun V => V.cell? ⟨w.heap.size, 0, none⟩ = some (.func (.func 27) #[.pointer (some ⟨g, 0, none⟩)] #[]) ∧ V.cell? ⟨w.heap.size, 4, none⟩ = some (.func (.func 31) #[] #[.pointer (some ⟨fb, 0, none⟩)]) ∧ V.cell? ⟨w.heap.size + 1, 1, none⟩ = some (.int .i64 zn)) (by kernel_rfl) (by kernel_rfl) ?_
  have hHeld : (fun V : World => V.cell? ⟨w.heap.size, 0, none⟩ = some (.func (.func 27) #[.pointer (some ⟨g, 0, none⟩)] #[]) ∧ V.cell? ⟨w.heap.size, 4, none⟩ = some (.func (.func 31) #[] #[.pointer (some ⟨fb, 0, none⟩)]) ∧ V.cell? ⟨w.heap.size + 1, 1, none⟩ = some (.int .i64 zn)) W4.drew := ⟨p0, p4, q1⟩
  refine GT.take (i := 0) (v := .pointer (some ⟨w.heap.size, 0, none⟩)) (by simp only [List.getElem?_toArray, List.getElem?_cons_zero, List.getElem?_cons_succ]; rfl) (by kernel_rfl) (by kernel_rfl) (by kernel_rfl) (by kernel_rfl) (by intro _ _ _ h; exact h) (Or.inl ⟨by rfl, fun V hV => by ((try dsimp only at hV); go_simp)⟩) hHeld ?_
  try simp only [Act.put, List.setIfInBounds_toArray, List.set_cons_zero, List.set_cons_succ]
  refine GT.take (i := 1) (v := .func (.func 27) #[.pointer (some ⟨g, 0, none⟩)] #[]) (by simp only [List.getElem?_toArray, List.getElem?_cons_zero, List.getElem?_cons_succ]; rfl) (by kernel_rfl) (by kernel_rfl) (by kernel_rfl) (by kernel_rfl) (by intro _ _ _ h; exact h) (Or.inl ⟨by rfl, fun V hV => by ((try dsimp only at hV); go_simp)⟩) hHeld ?_
  try simp only [Act.put, List.setIfInBounds_toArray, List.set_cons_zero, List.set_cons_succ]
  refine GT.take (i := 2) (v := .pointer (some ⟨w.heap.size, 4, none⟩)) (by simp only [List.getElem?_toArray, List.getElem?_cons_zero, List.getElem?_cons_succ]; rfl) (by kernel_rfl) (by kernel_rfl) (by kernel_rfl) (by kernel_rfl) (by intro _ _ _ h; exact h) (Or.inl ⟨by rfl, fun V hV => by ((try dsimp only at hV); go_simp)⟩) hHeld ?_
  try simp only [Act.put, List.setIfInBounds_toArray, List.set_cons_zero, List.set_cons_succ]
  refine GT.take (i := 3) (v := .func (.func 31) #[] #[.pointer (some ⟨fb, 0, none⟩)]) (by simp only [List.getElem?_toArray, List.getElem?_cons_zero, List.getElem?_cons_succ]; rfl) (by kernel_rfl) (by kernel_rfl) (by kernel_rfl) (by kernel_rfl) (by intro _ _ _ h; exact h) (Or.inl ⟨by rfl, fun V hV => by ((try dsimp only at hV); go_simp)⟩) hHeld ?_
  try simp only [Act.put, List.setIfInBounds_toArray, List.set_cons_zero, List.set_cons_succ]
  refine GT.take (i := 4) (v := .pointer (some ⟨w.heap.size + 1, 1, none⟩)) (by simp only [List.getElem?_toArray, List.getElem?_cons_zero, List.getElem?_cons_succ]; rfl) (by kernel_rfl) (by kernel_rfl) (by kernel_rfl) (by kernel_rfl) (by intro _ _ _ h; exact h) (Or.inl ⟨by rfl, fun V hV => by ((try dsimp only at hV); go_simp)⟩) hHeld ?_
  try simp only [Act.put, List.setIfInBounds_toArray, List.set_cons_zero, List.set_cons_succ]
  refine GT.take (i := 5) (v := .int .i64 zn) (by simp only [List.getElem?_toArray, List.getElem?_cons_zero, List.getElem?_cons_succ]; rfl) (by kernel_rfl) (by kernel_rfl) (by kernel_rfl) (by kernel_rfl) (by intro _ _ _ h; exact h) (Or.inl ⟨by rfl, fun V hV => by ((try dsimp only at hV); go_simp)⟩) hHeld ?_
  try simp only [Act.put, List.setIfInBounds_toArray, List.set_cons_zero, List.set_cons_succ]
  refine GT.step (i := 6) (by simp only [List.getElem?_toArray, List.getElem?_cons_zero, List.getElem?_cons_succ]; rfl) (by kernel_rfl) (by kernel_rfl) (fun K hK => ?_)
  go_simp
  refine (HNC.out W4.drew HV4.out.st.drew hlc).mono ?_
  rintro e w1 ⟨rfl, hr, ho⟩
  have HV5 := Lib.hid ((HV4.out.below (Below.refl _ _).drew).turn ho hr.rdr)
  have hH5 : (fun V : World => V.cell? ⟨w.heap.size, 0, none⟩ = some (.func (.func 27) #[.pointer (some ⟨g, 0, none⟩)] #[]) ∧ V.cell? ⟨w.heap.size, 4, none⟩ = some (.func (.func 31) #[] #[.pointer (some ⟨fb, 0, none⟩)]) ∧ V.cell? ⟨w.heap.size + 1, 1, none⟩ = some (.int .i64 zn)) w1 := ⟨HV5.out.rdg.cell 0, HV5.out.rdg.cell 4, HV5.out.ty.cell 1⟩
  clear hr ho
  go_wp2_with fail
  refine hK.out _ _ hH5 (fun hHeld => ?_)
  clear hK K
  try simp only [Act.put, List.setIfInBounds_toArray, List.set_cons_zero, List.set_cons_succ]
  refine GT.step (i := 7) (by simp only [List.getElem?_toArray, List.getElem?_cons_zero, List.getElem?_cons_succ]; rfl) (by kernel_rfl) (by kernel_rfl) (fun K hK => ?_)
  go_simp
  refine (take_fault g s kp 5 0 w1 HV5.out.st.rdr (by decide)).mono ?_
  rintro e w2 ⟨rfl, hr, ho⟩
  have HV6 := Lib.hid (HV5.out.turn ho hr)
  have hH6 : (fun V : World => V.cell? ⟨w.heap.size, 0, none⟩ = some (.func (.func 27) #[.pointer (some ⟨g, 0, none⟩)] #[]) ∧ V.cell? ⟨w.heap.size, 4, none⟩ = some (.func (.func 31) #[] #[.pointer (some ⟨fb, 0, none⟩)]) ∧ V.cell? ⟨w.heap.size + 1, 1, none⟩ = some (.int .i64 zn)) w2 := ⟨HV6.out.rdg.cell 0, HV6.out.rdg.cell 4, HV6.out.ty.cell 1⟩
  clear hr ho
  go_wp2_with fail
  refine hK.out _ _ hH6 (fun hHeld => ?_)
  clear hK K
  try simp only [Act.put, List.setIfInBounds_toArray, List.set_cons_zero, List.set_cons_succ]
  refine GT.step (i := 8) (by simp only [List.getElem?_toArray, List.getElem?_cons_zero, List.getElem?_cons_succ]; rfl) (by kernel_rfl) (by kernel_rfl) (fun K hK => ?_)
  go_simp
  refine (text_c ⟨#[]⟩ w2).mono ?_
  rintro e w3 ⟨rfl, hb⟩
  have HV7 := Lib.hid (HV6.out.below hb)
  have hH7 : (fun V : World => V.cell? ⟨w.heap.size, 0, none⟩ = some (.func (.func 27) #[.pointer (some ⟨g, 0, none⟩)] #[]) ∧ V.cell? ⟨w.heap.size, 4, none⟩ = some (.func (.func 31) #[] #[.pointer (some ⟨fb, 0, none⟩)]) ∧ V.cell? ⟨w.heap.size + 1, 1, none⟩ = some (.int .i64 zn)) w3 := ⟨HV7.out.rdg.cell 0, HV7.out.rdg.cell 4, HV7.out.ty.cell 1⟩
  clear hb
  go_wp2_with fail
  refine hK.out _ _ hH7 (fun hHeld => ?_)
  clear hK K
  try simp only [Act.put, List.setIfInBounds_toArray, List.set_cons_zero, List.set_cons_succ]
  obtain ⟨n0, n1, n2, m0, m1, m2⟩ := blk3f HV7.out.res
  obtain ⟨e1, e2, y0, y1, y2⟩ := HV7.out.ends (.string ⟨#[]⟩) (.bool false) (.slice none 0 0)
  have E1 := Lib.hid e1
  have E2 := Lib.hid e2
  clear e1 e2
  refine GT.last (i := 9) (by simp only [List.getElem?_toArray, List.getElem?_cons_zero, List.getElem?_cons_succ]; rfl) (by kernel_rfl) (by kernel_rfl) (by kernel_rfl) ?_
  go_simp
  go_wp2
  have e1 := E1.out
  have e2 := E2.out
  refine bodyPost_ret (v := .agg #[.string ⟨#[]⟩, .bool false, .slice none 0 0]) (by simp [results, Tryz.results33, go_sem, y0, y1, y2]) rfl ?_
  exact ⟨noIt, _, _, _, kp, _, rfl, ItS.text false (by simp [ByteArray.size]), e1, e2, hk, fun h => absurd h (show ¬ (5 : Int) = 0 by decide)⟩
 ·rw [if_neg (by rw [h1]; simp), if_neg (by omega)]
  rw [hE, hNN, hK] at HNC
  have hb2 := hback h1
  rw [List.drop_drop, List.length_drop, toList_size]
  by_cases hsh : s.size < kp + Nz + Nm
  ·rw [if_pos (by omega)]
   have HV4 := Lib.hid (HV0.out.less (M - n - 1))
   generalize hW4 : W3.setCell ⟨gl, 0, none⟩ (.int .i64 (M - n - 1)) = W4 at *
   clear q0 q1 q2 q3
   obtain ⟨p0, p1, p2, p3, p4, p5⟩ := blk6 (show Blk W4 w.heap.size 61 #[_, _, _, _, _, _] from HV4.out.rdg)
   obtain ⟨q0, q1, q2, q3, _⟩ := blk4 HV4.out.ty
   unfold rdgV
   clear hS
   go_enter Tryz.func33, Tryz.ntmps33
   go_wp2_with fail
   have hlc : LaidC W4.drew := HLC.out W4 HV4.out
   refine wp_region_last 9 (fun V => V.cell? ⟨w.heap.size, 0, none⟩ = some (.func (.func 27) #[.pointer (some ⟨g, 0, none⟩)] #[]) ∧ V.cell? ⟨w.heap.size, 4, none⟩ = some (.func (.func 31) #[] #[.pointer (some ⟨fb, 0, none⟩)]) ∧ V.cell? ⟨w.heap.size + 1, 1, none⟩ = some (.int .i64 zn)) (by kernel_rfl) (by kernel_rfl) ?_
   have hHeld : (fun V : World => V.cell? ⟨w.heap.size, 0, none⟩ = some (.func (.func 27) #[.pointer (some ⟨g, 0, none⟩)] #[]) ∧ V.cell? ⟨w.heap.size, 4, none⟩ = some (.func (.func 31) #[] #[.pointer (some ⟨fb, 0, none⟩)]) ∧ V.cell? ⟨w.heap.size + 1, 1, none⟩ = some (.int .i64 zn)) W4.drew := ⟨p0, p4, q1⟩
   refine GT.take (i := 0) (v := .pointer (some ⟨w.heap.size, 0, none⟩)) (by simp only [List.getElem?_toArray, List.getElem?_cons_zero, List.getElem?_cons_succ]; rfl) (by kernel_rfl) (by kernel_rfl) (by kernel_rfl) (by kernel_rfl) (by intro _ _ _ h; exact h) (Or.inl ⟨by rfl, fun V hV => by ((try dsimp only at hV); go_simp)⟩) hHeld ?_
   try simp only [Act.put, List.setIfInBounds_toArray, List.set_cons_zero, List.set_cons_succ]
   refine GT.take (i := 1) (v := .func (.func 27) #[.pointer (some ⟨g, 0, none⟩)] #[]) (by simp only [List.getElem?_toArray, List.getElem?_cons_zero, List.getElem?_cons_succ]; rfl) (by kernel_rfl) (by kernel_rfl) (by kernel_rfl) (by kernel_rfl) (by intro _ _ _ h; exact h) (Or.inl ⟨by rfl, fun V hV => by ((try dsimp only at hV); go_simp)⟩) hHeld ?_
   try simp only [Act.put, List.setIfInBounds_toArray, List.set_cons_zero, List.set_cons_succ]
   refine GT.take (i := 2) (v := .pointer (some ⟨w.heap.size, 4, none⟩)) (by simp only [List.getElem?_toArray, List.getElem?_cons_zero, List.getElem?_cons_succ]; rfl) (by kernel_rfl) (by kernel_rfl) (by kernel_rfl) (by kernel_rfl) (by intro _ _ _ h; exact h) (Or.inl ⟨by rfl, fun V hV => by ((try dsimp only at hV); go_simp)⟩) hHeld ?_
   try simp only [Act.put, List.setIfInBounds_toArray, List.set_cons_zero, List.set_cons_succ]
   refine GT.take (i := 3) (v := .func (.func 31) #[] #[.pointer (some ⟨fb, 0, none⟩)]) (by simp only [List.getElem?_toArray, List.getElem?_cons_zero, List.getElem?_cons_succ]; rfl) (by kernel_rfl) (by kernel_rfl) (by kernel_rfl) (by kernel_rfl) (by intro _ _ _ h; exact h) (Or.inl ⟨by rfl, fun V hV => by ((try dsimp only at hV); go_simp)⟩) hHeld ?_
   try simp only [Act.put, List.setIfInBounds_toArray, List.set_cons_zero, List.set_cons_succ]
   refine GT.take (i := 4) (v := .pointer (some ⟨w.heap.size + 1, 1, none⟩)) (by simp only [List.getElem?_toArray, List.getElem?_cons_zero, List.getElem?_cons_succ]; rfl) (by kernel_rfl) (by kernel_rfl) (by kernel_rfl) (by kernel_rfl) (by intro _ _ _ h; exact h) (Or.inl ⟨by rfl, fun V hV => by ((try dsimp only at hV); go_simp)⟩) hHeld ?_
   try simp only [Act.put, List.setIfInBounds_toArray, List.set_cons_zero, List.set_cons_succ]
   refine GT.take (i := 5) (v := .int .i64 zn) (by simp only [List.getElem?_toArray, List.getElem?_cons_zero, List.getElem?_cons_succ]; rfl) (by kernel_rfl) (by kernel_rfl) (by kernel_rfl) (by kernel_rfl) (by intro _ _ _ h; exact h) (Or.inl ⟨by rfl, fun V hV => by ((try dsimp only at hV); go_simp)⟩) hHeld ?_
   try simp only [Act.put, List.setIfInBounds_toArray, List.set_cons_zero, List.set_cons_succ]
   refine GT.step (i := 6) (by simp only [List.getElem?_toArray, List.getElem?_cons_zero, List.getElem?_cons_succ]; rfl) (by kernel_rfl) (by kernel_rfl) (fun K hK => ?_)
   go_simp
   refine (HNC.out W4.drew HV4.out.st.drew hlc).mono ?_
   rintro e w1 ⟨rfl, hr, ho⟩
   have HV5 := Lib.hid ((HV4.out.below (Below.refl _ _).drew).turn ho hr.rdr)
   have hH5 : (fun V : World => V.cell? ⟨w.heap.size, 0, none⟩ = some (.func (.func 27) #[.pointer (some ⟨g, 0, none⟩)] #[]) ∧ V.cell? ⟨w.heap.size, 4, none⟩ = some (.func (.func 31) #[] #[.pointer (some ⟨fb, 0, none⟩)]) ∧ V.cell? ⟨w.heap.size + 1, 1, none⟩ = some (.int .i64 zn)) w1 := ⟨HV5.out.rdg.cell 0, HV5.out.rdg.cell 4, HV5.out.ty.cell 1⟩
   clear hr ho
   go_wp2_with fail
   refine hK.out _ _ hH5 (fun hHeld => ?_)
   clear hK K
   try simp only [Act.put, List.setIfInBounds_toArray, List.set_cons_zero, List.set_cons_succ]
   refine GT.step (i := 7) (by simp only [List.getElem?_toArray, List.getElem?_cons_zero, List.getElem?_cons_succ]; rfl) (by kernel_rfl) (by kernel_rfl) (fun K hK => ?_)
   go_simp
   refine (take_short g s (kp + Nz) Nm w1 HV5.out.st.rdr (by omega) (by omega) hsh (by omega)).mono ?_
   rintro e w2 ⟨rfl, hr, ho⟩
   have HV6 := Lib.hid (HV5.out.turn ho hr)
   have hH6 : (fun V : World => V.cell? ⟨w.heap.size, 0, none⟩ = some (.func (.func 27) #[.pointer (some ⟨g, 0, none⟩)] #[]) ∧ V.cell? ⟨w.heap.size, 4, none⟩ = some (.func (.func 31) #[] #[.pointer (some ⟨fb, 0, none⟩)]) ∧ V.cell? ⟨w.heap.size + 1, 1, none⟩ = some (.int .i64 zn)) w2 := ⟨HV6.out.rdg.cell 0, HV6.out.rdg.cell 4, HV6.out.ty.cell 1⟩
   clear hr ho
   go_wp2_with fail
   refine hK.out _ _ hH6 (fun hHeld => ?_)
   clear hK K
   try simp only [Act.put, List.setIfInBounds_toArray, List.set_cons_zero, List.set_cons_succ]
   refine GT.step (i := 8) (by simp only [List.getElem?_toArray, List.getElem?_cons_zero, List.getElem?_cons_succ]; rfl) (by kernel_rfl) (by kernel_rfl) (fun K hK => ?_)
   go_simp
   refine (text_c ⟨#[]⟩ w2).mono ?_
   rintro e w3 ⟨rfl, hb⟩
   have HV7 := Lib.hid (HV6.out.below hb)
   have hH7 : (fun V : World => V.cell? ⟨w.heap.size, 0, none⟩ = some (.func (.func 27) #[.pointer (some ⟨g, 0, none⟩)] #[]) ∧ V.cell? ⟨w.heap.size, 4, none⟩ = some (.func (.func 31) #[] #[.pointer (some ⟨fb, 0, none⟩)]) ∧ V.cell? ⟨w.heap.size + 1, 1, none⟩ = some (.int .i64 zn)) w3 := ⟨HV7.out.rdg.cell 0, HV7.out.rdg.cell 4, HV7.out.ty.cell 1⟩
   clear hb
   go_wp2_with fail
   refine hK.out _ _ hH7 (fun hHeld => ?_)
   clear hK K
   try simp only [Act.put, List.setIfInBounds_toArray, List.set_cons_zero, List.set_cons_succ]
   obtain ⟨n0, n1, n2, m0, m1, m2⟩ := blk3f HV7.out.res
   obtain ⟨e1, e2, y0, y1, y2⟩ := HV7.out.ends (.string ⟨#[]⟩) (.bool false) (.slice none 0 0)
   have E1 := Lib.hid e1
   have E2 := Lib.hid e2
   clear e1 e2
   refine GT.last (i := 9) (by simp only [List.getElem?_toArray, List.getElem?_cons_zero, List.getElem?_cons_succ]; rfl) (by kernel_rfl) (by kernel_rfl) (by kernel_rfl) ?_
   go_simp
   go_wp2
   have e1 := E1.out
   have e2 := E2.out
   refine bodyPost_ret (v := .agg #[.string ⟨#[]⟩, .bool false, .slice none 0 0]) (by simp [results, Tryz.results33, go_sem, y0, y1, y2]) rfl ?_
   exact ⟨noIt, _, _, _, kp + Nz, _, rfl, ItS.text false (by simp [ByteArray.size]), e1, e2, by omega, fun h => absurd h (show ¬ (2 : Int) = 0 by decide)⟩
  ·rw [if_neg (by omega)]
   have hX := cut_take s (kp + Nz) Nm
   have hXs : (s.extract (kp + Nz) (kp + Nz + Nm)).size = Nm := by rw [size_cut s (kp + Nz) (kp + Nz + Nm) (by omega)]; omega
   have HX : Hid ((⟨((s.data.toList.drop (kp + Nz)).take Nm).toArray⟩ : ByteArray) = s.extract (kp + Nz) (kp + Nz + Nm)) := Lib.hid (bytes_ext (by rw [hX]))
   rw [HX.out]
   have HMS : Hid ((s.extract (kp + Nz) (kp + Nz + Nm)).size ≤ 9223372036854775807) := Lib.hid (by omega)
   have HDR : Hid ((s.data.toList.drop (kp + Nz)).drop Nm = s.data.toList.drop (kp + Nz + Nm)) := Lib.hid (by rw [List.drop_drop])
   clear hX hXs
   have HV4 := Lib.hid (HV0.out.less (M - n - 1))
   generalize hW4 : W3.setCell ⟨gl, 0, none⟩ (.int .i64 (M - n - 1)) = W4 at *
   clear q0 q1 q2 q3
   obtain ⟨p0, p1, p2, p3, p4, p5⟩ := blk6 (show Blk W4 w.heap.size 61 #[_, _, _, _, _, _] from HV4.out.rdg)
   obtain ⟨q0, q1, q2, q3, _⟩ := blk4 HV4.out.ty
   unfold rdgV
   clear hS
   go_enter Tryz.func33, Tryz.ntmps33
   go_wp2_with fail
   have hlc : LaidC W4.drew := HLC.out W4 HV4.out
   refine wp_region_last 9 (fun V => V.cell? ⟨w.heap.size, 0, none⟩ = some (.func (.func 27) #[.pointer (some ⟨g, 0, none⟩)] #[]) ∧ V.cell? ⟨w.heap.size, 4, none⟩ = some (.func (.func 31) #[] #[.pointer (some ⟨fb, 0, none⟩)]) ∧ V.cell? ⟨w.heap.size + 1, 1, none⟩ = some (.int .i64 zn)) (by kernel_rfl) (by kernel_rfl) ?_
   have hHeld : (fun V : World => V.cell? ⟨w.heap.size, 0, none⟩ = some (.func (.func 27) #[.pointer (some ⟨g, 0, none⟩)] #[]) ∧ V.cell? ⟨w.heap.size, 4, none⟩ = some (.func (.func 31) #[] #[.pointer (some ⟨fb, 0, none⟩)]) ∧ V.cell? ⟨w.heap.size + 1, 1, none⟩ = some (.int .i64 zn)) W4.drew := ⟨p0, p4, q1⟩
   refine GT.take (i := 0) (v := .pointer (some ⟨w.heap.size, 0, none⟩)) (by simp only [List.getElem?_toArray, List.getElem?_cons_zero, List.getElem?_cons_succ]; rfl) (by kernel_rfl) (by kernel_rfl) (by kernel_rfl) (by kernel_rfl) (by intro _ _ _ h; exact h) (Or.inl ⟨by rfl, fun V hV => by ((try dsimp only at hV); go_simp)⟩) hHeld ?_
   try simp only [Act.put, List.setIfInBounds_toArray, List.set_cons_zero, List.set_cons_succ]
   refine GT.take (i := 1) (v := .func (.func 27) #[.pointer (some ⟨g, 0, none⟩)] #[]) (by simp only [List.getElem?_toArray, List.getElem?_cons_zero, List.getElem?_cons_succ]; rfl) (by kernel_rfl) (by kernel_rfl) (by kernel_rfl) (by kernel_rfl) (by intro _ _ _ h; exact h) (Or.inl ⟨by rfl, fun V hV => by ((try dsimp only at hV); go_simp)⟩) hHeld ?_
   try simp only [Act.put, List.setIfInBounds_toArray, List.set_cons_zero, List.set_cons_succ]
   refine GT.take (i := 2) (v := .pointer (some ⟨w.heap.size, 4, none⟩)) (by simp only [List.getElem?_toArray, List.getElem?_cons_zero, List.getElem?_cons_succ]; rfl) (by kernel_rfl) (by kernel_rfl) (by kernel_rfl) (by kernel_rfl) (by intro _ _ _ h; exact h) (Or.inl ⟨by rfl, fun V hV => by ((try dsimp only at hV); go_simp)⟩) hHeld ?_
   try simp only [Act.put, List.setIfInBounds_toArray, List.set_cons_zero, List.set_cons_succ]
   refine GT.take (i := 3) (v := .func (.func 31) #[] #[.pointer (some ⟨fb, 0, none⟩)]) (by simp only [List.getElem?_toArray, List.getElem?_cons_zero, List.getElem?_cons_succ]; rfl) (by kernel_rfl) (by kernel_rfl) (by kernel_rfl) (by kernel_rfl) (by intro _ _ _ h; exact h) (Or.inl ⟨by rfl, fun V hV => by ((try dsimp only at hV); go_simp)⟩) hHeld ?_
   try simp only [Act.put, List.setIfInBounds_toArray, List.set_cons_zero, List.set_cons_succ]
   refine GT.take (i := 4) (v := .pointer (some ⟨w.heap.size + 1, 1, none⟩)) (by simp only [List.getElem?_toArray, List.getElem?_cons_zero, List.getElem?_cons_succ]; rfl) (by kernel_rfl) (by kernel_rfl) (by kernel_rfl) (by kernel_rfl) (by intro _ _ _ h; exact h) (Or.inl ⟨by rfl, fun V hV => by ((try dsimp only at hV); go_simp)⟩) hHeld ?_
   try simp only [Act.put, List.setIfInBounds_toArray, List.set_cons_zero, List.set_cons_succ]
   refine GT.take (i := 5) (v := .int .i64 zn) (by simp only [List.getElem?_toArray, List.getElem?_cons_zero, List.getElem?_cons_succ]; rfl) (by kernel_rfl) (by kernel_rfl) (by kernel_rfl) (by kernel_rfl) (by intro _ _ _ h; exact h) (Or.inl ⟨by rfl, fun V hV => by ((try dsimp only at hV); go_simp)⟩) hHeld ?_
   try simp only [Act.put, List.setIfInBounds_toArray, List.set_cons_zero, List.set_cons_succ]
   refine GT.step (i := 6) (by simp only [List.getElem?_toArray, List.getElem?_cons_zero, List.getElem?_cons_succ]; rfl) (by kernel_rfl) (by kernel_rfl) (fun K hK => ?_)
   go_simp
   refine (HNC.out W4.drew HV4.out.st.drew hlc).mono ?_
   rintro e w1 ⟨rfl, hr, ho⟩
   have HV5 := Lib.hid ((HV4.out.below (Below.refl _ _).drew).turn ho hr.rdr)
   have hH5 : (fun V : World => V.cell? ⟨w.heap.size, 0, none⟩ = some (.func (.func 27) #[.pointer (some ⟨g, 0, none⟩)] #[]) ∧ V.cell? ⟨w.heap.size, 4, none⟩ = some (.func (.func 31) #[] #[.pointer (some ⟨fb, 0, none⟩)]) ∧ V.cell? ⟨w.heap.size + 1, 1, none⟩ = some (.int .i64 zn)) w1 := ⟨HV5.out.rdg.cell 0, HV5.out.rdg.cell 4, HV5.out.ty.cell 1⟩
   clear hr ho
   go_wp2_with fail
   refine hK.out _ _ hH5 (fun hHeld => ?_)
   clear hK K
   try simp only [Act.put, List.setIfInBounds_toArray, List.set_cons_zero, List.set_cons_succ]
   refine GT.step (i := 7) (by simp only [List.getElem?_toArray, List.getElem?_cons_zero, List.getElem?_cons_succ]; rfl) (by kernel_rfl) (by kernel_rfl) (fun K hK => ?_)
   go_simp
   refine (take_yes g s (kp + Nz) Nm w1 HV5.out.st.rdr (by omega) (by omega)).mono ?_
   rintro e w2 ⟨rfl, hr, ho⟩
   have HV6 := Lib.hid (HV5.out.turn ho hr)
   have hH6 : (fun V : World => V.cell? ⟨w.heap.size, 0, none⟩ = some (.func (.func 27) #[.pointer (some ⟨g, 0, none⟩)] #[]) ∧ V.cell? ⟨w.heap.size, 4, none⟩ = some (.func (.func 31) #[] #[.pointer (some ⟨fb, 0, none⟩)]) ∧ V.cell? ⟨w.heap.size + 1, 1, none⟩ = some (.int .i64 zn)) w2 := ⟨HV6.out.rdg.cell 0, HV6.out.rdg.cell 4, HV6.out.ty.cell 1⟩
   clear hr ho
   go_wp2_with fail
   refine hK.out _ _ hH6 (fun hHeld => ?_)
   clear hK K
   try simp only [Act.put, List.setIfInBounds_toArray, List.set_cons_zero, List.set_cons_succ]
   refine GT.step (i := 8) (by simp only [List.getElem?_toArray, List.getElem?_cons_zero, List.getElem?_cons_succ]; rfl) (by kernel_rfl) (by kernel_rfl) (fun K hK => ?_)
   go_simp
   refine (text_c (s.extract (kp + Nz) (kp + Nz + Nm)) w2).mono ?_
   rintro e w3 ⟨rfl, hb⟩
   have HV7 := Lib.hid (HV6.out.below hb)
   have hH7 : (fun V : World => V.cell? ⟨w.heap.size, 0, none⟩ = some (.func (.func 27) #[.pointer (some ⟨g, 0, none⟩)] #[]) ∧ V.cell? ⟨w.heap.size, 4, none⟩ = some (.func (.func 31) #[] #[.pointer (some ⟨fb, 0, none⟩)]) ∧ V.cell? ⟨w.heap.size + 1, 1, none⟩ = some (.int .i64 zn)) w3 := ⟨HV7.out.rdg.cell 0, HV7.out.rdg.cell 4, HV7.out.ty.cell 1⟩
   clear hb
   go_wp2_with fail
   refine hK.out _ _ hH7 (fun hHeld => ?_)
   clear hK K
   try simp only [Act.put, List.setIfInBounds_toArray, List.set_cons_zero, List.set_cons_succ]
   obtain ⟨n0, n1, n2, m0, m1, m2⟩ := blk3f HV7.out.res
   obtain ⟨e1, e2, y0, y1, y2⟩ := HV7.out.ends (.string (s.extract (kp + Nz) (kp + Nz + Nm))) (.bool false) (.slice none 0 0)
   have E1 := Lib.hid e1
   have E2 := Lib.hid e2
   clear e1 e2
   refine GT.last (i := 9) (by simp only [List.getElem?_toArray, List.getElem?_cons_zero, List.getElem?_cons_succ]; rfl) (by kernel_rfl) (by kernel_rfl) (by kernel_rfl) ?_
   go_simp
   go_wp2
   have e1 := E1.out
   have e2 := E2.out
   refine bodyPost_ret (v := .agg #[.string (s.extract (kp + Nz) (kp + Nz + Nm)), .bool false, .slice none 0 0]) (by simp [results, Tryz.results33, go_sem, y0, y1, y2]) rfl ?_
   exact ⟨.mk (s.extract (kp + Nz) (kp + Nz + Nm)) false [], _, _, _, kp + Nz + Nm, _, rfl, ItS.text false HMS.out, e1, e2, by omega, fun _ => ⟨rfl, HDR.out, by simp only; omega⟩⟩
end Go.Proofs.YtcppbdbbgakfcaaGreatDoor
