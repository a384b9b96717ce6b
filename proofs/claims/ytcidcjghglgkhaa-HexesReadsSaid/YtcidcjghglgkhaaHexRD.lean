/- The document's Dump of layer 27. -/
import Derived.Test.YtcidcjghglgkhaaHexR
namespace Go.Proofs.Ytcidcjghglgkhaa
set_option linter.unusedVariables false
set_option linter.unusedSimpArgs false
open Go.RowKit

theorem nbL_step (a k : Nat) (z : ByteArray) (h : z.data.toList = nbL a k) : ((⟨#[hxd (a / 16 ^ k % 16)]⟩ : ByteArray) ++ z).data.toList = nbL a (k + 1) := by rw [toList_app, h]; simp [nbL]
theorem div16 (a k : Nat) : a / 16 ^ k / 16 = a / 16 ^ (k + 1) := by rw [Nat.div_div_eq_div_mul, Nat.pow_succ]
theorem cut_at (s : ByteArray) (k : Nat) (h : k < s.size) : s.extract k (k + 1) = ⟨#[s[k]]⟩ := bytes_ext (by rw [cut_one s k h])
theorem piece_cut (s : ByteArray) (k j : Nat) (hj : j = min (16 * k + 16) s.size) : (s.extract (16 * k) j).data.toList = piece s.data.toList 16 k := by
  rw [toList_cut, piece, hj, Nat.mul_comm k 16]
  rcases Nat.le_total (16 * k + 16) s.size with h | h
  · rw [Nat.min_eq_left h, List.drop_take, Nat.add_sub_cancel_left]
  · rw [Nat.min_eq_right h, take_all, List.take_of_length_le (by rw [List.length_drop, toList_size]; omega)]
/-- The string grows: what comes. -/
theorem app_lit (z : ByteArray) (l : List UInt8) (L : List UInt8) (h : z.data.toList = L) : (z ++ ⟨l.toArray⟩).data.toList = L ++ l := by rw [toList_app, h]
set_option maxRecDepth 100000 in
set_option maxHeartbeats 3200000 in
theorem refDump_c (s : ByteArray) (w : World) (hs : s.size ≤ 100000) :
    Calls Try.prog 40 #[.string s] w fun e w' => e = .returned (.string ⟨(dumpL s.data.toList).toArray⟩) ∧ Below w.heap.size w w' := by
  obtain ⟨S, HS⟩ : ∃ S, Hid (S = s.data.toList) := ⟨_, Lib.hid rfl⟩
  rw [← HS.out]
  have HL : Hid (S.length = s.size) := Lib.hid (by rw [HS.out, toList_size])
  go_enter Try.func40, Try.ntmps40
  go_wp2_with fail
  go_loopw [3, 4] (fun y i wr => ∃ k q : Nat, Hid (q = 16 * k) ∧ Hid (k ≤ nCh S.length 16) ∧ q ≤ s.size + 15 ∧ i = .int .i64 q ∧ ∃ z : ByteArray, y = .string z ∧ Hid (z.data.toList = (dmpF S (List.range k)).2) ∧ Below w.heap.size w wr) (fun _ i _ => s.size + 16 - (intOf i).toNat)
  case atStart => exact ⟨0, 0, Lib.hid rfl, Lib.hid (by omega), by omega, rfl, _, rfl, Lib.hid (by simp [dmpF]), Below.refl _ _⟩
  case round =>
    obtain ⟨k, q, Hq, Hk, hq, rfl, z, rfl, Hz, hb⟩ := hrel
    have hzl : z.size ≤ 7500000 := by
      have h1 := (dmpF_bound S (List.range k)).2
      have h2 := nCh_le S.length 16 (by omega)
      have h3 := Hk.out
      have h4 := HL.out
      rw [← toList_size, Hz.out]
      rw [List.length_range] at h1
      omega
    by_cases hlt : q < s.size
    · obtain ⟨j, hj⟩ : ∃ j, min (q + 16) s.size = j := ⟨_, rfl⟩
      have hj1 : q ≤ j := by omega
      have hj2 : j ≤ s.size := by omega
      have hj3 : j ≤ q + 16 := by omega
      have hji : min ((q : Int) + 16) (s.size : Int) = (j : Int) := by omega
      obtain ⟨p, hp⟩ : ∃ p, s.extract q j = p := ⟨_, rfl⟩
      have HPL : Hid (p.data.toList = piece S 16 k) := Lib.hid (by rw [← hp, Hq.out, HS.out]; exact piece_cut s k j (by rw [← hj, Hq.out]))
      have hps : p.size ≤ 16 := by rw [← hp, size_cut s q j hj2]; omega
      have HST : Hid ((dmpF S (List.range (k + 1))).2 = (dmpF S (List.range k)).2 ++ lineL q p.data.toList) := Lib.hid (by
        have h1 := (dmpF_at S k Hk.out).1
        rw [List.range_succ, dmpF_snoc, dmpStep, h1, HPL.out, Nat.min_eq_left (by rw [HL.out, ← Hq.out]; omega), Hq.out])
      clear hj
      obtain ⟨P, HP⟩ : ∃ P, Hid (P = p.data.toList) := ⟨_, Lib.hid rfl⟩
      have HPS : Hid (P.length = p.size) := Lib.hid (by rw [HP.out, toList_size])
      rw [← HP.out] at HST
      go_wp2_with fail
      go_loop [6, 7, 8] (fun n f i => ∃ k m : Nat, k ≤ 8 ∧ i = .int .i64 k ∧ Hid (m = q / 16 ^ k) ∧ m ≤ 100015 ∧ n = .int .i64 m ∧ ∃ y : ByteArray, f = .string y ∧ Hid (y.data.toList = nbL q k)) (fun _ _ i => 8 - (intOf i).toNat)
      case atStart => exact ⟨0, q, by omega, rfl, Lib.hid (by simp), by omega, rfl, _, rfl, Lib.hid rfl⟩
      case round =>
        obtain ⟨i, m, hi8, rfl, Hm, hm, rfl, y, rfl, Hy⟩ := hrel
        have hys : y.size ≤ 8 := by rw [← toList_size, Hy.out, nbL_length]; exact hi8
        by_cases hi : i < 8
        · obtain ⟨X, HX⟩ : ∃ X, Hid ((⟨#[hxd (m % 16)]⟩ : ByteArray) = X) := ⟨_, Lib.hid rfl⟩
          have hXs : X.size = 1 := by rw [← HX.out]; rfl
          have D1 := Lib.hid (fun w => digitI_c ((m : Int) % 16) _ _ (by omega) (by omega) HX.out w)
          have HN : Hid ((X ++ y).data.toList = nbL q (i + 1)) := Lib.hid (by rw [← HX.out, Hm.out]; exact nbL_step q i y Hy.out)
          have HM : Hid (m / 16 = q / 16 ^ (i + 1)) := Lib.hid (by rw [Hm.out, div16])
          clear HX
          go_wp2_with fail
          refine (D1.out _).mono ?_
          rintro e w' ⟨rfl, rfl⟩
          go_wp2
          go_round
          case rel => exact ⟨i + 1, m / 16, by omega, by go_num, HM, by omega, by go_num, _, rfl, HN⟩
          case measure => simp [intOf]; omega
        · have HY : Hid ((z ++ y).data.toList = (dmpF S (List.range k)).2 ++ hxL (leD q 4).reverse) := Lib.hid (by
            have : i = 2 * 4 := by omega
            rw [toList_app, Hz.out, Hy.out, this, nbL_hx])
          obtain ⟨G, HG⟩ : ∃ G, Hid (G = (dmpF S (List.range k)).2 ++ hxL (leD q 4).reverse) := ⟨_, Lib.hid rfl⟩
          rw [← HG.out] at HY
          have HF : Hid (G ++ spL P ++ [32, 32] ++ P.map dot ++ [10] = (dmpF S (List.range (k + 1))).2) := Lib.hid (by rw [HST.out, HG.out]; simp [lineL])
          have hgs : G.length ≤ 7500008 := by rw [← HY.out, toList_size, size_app]; omega
          clear Hz HST HG HPL
          go_wp2_with fail
          go_loopw [3, 9] (fun o i wr => ∃ k : Nat, k ≤ p.size ∧ i = .int .i64 k ∧ ∃ z : ByteArray, o = .string z ∧ Hid (z.data.toList = G ++ spL (P.take k)) ∧ Below w.heap.size w wr) (fun _ i _ => p.size - (intOf i).toNat)
          case atStart => exact ⟨0, by omega, rfl, _, rfl, Lib.hid (by rw [HY.out]; simp [spL]), hb⟩
          case round =>
            obtain ⟨i, hip, rfl, z2, rfl, Hz2, hb2⟩ := hrel
            have hzs2 : z2.size ≤ 7500100 := by
              have h1 := HPS.out
              rw [← toList_size, Hz2.out, List.length_append, spL_length, List.length_take]; omega
            by_cases hi : i < p.size
            · obtain ⟨C, hC⟩ : ∃ C, p.extract i (i + 1) = C := ⟨_, rfl⟩
              have HCL : Hid (C.data.toList = [p[i]]) := Lib.hid (by rw [← hC, cut_one p i hi])
              have HX := Lib.hid (fun w => refHex_c C w (by rw [← toList_size, HCL.out]; simp))
              rw [HCL.out, hxL_one] at HX
              obtain ⟨Y, HY2⟩ : ∃ Y, Hid ((⟨(hx p[i]).toArray⟩ : ByteArray) = Y) := ⟨_, Lib.hid rfl⟩
              rw [HY2.out] at HX
              have hYs : Y.size = 2 := by rw [← HY2.out]; rfl
              have HN : Hid ((z2 ++ ⟨#[32]⟩ ++ Y).data.toList = G ++ spL (P.take (i + 1))) := Lib.hid (by
                have hiP : i < P.length := by rw [HPS.out]; exact hi
                have hPi : P[i] = p[i] := by simp only [HP.out]; rfl
                rw [toList_app, toList_app, Hz2.out, ← HY2.out, spL_snoc P i hiP, hPi]; simp)
              clear HY2 HCL
              go_wp2_with fail
              refine (HX.out _).mono ?_
              rintro e w3 ⟨rfl, hb3⟩
              have HB3 : Hid (Below w.heap.size w w3) := Lib.hid (hb2.trans (hb3.mono hb2.size))
              clear hb3 hb2
              go_wp2
              go_roundw
              case rel => exact ⟨i + 1, by omega, by go_num, _, rfl, HN, HB3.out⟩
              case measure => simp [intOf]; omega
            · have HY3 : Hid ((z2 ++ ⟨#[32, 32]⟩).data.toList = G ++ spL P ++ [32, 32]) := Lib.hid (by
                rw [toList_app, Hz2.out, List.take_of_length_le (by rw [HPS.out]; omega)])
              have hgs2 : (G ++ spL P ++ [32, 32]).length ≤ 7500100 := by
                have h1 := HPS.out
                rw [List.length_append, List.length_append, spL_length]; simp; omega
              clear Hz2 HY hgs
              generalize G ++ spL P ++ [32, 32] = M at *
              go_wp2_with fail
              go_loop [3, 10] (fun o i => ∃ k : Nat, k ≤ p.size ∧ i = .int .i64 k ∧ ∃ z : ByteArray, o = .string z ∧ Hid (z.data.toList = M ++ (P.take k).map dot)) (fun _ i => p.size - (intOf i).toNat)
              case atStart => exact ⟨0, by omega, rfl, _, rfl, Lib.hid (by rw [HY3.out]; simp)⟩
              case round =>
                obtain ⟨j, hjp, rfl, z3, rfl, Hz3⟩ := hrel
                have hzs3 : z3.size ≤ 7500200 := by
                  have h1 := HPS.out
                  rw [← toList_size, Hz3.out, List.length_append, List.length_map, List.length_take]; omega
                by_cases hj : j < p.size
                · obtain ⟨C, hC⟩ : ∃ C, p.extract j (j + 1) = C := ⟨_, rfl⟩
                  have HCL : Hid (C.data.toList = [p[j]]) := Lib.hid (by rw [← hC, cut_one p j hj])
                  have hCs : C.size = 1 := by rw [← toList_size, HCL.out]; rfl
                  have hbt : p[j].toNat < 256 := p[j].toNat_lt
                  have HN : Hid (∀ D : List UInt8, D = [dot p[j]] → ∀ Z : ByteArray, Z.data.toList = D → (z3 ++ Z).data.toList = M ++ (P.take (j + 1)).map dot) := Lib.hid (by
                    intro D hD Z hZ
                    have hiP : j < P.length := by rw [HPS.out]; exact hj
                    have hPi : P[j] = p[j] := by simp only [HP.out]; rfl
                    rw [toList_app, Hz3.out, hZ, hD, dots_snoc P j hiP, hPi]; simp)
                  by_cases hd1 : 32 ≤ p[j].toNat
                  · by_cases hd2 : p[j].toNat ≤ 126
                    · have HN2 : Hid ((z3 ++ C).data.toList = M ++ (P.take (j + 1)).map dot) := Lib.hid (HN.out _ rfl C (by rw [HCL.out, dot, if_neg (by omega)]))
                      clear HN HCL
                      go_wp2
                      go_round
                      case rel => exact ⟨j + 1, by omega, by go_num, _, rfl, HN2⟩
                      case measure => simp [intOf]; omega
                    · have HN2 : Hid ((z3 ++ ⟨#[46]⟩).data.toList = M ++ (P.take (j + 1)).map dot) := Lib.hid (HN.out _ rfl _ (by rw [dot, if_pos (by omega)]))
                      clear HN HCL
                      go_wp2
                      go_round
                      case rel => exact ⟨j + 1, by omega, by go_num, _, rfl, HN2⟩
                      case measure => simp [intOf]; omega
                  · have HN2 : Hid ((z3 ++ ⟨#[46]⟩).data.toList = M ++ (P.take (j + 1)).map dot) := Lib.hid (HN.out _ rfl _ (by rw [dot, if_pos (by omega)]))
                    clear HN HCL
                    go_wp2
                    go_round
                    case rel => exact ⟨j + 1, by omega, by go_num, _, rfl, HN2⟩
                    case measure => simp [intOf]; omega
                · have HE : Hid ((z3 ++ ⟨#[10]⟩).data.toList = (dmpF S (List.range (k + 1))).2) := Lib.hid (by
                    rw [toList_app, Hz3.out, ← HF.out, List.take_of_length_le (by rw [HPS.out]; omega)])
                  have HK2 : Hid (k + 1 ≤ nCh S.length 16) := Lib.hid (by
                    have := (nCh_lt S.length 16 k (by omega)).2 (by rw [HL.out]; have := Hq.out; omega)
                    omega)
                  go_wp2
                  go_roundw
                  case rel => exact ⟨k + 1, q + 16, Lib.hid (by have := Hq.out; omega), HK2, by omega, by go_num, _, rfl, HE, hb2⟩
                  case measure => simp [intOf]; omega
    · have HT : Hid ((⟨(dumpL S).toArray⟩ : ByteArray) = z) := Lib.hid (bytes_ext (by rw [Hz.out, dmp_end S k Hk.out (by rw [HL.out, ← Hq.out]; exact hlt)]))
      go_wp2
      go_ret
      exact ⟨by rw [HT.out]; rfl, hb⟩
end Go.Proofs.Ytcidcjghglgkhaa
