/- hatchwaylaw21.wide; package typed: kept, least, Least. -/
import Derived.Test.YtmcdgmepheibkaaDoorTySchema
import Derived.Test.YtmcdgmepheibkaaDoorTypedP
import Derived.Test.YtmcdgmepheibkaaDoorBufR
namespace Go.Proofs.YtmcdgmepheibkaaDoor
set_option linter.unusedVariables false
set_option linter.unusedSimpArgs false
open Go.RowKit

theorem wide_two {s : Int} {l : List Ty} {t : Int} (h : 3000 < s) : (Ty.mk 2 s l t).wide = true := by simp [Ty.wide, h]
theorem wide_sub {k s : Int} {l : List Ty} {t : Int} (h : ¬ (k = 2 ∧ 3000 < s)) : (Ty.mk k s l t).wide = wideL l := by
  simp only [Ty.wide]
  by_cases hk : k = 2
  · by_cases hs : 3000 < s
    · exact absurd ⟨hk, hs⟩ h
    · simp [hs]
  · simp [hk]
set_option maxRecDepth 100000 in
set_option maxHeartbeats 800000 in
theorem wide_c : ∀ (x : Ty) (B : Nat) (w : World) (c0 c1 c2 c3 : Value), TyIn w B x c0 c1 c2 c3 → B ≤ w.heap.size →
    Calls Tryd.prog 16 #[.agg #[c0, c1, c2, c3]] w fun e w' => e = .returned (.bool x.wide) ∧ Below w.heap.size w w' := by
  intro x
  induction x using Ty.ind with
  | h ki s l ta ih =>
    intro B w c0 c1 c2 c3 h hB
    obtain ⟨rfl, rfl, rfl, hki, hsi, hta, hs, A, cap, rfl, hcap, hcm, hsub⟩ := h
    have IH := Lib.hid ih
    have HS := Lib.hid hsub
    have HKI := Lib.hid hki
    have HSI := Lib.hid hsi
    have HTA := Lib.hid hta
    unfold okI at hki hsi hta
    obtain ⟨hki1, hki2⟩ := hki
    obtain ⟨hsi1, hsi2⟩ := hsi
    obtain ⟨hta1, hta2⟩ := hta
    clear ih hsub
    clear HKI HSI HTA
    by_cases hk2 : ki = 2
    · subst hk2
      by_cases hs3 : 3000 < s
      · have HX : Hid ((Ty.mk 2 s l ta).wide = true) := Lib.hid (wide_two hs3)
        generalize (Ty.mk 2 s l ta).wide = R at *
        go_enter Tryd.func16, Tryd.ntmps16
        go_wp2
        go_ret
        exact ⟨by rw [HX.out]; rfl, (by repeat (first | exact Below.refl _ _ | assumption | with_reducible refine Below.drewN' ?_ _ | with_reducible refine Below.drew ?_ | ((with_reducible refine Below.alloc' ?_ ?_ _); · (first | omega | (simp <;> omega)))))⟩
      · have HX : Hid ((Ty.mk 2 s l ta).wide = wideL l) := Lib.hid (wide_sub (fun h => hs3 h.2))
        generalize (Ty.mk 2 s l ta).wide = R at *
        have ds : decide ((3000 : Int) < s) = false := decide_eq_false hs3
        go_enter Tryd.func16, Tryd.ntmps16
        go_wp2_with fail
        go_loopw [3] (fun i wr => ∃ k : Nat, k ≤ l.length ∧ i = .int .i64 k ∧ Hid (wideL (l.take k) = false) ∧ Below w.heap.size w wr ∧ wr.cell? ⟨w.heap.size, 2, none⟩ = some (.slice A l.length cap)) (fun i _ => l.length - (intOf i).toNat)
        case atStart => exact ⟨0, by omega, rfl, Lib.hid (by simp [wideL]), (by repeat (first | exact Below.refl _ _ | assumption | with_reducible refine Below.drewN' ?_ _ | with_reducible refine Below.drew ?_ | ((with_reducible refine Below.alloc' ?_ ?_ _); · (first | omega | (simp <;> omega))))), by simp⟩
        case round =>
          obtain ⟨k, hk, rfl, hm, hb, hcell⟩ := hrel
          by_cases hlt : k < l.length
          · obtain ⟨b, o, d0, d1, d2, d3, rfl, hbB, e0, e1, e2, e3, hi⟩ := HS.out.at_ k hlt
            simp only [Nat.zero_add] at e0 e1 e2 e3
            replace e0 := (hb.cell (p := ⟨b, o + k * 4, none⟩) (by simp; omega)).trans e0
            replace e1 := (hb.cell (p := ⟨b, o + k * 4 + 1, none⟩) (by simp; omega)).trans e1
            replace e2 := (hb.cell (p := ⟨b, o + k * 4 + 2, none⟩) (by simp; omega)).trans e2
            replace e3 := (hb.cell (p := ⟨b, o + k * 4 + 3, none⟩) (by simp; omega)).trans e3
            have hbz := hb.size
            have hmem := List.getElem_mem hlt
            have hiw := hi.below (hb.mono hB)
            have HC := Lib.hid (IH.out _ hmem B wr d0 d1 d2 d3 hiw (by omega))
            cases hq : l[k].wide with
            | false =>
              rw [hq] at HC
              have Hq : Hid (wideL (l.take (k + 1)) = false) := Lib.hid (by rw [wideL_take l k hlt, hm.out, hq]; rfl)
              clear hq hiw hi
              go_wp2_with fail
              refine HC.out.mono ?_
              rintro e w2 ⟨rfl, hb2⟩
              have hbz2 := hb2.size
              have hbl := lt_of_cell hcell
              have hcell2 := (hb2.cell (p := ⟨w.heap.size, 2, none⟩) (by simp; omega)).trans hcell
              have hb3 := hb.trans (hb2.mono hbz)
              go_wp2
              go_roundw
              case rel => exact ⟨k + 1, by omega, by go_num, Hq, hb3, hcell2⟩
              case measure => simp [intOf]; omega
            | true =>
              rw [hq] at HC
              have Hq : Hid (wideL l = true) := Lib.hid (wideL_true l k hlt hq)
              clear hq hiw hi
              go_wp2_with fail
              refine HC.out.mono ?_
              rintro e w2 ⟨rfl, hb2⟩
              have hbz2 := hb2.size
              have hbl := lt_of_cell hcell
              have hcell2 := (hb2.cell (p := ⟨w.heap.size, 2, none⟩) (by simp; omega)).trans hcell
              have hb3 := hb.trans (hb2.mono hbz)
              go_wp2
              go_ret
              exact ⟨by rw [HX.out, Hq.out]; rfl, hb3⟩
          · have hm1 := hm.out
            rw [List.take_of_length_le (by omega)] at hm1
            have HM := Lib.hid hm1
            clear hm1
            go_wp2
            go_ret
            exact ⟨by rw [HX.out, HM.out]; rfl, hb⟩
    · have HX : Hid ((Ty.mk ki s l ta).wide = wideL l) := Lib.hid (wide_sub (fun h => hk2 h.1))
      generalize (Ty.mk ki s l ta).wide = R at *
      have e2 : (ki == 2) = false := beq_eq_false_iff_ne.2 hk2
      clear hk2
      go_enter Tryd.func16, Tryd.ntmps16
      go_wp2_with fail
      go_loopw [3] (fun i wr => ∃ k : Nat, k ≤ l.length ∧ i = .int .i64 k ∧ Hid (wideL (l.take k) = false) ∧ Below w.heap.size w wr ∧ wr.cell? ⟨w.heap.size, 2, none⟩ = some (.slice A l.length cap)) (fun i _ => l.length - (intOf i).toNat)
      case atStart => exact ⟨0, by omega, rfl, Lib.hid (by simp [wideL]), (by repeat (first | exact Below.refl _ _ | assumption | with_reducible refine Below.drewN' ?_ _ | with_reducible refine Below.drew ?_ | ((with_reducible refine Below.alloc' ?_ ?_ _); · (first | omega | (simp <;> omega))))), by simp⟩
      case round =>
        obtain ⟨k, hk, rfl, hm, hb, hcell⟩ := hrel
        by_cases hlt : k < l.length
        · obtain ⟨b, o, d0, d1, d2, d3, rfl, hbB, e0, e1, e2, e3, hi⟩ := HS.out.at_ k hlt
          simp only [Nat.zero_add] at e0 e1 e2 e3
          replace e0 := (hb.cell (p := ⟨b, o + k * 4, none⟩) (by simp; omega)).trans e0
          replace e1 := (hb.cell (p := ⟨b, o + k * 4 + 1, none⟩) (by simp; omega)).trans e1
          replace e2 := (hb.cell (p := ⟨b, o + k * 4 + 2, none⟩) (by simp; omega)).trans e2
          replace e3 := (hb.cell (p := ⟨b, o + k * 4 + 3, none⟩) (by simp; omega)).trans e3
          have hbz := hb.size
          have hmem := List.getElem_mem hlt
          have hiw := hi.below (hb.mono hB)
          have HC := Lib.hid (IH.out _ hmem B wr d0 d1 d2 d3 hiw (by omega))
          cases hq : l[k].wide with
          | false =>
            rw [hq] at HC
            have Hq : Hid (wideL (l.take (k + 1)) = false) := Lib.hid (by rw [wideL_take l k hlt, hm.out, hq]; rfl)
            clear hq hiw hi
            go_wp2_with fail
            refine HC.out.mono ?_
            rintro e w2 ⟨rfl, hb2⟩
            have hbz2 := hb2.size
            have hbl := lt_of_cell hcell
            have hcell2 := (hb2.cell (p := ⟨w.heap.size, 2, none⟩) (by simp; omega)).trans hcell
            have hb3 := hb.trans (hb2.mono hbz)
            go_wp2
            go_roundw
            case rel => exact ⟨k + 1, by omega, by go_num, Hq, hb3, hcell2⟩
            case measure => simp [intOf]; omega
          | true =>
            rw [hq] at HC
            have Hq : Hid (wideL l = true) := Lib.hid (wideL_true l k hlt hq)
            clear hq hiw hi
            go_wp2_with fail
            refine HC.out.mono ?_
            rintro e w2 ⟨rfl, hb2⟩
            have hbz2 := hb2.size
            have hbl := lt_of_cell hcell
            have hcell2 := (hb2.cell (p := ⟨w.heap.size, 2, none⟩) (by simp; omega)).trans hcell
            have hb3 := hb.trans (hb2.mono hbz)
            go_wp2
            go_ret
            exact ⟨by rw [HX.out, Hq.out]; rfl, hb3⟩
        · have hm1 := hm.out
          rw [List.take_of_length_le (by omega)] at hm1
          have HM := Lib.hid hm1
          clear hm1
          go_wp2
          go_ret
          exact ⟨by rw [HX.out, HM.out]; rfl, hb⟩
/-- What kept tells: so many types, from the same place on. -/
def KeptEnd (A : Option Addr) (m : Nat) (w : World) (e : Ending) (w' : World) : Prop := (∃ A' cap', e = .returned (.slice A' m cap') ∧ (0 < m → A' = A)) ∧ Below w.heap.size w w'
set_option maxRecDepth 100000 in
set_option maxHeartbeats 400000 in
theorem kept_c (k s ta : Int) (A : Option Addr) (n cap m : Nat) (w : World) (hnc : n ≤ cap) (hcm : cap ≤ 9223372036854775807) (ht1 : 0 ≤ ta) (ht2 : ta ≤ n) (hA : 0 < n → ∃ ad, A = some ad) (hm : (k = 5 ∧ (m : Int) = n - ta) ∨ (k ≠ 5 ∧ m = 0)) :
    Calls Tryd.prog 55 #[.agg #[.int .i64 k, .int .i64 s, .slice A n cap, .int .i64 ta]] w fun e w' => KeptEnd A m w e w' := by
  rcases hm with ⟨rfl, hm⟩ | ⟨hk, rfl⟩
  · have hw : IntKind.i64.wrap ((n : Int) - ta) = (n : Int) - ta := IntWalk.i64_in _ (by omega)
    have HM := Lib.hid hm
    have h0 : (0 : Int) ≤ (n : Int) - ta := by omega
    have h1 : ((n : Int) - ta).toNat = m := by omega
    have h2 : (n : Int) - ta ≤ cap := by omega
    by_cases hn : 0 < n
    · obtain ⟨ad, rfl⟩ := hA hn
      clear hm
      go_enter Tryd.func55, Tryd.ntmps55
      go_wp2
      go_ret
      exact ⟨⟨_, _, rfl, fun _ => rfl⟩, (by repeat (first | exact Below.refl _ _ | assumption | with_reducible refine Below.drewN' ?_ _ | with_reducible refine Below.drew ?_ | ((with_reducible refine Below.alloc' ?_ ?_ _); · (first | omega | (simp <;> omega)))))⟩
    · obtain rfl : n = 0 := by omega
      obtain rfl : ta = 0 := by omega
      obtain rfl : m = 0 := by omega
      clear hm hA
      cases A with
      | none =>
        go_enter Tryd.func55, Tryd.ntmps55
        go_wp2
        go_ret
        exact ⟨⟨_, _, rfl, fun _ => rfl⟩, (by repeat (first | exact Below.refl _ _ | assumption | with_reducible refine Below.drewN' ?_ _ | with_reducible refine Below.drew ?_ | ((with_reducible refine Below.alloc' ?_ ?_ _); · (first | omega | (simp <;> omega)))))⟩
      | some ad =>
        go_enter Tryd.func55, Tryd.ntmps55
        go_wp2
        go_ret
        exact ⟨⟨_, _, rfl, fun _ => rfl⟩, (by repeat (first | exact Below.refl _ _ | assumption | with_reducible refine Below.drewN' ?_ _ | with_reducible refine Below.drew ?_ | ((with_reducible refine Below.alloc' ?_ ?_ _); · (first | omega | (simp <;> omega)))))⟩
  · have e5 : (k != 5) = true := by simp [hk]
    clear hk hA
    go_enter Tryd.func55, Tryd.ntmps55
    go_wp2
    go_ret
    exact ⟨⟨none, 0, rfl, by omega⟩, (by repeat (first | exact Below.refl _ _ | assumption | with_reducible refine Below.drewN' ?_ _ | with_reducible refine Below.drew ?_ | ((with_reducible refine Below.alloc' ?_ ?_ _); · (first | omega | (simp <;> omega)))))⟩

theorem leastL_none (l : List Ty) : leastL l 0 = 0 := by cases l <;> rfl
theorem leastL_succ : ∀ {l : List Ty} {i : Nat} (h : i < l.length), leastL l (i + 1) = leastL l i + l[i].least
  | [], i, h => by simp at h
  | x :: xs, 0, h => by
    show x.least + leastL xs 0 = 0 + x.least
    rw [leastL_none]; omega
  | x :: xs, i + 1, h => by
    have hi : i < xs.length := by simpa using h
    have := leastL_succ (l := xs) (i := i) hi
    show x.least + leastL xs (i + 1) = x.least + leastL xs i + xs[i].least
    rw [this]; omega
theorem leastL_le_count (l : List Ty) (i : Nat) : leastL l i ≤ countT l := leastL_le l i fun x _ => least_le x
theorem kept_is (k z ta : Int) (l : List Ty) : (Ty.mk k z l ta).kept = if k = 5 then ((l.length : Int) - ta).toNat else 0 := rfl
theorem kept_le {k z ta : Int} {l : List Ty} (h : (Ty.mk k z l ta).right = true) : (Ty.mk k z l ta).kept ≤ l.length := by
  rw [kept_is]
  by_cases h5 : k = 5
  · subst h5
    rw [if_pos rfl]
    rcases ok_ways (right_ok h).1 with ⟨h1, _⟩ | ⟨h1, _⟩ | ⟨h1, _⟩ | ⟨h1, _⟩ | ⟨_, _, _, h1, h2⟩
    · omega
    · omega
    · omega
    · omega
    · omega
  · rw [if_neg h5]; omega
theorem least_mk (k z ta : Int) (l : List Ty) : (Ty.mk k z l ta).least = 1 + leastL l (Ty.mk k z l ta).kept := by
  rw [kept_is, Ty.least]
theorem tail_ok {k z ta : Int} {l : List Ty} (h : (Ty.mk k z l ta).right = true) : 0 ≤ ta ∧ ta ≤ l.length ∧ ((k = 5 ∧ (((Ty.mk k z l ta).kept : Nat) : Int) = l.length - ta) ∨ (k ≠ 5 ∧ (Ty.mk k z l ta).kept = 0)) := by
  have hk : (Ty.mk k z l ta).kept = if k = 5 then ((l.length : Int) - ta).toNat else 0 := rfl
  rcases ok_ways (right_ok h).1 with ⟨rfl, _, _, rfl⟩ | ⟨rfl, _, _, _, rfl⟩ | ⟨rfl, _, _, _, rfl⟩ | ⟨rfl, _, _, _, rfl⟩ | ⟨rfl, _, _, h1, h2⟩
  · exact ⟨by omega, by omega, .inr ⟨by decide, by rw [hk, if_neg (by decide)]⟩⟩
  · exact ⟨by omega, by omega, .inr ⟨by decide, by rw [hk, if_neg (by decide)]⟩⟩
  · exact ⟨by omega, by omega, .inr ⟨by decide, by rw [hk, if_neg (by decide)]⟩⟩
  · exact ⟨by omega, by omega, .inr ⟨by decide, by rw [hk, if_neg (by decide)]⟩⟩
  · exact ⟨h1, h2, .inl ⟨rfl, by rw [hk, if_pos rfl]; omega⟩⟩
theorem tys_some {w : World} {B : Nat} {l : List Ty} {A : Option Addr} (h : TysIn w B l A 0) (hl : 0 < l.length) : ∃ ad, A = some ad := by
  obtain ⟨b, o, _, _, _, _, hA, _⟩ := h.at_ 0 hl
  exact ⟨_, hA⟩
set_option maxRecDepth 100000 in
set_option maxHeartbeats 800000 in
theorem tleast_c : ∀ (x : Ty) (B : Nat) (w : World) (c0 c1 c2 c3 : Value), TyIn w B x c0 c1 c2 c3 → B ≤ w.heap.size → x.right = true → x.count ≤ 4611686018427387904 →
    Calls Tryd.prog 56 #[.agg #[c0, c1, c2, c3]] w fun e w' => e = .returned (.int .i64 x.least) ∧ Below w.heap.size w w' := by
  intro x
  induction x using Ty.ind with
  | h ki s l ta ih =>
    intro B w c0 c1 c2 c3 h hB hr hc
    obtain ⟨rfl, rfl, rfl, hki, hsi, hta, hs, A, cap, rfl, hcap, hcm, hsub⟩ := h
    have IH := Lib.hid ih
    have HS := Lib.hid hsub
    have HKI := Lib.hid hki
    have HSI := Lib.hid hsi
    have HTA := Lib.hid hta
    unfold okI at hki hsi hta
    obtain ⟨hki1, hki2⟩ := hki
    obtain ⟨hsi1, hsi2⟩ := hsi
    obtain ⟨hta1, hta2⟩ := hta
    clear ih hsub
    have hml := kept_le hr
    have hlm := least_mk ki s ta l
    obtain ⟨hta3, hta4, hway⟩ := tail_ok hr
    have hrt := (right_ok hr).2
    have hcl : 1 + countT l ≤ 4611686018427387904 := by simpa only [Ty.count] using hc
    obtain ⟨m, hm⟩ : ∃ m, (Ty.mk ki s l ta).kept = m := ⟨_, rfl⟩
    rw [hm] at hml hlm hway
    have HLM := Lib.hid hlm
    have HRT := Lib.hid hrt
    have HKC := Lib.hid (fun W => kept_c ki s ta A l.length cap m W hcap hcm hta3 hta4 (fun hl => tys_some HS.out hl) hway)
    clear HKI HSI HTA hr hc hm hlm hrt hway
    generalize (Ty.mk ki s l ta).least = R at *
    go_enter Tryd.func56, Tryd.ntmps56
    go_wp2_with fail
    refine (HKC.out _).mono ?_
    rintro e w1 ⟨⟨A', cap', rfl, hA⟩, hb1⟩
    have HA := Lib.hid hA
    have hz1 := hb1.size
    simp only [World.size_alloc] at hz1
    have HB1 : Hid (Below w.heap.size w w1) := Lib.hid (((Below.refl w.heap.size w).alloc (Nat.le_refl _) _).trans (hb1.mono (by simp)))
    clear hb1 hA
    go_wp2_with fail
    go_loopw [3, 9] (fun n i wr => ∃ k q : Nat, k ≤ m ∧ i = .int .i64 k ∧ Hid (q = 1 + leastL l k) ∧ n = .int .i64 q ∧ Below w.heap.size w wr) (fun _ i _ => m - (intOf i).toNat)
    case atStart => exact ⟨0, 1, by omega, rfl, Lib.hid (by cases l <;> rfl), rfl, HB1.out⟩
    case round =>
      obtain ⟨k, q, hk, rfl, hq, rfl, hb⟩ := hrel
      by_cases hlm2 : k < m
      · have hlt : k < l.length := by omega
        obtain rfl := HA.out (by omega)
        obtain ⟨b, o, d0, d1, d2, d3, rfl, hbB, e0, e1, e2, e3, hi⟩ := HS.out.at_ k hlt
        simp only [Nat.zero_add] at e0 e1 e2 e3
        have hbB2 : Below B w wr := hb.mono hB
        replace e0 := (hbB2.cell (p := ⟨b, o + k * 4, none⟩) hbB).trans e0
        replace e1 := (hbB2.cell (p := ⟨b, o + k * 4 + 1, none⟩) hbB).trans e1
        replace e2 := (hbB2.cell (p := ⟨b, o + k * 4 + 2, none⟩) hbB).trans e2
        replace e3 := (hbB2.cell (p := ⟨b, o + k * 4 + 3, none⟩) hbB).trans e3
        have hbz := hb.size
        obtain ⟨A2, cap2, rfl, rfl, rfl, rfl, _⟩ := hi.open_
        have hle := leastL_le_count l (k + 1)
        have hls := leastL_succ hlt
        have hqq := hq.out
        obtain ⟨y, hy⟩ : ∃ y, l[k].least = y := ⟨_, rfl⟩
        have hcnt := count_at k hlt
        have HC := Lib.hid (IH.out _ (List.getElem_mem hlt) B (wr.alloc (.cells #[.int .i64 l[k].kind, .int .i64 l[k].size, .slice A2 l[k].sub.length cap2, .int .i64 l[k].tail] 24)) _ _ _ _ ((hi.below hbB2).below ((Below.refl _ _).alloc (by omega) _)) (by simp; omega) (rightT_at HRT.out k hlt) (by omega))
        rw [hy] at HC hls
        have hqb : q + y ≤ 4611686018427387904 := by omega
        have HN : Hid (q + y = 1 + leastL l (k + 1)) := Lib.hid (by omega)
        have HB2 := Lib.hid hb
        clear hle hls hqq hy hcnt hi hbB2 hb
        go_wp2_with fail
        refine HC.out.mono ?_
        rintro e w2 ⟨rfl, hb2⟩
        have HB3 : Hid (Below w.heap.size w w2) := Lib.hid ((HB2.out.alloc hbz _).trans (hb2.mono (by simp; omega)))
        clear hb2
        go_wp2
        go_roundw
        case rel => exact ⟨k + 1, q + y, by omega, by go_num, HN, by go_num, HB3.out⟩
        case measure => simp [intOf]; omega
      · have HM : Hid (q = R) := Lib.hid (by rw [HLM.out, hq.out, show k = m from by omega])
        go_wp2
        go_ret
        exact ⟨by show Ending.returned (.int .i64 q) = _; rw [HM.out], hb⟩
set_option maxRecDepth 100000 in
set_option maxHeartbeats 400000 in
theorem tLeast_c (x : Ty) (B : Nat) (w : World) (c0 c1 c2 c3 : Value) (h : TyIn w B x c0 c1 c2 c3) (hB : B ≤ w.heap.size) (hL : Laid w) :
    Calls Tryd.prog 18 #[.agg #[c0, c1, c2, c3]] w fun e w' => e = .returned (.tuple #[.int .i64 (if x.may then (x.least : Int) else 0), .int .i64 (if x.may then 0 else 1)]) ∧ Below w.heap.size w w' := by
  have hb0 : Below w.heap.size w (w.alloc (.cells #[c0, c1, c2, c3] 24)) := (Below.refl _ _).alloc (Nat.le_refl _) _
  have HM := Lib.hid (schemaMay_c x B _ c0 c1 c2 c3 (h.below (hb0.mono hB)) (by simp; omega) (hL.alloc _))
  have HT := Lib.hid h
  have HB0 := Lib.hid hb0
  obtain ⟨a, ha⟩ : ∃ a, x.may = a := ⟨_, rfl⟩
  rw [ha] at HM ⊢
  have HA := Lib.hid ha
  have HK0 := Lib.hid (Blk.new w 24 #[c0, c1, c2, c3])
  obtain ⟨A, cap, rfl, rfl, rfl, rfl, _⟩ := h.open_
  generalize x.kind = ki at *
  generalize x.size = si at *
  generalize x.tail = ta at *
  clear h hb0 hL ha
  cases a with
  | false =>
    go_enter Tryd.func18, Tryd.ntmps18
    go_wp2_with fail
    refine HM.out.mono ?_
    rintro e w1 ⟨rfl, hb1⟩
    go_wp2
    go_ret2
    exact ⟨rfl, HB0.out.trans (hb1.mono (by simp))⟩
  | true =>
    obtain ⟨h1, h2, h3⟩ := ty_may HA.out
    go_enter Tryd.func18, Tryd.ntmps18
    go_wp2_with fail
    refine HM.out.mono ?_
    rintro e w1 ⟨rfl, hb1⟩
    have hz1 := hb1.size
    simp only [World.size_alloc] at hz1
    obtain ⟨q0, q1, q2, q3, _⟩ := blk4 (HK0.out.keep hb1 (by simp))
    have hbx : Below w.heap.size w w1 := HB0.out.trans (hb1.mono (by simp))
    have HC := Lib.hid (tleast_c x B w1 _ _ _ _ (HT.out.below (hbx.mono hB)) (by omega) h3 (by omega))
    have HBX := Lib.hid hbx
    clear hb1 hbx h1 h2 h3
    go_wp2_with fail
    refine HC.out.mono ?_
    rintro e w2 ⟨rfl, hb2⟩
    go_wp2
    go_ret2
    exact ⟨rfl, HBX.out.trans (hb2.mono (by omega))⟩
end Go.Proofs.YtmcdgmepheibkaaDoor
