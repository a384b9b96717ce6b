/- The example of split. -/
/- SplitReads: the frames of any bytes, by any config, the tail, and the error, are the document's. -/
/- SplitMore: with more behind the frames go on; behind an error it and the frames stay, and the tail has what came. -/
import Derived.Test.YtebllmpdlapefaaGreatDoorKSplS
import Derived.Test.YtebllmpdlapefaaGreatDoorKA6
import Derived.Test.YtebllmpdlapefaaGreatDoorKA32
import Derived.Test.YtebllmpdlapefaaGreatDoorKA38
import Derived.Test.YtebllmpdlapefaaGreatDoorKSplN
import Derived.Test.YtebllmpdlapefaaGreatDoorKWirePuts
namespace Go.Proofs.YtebllmpdlapefaaGreatDoor
set_option linter.unusedVariables false
set_option linter.unusedSimpArgs false
open Go.RowKit

instance decFr : DecidableEq Fr := fun ⟨a1, a2, a3⟩ ⟨b1, b2, b3⟩ => if h : a1 = b1 ∧ a2 = b2 ∧ a3 = b3 then isTrue (by obtain ⟨rfl, rfl, rfl⟩ := h; rfl) else isFalse (fun e => h (by injection e with e1 e2 e3; exact ⟨e1, e2, e3⟩))
theorem split_ex : split (wNext exC) ⟨#[3, 5, 97, 98, 1, 7, 2]⟩ = ([⟨5, ⟨#[]⟩, ⟨#[97, 98]⟩⟩, ⟨7, ⟨#[]⟩, ⟨#[]⟩⟩], ⟨#[2]⟩, 0, 0) := by decide +kernel
set_option maxRecDepth 100000 in
set_option maxHeartbeats 1000000 in
theorem splitAlive (w : World) : Calls Tryz.prog 25 #[] w fun e w' => e = .returned (.bool true) ∧ Below w.heap.size w w' := by
  have HP : Hid (∀ V, Calls Tryz.prog 26 #[.agg #[.int .i64 2, .int .u32 0, .int .i64 9, .int .i64 1, .int .i64 1, .int .i64 1], .string ⟨#[3, 5, 97, 98, 1, 7, 2]⟩] V fun e w' => (∃ v, e = .returned (.tuple #[v, .string ⟨#[2]⟩, .int .i64 0]) ∧ FrO w' V.heap.size v [⟨5, ⟨#[]⟩, ⟨#[97, 98]⟩⟩, ⟨7, ⟨#[]⟩, ⟨#[]⟩⟩]) ∧ Below V.heap.size V w') := Lib.hid (fun V => by
    have := split_c exC ⟨#[3, 5, 97, 98, 1, 7, 2]⟩ V exC_ok (by decide)
    rw [split_ex] at this
    exact this)
  have hs : ((⟨#[2]⟩ : ByteArray) == ⟨#[2]⟩) = true := by decide
  have hEG := eqg_fr
  have hQ1 := eqFr_same 5 ⟨#[]⟩ ⟨#[97, 98]⟩
  have hQ2 := eqFr_same 7 ⟨#[]⟩ ⟨#[]⟩
  go_enter Tryz.func25, Tryz.ntmps25
  go_wp2_with fail
  refine (HP.out _).mono ?_
  rintro e w1 ⟨⟨v, rfl, hf⟩, hb⟩
  have HB : Hid (Below w.heap.size w w1) := Lib.hid (((Below.refl w.heap.size w).alloc (Nat.le_refl _) _).trans (hb.mono (by simp)))
  have hr := hf.read
  obtain ⟨A, n, cap, rfl, hn, hnc, hcm⟩ := hf.form'
  have hn2 : n = 2 := hn.out
  subst hn2
  obtain ⟨g, o, rfl, hg, e0, e1, e2⟩ := hr.at_ (j := 0) (by simp)
  obtain ⟨g', o', hA, hg', f0, f1, f2⟩ := hr.at_ (j := 1) (by simp)
  injection hA with hA
  injection hA with hA hA2
  subst hA; subst hA2
  simp at e0 e1 e2 f0 f1 f2
  clear hb hf hr hn hg hg'
  go_wp2
  go_ret
  trace_state
  exact ⟨rfl, HB.out⟩
end Go.Proofs.YtebllmpdlapefaaGreatDoor
namespace Go.Proofs.YtebllmpdlapefaaGreatDoor
set_option linter.unusedVariables false
set_option linter.unusedSimpArgs false
open Go.RowKit

set_option maxRecDepth 100000 in
set_option maxHeartbeats 4000000 in
theorem splitReads_w (c : Cfg) (s : ByteArray) (w : World) (hc : c.ok) (hs : s.size ≤ 9223372036854775807) :
    Calls Tryz.prog 7 #[c.val, .string s] w fun e w' => e = .returned (.bool true) ∧ Below w.heap.size w w' := by
  have HA := Lib.hid splitAlive
  by_cases h1 : 1500 < s.size
  · unfold Cfg.val at *
    obtain ⟨fm, mg, fr, un, de, it⟩ := c
    simp only at *
    obtain ⟨W0, hW0⟩ : ∃ W0, w.alloc (.cells #[.int .i64 fm, .int .u32 mg, .int .i64 fr, .int .i64 un, .int .i64 de, .int .i64 it] 24) = W0 := ⟨_, rfl⟩
    have hz : W0.heap.size = w.heap.size + 1 := by rw [← hW0]; simp
    have hB : Blk W0 w.heap.size 24 #[.int .i64 fm, .int .u32 mg, .int .i64 fr, .int .i64 un, .int .i64 de, .int .i64 it] := by rw [← hW0]; exact Blk.new w _ _
    have HO : Hid (∀ V, Below W0.heap.size W0 V → Below w.heap.size w V ∧ w.heap.size + 1 ≤ V.heap.size) := Lib.hid (fun V hV => by
      have h1 : Below w.heap.size w W0 := by rw [← hW0]; exact (by repeat (first | exact Below.refl _ _ | assumption | with_reducible refine Below.drewN' ?_ _ | with_reducible refine Below.drew ?_ | ((with_reducible refine Below.alloc' ?_ ?_ _); · (first | omega | (simp <;> omega)))))
      exact ⟨h1.trans (hV.mono (by omega)), by have := hV.size; omega⟩)
    have HKB : Hid (∀ V, Below W0.heap.size W0 V → Blk V w.heap.size 24 #[.int .i64 fm, .int .u32 mg, .int .i64 fr, .int .i64 un, .int .i64 de, .int .i64 it]) := Lib.hid (fun V hV => hB.keep hV (by omega))
    have HKV : Hid (∀ V, Below W0.heap.size W0 V → V.cell? ⟨w.heap.size, 0, none⟩ = some (.int .i64 fm) ∧ V.cell? ⟨w.heap.size, 1, none⟩ = some (.int .u32 mg) ∧ V.cell? ⟨w.heap.size, 2, none⟩ = some (.int .i64 fr) ∧ V.cell? ⟨w.heap.size, 3, none⟩ = some (.int .i64 un) ∧ V.cell? ⟨w.heap.size, 4, none⟩ = some (.int .i64 de) ∧ V.cell? ⟨w.heap.size, 5, none⟩ = some (.int .i64 it)) := Lib.hid (fun V hV => by
      have hB := hB.keep hV (by omega)
      exact ⟨hB.cell 0, hB.cell 1, hB.cell 2, hB.cell 3, hB.cell 4, hB.cell 5⟩)
    have HW0 := Lib.hid hW0
    clear hW0 hB hz
    go_enter Tryz.func7, Tryz.ntmps7
    go_wp2_with fail
    rw [HW0.out]
    refine (HA.out _).mono ?_
    rintro e w1 ⟨rfl, hb⟩
    have HM1 : Hid (Below W0.heap.size W0 w1) := Lib.hid hb
    clear hb
    obtain ⟨q0, q1, q2, q3, q4, q5⟩ := HKV.out w1 HM1.out
    go_wp2
    go_ret
    exact ⟨rfl, (HO.out _ HM1.out).1⟩
  have HS := Lib.hid (fun V => split_c c s V hc (by omega))
  have HR := Lib.hid (fun V => refSplit18_c c s V hc (by omega))
  have HC := Lib.hid (fun V => count_c c s V hc (by omega))
  have HK := Lib.hid makeKey_c
  have hlen : (split (wNext c) s).1.length ≤ 1500 := by
    have := frs_map (wNext_ok c) s
    rw [← this, List.length_map]
    have := (frs_tail (wNext_ok c) s).2.2
    omega
  generalize split (wNext c) s = X at *
  obtain ⟨l, t, m, er⟩ := X
  simp only at HS HR HC hlen
  unfold keyV at HK HR
  generalize kC 64 = KL at *
  have HSM := Lib.hid (fun va vb B V ha hb hB => same18_c va vb l B V ha hb hB (by omega))
  unfold Cfg.val at *
  obtain ⟨fm, mg, fr, un, de, it⟩ := c
  simp only at *
  obtain ⟨W0, hW0⟩ : ∃ W0, w.alloc (.cells #[.int .i64 fm, .int .u32 mg, .int .i64 fr, .int .i64 un, .int .i64 de, .int .i64 it] 24) = W0 := ⟨_, rfl⟩
  have hz : W0.heap.size = w.heap.size + 1 := by rw [← hW0]; simp
  have hB : Blk W0 w.heap.size 24 #[.int .i64 fm, .int .u32 mg, .int .i64 fr, .int .i64 un, .int .i64 de, .int .i64 it] := by rw [← hW0]; exact Blk.new w _ _
  have HO : Hid (∀ V, Below W0.heap.size W0 V → Below w.heap.size w V ∧ w.heap.size + 1 ≤ V.heap.size) := Lib.hid (fun V hV => by
    have h1 : Below w.heap.size w W0 := by rw [← hW0]; exact (by repeat (first | exact Below.refl _ _ | assumption | with_reducible refine Below.drewN' ?_ _ | with_reducible refine Below.drew ?_ | ((with_reducible refine Below.alloc' ?_ ?_ _); · (first | omega | (simp <;> omega)))))
    exact ⟨h1.trans (hV.mono (by omega)), by have := hV.size; omega⟩)
  have HKB : Hid (∀ V, Below W0.heap.size W0 V → Blk V w.heap.size 24 #[.int .i64 fm, .int .u32 mg, .int .i64 fr, .int .i64 un, .int .i64 de, .int .i64 it]) := Lib.hid (fun V hV => hB.keep hV (by omega))
  have HKV : Hid (∀ V, Below W0.heap.size W0 V → V.cell? ⟨w.heap.size, 0, none⟩ = some (.int .i64 fm) ∧ V.cell? ⟨w.heap.size, 1, none⟩ = some (.int .u32 mg) ∧ V.cell? ⟨w.heap.size, 2, none⟩ = some (.int .i64 fr) ∧ V.cell? ⟨w.heap.size, 3, none⟩ = some (.int .i64 un) ∧ V.cell? ⟨w.heap.size, 4, none⟩ = some (.int .i64 de) ∧ V.cell? ⟨w.heap.size, 5, none⟩ = some (.int .i64 it)) := Lib.hid (fun V hV => by
    have hB := hB.keep hV (by omega)
    exact ⟨hB.cell 0, hB.cell 1, hB.cell 2, hB.cell 3, hB.cell 4, hB.cell 5⟩)
  have HW0 := Lib.hid hW0
  clear hW0 hB hz
  go_enter Tryz.func7, Tryz.ntmps7
  go_wp2_with fail
  rw [HW0.out]
  refine (HA.out _).mono ?_
  rintro e w1 ⟨rfl, hb⟩
  have HM1 : Hid (Below W0.heap.size W0 w1) := Lib.hid hb
  clear hb
  obtain ⟨q0, q1, q2, q3, q4, q5⟩ := HKV.out w1 HM1.out
  go_wp2_with fail
  refine (HS.out _).mono ?_
  rintro e w2 ⟨⟨v, rfl, hf⟩, hb⟩
  have HM2 : Hid (Below W0.heap.size W0 w2) := Lib.hid (HM1.out.trans (hb.mono HM1.out.size))
  have HF2 := Lib.hid hf.read
  obtain ⟨A, n, cap, rfl, hn, hnc, hcm⟩ := hf.form'
  clear hf hb
  clear q0 q1 q2 q3 q4 q5
  obtain ⟨q0, q1, q2, q3, q4, q5⟩ := HKV.out w2 HM2.out
  have HB2 : Hid (Below w2.heap.size w2 w2) := Lib.hid (Below.refl _ _)
  have HKW : Hid (∀ V, Below w2.heap.size w2 V → V.cell? ⟨w.heap.size, 0, none⟩ = some (.int .i64 fm) ∧ V.cell? ⟨w.heap.size, 1, none⟩ = some (.int .u32 mg) ∧ V.cell? ⟨w.heap.size, 2, none⟩ = some (.int .i64 fr) ∧ V.cell? ⟨w.heap.size, 3, none⟩ = some (.int .i64 un) ∧ V.cell? ⟨w.heap.size, 4, none⟩ = some (.int .i64 de) ∧ V.cell? ⟨w.heap.size, 5, none⟩ = some (.int .i64 it)) := Lib.hid (fun V hV => HKV.out V (HM2.out.trans (hV.mono HM2.out.size)))
  have HKA : Hid (∀ V, Below w2.heap.size w2 V → Calls Tryz.prog 14 #[] V fun e w' => e = .returned (.agg KL) ∧ Below w2.heap.size w2 w') := Lib.hid (fun V hV => (HK.out V).mono fun e w' ⟨h1, h2⟩ => ⟨h1, hV.trans (h2.mono hV.size)⟩)
  have HRA : Hid (∀ V, Below w2.heap.size w2 V → Calls Tryz.prog 28 #[.agg KL, .agg #[.int .i64 fm, .int .u32 mg, .int .i64 fr, .int .i64 un, .int .i64 de, .int .i64 it], .string s] V fun e w' => (∃ v, e = .returned (.tuple #[v, .string t, .int .i64 m, .int .i64 er]) ∧ FrO w' V.heap.size v l) ∧ Below w2.heap.size w2 w') := Lib.hid (fun V hV => (HR.out V).mono fun e w' ⟨h1, h2⟩ => ⟨h1, hV.trans (h2.mono hV.size)⟩)
  clear HK HR HS HA
  go_upto_region 6 with fail
  go_cut [8, 9, 10, 11] (fun x y z u wx => ∃ A' cap', x = .slice A' l.length cap' ∧ y = .string t ∧ z = .int .i64 m ∧ u = .int .i64 er ∧ l.length ≤ cap' ∧ cap' ≤ 9223372036854775807 ∧ Hid (FrR wx wx.heap.size (.slice A' l.length cap') l) ∧ Hid (Below w2.heap.size w2 wx))
  case first =>
    go_wp2_with fail
    go_region_held3 (fun V => V.cell? ⟨w.heap.size, 0, none⟩ = some (.int .i64 fm) ∧ V.cell? ⟨w.heap.size, 1, none⟩ = some (.int .u32 mg) ∧ V.cell? ⟨w.heap.size, 2, none⟩ = some (.int .i64 fr) ∧ V.cell? ⟨w.heap.size, 3, none⟩ = some (.int .i64 un) ∧ V.cell? ⟨w.heap.size, 4, none⟩ = some (.int .i64 de) ∧ V.cell? ⟨w.heap.size, 5, none⟩ = some (.int .i64 it))
      (first | exact HKW.out _ HB2.out | exact HKW.out _ HB2.out.drew | exact HKW.out _ hv | exact HKW.out _ hv.drew | exact HKW.out _ hu | exact HKW.out _ hu.drew)
      (first
        | (go_at_call 14; ((with_reducible refine (HKA.out _ HB2.out).mono ?_); rintro e wv ⟨rfl, hv⟩))
        | (go_at_call 14; ((with_reducible refine (HKA.out _ HB2.out.drew).mono ?_); rintro e wv ⟨rfl, hv⟩))
        | (go_at_call 28; ((with_reducible refine (HRA.out _ hv).mono ?_); rintro e wu ⟨⟨v', rfl, hf4⟩, hu⟩; obtain ⟨A', n', cap', rfl, hn', hnc', hcm'⟩ := hf4.form'; have hn2 := hn'.out; subst hn2))
        | (go_at_call 28; ((with_reducible refine (HRA.out _ hv.drew).mono ?_); rintro e wu ⟨⟨v', rfl, hf4⟩, hu⟩; obtain ⟨A', n', cap', rfl, hn', hnc', hcm'⟩ := hf4.form'; have hn2 := hn'.out; subst hn2)))
    all_goals
      go_wp2_with fail
      go_meet
      case rel => exact ⟨_, _, rfl, rfl, rfl, rfl, hnc', hcm', Lib.hid hf4.read, Lib.hid hu⟩
  case rest =>
  obtain ⟨A', cap', rfl, rfl, rfl, rfl, hnc', hcm', HFb, HB4⟩ := hcut
  generalize wc = w4 at *
  have HM4 : Hid (Below W0.heap.size W0 w4) := Lib.hid (HM2.out.trans (HB4.out.mono HM2.out.size))
  have HFa := Lib.hid ((HF2.out.below HB4.out).mono HB4.out.size)
  clear HKA HRA HKW HB2 HB4 HF2
  clear q0 q1 q2 q3 q4 q5
  obtain ⟨q0, q1, q2, q3, q4, q5⟩ := HKV.out w4 HM4.out
  go_wp2_with fail
  refine (HC.out _).mono ?_
  rintro e w5 ⟨rfl, hb5⟩
  have HM5 : Hid (Below W0.heap.size W0 w5) := Lib.hid (HM4.out.trans (hb5.mono HM4.out.size))
  have HSS := Lib.hid (HSM.out _ _ w4.heap.size w5 (HFa.out.below hb5) (HFb.out.below hb5) hb5.size)
  clear hb5 HFa HFb HSM
  have n1 := (str_ways t t)
  simp only [ne_eq, not_true_eq_false, false_and, or_false, true_and] at n1
  obtain ⟨n1, n2⟩ := n1
  go_wp2_with fail
  refine HSS.out.mono ?_
  rintro e w6 ⟨rfl, hb6⟩
  go_wp2
  go_ret
  exact ⟨ret_bool (by simp), (HO.out _ (HM5.out.trans (hb6.mono HM5.out.size))).1⟩
theorem splitReads_row (c : Cfg) (s : ByteArray) (w : World) (hc : c.ok) (hs : s.size ≤ maxLen) :
    Calls Tryz.prog 7 #[c.val, .string s] w fun e w' => e = .returned (.bool true) ∧ Below w.heap.size w w' :=
  splitReads_w c s w hc (by simpa [maxLen] using hs)
end Go.Proofs.YtebllmpdlapefaaGreatDoor
namespace Go.Proofs.YtebllmpdlapefaaGreatDoor
set_option linter.unusedVariables false
set_option linter.unusedSimpArgs false
open Go.RowKit

theorem FrO.form2 {w : World} {lo : Nat} {v : Value} {l : List Fr} (h : FrO w lo v l) : (v = .slice none 0 0 ∧ l = []) ∨ ∃ g cap, v = .slice (some ⟨g, 0, none⟩) l.length cap ∧ l.length ≤ cap ∧ cap ≤ 9223372036854775807 := by
  rcases h.2 with ⟨h2, h3⟩ | ⟨g', cap', cur, hv, hb, hh, hn, hm, hs, ht⟩
  · exact .inl ⟨h2, List.eq_nil_of_length_eq_zero h3⟩
  · exact .inr ⟨g', cap', hv, hn, by simpa [maxLen] using hm⟩
theorem FrR.empty (w : World) (B : Nat) (A : Option Addr) (cap : Nat) (h : cap ≤ 9223372036854775807) : FrR w B (.slice A 0 cap) [] := ⟨A, cap, rfl, by simp, h, fun j hj => by simp at hj⟩
theorem FrR.head {w : World} {B g n cap k : Nat} {a b : List Fr} (h : FrR w B (.slice (some ⟨g, 0, none⟩) n cap) (a ++ b)) (hk : a.length = k) (hn : k ≤ cap) (hc : cap ≤ 9223372036854775807) : FrR w B (.slice (some ⟨g, 0, none⟩) k cap) a := by
  have := h.part 0 k (by omega) (by simp; omega) (c' := cap) (by omega) hc
  subst hk
  simp only [Nat.zero_mul, Nat.add_zero, Nat.sub_zero, List.drop_zero, List.take_left] at this
  exact this
theorem FrR.tail {w : World} {B g n cap k u : Nat} {a b : List Fr} (h : FrR w B (.slice (some ⟨g, 0, none⟩) n cap) (a ++ b)) (hk : a.length = k) (hu : b.length = u) (hn : k + u ≤ cap) (hc : cap ≤ 9223372036854775807) : FrR w B (.slice (some ⟨g, k * 3, none⟩) u (cap - k)) b := by
  have := h.part k (k + u) (by omega) (by simp; omega) (c' := cap - k) (by omega) (by omega)
  subst hk hu
  simpa using this
theorem split_len (c : Cfg) (s : ByteArray) : (split (wNext c) s).1.length ≤ s.size := by
  have := frs_map (wNext_ok c) s
  rw [← this, List.length_map]
  exact (frs_tail (wNext_ok c) s).2.2
theorem split_tail_le (c : Cfg) (s : ByteArray) : (split (wNext c) s).2.1.size ≤ s.size := by
  obtain ⟨k, hk, e⟩ := split_tail_size (wNext_ok c) s
  rw [e, size_cut _ _ _ (Nat.le_refl _)]
  omega
set_option maxRecDepth 100000 in
set_option maxHeartbeats 4000000 in
theorem splitMore_w (c : Cfg) (s more : ByteArray) (w : World) (hc : c.ok) (hs : s.size ≤ 9223372036854775807) (hm : more.size ≤ 9223372036854775807) :
    Calls Tryz.prog 6 #[c.val, .string s, .string more] w fun e w' => e = .returned (.bool true) ∧ Below w.heap.size w w' := by
  have HA := Lib.hid splitAlive
  by_cases h1 : 800 < s.size
  · unfold Cfg.val at *
    obtain ⟨fm, mg, fr, un, de, it⟩ := c
    simp only at *
    obtain ⟨W0, hW0⟩ : ∃ W0, w.alloc (.cells #[.int .i64 fm, .int .u32 mg, .int .i64 fr, .int .i64 un, .int .i64 de, .int .i64 it] 24) = W0 := ⟨_, rfl⟩
    have hz : W0.heap.size = w.heap.size + 1 := by rw [← hW0]; simp
    have hB : Blk W0 w.heap.size 24 #[.int .i64 fm, .int .u32 mg, .int .i64 fr, .int .i64 un, .int .i64 de, .int .i64 it] := by rw [← hW0]; exact Blk.new w _ _
    have HO : Hid (∀ V, Below W0.heap.size W0 V → Below w.heap.size w V ∧ w.heap.size + 1 ≤ V.heap.size) := Lib.hid (fun V hV => by
      have h1 : Below w.heap.size w W0 := by rw [← hW0]; exact (by repeat (first | exact Below.refl _ _ | assumption | with_reducible refine Below.drewN' ?_ _ | with_reducible refine Below.drew ?_ | ((with_reducible refine Below.alloc' ?_ ?_ _); · (first | omega | (simp <;> omega)))))
      exact ⟨h1.trans (hV.mono (by omega)), by have := hV.size; omega⟩)
    have HKB : Hid (∀ V, Below W0.heap.size W0 V → Blk V w.heap.size 24 #[.int .i64 fm, .int .u32 mg, .int .i64 fr, .int .i64 un, .int .i64 de, .int .i64 it]) := Lib.hid (fun V hV => hB.keep hV (by omega))
    have HKV : Hid (∀ V, Below W0.heap.size W0 V → V.cell? ⟨w.heap.size, 0, none⟩ = some (.int .i64 fm) ∧ V.cell? ⟨w.heap.size, 1, none⟩ = some (.int .u32 mg) ∧ V.cell? ⟨w.heap.size, 2, none⟩ = some (.int .i64 fr) ∧ V.cell? ⟨w.heap.size, 3, none⟩ = some (.int .i64 un) ∧ V.cell? ⟨w.heap.size, 4, none⟩ = some (.int .i64 de) ∧ V.cell? ⟨w.heap.size, 5, none⟩ = some (.int .i64 it)) := Lib.hid (fun V hV => by
      have hB := hB.keep hV (by omega)
      exact ⟨hB.cell 0, hB.cell 1, hB.cell 2, hB.cell 3, hB.cell 4, hB.cell 5⟩)
    have HW0 := Lib.hid hW0
    clear hW0 hB hz
    go_enter Tryz.func6, Tryz.ntmps6
    go_wp2_with fail
    rw [HW0.out]
    refine (HA.out _).mono ?_
    rintro e w1 ⟨rfl, hb⟩
    have HM1 : Hid (Below W0.heap.size W0 w1) := Lib.hid hb
    clear hb
    obtain ⟨q0, q1, q2, q3, q4, q5⟩ := HKV.out w1 HM1.out
    go_wp2
    go_ret
    exact ⟨rfl, (HO.out _ HM1.out).1⟩
  by_cases h2 : 800 < more.size
  · unfold Cfg.val at *
    obtain ⟨fm, mg, fr, un, de, it⟩ := c
    simp only at *
    obtain ⟨W0, hW0⟩ : ∃ W0, w.alloc (.cells #[.int .i64 fm, .int .u32 mg, .int .i64 fr, .int .i64 un, .int .i64 de, .int .i64 it] 24) = W0 := ⟨_, rfl⟩
    have hz : W0.heap.size = w.heap.size + 1 := by rw [← hW0]; simp
    have hB : Blk W0 w.heap.size 24 #[.int .i64 fm, .int .u32 mg, .int .i64 fr, .int .i64 un, .int .i64 de, .int .i64 it] := by rw [← hW0]; exact Blk.new w _ _
    have HO : Hid (∀ V, Below W0.heap.size W0 V → Below w.heap.size w V ∧ w.heap.size + 1 ≤ V.heap.size) := Lib.hid (fun V hV => by
      have h1 : Below w.heap.size w W0 := by rw [← hW0]; exact (by repeat (first | exact Below.refl _ _ | assumption | with_reducible refine Below.drewN' ?_ _ | with_reducible refine Below.drew ?_ | ((with_reducible refine Below.alloc' ?_ ?_ _); · (first | omega | (simp <;> omega)))))
      exact ⟨h1.trans (hV.mono (by omega)), by have := hV.size; omega⟩)
    have HKB : Hid (∀ V, Below W0.heap.size W0 V → Blk V w.heap.size 24 #[.int .i64 fm, .int .u32 mg, .int .i64 fr, .int .i64 un, .int .i64 de, .int .i64 it]) := Lib.hid (fun V hV => hB.keep hV (by omega))
    have HKV : Hid (∀ V, Below W0.heap.size W0 V → V.cell? ⟨w.heap.size, 0, none⟩ = some (.int .i64 fm) ∧ V.cell? ⟨w.heap.size, 1, none⟩ = some (.int .u32 mg) ∧ V.cell? ⟨w.heap.size, 2, none⟩ = some (.int .i64 fr) ∧ V.cell? ⟨w.heap.size, 3, none⟩ = some (.int .i64 un) ∧ V.cell? ⟨w.heap.size, 4, none⟩ = some (.int .i64 de) ∧ V.cell? ⟨w.heap.size, 5, none⟩ = some (.int .i64 it)) := Lib.hid (fun V hV => by
      have hB := hB.keep hV (by omega)
      exact ⟨hB.cell 0, hB.cell 1, hB.cell 2, hB.cell 3, hB.cell 4, hB.cell 5⟩)
    have HW0 := Lib.hid hW0
    clear hW0 hB hz
    go_enter Tryz.func6, Tryz.ntmps6
    go_wp2_with fail
    rw [HW0.out]
    refine (HA.out _).mono ?_
    rintro e w1 ⟨rfl, hb⟩
    have HM1 : Hid (Below W0.heap.size W0 w1) := Lib.hid hb
    clear hb
    obtain ⟨q0, q1, q2, q3, q4, q5⟩ := HKV.out w1 HM1.out
    go_wp2
    go_ret
    exact ⟨rfl, (HO.out _ HM1.out).1⟩
  have HS := Lib.hid (fun V => split_c c s V hc (by omega))
  have HZ := Lib.hid (fun V => split_c c (s ++ more) V hc (by rw [size_app]; omega))
  have hsm := split_more (wNext_ok c) s more
  have hl1 := split_len c s
  have ht1 := split_tail_le c s
  have HU := Lib.hid (fun V => split_c c ((split (wNext c) s).2.1 ++ more) V hc (by rw [size_app]; omega))
  have hl2 := split_len c ((split (wNext c) s).2.1 ++ more)
  rw [size_app] at hl2
  rw [hsm] at HZ
  clear hsm
  generalize hU : split (wNext c) ((split (wNext c) s).2.1 ++ more) = U at *
  generalize split (wNext c) s = X at *
  obtain ⟨l, t, m1, er⟩ := X
  obtain ⟨l2, t2, m2, er2⟩ := U
  simp only at *
  clear hU
  have HSM := Lib.hid (fun va vb l (hl : l.length ≤ 1000000) B V ha hb hB => same18_c va vb l B V ha hb hB hl)
  by_cases h3 : er = 0
  · subst h3
    rw [if_pos rfl] at HZ
    simp only at HZ
    unfold Cfg.val at *
    obtain ⟨fm, mg, fr, un, de, it⟩ := c
    simp only at *
    obtain ⟨W0, hW0⟩ : ∃ W0, w.alloc (.cells #[.int .i64 fm, .int .u32 mg, .int .i64 fr, .int .i64 un, .int .i64 de, .int .i64 it] 24) = W0 := ⟨_, rfl⟩
    have hz : W0.heap.size = w.heap.size + 1 := by rw [← hW0]; simp
    have hB : Blk W0 w.heap.size 24 #[.int .i64 fm, .int .u32 mg, .int .i64 fr, .int .i64 un, .int .i64 de, .int .i64 it] := by rw [← hW0]; exact Blk.new w _ _
    have HO : Hid (∀ V, Below W0.heap.size W0 V → Below w.heap.size w V ∧ w.heap.size + 1 ≤ V.heap.size) := Lib.hid (fun V hV => by
      have h1 : Below w.heap.size w W0 := by rw [← hW0]; exact (by repeat (first | exact Below.refl _ _ | assumption | with_reducible refine Below.drewN' ?_ _ | with_reducible refine Below.drew ?_ | ((with_reducible refine Below.alloc' ?_ ?_ _); · (first | omega | (simp <;> omega)))))
      exact ⟨h1.trans (hV.mono (by omega)), by have := hV.size; omega⟩)
    have HKB : Hid (∀ V, Below W0.heap.size W0 V → Blk V w.heap.size 24 #[.int .i64 fm, .int .u32 mg, .int .i64 fr, .int .i64 un, .int .i64 de, .int .i64 it]) := Lib.hid (fun V hV => hB.keep hV (by omega))
    have HKV : Hid (∀ V, Below W0.heap.size W0 V → V.cell? ⟨w.heap.size, 0, none⟩ = some (.int .i64 fm) ∧ V.cell? ⟨w.heap.size, 1, none⟩ = some (.int .u32 mg) ∧ V.cell? ⟨w.heap.size, 2, none⟩ = some (.int .i64 fr) ∧ V.cell? ⟨w.heap.size, 3, none⟩ = some (.int .i64 un) ∧ V.cell? ⟨w.heap.size, 4, none⟩ = some (.int .i64 de) ∧ V.cell? ⟨w.heap.size, 5, none⟩ = some (.int .i64 it)) := Lib.hid (fun V hV => by
      have hB := hB.keep hV (by omega)
      exact ⟨hB.cell 0, hB.cell 1, hB.cell 2, hB.cell 3, hB.cell 4, hB.cell 5⟩)
    have HW0 := Lib.hid hW0
    clear hW0 hB hz
    go_enter Tryz.func6, Tryz.ntmps6
    go_wp2_with fail
    rw [HW0.out]
    refine (HA.out _).mono ?_
    rintro e w1 ⟨rfl, hb⟩
    have HM1 : Hid (Below W0.heap.size W0 w1) := Lib.hid hb
    clear hb
    obtain ⟨q0, q1, q2, q3, q4, q5⟩ := HKV.out w1 HM1.out
    go_wp2_with fail
    refine (HS.out _).mono ?_
    rintro e w2 ⟨⟨v, rfl, hf⟩, hb⟩
    have HM2 : Hid (Below W0.heap.size W0 w2) := Lib.hid (HM1.out.trans (hb.mono HM1.out.size))
    have HF2 := Lib.hid hf.read
    obtain ⟨A, n, cap, rfl, hn, hnc, hcm⟩ := hf.form'
    have hn2 := hn.out
    subst hn2
    clear hf hb hn
    clear q0 q1 q2 q3 q4 q5
    obtain ⟨q0, q1, q2, q3, q4, q5⟩ := HKV.out w2 HM2.out
    go_wp2_with fail
    refine (HZ.out _).mono ?_
    rintro e w3 ⟨⟨v', rfl, hf3⟩, hb3⟩
    have HM3 : Hid (Below W0.heap.size W0 w3) := Lib.hid (HM2.out.trans (hb3.mono HM2.out.size))
    have HF3 := Lib.hid ((HF2.out.below hb3).mono hb3.size)
    have HG3 := Lib.hid hf3.read
    clear hb3 HF2
    clear q0 q1 q2 q3 q4 q5
    obtain ⟨q0, q1, q2, q3, q4, q5⟩ := HKV.out w3 HM3.out
    rcases hf3.form2 with ⟨rfl, hnil⟩ | ⟨g, cap', rfl, hnc', hcm'⟩
    · obtain ⟨rfl, rfl⟩ := List.append_eq_nil_iff.1 hnil
      clear hf3
      go_wp2_with fail
      refine (HU.out _).mono ?_
      rintro e w4 ⟨⟨v4, rfl, hf4⟩, hb4⟩
      have HM4 : Hid (Below W0.heap.size W0 w4) := Lib.hid (HM3.out.trans (hb4.mono HM3.out.size))
      have HF4 := Lib.hid ((HF3.out.below hb4).mono hb4.size)
      have HG4 := Lib.hid ((HG3.out.below hb4).mono hb4.size)
      have HH4 := Lib.hid hf4.read
      obtain ⟨A4, n4, cap4, rfl, hn4, hnc4, hcm4⟩ := hf4.form'
      have hn2 := hn4.out
      subst hn2
      clear hb4 HF3 HG3 hf4 hn4
      clear q0 q1 q2 q3 q4 q5
      obtain ⟨q0, q1, q2, q3, q4, q5⟩ := HKV.out w4 HM4.out
      have HP1 := Lib.hid (FrR.nil w4 w4.heap.size)
      have HP2 := Lib.hid (FrR.nil w4 w4.heap.size)
      have HF4 : Hid (FrR w4 w4.heap.size (.slice A 0 cap) []) := Lib.hid HF4.out
      have HH4 : Hid (FrR w4 w4.heap.size (.slice A4 0 cap4) []) := Lib.hid HH4.out
      go_wp2_with fail
      refine (HSM.out _ _ _ (by first | omega | (simp <;> omega)) w4.heap.size w4 HP1.out HF4.out (Nat.le_refl _)).mono ?_
      rintro e w5 ⟨rfl, hb5⟩
      have HM5 : Hid (Below W0.heap.size W0 w5) := Lib.hid (HM4.out.trans (hb5.mono HM4.out.size))
      have HP5 := Lib.hid (HP2.out.below hb5)
      have HH5 := Lib.hid (HH4.out.below hb5)
      have hz5 := hb5.size
      clear hb5 q0 q1 q2 q3 q4 q5
      have n1 := (str_ways t2 t2)
      simp only [ne_eq, not_true_eq_false, false_and, or_false, true_and] at n1
      obtain ⟨n1, n2⟩ := n1
      go_wp2_with fail
      refine (HSM.out _ _ _ (by first | omega | (simp <;> omega)) w4.heap.size w5 HP5.out HH5.out hz5).mono ?_
      rintro e w6 ⟨rfl, hb6⟩
      go_wp2
      go_ret
      exact ⟨ret_bool (by simp), (HO.out _ (HM5.out.trans (hb6.mono HM5.out.size))).1⟩
    · rw [List.length_append] at hnc'
      clear hf3
      go_wp2_with fail
      refine (HU.out _).mono ?_
      rintro e w4 ⟨⟨v4, rfl, hf4⟩, hb4⟩
      have HM4 : Hid (Below W0.heap.size W0 w4) := Lib.hid (HM3.out.trans (hb4.mono HM3.out.size))
      have HF4 := Lib.hid ((HF3.out.below hb4).mono hb4.size)
      have HG4 := Lib.hid ((HG3.out.below hb4).mono hb4.size)
      have HH4 := Lib.hid hf4.read
      obtain ⟨A4, n4, cap4, rfl, hn4, hnc4, hcm4⟩ := hf4.form'
      have hn2 := hn4.out
      subst hn2
      clear hb4 HF3 HG3 hf4 hn4
      clear q0 q1 q2 q3 q4 q5
      obtain ⟨q0, q1, q2, q3, q4, q5⟩ := HKV.out w4 HM4.out
      have HP1 := Lib.hid (HG4.out.head rfl (by omega) hcm')
      by_cases hcl : cap' = l.length
      · subst hcl
        obtain rfl : l2 = [] := List.eq_nil_of_length_eq_zero (by omega)
        have HP2 := Lib.hid (FrR.empty w4 w4.heap.size (some ⟨g, 0, none⟩) 0 (by omega))
        have HH4 : Hid (FrR w4 w4.heap.size (.slice A4 0 cap4) []) := Lib.hid HH4.out
        clear HG4
        go_wp2_with fail
        refine (HSM.out _ _ _ (by first | omega | (simp <;> omega)) w4.heap.size w4 HP1.out HF4.out (Nat.le_refl _)).mono ?_
        rintro e w5 ⟨rfl, hb5⟩
        have HM5 : Hid (Below W0.heap.size W0 w5) := Lib.hid (HM4.out.trans (hb5.mono HM4.out.size))
        have HP5 := Lib.hid (HP2.out.below hb5)
        have HH5 := Lib.hid (HH4.out.below hb5)
        have hz5 := hb5.size
        clear hb5 q0 q1 q2 q3 q4 q5
        have n1 := (str_ways t2 t2)
        simp only [ne_eq, not_true_eq_false, false_and, or_false, true_and] at n1
        obtain ⟨n1, n2⟩ := n1
        go_wp2_with fail
        refine (HSM.out _ _ _ (by first | omega | (simp <;> omega)) w4.heap.size w5 HP5.out HH5.out hz5).mono ?_
        rintro e w6 ⟨rfl, hb6⟩
        go_wp2
        go_ret
        exact ⟨ret_bool (by simp), (HO.out _ (HM5.out.trans (hb6.mono HM5.out.size))).1⟩
      · have HP2 := Lib.hid (HG4.out.tail rfl rfl hnc' hcm')
        clear HG4
        go_wp2_with fail
        refine (HSM.out _ _ _ (by first | omega | (simp <;> omega)) w4.heap.size w4 HP1.out HF4.out (Nat.le_refl _)).mono ?_
        rintro e w5 ⟨rfl, hb5⟩
        have HM5 : Hid (Below W0.heap.size W0 w5) := Lib.hid (HM4.out.trans (hb5.mono HM4.out.size))
        have HP5 := Lib.hid (HP2.out.below hb5)
        have HH5 := Lib.hid (HH4.out.below hb5)
        have hz5 := hb5.size
        clear hb5 q0 q1 q2 q3 q4 q5
        have n1 := (str_ways t2 t2)
        simp only [ne_eq, not_true_eq_false, false_and, or_false, true_and] at n1
        obtain ⟨n1, n2⟩ := n1
        go_wp2_with fail
        refine (HSM.out _ _ _ (by first | omega | (simp <;> omega)) w4.heap.size w5 HP5.out HH5.out hz5).mono ?_
        rintro e w6 ⟨rfl, hb6⟩
        go_wp2
        go_ret
        exact ⟨ret_bool (by simp), (HO.out _ (HM5.out.trans (hb6.mono HM5.out.size))).1⟩
  · rw [if_neg h3] at HZ
    simp only at HZ
    have h4 : (er != 0) = true := bne_iff_ne.2 h3
    have h5 : (er == er) = true := by simp
    unfold Cfg.val at *
    obtain ⟨fm, mg, fr, un, de, it⟩ := c
    simp only at *
    obtain ⟨W0, hW0⟩ : ∃ W0, w.alloc (.cells #[.int .i64 fm, .int .u32 mg, .int .i64 fr, .int .i64 un, .int .i64 de, .int .i64 it] 24) = W0 := ⟨_, rfl⟩
    have hz : W0.heap.size = w.heap.size + 1 := by rw [← hW0]; simp
    have hB : Blk W0 w.heap.size 24 #[.int .i64 fm, .int .u32 mg, .int .i64 fr, .int .i64 un, .int .i64 de, .int .i64 it] := by rw [← hW0]; exact Blk.new w _ _
    have HO : Hid (∀ V, Below W0.heap.size W0 V → Below w.heap.size w V ∧ w.heap.size + 1 ≤ V.heap.size) := Lib.hid (fun V hV => by
      have h1 : Below w.heap.size w W0 := by rw [← hW0]; exact (by repeat (first | exact Below.refl _ _ | assumption | with_reducible refine Below.drewN' ?_ _ | with_reducible refine Below.drew ?_ | ((with_reducible refine Below.alloc' ?_ ?_ _); · (first | omega | (simp <;> omega)))))
      exact ⟨h1.trans (hV.mono (by omega)), by have := hV.size; omega⟩)
    have HKB : Hid (∀ V, Below W0.heap.size W0 V → Blk V w.heap.size 24 #[.int .i64 fm, .int .u32 mg, .int .i64 fr, .int .i64 un, .int .i64 de, .int .i64 it]) := Lib.hid (fun V hV => hB.keep hV (by omega))
    have HKV : Hid (∀ V, Below W0.heap.size W0 V → V.cell? ⟨w.heap.size, 0, none⟩ = some (.int .i64 fm) ∧ V.cell? ⟨w.heap.size, 1, none⟩ = some (.int .u32 mg) ∧ V.cell? ⟨w.heap.size, 2, none⟩ = some (.int .i64 fr) ∧ V.cell? ⟨w.heap.size, 3, none⟩ = some (.int .i64 un) ∧ V.cell? ⟨w.heap.size, 4, none⟩ = some (.int .i64 de) ∧ V.cell? ⟨w.heap.size, 5, none⟩ = some (.int .i64 it)) := Lib.hid (fun V hV => by
      have hB := hB.keep hV (by omega)
      exact ⟨hB.cell 0, hB.cell 1, hB.cell 2, hB.cell 3, hB.cell 4, hB.cell 5⟩)
    have HW0 := Lib.hid hW0
    clear hW0 hB hz
    go_enter Tryz.func6, Tryz.ntmps6
    go_wp2_with fail
    rw [HW0.out]
    refine (HA.out _).mono ?_
    rintro e w1 ⟨rfl, hb⟩
    have HM1 : Hid (Below W0.heap.size W0 w1) := Lib.hid hb
    clear hb
    obtain ⟨q0, q1, q2, q3, q4, q5⟩ := HKV.out w1 HM1.out
    go_wp2_with fail
    refine (HS.out _).mono ?_
    rintro e w2 ⟨⟨v, rfl, hf⟩, hb⟩
    have HM2 : Hid (Below W0.heap.size W0 w2) := Lib.hid (HM1.out.trans (hb.mono HM1.out.size))
    have HF2 := Lib.hid hf.read
    obtain ⟨A, n, cap, rfl, hn, hnc, hcm⟩ := hf.form'
    have hn2 := hn.out
    subst hn2
    clear hf hb hn
    clear q0 q1 q2 q3 q4 q5
    obtain ⟨q0, q1, q2, q3, q4, q5⟩ := HKV.out w2 HM2.out
    go_wp2_with fail
    refine (HZ.out _).mono ?_
    rintro e w3 ⟨⟨v', rfl, hf3⟩, hb3⟩
    have HM3 : Hid (Below W0.heap.size W0 w3) := Lib.hid (HM2.out.trans (hb3.mono HM2.out.size))
    have HF3 := Lib.hid ((HF2.out.below hb3).mono hb3.size)
    have HG3 := Lib.hid hf3.read
    clear hb3 HF2
    clear q0 q1 q2 q3 q4 q5
    obtain ⟨q0, q1, q2, q3, q4, q5⟩ := HKV.out w3 HM3.out
    obtain ⟨A', n', cap', rfl, hn', hnc', hcm'⟩ := hf3.form'
    have hn2 := hn'.out
    subst hn2
    clear hf3 hn'
    have n1 := (str_ways (t ++ more) (t ++ more))
    simp only [ne_eq, not_true_eq_false, false_and, or_false, true_and] at n1
    obtain ⟨n1, n2⟩ := n1
    go_wp2_with fail
    refine (HSM.out _ _ l (by omega) w3.heap.size w3 HF3.out HG3.out (Nat.le_refl _)).mono ?_
    rintro e w4 ⟨rfl, hb4⟩
    go_wp2
    go_ret
    exact ⟨ret_bool (by simp), (HO.out _ (HM3.out.trans (hb4.mono HM3.out.size))).1⟩
theorem splitMore_row (c : Cfg) (s more : ByteArray) (w : World) (hc : c.ok) (hs : s.size ≤ maxLen) (hm : more.size ≤ maxLen) :
    Calls Tryz.prog 6 #[c.val, .string s, .string more] w fun e w' => e = .returned (.bool true) ∧ Below w.heap.size w w' :=
  splitMore_w c s more w hc (by simpa [maxLen] using hs) (by simpa [maxLen] using hm)
end Go.Proofs.YtebllmpdlapefaaGreatDoor
