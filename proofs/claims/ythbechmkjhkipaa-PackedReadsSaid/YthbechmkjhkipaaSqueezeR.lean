/- The document's Pack tells 'pack'. -/
import Derived.Test.YthbechmkjhkipaaSqueezeG
namespace Go.Proofs.Ythbechmkjhkipaa
set_option linter.unusedVariables false
set_option linter.unusedSimpArgs false
open Go.RowKit

theorem refMatch_b (s : ByteArray) (j i : Nat) (w : World) (hj : j < i) (hi : i ≤ s.size) (hs : s.size ≤ 65536) :
    Calls Try.prog 37 #[.string s, .int .i64 j, .int .i64 i] w fun e w' => e = .returned (.int .i64 (mt s.data.toList j i 64)) ∧ Below w.heap.size w w' :=
  (refMatch_c s j i w hj hi (by omega)).mono fun e w' ⟨he, m, hw⟩ => ⟨he, by rw [hw]; exact (Below.refl _ _).drewN' m⟩
theorem match_b (s : ByteArray) (j i : Nat) (w : World) (hj : j < i) (hi : i ≤ s.size) (hs : s.size ≤ 65536) :
    Calls Try.prog 25 #[.string s, .int .i64 j, .int .i64 i] w fun e w' => e = .returned (.int .i64 (mt s.data.toList j i 64)) ∧ Below w.heap.size w w' :=
  (match_c s j i w hj hi (by omega)).mono fun e w' ⟨he, m, hw⟩ => ⟨he, by rw [hw]; exact (Below.refl _ _).drewN' m⟩

def RPInv (s : ByteArray) (w : World) (i p f : Nat) (out pend : ByteArray) (wr : World) : Prop :=
  p ≤ i ∧ i ≤ s.size ∧ pend.data.toList = (s.data.toList.take i).drop p ∧ out.data.toList ++ pk s.data.toList f p i = pack s.data.toList ∧ s.size - i < f ∧ Below w.heap.size w wr
theorem RPInv.bd {s : ByteArray} {w : World} {i p f : Nat} {out pend : ByteArray} {wr : World} (h : RPInv s w i p f out pend wr) (hs : s.size ≤ 65536) : out.size ≤ 100000 ∧ pend.size = i - p ∧ i ≤ s.size ∧ p ≤ i ∧ s.size - i < f := by
  obtain ⟨h1, h2, h3, h4, h5, _⟩ := h
  have hp := pack_length s.data.toList (by simpa using hs)
  have := congrArg List.length h4
  have h6 := congrArg List.length h3
  simp only [List.length_append, toList_size, List.length_drop, List.length_take] at this h6 hp
  refine ⟨by omega, by omega, h2, h1, h5⟩
theorem RPInv.none {s : ByteArray} {w : World} {i p f : Nat} {out pend : ByteArray} {wr : World} (h : RPInv s w i p f out pend wr) (hi : i < s.size) (hf : fnd s.data.toList i i = none) (x : ByteArray) (hx : x.data.toList = [s[i]]) (wr' : World) (hw : Below w.heap.size w wr') : RPInv s w (i + 1) p (f - 1) out (pend ++ x) wr' := by
  obtain ⟨h1, h2, h3, h4, h5, h6⟩ := h
  obtain ⟨g, rfl⟩ : ∃ g, f = g + 1 := ⟨f - 1, by omega⟩
  unfold pk at h4
  rw [if_pos (by simpa using hi), hf] at h4
  refine ⟨by omega, by omega, ?_, h4, by omega, hw⟩
  rw [toList_app, h3, hx, take_snoc s i hi, List.drop_append_of_le_length (by rw [length_take s i h2]; exact h1)]
theorem RPInv.some {s : ByteArray} {w : World} {i p f j : Nat} {out pend a b : ByteArray} {wr : World} (h : RPInv s w i p f out pend wr) (hi : i < s.size) (hf : fnd s.data.toList i i = some j) (ha : a.data.toList = litE pend.data.toList) (hb : b.data.toList = cpyE (mt s.data.toList j i 64) (i - j)) (wr' : World) (hw : Below w.heap.size w wr') (e : ByteArray) (he : e.data.toList = []) :
    RPInv s w (i + mt s.data.toList j i 64) (i + mt s.data.toList j i 64) (f - 1) (out ++ a ++ b) e wr' := by
  obtain ⟨h1, h2, h3, h4, h5, h6⟩ := h
  obtain ⟨g, rfl⟩ : ∃ g, f = g + 1 := ⟨f - 1, by omega⟩
  unfold pk at h4
  rw [if_pos (by simpa using hi), hf] at h4
  simp only at h4
  have hm := (mt_le s.data.toList 64 j i).2 (by simpa using h2)
  have h44 := (fnd_some _ _ _ _ hf).2
  rw [toList_size] at hm
  refine ⟨Nat.le_refl _, hm, ?_, ?_, by simp; omega, hw⟩
  · rw [he, List.drop_eq_nil_of_le]; rw [List.length_take]; omega
  · rw [← h4, toList_app, toList_app, ha, hb, h3]; simp
theorem RPInv.end_ {s : ByteArray} {w : World} {i p f : Nat} {out pend a : ByteArray} {wr : World} (h : RPInv s w i p f out pend wr) (hi : ¬ i < s.size) (ha : a.data.toList = litE pend.data.toList) : (⟨(pack s.data.toList).toArray⟩ : ByteArray) = out ++ a := by
  obtain ⟨h1, h2, h3, h4, h5, h6⟩ := h
  obtain ⟨g, rfl⟩ : ∃ g, f = g + 1 := ⟨f - 1, by omega⟩
  unfold pk at h4
  rw [if_neg (by simpa using hi)] at h4
  apply bytes_ext
  rw [toList_app, ha, h3, ← h4, List.take_of_length_le (by simp; omega)]
theorem fnd_next {L : List UInt8} {i j : Nat} {X : Option Nat} (h : fnd L i (j + 1) = X) (hm : mt L j i 64 < 4) : fnd L i j = X := by
  rw [← h, fnd, if_neg (by omega)]
theorem fnd_hit {L : List UInt8} {i j : Nat} {X : Option Nat} (h : fnd L i (j + 1) = X) (hm : ¬ mt L j i 64 < 4) : X = some j := by
  rw [← h, fnd, if_pos (by omega)]

def RPAt (s : ByteArray) (w : World) (v3 v4 v5 : Value) (wr : World) : Prop :=
  ∃ (i p f : Nat) (out pend : ByteArray), v3 = .string out ∧ v4 = .string pend ∧ v5 = .int .i64 i ∧ RPInv s w i p f out pend wr
def RPIn (L : List UInt8) (i : Nat) (wo : World) (v6 : Value) (wr : World) : Prop :=
  ∃ jn : Nat, v6 = .int .i64 ((jn : Int) - 1) ∧ jn ≤ i ∧ fnd L i jn = fnd L i i ∧ Below wo.heap.size wo wr

set_option maxRecDepth 100000 in
set_option maxHeartbeats 2000000 in
theorem refPack_c (s : ByteArray) (w : World) (hs : s.size ≤ 65536) :
    Calls Try.prog 13 #[.string s] w fun e w' => e = .returned (.string ⟨(pack s.data.toList).toArray⟩) ∧ Below w.heap.size w w' := by
  have H1 := Lib.hid (refLebPut_c 9 s.size w (by omega) (by omega))
  have hstart : ∀ w1, Below w.heap.size w w1 → RPInv s w 0 0 (s.size + 1) ⟨(lebL s.size).toArray⟩ ⟨#[]⟩ w1 := fun w1 hb => ⟨by omega, by omega, by simp, by simp [pack, toList_size], by omega, hb⟩
  have HS := Lib.hid hstart
  clear hstart
  go_enter Try.func13, Try.ntmps13
  go_wp2_with fail
  refine H1.out.mono ?_
  rintro e w1 ⟨rfl, hb1⟩
  go_wp2
  go_loopw [3, 4, 5] (fun v3 v4 v5 wr => RPAt s w v3 v4 v5 wr) (fun _ _ v5 _ => s.size - (intOf v5).toNat)
  case atStart => exact ⟨0, 0, _, _, _, rfl, rfl, rfl, HS.out w1 hb1⟩
  case round =>
    obtain ⟨i, p, f, out, pend, rfl, rfl, rfl, hinv⟩ := hrel
    obtain ⟨ho, hpz, hi, hpi, hf⟩ := hinv.bd hs
    have HI := Lib.hid hinv
    have hbb := hinv.2.2.2.2.2
    have hbz := hbb.size
    clear hinv
    have HP := Lib.hid hpz
    have hpz' : pend.size ≤ 65536 := by omega
    clear hpz
    by_cases hlt : i < s.size
    · obtain ⟨wo, hwo⟩ : ∃ wo : World, wo = wr := ⟨_, rfl⟩
      subst hwo
      go_wp2
      go_loopw [6] (fun v6 wr => RPIn s.data.toList i wo v6 wr) (fun v6 _ => (intOf v6 + 1).toNat)
      case atStart => exact ⟨i, rfl, Nat.le_refl _, rfl, Below.refl _ _⟩
      case round =>
        obtain ⟨jn, rfl, hjn, hfn, hbo⟩ := hrel
        have HF := Lib.hid hfn
        clear hfn
        rcases Nat.eq_zero_or_pos jn with h0 | h0
        · subst h0
          go_wp2
          go_roundw
          case rel => exact ⟨i + 1, p, f - 1, _, _, rfl, rfl, by go_num, HI.out.none hlt HF.out.symm _ (cut_one s i hlt) _ (hbb.trans (hbo.mono hbz))⟩
          case measure => simp [intOf]; omega
        · obtain ⟨j, rfl⟩ : ∃ j, jn = j + 1 := ⟨jn - 1, by omega⟩
          have ej : (((j + 1 : Nat) : Int) - 1) = (j : Int) := by omega
          rw [ej]
          have hboz := hbo.size
          have HM := Lib.hid (fun w => refMatch_b s j i w (by omega) (by omega) hs)
          by_cases hm : mt s.data.toList j i 64 < 4
          · have HM' := Lib.hid hm
            go_wp2_with (go_at_call 37; refine (HM.out _).mono ?_; rintro e w2 ⟨rfl, hb2⟩)
            go_roundw
            case rel => exact ⟨j, rfl, by omega, fnd_next HF.out HM'.out, hbo.trans (hb2.mono hboz)⟩
            case measure => simp [intOf]
          · have HX := Lib.hid (fnd_hit HF.out hm)
            have hmm := mt_le s.data.toList 64 j i
            have hmi := hmm.2 (by simpa using hi)
            rw [toList_size] at hmi
            have hm64 := hmm.1
            have HL := Lib.hid (fun w => refLit_c pend w hpz')
            have hll := litE_length pend.data.toList (by simpa using hpz')
            have hlz : (⟨(litE pend.data.toList).toArray⟩ : ByteArray).size ≤ 70000 := by
              rw [size_of]; rw [toList_size] at hll
              have : (if pend.size = 0 then 0 else if pend.size ≤ 60 then 1 else if pend.size ≤ 256 then 2 else 3) ≤ 3 := by split <;> (try split) <;> (try split) <;> omega
              omega
            have HLL := Lib.hid (show (⟨(litE pend.data.toList).toArray⟩ : ByteArray).data.toList = litE pend.data.toList from rfl)
            generalize (⟨(litE pend.data.toList).toArray⟩ : ByteArray) = LT at *
            generalize hmt : mt s.data.toList j i 64 = n at *
            have HC := Lib.hid (fun w => refCpy_c n (i - j) w (by omega) (by omega) (by omega))
            rw [show ((i - j : Nat) : Int) = (i : Int) - j from by omega] at HC
            have hcz : (⟨(cpyE n (i - j)).toArray⟩ : ByteArray).size ≤ 3 := by rw [size_of]; exact (cpyE_length _ _).2
            have HCC := Lib.hid (show (⟨(cpyE n (i - j)).toArray⟩ : ByteArray).data.toList = cpyE n (i - j) from rfl)
            generalize (⟨(cpyE n (i - j)).toArray⟩ : ByteArray) = CT at *
            have HMT := Lib.hid hmt
            have hm4 : 4 ≤ n := by omega
            clear hmm hll hmt hm
            go_wp2_with fail
            refine (HM.out _).mono ?_
            rintro e w2 ⟨rfl, hb2⟩
            have hb2z := hb2.size
            go_wp2_with fail
            refine (HM.out _).mono ?_
            rintro e w3 ⟨rfl, hb3⟩
            have hb3z := hb3.size
            go_wp2_with fail
            refine (HL.out _).mono ?_
            rintro e w4 ⟨rfl, hb4⟩
            have hb4z := hb4.size
            go_wp2_with fail
            refine (HC.out _).mono ?_
            rintro e w5 ⟨rfl, hb5⟩
            have hW : Below w.heap.size w w5 := (hbb.trans (hbo.mono hbz)).trans ((hb2.mono (by omega)).trans ((hb3.mono (by omega)).trans ((hb4.mono (by omega)).trans (hb5.mono (by omega)))))
            have HR := Lib.hid (HI.out.some hlt HX.out HLL.out (by rw [HMT.out]; exact HCC.out) w5 hW ⟨#[]⟩ rfl)
            rw [HMT.out] at HR
            go_wp2
            go_roundw
            case rel => exact ⟨i + n, i + n, f - 1, _, _, rfl, rfl, by go_num, HR.out⟩
            case measure => simp [intOf]; omega
    · have HL := Lib.hid (fun w => refLit_c pend w hpz')
      have hll := litE_length pend.data.toList (by simpa using hpz')
      have hlz : (⟨(litE pend.data.toList).toArray⟩ : ByteArray).size ≤ 70000 := by
        rw [size_of]; rw [toList_size] at hll
        have : (if pend.size = 0 then 0 else if pend.size ≤ 60 then 1 else if pend.size ≤ 256 then 2 else 3) ≤ 3 := by split <;> (try split) <;> (try split) <;> omega
        omega
      have HR := Lib.hid (HI.out.end_ hlt (a := ⟨(litE pend.data.toList).toArray⟩) rfl)
      generalize (⟨(litE pend.data.toList).toArray⟩ : ByteArray) = LT at *
      clear hll
      go_wp2_with fail
      refine (HL.out _).mono ?_
      rintro e w2 ⟨rfl, hb2⟩
      go_wp2
      go_ret
      exact ⟨ret_str HR.out, hbb.trans (hb2.mono hbz)⟩
end Go.Proofs.Ythbechmkjhkipaa
