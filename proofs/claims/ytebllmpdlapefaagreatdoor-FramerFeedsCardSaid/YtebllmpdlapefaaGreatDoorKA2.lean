/- Frames of any format: what is told is put back, beginnings, sizes; the document's Put. Plain laws. No program in sight. -/
/- What bytes are split into, by any reader of what they begin with: plain functions and laws. No program in sight. -/
/- What bytes are split into by a config, and frames joined; how many bytes a frame needs: plain laws. No program in sight. -/
/- A region that draws its order, whose operations only read (or call what only reads) but for a forced tail: one walk of the lexical order, then the tail. Own law; no program in sight. -/
/- A region that draws its order, its operations in any order under an invariant. Own law; no program in sight. -/
import Derived.Test.YtebllmpdlapefaaGreatDoorKA1
import Derived.StillTail
import Derived.Deep.Quiet
import Derived.Deep.QuietTactic
import Derived.BigQuiet
import Derived.Tactics
namespace Go.Proofs.YtebllmpdlapefaaGreatDoor
set_option linter.unusedVariables false
set_option linter.unusedSimpArgs false

theorem cnNext_err (m : Nat) (most : Int) (s : ByteArray) (h : (cnNext m most s).1 ≠ 0) : cnNext m most s = ((cnNext m most s).1, ByteArray.empty, ByteArray.empty, 0) := by
  unfold cnNext at h ⊢
  by_cases h1 : s.size < 4
  · rw [if_pos h1]
  rw [if_neg h1] at h ⊢
  by_cases h2 : s.extract 0 4 ≠ le4 m
  · rw [if_pos h2]
  rw [if_neg h2] at h ⊢
  by_cases h3 : s.size < 16
  · rw [if_pos h3]
  rw [if_neg h3] at h ⊢
  by_cases h4 : (nmGet (s.extract 4 16)).1 ≠ 0
  · rw [if_pos h4]
  rw [if_neg h4] at h ⊢
  by_cases h5 : s.size < 20
  · rw [if_pos h5]
  rw [if_neg h5] at h ⊢
  generalize leL (s.extract 16 20).data.toList = N at *
  by_cases h6 : most < N
  · rw [if_pos h6]
  rw [if_neg h6] at h ⊢
  by_cases h7 : s.size < 24 + N
  · rw [if_pos h7]
  rw [if_neg h7] at h ⊢
  by_cases h8 : shChk (s.extract 24 (24 + N)) ≠ s.extract 20 24
  · rw [if_pos h8]
  rw [if_neg h8] at h
  exact absurd rfl h
theorem cnNext_short (m : Nat) (most : Int) (s : ByteArray) (hm : 0 ≤ most) (h : (cnNext m most s).1 = 2) : (s.size : Int) < 24 + most := by
  unfold cnNext at h
  by_cases h1 : s.size < 4
  · omega
  rw [if_neg h1] at h
  by_cases h2 : s.extract 0 4 ≠ le4 m
  · rw [if_pos h2] at h; cases h
  rw [if_neg h2] at h
  by_cases h3 : s.size < 16
  · omega
  rw [if_neg h3] at h
  by_cases h4 : (nmGet (s.extract 4 16)).1 ≠ 0
  · rw [if_pos h4] at h; cases h
  rw [if_neg h4] at h
  by_cases h5 : s.size < 20
  · omega
  rw [if_neg h5] at h
  generalize leL (s.extract 16 20).data.toList = N at *
  by_cases h6 : most < N
  · rw [if_pos h6] at h; cases h
  rw [if_neg h6] at h
  by_cases h7 : s.size < 24 + N
  · omega
  rw [if_neg h7] at h
  by_cases h8 : shChk (s.extract 24 (24 + N)) ≠ s.extract 20 24
  · rw [if_pos h8] at h; cases h
  rw [if_neg h8] at h
  cases h
theorem plErr (most : Int) (s : ByteArray) (h : (plNext most s).1 ≠ 0) : plNext most s = ((plNext most s).1, 0, ByteArray.empty, 0) := by
  rw [plNext_eq] at h ⊢
  split
  · rfl
  · split
    · rfl
    · split
      · rfl
      · rename_i h1 h2 h3
        rw [if_neg h1, if_neg h2, if_neg h3] at h
        exact absurd rfl h
theorem head_le {fr : Int} (N : Nat) (hN : (N : Int) ≤ fr) (hf : fr ≤ 65536) : (((lebL N).length + N : Nat) : Int) ≤ wHead fr + fr := by
  unfold wHead
  split
  · have := lebL_length 1 N (by omega) (by omega); omega
  · split
    · have := lebL_length 2 N (by omega) (by omega); omega
    · have := lebL_length 3 N (by omega) (by omega); omega
theorem plNext_short (fr : Int) (s : ByteArray) (hf : fr ≤ 65536) (h : (plNext fr s).1 = 2) : (s.size : Int) < max (wHead fr + fr) 10 := by
  rw [plNext_eq] at h
  by_cases h0 : (plSize fr s).2.2 ≠ 0
  · rw [if_pos h0] at h
    have h : (plSize fr s).2.2 = 2 := h
    unfold plSize at h
    by_cases h1 : (lebNext s).2.2 = 0
    · rw [if_pos h1] at h
      split at h <;> cases h
    · rw [if_neg h1] at h
      have := lebNext_short s h
      omega
  rw [if_neg h0] at h
  have h0 := Decidable.not_not.1 h0
  have hok := plSize_ok fr s h0
  have hk : (plSize fr s).2.1 = (lebL (plSize fr s).1).length := by
    unfold plSize at h0 ⊢
    by_cases h1 : (lebNext s).2.2 = 0
    · rw [if_pos h1] at h0 ⊢
      by_cases h2 : fr < (lebNext s).1
      · rw [if_pos h2] at h0; cases h0
      · rw [if_neg h2]; exact (lebNext_back s h1).2
    · rw [if_neg h1] at h0; exact absurd h0 h1
  by_cases h1 : s.size < (plSize fr s).2.1 + (plSize fr s).1
  · have := head_le (plSize fr s).1 hok.1 hf
    omega
  rw [if_neg h1] at h
  split at h <;> cases h
theorem pkNext_two (fr un : Int) (s : ByteArray) (h : (pkNext fr un s).1 = 2) : (plNext fr s).1 = 2 := by
  rw [pkNext_eq] at h
  by_cases h0 : (plNext fr s).1 ≠ 0
  · rw [if_pos h0] at h; exact h
  rw [if_neg h0] at h
  split at h
  · split at h <;> cases h
  · split at h
    · cases h
    · split at h <;> cases h
theorem pkNext_zero (fr un : Int) (s : ByteArray) (h : (pkNext fr un s).1 = 0) : (plNext fr s).1 = 0 ∧ (pkNext fr un s).2.1 = (plNext fr s).2.1 ∧ (pkNext fr un s).2.2.2.1 = (plNext fr s).2.2.2 := by
  rw [pkNext_eq] at h ⊢
  by_cases h0 : (plNext fr s).1 ≠ 0
  · rw [if_pos h0] at h; exact absurd h h0
  rw [if_neg h0] at h ⊢
  split at h
  · split at h <;> cases h
  · rename_i h1
    rw [if_neg h1]
    split at h
    · cases h
    · rename_i h2
      rw [if_neg h2]
      split at h
      · cases h
      · rename_i h3
        rw [if_neg h3]
        exact ⟨Decidable.not_not.1 h0, rfl, rfl⟩
theorem pkNext_err (fr un : Int) (s : ByteArray) (h : (pkNext fr un s).1 ≠ 0) : (pkNext fr un s).2.1 = 0 ∧ (pkNext fr un s).2.2.1 = ByteArray.empty ∧ (pkNext fr un s).2.2.2.1 = 0 := by
  rw [pkNext_eq] at h ⊢
  split
  · exact ⟨rfl, rfl, rfl⟩
  · rename_i h0
    rw [if_neg h0] at h
    split
    · exact ⟨rfl, rfl, rfl⟩
    · rename_i h1
      rw [if_neg h1] at h
      split
      · exact ⟨rfl, rfl, rfl⟩
      · rename_i h2
        rw [if_neg h2] at h
        split
        · exact ⟨rfl, rfl, rfl⟩
        · rename_i h3
          rw [if_neg h3] at h
          exact absurd rfl h
/-- What isn't told is no frame. -/
theorem wRaw_err (c : Cfg) (s : ByteArray) (h : (wRaw c s).1 ≠ 0) : (wRaw c s).2.1 = noFr ∧ (wRaw c s).2.2.1 = 0 := by
  unfold wRaw at h ⊢
  by_cases h1 : c.fm = 1
  · rw [if_pos h1] at h ⊢
    have h : (cnNext c.mg c.fr s).1 ≠ 0 := h
    rw [cnNext_err c.mg c.fr s h]
    exact ⟨rfl, rfl⟩
  · rw [if_neg h1] at h ⊢
    by_cases h2 : c.fm = 2
    · rw [if_pos h2] at h ⊢
      have h : (plNext c.fr s).1 ≠ 0 := h
      rw [plErr c.fr s h]
      exact ⟨rfl, rfl⟩
    · rw [if_neg h2] at h ⊢
      obtain ⟨e1, e2, e3⟩ := pkNext_err c.fr c.un s h
      exact ⟨by rw [e1, e2]; rfl, e3⟩
/-- A frame's size. -/
theorem wRaw_size {c : Cfg} {s : ByteArray} (hr : c.right = true) (h : (wRaw c s).1 = 0) : ((wRaw c s).2.2.1 : Int) ≤ wMost c ∧ (wRaw c s).2.2.1 ≤ s.size ∧ (wRaw c s).2.1.id < 18446744073709551616 := by
  have hR := (c.right_iff).1 hr
  unfold wMost
  rw [if_pos hr]
  unfold wRaw at h ⊢
  have hpl : (plNext c.fr s).1 = 0 → ((plNext c.fr s).2.2.2 : Int) ≤ wHead c.fr + c.fr ∧ (plNext c.fr s).2.2.2 ≤ s.size ∧ (plNext c.fr s).2.1 < 18446744073709551616 := fun h => by
    obtain ⟨h1, h2, h3, h4, _⟩ := plPut_next c.fr s (plNext c.fr s).2.1 (plNext c.fr s).2.2.1 (plNext c.fr s).2.2.2 (Prod.ext h rfl)
    exact ⟨by rw [h4]; exact head_le _ h3 (by omega), h1, h2⟩
  by_cases h1 : c.fm = 1
  · rw [if_pos h1] at h ⊢
    rw [if_pos h1]
    obtain ⟨_, h3, h4, h5, _⟩ := cnPut_next c.mg c.fr s (cnNext c.mg c.fr s).2.1 (cnNext c.mg c.fr s).2.2.1 (cnNext c.mg c.fr s).2.2.2 (Prod.ext h rfl)
    exact ⟨by simp only; omega, h5, by simp⟩
  · rw [if_neg h1] at h ⊢
    rw [if_neg h1]
    by_cases h2 : c.fm = 2
    · rw [if_pos h2] at h ⊢
      exact hpl h
    · rw [if_neg h2] at h ⊢
      obtain ⟨e1, e2, e3⟩ := pkNext_zero c.fr c.un s h
      have := hpl e1
      simp only
      rw [e2, e3]
      exact this
/-- What Coin and Plain tell is put as it was. -/
theorem wPut_back {c : Cfg} {s : ByteArray} (hr : c.right = true) (h : (wRaw c s).1 = 0) (h3 : c.fm ≠ 3) : wPut c (wRaw c s).2.1 = (s.extract 0 (wRaw c s).2.2.1, 0) := by
  have hR := (c.right_iff).1 hr
  unfold wRaw at h ⊢
  by_cases h1 : c.fm = 1
  · rw [if_pos h1] at h ⊢
    obtain ⟨k1, k2, k3, k4, k5, k6⟩ := cnPut_next c.mg c.fr s (cnNext c.mg c.fr s).2.1 (cnNext c.mg c.fr s).2.2.1 (cnNext c.mg c.fr s).2.2.2 (Prod.ext h rfl)
    simp only
    generalize (cnNext c.mg c.fr s).2.1 = nm at *
    generalize (cnNext c.mg c.fr s).2.2.1 = body at *
    generalize (cnNext c.mg c.fr s).2.2.2 = n at *
    have hb : wBytes c ⟨0, nm, body⟩ = (cnPut c.mg nm body, 0) := by
      unfold wBytes
      rw [if_pos h1, if_pos k1, if_neg (by simp only; omega)]
    have hf : wFits c ⟨0, nm, body⟩ = true := by unfold wFits; rw [if_pos h1]; rfl
    have hn := cnNext_put c.mg c.fr nm body ByteArray.empty k1 k2 k5
    rw [app_none] at hn
    unfold wPut
    rw [if_pos ⟨hr, hf⟩, hb, if_neg (by simp)]
    unfold wRaw
    rw [if_pos h1]
    simp only
    rw [hn, if_neg (by simp), k6]
  · have h2 : c.fm = 2 := by omega
    rw [if_neg h1, if_pos h2] at h ⊢
    obtain ⟨k1, k2, k3, k4, k5⟩ := plPut_next c.fr s (plNext c.fr s).2.1 (plNext c.fr s).2.2.1 (plNext c.fr s).2.2.2 (Prod.ext h rfl)
    simp only
    generalize (plNext c.fr s).2.1 = id at *
    generalize (plNext c.fr s).2.2.1 = body at *
    generalize (plNext c.fr s).2.2.2 = n at *
    have hb : wBytes c ⟨id, ByteArray.empty, body⟩ = (⟨(plPut id body.data.toList).toArray⟩, 0) := by
      unfold wBytes
      rw [if_neg h1, if_pos h2, if_neg (by simp only; omega)]
    have hf : wFits c ⟨id, ByteArray.empty, body⟩ = true := by unfold wFits; rw [if_neg h1]; rfl
    have hn := plNext_put c.fr id body ⟨(plPut id body.data.toList).toArray⟩ [] k2 (by simp) (by omega) (by omega)
    unfold wPut
    rw [if_pos ⟨hr, hf⟩, hb, if_neg (by simp)]
    unfold wRaw
    rw [if_neg h1, if_pos h2]
    simp only
    rw [hn, if_neg (by simp), k5]
/-- A beginning is short, or tells the same. -/
theorem wRaw_cut (c : Cfg) (s : ByteArray) (k : Nat) (hk : k ≤ s.size) : (wRaw c (s.extract 0 k)).1 = 2 ∨ wRaw c (s.extract 0 k) = wRaw c s := by
  unfold wRaw
  by_cases h1 : c.fm = 1
  · rw [if_pos h1, if_pos h1]
    rcases cnNext_cut c.mg c.fr s k hk with h | h
    · exact .inl h
    · right; rw [h]
  · rw [if_neg h1, if_neg h1]
    by_cases h2 : c.fm = 2
    · rw [if_pos h2, if_pos h2]
      rcases plNext_pre c.fr s k hk with h | h
      · right; rw [h]
      · left; rw [h]
    · rw [if_neg h2, if_neg h2]
      rcases pkNext_pre c.fr c.un s k hk with h | ⟨_, h⟩
      · left; rw [h]
      · right; rw [h]
theorem wRaw_short {c : Cfg} {s : ByteArray} (hr : c.right = true) (h : (wRaw c s).1 = 2) : (s.size : Int) < max (wMost c) 10 := by
  have hR := (c.right_iff).1 hr
  unfold wMost
  rw [if_pos hr]
  unfold wRaw at h
  by_cases h1 : c.fm = 1
  · rw [if_pos h1] at h ⊢
    have := cnNext_short c.mg c.fr s (by omega) h
    omega
  · rw [if_neg h1] at h ⊢
    by_cases h2 : c.fm = 2
    · rw [if_pos h2] at h
      exact plNext_short c.fr s (by omega) h
    · rw [if_neg h2] at h
      exact plNext_short c.fr s (by omega) (pkNext_two _ _ _ h)
/-- The document's Put. -/
theorem wPutR_eq (c : Cfg) (f : Fr) (hid : f.id < 18446744073709551616) (hb : f.body.size ≤ 400) : wPutR c f = wPut c f := by
  unfold wPutR wPut
  by_cases hc : c.right = true ∧ wFits c f = true
  case neg => rw [if_neg hc, if_neg hc]
  rw [if_pos hc, if_pos hc]
  have hR := (c.right_iff).1 hc.1
  have hl := lebL_length 10 f.id (by omega) (by omega)
  have hp := pack_length f.body.data.toList (by rw [toList_size]; omega)
  rw [toList_size] at hp
  unfold wBytes wRaw
  by_cases h1 : c.fm = 1
  · simp only [h1, if_true]
    cases hm : nmMay f.nm with
    | false => simp
    | true =>
      have hn65 : ¬ 65536 < f.body.size := by omega
      simp only [if_true, hn65, false_or, if_false]
      by_cases hlt : c.fr < f.body.size
      · have := cnNext_over c.mg c.fr f.nm f.body ByteArray.empty hm hlt (by omega)
        rw [app_none] at this
        simp [hlt, this]
      · have := cnNext_put c.mg c.fr f.nm f.body ByteArray.empty hm (by omega) (by omega)
        rw [app_none] at this
        simp [hlt, this]
  · simp only [h1, if_false]
    by_cases h2 : c.fm = 2
    · have hn65 : ¬ 65536 < (lebL f.id).length + f.body.size := by omega
      simp only [h2, if_true, hn65, if_false]
      have hs := plSize_put c.fr f.id f.body.data.toList ⟨(plPut f.id f.body.data.toList).toArray⟩ [] (by simp) (by rw [List.length_append, toList_size]; omega)
      by_cases hlt : c.fr < (((lebL f.id ++ f.body.data.toList).length : Nat) : Int)
      · rw [if_pos hlt] at hs
        have hn := plNext_over c.fr ⟨(plPut f.id f.body.data.toList).toArray⟩ (by rw [hs])
        simp [hs, hn]
      · rw [if_neg hlt] at hs
        rw [List.length_append, toList_size] at hlt
        have hn := plNext_put c.fr f.id f.body ⟨(plPut f.id f.body.data.toList).toArray⟩ [] hid (by simp) (by omega) (by omega)
        simp [hs, hn]
    · have hn65 : ¬ 65536 < (lebL f.id).length + (pack f.body.data.toList).length := by omega
      simp only [h2, hn65, if_false]
      by_cases hu : c.un < f.body.size
      · simp [hu]
      · simp only [hu, if_false]
        have hs := plSize_put c.fr f.id (pack f.body.data.toList) ⟨(plPut f.id (pack f.body.data.toList)).toArray⟩ [] (by simp) (by rw [List.length_append]; omega)
        by_cases hlt : c.fr < (((lebL f.id ++ pack f.body.data.toList).length : Nat) : Int)
        · rw [if_pos hlt] at hs
          have hn := plNext_over c.fr ⟨(plPut f.id (pack f.body.data.toList)).toArray⟩ (by rw [hs])
          have hk : pkNext c.fr c.un ⟨(plPut f.id (pack f.body.data.toList)).toArray⟩ = (5, 0, ByteArray.empty, 0, 0) := by rw [pkNext_eq, hn]; simp
          simp [hs, hk]
        · rw [if_neg hlt] at hs
          rw [List.length_append] at hlt
          have hn := plNext_put c.fr f.id ⟨(pack f.body.data.toList).toArray⟩ ⟨(plPut f.id (pack f.body.data.toList)).toArray⟩ [] hid (by simp) (by rw [size_of]; omega) (by rw [size_of]; omega)
          have hh := pack_head ⟨(pack f.body.data.toList).toArray⟩ f.body.data.toList (by rw [toList_size]; omega) rfl
          have hT := unpack_pack ⟨(pack f.body.data.toList).toArray⟩ f.body.data.toList (by rw [toList_size]; omega) rfl c.un (by rw [toList_size]; omega)
          have hk : (pkNext c.fr c.un ⟨(plPut f.id (pack f.body.data.toList)).toArray⟩).1 = 0 := by
            rw [pkNext_eq, hn]
            simp only [ne_eq, not_true_eq_false, if_false]
            rw [hh]
            simp only [not_true_eq_false, if_false]
            rw [toList_size, if_neg (by omega), hT]
            simp
          simp [hs, hk]
end Go.Proofs.YtebllmpdlapefaaGreatDoor
namespace Go.Proofs.YtebllmpdlapefaaGreatDoor
set_option linter.unusedVariables false
set_option linter.unusedSimpArgs false

/-- A reader: the error, what is told, how many bytes it has, how many are metered. -/
abbrev Nx (α : Type) := ByteArray → Int × α × Nat × Nat
structure NxOk {α : Type} (nx : Nx α) : Prop where
  pos : ∀ s, (nx s).1 = 0 → 0 < (nx s).2.2.1 ∧ (nx s).2.2.1 ≤ s.size
  ext : ∀ s t, (nx s).1 ≠ 2 → nx (s ++ t) = nx s
  short : ∀ s, (nx s).1 = 2 → (nx s).2.2.2 = 0
/-- What is told, the tail, how many are metered, the error (0: the tail is short). -/
abbrev Spl (α : Type) := List α × ByteArray × Nat × Int
def Spl.cons {α : Type} (x : α) (m : Nat) (r : Spl α) : Spl α := (x :: r.1, r.2.1, m + r.2.2.1, r.2.2.2)
def spl {α : Type} (nx : Nx α) : Nat → ByteArray → Spl α
  | 0, s => ([], s, 0, 0)
  | f + 1, s => if (nx s).1 = 0 then (spl nx f (s.extract (nx s).2.2.1 s.size)).cons (nx s).2.1 (nx s).2.2.2 else ([], s, (nx s).2.2.2, if (nx s).1 = 2 then 0 else (nx s).1)
def split {α : Type} (nx : Nx α) (s : ByteArray) : Spl α := spl nx (s.size + 1) s
theorem rest_size (s : ByteArray) (n : Nat) (h : 0 < n) (hn : n ≤ s.size) : (s.extract n s.size).size < s.size := by rw [size_cut _ _ _ (Nat.le_refl _)]; omega
theorem spl_fuel {α : Type} {nx : Nx α} (h : NxOk nx) : ∀ (f g : Nat) (s : ByteArray), s.size < f → s.size < g → spl nx f s = spl nx g s
  | 0, _, _, hf, _ => absurd hf (by omega)
  | _, 0, _, _, hg => absurd hg (by omega)
  | f + 1, g + 1, s, hf, hg => by
    unfold spl
    by_cases h0 : (nx s).1 = 0
    · rw [if_pos h0, if_pos h0]
      obtain ⟨h1, h2⟩ := h.pos s h0
      have := rest_size s _ h1 h2
      rw [spl_fuel h f g _ (by omega) (by omega)]
    · rw [if_neg h0, if_neg h0]
theorem split_eq {α : Type} {nx : Nx α} (h : NxOk nx) (s : ByteArray) : split nx s = if (nx s).1 = 0 then (split nx (s.extract (nx s).2.2.1 s.size)).cons (nx s).2.1 (nx s).2.2.2 else ([], s, (nx s).2.2.2, if (nx s).1 = 2 then 0 else (nx s).1) := by
  rw [split, spl]
  by_cases h0 : (nx s).1 = 0
  · rw [if_pos h0, if_pos h0]
    obtain ⟨h1, h2⟩ := h.pos s h0
    have := rest_size s _ h1 h2
    rw [split, spl_fuel h s.size _ _ (by omega) (Nat.lt_succ_self _)]
  · rw [if_neg h0, if_neg h0]
theorem split_go {α : Type} {nx : Nx α} (h : NxOk nx) {s : ByteArray} (h0 : (nx s).1 = 0) : split nx s = (split nx (s.extract (nx s).2.2.1 s.size)).cons (nx s).2.1 (nx s).2.2.2 := by rw [split_eq h s, if_pos h0]
theorem split_short {α : Type} {nx : Nx α} (h : NxOk nx) {s : ByteArray} (h0 : (nx s).1 = 2) : split nx s = ([], s, 0, 0) := by
  rw [split_eq h s, if_neg (by omega), if_pos h0, h.short s h0]
theorem split_err {α : Type} {nx : Nx α} (h : NxOk nx) {s : ByteArray} (h0 : (nx s).1 ≠ 0) (h2 : (nx s).1 ≠ 2) : split nx s = ([], s, (nx s).2.2.2, (nx s).1) := by
  rw [split_eq h s, if_neg h0, if_neg h2]
/-- Induction over what is split. -/
theorem split_ind {α : Type} {nx : Nx α} (h : NxOk nx) {p : ByteArray → Prop} (stop : ∀ s, (nx s).1 ≠ 0 → p s) (go : ∀ s, (nx s).1 = 0 → p (s.extract (nx s).2.2.1 s.size) → p s) (s : ByteArray) : p s := by
  suffices H : ∀ n (s : ByteArray), s.size < n → p s from H (s.size + 1) s (Nat.lt_succ_self _)
  intro n
  induction n with
  | zero => intro s hs; omega
  | succ n ih =>
    intro s hs
    by_cases h0 : (nx s).1 = 0
    · obtain ⟨h1, h2⟩ := h.pos s h0
      have := rest_size s _ h1 h2
      exact go s h0 (ih _ (by omega))
    · exact stop s h0
/-- The tail is what is short, where there is no error; where there is one, it is the tail's. -/
theorem split_tail {α : Type} {nx : Nx α} (h : NxOk nx) (s : ByteArray) : ((split nx s).2.2.2 = 0 → (nx (split nx s).2.1).1 = 2) ∧ ((split nx s).2.2.2 ≠ 0 → (nx (split nx s).2.1).1 = (split nx s).2.2.2 ∧ (split nx s).2.2.2 ≠ 2) := by
  induction s using split_ind h with
  | stop s h0 =>
    by_cases h2 : (nx s).1 = 2
    · rw [split_short h h2]; exact ⟨fun _ => h2, fun h => absurd rfl h⟩
    · rw [split_err h h0 h2]; exact ⟨fun h => absurd h h0, fun _ => ⟨rfl, h2⟩⟩
  | go s h0 ih => rw [split_go h h0]; exact ih
theorem split_tail_size {α : Type} {nx : Nx α} (h : NxOk nx) (s : ByteArray) : ∃ k, k ≤ s.size ∧ (split nx s).2.1 = s.extract k s.size := by
  induction s using split_ind h with
  | stop s h0 =>
    refine ⟨0, by omega, ?_⟩
    rw [cut_all, split_eq h s, if_neg h0]
  | go s h0 ih =>
    obtain ⟨k, hk, e⟩ := ih
    obtain ⟨h1, h2⟩ := h.pos s h0
    have hz : (s.extract (nx s).2.2.1 s.size).size = s.size - (nx s).2.2.1 := size_cut _ _ _ (Nat.le_refl _)
    refine ⟨(nx s).2.2.1 + k, by omega, ?_⟩
    rw [split_go h h0]
    show (split nx (s.extract (nx s).2.2.1 s.size)).2.1 = _
    rw [e, hz, cut_cut _ _ _ _ (by omega)]
    congr 1
    omega
theorem cut_app (s t : ByteArray) (n : Nat) (h : n ≤ s.size) : (s ++ t).extract n (s ++ t).size = s.extract n s.size ++ t := by
  apply bytes_ext
  rw [toList_cut, toList_app, toList_app, toList_cut, size_app, take_all]
  rw [List.take_of_length_le (by rw [List.length_append, toList_size, toList_size]; omega), List.drop_append_of_le_length (by rw [toList_size]; exact h)]
/-- With more behind. -/
theorem split_more {α : Type} {nx : Nx α} (h : NxOk nx) (s t : ByteArray) :
    split nx (s ++ t) = if (split nx s).2.2.2 = 0 then ((split nx s).1 ++ (split nx ((split nx s).2.1 ++ t)).1, (split nx ((split nx s).2.1 ++ t)).2.1, (split nx s).2.2.1 + (split nx ((split nx s).2.1 ++ t)).2.2.1, (split nx ((split nx s).2.1 ++ t)).2.2.2)
      else ((split nx s).1, (split nx s).2.1 ++ t, (split nx s).2.2.1, (split nx s).2.2.2) := by
  induction s using split_ind h with
  | stop s h0 =>
    by_cases h2 : (nx s).1 = 2
    · rw [split_short h h2]; simp
    · have he := h.ext s t h2
      rw [split_err h h0 h2, if_neg h0, split_err h (by rw [he]; exact h0) (by rw [he]; exact h2), he]
  | go s h0 ih =>
    obtain ⟨h1, h2⟩ := h.pos s h0
    have he := h.ext s t (by rw [h0]; decide)
    rw [split_go h (s := s ++ t) (by rw [he]; exact h0), split_go h h0, he, cut_app _ _ _ h2, ih]
    unfold Spl.cons
    by_cases hz : (split nx (s.extract (nx s).2.2.1 s.size)).2.2.2 = 0
    · rw [if_pos hz, if_pos hz]; simp [Nat.add_assoc]
    · rw [if_neg hz, if_neg hz]
/-- Chunk by chunk: the tail of what came, with the next chunk. -/
theorem split_next {α : Type} {nx : Nx α} (h : NxOk nx) (s t : ByteArray) (h0 : (split nx s).2.2.2 = 0) : split nx (s ++ t) = ((split nx s).1 ++ (split nx ((split nx s).2.1 ++ t)).1, (split nx ((split nx s).2.1 ++ t)).2.1, (split nx s).2.2.1 + (split nx ((split nx s).2.1 ++ t)).2.2.1, (split nx ((split nx s).2.1 ++ t)).2.2.2) := by
  rw [split_more h, if_pos h0]
end Go.Proofs.YtebllmpdlapefaaGreatDoor
namespace Go.Proofs.YtebllmpdlapefaaGreatDoor
set_option linter.unusedVariables false
set_option linter.unusedSimpArgs false

theorem app_cut (s t : ByteArray) : (s ++ t).extract 0 s.size = s := by
  apply bytes_ext
  rw [toList_cut, toList_app, List.drop_zero, List.take_append_of_le_length (by rw [toList_size]; exact Nat.le_refl _), take_all]
theorem wRaw_ext (c : Cfg) (s t : ByteArray) (h : (wRaw c s).1 ≠ 2) : wRaw c (s ++ t) = wRaw c s := by
  have := wRaw_cut c (s ++ t) s.size (by rw [size_app]; omega)
  rw [app_cut] at this
  rcases this with h1 | h1
  · exact absurd h1 h
  · exact h1.symm
theorem wRaw_no {c : Cfg} {s : ByteArray} (h : (wRaw c s).1 = 2) : wRaw c s = (2, noFr, 0, 0) := by
  unfold wRaw at h ⊢
  by_cases h1 : c.fm = 1
  · rw [if_pos h1] at h ⊢
    have h : (cnNext c.mg c.fr s).1 = 2 := h
    have := cnNext_err c.mg c.fr s (by rw [h]; decide)
    rw [this, h]; rfl
  · rw [if_neg h1] at h ⊢
    by_cases h2 : c.fm = 2
    · rw [if_pos h2] at h ⊢
      have h : (plNext c.fr s).1 = 2 := h
      have := plErr c.fr s (by rw [h]; decide)
      rw [this, h]; rfl
    · rw [if_neg h2] at h ⊢
      have h : (pkNext c.fr c.un s).1 = 2 := h
      rw [pkNext_short c.fr c.un s h]; rfl
theorem wRaw_pos {c : Cfg} {s : ByteArray} (h : (wRaw c s).1 = 0) : 0 < (wRaw c s).2.2.1 := by
  have hpl : (plNext c.fr s).1 = 0 → 0 < (plNext c.fr s).2.2.2 := fun h => by
    obtain ⟨_, _, _, h4, _⟩ := plPut_next c.fr s (plNext c.fr s).2.1 (plNext c.fr s).2.2.1 (plNext c.fr s).2.2.2 (Prod.ext h rfl)
    have := lebL_pos ((lebL (plNext c.fr s).2.1).length + (plNext c.fr s).2.2.1.size)
    omega
  unfold wRaw at h ⊢
  by_cases h1 : c.fm = 1
  · rw [if_pos h1] at h ⊢
    obtain ⟨_, _, h4, _⟩ := cnPut_next c.mg c.fr s (cnNext c.mg c.fr s).2.1 (cnNext c.mg c.fr s).2.2.1 (cnNext c.mg c.fr s).2.2.2 (Prod.ext h rfl)
    simp only; omega
  · rw [if_neg h1] at h ⊢
    by_cases h2 : c.fm = 2
    · rw [if_pos h2] at h ⊢; exact hpl h
    · rw [if_neg h2] at h ⊢
      obtain ⟨e1, _, e3⟩ := pkNext_zero c.fr c.un s h
      simp only
      rw [e3]; exact hpl e1
theorem wNext_right {c : Cfg} (hr : c.right = true) (s : ByteArray) : wNext c s = wRaw c s := by unfold wNext; rw [if_pos hr]
theorem wNext_ok (c : Cfg) : NxOk (wNext c) := by
  cases hr : c.right with
  | false =>
    have e : ∀ s, wNext c s = (1, noFr, 0, 0) := fun s => by unfold wNext; rw [hr]; rfl
    exact ⟨(fun s h => by rw [e] at h; cases h), (fun s t _ => by rw [e, e]), (fun s h => by rw [e])⟩
  | true =>
    refine ⟨fun s h => ?_, fun s t h => ?_, fun s h => ?_⟩
    · rw [wNext_right hr] at h ⊢; exact ⟨wRaw_pos h, (wRaw_size hr h).2.1⟩
    · rw [wNext_right hr] at h; rw [wNext_right hr, wNext_right hr]; exact wRaw_ext c s t h
    · rw [wNext_right hr] at h ⊢; rw [wRaw_no h]
theorem wNext_none {c : Cfg} (hr : c.right = true) : (wNext c ByteArray.empty).1 = 2 := by
  rw [wNext_right hr]
  have hl : lebNext ByteArray.empty = (0, 0, 2) := lebGo_end _ _ _ _ (by simp)
  have hp : plNext c.fr ByteArray.empty = (2, 0, ByteArray.empty, 0) := by
    rw [plNext_eq]
    have : plSize c.fr ByteArray.empty = (0, 0, 2) := by unfold plSize; rw [hl]; rfl
    rw [this]; rfl
  unfold wRaw
  by_cases h1 : c.fm = 1
  · rw [if_pos h1]; unfold cnNext; rfl
  · rw [if_neg h1]
    by_cases h2 : c.fm = 2
    · rw [if_pos h2, hp]
    · rw [if_neg h2, pkNext_eq, hp]; rfl
/-- Frames joined behind what is there. -/
def wJoin (c : Cfg) : ByteArray → List Fr → ByteArray × Int
  | acc, [] => (acc, 0)
  | acc, f :: l => if (wPut c f).2 ≠ 0 then (ByteArray.empty, (wPut c f).2) else wJoin c (acc ++ (wPut c f).1) l
theorem wJoin_split {c : Cfg} (hr : c.right = true) : ∀ (l : List Fr) (acc S : ByteArray), (∀ f ∈ l, f.id < 18446744073709551616) → wJoin c acc l = (S, 0) → ∃ T, S = acc ++ T ∧ ∃ m, split (wNext c) T = (l, ByteArray.empty, m, 0)
  | [], acc, S, _, h => by
    injection h with h _
    refine ⟨ByteArray.empty, by rw [app_none, h], 0, ?_⟩
    rw [split_short (wNext_ok c) (wNext_none hr)]
  | f :: l, acc, S, hid, h => by
    unfold wJoin at h
    by_cases h0 : (wPut c f).2 ≠ 0
    · rw [if_pos h0] at h; injection h with _ h; exact absurd h h0
    · rw [if_neg h0] at h
      have h0 := Decidable.not_not.1 h0
      obtain ⟨T, e, m, hs⟩ := wJoin_split hr l _ S (fun g hg => hid g (List.mem_cons_of_mem _ hg)) h
      obtain ⟨⟨k, hp⟩, _⟩ := wRaw_put (hid f (List.mem_cons_self ..)) (S := (wPut c f).1) (Prod.ext rfl h0) T
      have hn : wNext c ((wPut c f).1 ++ T) = (0, f, (wPut c f).1.size, k) := by rw [wNext_right hr, hp]
      refine ⟨(wPut c f).1 ++ T, by rw [e]; apply bytes_ext; simp only [toList_app, List.append_assoc], k + m, ?_⟩
      rw [split_go (wNext_ok c) (by rw [hn]), hn]
      simp only
      rw [cut_app _ _ _ (Nat.le_refl _)]
      have : (wPut c f).1.extract (wPut c f).1.size (wPut c f).1.size ++ T = T := by
        apply bytes_ext
        rw [toList_app, toList_cut, take_all, List.drop_eq_nil_of_le (by rw [toList_size]; exact Nat.le_refl _), List.nil_append]
      rw [this, hs]; rfl
/-- How many bytes a frame has that is short so far; 0: that isn't known. -/
def wNeed (c : Cfg) (s : ByteArray) : Nat :=
  if c.fm = 1 then (if s.size < 24 then 0 else 24 + leL (s.extract 16 20).data.toList)
  else if (plSize c.fr s).2.2 ≠ 0 then 0 else (plSize c.fr s).2.1 + (plSize c.fr s).1
theorem app_low (s t : ByteArray) (i j : Nat) (h : j ≤ s.size) : (s ++ t).extract i j = s.extract i j := by
  have := cut_of_cut (s ++ t) s.size i j h
  rw [app_cut] at this
  exact this.symm
theorem cnNext_wait (m : Nat) (most : Int) (s t : ByteArray) (h : (cnNext m most s).1 = 2) (h24 : 24 ≤ s.size) (hn : (s ++ t).size < 24 + leL (s.extract 16 20).data.toList) : (cnNext m most (s ++ t)).1 = 2 := by
  have hz := size_app s t
  unfold cnNext at h ⊢
  rw [app_low s t 0 4 (by omega), app_low s t 4 16 (by omega), app_low s t 16 20 (by omega)]
  rw [if_neg (by omega)] at h ⊢
  by_cases h2 : s.extract 0 4 ≠ le4 m
  · rw [if_pos h2] at h; cases h
  rw [if_neg h2] at h ⊢
  rw [if_neg (by omega)] at h ⊢
  by_cases h4 : (nmGet (s.extract 4 16)).1 ≠ 0
  · rw [if_pos h4] at h; cases h
  rw [if_neg h4] at h ⊢
  rw [if_neg (by omega)] at h ⊢
  generalize leL (s.extract 16 20).data.toList = N at *
  by_cases h6 : most < N
  · rw [if_pos h6] at h; cases h
  rw [if_neg h6, if_pos hn]
theorem plSize_ext (most : Int) (s t : ByteArray) (h : (plSize most s).2.2 = 0) : plSize most (s ++ t) = plSize most s := by
  have hl := lebNext_pre (s ++ t) s.size (by rw [size_app]; omega)
  rw [app_cut] at hl
  rcases hl with hl | hl
  · unfold plSize; rw [hl]
  · unfold plSize at h
    rw [hl] at h
    cases h
theorem plNext_wait (most : Int) (s t : ByteArray) (h0 : (plSize most s).2.2 = 0) (hn : (s ++ t).size < (plSize most s).2.1 + (plSize most s).1) : (plNext most (s ++ t)).1 = 2 := by
  rw [plNext_eq, plSize_ext most s t h0, if_neg (by rw [h0]; simp), if_pos hn]
/-- With fewer bytes than are needed it is short still. -/
theorem wNeed_short (c : Cfg) (s t : ByteArray) (h : (wRaw c s).1 = 2) (hn : (s ++ t).size < wNeed c s) : (wRaw c (s ++ t)).1 = 2 := by
  unfold wNeed at hn
  by_cases h1 : c.fm = 1
  · rw [if_pos h1] at hn
    unfold wRaw at h ⊢
    rw [if_pos h1] at h ⊢
    by_cases h24 : s.size < 24
    · rw [if_pos h24] at hn; omega
    · rw [if_neg h24] at hn
      exact cnNext_wait c.mg c.fr s t h (by omega) hn
  · rw [if_neg h1] at hn
    by_cases h0 : (plSize c.fr s).2.2 ≠ 0
    · rw [if_pos h0] at hn; omega
    · rw [if_neg h0] at hn
      have := plNext_wait c.fr s t (Decidable.not_not.1 h0) hn
      unfold wRaw
      rw [if_neg h1]
      by_cases h2 : c.fm = 2
      · rw [if_pos h2]; exact this
      · rw [if_neg h2, pkNext_eq, if_pos (by rw [this]; decide)]; exact this
end Go.Proofs.YtebllmpdlapefaaGreatDoor
namespace Go.Proofs.YtebllmpdlapefaaGreatDoor
set_option linter.unusedVariables false
set_option linter.unusedSimpArgs false
open Go

section
variable {P : Program} {ops : Array Oper} {md : Region.Mode} {C : World → Prop}

def wpAnyQL (P : Program) (md : Region.Mode) (ops : Array Oper) (C : World → Prop) (n : Nat) (L : Array Bool → Act → Prop) : Nat → Array Bool → Act → Prop
  | 0, listed, a => L listed a
  | f + 1, listed, a =>
    Region.ready md ops listed ≠ [] ∧ ∀ i ∈ Region.ready md ops listed, i < n ∧ qOp P ops C i (wpAnyQL P md ops C n L f (listed.setIfInBounds i true)) a
theorem wpAny_of_qhead {n g : Nat} {L : Array Bool → Act → Prop} {Q' : Exit → Act → World → Prop} (hL : ∀ listed a w, C w → L listed a → wpAny P md ops Q' g listed a w) :
    ∀ (f : Nat) (listed : Array Bool) (a : Act) (w : World), C w → wpAnyQL P md ops C n L f listed a → wpAny P md ops Q' (f + g) listed a w
  | 0, listed, a, w, hw, h => by rw [Nat.zero_add]; exact hL _ _ _ hw h
  | f + 1, listed, a, w, hw, h => by
    rw [show f + 1 + g = (f + g) + 1 by omega]
    exact ⟨fun h0 => absurd h0 h.1, fun i hi => wpOp_of_qOp hw (fun a' w' hw' h' => wpAny_of_qhead hL f _ a' w' hw' h') (h.2 i hi).2⟩
theorem wpAnyQL_first {n i : Nat} {oi : Oper} {v : Value} {L : Array Bool → Act → Prop} (hi : ops[i]? = some oi) (hsel : ∀ (j : Nat) (o : Oper) cs b, ops[j]? = some o → o.op ≠ .select cs b)
    (hs : Region.sinkB md ops n = true) (hc : Region.chainB md ops n = true) (hn : n < ops.size) (hin : i < n)
    (hdone : ∀ listed a, L listed a → ∀ j ∈ Region.ready md ops listed, n ≤ j) :
    ∀ (f : Nat) (listed : Array Bool) (a : Act), HeadInv md ops n listed →
      (∀ j oj, ops[j]? = some oj → j ≠ i → listed.getD j true = false → (∀ e ∈ oj.after, Region.binds md e = true → e.on ≠ i) → oi.apart ops oj = true) →
      i ∈ Region.ready md ops listed → YieldsIn P ops C oi v a →
      wpAnyQL P md ops C n L f (listed.setIfInBounds i true) (a.put oi.dst v) → wpAnyQL P md ops C n L (f + 1) listed a := by
  intro f
  induction f with
  | zero =>
    intro listed a inv _ hr hy H
    have hun := (mem_ready.1 hr).1
    refine ⟨fun h => (by rw [h] at hr; cases hr), fun j hj => ?_⟩
    have hjn : j < n := by
      rcases Nat.lt_or_ge j n with h | h
      · exact h
      · exact absurd hj (tail_waits hs hc hn inv _ i rfl hin hun j h)
    refine ⟨hjn, ?_⟩
    by_cases hji : j = i
    · subst hji; exact hy.qOp hi H
    · have := hdone _ _ H j (ready_mono hj hji)
      omega
  | succ f ih =>
    intro listed a inv hfree hr hy H
    have hun := (mem_ready.1 hr).1
    refine ⟨fun h => (by rw [h] at hr; cases hr), fun j hj => ?_⟩
    have hjn : j < n := by
      rcases Nat.lt_or_ge j n with h | h
      · exact h
      · exact absurd hj (tail_waits hs hc hn inv _ i rfl hin hun j h)
    refine ⟨hjn, ?_⟩
    by_cases hji : j = i
    · subst hji; exact hy.qOp hi H
    · have h1 := (H.2 j (ready_mono hj hji)).2
      obtain ⟨hjun, oj, hoj, hall⟩ := mem_ready.1 hj
      have hnot : ∀ e ∈ oj.after, Region.binds md e = true → e.on ≠ i := fun e he hb heq => by
        have h1 := hall e he hb
        rw [heq, getD_both hun] at h1
        cases h1
      have h2 := qOp_put hoj (hfree j oj hoj hji hjun hnot) (fun cs b => hsel i oi cs b hi) (fun cs b => hsel j oj cs b hoj) hy h1
      have hfree' : ∀ k ok, ops[k]? = some ok → k ≠ i → (listed.setIfInBounds j true).getD k true = false →
          (∀ e ∈ ok.after, Region.binds md e = true → e.on ≠ i) → oi.apart ops ok = true := fun k ok hk hki hun hno => by
        refine hfree k ok hk hki ?_ hno
        by_cases hjk : j = k
        · subst hjk; exact hjun
        · rw [getD_set_ne true hjk] at hun; exact hun
      refine qOp_mono (fun a' h3 => ih (listed.setIfInBounds j true) a' (inv.set hj hjn) hfree' (ready_mono hr (Ne.symm hji)) h3.1 ?_) h2
      rw [Array.setIfInBounds_comm _ _ hji]
      exact h3.2
theorem wpAnyQL_lex {n g : Nat} {Lq : Act → Prop} (hsel : Region.noSelect ops = true) (hs : Region.sinkB md ops n = true) (hc : Region.chainB md ops n = true) (hn : n < ops.size) :
    ∀ (l : List Oper) (k : Nat) (listed : Array Bool) (a : Act), (∀ j, j < l.length → l[j]? = ops[k + j]?) → k + l.length = n → HeadInv md ops n listed →
    Region.lexHead md ops g l.length k listed = true → wpQuiet P ops C Lq l a →
    wpAnyQL P md ops C n (fun listed' a' => Region.seqB md ops g n listed' = true ∧ Lq a') l.length listed a
  | [], k, listed, a, _, hk, _, hB, h => by
    have : k = n := by simpa using hk
    subst this
    exact ⟨by simpa [Region.lexHead] using hB, h⟩
  | o :: l, k, listed, a, hl, hk, inv, hB, h => by
    have h0 : ops[k]? = some o := by simpa using (hl 0 (by simp)).symm
    simp only [List.length_cons, Region.lexHead, Bool.and_eq_true] at hB
    obtain ⟨⟨hr, hf⟩, hB'⟩ := hB
    have hkn : k < n := by simp only [List.length_cons] at hk; omega
    have hr' : k ∈ Region.ready md ops listed := by simpa using hr
    have hst : qOp P ops C k (wpQuiet P ops C Lq l) a := by unfold qOp; simp only [h0]; exact h
    obtain ⟨v, hy, hK⟩ := yieldsIn_of_qOp h0 hst
    exact wpAnyQL_first h0 (Region.noSelect_spec hsel) hs hc hn hkn (fun listed' a' hL => seqB_ready hL.1) l.length listed a inv (Region.free_spec h0 hf) hr' hy
      (wpAnyQL_lex hsel hs hc hn l (k + 1) _ _ (fun j hj => by have := hl (j + 1) (by simp; omega); simpa [Nat.add_assoc, Nat.add_comm 1 j] using this) (by simp only [List.length_cons] at hk; omega) (inv.set hr' hkn) hB' hK)
theorem wp_region_quiet_tail {id : Nat} {Q : Exit → Act → World → Prop} {a : Act} {w : World} {l : List Oper} (n : Nat) (hm : P.follows .mixedOrders = true) (hB : Region.lexTailB .any l.toArray n = true)
    (h : wpQuiet P l.toArray (fun w' => ∃ k, w' = w.drewN k) (fun a' => ∀ k, wpList P l.toArray Q (l.drop n) a' (w.drewN k)) (l.take n) a) : (Code.region id l.toArray true).wp P Q a w := by
  simp only [Region.lexTailB, Bool.and_eq_true, decide_eq_true_eq] at hB
  obtain ⟨⟨⟨⟨hsel, hn⟩, hs⟩, hc⟩, hlex⟩ := hB
  have hn' : n < l.length := by simpa using hn
  have htl : (l.take n).length = n := by simp; omega
  have hdl : (l.drop n).length = l.toArray.size - n := by simp
  have inv0 : HeadInv .any l.toArray n (Array.replicate l.toArray.size false) :=
    ⟨by simp, fun j oj _ hl => (by rw [getD_replicate_false] at hl; cases hl), fun t _ ht => getD_in (by simpa using ht) (getD_replicate_false _ _)⟩
  have H := wpAnyQL_lex (md := .any) (g := l.toArray.size - n) hsel hs hc hn (l.take n) 0 _ a (fun j hj => by
    have hj' : j < n := by rw [htl] at hj; exact hj
    simp [hj']) (by simpa using htl) inv0 (by rw [htl]; exact hlex) h
  refine wp_region_any hm ?_
  have := wpAny_of_qhead (Q' := Q) (g := l.toArray.size - n) (fun listed a' w' hw' hL => by
    obtain ⟨k, rfl⟩ := hw'
    have := wpAny_of_seq (md := .any) (Q' := Q) (l.drop n) n listed a' (w.drewN k) (fun j => by simp [List.getElem?_drop]) (by rw [hdl]; exact hL.1) (hL.2 k)
    rwa [hdl] at this) _ _ _ _ ⟨1, rfl⟩ H
  rw [htl, show n + (l.toArray.size - n) = l.toArray.size by omega] at this
  exact this
end
end Go.Proofs.YtebllmpdlapefaaGreatDoor
namespace Go.Proofs.YtebllmpdlapefaaGreatDoor
set_option linter.unusedVariables false
set_option linter.unusedSimpArgs false
open Go

theorem cnt_less : ∀ (n i : Nat) (p p' : Nat → Bool), i < n → p i = true → p' i = false → (∀ j, j ≠ i → p' j = p j) → (List.range n).countP p = (List.range n).countP p' + 1
  | 0, i, p, p', hi, _, _, _ => by omega
  | n + 1, i, p, p', hi, h1, h2, h3 => by
    rw [List.range_succ, List.countP_append, List.countP_append]
    by_cases e : i = n
    · subst e
      have : (List.range i).countP p = (List.range i).countP p' := List.countP_congr fun x hx => by rw [h3 x (by have := List.mem_range.1 hx; omega)]
      simp [this, h1, h2]
    · rw [cnt_less n i p p' (by omega) h1 h2 h3]
      have : p' n = p n := h3 n (Ne.symm e)
      simp [this]; omega
section
variable {P : Program} {ops : Array Oper} {md : Region.Mode}
def Region.foreB (md : Region.Mode) (ops : Array Oper) : Bool :=
  (List.range ops.size).all fun i => match ops[i]? with
    | some o => o.after.all fun e => !Region.binds md e || decide (e.on < i)
    | none => false
theorem some_ready {listed : Array Bool} (hf : Region.foreB md ops = true) (hsz : listed.size = ops.size) : ∀ (i : Nat), i < ops.size → listed.getD i true = false → ∃ j, j < ops.size ∧ j ∈ Region.ready md ops listed := by
  intro i
  induction i using Nat.strongRecOn with
  | ind i ih =>
    intro hi hun
    by_cases hl : ∃ j, j < i ∧ listed.getD j true = false
    · obtain ⟨j, hj, hju⟩ := hl
      exact ih j hj (by omega) hju
    · refine ⟨i, hi, ?_⟩
      have h1 := List.all_eq_true.1 hf i (List.mem_range.2 hi)
      have hii : ops[i]? = some ops[i] := Array.getElem?_eq_getElem hi
      rw [hii] at h1
      refine mem_ready.2 ⟨hun, ops[i], hii, fun e he hb => ?_⟩
      have h2 := Array.all_eq_true'.1 h1 e he
      rw [hb] at h2
      have h3 : e.on < i := by simpa using h2
      have h4 : listed.getD e.on true = true := by
        rcases Bool.eq_false_or_eq_true (listed.getD e.on true) with h | h
        · exact h
        · exact absurd ⟨e.on, h3, h⟩ hl
      have : e.on < listed.size := by omega
      simp [this] at h4 ⊢; exact h4
theorem wpAny_of_inv {I : Array Bool → Act → World → Prop} {Q' : Exit → Act → World → Prop} (hf : Region.foreB md ops = true)
    (hstep : ∀ listed a w i, i < ops.size → I listed a w → i ∈ Region.ready md ops listed → wpOp P ops Q' i (I (listed.setIfInBounds i true)) a w)
    (hend : ∀ listed a w, (∀ i, i < ops.size → listed.getD i false = true) → I listed a w → Q' .normal a w) :
    ∀ (f : Nat) (listed : Array Bool) (a : Act) (w : World), (List.range ops.size).countP (fun i => !listed.getD i true) = f → listed.size = ops.size → I listed a w → wpAny P md ops Q' f listed a w
  | 0, listed, a, w, hcnt, hsz, hI => by
    have h0 : ∀ i, i < ops.size → listed.getD i true = true := fun i hi => by
      have := List.countP_eq_zero.1 hcnt i (List.mem_range.2 hi)
      simpa using this
    refine ⟨?_, hend _ _ _ (fun i hi => ?_) hI⟩
    · cases hr : Region.ready md ops listed with
      | nil => rfl
      | cons j l =>
        have hj : j ∈ Region.ready md ops listed := by rw [hr]; simp
        obtain ⟨hun, o, ho, _⟩ := mem_ready.1 hj
        rw [h0 j (Array.getElem?_eq_some_iff.1 ho).1] at hun
        cases hun
    · have := h0 i hi
      have hlt : i < listed.size := by omega
      simp [hlt] at this ⊢; exact this
  | f + 1, listed, a, w, hcnt, hsz, hI => by
    have hex : ∃ i, i < ops.size ∧ listed.getD i true = false := by
      have : 0 < (List.range ops.size).countP (fun i => !listed.getD i true) := by omega
      obtain ⟨i, hi, hp⟩ := List.countP_pos_iff.1 this
      exact ⟨i, List.mem_range.1 hi, by simpa using hp⟩
    obtain ⟨i0, hi0, hu0⟩ := hex
    obtain ⟨j0, hj0, hr0⟩ := some_ready hf hsz i0 hi0 hu0
    refine ⟨fun h => (by rw [h] at hr0; cases hr0), fun i hi => ?_⟩
    obtain ⟨hun, o, ho, _⟩ := mem_ready.1 hi
    have hin : i < ops.size := (Array.getElem?_eq_some_iff.1 ho).1
    refine wpOp_mono (fun a' w' hI' => wpAny_of_inv hf hstep hend f _ a' w' ?_ (by simp [hsz]) hI') (hstep listed a w i hin hI hi)
    have := cnt_less ops.size i (fun i => !listed.getD i true) (fun j => !(listed.setIfInBounds i true).getD j true) hin (by simp [hun]) (by
      have : i < listed.size := by omega
      simp [this]) (fun j hj => by simp [Array.getElem?_setIfInBounds_ne (Ne.symm hj)])
    omega
theorem wp_region_inv {id : Nat} {Q : Exit → Act → World → Prop} {a : Act} {w : World} {l : List Oper} (hm : P.follows .mixedOrders = true) (hB : Region.foreB .any l.toArray = true) (I : Array Bool → Act → World → Prop)
    (h0 : I (Array.replicate l.toArray.size false) a w.drew)
    (hstep : ∀ listed a w i, i < l.toArray.size → I listed a w → i ∈ Region.ready .any l.toArray listed → wpOp P l.toArray Q i (I (listed.setIfInBounds i true)) a w)
    (hend : ∀ listed a w, (∀ i, i < l.toArray.size → listed.getD i false = true) → I listed a w → Q .normal a w) : (Code.region id l.toArray true).wp P Q a w := by
  have hcnt : (List.range l.toArray.size).countP (fun i => !(Array.replicate l.toArray.size false).getD i true) = l.toArray.size := by
    have : (List.range l.toArray.size).countP (fun i => !(Array.replicate l.toArray.size false).getD i true) = (List.range l.toArray.size).length := by
      rw [List.countP_eq_length]
      intro i hi
      have := List.mem_range.1 hi
      simp [show i < l.length by simpa using this]
    simpa using this
  exact wp_region_any hm (wpAny_of_inv hB hstep hend _ _ a _ hcnt (by simp) h0)
end
/-- An operation without a guard. -/
theorem wpOp_some {P : Program} {ops : Array Oper} {Q : Exit → Act → World → Prop} {i : Nat} {K : Act → World → Prop} {a : Act} {w : World} {o : Oper} (hi : ops[i]? = some o) (hg : o.guard = none) (h : o.wp P a w K Q) : wpOp P ops Q i K a w := by
  unfold wpOp
  simp only [hi]
  have hw : Region.wanted o (yielded ops a.tmps) = true := by simp [Region.wanted, hg]
  rw [if_pos hw]; exact .inl h
theorem listed_or {listed : Array Bool} {i k : Nat} (h : (listed.setIfInBounds i true).getD k false = true) : k = i ∨ listed.getD k false = true := by
  by_cases e : i = k
  · exact .inl e.symm
  · rw [getD_set_ne false e] at h; exact .inr h
theorem listed_new {listed : Array Bool} {i : Nat} (h : i < listed.size) : (listed.setIfInBounds i true).getD i false = true := by simp [h]
theorem listed_far {listed : Array Bool} {i k : Nat} (h : i ≠ k) : (listed.setIfInBounds i true).getD k false = listed.getD k false := getD_set_ne false h
end Go.Proofs.YtebllmpdlapefaaGreatDoor
