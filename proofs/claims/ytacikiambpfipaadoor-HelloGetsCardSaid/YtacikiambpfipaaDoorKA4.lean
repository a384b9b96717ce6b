/- Values as trees: plain laws. No program in sight. -/
/- Names in twelve bytes: plain laws. No program in sight. -/
/- Items in memory: three cells (the text, whether it is a list, the slice of the items within). Own text; no program in sight but the type's number. -/
/- Types in memory: four cells (kind, size, the slice of the types within, tail). Own text; no program in sight. -/
import Derived.Test.YtacikiambpfipaaDoorKRlpRP
import Derived.Test.YtacikiambpfipaaDoorKA3
import Derived.Test.YtacikiambpfipaaDoorKA1
import Derived.Test.YtacikiambpfipaaDoorKTyP
namespace Go.Proofs.YtacikiambpfipaaDoor
set_option linter.unusedVariables false
set_option linter.unusedSimpArgs false

theorem rHead_le (b n : Nat) (h : n < 18446744073709551616) : (rHead b n).length ≤ 9 := by
  rw [rHead_length]
  have := minL_length 8 n (by simpa using h)
  split <;> omega
theorem rlpL_total (s : List It) (ih : ∀ x ∈ s, x.total + 9 * x.count < 1099511627776 → x.rlp.length ≤ x.total + 9 * x.count) : totalL s + 9 * countL s < 1099511627776 → (rlpL s).length ≤ totalL s + 9 * countL s := by
  induction s with
  | nil => simp [rlpL]
  | cons x xs hxs =>
    intro h
    simp only [totalL, countL] at h
    have h1 := ih x (by simp) (by omega)
    have h2 := hxs (fun y hy => ih y (by simp [hy])) (by omega)
    simp only [rlpL, totalL, countL, List.length_append]
    omega
theorem rlp_total (x : It) : x.total + 9 * x.count < 1099511627776 → x.rlp.length ≤ x.total + 9 * x.count := by
  induction x using It.ind with
  | h t l s ih =>
    intro h
    simp only [It.total, It.count] at h
    have h1 := rlpL_total s ih (by omega)
    rw [It.rlp]
    simp only [It.total, It.count]
    by_cases hl : l = true
    · rw [if_pos hl, List.length_append]
      have := rHead_le 192 (rlpL s).length (by omega)
      omega
    rw [if_neg hl]
    split
    · have : t.data.toList.length = t.size := toList_size t
      omega
    · rw [List.length_append]
      have := rHead_le 128 t.size (by omega)
      have : t.data.toList.length = t.size := toList_size t
      omega
theorem great_rlp (x : It) (h : x.great = false) : x.rlp.length ≤ 20000 := by
  have h1 := great_count x h
  have h3 := bulk_total x
  simp only [It.great, Bool.or_eq_false_iff, decide_eq_false_iff_not] at h
  have h2 := rlp_total x (by omega)
  omega
theorem great_count62 (x : It) (h : x.great = false) : x.count ≤ 4611686018427387904 := by
  have := great_count x h
  omega
/-- What Get of rlp tells, by the caps: the error; the item is (rdItem D M s 1 0).x. -/
def getE (D M : Int) (s : ByteArray) : Int := if (rdItem D M s 1 0).e ≠ 0 then (rdItem D M s 1 0).e else if (rdItem D M s 1 0).size < s.size then 3 else 0
def getX (D M : Int) (s : ByteArray) : It := if getE D M s ≠ 0 then noIt else (rdItem D M s 1 0).x
theorem may_parts (x : It) : x.may = true ↔ x.right = true ∧ x.deep ≤ 16 ∧ x.count ≤ 1024 := by
  simp only [It.may, Bool.and_eq_true, decide_eq_true_eq, and_assoc]
theorem capsE_zero (x : It) (D M : Int) : capsE x D M = 0 ↔ x.may = true ∧ (x.deep : Int) ≤ D ∧ (x.count : Int) ≤ M := by
  unfold capsE
  cases x.may <;> simp
  split
  · simp; omega
  · split
    · simp; omega
    · simp; omega
/-- What is put is got. -/
theorem getE_put (D M : Int) (x : It) (h : capsE x D M = 0) (s : ByteArray) (hs : s.data.toList = x.rlp) (hz : s.size < 18446744073709551616) : getE D M s = 0 ∧ getX D M s = x := by
  rw [capsE_zero, may_parts] at h
  obtain ⟨⟨h1, h2, h3⟩, h4, h5⟩ := h
  have hr := rd_put' D M x s [] 1 0 (by simpa using hs) hz h1 (by omega) (by omega) (by omega) (by omega)
  have hl : s.size = x.rlp.length := by rw [← hs, toList_size]
  have he : getE D M s = 0 := by
    unfold getE
    rw [hr]; simp; omega
  refine ⟨he, ?_⟩
  unfold getX
  rw [if_neg (by simp [he]), hr]
/-- What is got is put. -/
theorem put_getE (D M : Int) (s : ByteArray) (h : getE D M s = 0) : capsE (getX D M s) D M = 0 ∧ (getX D M s).rlp = s.data.toList := by
  have hx : getX D M s = (rdItem D M s 1 0).x := by unfold getX; rw [if_neg (by simp [h])]
  rw [hx]
  unfold getE at h
  have hb := (rd_back D M s.size).1 s 1 0 (Nat.le_refl _)
  generalize rdItem D M s 1 0 = R at *
  by_cases h1 : R.e ≠ 0
  · rw [if_pos h1] at h; exact absurd h h1
  rw [if_neg h1] at h
  have hb := hb (Decidable.not_not.1 h1)
  have h2 : ¬ R.size < s.size := by intro h2; rw [if_pos h2] at h; simp at h
  have h3 : s.data.toList.length = s.size := toList_size s
  refine ⟨?_, ?_⟩
  · rw [capsE_zero, may_parts]
    have a1 := hb.deepD
    have a2 := hb.deep16
    have a3 := hb.manyM
    have a4 := hb.many
    exact ⟨⟨hb.right, by omega, by omega⟩, by omega, by omega⟩
  · rw [hb.rlp, List.take_of_length_le (by omega)]
/-- Two that may be have the same bytes only if they are the same. -/
theorem rlp_inj (x y : It) (hx : x.may = true) (hy : y.may = true) (hl : x.rlp.length < 18446744073709551616) (h : x.rlp = y.rlp) : x = y := by
  have e1 : (⟨x.rlp.toArray⟩ : ByteArray).data.toList = x.rlp := by simp
  have hz : (⟨x.rlp.toArray⟩ : ByteArray).size < 18446744073709551616 := by rw [← toList_size, e1]; exact hl
  rw [may_parts] at hx hy
  have c1 : capsE x 16 1024 = 0 := by rw [capsE_zero, may_parts]; exact ⟨hx, by omega, by omega⟩
  have c2 : capsE y 16 1024 = 0 := by rw [capsE_zero, may_parts]; exact ⟨hy, by omega, by omega⟩
  have g1 := (getE_put 16 1024 x c1 _ e1 hz).2
  have g2 := (getE_put 16 1024 y c2 _ (e1.trans h) hz).2
  exact g1.symm.trans g2
theorem fitE_zero (ty : Ty) (x : It) : fitE ty x = 0 ↔ ty.may = true ∧ x.may = true ∧ x.isOf ty = true := by
  unfold fitE
  cases ty.may <;> cases x.may <;> cases x.isOf ty <;> simp
/-- The error of Put, of Get. -/
def tPutE (ty : Ty) (x : It) (D M : Int) : Int := if fitE ty x ≠ 0 then fitE ty x else capsE x D M
def tGetE (ty : Ty) (s : ByteArray) (D M : Int) : Int := if ty.may = false then 1 else if getE D M s ≠ 0 then getE D M s else fitE ty (getX D M s)
theorem tPutE_zero (ty : Ty) (x : It) (D M : Int) : tPutE ty x D M = 0 ↔ fitE ty x = 0 ∧ capsE x D M = 0 := by
  unfold tPutE
  split <;> simp_all
theorem tGetE_zero (ty : Ty) (s : ByteArray) (D M : Int) : tGetE ty s D M = 0 ↔ ty.may = true ∧ getE D M s = 0 ∧ fitE ty (getX D M s) = 0 := by
  unfold tGetE
  cases ty.may
  · simp
  · simp only [Bool.true_eq_false, if_false, true_and]
    split <;> simp_all
theorem tree_put_get (ty : Ty) (x : It) (D M : Int) (h : tPutE ty x D M = 0) (s : ByteArray) (hs : s.data.toList = x.rlp) (hz : s.size < 18446744073709551616) : tGetE ty s D M = 0 ∧ getX D M s = x := by
  rw [tPutE_zero] at h
  obtain ⟨h1, h2⟩ := getE_put D M x h.2 s hs hz
  rw [tGetE_zero, h2]
  exact ⟨⟨((fitE_zero ty x).1 h.1).1, h1, h.1⟩, rfl⟩
theorem tree_get_put (ty : Ty) (s : ByteArray) (D M : Int) (h : tGetE ty s D M = 0) : tPutE ty (getX D M s) D M = 0 ∧ (getX D M s).rlp = s.data.toList := by
  rw [tGetE_zero] at h
  obtain ⟨h1, h2⟩ := put_getE D M s h.2.1
  rw [tPutE_zero]
  exact ⟨⟨h.2.2, h1⟩, h2⟩
end Go.Proofs.YtacikiambpfipaaDoor
namespace Go.Proofs.YtacikiambpfipaaDoor
set_option linter.unusedVariables false
set_option linter.unusedSimpArgs false

/-- A byte that a name may have. -/
def nameB (b : Nat) : Bool := decide ((97 ≤ b ∧ b ≤ 122) ∨ (48 ≤ b ∧ b ≤ 57) ∨ b = 95)
def nameL (l : List UInt8) : Bool := l.all fun b => nameB b.toNat
/-- May it be a name? -/
def nmMay (s : ByteArray) : Bool := nameL s.data.toList && (decide (1 ≤ s.size) && decide (s.size ≤ 12))
/-- A name's bytes. -/
def nmPad (s : ByteArray) : ByteArray := ⟨(s.data.toList ++ List.replicate (12 - s.size) 0).toArray⟩
def cutL (l : List UInt8) : List UInt8 := (l.reverse.dropWhile (· == 0)).reverse
/-- Without the noughts at the end. -/
def nmCut (s : ByteArray) : ByteArray := ⟨(cutL s.data.toList).toArray⟩
/-- The name whose bytes they are, or the error. -/
def nmGet (s : ByteArray) : Int × ByteArray := if s.size = 12 ∧ nmMay (nmCut s) = true then (0, nmCut s) else (3, ByteArray.empty)

theorem nameL_snoc (l : List UInt8) (b : UInt8) : nameL (l ++ [b]) = (nameL l && nameB b.toNat) := by simp [nameL]
theorem nameL_take_no (l : List UInt8) (k : Nat) (h : nameL (l.take k) = false) : nameL l = false := by
  simp only [nameL, List.all_eq_false] at h ⊢
  obtain ⟨x, hx, hb⟩ := h
  exact ⟨x, List.mem_of_mem_take hx, hb⟩
/-- The seven ways of a byte's tests. -/
theorem name_ways (b : Nat) (hb : b < 256) : (nameB b = false ∧ (b < 48 ∨ (57 < b ∧ b < 95) ∨ (95 < b ∧ b < 97) ∨ 122 < b) ∧ b ≠ 95) ∨ (nameB b = true ∧ ((48 ≤ b ∧ b ≤ 57) ∨ (b = 95) ∨ (97 ≤ b ∧ b ≤ 122))) := by
  rcases Bool.eq_false_or_eq_true (nameB b) with h | h
  · right; refine ⟨h, ?_⟩; simp only [nameB, decide_eq_true_eq] at h; omega
  · left; refine ⟨h, ?_⟩; simp only [nameB, decide_eq_false_iff_not] at h; omega
theorem nmMay_size {s : ByteArray} (h : nmMay s = true) : 1 ≤ s.size ∧ s.size ≤ 12 := by
  simp only [nmMay, Bool.and_eq_true, decide_eq_true_eq] at h; exact h.2
theorem nmMay_no {s : ByteArray} (h : s.size < 1 ∨ 12 < s.size) : nmMay s = false := by
  rcases Bool.eq_false_or_eq_true (nmMay s) with h1 | h1
  · have := nmMay_size h1; omega
  · exact h1
theorem nmMay_of {s : ByteArray} (h1 : 1 ≤ s.size) (h2 : s.size ≤ 12) : nmMay s = nameL s.data.toList := by simp [nmMay, h1, h2]
theorem nmPad_list (s : ByteArray) : (nmPad s).data.toList = s.data.toList ++ List.replicate (12 - s.size) 0 := by simp [nmPad]
theorem nmPad_size (s : ByteArray) (h : s.size ≤ 12) : (nmPad s).size = 12 := by
  rw [← toList_size, nmPad_list]; simp; omega
theorem cutL_pad (l : List UInt8) (n : Nat) (h : ∀ b ∈ l, b ≠ 0) : cutL (l ++ List.replicate n 0) = l := by
  unfold cutL
  rw [List.reverse_append, List.reverse_replicate]
  have h1 : ∀ m : Nat, (List.replicate m (0 : UInt8) ++ l.reverse).dropWhile (· == 0) = l.reverse.dropWhile (· == 0) := by
    intro m
    induction m with
    | zero => simp
    | succ m ih => simp [List.replicate_succ, ih]
  rw [h1]
  have h2 : l.reverse.dropWhile (· == 0) = l.reverse := by
    cases hl : l.reverse with
    | nil => simp
    | cons x xs =>
      have hx : x ∈ l := by rw [← List.mem_reverse, hl]; simp
      have := h x hx
      simp [this]
  rw [h2, List.reverse_reverse]
theorem cutL_form (l : List UInt8) : ∃ n, l = cutL l ++ List.replicate n 0 := by
  unfold cutL
  have h : ∀ m : List UInt8, ∃ n, m = List.replicate n 0 ++ m.dropWhile (· == 0) := by
    intro m
    induction m with
    | nil => exact ⟨0, by simp⟩
    | cons x xs ih =>
      by_cases hx : x = 0
      · obtain ⟨n, hn⟩ := ih
        refine ⟨n + 1, ?_⟩
        subst hx
        simp only [List.replicate_succ, List.cons_append]
        rw [List.dropWhile_cons]
        simp only [beq_self_eq_true, if_true]
        rw [← hn]
      · exact ⟨0, by simp [hx]⟩
  obtain ⟨n, hn⟩ := h l.reverse
  refine ⟨n, ?_⟩
  have := congrArg List.reverse hn
  rw [List.reverse_reverse, List.reverse_append, List.reverse_replicate] at this
  exact this
theorem name_ne (s : ByteArray) (h : nmMay s = true) : ∀ b ∈ s.data.toList, b ≠ 0 := by
  intro b hb h0
  simp only [nmMay, Bool.and_eq_true, nameL, List.all_eq_true] at h
  have := h.1 b hb
  subst h0
  simp [nameB] at this
/-- What is put is got again. -/
theorem nmCut_pad (s : ByteArray) (h : nmMay s = true) : nmCut (nmPad s) = s := by
  apply bytes_ext
  simp only [nmCut]
  rw [nmPad_list, cutL_pad _ _ (name_ne s h)]
theorem nmGet_pad (s : ByteArray) (h : nmMay s = true) : nmGet (nmPad s) = (0, s) := by
  have h1 := nmPad_size s (nmMay_size h).2
  simp [nmGet, h1, nmCut_pad s h, h]
theorem nmGet_short (s : ByteArray) (h : s.size ≠ 12) : nmGet s = (3, ByteArray.empty) := by simp [nmGet, h]
/-- What is got is put as it was. -/
theorem nmPad_get (s t : ByteArray) (h : nmGet s = (0, t)) : nmPad t = s ∧ nmMay t = true := by
  unfold nmGet at h
  split at h
  · rename_i hc
    injection h with _ ht
    subst ht
    refine ⟨?_, hc.2⟩
    apply bytes_ext
    obtain ⟨n, hn⟩ := cutL_form s.data.toList
    rw [nmPad_list]
    have hz : (nmCut s).size = (cutL s.data.toList).length := by rw [nmCut, size_of]
    have hz2 : (nmCut s).data.toList = cutL s.data.toList := by simp [nmCut]
    have hl := congrArg List.length hn
    simp only [List.length_append, List.length_replicate, toList_size] at hl
    rw [hz, hz2, show 12 - (cutL s.data.toList).length = n from by omega, ← hn]
  · injection h with h _; omega
theorem nmGet_cases (s : ByteArray) : nmGet s = (3, ByteArray.empty) ∨ ∃ t, nmGet s = (0, t) := by
  unfold nmGet; split
  · exact .inr ⟨_, rfl⟩
  · exact .inl rfl
/-- The document's search: the name at a place is the only one. -/
theorem nmGet_hit (s : ByteArray) (n : Nat) (hm : nmMay (s.extract 0 n) = true) (hp : nmPad (s.extract 0 n) = s) : nmGet s = (0, s.extract 0 n) := by
  have := nmGet_pad _ hm
  rw [hp] at this; exact this
theorem nmGet_miss (s : ByteArray) (h : ∀ n, 1 ≤ n → n ≤ 12 → n ≤ s.size → ¬ (nmMay (s.extract 0 n) = true ∧ nmPad (s.extract 0 n) = s)) : nmGet s = (3, ByteArray.empty) := by
  rcases nmGet_cases s with h1 | ⟨t, h1⟩
  · exact h1
  · exfalso
    obtain ⟨hp, hm⟩ := nmPad_get s t h1
    have hz := nmMay_size hm
    have ht : s.extract 0 t.size = t := by
      apply bytes_ext
      rw [toList_cut, ← hp, nmPad_list, List.drop_zero, List.take_append_of_le_length (by simp), take_all]
    have hs : s.size = 12 := by rw [← hp]; exact nmPad_size t hz.2
    exact h t.size hz.1 hz.2 (by omega) ⟨by rw [ht]; exact hm, by rw [ht]; exact hp⟩
end Go.Proofs.YtacikiambpfipaaDoor
namespace Go.Proofs.YtacikiambpfipaaDoor
set_option linter.unusedVariables false
set_option linter.unusedSimpArgs false
open Go.RowKit

theorem lt_of_cell {w : World} {b o : Nat} {v : Value} (h : w.cell? ⟨b, o, none⟩ = some v) : b < w.heap.size := by
  rcases Nat.lt_or_ge b w.heap.size with h' | h'
  · exact h'
  · simp [World.cell?, Array.getElem?_eq_none h'] at h

mutual
/-- The three cells are the item x, whose lists lie below block B. -/
def ItIn (w : World) (B : Nat) : It → Value → Value → Value → Prop
  | .mk t l s, c0, c1, c2 => c0 = .string t ∧ c1 = .bool l ∧ t.size ≤ 9223372036854775807 ∧ s.length ≤ 9223372036854775807 ∧ ∃ A cap, c2 = .slice A s.length cap ∧ s.length ≤ cap ∧ cap ≤ 9223372036854775807 ∧ ItsIn w B s A 0
/-- From place i on the slice at A holds these items. -/
def ItsIn (w : World) (B : Nat) : List It → Option Addr → Nat → Prop
  | [], _, _ => True
  | x :: xs, A, i => (∃ b o c0 c1 c2, A = some ⟨b, o, none⟩ ∧ b < B ∧ w.cell? ⟨b, o + i * 3, none⟩ = some c0 ∧ w.cell? ⟨b, o + i * 3 + 1, none⟩ = some c1 ∧ w.cell? ⟨b, o + i * 3 + 2, none⟩ = some c2 ∧ ItIn w B x c0 c1 c2) ∧ ItsIn w B xs A (i + 1)
end
theorem ItsIn.at_ {w : World} {B : Nat} {A : Option Addr} : ∀ {s : List It} {i : Nat}, ItsIn w B s A i → ∀ (j : Nat) (h : j < s.length), ∃ b o c0 c1 c2, A = some ⟨b, o, none⟩ ∧ b < B ∧ w.cell? ⟨b, o + (i + j) * 3, none⟩ = some c0 ∧ w.cell? ⟨b, o + (i + j) * 3 + 1, none⟩ = some c1 ∧ w.cell? ⟨b, o + (i + j) * 3 + 2, none⟩ = some c2 ∧ ItIn w B s[j] c0 c1 c2
  | [], _, _, j, h => by simp at h
  | x :: xs, i, hi, 0, _ => by simpa [ItsIn] using hi.1
  | x :: xs, i, hi, j + 1, h => by
    have := ItsIn.at_ hi.2 j (by simpa using h)
    rw [show i + 1 + j = i + (j + 1) from by omega] at this
    simpa using this
theorem ItsIn.mk_ {w : World} {B : Nat} {A : Option Addr} : ∀ {s : List It} {i : Nat}, (∀ (j : Nat) (h : j < s.length), ∃ b o c0 c1 c2, A = some ⟨b, o, none⟩ ∧ b < B ∧ w.cell? ⟨b, o + (i + j) * 3, none⟩ = some c0 ∧ w.cell? ⟨b, o + (i + j) * 3 + 1, none⟩ = some c1 ∧ w.cell? ⟨b, o + (i + j) * 3 + 2, none⟩ = some c2 ∧ ItIn w B s[j] c0 c1 c2) → ItsIn w B s A i
  | [], _, _ => by simp [ItsIn]
  | x :: xs, i, h => by
    refine ⟨h 0 (Nat.zero_lt_succ _), ItsIn.mk_ fun j hj => ?_⟩
    have := h (j + 1) (by simpa using hj)
    rw [show i + (j + 1) = i + 1 + j from by omega] at this
    simpa using this
/-- What the three cells of an item look like, and how to come to the items within. -/
theorem ItIn.open_ {w : World} {B : Nat} {x : It} {c0 c1 c2 : Value} (h : ItIn w B x c0 c1 c2) : ∃ A cap, c0 = .string x.text ∧ c1 = .bool x.list ∧ c2 = .slice A x.sub.length cap ∧ x.text.size ≤ 9223372036854775807 ∧ x.sub.length ≤ cap ∧ cap ≤ 9223372036854775807 ∧ ItsIn w B x.sub A 0 := by
  cases x with
  | mk t l s =>
    obtain ⟨h0, h1, ht, hs, A, cap, h2, hc, hm, h3⟩ := h
    exact ⟨A, cap, h0, h1, h2, ht, hc, hm, h3⟩
theorem ItIn.keep {w w' : World} {B B' : Nat} (hB : B ≤ B') (hk : ∀ p : Addr, p.block < B → w'.cell? p = w.cell? p) : ∀ (x : It) {c0 c1 c2 : Value}, ItIn w B x c0 c1 c2 → ItIn w' B' x c0 c1 c2 := by
  intro x
  induction x using It.ind with
  | h t l s ih =>
    intro c0 c1 c2 h
    obtain ⟨h0, h1, ht, hs, A, cap, h2, hc, hm, h3⟩ := h
    refine ⟨h0, h1, ht, hs, A, cap, h2, hc, hm, ItsIn.mk_ fun j hj => ?_⟩
    obtain ⟨b, o, d0, d1, d2, hA, hb, e0, e1, e2, hi⟩ := h3.at_ j hj
    exact ⟨b, o, d0, d1, d2, hA, by omega, (hk _ hb).trans e0, (hk _ hb).trans e1, (hk _ hb).trans e2, ih _ (List.getElem_mem hj) hi⟩
theorem ItIn.below {w w' : World} {B : Nat} {x : It} {c0 c1 c2 : Value} (h : ItIn w B x c0 c1 c2) (hb : Below B w w') : ItIn w' B x c0 c1 c2 := ItIn.keep (Nat.le_refl _) (fun _ hp => hb.cell hp) x h
theorem ItIn.mono {w : World} {B B' : Nat} {x : It} {c0 c1 c2 : Value} (h : ItIn w B x c0 c1 c2) (hB : B ≤ B') : ItIn w B' x c0 c1 c2 := ItIn.keep hB (fun _ _ => rfl) x h
theorem ItsIn.below {w w' : World} {B i : Nat} {s : List It} {A : Option Addr} (h : ItsIn w B s A i) (hb : Below B w w') : ItsIn w' B s A i := ItsIn.mk_ fun j hj => by
  obtain ⟨b, o, d0, d1, d2, hA, hlt, e0, e1, e2, hi⟩ := h.at_ j hj
  exact ⟨b, o, d0, d1, d2, hA, hlt, (hb.cell hlt).trans e0, (hb.cell hlt).trans e1, (hb.cell hlt).trans e2, hi.below hb⟩
end Go.Proofs.YtacikiambpfipaaDoor
namespace Go.Proofs.YtacikiambpfipaaDoor
set_option linter.unusedVariables false
set_option linter.unusedSimpArgs false
open Go.RowKit

def okI (i : Int) : Prop := -9223372036854775808 ≤ i ∧ i ≤ 9223372036854775807

mutual
/-- The four cells are the type x, whose lists lie below block B. -/
def TyIn (w : World) (B : Nat) : Ty → Value → Value → Value → Value → Prop
  | .mk k s l t, c0, c1, c2, c3 => c0 = .int .i64 k ∧ c1 = .int .i64 s ∧ c3 = .int .i64 t ∧ okI k ∧ okI s ∧ okI t ∧ l.length ≤ 9223372036854775807 ∧ ∃ A cap, c2 = .slice A l.length cap ∧ l.length ≤ cap ∧ cap ≤ 9223372036854775807 ∧ TysIn w B l A 0
/-- From place i on the slice at A holds these types. -/
def TysIn (w : World) (B : Nat) : List Ty → Option Addr → Nat → Prop
  | [], _, _ => True
  | x :: xs, A, i => (∃ b o c0 c1 c2 c3, A = some ⟨b, o, none⟩ ∧ b < B ∧ w.cell? ⟨b, o + i * 4, none⟩ = some c0 ∧ w.cell? ⟨b, o + i * 4 + 1, none⟩ = some c1 ∧ w.cell? ⟨b, o + i * 4 + 2, none⟩ = some c2 ∧ w.cell? ⟨b, o + i * 4 + 3, none⟩ = some c3 ∧ TyIn w B x c0 c1 c2 c3) ∧ TysIn w B xs A (i + 1)
end
theorem TysIn.at_ {w : World} {B : Nat} {A : Option Addr} : ∀ {s : List Ty} {i : Nat}, TysIn w B s A i → ∀ (j : Nat) (h : j < s.length), ∃ b o c0 c1 c2 c3, A = some ⟨b, o, none⟩ ∧ b < B ∧ w.cell? ⟨b, o + (i + j) * 4, none⟩ = some c0 ∧ w.cell? ⟨b, o + (i + j) * 4 + 1, none⟩ = some c1 ∧ w.cell? ⟨b, o + (i + j) * 4 + 2, none⟩ = some c2 ∧ w.cell? ⟨b, o + (i + j) * 4 + 3, none⟩ = some c3 ∧ TyIn w B s[j] c0 c1 c2 c3
  | [], _, _, j, h => by simp at h
  | x :: xs, i, hi, 0, _ => by simpa [TysIn] using hi.1
  | x :: xs, i, hi, j + 1, h => by
    have := TysIn.at_ hi.2 j (by simpa using h)
    rw [show i + 1 + j = i + (j + 1) from by omega] at this
    simpa using this
theorem TysIn.mk_ {w : World} {B : Nat} {A : Option Addr} : ∀ {s : List Ty} {i : Nat}, (∀ (j : Nat) (h : j < s.length), ∃ b o c0 c1 c2 c3, A = some ⟨b, o, none⟩ ∧ b < B ∧ w.cell? ⟨b, o + (i + j) * 4, none⟩ = some c0 ∧ w.cell? ⟨b, o + (i + j) * 4 + 1, none⟩ = some c1 ∧ w.cell? ⟨b, o + (i + j) * 4 + 2, none⟩ = some c2 ∧ w.cell? ⟨b, o + (i + j) * 4 + 3, none⟩ = some c3 ∧ TyIn w B s[j] c0 c1 c2 c3) → TysIn w B s A i
  | [], _, _ => by simp [TysIn]
  | x :: xs, i, h => by
    refine ⟨h 0 (Nat.zero_lt_succ _), TysIn.mk_ fun j hj => ?_⟩
    have := h (j + 1) (by simpa using hj)
    rw [show i + (j + 1) = i + 1 + j from by omega] at this
    simpa using this
/-- What the four cells of a type look like. -/
theorem TyIn.open_ {w : World} {B : Nat} {x : Ty} {c0 c1 c2 c3 : Value} (h : TyIn w B x c0 c1 c2 c3) : ∃ A cap, c0 = .int .i64 x.kind ∧ c1 = .int .i64 x.size ∧ c2 = .slice A x.sub.length cap ∧ c3 = .int .i64 x.tail ∧ okI x.kind ∧ okI x.size ∧ okI x.tail ∧ x.sub.length ≤ cap ∧ cap ≤ 9223372036854775807 ∧ TysIn w B x.sub A 0 := by
  cases x with
  | mk k s l t =>
    obtain ⟨h0, h1, h3, hk, hs, ht, hl, A, cap, h2, hc, hm, h4⟩ := h
    exact ⟨A, cap, h0, h1, h2, h3, hk, hs, ht, hc, hm, h4⟩
theorem TyIn.keep {w w' : World} {B B' : Nat} (hB : B ≤ B') (hk : ∀ p : Addr, p.block < B → w'.cell? p = w.cell? p) : ∀ (x : Ty) {c0 c1 c2 c3 : Value}, TyIn w B x c0 c1 c2 c3 → TyIn w' B' x c0 c1 c2 c3 := by
  intro x
  induction x using Ty.ind with
  | h k s l t ih =>
    intro c0 c1 c2 c3 h
    obtain ⟨h0, h1, h3, hk', hs, ht, hl, A, cap, h2, hc, hm, h4⟩ := h
    refine ⟨h0, h1, h3, hk', hs, ht, hl, A, cap, h2, hc, hm, TysIn.mk_ fun j hj => ?_⟩
    obtain ⟨b, o, d0, d1, d2, d3, hA, hb, e0, e1, e2, e3, hi⟩ := h4.at_ j hj
    exact ⟨b, o, d0, d1, d2, d3, hA, by omega, (hk _ hb).trans e0, (hk _ hb).trans e1, (hk _ hb).trans e2, (hk _ hb).trans e3, ih _ (List.getElem_mem hj) hi⟩
theorem TyIn.below {w w' : World} {B : Nat} {x : Ty} {c0 c1 c2 c3 : Value} (h : TyIn w B x c0 c1 c2 c3) (hb : Below B w w') : TyIn w' B x c0 c1 c2 c3 := TyIn.keep (Nat.le_refl _) (fun _ hp => hb.cell hp) x h
theorem TyIn.mono {w : World} {B B' : Nat} {x : Ty} {c0 c1 c2 c3 : Value} (h : TyIn w B x c0 c1 c2 c3) (hB : B ≤ B') : TyIn w B' x c0 c1 c2 c3 := TyIn.keep hB (fun _ _ => rfl) x h
theorem TysIn.keep {w w' : World} {B B' : Nat} (hB : B ≤ B') (hk : ∀ p : Addr, p.block < B → w'.cell? p = w.cell? p) {s : List Ty} {A : Option Addr} {i : Nat} (h : TysIn w B s A i) : TysIn w' B' s A i := TysIn.mk_ fun j hj => by
  obtain ⟨b, o, d0, d1, d2, d3, hA, hlt, e0, e1, e2, e3, hi⟩ := h.at_ j hj
  exact ⟨b, o, d0, d1, d2, d3, hA, by omega, (hk _ hlt).trans e0, (hk _ hlt).trans e1, (hk _ hlt).trans e2, (hk _ hlt).trans e3, hi.keep hB hk⟩
theorem TysIn.below {w w' : World} {B i : Nat} {s : List Ty} {A : Option Addr} (h : TysIn w B s A i) (hb : Below B w w') : TysIn w' B s A i := h.keep (Nat.le_refl _) (fun _ hp => hb.cell hp)
/-- A block of four cells that is known whole. -/
theorem blk4 {w : World} {g : Nat} {t : TypeId} {a b c d : Value} (h : Blk w g t #[a, b, c, d]) : w.cell? ⟨g, 0, none⟩ = some a ∧ w.cell? ⟨g, 1, none⟩ = some b ∧ w.cell? ⟨g, 2, none⟩ = some c ∧ w.cell? ⟨g, 3, none⟩ = some d ∧ w.frozen? ⟨g, 0, none⟩ = false ∧ w.frozen? ⟨g, 1, none⟩ = false ∧ w.frozen? ⟨g, 2, none⟩ = false ∧ w.frozen? ⟨g, 3, none⟩ = false :=
  ⟨h.cell 0, h.cell 1, h.cell 2, h.cell 3, h.frozen 0, h.frozen 1, h.frozen 2, h.frozen 3⟩
/-- The box of a call's argument, behind a call that changed nothing below. -/
theorem box4 {w w' : World} {t : TypeId} {a b c d : Value} (hb : Below (w.heap.size + 1) (w.alloc (.cells #[a, b, c, d] t)) w') : w'.cell? ⟨w.heap.size, 0, none⟩ = some a ∧ w'.cell? ⟨w.heap.size, 1, none⟩ = some b ∧ w'.cell? ⟨w.heap.size, 2, none⟩ = some c ∧ w'.cell? ⟨w.heap.size, 3, none⟩ = some d := by
  have h0 := Blk.new w t #[a, b, c, d]
  have h : Blk w' w.heap.size t #[a, b, c, d] := (hb.block _ (by omega)).trans h0
  exact ⟨h.cell 0, h.cell 1, h.cell 2, h.cell 3⟩
end Go.Proofs.YtacikiambpfipaaDoor
