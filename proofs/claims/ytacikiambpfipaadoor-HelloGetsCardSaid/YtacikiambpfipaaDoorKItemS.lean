/- Items in memory that a call itself has made: in which blocks they may lie; a list of them that grows. Own text; no program in sight but the type's number. -/
import Derived.Test.YtacikiambpfipaaDoorKA6
namespace Go.Proofs.YtacikiambpfipaaDoor
set_option linter.unusedVariables false
set_option linter.unusedSimpArgs false
open Go.RowKit

mutual
/-- The three cells are the item x, whose lists lie in blocks of S. -/
def ItS (w : World) (S : Nat → Prop) : It → Value → Value → Value → Prop
  | .mk t l s, c0, c1, c2 => c0 = .string t ∧ c1 = .bool l ∧ t.size ≤ 9223372036854775807 ∧ s.length ≤ 9223372036854775807 ∧ ∃ A cap, c2 = .slice A s.length cap ∧ s.length ≤ cap ∧ cap ≤ 9223372036854775807 ∧ ItsS w S s A 0
def ItsS (w : World) (S : Nat → Prop) : List It → Option Addr → Nat → Prop
  | [], _, _ => True
  | x :: xs, A, i => (∃ b o c0 c1 c2, A = some ⟨b, o, none⟩ ∧ S b ∧ w.cell? ⟨b, o + i * 3, none⟩ = some c0 ∧ w.cell? ⟨b, o + i * 3 + 1, none⟩ = some c1 ∧ w.cell? ⟨b, o + i * 3 + 2, none⟩ = some c2 ∧ ItS w S x c0 c1 c2) ∧ ItsS w S xs A (i + 1)
end
theorem ItsS.at_ {w : World} {S : Nat → Prop} {A : Option Addr} : ∀ {s : List It} {i : Nat}, ItsS w S s A i → ∀ (j : Nat) (h : j < s.length), ∃ b o c0 c1 c2, A = some ⟨b, o, none⟩ ∧ S b ∧ w.cell? ⟨b, o + (i + j) * 3, none⟩ = some c0 ∧ w.cell? ⟨b, o + (i + j) * 3 + 1, none⟩ = some c1 ∧ w.cell? ⟨b, o + (i + j) * 3 + 2, none⟩ = some c2 ∧ ItS w S s[j] c0 c1 c2
  | [], _, _, j, h => by simp at h
  | x :: xs, i, hi, 0, _ => by simpa [ItsS] using hi.1
  | x :: xs, i, hi, j + 1, h => by
    have := ItsS.at_ hi.2 j (by simpa using h)
    rw [show i + 1 + j = i + (j + 1) from by omega] at this
    simpa using this
theorem ItsS.mk_ {w : World} {S : Nat → Prop} {A : Option Addr} : ∀ {s : List It} {i : Nat}, (∀ (j : Nat) (h : j < s.length), ∃ b o c0 c1 c2, A = some ⟨b, o, none⟩ ∧ S b ∧ w.cell? ⟨b, o + (i + j) * 3, none⟩ = some c0 ∧ w.cell? ⟨b, o + (i + j) * 3 + 1, none⟩ = some c1 ∧ w.cell? ⟨b, o + (i + j) * 3 + 2, none⟩ = some c2 ∧ ItS w S s[j] c0 c1 c2) → ItsS w S s A i
  | [], _, _ => by simp [ItsS]
  | x :: xs, i, h => by
    refine ⟨h 0 (Nat.zero_lt_succ _), ItsS.mk_ fun j hj => ?_⟩
    have := h (j + 1) (by simpa using hj)
    rw [show i + (j + 1) = i + 1 + j from by omega] at this
    simpa using this
/-- It stands where its blocks do. -/
theorem ItS.keep {w w' : World} {S S' : Nat → Prop} (hS : ∀ k, k < w.heap.size → S k → S' k) (hk : ∀ p : Addr, p.block < w.heap.size → S p.block → w'.cell? p = w.cell? p) : ∀ (x : It) {c0 c1 c2 : Value}, ItS w S x c0 c1 c2 → ItS w' S' x c0 c1 c2 := by
  intro x
  induction x using It.ind with
  | h t l s ih =>
    intro c0 c1 c2 h
    obtain ⟨h0, h1, ht, hs, A, cap, h2, hc, hm, h3⟩ := h
    refine ⟨h0, h1, ht, hs, A, cap, h2, hc, hm, ItsS.mk_ fun j hj => ?_⟩
    obtain ⟨b, o, d0, d1, d2, hA, hb, e0, e1, e2, hi⟩ := h3.at_ j hj
    have hlt := lt_of_cell e0
    exact ⟨b, o, d0, d1, d2, hA, hS _ hlt hb, (hk _ hlt hb).trans e0, (hk _ hlt hb).trans e1, (hk _ hlt hb).trans e2, ih _ (List.getElem_mem hj) hi⟩
theorem ItS.weak {w : World} {S S' : Nat → Prop} {x : It} {c0 c1 c2 : Value} (h : ItS w S x c0 c1 c2) (hS : ∀ k, k < w.heap.size → S k → S' k) : ItS w S' x c0 c1 c2 := ItS.keep hS (fun _ _ _ => rfl) x h
theorem ItS.only {w w' : World} {S S' : Nat → Prop} {L : List Nat} {x : It} {c0 c1 c2 : Value} (h : ItS w S x c0 c1 c2) (ho : Only L w w') (hL : ∀ k, k ∈ L → ¬ S k) (hS : ∀ k, k < w.heap.size → S k → S' k) : ItS w' S' x c0 c1 c2 :=
  ItS.keep hS (fun p hp hs => ho.cell hp fun hm => hL _ hm hs) x h
theorem ItS.below {w w' : World} {S : Nat → Prop} {x : It} {c0 c1 c2 : Value} (h : ItS w S x c0 c1 c2) (hb : Below w.heap.size w w') : ItS w' S x c0 c1 c2 := ItS.keep (fun _ _ h => h) (fun _ hp _ => hb.cell hp) x h
theorem ItS.toIn {w : World} {S : Nat → Prop} : ∀ (x : It) {c0 c1 c2 : Value}, ItS w S x c0 c1 c2 → ItIn w w.heap.size x c0 c1 c2 := by
  intro x
  induction x using It.ind with
  | h t l s ih =>
    intro c0 c1 c2 h
    obtain ⟨h0, h1, ht, hs, A, cap, h2, hc, hm, h3⟩ := h
    refine ⟨h0, h1, ht, hs, A, cap, h2, hc, hm, ItsIn.mk_ fun j hj => ?_⟩
    obtain ⟨b, o, d0, d1, d2, hA, hb, e0, e1, e2, hi⟩ := h3.at_ j hj
    exact ⟨b, o, d0, d1, d2, hA, lt_of_cell e0, e0, e1, e2, ih _ (List.getElem_mem hj) hi⟩
theorem ItIn.toS {w : World} {B : Nat} : ∀ (x : It) {c0 c1 c2 : Value}, ItIn w B x c0 c1 c2 → ItS w (· < B) x c0 c1 c2 := by
  intro x
  induction x using It.ind with
  | h t l s ih =>
    intro c0 c1 c2 h
    obtain ⟨h0, h1, ht, hs, A, cap, h2, hc, hm, h3⟩ := h
    refine ⟨h0, h1, ht, hs, A, cap, h2, hc, hm, ItsS.mk_ fun j hj => ?_⟩
    obtain ⟨b, o, d0, d1, d2, hA, hb, e0, e1, e2, hi⟩ := h3.at_ j hj
    exact ⟨b, o, d0, d1, d2, hA, hb, e0, e1, e2, ih _ (List.getElem_mem hj) hi⟩
theorem ItS.open_ {w : World} {S : Nat → Prop} {x : It} {c0 c1 c2 : Value} (h : ItS w S x c0 c1 c2) : ∃ A cap, c0 = .string x.text ∧ c1 = .bool x.list ∧ c2 = .slice A x.sub.length cap ∧ x.text.size ≤ 9223372036854775807 ∧ x.sub.length ≤ cap ∧ cap ≤ 9223372036854775807 ∧ ItsS w S x.sub A 0 := by
  cases x with
  | mk t l s =>
    obtain ⟨h0, h1, ht, hs, A, cap, h2, hc, hm, h3⟩ := h
    exact ⟨A, cap, h0, h1, h2, ht, hc, hm, h3⟩
theorem ItS.text {w : World} {S : Nat → Prop} {t : ByteArray} (l : Bool) (ht : t.size ≤ 9223372036854775807) : ItS w S (.mk t l []) (.string t) (.bool l) (.slice none 0 0) := ⟨rfl, rfl, ht, by simp, none, 0, rfl, by simp, by simp, trivial⟩
def ItsAreS (w : World) (S : Nat → Prop) : List It → List Value → Prop
  | [], cs => cs = []
  | x :: xs, cs => ∃ c0 c1 c2 ds, cs = c0 :: c1 :: c2 :: ds ∧ ItS w S x c0 c1 c2 ∧ ItsAreS w S xs ds
theorem ItsAreS.keep {w w' : World} {S S' : Nat → Prop} (hS : ∀ k, k < w.heap.size → S k → S' k) (hk : ∀ p : Addr, p.block < w.heap.size → S p.block → w'.cell? p = w.cell? p) : ∀ {s : List It} {cs : List Value}, ItsAreS w S s cs → ItsAreS w' S' s cs
  | [], cs, h => h
  | x :: xs, cs, h => by
    obtain ⟨c0, c1, c2, ds, rfl, h1, h2⟩ := h
    exact ⟨c0, c1, c2, ds, rfl, ItS.keep hS hk x h1, h2.keep hS hk⟩
theorem ItsAreS.snoc {w : World} {S : Nat → Prop} {y : It} {c0 c1 c2 : Value} (hy : ItS w S y c0 c1 c2) : ∀ {s : List It} {cs : List Value}, ItsAreS w S s cs → ItsAreS w S (s ++ [y]) (cs ++ [c0, c1, c2])
  | [], cs, h => by
    have h : cs = [] := h
    subst h
    exact ⟨c0, c1, c2, [], rfl, hy, rfl⟩
  | x :: xs, cs, h => by
    obtain ⟨e0, e1, e2, ds, rfl, h1, h2⟩ := h
    exact ⟨e0, e1, e2, ds ++ [c0, c1, c2], by simp, h1, h2.snoc hy⟩
theorem ItsS.of_cells {w : World} {S : Nat → Prop} {b o : Nat} (hb : S b) : ∀ {s : List It} {i : Nat} {cs : List Value}, ItsAreS w S s cs → (∀ j u, cs[j]? = some u → w.cell? ⟨b, o + i * 3 + j, none⟩ = some u) → ItsS w S s (some ⟨b, o, none⟩) i
  | [], _, _, _, _ => trivial
  | x :: xs, i, cs, h, hc => by
    obtain ⟨c0, c1, c2, ds, rfl, h1, h2⟩ := h
    refine ⟨⟨b, o, c0, c1, c2, rfl, hb, by simpa using hc 0 c0 (by simp), hc 1 c1 (by simp), hc 2 c2 (by simp), h1⟩, ItsS.of_cells hb h2 fun j u hu => ?_⟩
    have := hc (j + 3) u (by simpa using hu)
    rw [show o + (i + 1) * 3 + j = o + i * 3 + (j + 3) from by omega]; exact this
/-- The slice v, a row of the call's own from block lo on, is the items acc; what they hold lies from lo on, in other blocks. -/
def Acc (w : World) (lo : Nat) (acc : List It) (v : Value) : Prop := ∃ cs, w.ownsRow lo 27 3 v acc.length cs ∧ ItsAreS w (fun k => lo ≤ k ∧ v.ownBlock ≠ some k) acc cs
theorem Acc.nil (w : World) (lo : Nat) : Acc w lo [] (.slice none 0 0) := ⟨[], ⟨by simp, .inl ⟨rfl, rfl⟩⟩, rfl⟩
theorem Acc.form {w : World} {lo : Nat} {acc : List It} {v : Value} (h : Acc w lo acc v) : ∃ A cap, v = .slice A acc.length cap ∧ acc.length ≤ cap ∧ cap ≤ 9223372036854775807 := by
  obtain ⟨cs, h1, h2⟩ := h
  rcases h1.2 with ⟨e1, e2⟩ | ⟨g, cap, cur, hv, _, _, hn, hm, _⟩
  · exact ⟨none, 0, by rw [e1, e2], by omega, by simp⟩
  · exact ⟨_, cap, hv, hn, by simpa [maxLen] using hm⟩
theorem Acc.form' {w : World} {lo : Nat} {acc : List It} {v : Value} (h : Acc w lo acc v) : ∃ A n cap, v = .slice A n cap ∧ Hid (n = acc.length) ∧ n ≤ cap ∧ cap ≤ 9223372036854775807 := by
  obtain ⟨A, cap, h1, h2, h3⟩ := h.form
  exact ⟨A, _, cap, h1, Lib.hid rfl, h2, h3⟩
theorem Acc.ge {w : World} {lo : Nat} {acc : List It} {v : Value} (h : Acc w lo acc v) : ∀ g, v.ownBlock = some g → lo ≤ g ∧ g < w.heap.size := by
  obtain ⟨cs, h1, h2⟩ := h
  intro g hg
  rcases h1.2 with ⟨e1, e2⟩ | ⟨g', cap, cur, hv, hb, hh, _⟩
  · rw [e1] at hg; cases hg
  · rw [hv] at hg
    have : g' = g := by simpa [Value.ownBlock] using hg
    subst this
    exact ⟨hb, lt_of_block hh⟩
theorem Blk.grown {w w' : World} {g : Nat} {t : TypeId} {cs : Array Value} {row : Option Nat} (h : Blk w g t cs) (hg : w.grownBy w' row) (hn : row ≠ some g) : Blk w' g t cs := (hg.block g h.lt (fun e => hn e.symm)).trans h
theorem Acc.keep {w w' : World} {lo : Nat} {acc : List It} {v : Value} (h : Acc w lo acc v) (hk : ∀ k, lo ≤ k → k < w.heap.size → w'.heap[k]? = w.heap[k]?) : Acc w' lo acc v := by
  obtain ⟨cs, h1, h2⟩ := h
  refine ⟨cs, ⟨h1.1, ?_⟩, h2.keep (fun _ _ h => h) fun p hp hs => World.cell?_of_block (hk _ hs.1 hp)⟩
  rcases h1.2 with h3 | ⟨g, cap, cur, hv, hg, hh, r⟩
  · exact .inl h3
  · exact .inr ⟨g, cap, cur, hv, hg, (hk g hg (lt_of_block hh)).trans hh, r⟩
theorem Acc.only {w w' : World} {lo : Nat} {acc : List It} {v : Value} {L : List Nat} (h : Acc w lo acc v) (ho : Only L w w') (hL : ∀ g, g ∈ L → g < lo) : Acc w' lo acc v :=
  h.keep fun k h1 h2 => ho.block k h2 fun hm => by have := hL k hm; omega
theorem Acc.below {w w' : World} {lo : Nat} {acc : List It} {v : Value} (h : Acc w lo acc v) (hb : Below w.heap.size w w') : Acc w' lo acc v := h.keep fun k _ h2 => hb.block k h2
theorem Acc.list {w : World} {lo : Nat} {acc : List It} {v : Value} (h : Acc w lo acc v) (hl : acc.length ≤ 9223372036854775807) : ItS w (lo ≤ ·) (.mk ⟨#[]⟩ true acc) (.string ⟨#[]⟩) (.bool true) v := by
  obtain ⟨A, cap, rfl, h1, h2⟩ := h.form
  obtain ⟨cs, h3, h4⟩ := h
  refine ⟨rfl, rfl, Nat.zero_le _, hl, A, cap, rfl, h1, h2, ?_⟩
  rcases h3.2 with ⟨e1, e2⟩ | ⟨g, cap', cur, hv, hg, hh, _⟩
  · obtain rfl : acc = [] := List.eq_nil_of_length_eq_zero e2
    trivial
  · injection hv with hA _ hc
    subst hA; subst hc
    refine ItsS.of_cells hg (h4.keep (fun _ _ h => h.1) (fun _ _ _ => rfl)) fun j u hu => ?_
    have := h3.cells rfl j u hu
    have e1 : (⟨g, 0, none⟩ : Addr).add j = ⟨g, j, none⟩ := by unfold Addr.add; split <;> simp_all
    rw [e1] at this
    simpa using this
theorem one3 {w : World} {S : Nat → Prop} {y : It} {c0 c1 c2 : Value} (h : ItS w S y c0 c1 c2) : ∀ u ∈ [c0, c1, c2], u.oneCell' = true := by
  obtain ⟨A, cap, rfl, rfl, rfl, _⟩ := h.open_
  intro u hu
  simp at hu
  rcases hu with rfl | rfl | rfl <;> rfl
/-- append(x.Sub, sub). -/
theorem wpList_append_item {w : World} {ops : Array Oper} {rest : List Oper} {o : Oper} {a : Act} {Q : Exit → Act → World → Prop} (hgd : o.guard = none) (s x : Operand)
    (ho : o.op = .call { callee := .builtin .append, args := #[s, x], argTypes := #[25, 25] }) (lo : Nat) (acc : List It) {v : Value} (hs : a.eval s = v) (hacc : Acc w lo acc v) (y : It) {c0 c1 c2 : Value}
    (hy : ItS w (fun k => lo ≤ k ∧ v.ownBlock ≠ some k) y c0 c1 c2) (g : Nat) (hx : a.eval x = .slice (some ⟨g, 0, none⟩) 1 1) (hg0 : w.cell? ⟨g, 0, none⟩ = some c0) (hg1 : w.cell? ⟨g, 1, none⟩ = some c1) (hg2 : w.cell? ⟨g, 2, none⟩ = some c2)
    (hlen : acc.length ≤ 1000000) (hlo : lo ≤ w.heap.size)
    (hK : ∀ g' n' cap w', Hid (n' = acc.length + 1) → Acc w' lo (acc ++ [y]) (.slice (some ⟨g', 0, none⟩) n' cap) → w.grownBy w' v.ownBlock → lo ≤ g' → wpList Tryd.prog ops Q rest (a.put o.dst (.slice (some ⟨g', 0, none⟩) n' cap)) w') : wpList Tryd.prog ops Q (o :: rest) a w := by
  obtain ⟨i0, hi, hz0, hz1, hz2⟩ := info_parts info_item
  obtain ⟨cs, h1, h2⟩ := hacc
  refine wpList_append_lies w hgd s x 25 ho lo 27 i0 _ 3 48 Tryd.underlying25 hi hz0 hz1 hz2 rfl (by decide) v acc.length cs hs h1 ⟨g, 0, none⟩ 1 1 [c0, c1, c2] hx rfl ?_ (one3 hy) (by decide) (by simp only [maxLen]; omega) (by omega) hlo w.heap.size rfl ?_
  · intro j u hu
    have e1 : ∀ j, (⟨g, 0, none⟩ : Addr).add j = ⟨g, j, none⟩ := by intro j; unfold Addr.add; split <;> simp_all
    rw [e1]
    match j, hu with
    | 0, hu => simp at hu; subst hu; exact hg0
    | 1, hu => simp at hu; subst hu; exact hg1
    | 2, hu => simp at hu; subst hu; exact hg2
  · intro g' cap w' ho' hgr hat hlt
    have hge := own_ge ho' g' rfl
    refine hK g' _ cap w' (Lib.hid rfl) ⟨cs ++ [c0, c1, c2], by rw [List.length_append]; exact ho', ?_⟩ hgr hge
    refine ((h2.snoc hy).keep (fun k hk hS => ⟨hS.1, ?_⟩) fun p hp hS => World.cell?_of_block (hgr.block _ hp (fun e => hS.2 e.symm)))
    intro e
    have e : g' = k := by simpa [Value.ownBlock] using e
    rcases hat with hat | hat
    · exact hS.2 (by rw [hat, e])
    · omega
end Go.Proofs.YtacikiambpfipaaDoor
