/- slices.Clone at items, item.List, item.Text. -/
import Derived.Test.YtnfpgadegpmhkaaGreatDoorProg
import Derived.Test.YtnfpgadegpmhkaaGreatDoorKA3
import Derived.Test.YtnfpgadegpmhkaaGreatDoorKA5
import Derived.Deep.DeepFit
import Derived.WalkSpells
import Derived.Lib.BufferMore
import Derived.Deep.RegionLaw
import Derived.Deep.AppendLies
import Derived.Test.YtnfpgadegpmhkaaGreatDoorKA1
set_option linter.unusedVariables false
set_option linter.unusedSimpArgs false
set_option maxHeartbeats 400000
namespace Go.Proofs.YtnfpgadegpmhkaaGreatDoor
open Go.RowKit
theorem info_item : (Tryz.prog.info? 28).map (fun i => (i.zero, i.size, i.bytes)) = some (some (.agg #[.string ⟨#[]⟩, .bool false, .slice none 0 0]), 3, 48) := by kernel_rfl
theorem text_c (s : ByteArray) (w : World) :
 Calls Tryz.prog 130 #[.string s] w fun e w' => e = .returned (.agg #[.string s, .bool false, .slice none 0 0]) ∧ Below w.heap.size w w' := by
 go_enter Tryz.func130, Tryz.ntmps130
 go_wp2
 refine bodyPost_ret (v := .agg #[.string s, .bool false, .slice none 0 0]) (by simp [results, Tryz.results130, go_sem]) rfl ⟨rfl, ?_⟩
 exact blw
theorem own_ge {w : World} {base cap n : Nat} {A : Option Addr} {cs : List Value} {e : TypeId} {k : Nat} (ho : w.ownsRow base e k (.slice A n cap) n cs) : ∀ g, (Value.slice A n cap).ownBlock = some g → base ≤ g := by
 intro g hg
 rcases ho.2 with ⟨h1, h2⟩ | ⟨g', cap', cur, hv, hb, _⟩
 ·rw [h1] at hg; cases hg
 ·rw [hv] at hg
  have : g' = g := by simpa [Value.ownBlock] using hg
  omega
mutual
def ItS (w : World) (S : Nat → Prop) : It → Value → Value → Value → Prop
 | .mk t l s, c0, c1, c2 => c0 = .string t ∧ c1 = .bool l ∧ t.size ≤ 9223372036854775807 ∧ s.length ≤ 9223372036854775807 ∧ ∃ A cap, c2 = .slice A s.length cap ∧ s.length ≤ cap ∧ cap ≤ 9223372036854775807 ∧ ItsS w S s A 0
def ItsS (w : World) (S : Nat → Prop) : List It → Option Addr → Nat → Prop
 | [], _, _ => True
 | x :: xs, A, i => (∃ b o c0 c1 c2, A = some ⟨b, o, none⟩ ∧ S b ∧ w.cell? ⟨b, o + i * 3, none⟩ = some c0 ∧ w.cell? ⟨b, o + i * 3 + 1, none⟩ = some c1 ∧ w.cell? ⟨b, o + i * 3 + 2, none⟩ = some c2 ∧ ItS w S x c0 c1 c2) ∧ ItsS w S xs A (i + 1)
end
theorem ItsS.at_ {w : World} {S : Nat → Prop} {A : Option Addr} : ∀ {s : List It} {i : Nat}, ItsS w S s A i → ∀ (j : Nat) (h : j < s.length), ∃ b o c0 c1 c2, A = some ⟨b, o, none⟩ ∧ S b ∧ w.cell? ⟨b, o + (i + j) * 3, none⟩ = some c0 ∧ w.cell? ⟨b, o + (i + j) * 3 + 1, none⟩ = some c1 ∧ w.cell? ⟨b, o + (i + j) * 3 + 2, none⟩ = some c2 ∧ ItS w S s[j] c0 c1 c2
 | [], _, _, j, h => by simp at h
 | x :: xs, i, hi, 0, _ => by simpa [ItsS] using hi.1
 | x :: xs, i, hi, j + 1, h => by
  have := ItsS.at_ hi.2 j (by simpa using h)
  rw [show i + 1 + j = i + (j + 1) from by omega] at this
  simpa using this
theorem ItsS.mk_ {w : World} {S : Nat → Prop} {A : Option Addr} : ∀ {s : List It} {i : Nat}, (∀ (j : Nat) (h : j < s.length), ∃ b o c0 c1 c2, A = some ⟨b, o, none⟩ ∧ S b ∧ w.cell? ⟨b, o + (i + j) * 3, none⟩ = some c0 ∧ w.cell? ⟨b, o + (i + j) * 3 + 1, none⟩ = some c1 ∧ w.cell? ⟨b, o + (i + j) * 3 + 2, none⟩ = some c2 ∧ ItS w S s[j] c0 c1 c2) → ItsS w S s A i
 | [], _, _ => by simp [ItsS]
 | x :: xs, i, h => by
  refine ⟨h 0 (Nat.zero_lt_succ _), ItsS.mk_ fun j hj => ?_⟩
  have := h (j + 1) (by simpa using hj)
  rw [show i + (j + 1) = i + 1 + j from by omega] at this
  simpa using this
theorem ItS.keep {w w' : World} {S S' : Nat → Prop} (hS : ∀ k, k < w.heap.size → S k → S' k) (hk : ∀ p : Addr, p.block < w.heap.size → S p.block → w'.cell? p = w.cell? p) : ∀ (x : It) {c0 c1 c2 : Value}, ItS w S x c0 c1 c2 → ItS w' S' x c0 c1 c2 := by
 intro x
 induction x using It.ind with
 | h t l s ih =>
  intro c0 c1 c2 h
  obtain ⟨h0, h1, ht, hs, A, cap, h2, hc, hm, h3⟩ := h
  refine ⟨h0, h1, ht, hs, A, cap, h2, hc, hm, ItsS.mk_ fun j hj => ?_⟩
  obtain ⟨b, o, d0, d1, d2, hA, hb, e0, e1, e2, hi⟩ := h3.at_ j hj
  have hlt := lt_of_cell e0
  exact ⟨b, o, d0, d1, d2, hA, hS _ hlt hb, (hk _ hlt hb).trans e0, (hk _ hlt hb).trans e1, (hk _ hlt hb).trans e2, ih _ (List.getElem_mem hj) hi⟩
theorem ItS.weak {w : World} {S S' : Nat → Prop} {x : It} {c0 c1 c2 : Value} (h : ItS w S x c0 c1 c2) (hS : ∀ k, k < w.heap.size → S k → S' k) : ItS w S' x c0 c1 c2 := ItS.keep hS (fun _ _ _ => rfl) x h
theorem ItS.only {w w' : World} {S S' : Nat → Prop} {L : List Nat} {x : It} {c0 c1 c2 : Value} (h : ItS w S x c0 c1 c2) (ho : Only L w w') (hL : ∀ k, k ∈ L → ¬ S k) (hS : ∀ k, k < w.heap.size → S k → S' k) : ItS w' S' x c0 c1 c2 :=
 ItS.keep hS (fun p hp hs => ho.cell hp fun hm => hL _ hm hs) x h
theorem ItS.below {w w' : World} {S : Nat → Prop} {x : It} {c0 c1 c2 : Value} (h : ItS w S x c0 c1 c2) (hb : Below w.heap.size w w') : ItS w' S x c0 c1 c2 := ItS.keep (fun _ _ h => h) (fun _ hp _ => hb.cell hp) x h
theorem ItS.toIn {w : World} {S : Nat → Prop} : ∀ (x : It) {c0 c1 c2 : Value}, ItS w S x c0 c1 c2 → ItIn w w.heap.size x c0 c1 c2 := by
 intro x
 induction x using It.ind with
 | h t l s ih =>
  intro c0 c1 c2 h
  obtain ⟨h0, h1, ht, hs, A, cap, h2, hc, hm, h3⟩ := h
  refine ⟨h0, h1, ht, hs, A, cap, h2, hc, hm, ItsIn.mk_ fun j hj => ?_⟩
  obtain ⟨b, o, d0, d1, d2, hA, hb, e0, e1, e2, hi⟩ := h3.at_ j hj
  exact ⟨b, o, d0, d1, d2, hA, lt_of_cell e0, e0, e1, e2, ih _ (List.getElem_mem hj) hi⟩
theorem ItS.open_ {w : World} {S : Nat → Prop} {x : It} {c0 c1 c2 : Value} (h : ItS w S x c0 c1 c2) : ∃ A cap, c0 = .string x.text ∧ c1 = .bool x.list ∧ c2 = .slice A x.sub.length cap ∧ x.text.size ≤ 9223372036854775807 ∧ x.sub.length ≤ cap ∧ cap ≤ 9223372036854775807 ∧ ItsS w S x.sub A 0 := by
 cases x with
 | mk t l s =>
  obtain ⟨h0, h1, ht, hs, A, cap, h2, hc, hm, h3⟩ := h
  exact ⟨A, cap, h0, h1, h2, ht, hc, hm, h3⟩
theorem ItS.text {w : World} {S : Nat → Prop} {t : ByteArray} (l : Bool) (ht : t.size ≤ 9223372036854775807) : ItS w S (.mk t l []) (.string t) (.bool l) (.slice none 0 0) := ⟨rfl, rfl, ht, by simp, none, 0, rfl, by simp, by simp, trivial⟩
def ItsAreS (w : World) (S : Nat → Prop) : List It → List Value → Prop
 | [], cs => cs = []
 | x :: xs, cs => ∃ c0 c1 c2 ds, cs = c0 :: c1 :: c2 :: ds ∧ ItS w S x c0 c1 c2 ∧ ItsAreS w S xs ds
theorem ItsAreS.keep {w w' : World} {S S' : Nat → Prop} (hS : ∀ k, k < w.heap.size → S k → S' k) (hk : ∀ p : Addr, p.block < w.heap.size → S p.block → w'.cell? p = w.cell? p) : ∀ {s : List It} {cs : List Value}, ItsAreS w S s cs → ItsAreS w' S' s cs
 | [], cs, h => h
 | x :: xs, cs, h => by
  obtain ⟨c0, c1, c2, ds, rfl, h1, h2⟩ := h
  exact ⟨c0, c1, c2, ds, rfl, ItS.keep hS hk x h1, h2.keep hS hk⟩
theorem ItsAreS.snoc {w : World} {S : Nat → Prop} {y : It} {c0 c1 c2 : Value} (hy : ItS w S y c0 c1 c2) : ∀ {s : List It} {cs : List Value}, ItsAreS w S s cs → ItsAreS w S (s ++ [y]) (cs ++ [c0, c1, c2])
 | [], cs, h => by
  have h : cs = [] := h
  subst h
  exact ⟨c0, c1, c2, [], rfl, hy, rfl⟩
 | x :: xs, cs, h => by
  obtain ⟨e0, e1, e2, ds, rfl, h1, h2⟩ := h
  exact ⟨e0, e1, e2, ds ++ [c0, c1, c2], by simp, h1, h2.snoc hy⟩
theorem ItsS.of_cells {w : World} {S : Nat → Prop} {b o : Nat} (hb : S b) : ∀ {s : List It} {i : Nat} {cs : List Value}, ItsAreS w S s cs → (∀ j u, cs[j]? = some u → w.cell? ⟨b, o + i * 3 + j, none⟩ = some u) → ItsS w S s (some ⟨b, o, none⟩) i
 | [], _, _, _, _ => trivial
 | x :: xs, i, cs, h, hc => by
  obtain ⟨c0, c1, c2, ds, rfl, h1, h2⟩ := h
  refine ⟨⟨b, o, c0, c1, c2, rfl, hb, by simpa using hc 0 c0 (by simp), hc 1 c1 (by simp), hc 2 c2 (by simp), h1⟩, ItsS.of_cells hb h2 fun j u hu => ?_⟩
  have := hc (j + 3) u (by simpa using hu)
  rw [show o + (i + 1) * 3 + j = o + i * 3 + (j + 3) from by omega]; exact this
def Acc (w : World) (lo : Nat) (acc : List It) (v : Value) : Prop := ∃ cs, w.ownsRow lo 28 3 v acc.length cs ∧ ItsAreS w (fun k => lo ≤ k ∧ v.ownBlock ≠ some k) acc cs
theorem Acc.nil (w : World) (lo : Nat) : Acc w lo [] (.slice none 0 0) := ⟨[], ⟨by simp, .inl ⟨rfl, rfl⟩⟩, rfl⟩
theorem Acc.form {w : World} {lo : Nat} {acc : List It} {v : Value} (h : Acc w lo acc v) : ∃ A cap, v = .slice A acc.length cap ∧ acc.length ≤ cap ∧ cap ≤ 9223372036854775807 := by
 obtain ⟨cs, h1, h2⟩ := h
 rcases h1.2 with ⟨e1, e2⟩ | ⟨g, cap, cur, hv, _, _, hn, hm, _⟩
 ·exact ⟨none, 0, by rw [e1, e2], by omega, by simp⟩
 ·exact ⟨_, cap, hv, hn, by simpa [maxLen] using hm⟩
theorem Acc.form' {w : World} {lo : Nat} {acc : List It} {v : Value} (h : Acc w lo acc v) : ∃ A n cap, v = .slice A n cap ∧ Hid (n = acc.length) ∧ n ≤ cap ∧ cap ≤ 9223372036854775807 := by
 obtain ⟨A, cap, h1, h2, h3⟩ := h.form
 exact ⟨A, _, cap, h1, Lib.hid rfl, h2, h3⟩
theorem Acc.ge {w : World} {lo : Nat} {acc : List It} {v : Value} (h : Acc w lo acc v) : ∀ g, v.ownBlock = some g → lo ≤ g ∧ g < w.heap.size := by
 obtain ⟨cs, h1, h2⟩ := h
 intro g hg
 rcases h1.2 with ⟨e1, e2⟩ | ⟨g', cap, cur, hv, hb, hh, _⟩
 ·rw [e1] at hg; cases hg
 ·rw [hv] at hg
  have : g' = g := by simpa [Value.ownBlock] using hg
  subst this
  exact ⟨hb, lt_of_block hh⟩
theorem Blk.grown {w w' : World} {g : Nat} {t : TypeId} {cs : Array Value} {row : Option Nat} (h : Blk w g t cs) (hg : w.grownBy w' row) (hn : row ≠ some g) : Blk w' g t cs := (hg.block g h.lt (fun e => hn e.symm)).trans h
theorem Acc.keep {w w' : World} {lo : Nat} {acc : List It} {v : Value} (h : Acc w lo acc v) (hk : ∀ k, lo ≤ k → k < w.heap.size → w'.heap[k]? = w.heap[k]?) : Acc w' lo acc v := by
 obtain ⟨cs, h1, h2⟩ := h
 refine ⟨cs, ⟨h1.1, ?_⟩, h2.keep (fun _ _ h => h) fun p hp hs => World.cell?_of_block (hk _ hs.1 hp)⟩
 rcases h1.2 with h3 | ⟨g, cap, cur, hv, hg, hh, r⟩
 ·exact .inl h3
 ·exact .inr ⟨g, cap, cur, hv, hg, (hk g hg (lt_of_block hh)).trans hh, r⟩
theorem Acc.only {w w' : World} {lo : Nat} {acc : List It} {v : Value} {L : List Nat} (h : Acc w lo acc v) (ho : Only L w w') (hL : ∀ g, g ∈ L → g < lo) : Acc w' lo acc v :=
 h.keep fun k h1 h2 => ho.block k h2 fun hm => by have := hL k hm; omega
theorem Acc.below {w w' : World} {lo : Nat} {acc : List It} {v : Value} (h : Acc w lo acc v) (hb : Below w.heap.size w w') : Acc w' lo acc v := h.keep fun k _ h2 => hb.block k h2
theorem Acc.list {w : World} {lo : Nat} {acc : List It} {v : Value} (h : Acc w lo acc v) (hl : acc.length ≤ 9223372036854775807) : ItS w (lo ≤ ·) (.mk ⟨#[]⟩ true acc) (.string ⟨#[]⟩) (.bool true) v := by
 obtain ⟨A, cap, rfl, h1, h2⟩ := h.form
 obtain ⟨cs, h3, h4⟩ := h
 refine ⟨rfl, rfl, Nat.zero_le _, hl, A, cap, rfl, h1, h2, ?_⟩
 rcases h3.2 with ⟨e1, e2⟩ | ⟨g, cap', cur, hv, hg, hh, _⟩
 ·obtain rfl : acc = [] := List.eq_nil_of_length_eq_zero e2
  trivial
 ·injection hv with hA _ hc
  subst hA; subst hc
  refine ItsS.of_cells hg (h4.keep (fun _ _ h => h.1) (fun _ _ _ => rfl)) fun j u hu => ?_
  have := h3.cells rfl j u hu
  have e1 : (⟨g, 0, none⟩ : Addr).add j = ⟨g, j, none⟩ := by unfold Addr.add; split <;> simp_all
  rw [e1] at this
  simpa using this
theorem one3 {w : World} {S : Nat → Prop} {y : It} {c0 c1 c2 : Value} (h : ItS w S y c0 c1 c2) : ∀ u ∈ [c0, c1, c2], u.oneCell' = true := by
 obtain ⟨A, cap, rfl, rfl, rfl, _⟩ := h.open_
 intro u hu
 simp at hu
 rcases hu with rfl | rfl | rfl <;> rfl
theorem info_type : (Tryz.prog.info? 55).map (fun i => (i.zero, i.size, i.bytes)) = some (some (.agg #[.int .i64 0, .int .i64 0, .slice none 0 0, .int .i64 0]), 4, 48) := by kernel_rfl
mutual
def TyS (w : World) (S : Nat → Prop) : Ty → Value → Value → Value → Value → Prop
 | .mk k s l t, c0, c1, c2, c3 => c0 = .int .i64 k ∧ c1 = .int .i64 s ∧ c3 = .int .i64 t ∧ okI k ∧ okI s ∧ okI t ∧ l.length ≤ 9223372036854775807 ∧ ∃ A cap, c2 = .slice A l.length cap ∧ l.length ≤ cap ∧ cap ≤ 9223372036854775807 ∧ TysS w S l A 0
def TysS (w : World) (S : Nat → Prop) : List Ty → Option Addr → Nat → Prop
 | [], _, _ => True
 | x :: xs, A, i => (∃ b o c0 c1 c2 c3, A = some ⟨b, o, none⟩ ∧ S b ∧ w.cell? ⟨b, o + i * 4, none⟩ = some c0 ∧ w.cell? ⟨b, o + i * 4 + 1, none⟩ = some c1 ∧ w.cell? ⟨b, o + i * 4 + 2, none⟩ = some c2 ∧ w.cell? ⟨b, o + i * 4 + 3, none⟩ = some c3 ∧ TyS w S x c0 c1 c2 c3) ∧ TysS w S xs A (i + 1)
end
theorem TysS.at_ {w : World} {S : Nat → Prop} {A : Option Addr} : ∀ {s : List Ty} {i : Nat}, TysS w S s A i → ∀ (j : Nat) (h : j < s.length), ∃ b o c0 c1 c2 c3, A = some ⟨b, o, none⟩ ∧ S b ∧ w.cell? ⟨b, o + (i + j) * 4, none⟩ = some c0 ∧ w.cell? ⟨b, o + (i + j) * 4 + 1, none⟩ = some c1 ∧ w.cell? ⟨b, o + (i + j) * 4 + 2, none⟩ = some c2 ∧ w.cell? ⟨b, o + (i + j) * 4 + 3, none⟩ = some c3 ∧ TyS w S s[j] c0 c1 c2 c3
 | [], _, _, j, h => by simp at h
 | x :: xs, i, hi, 0, _ => by simpa [TysS] using hi.1
 | x :: xs, i, hi, j + 1, h => by
  have := TysS.at_ hi.2 j (by simpa using h)
  rw [show i + 1 + j = i + (j + 1) from by omega] at this
  simpa using this
theorem TysS.mk_ {w : World} {S : Nat → Prop} {A : Option Addr} : ∀ {s : List Ty} {i : Nat}, (∀ (j : Nat) (h : j < s.length), ∃ b o c0 c1 c2 c3, A = some ⟨b, o, none⟩ ∧ S b ∧ w.cell? ⟨b, o + (i + j) * 4, none⟩ = some c0 ∧ w.cell? ⟨b, o + (i + j) * 4 + 1, none⟩ = some c1 ∧ w.cell? ⟨b, o + (i + j) * 4 + 2, none⟩ = some c2 ∧ w.cell? ⟨b, o + (i + j) * 4 + 3, none⟩ = some c3 ∧ TyS w S s[j] c0 c1 c2 c3) → TysS w S s A i
 | [], _, _ => by simp [TysS]
 | x :: xs, i, h => by
  refine ⟨h 0 (Nat.zero_lt_succ _), TysS.mk_ fun j hj => ?_⟩
  have := h (j + 1) (by simpa using hj)
  rw [show i + (j + 1) = i + 1 + j from by omega] at this
  simpa using this
theorem TyS.keep {w w' : World} {S S' : Nat → Prop} (hS : ∀ k, k < w.heap.size → S k → S' k) (hk : ∀ p : Addr, p.block < w.heap.size → S p.block → w'.cell? p = w.cell? p) : ∀ (x : Ty) {c0 c1 c2 c3 : Value}, TyS w S x c0 c1 c2 c3 → TyS w' S' x c0 c1 c2 c3 := by
 intro x
 induction x using Ty.ind with
 | h k s l t ih =>
  intro c0 c1 c2 c3 h
  obtain ⟨h0, h1, h3', k1, k2, k3, hs, A, cap, h2, hc, hm, h3⟩ := h
  refine ⟨h0, h1, h3', k1, k2, k3, hs, A, cap, h2, hc, hm, TysS.mk_ fun j hj => ?_⟩
  obtain ⟨b, o, d0, d1, d2, d3, hA, hb, e0, e1, e2, e3, hi⟩ := h3.at_ j hj
  have hlt := lt_of_cell e0
  exact ⟨b, o, d0, d1, d2, d3, hA, hS _ hlt hb, (hk _ hlt hb).trans e0, (hk _ hlt hb).trans e1, (hk _ hlt hb).trans e2, (hk _ hlt hb).trans e3, ih _ (List.getElem_mem hj) hi⟩
theorem TyS.weak {w : World} {S S' : Nat → Prop} {x : Ty} {c0 c1 c2 c3 : Value} (h : TyS w S x c0 c1 c2 c3) (hS : ∀ k, k < w.heap.size → S k → S' k) : TyS w S' x c0 c1 c2 c3 := TyS.keep hS (fun _ _ _ => rfl) x h
theorem TyS.only {w w' : World} {S S' : Nat → Prop} {L : List Nat} {x : Ty} {c0 c1 c2 c3 : Value} (h : TyS w S x c0 c1 c2 c3) (ho : Only L w w') (hL : ∀ k, k ∈ L → ¬ S k) (hS : ∀ k, k < w.heap.size → S k → S' k) : TyS w' S' x c0 c1 c2 c3 :=
 TyS.keep hS (fun p hp hs => ho.cell hp fun hm => hL _ hm hs) x h
theorem TyS.below {w w' : World} {S : Nat → Prop} {x : Ty} {c0 c1 c2 c3 : Value} (h : TyS w S x c0 c1 c2 c3) (hb : Below w.heap.size w w') : TyS w' S x c0 c1 c2 c3 := TyS.keep (fun _ _ h => h) (fun _ hp _ => hb.cell hp) x h
theorem TyS.toIn {w : World} {S : Nat → Prop} : ∀ (x : Ty) {c0 c1 c2 c3 : Value}, TyS w S x c0 c1 c2 c3 → TyIn w w.heap.size x c0 c1 c2 c3 := by
 intro x
 induction x using Ty.ind with
 | h k s l t ih =>
  intro c0 c1 c2 c3 h
  obtain ⟨h0, h1, h3', k1, k2, k3, hs, A, cap, h2, hc, hm, h3⟩ := h
  refine ⟨h0, h1, h3', k1, k2, k3, hs, A, cap, h2, hc, hm, TysIn.mk_ fun j hj => ?_⟩
  obtain ⟨b, o, d0, d1, d2, d3, hA, hb, e0, e1, e2, e3, hi⟩ := h3.at_ j hj
  exact ⟨b, o, d0, d1, d2, d3, hA, lt_of_cell e0, e0, e1, e2, e3, ih _ (List.getElem_mem hj) hi⟩
theorem TyS.open_ {w : World} {S : Nat → Prop} {x : Ty} {c0 c1 c2 c3 : Value} (h : TyS w S x c0 c1 c2 c3) : ∃ A cap, c0 = .int .i64 x.kind ∧ c1 = .int .i64 x.size ∧ c2 = .slice A x.sub.length cap ∧ c3 = .int .i64 x.tail ∧ okI x.kind ∧ okI x.size ∧ okI x.tail ∧ x.sub.length ≤ cap ∧ cap ≤ 9223372036854775807 ∧ TysS w S x.sub A 0 := by
 cases x with
 | mk k s l t =>
  obtain ⟨h0, h1, h3, hk, hs, ht, hl, A, cap, h2, hc, hm, h4⟩ := h
  exact ⟨A, cap, h0, h1, h2, h3, hk, hs, ht, hc, hm, h4⟩
def TysAreS (w : World) (S : Nat → Prop) : List Ty → List Value → Prop
 | [], cs => cs = []
 | x :: xs, cs => ∃ c0 c1 c2 c3 ds, cs = c0 :: c1 :: c2 :: c3 :: ds ∧ TyS w S x c0 c1 c2 c3 ∧ TysAreS w S xs ds
theorem TysAreS.keep {w w' : World} {S S' : Nat → Prop} (hS : ∀ k, k < w.heap.size → S k → S' k) (hk : ∀ p : Addr, p.block < w.heap.size → S p.block → w'.cell? p = w.cell? p) : ∀ {s : List Ty} {cs : List Value}, TysAreS w S s cs → TysAreS w' S' s cs
 | [], cs, h => h
 | x :: xs, cs, h => by
  obtain ⟨c0, c1, c2, c3, ds, rfl, h1, h2⟩ := h
  exact ⟨c0, c1, c2, c3, ds, rfl, TyS.keep hS hk x h1, h2.keep hS hk⟩
theorem TysAreS.snoc {w : World} {S : Nat → Prop} {y : Ty} {c0 c1 c2 c3 : Value} (hy : TyS w S y c0 c1 c2 c3) : ∀ {s : List Ty} {cs : List Value}, TysAreS w S s cs → TysAreS w S (s ++ [y]) (cs ++ [c0, c1, c2, c3])
 | [], cs, h => by
  have h : cs = [] := h
  subst h
  exact ⟨c0, c1, c2, c3, [], rfl, hy, rfl⟩
 | x :: xs, cs, h => by
  obtain ⟨e0, e1, e2, e3, ds, rfl, h1, h2⟩ := h
  exact ⟨e0, e1, e2, e3, ds ++ [c0, c1, c2, c3], by simp, h1, h2.snoc hy⟩
theorem TysS.of_cells {w : World} {S : Nat → Prop} {b o : Nat} (hb : S b) : ∀ {s : List Ty} {i : Nat} {cs : List Value}, TysAreS w S s cs → (∀ j u, cs[j]? = some u → w.cell? ⟨b, o + i * 4 + j, none⟩ = some u) → TysS w S s (some ⟨b, o, none⟩) i
 | [], _, _, _, _ => trivial
 | x :: xs, i, cs, h, hc => by
  obtain ⟨c0, c1, c2, c3, ds, rfl, h1, h2⟩ := h
  refine ⟨⟨b, o, c0, c1, c2, c3, rfl, hb, by simpa using hc 0 c0 (by simp), hc 1 c1 (by simp), hc 2 c2 (by simp), hc 3 c3 (by simp), h1⟩, TysS.of_cells hb h2 fun j u hu => ?_⟩
  have := hc (j + 4) u (by simpa using hu)
  rw [show o + (i + 1) * 4 + j = o + i * 4 + (j + 4) from by omega]; exact this
def AccT (w : World) (lo : Nat) (acc : List Ty) (v : Value) : Prop := ∃ cs, w.ownsRow lo 55 4 v acc.length cs ∧ TysAreS w (fun k => lo ≤ k ∧ v.ownBlock ≠ some k) acc cs
theorem AccT.nil (w : World) (lo : Nat) : AccT w lo [] (.slice none 0 0) := ⟨[], ⟨by simp, .inl ⟨rfl, rfl⟩⟩, rfl⟩
theorem AccT.form {w : World} {lo : Nat} {acc : List Ty} {v : Value} (h : AccT w lo acc v) : ∃ A cap, v = .slice A acc.length cap ∧ acc.length ≤ cap ∧ cap ≤ 9223372036854775807 := by
 obtain ⟨cs, h1, h2⟩ := h
 rcases h1.2 with ⟨e1, e2⟩ | ⟨g, cap, cur, hv, _, _, hn, hm, _⟩
 ·exact ⟨none, 0, by rw [e1, e2], by omega, by simp⟩
 ·exact ⟨_, cap, hv, hn, by simpa [maxLen] using hm⟩
theorem AccT.form' {w : World} {lo : Nat} {acc : List Ty} {v : Value} (h : AccT w lo acc v) : ∃ A n cap, v = .slice A n cap ∧ Hid (n = acc.length) ∧ n ≤ cap ∧ cap ≤ 9223372036854775807 := by
 obtain ⟨A, cap, h1, h2, h3⟩ := h.form
 exact ⟨A, _, cap, h1, Lib.hid rfl, h2, h3⟩
theorem AccT.ge {w : World} {lo : Nat} {acc : List Ty} {v : Value} (h : AccT w lo acc v) : ∀ g, v.ownBlock = some g → lo ≤ g ∧ g < w.heap.size := by
 obtain ⟨cs, h1, h2⟩ := h
 intro g hg
 rcases h1.2 with ⟨e1, e2⟩ | ⟨g', cap, cur, hv, hb, hh, _⟩
 ·rw [e1] at hg; cases hg
 ·rw [hv] at hg
  have : g' = g := by simpa [Value.ownBlock] using hg
  subst this
  exact ⟨hb, lt_of_block hh⟩
theorem AccT.keep {w w' : World} {lo : Nat} {acc : List Ty} {v : Value} (h : AccT w lo acc v) (hk : ∀ k, lo ≤ k → k < w.heap.size → w'.heap[k]? = w.heap[k]?) : AccT w' lo acc v := by
 obtain ⟨cs, h1, h2⟩ := h
 refine ⟨cs, ⟨h1.1, ?_⟩, h2.keep (fun _ _ h => h) fun p hp hs => World.cell?_of_block (hk _ hs.1 hp)⟩
 rcases h1.2 with h3 | ⟨g, cap, cur, hv, hg, hh, r⟩
 ·exact .inl h3
 ·exact .inr ⟨g, cap, cur, hv, hg, (hk g hg (lt_of_block hh)).trans hh, r⟩
theorem AccT.only {w w' : World} {lo : Nat} {acc : List Ty} {v : Value} {L : List Nat} (h : AccT w lo acc v) (ho : Only L w w') (hL : ∀ g, g ∈ L → g < lo) : AccT w' lo acc v :=
 h.keep fun k h1 h2 => ho.block k h2 fun hm => by have := hL k hm; omega
theorem AccT.below {w w' : World} {lo : Nat} {acc : List Ty} {v : Value} (h : AccT w lo acc v) (hb : Below w.heap.size w w') : AccT w' lo acc v := h.keep fun k _ h2 => hb.block k h2
theorem AccT.ty {w : World} {lo : Nat} {acc : List Ty} {v : Value} (h : AccT w lo acc v) (hl : acc.length ≤ 9223372036854775807) {k z t : Int} (hk : okI k) (hz : okI z) (ht : okI t) : TyS w (lo ≤ ·) (.mk k z acc t) (.int .i64 k) (.int .i64 z) v (.int .i64 t) := by
 obtain ⟨A, cap, rfl, h1, h2⟩ := h.form
 obtain ⟨cs, h3, h4⟩ := h
 refine ⟨rfl, rfl, rfl, hk, hz, ht, hl, A, cap, rfl, h1, h2, ?_⟩
 rcases h3.2 with ⟨e1, e2⟩ | ⟨g, cap', cur, hv, hg, hh, _⟩
 ·obtain rfl : acc = [] := List.eq_nil_of_length_eq_zero e2
  trivial
 ·injection hv with hA _ hc
  subst hA; subst hc
  refine TysS.of_cells hg (h4.keep (fun _ _ h => h.1) (fun _ _ _ => rfl)) fun j u hu => ?_
  have := h3.cells rfl j u hu
  have e1 : (⟨g, 0, none⟩ : Addr).add j = ⟨g, j, none⟩ := by unfold Addr.add; split <;> simp_all
  rw [e1] at this
  simpa using this
theorem one4 {w : World} {S : Nat → Prop} {y : Ty} {c0 c1 c2 c3 : Value} (h : TyS w S y c0 c1 c2 c3) : ∀ u ∈ [c0, c1, c2, c3], u.oneCell' = true := by
 obtain ⟨A, cap, rfl, rfl, rfl, rfl, _⟩ := h.open_
 intro u hu
 simp at hu
 rcases hu with rfl | rfl | rfl | rfl <;> rfl
theorem wpList_append_type {w : World} {ops : Array Oper} {rest : List Oper} {o : Oper} {a : Act} {Q : Exit → Act → World → Prop} (hgd : o.guard = none) (s x : Operand)
 (ho : o.op = .call { callee := .builtin .append, args := #[s, x], argTypes := #[53, 53] }) (lo : Nat) (acc : List Ty) {v : Value} (hs : a.eval s = v) (hacc : AccT w lo acc v) (y : Ty) {c0 c1 c2 c3 : Value}
 (hy : TyS w (fun k => lo ≤ k ∧ v.ownBlock ≠ some k) y c0 c1 c2 c3) (g : Nat) (hx : a.eval x = .slice (some ⟨g, 0, none⟩) 1 1) (hg0 : w.cell? ⟨g, 0, none⟩ = some c0) (hg1 : w.cell? ⟨g, 1, none⟩ = some c1) (hg2 : w.cell? ⟨g, 2, none⟩ = some c2) (hg3 : w.cell? ⟨g, 3, none⟩ = some c3)
 (hlen : acc.length ≤ 1000000) (hlo : lo ≤ w.heap.size)
 (hK : ∀ g' n' cap w', Hid (n' = acc.length + 1) → AccT w' lo (acc ++ [y]) (.slice (some ⟨g', 0, none⟩) n' cap) → w.grownBy w' v.ownBlock → lo ≤ g' → wpList Tryz.prog ops Q rest (a.put o.dst (.slice (some ⟨g', 0, none⟩) n' cap)) w') : wpList Tryz.prog ops Q (o :: rest) a w := by
 obtain ⟨i0, hi, hz0, hz1, hz2⟩ := info_parts info_type
 obtain ⟨cs, h1, h2⟩ := hacc
 refine wpList_append_lies w hgd s x 53 ho lo 55 i0 _ 4 48 Tryz.underlying53 hi hz0 hz1 hz2 rfl (by decide) v acc.length cs hs h1 ⟨g, 0, none⟩ 1 1 [c0, c1, c2, c3] hx rfl ?_ (one4 hy) (by decide) (by simp only [maxLen]; omega) (by omega) hlo w.heap.size rfl ?_
 ·intro j u hu
  have e1 : ∀ j, (⟨g, 0, none⟩ : Addr).add j = ⟨g, j, none⟩ := by intro j; unfold Addr.add; split <;> simp_all
  rw [e1]
  match j, hu with
  | 0, hu => simp at hu; subst hu; exact hg0
  | 1, hu => simp at hu; subst hu; exact hg1
  | 2, hu => simp at hu; subst hu; exact hg2
  | 3, hu => simp at hu; subst hu; exact hg3
 ·intro g' cap w' ho' hgr hat hlt
  have hge := own_ge ho' g' rfl
  refine hK g' _ cap w' (Lib.hid rfl) ⟨cs ++ [c0, c1, c2, c3], by rw [List.length_append]; exact ho', ?_⟩ hgr hge
  refine ((h2.snoc hy).keep (fun k hk hS => ⟨hS.1, ?_⟩) fun p hp hS => World.cell?_of_block (hgr.block _ hp (fun e => hS.2 e.symm)))
  intro e
  have e : g' = k := by simpa [Value.ownBlock] using e
  rcases hat with hat | hat
  ·exact hS.2 (by rw [hat, e])
  ·omega
theorem TyS.leaf {w : World} {S : Nat → Prop} {k z t : Int} (hk : okI k) (hz : okI z) (ht : okI t) : TyS w S (.mk k z [] t) (.int .i64 k) (.int .i64 z) (.slice none 0 0) (.int .i64 t) := ⟨rfl, rfl, rfl, hk, hz, ht, by simp, none, 0, rfl, by simp, by simp, trivial⟩
theorem okI_small {i : Int} (h1 : 0 ≤ i) (h2 : i ≤ 100000000) : okI i := by unfold okI; omega
theorem step_append_itemR {w : World} {ops : Array Oper} {o : Oper} {a : Act} {K : Act → World → Prop} {Q : Exit → Act → World → Prop} {E' : Prop} (hgd : o.guard = none) (s x : Operand)
 (ho : o.op = .call { callee := .builtin .append, args := #[s, x], argTypes := #[26, 26] }) (lo : Nat) (acc : List It) {v : Value} (hs : a.eval s = v) (hacc : Acc w lo acc v) (y : It) {c0 c1 c2 : Value}
 (hy : ItS w (fun k => lo ≤ k ∧ v.ownBlock ≠ some k) y c0 c1 c2) (g : Nat) (hx : a.eval x = .slice (some ⟨g, 0, none⟩) 1 1) (hg0 : w.cell? ⟨g, 0, none⟩ = some c0) (hg1 : w.cell? ⟨g, 1, none⟩ = some c1) (hg2 : w.cell? ⟨g, 2, none⟩ = some c2)
 (hlen : acc.length ≤ 1000000) (hlo : lo ≤ w.heap.size)
 (hK : ∀ g' n' cap w', Hid (n' = acc.length + 1) → Acc w' lo (acc ++ [y]) (.slice (some ⟨g', 0, none⟩) n' cap) → w.grownBy w' v.ownBlock → lo ≤ g' → K (a.put o.dst (.slice (some ⟨g', 0, none⟩) n' cap)) w') :
 if Region.wanted o (yielded ops a.tmps) = true then Oper.wp Tryz.prog o a w K Q else E' := by
 obtain ⟨i0, hi, hz0, hz1, hz2⟩ := info_parts info_item
 obtain ⟨cs, h1, h2⟩ := hacc
 refine step_append_lies w hgd s x 26 ho lo 28 i0 _ 3 48 Tryz.underlying26 hi hz0 hz1 hz2 rfl (by decide) v acc.length cs hs h1 ⟨g, 0, none⟩ 1 1 [c0, c1, c2] hx rfl ?_ (one3 hy) (by decide) (by simp only [maxLen]; omega) (by omega) hlo w.heap.size rfl ?_
 ·intro j u hu
  have e1 : ∀ j, (⟨g, 0, none⟩ : Addr).add j = ⟨g, j, none⟩ := by intro j; unfold Addr.add; split <;> simp_all
  rw [e1]
  match j, hu with
  | 0, hu => simp at hu; subst hu; exact hg0
  | 1, hu => simp at hu; subst hu; exact hg1
  | 2, hu => simp at hu; subst hu; exact hg2
 ·intro g' cap w' ho' hgr hat hlt
  have hge := own_ge ho' g' rfl
  refine hK g' _ cap w' (Lib.hid rfl) ⟨cs ++ [c0, c1, c2], by rw [List.length_append]; exact ho', ?_⟩ hgr hge
  refine ((h2.snoc hy).keep (fun k hk hS => ⟨hS.1, ?_⟩) fun p hp hS => World.cell?_of_block (hgr.block _ hp (fun e => hS.2 e.symm)))
  intro e
  have e : g' = k := by simpa [Value.ownBlock] using e
  rcases hat with hat | hat
  ·exact hS.2 (by rw [hat, e])
  ·omega
theorem blk3' {w : World} {g : Nat} {t : TypeId} {a b c : Value} (h : Blk w g t #[a, b, c]) : w.cell? ⟨g, 0, none⟩ = some a ∧ w.cell? ⟨g, 1, none⟩ = some b ∧ w.cell? ⟨g, 2, none⟩ = some c := ⟨h.cell 0, h.cell 1, h.cell 2⟩
theorem box2 {w W : World} {t0 t1 t2 t3 c0 c1 c2 : Value} (h : (w.alloc (.cells #[t0, t1, t2, t3] 55)).alloc (.cells #[c0, c1, c2] 28) = W) :
 W.heap.size = w.heap.size + 2 ∧ Below w.heap.size w W ∧ Blk W w.heap.size 55 #[t0, t1, t2, t3] ∧ Blk W (w.heap.size + 1) 28 #[c0, c1, c2] := by
 subst h
 exact ⟨by simp, ((Below.refl _ w).alloc (Nat.le_refl _) _).alloc (by simp) _, (Blk.new w _ _).alloc _, Blk.at_ (by simp)⟩
def GtEnd (w w' : World) (x : It) (er : Int) (e : Ending) : Prop :=
 Below w.heap.size w w' ∧ ∃ c0 c1 c2, e = .returned (.tuple #[.agg #[c0, c1, c2], .int .i64 er]) ∧ ItS w' (w.heap.size ≤ ·) x c0 c1 c2
theorem noIt_S (w : World) (S : Nat → Prop) : ItS w S noIt (.string ⟨#[]⟩) (.bool false) (.slice none 0 0) := ItS.text false (by simp [ByteArray.size])
theorem box3 {w W : World} {z0 z1 z2 : Value} (h : W = w.alloc (.cells #[z0, z1, z2] 28)) : Below w.heap.size w W ∧ W.heap.size = w.heap.size + 1 ∧ Blk W w.heap.size 28 #[z0, z1, z2] := by
 subst h
 exact ⟨(Below.refl _ _).alloc (Nat.le_refl _) _, by simp, Blk.new w _ _⟩
theorem put3 {w : World} {g : Nat} {t : TypeId} {z0 z1 z2 : Value} (h : Blk w g t #[z0, z1, z2]) (v0 v1 v2 : Value) : Blk (((w.setCell ⟨g, 0, none⟩ v0).setCell ⟨g, 1, none⟩ v1).setCell ⟨g, 2, none⟩ v2) g t #[v0, v1, v2] := ((h.set 0 v0).set 1 v1).set 2 v2
theorem set3_part {w : World} {g : Nat} {t : TypeId} {z0 z1 z2 : Value} (h : Blk w g t #[z0, z1, z2]) (v0 v1 v2 : Value) : (w.setCell ⟨g, 0, none⟩ v0).cell? ⟨g, 0, none⟩ = some v0 ∧ ((w.setCell ⟨g, 0, none⟩ v0).setCell ⟨g, 1, none⟩ v1).cell? ⟨g, 1, none⟩ = some v1 ∧ (((w.setCell ⟨g, 0, none⟩ v0).setCell ⟨g, 1, none⟩ v1).setCell ⟨g, 2, none⟩ v2).cell? ⟨g, 2, none⟩ = some v2 :=
 ⟨by have := (h.set 0 v0).cell 0; simpa using this, by have := ((h.set 0 v0).set 1 v1).cell 1; simpa using this, by have := (((h.set 0 v0).set 1 v1).set 2 v2).cell 2; simpa using this⟩
theorem leaf_in' (w : World) (B : Nat) (t : ByteArray) (l : Bool) (h : t.size ≤ 9223372036854775807) : ItIn w B (.mk t l []) (.string t) (.bool l) (.slice none 0 0) := ⟨rfl, rfl, h, by simp, none, 0, rfl, by simp, by simp, trivial⟩
def MsS (w : World) (S : Nat → Prop) (m : Ms) (c0 c1 c2 c3 : Value) : Prop := c0 = .string m.name ∧ m.name.size ≤ 9223372036854775807 ∧ ItS w S m.x c1 c2 c3
theorem MsS.keep {w w' : World} {S S' : Nat → Prop} (hS : ∀ k, k < w.heap.size → S k → S' k) (hk : ∀ p : Addr, p.block < w.heap.size → S p.block → w'.cell? p = w.cell? p) (m : Ms) {c0 c1 c2 c3 : Value} (h : MsS w S m c0 c1 c2 c3) : MsS w' S' m c0 c1 c2 c3 := ⟨h.1, h.2.1, ItS.keep hS hk _ h.2.2⟩
theorem MsS.below {w w' : World} {S : Nat → Prop} {m : Ms} {c0 c1 c2 c3 : Value} (h : MsS w S m c0 c1 c2 c3) (hb : Below w.heap.size w w') : MsS w' S m c0 c1 c2 c3 := MsS.keep (fun _ _ h => h) (fun _ hp _ => hb.cell hp) m h
theorem MsS.weak {w : World} {S S' : Nat → Prop} {m : Ms} {c0 c1 c2 c3 : Value} (h : MsS w S m c0 c1 c2 c3) (hS : ∀ k, k < w.heap.size → S k → S' k) : MsS w S' m c0 c1 c2 c3 := MsS.keep hS (fun _ _ _ => rfl) m h
theorem MsS.only {w w' : World} {S S' : Nat → Prop} {L : List Nat} {m : Ms} {c0 c1 c2 c3 : Value} (h : MsS w S m c0 c1 c2 c3) (ho : Only L w w') (hL : ∀ k, k ∈ L → ¬ S k) (hS : ∀ k, k < w.heap.size → S k → S' k) : MsS w' S' m c0 c1 c2 c3 :=
 MsS.keep hS (fun p hp hs => ho.cell hp fun hm => hL _ hm hs) m h
theorem MsS.open_ {w : World} {S : Nat → Prop} {m : Ms} {c0 c1 c2 c3 : Value} (h : MsS w S m c0 c1 c2 c3) : ∃ A cap, c0 = .string m.name ∧ c1 = .string m.x.text ∧ c2 = .bool m.x.list ∧ c3 = .slice A m.x.sub.length cap ∧ m.name.size ≤ 9223372036854775807 ∧ m.x.text.size ≤ 9223372036854775807 ∧ m.x.sub.length ≤ cap ∧ cap ≤ 9223372036854775807 := by
 obtain ⟨h0, hn, hi⟩ := h
 obtain ⟨A, cap, h1, h2, h3, ht, hc, hm, _⟩ := hi.open_
 exact ⟨A, cap, h0, h1, h2, h3, hn, ht, hc, hm⟩
def GetEnd20 (w : World) (R : Option Ty) (e : Ending) (w' : World) : Prop :=
 Below w.heap.size w w' ∧ match R with
  | none => e = .returned (.tuple #[.agg #[.int .i64 0, .int .i64 0, .slice none 0 0, .int .i64 0], .int .i64 3])
  | some x => ∃ c0 c1 c2 c3, e = .returned (.tuple #[.agg #[c0, c1, c2, c3], .int .i64 0]) ∧ TyS w' (w.heap.size ≤ ·) x c0 c1 c2 c3
end Go.Proofs.YtnfpgadegpmhkaaGreatDoor
