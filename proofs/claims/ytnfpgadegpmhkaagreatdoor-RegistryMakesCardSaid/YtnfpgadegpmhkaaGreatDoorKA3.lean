/- Items in memory: three cells (the text, whether it is a list, the slice of the items within). Own text; no program in sight but the type's number. -/
import Derived.Test.YtnfpgadegpmhkaaGreatDoorKA1
import Derived.Test.YtnfpgadegpmhkaaGreatDoorKA2
set_option linter.unusedVariables false
set_option linter.unusedSimpArgs false
namespace Go.Proofs.YtnfpgadegpmhkaaGreatDoor
open Go.RowKit
theorem lt_of_cell {w : World} {b o : Nat} {v : Value} (h : w.cell? ⟨b, o, none⟩ = some v) : b < w.heap.size := by
 rcases Nat.lt_or_ge b w.heap.size with h' | h'
 ·exact h'
 ·simp [World.cell?, Array.getElem?_eq_none h'] at h
mutual
def ItIn (w : World) (B : Nat) : It → Value → Value → Value → Prop
 | .mk t l s, c0, c1, c2 => c0 = .string t ∧ c1 = .bool l ∧ t.size ≤ 9223372036854775807 ∧ s.length ≤ 9223372036854775807 ∧ ∃ A cap, c2 = .slice A s.length cap ∧ s.length ≤ cap ∧ cap ≤ 9223372036854775807 ∧ ItsIn w B s A 0
def ItsIn (w : World) (B : Nat) : List It → Option Addr → Nat → Prop
 | [], _, _ => True
 | x :: xs, A, i => (∃ b o c0 c1 c2, A = some ⟨b, o, none⟩ ∧ b < B ∧ w.cell? ⟨b, o + i * 3, none⟩ = some c0 ∧ w.cell? ⟨b, o + i * 3 + 1, none⟩ = some c1 ∧ w.cell? ⟨b, o + i * 3 + 2, none⟩ = some c2 ∧ ItIn w B x c0 c1 c2) ∧ ItsIn w B xs A (i + 1)
end
theorem ItsIn.at_ {w : World} {B : Nat} {A : Option Addr} : ∀ {s : List It} {i : Nat}, ItsIn w B s A i → ∀ (j : Nat) (h : j < s.length), ∃ b o c0 c1 c2, A = some ⟨b, o, none⟩ ∧ b < B ∧ w.cell? ⟨b, o + (i + j) * 3, none⟩ = some c0 ∧ w.cell? ⟨b, o + (i + j) * 3 + 1, none⟩ = some c1 ∧ w.cell? ⟨b, o + (i + j) * 3 + 2, none⟩ = some c2 ∧ ItIn w B s[j] c0 c1 c2
 | [], _, _, j, h => by simp at h
 | x :: xs, i, hi, 0, _ => by simpa [ItsIn] using hi.1
 | x :: xs, i, hi, j + 1, h => by
  have := ItsIn.at_ hi.2 j (by simpa using h)
  rw [show i + 1 + j = i + (j + 1) from by omega] at this
  simpa using this
theorem ItsIn.mk_ {w : World} {B : Nat} {A : Option Addr} : ∀ {s : List It} {i : Nat}, (∀ (j : Nat) (h : j < s.length), ∃ b o c0 c1 c2, A = some ⟨b, o, none⟩ ∧ b < B ∧ w.cell? ⟨b, o + (i + j) * 3, none⟩ = some c0 ∧ w.cell? ⟨b, o + (i + j) * 3 + 1, none⟩ = some c1 ∧ w.cell? ⟨b, o + (i + j) * 3 + 2, none⟩ = some c2 ∧ ItIn w B s[j] c0 c1 c2) → ItsIn w B s A i
 | [], _, _ => by simp [ItsIn]
 | x :: xs, i, h => by
  refine ⟨h 0 (Nat.zero_lt_succ _), ItsIn.mk_ fun j hj => ?_⟩
  have := h (j + 1) (by simpa using hj)
  rw [show i + (j + 1) = i + 1 + j from by omega] at this
  simpa using this
theorem ItIn.open_ {w : World} {B : Nat} {x : It} {c0 c1 c2 : Value} (h : ItIn w B x c0 c1 c2) : ∃ A cap, c0 = .string x.text ∧ c1 = .bool x.list ∧ c2 = .slice A x.sub.length cap ∧ x.text.size ≤ 9223372036854775807 ∧ x.sub.length ≤ cap ∧ cap ≤ 9223372036854775807 ∧ ItsIn w B x.sub A 0 := by
 cases x with
 | mk t l s =>
  obtain ⟨h0, h1, ht, hs, A, cap, h2, hc, hm, h3⟩ := h
  exact ⟨A, cap, h0, h1, h2, ht, hc, hm, h3⟩
theorem ItIn.keep {w w' : World} {B B' : Nat} (hB : B ≤ B') (hk : ∀ p : Addr, p.block < B → w'.cell? p = w.cell? p) : ∀ (x : It) {c0 c1 c2 : Value}, ItIn w B x c0 c1 c2 → ItIn w' B' x c0 c1 c2 := by
 intro x
 induction x using It.ind with
 | h t l s ih =>
  intro c0 c1 c2 h
  obtain ⟨h0, h1, ht, hs, A, cap, h2, hc, hm, h3⟩ := h
  refine ⟨h0, h1, ht, hs, A, cap, h2, hc, hm, ItsIn.mk_ fun j hj => ?_⟩
  obtain ⟨b, o, d0, d1, d2, hA, hb, e0, e1, e2, hi⟩ := h3.at_ j hj
  exact ⟨b, o, d0, d1, d2, hA, by omega, (hk _ hb).trans e0, (hk _ hb).trans e1, (hk _ hb).trans e2, ih _ (List.getElem_mem hj) hi⟩
theorem ItIn.below {w w' : World} {B : Nat} {x : It} {c0 c1 c2 : Value} (h : ItIn w B x c0 c1 c2) (hb : Below B w w') : ItIn w' B x c0 c1 c2 := ItIn.keep (Nat.le_refl _) (fun _ hp => hb.cell hp) x h
theorem ItIn.mono {w : World} {B B' : Nat} {x : It} {c0 c1 c2 : Value} (h : ItIn w B x c0 c1 c2) (hB : B ≤ B') : ItIn w B' x c0 c1 c2 := ItIn.keep hB (fun _ _ => rfl) x h
theorem ItsIn.below {w w' : World} {B i : Nat} {s : List It} {A : Option Addr} (h : ItsIn w B s A i) (hb : Below B w w') : ItsIn w' B s A i := ItsIn.mk_ fun j hj => by
 obtain ⟨b, o, d0, d1, d2, hA, hlt, e0, e1, e2, hi⟩ := h.at_ j hj
 exact ⟨b, o, d0, d1, d2, hA, hlt, (hb.cell hlt).trans e0, (hb.cell hlt).trans e1, (hb.cell hlt).trans e2, hi.below hb⟩
def okI (i : Int) : Prop := -9223372036854775808 ≤ i ∧ i ≤ 9223372036854775807
mutual
def TyIn (w : World) (B : Nat) : Ty → Value → Value → Value → Value → Prop
 | .mk k s l t, c0, c1, c2, c3 => c0 = .int .i64 k ∧ c1 = .int .i64 s ∧ c3 = .int .i64 t ∧ okI k ∧ okI s ∧ okI t ∧ l.length ≤ 9223372036854775807 ∧ ∃ A cap, c2 = .slice A l.length cap ∧ l.length ≤ cap ∧ cap ≤ 9223372036854775807 ∧ TysIn w B l A 0
def TysIn (w : World) (B : Nat) : List Ty → Option Addr → Nat → Prop
 | [], _, _ => True
 | x :: xs, A, i => (∃ b o c0 c1 c2 c3, A = some ⟨b, o, none⟩ ∧ b < B ∧ w.cell? ⟨b, o + i * 4, none⟩ = some c0 ∧ w.cell? ⟨b, o + i * 4 + 1, none⟩ = some c1 ∧ w.cell? ⟨b, o + i * 4 + 2, none⟩ = some c2 ∧ w.cell? ⟨b, o + i * 4 + 3, none⟩ = some c3 ∧ TyIn w B x c0 c1 c2 c3) ∧ TysIn w B xs A (i + 1)
end
theorem TysIn.at_ {w : World} {B : Nat} {A : Option Addr} : ∀ {s : List Ty} {i : Nat}, TysIn w B s A i → ∀ (j : Nat) (h : j < s.length), ∃ b o c0 c1 c2 c3, A = some ⟨b, o, none⟩ ∧ b < B ∧ w.cell? ⟨b, o + (i + j) * 4, none⟩ = some c0 ∧ w.cell? ⟨b, o + (i + j) * 4 + 1, none⟩ = some c1 ∧ w.cell? ⟨b, o + (i + j) * 4 + 2, none⟩ = some c2 ∧ w.cell? ⟨b, o + (i + j) * 4 + 3, none⟩ = some c3 ∧ TyIn w B s[j] c0 c1 c2 c3
 | [], _, _, j, h => by simp at h
 | x :: xs, i, hi, 0, _ => by simpa [TysIn] using hi.1
 | x :: xs, i, hi, j + 1, h => by
  have := TysIn.at_ hi.2 j (by simpa using h)
  rw [show i + 1 + j = i + (j + 1) from by omega] at this
  simpa using this
theorem TysIn.mk_ {w : World} {B : Nat} {A : Option Addr} : ∀ {s : List Ty} {i : Nat}, (∀ (j : Nat) (h : j < s.length), ∃ b o c0 c1 c2 c3, A = some ⟨b, o, none⟩ ∧ b < B ∧ w.cell? ⟨b, o + (i + j) * 4, none⟩ = some c0 ∧ w.cell? ⟨b, o + (i + j) * 4 + 1, none⟩ = some c1 ∧ w.cell? ⟨b, o + (i + j) * 4 + 2, none⟩ = some c2 ∧ w.cell? ⟨b, o + (i + j) * 4 + 3, none⟩ = some c3 ∧ TyIn w B s[j] c0 c1 c2 c3) → TysIn w B s A i
 | [], _, _ => by simp [TysIn]
 | x :: xs, i, h => by
  refine ⟨h 0 (Nat.zero_lt_succ _), TysIn.mk_ fun j hj => ?_⟩
  have := h (j + 1) (by simpa using hj)
  rw [show i + (j + 1) = i + 1 + j from by omega] at this
  simpa using this
theorem TyIn.open_ {w : World} {B : Nat} {x : Ty} {c0 c1 c2 c3 : Value} (h : TyIn w B x c0 c1 c2 c3) : ∃ A cap, c0 = .int .i64 x.kind ∧ c1 = .int .i64 x.size ∧ c2 = .slice A x.sub.length cap ∧ c3 = .int .i64 x.tail ∧ okI x.kind ∧ okI x.size ∧ okI x.tail ∧ x.sub.length ≤ cap ∧ cap ≤ 9223372036854775807 ∧ TysIn w B x.sub A 0 := by
 cases x with
 | mk k s l t =>
  obtain ⟨h0, h1, h3, hk, hs, ht, hl, A, cap, h2, hc, hm, h4⟩ := h
  exact ⟨A, cap, h0, h1, h2, h3, hk, hs, ht, hc, hm, h4⟩
theorem TyIn.keep {w w' : World} {B B' : Nat} (hB : B ≤ B') (hk : ∀ p : Addr, p.block < B → w'.cell? p = w.cell? p) : ∀ (x : Ty) {c0 c1 c2 c3 : Value}, TyIn w B x c0 c1 c2 c3 → TyIn w' B' x c0 c1 c2 c3 := by
 intro x
 induction x using Ty.ind with
 | h k s l t ih =>
  intro c0 c1 c2 c3 h
  obtain ⟨h0, h1, h3, hk', hs, ht, hl, A, cap, h2, hc, hm, h4⟩ := h
  refine ⟨h0, h1, h3, hk', hs, ht, hl, A, cap, h2, hc, hm, TysIn.mk_ fun j hj => ?_⟩
  obtain ⟨b, o, d0, d1, d2, d3, hA, hb, e0, e1, e2, e3, hi⟩ := h4.at_ j hj
  exact ⟨b, o, d0, d1, d2, d3, hA, by omega, (hk _ hb).trans e0, (hk _ hb).trans e1, (hk _ hb).trans e2, (hk _ hb).trans e3, ih _ (List.getElem_mem hj) hi⟩
theorem TyIn.below {w w' : World} {B : Nat} {x : Ty} {c0 c1 c2 c3 : Value} (h : TyIn w B x c0 c1 c2 c3) (hb : Below B w w') : TyIn w' B x c0 c1 c2 c3 := TyIn.keep (Nat.le_refl _) (fun _ hp => hb.cell hp) x h
theorem TyIn.mono {w : World} {B B' : Nat} {x : Ty} {c0 c1 c2 c3 : Value} (h : TyIn w B x c0 c1 c2 c3) (hB : B ≤ B') : TyIn w B' x c0 c1 c2 c3 := TyIn.keep hB (fun _ _ => rfl) x h
theorem TysIn.keep {w w' : World} {B B' : Nat} (hB : B ≤ B') (hk : ∀ p : Addr, p.block < B → w'.cell? p = w.cell? p) {s : List Ty} {A : Option Addr} {i : Nat} (h : TysIn w B s A i) : TysIn w' B' s A i := TysIn.mk_ fun j hj => by
 obtain ⟨b, o, d0, d1, d2, d3, hA, hlt, e0, e1, e2, e3, hi⟩ := h.at_ j hj
 exact ⟨b, o, d0, d1, d2, d3, hA, by omega, (hk _ hlt).trans e0, (hk _ hlt).trans e1, (hk _ hlt).trans e2, (hk _ hlt).trans e3, hi.keep hB hk⟩
theorem TysIn.below {w w' : World} {B i : Nat} {s : List Ty} {A : Option Addr} (h : TysIn w B s A i) (hb : Below B w w') : TysIn w' B s A i := h.keep (Nat.le_refl _) (fun _ hp => hb.cell hp)
theorem blk4 {w : World} {g : Nat} {t : TypeId} {a b c d : Value} (h : Blk w g t #[a, b, c, d]) : w.cell? ⟨g, 0, none⟩ = some a ∧ w.cell? ⟨g, 1, none⟩ = some b ∧ w.cell? ⟨g, 2, none⟩ = some c ∧ w.cell? ⟨g, 3, none⟩ = some d ∧ w.frozen? ⟨g, 0, none⟩ = false ∧ w.frozen? ⟨g, 1, none⟩ = false ∧ w.frozen? ⟨g, 2, none⟩ = false ∧ w.frozen? ⟨g, 3, none⟩ = false :=
 ⟨h.cell 0, h.cell 1, h.cell 2, h.cell 3, h.frozen 0, h.frozen 1, h.frozen 2, h.frozen 3⟩
theorem box4 {w w' : World} {t : TypeId} {a b c d : Value} (hb : Below (w.heap.size + 1) (w.alloc (.cells #[a, b, c, d] t)) w') : w'.cell? ⟨w.heap.size, 0, none⟩ = some a ∧ w'.cell? ⟨w.heap.size, 1, none⟩ = some b ∧ w'.cell? ⟨w.heap.size, 2, none⟩ = some c ∧ w'.cell? ⟨w.heap.size, 3, none⟩ = some d := by
 have h0 := Blk.new w t #[a, b, c, d]
 have h : Blk w' w.heap.size t #[a, b, c, d] := (hb.block _ (by omega)).trans h0
 exact ⟨h.cell 0, h.cell 1, h.cell 2, h.cell 3⟩
def ItsAre (w : World) (B : Nat) : List It → List Value → Prop
 | [], cs => cs = []
 | x :: xs, cs => ∃ c0 c1 c2 ds, cs = c0 :: c1 :: c2 :: ds ∧ ItIn w B x c0 c1 c2 ∧ ItsAre w B xs ds
theorem ItsAre.length {w : World} {B : Nat} : ∀ {s : List It} {cs : List Value}, ItsAre w B s cs → cs.length = s.length * 3
 | [], cs, h => by simp [ItsAre] at h; simp [h]
 | x :: xs, cs, h => by
  obtain ⟨c0, c1, c2, ds, rfl, _, h2⟩ := h
  have := h2.length
  simp only [List.length_cons, this]; omega
theorem ItsAre.keep {w w' : World} {B B' : Nat} (hB : B ≤ B') (hk : ∀ p : Addr, p.block < B → w'.cell? p = w.cell? p) : ∀ {s : List It} {cs : List Value}, ItsAre w B s cs → ItsAre w' B' s cs
 | [], cs, h => h
 | x :: xs, cs, h => by
  obtain ⟨c0, c1, c2, ds, rfl, h1, h2⟩ := h
  exact ⟨c0, c1, c2, ds, rfl, ItIn.keep hB hk x h1, h2.keep hB hk⟩
theorem ItsIn.cells {w : World} {B : Nat} {b o : Nat} : ∀ {s : List It} {i : Nat}, ItsIn w B s (some ⟨b, o, none⟩) i → ∃ cs, ItsAre w B s cs ∧ ∀ j u, cs[j]? = some u → w.cell? ⟨b, o + i * 3 + j, none⟩ = some u
 | [], i, _ => ⟨[], rfl, by simp⟩
 | x :: xs, i, h => by
  obtain ⟨⟨b', o', c0, c1, c2, hA, _, e0, e1, e2, hi⟩, h2⟩ := h
  injection hA with hA
  injection hA with hb ho
  subst hb; subst ho
  obtain ⟨ds, hd, hc⟩ := h2.cells
  refine ⟨c0 :: c1 :: c2 :: ds, ⟨c0, c1, c2, ds, rfl, hi, hd⟩, fun j u hu => ?_⟩
  match j, hu with
  | 0, hu => simp at hu; subst hu; exact e0
  | 1, hu => simp at hu; subst hu; exact e1
  | 2, hu => simp at hu; subst hu; exact e2
  | j + 3, hu =>
   have := hc j u (by simpa using hu)
   rw [show o + i * 3 + (j + 3) = o + (i + 1) * 3 + j from by omega]; exact this
theorem ItsIn.of_cells {w : World} {B : Nat} {b o : Nat} (hb : b < B) : ∀ {s : List It} {i : Nat} {cs : List Value}, ItsAre w B s cs → (∀ j u, cs[j]? = some u → w.cell? ⟨b, o + i * 3 + j, none⟩ = some u) → ItsIn w B s (some ⟨b, o, none⟩) i
 | [], _, _, _, _ => trivial
 | x :: xs, i, cs, h, hc => by
  obtain ⟨c0, c1, c2, ds, rfl, h1, h2⟩ := h
  refine ⟨⟨b, o, c0, c1, c2, rfl, hb, by simpa using hc 0 c0 (by simp), hc 1 c1 (by simp), hc 2 c2 (by simp), h1⟩, ItsIn.of_cells hb h2 fun j u hu => ?_⟩
  have := hc (j + 3) u (by simpa using hu)
  rw [show o + (i + 1) * 3 + j = o + i * 3 + (j + 3) from by omega]; exact this
def leD (n : Nat) : Nat → List UInt8
 | 0 => []
 | k + 1 => leD n k ++ [ub (n / 2 ^ (8 * k) % 256 : Nat)]
theorem leD_length (n k : Nat) : (leD n k).length = k := by
 induction k with
 | zero => rfl
 | succ k ih => simp [leD, ih]
theorem dig_step {n k sz : Nat} (h : k < sz) : (leD n k ++ List.replicate (sz - k) (0 : UInt8)).set k (ub (n / 2 ^ (8 * k) % 256 : Nat)) = leD n (k + 1) ++ List.replicate (sz - (k + 1)) 0 := by
 obtain ⟨d, hd⟩ : ∃ d, sz - k = d + 1 := ⟨sz - k - 1, by omega⟩
 rw [hd, List.replicate_succ, List.set_append_right _ _ (by rw [leD_length]; exact Nat.le_refl _), leD_length, Nat.sub_self, List.set_cons_zero, show sz - (k + 1) = d from by omega]
 simp [leD]
theorem dig_val (n k : Nat) : (n : Int) / 2 ^ (8 * k) % 256 = ((ub (n / 2 ^ (8 * k) % 256 : Nat)).toNat : Int) := by
 rw [ub_toNat _ (by omega)]
 simp
theorem leD_cons (n k : Nat) : leD n (k + 1) = ub (n % 256 : Nat) :: leD (n / 256) k := by
 induction k with
 | zero => simp [leD]
 | succ k ih =>
  rw [leD, ih, leD, List.cons_append]
  congr 4
  rw [Nat.div_div_eq_div_mul, show (256 : Nat) = 2 ^ 8 from rfl, ← Nat.pow_add, show 8 + 8 * k = 8 * (k + 1) from by omega]
def minL (n : Nat) : List UInt8 := if h : n = 0 then [] else minL (n / 256) ++ [ub (n % 256 : Nat)]
termination_by n
theorem minL_zero : minL 0 = [] := by rw [minL]; simp
theorem minL_pos {n : Nat} (h : n ≠ 0) : minL n = minL (n / 256) ++ [ub (n % 256 : Nat)] := by rw [minL]; simp [h]
theorem pow8 (k : Nat) : 2 ^ (8 * (k + 1)) = 256 * 2 ^ (8 * k) := by rw [show 8 * (k + 1) = 8 + 8 * k from by omega, Nat.pow_add]
theorem minL_length (k : Nat) : ∀ n, n < 2 ^ (8 * k) → (minL n).length ≤ k := by
 induction k with
 | zero => intro n h; simp at h; subst h; simp [minL_zero]
 | succ k ih =>
  intro n h
  by_cases h0 : n = 0
  ·subst h0; simp [minL_zero]
  ·rw [minL_pos h0, List.length_append]
   have := ih (n / 256) (by rw [pow8] at h; exact Nat.div_lt_of_lt_mul h)
   simp; omega
theorem least_pad (k : Nat) : ∀ n, n < 2 ^ (8 * k) → List.replicate (k - (minL n).length) 0 ++ minL n = (leD n k).reverse := by
 induction k with
 | zero => intro n h; simp at h; subst h; simp [minL_zero, leD]
 | succ k ih =>
  intro n h
  have hl := minL_length (k + 1) n h
  have hd : n / 256 < 2 ^ (8 * k) := by rw [pow8] at h; exact Nat.div_lt_of_lt_mul h
  rw [leD_cons, List.reverse_cons, ← ih _ hd]
  by_cases h0 : n = 0
  ·subst h0
   simp [minL_zero, ub]
   rw [List.replicate_succ']
  ·rw [minL_pos h0, List.length_append, List.length_singleton, show k + 1 - ((minL (n / 256)).length + 1) = k - (minL (n / 256)).length from by omega, List.append_assoc]
theorem leD_L (l : List UInt8) : leD (leL l) l.length = l := by
 induction l with
 | nil => rfl
 | cons b t ih =>
  have hb := b.toNat_lt
  rw [List.length_cons, leD_cons, leL, show (b.toNat + 256 * leL t) / 256 = leL t from by omega, ih]
  congr 1
  rw [show (b.toNat + 256 * leL t) % 256 = b.toNat from by omega]
  apply UInt8.toNat_inj.1
  rw [ub_toNat _ hb]
def cpFirst (n : Nat) : Nat := if n < 253 then n else if n < 65536 then 253 else if n < 4294967296 then 254 else 255
def cpBehind (b : Nat) : Nat := if b = 253 then 2 else if b = 254 then 4 else 8
def cpPut (n : Nat) : List UInt8 := if n < 253 then [ub n] else ub (cpFirst n) :: leD n (cpBehind (cpFirst n))
def cpNext : List UInt8 → Nat × Nat × Int
 | [] => (0, 0, 2)
 | b :: t => if b.toNat < 253 then (b.toNat, 1, 0) else if t.length < cpBehind b.toNat then (0, 0, 2)
  else if cpFirst (leL (t.take (cpBehind b.toNat))) = b.toNat then (leL (t.take (cpBehind b.toNat)), 1 + cpBehind b.toNat, 0) else (0, 0, 3)
theorem cpBehind_le (b : Nat) : 2 ≤ cpBehind b ∧ cpBehind b ≤ 8 := by unfold cpBehind; split <;> (try split) <;> omega
theorem cp_fits {n : Nat} (h : ¬ n < 253) (hn : n < 18446744073709551616) : n < 2 ^ (8 * cpBehind (cpFirst n)) := by
 unfold cpFirst
 rw [if_neg h]
 by_cases h1 : n < 65536
 ·rw [if_pos h1]; show n < 2 ^ 16; omega
 ·rw [if_neg h1]
  by_cases h2 : n < 4294967296
  ·rw [if_pos h2]; show n < 2 ^ 32; omega
  ·rw [if_neg h2]; show n < 2 ^ 64; omega
theorem cpPut_length (n : Nat) : 1 ≤ (cpPut n).length ∧ (cpPut n).length ≤ 9 := by
 unfold cpPut
 split
 ·simp
 ·have := cpBehind_le (cpFirst n)
  simp [leD_length]; omega
theorem cpNext_back (r : List UInt8) (n z : Nat) (h : cpNext r = (n, z, 0)) : n < 18446744073709551616 ∧ z ≤ r.length ∧ r.take z = cpPut n ∧ (cpPut n).length = z := by
 cases r with
 | nil => cases h
 | cons b t =>
  have hb := b.toNat_lt
  have hub : ub (b.toNat : Nat) = b := by apply UInt8.toNat_inj.1; rw [ub_toNat _ hb]
  simp only [cpNext] at h
  by_cases h1 : b.toNat < 253
  ·rw [if_pos h1] at h
   injection h with e1 e2
   injection e2 with e2 _
   subst e1 e2
   refine ⟨by omega, by simp, ?_, ?_⟩
   ·unfold cpPut; rw [if_pos h1, hub]; rfl
   ·unfold cpPut; rw [if_pos h1]; rfl
  ·rw [if_neg h1] at h
   by_cases h2 : t.length < cpBehind b.toNat
   ·rw [if_pos h2] at h; injection h with _ h; injection h with _ h; cases h
   rw [if_neg h2] at h
   by_cases h3 : cpFirst (leL (t.take (cpBehind b.toNat))) = b.toNat
   ·rw [if_pos h3] at h
    injection h with e1 e2
    injection e2 with e2 _
    have hlt := leL_lt (t.take (cpBehind b.toNat))
    have hlen : (t.take (cpBehind b.toNat)).length = cpBehind b.toNat := by rw [List.length_take]; omega
    have hb8 := cpBehind_le b.toNat
    rw [hlen] at hlt
    have hpow : 2 ^ (8 * cpBehind b.toNat) ≤ 18446744073709551616 := le_pow _ hb8.2
    have hp : cpPut n = b :: t.take (cpBehind b.toNat) := by
     subst e1
     have hn253 : ¬ leL (t.take (cpBehind b.toNat)) < 253 := by
      intro hlt2
      have : cpFirst (leL (t.take (cpBehind b.toNat))) = leL (t.take (cpBehind b.toNat)) := by unfold cpFirst; rw [if_pos hlt2]
      omega
     unfold cpPut
     rw [if_neg hn253, h3, hub]
     congr 1
     have := leD_L (t.take (cpBehind b.toNat))
     rwa [hlen] at this
    refine ⟨by omega, by simp only [List.length_cons]; omega, ?_, ?_⟩
    ·rw [hp, ← e2, Nat.add_comm, List.take_succ_cons]
    ·rw [hp, List.length_cons, hlen]; omega
   ·rw [if_neg h3] at h; injection h with _ h; injection h with _ h; cases h
theorem cpNext_nine (r : List UInt8) : cpNext (r.take 9) = cpNext r := by
 cases r with
 | nil => rfl
 | cons b t =>
  have h8 := cpBehind_le b.toNat
  simp only [List.take_succ_cons, cpNext]
  rw [List.take_take, show min (cpBehind b.toNat) 8 = cpBehind b.toNat from by omega, List.length_take]
  by_cases h : t.length < cpBehind b.toNat
  ·rw [if_pos (show min 8 t.length < cpBehind b.toNat by omega), if_pos h]
  ·rw [if_neg (show ¬ min 8 t.length < cpBehind b.toNat by omega), if_neg h]
def rHead (b n : Nat) : List UInt8 := if n ≤ 55 then [ub ((b + n : Nat) : Int)] else ub ((b + 55 + (minL n).length : Nat) : Int) :: minL n
mutual
def It.rlp : It → List UInt8
 | .mk t l s => if l = true then rHead 192 (rlpL s).length ++ rlpL s else if t.size = 1 ∧ (t.data.toList.getD 0 0).toNat < 128 then t.data.toList else rHead 128 t.size ++ t.data.toList
def rlpL : List It → List UInt8
 | [] => []
 | x :: xs => x.rlp ++ rlpL xs
end
def listB (b : List UInt8) : List UInt8 := rHead 192 b.length ++ b
def closeL (xs : List It) (b : List UInt8) (rest : List (List It × List UInt8)) : List UInt8 := rest.foldl (fun inner f => f.2 ++ (listB inner ++ rlpL f.1)) (b ++ rlpL xs)
theorem closeL_pop (b c : List UInt8) (ys : List It) (rest : List (List It × List UInt8)) : closeL [] b ((ys, c) :: rest) = closeL ys (c ++ listB b) rest := by simp [closeL, rlpL]
theorem closeL_text (x : It) (xs : List It) (b : List UInt8) (rest : List (List It × List UInt8)) : closeL (x :: xs) b rest = closeL xs (b ++ x.rlp) rest := by simp [closeL, rlpL]
theorem closeL_list (t : ByteArray) (s : List It) (xs : List It) (b : List UInt8) (rest : List (List It × List UInt8)) : closeL (.mk t true s :: xs) b rest = closeL s [] ((xs, b) :: rest) := by simp [closeL, rlpL, It.rlp, listB]
def hdR (s : ByteArray) : Bool × Nat × Nat × Int :=
 let b := (s.data.toList.getD 0 0).toNat
 if b < 128 then (false, 0, 1, 0)
 else
  let l := decide (192 ≤ b)
  let told := if 192 ≤ b then b - 192 else b - 128
  let size := if told ≤ 55 then 1 else 1 + (told - 55)
  let n := if told ≤ 55 then told else beL (s.extract 1 size).data.toList
  if told ≤ 55 then
   if s.size < size + n then (false, 0, 0, 2)
   else if l = false ∧ n = 1 ∧ (s.data.toList.getD 1 0).toNat < 128 then (false, 0, 0, 3)
   else (l, 1, told, 0)
  else
   if s.size < size then (false, 0, 0, 2)
   else if (s.data.toList.getD 1 0).toNat = 0 ∨ n ≤ 55 then (false, 0, 0, 3)
   else if s.size < size + n then (false, 0, 0, 2)
   else (l, size, n, 0)
def hd (s : ByteArray) (deep many : Bool) : Bool × Nat × Nat × Int :=
 if s.size = 0 then (false, 0, 0, 2) else if deep = true then (false, 0, 0, 6) else if many = true then (false, 0, 0, 4) else hdR s
theorem hdR_ok (s : ByteArray) (hs : 0 < s.size) (h : (hdR s).2.2.2 = 0) : (hdR s).2.1 + (hdR s).2.2.1 ≤ s.size ∧ 1 ≤ (hdR s).2.1 + (hdR s).2.2.1 ∧ ((hdR s).1 = true → 1 ≤ (hdR s).2.1) := by
 unfold hdR at h ⊢
 dsimp only at h ⊢
 generalize (s.data.toList.getD 0 0).toNat = b at *
 by_cases hb : b < 128
 ·rw [if_pos hb] at h ⊢; dsimp only; refine ⟨by omega, by omega, by simp⟩
 rw [if_neg hb] at h ⊢
 generalize (if 192 ≤ b then b - 192 else b - 128) = told at *
 by_cases ht : told ≤ 55
 ·simp only [if_pos ht] at h ⊢
  by_cases h1 : s.size < 1 + told
  ·rw [if_pos h1] at h; simp at h
  rw [if_neg h1] at h ⊢
  split at h
  ·simp at h
  ·rename_i h2; rw [if_neg h2]; dsimp only; refine ⟨by omega, by omega, fun _ => by omega⟩
 ·simp only [if_neg ht] at h ⊢
  generalize beL (s.extract 1 (1 + (told - 55))).data.toList = n at *
  by_cases h1 : s.size < 1 + (told - 55)
  ·rw [if_pos h1] at h; simp at h
  rw [if_neg h1] at h ⊢
  split at h
  ·simp at h
  rename_i h2
  rw [if_neg h2]
  split at h
  ·simp at h
  rename_i h3
  rw [if_neg h3]
  dsimp only; refine ⟨by omega, by omega, fun _ => by omega⟩
theorem hd_ok (s : ByteArray) (d m : Bool) (h : (hd s d m).2.2.2 = 0) : 0 < s.size ∧ (hd s d m).2.1 + (hd s d m).2.2.1 ≤ s.size ∧ 1 ≤ (hd s d m).2.1 + (hd s d m).2.2.1 ∧ ((hd s d m).1 = true → 1 ≤ (hd s d m).2.1) := by
 unfold hd at h ⊢
 by_cases h0 : s.size = 0
 ·rw [if_pos h0] at h; simp at h
 rw [if_neg h0] at h ⊢
 by_cases h1 : d = true
 ·rw [if_pos h1] at h; simp at h
 rw [if_neg h1] at h ⊢
 by_cases h2 : m = true
 ·rw [if_pos h2] at h; simp at h
 rw [if_neg h2] at h ⊢
 exact ⟨by omega, hdR_ok s (by omega) h⟩
structure Rd where
 x : It
 size : Nat
 items : Nat
 e : Int
structure Rds where
 xs : List It
 items : Nat
 e : Int
def noIt : It := .mk ByteArray.empty false []
def Rd.bad (e : Int) : Rd := ⟨noIt, 0, 0, e⟩
def Rds.bad (e : Int) : Rds := ⟨[], 0, e⟩
def tooDeep (D : Int) (deep : Nat) : Bool := decide (D < deep) || decide (16 < deep)
def tooMany (M : Int) (ahead : Nat) : Bool := decide (M < ahead + 1) || decide (1024 < ahead + 1)
def within (e : Int) : Int := if e = 2 then 3 else e
mutual
def rdI (D M : Int) : Nat → ByteArray → Nat → Nat → Rd
 | 0, _, _, _ => Rd.bad 2
 | f + 1, s, deep, ahead =>
  if (hd s (tooDeep D deep) (tooMany M ahead)).2.2.2 ≠ 0 then Rd.bad (hd s (tooDeep D deep) (tooMany M ahead)).2.2.2
  else if (hd s (tooDeep D deep) (tooMany M ahead)).1 = false then
   ⟨.mk (s.extract (hd s (tooDeep D deep) (tooMany M ahead)).2.1 ((hd s (tooDeep D deep) (tooMany M ahead)).2.1 + (hd s (tooDeep D deep) (tooMany M ahead)).2.2.1)) false [],
    (hd s (tooDeep D deep) (tooMany M ahead)).2.1 + (hd s (tooDeep D deep) (tooMany M ahead)).2.2.1, 1, 0⟩
  else
   if (rdS D M f (s.extract (hd s (tooDeep D deep) (tooMany M ahead)).2.1 ((hd s (tooDeep D deep) (tooMany M ahead)).2.1 + (hd s (tooDeep D deep) (tooMany M ahead)).2.2.1)) (deep + 1) (ahead + 1)).e ≠ 0
   then Rd.bad (rdS D M f (s.extract (hd s (tooDeep D deep) (tooMany M ahead)).2.1 ((hd s (tooDeep D deep) (tooMany M ahead)).2.1 + (hd s (tooDeep D deep) (tooMany M ahead)).2.2.1)) (deep + 1) (ahead + 1)).e
   else ⟨.mk ByteArray.empty true (rdS D M f (s.extract (hd s (tooDeep D deep) (tooMany M ahead)).2.1 ((hd s (tooDeep D deep) (tooMany M ahead)).2.1 + (hd s (tooDeep D deep) (tooMany M ahead)).2.2.1)) (deep + 1) (ahead + 1)).xs,
    (hd s (tooDeep D deep) (tooMany M ahead)).2.1 + (hd s (tooDeep D deep) (tooMany M ahead)).2.2.1,
    1 + (rdS D M f (s.extract (hd s (tooDeep D deep) (tooMany M ahead)).2.1 ((hd s (tooDeep D deep) (tooMany M ahead)).2.1 + (hd s (tooDeep D deep) (tooMany M ahead)).2.2.1)) (deep + 1) (ahead + 1)).items, 0⟩
def rdS (D M : Int) : Nat → ByteArray → Nat → Nat → Rds
 | 0, _, _, _ => Rds.bad 2
 | f + 1, s, deep, ahead =>
  if s.size = 0 then ⟨[], 0, 0⟩
  else if (rdI D M f s deep ahead).e ≠ 0 then Rds.bad (within (rdI D M f s deep ahead).e)
  else if (rdS D M f (s.extract (rdI D M f s deep ahead).size s.size) deep (ahead + (rdI D M f s deep ahead).items)).e ≠ 0
   then Rds.bad (rdS D M f (s.extract (rdI D M f s deep ahead).size s.size) deep (ahead + (rdI D M f s deep ahead).items)).e
  else ⟨(rdI D M f s deep ahead).x :: (rdS D M f (s.extract (rdI D M f s deep ahead).size s.size) deep (ahead + (rdI D M f s deep ahead).items)).xs,
   (rdI D M f s deep ahead).items + (rdS D M f (s.extract (rdI D M f s deep ahead).size s.size) deep (ahead + (rdI D M f s deep ahead).items)).items, 0⟩
end
theorem rdI_size (D M : Int) (f : Nat) (s : ByteArray) (deep ahead : Nat) (h : (rdI D M f s deep ahead).e = 0) : 1 ≤ (rdI D M f s deep ahead).size ∧ (rdI D M f s deep ahead).size ≤ s.size := by
 cases f with
 | zero => simp [rdI, Rd.bad] at h
 | succ f =>
  rw [rdI] at h ⊢
  have hk := hd_ok s (tooDeep D deep) (tooMany M ahead)
  generalize hd s (tooDeep D deep) (tooMany M ahead) = H at *
  by_cases h1 : H.2.2.2 ≠ 0
  ·rw [if_pos h1] at h; exact absurd h h1
  rw [if_neg h1] at h ⊢
  have hk := hk (Decidable.not_not.1 h1)
  by_cases h2 : H.1 = false
  ·rw [if_pos h2]; dsimp only; omega
  rw [if_neg h2] at h ⊢
  split at h
  ·rename_i h3; exact absurd h h3
  ·rename_i h3; rw [if_neg h3]; dsimp only; omega
theorem rd_fuel (D M : Int) : ∀ (z : Nat), (∀ (s : ByteArray) (deep ahead f g : Nat), s.size ≤ z → 2 * s.size ≤ f → 2 * s.size ≤ g → rdI D M f s deep ahead = rdI D M g s deep ahead) ∧
 (∀ (s : ByteArray) (deep ahead f g : Nat), s.size ≤ z → 2 * s.size + 1 ≤ f → 2 * s.size + 1 ≤ g → rdS D M f s deep ahead = rdS D M g s deep ahead) := by
 intro z
 induction z with
 | zero =>
  refine ⟨fun s deep ahead f g hz _ _ => ?_, fun s deep ahead f g hz hf hg => ?_⟩
  ·have h0 : s.size = 0 := by omega
   have hh : ∀ d m, hd s d m = (false, 0, 0, 2) := fun d m => by simp [hd, h0]
   have : ∀ f, rdI D M f s deep ahead = Rd.bad 2 := by
    intro f
    cases f with
    | zero => rfl
    | succ f => rw [rdI]; simp [hh]
   rw [this f, this g]
  ·obtain ⟨f, rfl⟩ : ∃ k, f = k + 1 := ⟨f - 1, by omega⟩
   obtain ⟨g, rfl⟩ : ∃ k, g = k + 1 := ⟨g - 1, by omega⟩
   rw [rdS, rdS, if_pos (by omega), if_pos (by omega)]
 | succ z ih =>
  obtain ⟨ihI, ihS⟩ := ih
  have hI : ∀ (s : ByteArray) (deep ahead f g : Nat), s.size ≤ z + 1 → 2 * s.size ≤ f → 2 * s.size ≤ g → rdI D M f s deep ahead = rdI D M g s deep ahead := by
   intro s deep ahead f g hz hf hg
   by_cases h0 : s.size = 0
   ·exact ihI s deep ahead f g (by omega) hf hg
   obtain ⟨f, rfl⟩ : ∃ k, f = k + 1 := ⟨f - 1, by omega⟩
   obtain ⟨g, rfl⟩ : ∃ k, g = k + 1 := ⟨g - 1, by omega⟩
   rw [rdI, rdI]
   have hk := hd_ok s (tooDeep D deep) (tooMany M ahead)
   generalize hd s (tooDeep D deep) (tooMany M ahead) = H at *
   by_cases h1 : H.2.2.2 ≠ 0
   ·rw [if_pos h1, if_pos h1]
   have hk := hk (Decidable.not_not.1 h1)
   by_cases h2 : H.1 = false
   ·rw [if_neg h1, if_neg h1, if_pos h2, if_pos h2]
   have hl := hk.2.2.2 (by simpa using h2)
   have hz' : (s.extract H.2.1 (H.2.1 + H.2.2.1)).size = H.2.2.1 := by rw [size_cut _ _ _ hk.2.1]; omega
   rw [ihS (s.extract H.2.1 (H.2.1 + H.2.2.1)) (deep + 1) (ahead + 1) f g (by omega) (by omega) (by omega)]
  refine ⟨hI, fun s deep ahead f g hz hf hg => ?_⟩
  by_cases h0 : s.size = 0
  ·exact ihS s deep ahead f g (by omega) hf hg
  obtain ⟨f, rfl⟩ : ∃ k, f = k + 1 := ⟨f - 1, by omega⟩
  obtain ⟨g, rfl⟩ : ∃ k, g = k + 1 := ⟨g - 1, by omega⟩
  rw [rdS, rdS, if_neg h0, if_neg h0, hI s deep ahead f g hz (by omega) (by omega)]
  have hk := rdI_size D M g s deep ahead
  generalize rdI D M g s deep ahead = R at *
  by_cases h1 : R.e ≠ 0
  ·rw [if_pos h1, if_pos h1]
  have hk := hk (Decidable.not_not.1 h1)
  have hz' : (s.extract R.size s.size).size = s.size - R.size := size_cut _ _ _ (Nat.le_refl _)
  rw [ihS (s.extract R.size s.size) deep (ahead + R.items) f g (by omega) (by omega) (by omega)]
def rdItem (D M : Int) (s : ByteArray) (deep ahead : Nat) : Rd := rdI D M (2 * s.size + 2) s deep ahead
def rdSeq (D M : Int) (s : ByteArray) (deep ahead : Nat) : Rds := rdS D M (2 * s.size + 1) s deep ahead
theorem rdItem_eq (D M : Int) (s : ByteArray) (deep ahead : Nat) (H : Bool × Nat × Nat × Int) (hH : hd s (tooDeep D deep) (tooMany M ahead) = H) : rdItem D M s deep ahead =
 if H.2.2.2 ≠ 0 then Rd.bad H.2.2.2
 else if H.1 = false then ⟨.mk (s.extract H.2.1 (H.2.1 + H.2.2.1)) false [], H.2.1 + H.2.2.1, 1, 0⟩
 else if (rdSeq D M (s.extract H.2.1 (H.2.1 + H.2.2.1)) (deep + 1) (ahead + 1)).e ≠ 0 then Rd.bad (rdSeq D M (s.extract H.2.1 (H.2.1 + H.2.2.1)) (deep + 1) (ahead + 1)).e
 else ⟨.mk ByteArray.empty true (rdSeq D M (s.extract H.2.1 (H.2.1 + H.2.2.1)) (deep + 1) (ahead + 1)).xs, H.2.1 + H.2.2.1, 1 + (rdSeq D M (s.extract H.2.1 (H.2.1 + H.2.2.1)) (deep + 1) (ahead + 1)).items, 0⟩ := by
 subst hH
 rw [rdItem, rdI]
 have hk := hd_ok s (tooDeep D deep) (tooMany M ahead)
 generalize hd s (tooDeep D deep) (tooMany M ahead) = H at *
 by_cases h1 : H.2.2.2 ≠ 0
 ·rw [if_pos h1, if_pos h1]
 have hk := hk (Decidable.not_not.1 h1)
 by_cases h2 : H.1 = false
 ·rw [if_neg h1, if_neg h1, if_pos h2, if_pos h2]
 have hz' : (s.extract H.2.1 (H.2.1 + H.2.2.1)).size = H.2.2.1 := by rw [size_cut _ _ _ hk.2.1]; omega
 rw [rdSeq, (rd_fuel D M s.size).2 (s.extract H.2.1 (H.2.1 + H.2.2.1)) (deep + 1) (ahead + 1) (2 * s.size + 1) (2 * (s.extract H.2.1 (H.2.1 + H.2.2.1)).size + 1) (by omega) (by omega) (by omega)]
theorem rdSeq_nil (D M : Int) (s : ByteArray) (deep ahead : Nat) (h : s.size = 0) : rdSeq D M s deep ahead = ⟨[], 0, 0⟩ := by rw [rdSeq, rdS, if_pos h]
theorem rdSeq_cons (D M : Int) (s : ByteArray) (deep ahead : Nat) (h : s.size ≠ 0) (R : Rd) (hR : rdItem D M s deep ahead = R) : rdSeq D M s deep ahead =
 if R.e ≠ 0 then Rds.bad (within R.e)
 else if (rdSeq D M (s.extract R.size s.size) deep (ahead + R.items)).e ≠ 0 then Rds.bad (rdSeq D M (s.extract R.size s.size) deep (ahead + R.items)).e
 else ⟨R.x :: (rdSeq D M (s.extract R.size s.size) deep (ahead + R.items)).xs, R.items + (rdSeq D M (s.extract R.size s.size) deep (ahead + R.items)).items, 0⟩ := by
 subst hR
 rw [rdSeq, rdS, if_neg h, rdItem, (rd_fuel D M s.size).1 s deep ahead (2 * s.size) (2 * s.size + 2) (by omega) (by omega) (by omega)]
 have hk := rdI_size D M (2 * s.size + 2) s deep ahead
 generalize rdI D M (2 * s.size + 2) s deep ahead = R at *
 by_cases h1 : R.e ≠ 0
 ·rw [if_pos h1, if_pos h1]
 have hk := hk (Decidable.not_not.1 h1)
 have hz' : (s.extract R.size s.size).size = s.size - R.size := size_cut _ _ _ (Nat.le_refl _)
 rw [rdSeq, (rd_fuel D M s.size).2 (s.extract R.size s.size) deep (ahead + R.items) (2 * s.size) (2 * (s.extract R.size s.size).size + 1) (by omega) (by omega) (by omega)]
mutual
def It.lay : It → Ty → List UInt8
 | .mk tx _ s, t => if t.kind = 1 then leD (beL tx.data.toList) t.size.toNat else if t.kind = 2 then tx.data.toList else if t.kind = 3 then cpPut tx.size ++ tx.data.toList
  else if t.kind = 4 then cpPut s.length ++ layL s t 0 else layL s t 0
def layL : List It → Ty → Nat → List UInt8
 | [], _, _ => []
 | x :: xs, t, i => x.lay (t.at i) ++ layL xs t (i + 1)
end
theorem layL_append (a b : List It) (t : Ty) (i : Nat) : layL (a ++ b) t i = layL a t i ++ layL b t (i + a.length) := by
 induction a generalizing i with
 | nil => simp [layL]
 | cons x xs ih => simp only [List.cons_append, layL, ih, List.length_cons, List.append_assoc]; rw [show i + 1 + xs.length = i + (xs.length + 1) from by omega]
theorem layL_take {s : List It} {k : Nat} {t : Ty} (h : k < s.length) : layL (s.take (k + 1)) t 0 = layL (s.take k) t 0 ++ s[k].lay (t.at k) := by
 rw [take_succ_it s k h, layL_append]; simp [layL, Nat.min_eq_left (Nat.le_of_lt h)]
mutual
def Ty.full : Ty → Bool
 | .mk _ _ l t => decide (t = 0) && fullL l
def fullL : List Ty → Bool
 | [] => true
 | x :: xs => x.full && fullL xs
end
def Ty.flat (t : Ty) : Bool := t.may && fullL t.sub
structure RdY where
 e : Int
 x : It
 n : Nat
 q : List UInt8
structure RdS where
 e : Int
 xs : List It
 n : Nat
 q : List UInt8
def RdY.bad (e : Int) (n : Nat) (q : List UInt8) : RdY := ⟨e, noIt, n, q⟩
def RdS.cons (x : It) (r : RdS) : RdS := ⟨r.e, x :: r.xs, r.n, r.q⟩
def RdS.list (r : RdS) : RdY := ⟨r.e, .mk ⟨#[]⟩ true r.xs, r.n, r.q⟩
def rdN (f : Nat → List UInt8 → RdY) : Nat → Nat → List UInt8 → RdS
 | 0, n, r => ⟨0, [], n, r⟩
 | c + 1, n, r => if (f n r).e ≠ 0 then ⟨(f n r).e, [(f n r).x], (f n r).n, (f n r).q⟩ else (rdN f c (f n r).n (f n r).q).cons (f n r).x
mutual
def Ty.rd (M : Int) : Ty → Nat → List UInt8 → RdY
 | .mk k z l ta, n, r =>
  if M ≤ n then .bad 4 n r
  else if k = 1 then (if r.length < z.toNat then .bad 2 (n + 1) r else ⟨0, .mk ⟨(minL (leL (r.take z.toNat))).toArray⟩ false [], n + 1, r.drop z.toNat⟩)
  else if k = 2 then (if r.length < z.toNat then .bad 2 (n + 1) r else ⟨0, .mk ⟨(r.take z.toNat).toArray⟩ false [], n + 1, r.drop z.toNat⟩)
  else if k = 3 then
   (if (cpNext r).2.2 ≠ 0 then .bad (cpNext r).2.2 (n + 1) r else if z < (cpNext r).1 then .bad 5 (n + 1) r
   else if (r.drop (cpNext r).2.1).length < (cpNext r).1 then .bad 2 (n + 1) (r.drop (cpNext r).2.1)
   else ⟨0, .mk ⟨((r.drop (cpNext r).2.1).take (cpNext r).1).toArray⟩ false [], n + 1, (r.drop (cpNext r).2.1).drop (cpNext r).1⟩)
  else if k = 4 then
   (if (cpNext r).2.2 ≠ 0 then .bad (cpNext r).2.2 (n + 1) r else if z < (cpNext r).1 then .bad 5 (n + 1) r
   else (rdF M l (cpNext r).1 (n + 1) (r.drop (cpNext r).2.1)).list)
  else (rdT M l ((l.length : Int) - ta).toNat (n + 1) r).list
def rdF (M : Int) : List Ty → Nat → Nat → List UInt8 → RdS
 | [], _, n, r => ⟨0, [], n, r⟩
 | x :: _, c, n, r => rdN (fun n r => x.rd M n r) c n r
def rdT (M : Int) : List Ty → Nat → Nat → List UInt8 → RdS
 | [], _, n, r => ⟨0, [], n, r⟩
 | x :: xs, m, n, r => if m = 0 ∧ r = [] then ⟨0, [], n, r⟩
  else if (x.rd M n r).e ≠ 0 then ⟨(x.rd M n r).e, [(x.rd M n r).x], (x.rd M n r).n, (x.rd M n r).q⟩
  else (rdT M xs (m - 1) (x.rd M n r).n (x.rd M n r).q).cons (x.rd M n r).x
end
theorem right_parts {tx : ByteArray} {l : Bool} {s : List It} (h : (It.mk tx l s).right = true) : formed tx l s.length = true ∧ rightL s = true := by
 simpa only [It.right, Bool.and_eq_true] using h
theorem is1_one {z : Int} {l : List Ty} {ta : Int} {tx : ByteArray} {b : Bool} {m : Nat} (h : is1 (.mk 1 z l ta) tx b m = true) : b = false ∧ (tx.size : Int) ≤ z ∧ lead0 tx.data.toList = false := by
 simp [is1] at h; exact ⟨h.1.1, of_decide_eq_true h.1.2, h.2⟩
theorem is1_two {z : Int} {l : List Ty} {ta : Int} {tx : ByteArray} {b : Bool} {m : Nat} (h : is1 (.mk 2 z l ta) tx b m = true) : b = false ∧ (tx.size : Int) = z := by
 simp [is1] at h; exact ⟨h.1, of_decide_eq_true h.2⟩
theorem is1_three {z : Int} {l : List Ty} {ta : Int} {tx : ByteArray} {b : Bool} {m : Nat} (h : is1 (.mk 3 z l ta) tx b m = true) : b = false ∧ (tx.size : Int) ≤ z := by
 simp [is1] at h; exact ⟨h.1, of_decide_eq_true h.2⟩
theorem is1_four {z : Int} {l : List Ty} {ta : Int} {tx : ByteArray} {b : Bool} {m : Nat} (h : is1 (.mk 4 z l ta) tx b m = true) : b = true ∧ (m : Int) ≤ z := by
 simp [is1] at h; exact ⟨h.1, of_decide_eq_true h.2⟩
theorem is1_five {z : Int} {l : List Ty} {ta : Int} {tx : ByteArray} {b : Bool} {m : Nat} (h : is1 (.mk 5 z l ta) tx b m = true) : b = true ∧ m ≤ l.length ∧ (l.length : Int) - ta ≤ m := by
 simp [is1] at h; exact ⟨h.1.1, of_decide_eq_true h.1.2, of_decide_eq_true h.2⟩
theorem lay_one (tx : ByteArray) (b : Bool) (s : List It) (z : Int) (l : List Ty) (ta : Int) : (It.mk tx b s).lay (.mk 1 z l ta) = leD (beL tx.data.toList) z.toNat := rfl
theorem lay_two (tx : ByteArray) (b : Bool) (s : List It) (z : Int) (l : List Ty) (ta : Int) : (It.mk tx b s).lay (.mk 2 z l ta) = tx.data.toList := rfl
theorem lay_three (tx : ByteArray) (b : Bool) (s : List It) (z : Int) (l : List Ty) (ta : Int) : (It.mk tx b s).lay (.mk 3 z l ta) = cpPut tx.size ++ tx.data.toList := rfl
theorem lay_four (tx : ByteArray) (b : Bool) (s : List It) (z : Int) (l : List Ty) (ta : Int) : (It.mk tx b s).lay (.mk 4 z l ta) = cpPut s.length ++ layL s (.mk 4 z l ta) 0 := rfl
theorem lay_five (tx : ByteArray) (b : Bool) (s : List It) (z : Int) (l : List Ty) (ta : Int) : (It.mk tx b s).lay (.mk 5 z l ta) = layL s (.mk 5 z l ta) 0 := rfl
theorem rd_many {M : Int} {n : Nat} (h : M ≤ n) (t : Ty) (r : List UInt8) : t.rd M n r = .bad 4 n r := by obtain ⟨k, z, l, ta⟩ := t; rw [Ty.rd, if_pos h]
theorem rd_one {M : Int} {n : Nat} (h : ¬ M ≤ n) (z : Int) (l : List Ty) (ta : Int) (r : List UInt8) : (Ty.mk 1 z l ta).rd M n r = if r.length < z.toNat then .bad 2 (n + 1) r else ⟨0, .mk ⟨(minL (leL (r.take z.toNat))).toArray⟩ false [], n + 1, r.drop z.toNat⟩ := by rw [Ty.rd, if_neg h]; rfl
theorem rd_two {M : Int} {n : Nat} (h : ¬ M ≤ n) (z : Int) (l : List Ty) (ta : Int) (r : List UInt8) : (Ty.mk 2 z l ta).rd M n r = if r.length < z.toNat then .bad 2 (n + 1) r else ⟨0, .mk ⟨(r.take z.toNat).toArray⟩ false [], n + 1, r.drop z.toNat⟩ := by rw [Ty.rd, if_neg h]; rfl
theorem rd_three {M : Int} {n : Nat} (h : ¬ M ≤ n) (z : Int) (l : List Ty) (ta : Int) (r : List UInt8) : (Ty.mk 3 z l ta).rd M n r = if (cpNext r).2.2 ≠ 0 then .bad (cpNext r).2.2 (n + 1) r else if z < (cpNext r).1 then .bad 5 (n + 1) r
 else if (r.drop (cpNext r).2.1).length < (cpNext r).1 then .bad 2 (n + 1) (r.drop (cpNext r).2.1)
 else ⟨0, .mk ⟨((r.drop (cpNext r).2.1).take (cpNext r).1).toArray⟩ false [], n + 1, (r.drop (cpNext r).2.1).drop (cpNext r).1⟩ := by rw [Ty.rd, if_neg h]; rfl
theorem rd_four {M : Int} {n : Nat} (h : ¬ M ≤ n) (z : Int) (l : List Ty) (ta : Int) (r : List UInt8) : (Ty.mk 4 z l ta).rd M n r = if (cpNext r).2.2 ≠ 0 then .bad (cpNext r).2.2 (n + 1) r else if z < (cpNext r).1 then .bad 5 (n + 1) r
 else (rdF M l (cpNext r).1 (n + 1) (r.drop (cpNext r).2.1)).list := by rw [Ty.rd, if_neg h]; rfl
theorem rd_five {M : Int} {n : Nat} (h : ¬ M ≤ n) (z : Int) (l : List Ty) (ta : Int) (r : List UInt8) : (Ty.mk 5 z l ta).rd M n r = (rdT M l ((l.length : Int) - ta).toNat (n + 1) r).list := by rw [Ty.rd, if_neg h]; rfl
theorem isOfL_at : ∀ (s : List It) (t : Ty) (i : Nat), isOfL s t i = true → ∀ j (h : j < s.length), (s[j]).isOf (t.at (i + j)) = true
 | [], _, _, _, j, h => by simp at h
 | x :: xs, t, i, hi, 0, h => by simp only [isOfL, Bool.and_eq_true] at hi; simpa using hi.1
 | x :: xs, t, i, hi, j + 1, h => by
  simp only [isOfL, Bool.and_eq_true] at hi
  have := isOfL_at xs t (i + 1) hi.2 j (by simpa using h)
  rw [show i + (j + 1) = i + 1 + j from by omega]
  simpa using this
def lyPutE (t : Ty) (x : It) (M : Int) : Int := if t.flat = false then 1 else if fitE t x ≠ 0 then fitE t x else if M < x.count then 4 else 0
def lyPut (t : Ty) (x : It) (M : Int) : ByteArray × Int := if lyPutE t x M = 0 then (⟨(x.lay t).toArray⟩, 0) else (⟨#[]⟩, lyPutE t x M)
def lyRd (t : Ty) (s : ByteArray) (M : Int) : RdY := t.rd (min M 1024) 0 s.data.toList
def lyNext (t : Ty) (s : ByteArray) (M : Int) : Int × It × Nat := if t.flat = false then (1, noIt, 0) else if (lyRd t s M).e ≠ 0 then ((lyRd t s M).e, noIt, 0) else (0, (lyRd t s M).x, s.size - (lyRd t s M).q.length)
def lyGet (t : Ty) (s : ByteArray) (M : Int) : Int × It := if (lyNext t s M).1 ≠ 0 then ((lyNext t s M).1, noIt) else if (lyNext t s M).2.2 < s.size then (3, noIt) else (0, (lyNext t s M).2.1)
theorem flat_parts {t : Ty} (h : t.flat = true) : t.may = true ∧ t.right = true ∧ t.count ≤ 64 ∧ t.deep ≤ 8 ∧ fullL t.sub = true := by
 simp only [Ty.flat, Bool.and_eq_true] at h
 obtain ⟨h1, h2, h3⟩ := ty_may h.1
 exact ⟨h.1, h3, h1, h2, h.2⟩
theorem fit_parts {t : Ty} {x : It} (h : fitE t x = 0) : t.may = true ∧ x.may = true ∧ x.isOf t = true := by
 unfold fitE at h
 cases h1 : t.may <;> cases h2 : x.may <;> cases h3 : x.isOf t <;> simp_all
theorem mayIt_parts {x : It} (h : x.may = true) : x.right = true ∧ x.deep ≤ 16 ∧ x.count ≤ 1024 := by
 simpa only [It.may, Bool.and_eq_true, decide_eq_true_eq, and_assoc] using h
def listIt (xs : List It) : It := .mk ByteArray.empty true xs
def fin (D M : Int) (s : ByteArray) : List It → Nat → List (List It × Nat) → Nat → Nat → Rd
 | acc, en, [], at_, count =>
  if (rdSeq D M (s.extract at_ en) 2 count).e ≠ 0 then Rd.bad (rdSeq D M (s.extract at_ en) 2 count).e
  else ⟨listIt (acc ++ (rdSeq D M (s.extract at_ en) 2 count).xs), en, count + (rdSeq D M (s.extract at_ en) 2 count).items, 0⟩
 | acc, en, f :: rest, at_, count =>
  if (rdSeq D M (s.extract at_ en) (rest.length + 3) count).e ≠ 0 then Rd.bad (rdSeq D M (s.extract at_ en) (rest.length + 3) count).e
  else fin D M s (f.1 ++ [listIt (acc ++ (rdSeq D M (s.extract at_ en) (rest.length + 3) count).xs)]) f.2 rest en (count + (rdSeq D M (s.extract at_ en) (rest.length + 3) count).items)
def finR (D M : Int) (s : ByteArray) (acc : List It) (en : Nat) (rest : List (List It × Nat)) (count : Nat) (R : Rds) : Rd :=
 if R.e ≠ 0 then Rd.bad R.e
 else match rest with
  | [] => ⟨listIt (acc ++ R.xs), en, count + R.items, 0⟩
  | f :: rest => fin D M s (f.1 ++ [listIt (acc ++ R.xs)]) f.2 rest en (count + R.items)
theorem fin_eq (D M : Int) (s : ByteArray) (acc : List It) (en : Nat) (rest : List (List It × Nat)) (at_ count : Nat) : fin D M s acc en rest at_ count = finR D M s acc en rest count (rdSeq D M (s.extract at_ en) (rest.length + 2) count) := by
 cases rest with
 | nil => rw [fin]; rfl
 | cons f rest => rw [fin]; rfl
theorem cut_in (s : ByteArray) (a b i j : Nat) (hj : a + j ≤ b) : (s.extract a b).extract i j = s.extract (a + i) (a + j) := by
 apply bytes_ext
 rw [toList_cut, toList_cut, toList_cut, List.take_drop, List.drop_drop, List.take_take, Nat.min_eq_left (by omega)]
theorem finR_cons (D M : Int) (s : ByteArray) (acc : List It) (en : Nat) (rest : List (List It × Nat)) (count k : Nat) (x : It) (R R' : Rds) (h : R = (if R'.e ≠ 0 then Rds.bad R'.e else ⟨x :: R'.xs, k + R'.items, 0⟩)) :
 finR D M s acc en rest count R = finR D M s (acc ++ [x]) en rest (count + k) R' := by
 subst h
 unfold finR
 by_cases h1 : R'.e ≠ 0
 ·rw [if_pos h1, if_pos h1, if_pos (by exact h1)]; rfl
 ·rw [if_neg h1, if_neg h1, if_neg (by simp)]
  cases rest with
  | nil => simp [Nat.add_assoc]
  | cons f rest => simp [Nat.add_assoc]
theorem rdSeq_ne2 (D M : Int) : ∀ (z : Nat) (s : ByteArray) (deep ahead : Nat), s.size ≤ z → (rdSeq D M s deep ahead).e ≠ 2 := by
 intro z
 induction z with
 | zero => intro s deep ahead h; rw [rdSeq_nil _ _ _ _ _ (by omega)]; simp
 | succ z ih =>
  intro s deep ahead h
  by_cases h0 : s.size = 0
  ·rw [rdSeq_nil _ _ _ _ _ h0]; simp
  rw [rdSeq_cons D M s deep ahead h0 _ rfl]
  have hk := rdI_size D M (2 * s.size + 2) s deep ahead
  change (rdItem D M s deep ahead).e = 0 → 1 ≤ (rdItem D M s deep ahead).size ∧ (rdItem D M s deep ahead).size ≤ s.size at hk
  generalize rdItem D M s deep ahead = R at *
  by_cases h1 : R.e ≠ 0
  ·rw [if_pos h1]
   show within R.e ≠ 2
   unfold within; split <;> omega
  rw [if_neg h1]
  have hk := hk (Decidable.not_not.1 h1)
  have hz' : (s.extract R.size s.size).size = s.size - R.size := size_cut _ _ _ (Nat.le_refl _)
  have hn := ih (s.extract R.size s.size) deep (ahead + R.items) (by omega)
  split
  ·exact hn
  ·simp
theorem fin_err (D M : Int) (s : ByteArray) (acc : List It) (en : Nat) (rest : List (List It × Nat)) (at_ count : Nat) (hlt : at_ < en) (hen : en ≤ s.size) (H : Bool × Nat × Nat × Int)
 (hH : hd (s.extract at_ en) (tooDeep D (rest.length + 2)) (tooMany M count) = H) (he : H.2.2.2 ≠ 0) : fin D M s acc en rest at_ count = Rd.bad (within H.2.2.2) := by
 have hz : (s.extract at_ en).size = en - at_ := size_cut _ _ _ hen
 have hw : within H.2.2.2 ≠ 0 := by unfold within; split <;> simp_all
 rw [fin_eq, rdSeq_cons D M _ _ _ (by omega) _ rfl, rdItem_eq D M _ _ _ H hH, if_pos he, if_pos (show (Rd.bad H.2.2.2).e ≠ 0 from he)]
 unfold finR
 rw [if_pos (show (Rds.bad (within (Rd.bad H.2.2.2).e)).e ≠ 0 from hw)]; rfl
theorem fin_text (D M : Int) (s : ByteArray) (acc : List It) (en : Nat) (rest : List (List It × Nat)) (at_ count : Nat) (hlt : at_ < en) (hen : en ≤ s.size) (H : Bool × Nat × Nat × Int)
 (hH : hd (s.extract at_ en) (tooDeep D (rest.length + 2)) (tooMany M count) = H) (he : H.2.2.2 = 0) (hl : H.1 = false) :
 fin D M s acc en rest at_ count = fin D M s (acc ++ [.mk (s.extract (at_ + H.2.1) (at_ + H.2.1 + H.2.2.1)) false []]) en rest (at_ + H.2.1 + H.2.2.1) (count + 1) ∧ at_ + H.2.1 + H.2.2.1 ≤ en := by
 have hz : (s.extract at_ en).size = en - at_ := size_cut _ _ _ hen
 have hk := hd_ok (s.extract at_ en) (tooDeep D (rest.length + 2)) (tooMany M count)
 rw [hH] at hk
 have hk := hk he
 refine ⟨?_, by omega⟩
 have hI : rdItem D M (s.extract at_ en) (rest.length + 2) count = ⟨.mk ((s.extract at_ en).extract H.2.1 (H.2.1 + H.2.2.1)) false [], H.2.1 + H.2.2.1, 1, 0⟩ := by
  rw [rdItem_eq D M _ _ _ H hH, if_neg (show ¬ H.2.2.2 ≠ 0 by simp [he]), if_pos hl]
 rw [fin_eq, fin_eq]
 refine finR_cons D M s acc en rest count 1 _ _ _ ?_
 rw [rdSeq_cons D M _ _ _ (by omega) _ hI]
 dsimp only
 rw [if_neg (by simp), hz, cut_in s at_ en _ _ (by omega), cut_in s at_ en _ _ (by omega), show at_ + (en - at_) = en from by omega, Nat.add_assoc]
theorem fin_list (D M : Int) (s : ByteArray) (acc : List It) (en : Nat) (rest : List (List It × Nat)) (at_ count : Nat) (hlt : at_ < en) (hen : en ≤ s.size) (H : Bool × Nat × Nat × Int)
 (hH : hd (s.extract at_ en) (tooDeep D (rest.length + 2)) (tooMany M count) = H) (he : H.2.2.2 = 0) (hl : H.1 = true) :
 fin D M s acc en rest at_ count = fin D M s [] (at_ + H.2.1 + H.2.2.1) ((acc, en) :: rest) (at_ + H.2.1) (count + 1) ∧ at_ + H.2.1 + H.2.2.1 ≤ en ∧ 1 ≤ H.2.1 := by
 have hz : (s.extract at_ en).size = en - at_ := size_cut _ _ _ hen
 have hk := hd_ok (s.extract at_ en) (tooDeep D (rest.length + 2)) (tooMany M count)
 rw [hH] at hk
 have hk := hk he
 refine ⟨?_, by omega, hk.2.2.2 hl⟩
 have hI := rdItem_eq D M (s.extract at_ en) (rest.length + 2) count H hH
 rw [if_neg (show ¬ H.2.2.2 ≠ 0 by simp [he]), if_neg (show ¬ H.1 = false by simp [hl]), cut_in s at_ en _ _ (by omega), ← Nat.add_assoc, show rest.length + 2 + 1 = rest.length + 3 from by omega] at hI
 rw [fin_eq, rdSeq_cons D M _ _ _ (by omega) _ hI, fin]
 have hne := rdSeq_ne2 D M (s.extract (at_ + H.2.1) (at_ + H.2.1 + H.2.2.1)).size (s.extract (at_ + H.2.1) (at_ + H.2.1 + H.2.2.1)) (rest.length + 3) (count + 1) (Nat.le_refl _)
 generalize rdSeq D M (s.extract (at_ + H.2.1) (at_ + H.2.1 + H.2.2.1)) (rest.length + 3) (count + 1) = R at *
 by_cases h1 : R.e ≠ 0
 ·have hw : within R.e ≠ 0 := by unfold within; split <;> simp_all
  have he2 : within R.e = R.e := by unfold within; rw [if_neg hne]
  rw [if_pos h1, if_pos (show (Rd.bad R.e).e ≠ 0 from h1)]
  unfold finR
  rw [if_pos (show (Rds.bad (within (Rd.bad R.e).e)).e ≠ 0 from hw)]
  show Rd.bad (within R.e) = _
  rw [he2, if_pos h1]
 ·rw [if_neg h1]
  dsimp only
  rw [if_neg (by simp), fin_eq, hz, cut_in s at_ en _ _ (by omega), show at_ + (en - at_) = en from by omega, ← Nat.add_assoc]
  refine (finR_cons D M s acc en rest count (1 + R.items) (listIt R.xs) _ _ rfl).trans ?_
  rw [if_neg h1]
  simp [listIt, Nat.add_assoc]
theorem fin_close (D M : Int) (s : ByteArray) (acc : List It) (en : Nat) (f : List It × Nat) (rest : List (List It × Nat)) (count : Nat) (hen : en ≤ s.size) : fin D M s acc en (f :: rest) en count = fin D M s (f.1 ++ [listIt acc]) f.2 rest en count := by
 rw [fin, rdSeq_nil _ _ _ _ _ (by rw [size_cut _ _ _ hen]; omega)]
 simp
theorem fin_done (D M : Int) (s : ByteArray) (acc : List It) (en : Nat) (count : Nat) (hen : en ≤ s.size) : fin D M s acc en [] en count = ⟨listIt acc, en, count, 0⟩ := by
 rw [fin, rdSeq_nil _ _ _ _ _ (by rw [size_cut _ _ _ hen]; omega)]
 simp
theorem fin_first (D M : Int) (s : ByteArray) (H : Bool × Nat × Nat × Int) (hH : hd s (tooDeep D 1) (tooMany M 0) = H) :
 (H.2.2.2 ≠ 0 → rdItem D M s 1 0 = Rd.bad H.2.2.2) ∧ (H.2.2.2 = 0 → H.1 = false → rdItem D M s 1 0 = ⟨.mk (s.extract H.2.1 (H.2.1 + H.2.2.1)) false [], H.2.1 + H.2.2.1, 1, 0⟩) ∧
 (H.2.2.2 = 0 → H.1 = true → rdItem D M s 1 0 = fin D M s [] (H.2.1 + H.2.2.1) [] H.2.1 1) := by
 refine ⟨fun h => ?_, fun h hl => ?_, fun h hl => ?_⟩
 ·rw [rdItem_eq D M s 1 0 H hH, if_pos h]
 ·rw [rdItem_eq D M s 1 0 H hH, if_neg (by simp [h]), if_pos hl]
 ·rw [rdItem_eq D M s 1 0 H hH, if_neg (by simp [h]), if_neg (by simp [hl]), fin]
  simp only [Nat.zero_add]
  split
  ·rfl
  ·simp [listIt]
theorem rHead_length (b n : Nat) : (rHead b n).length = if n ≤ 55 then 1 else 1 + (minL n).length := by unfold rHead; split <;> simp; omega
theorem hd_is (s : ByteArray) (d m : Bool) (h : (hd s d m).2.2.2 = 0) : 0 < s.size ∧ d = false ∧ m = false ∧ hd s d m = hdR s := by
 unfold hd at h ⊢
 by_cases h0 : s.size = 0
 ·rw [if_pos h0] at h; simp at h
 rw [if_neg h0] at h ⊢
 by_cases h1 : d = true
 ·rw [if_pos h1] at h; simp at h
 rw [if_neg h1] at h ⊢
 by_cases h2 : m = true
 ·rw [if_pos h2] at h; simp at h
 rw [if_neg h2]
 exact ⟨by omega, by simpa using h1, by simpa using h2, rfl⟩
theorem tooMany_no {M : Int} {ahead : Nat} : tooMany M ahead = false ↔ (ahead : Int) + 1 ≤ M ∧ ahead + 1 ≤ 1024 := by simp [tooMany]
def getE (D M : Int) (s : ByteArray) : Int := if (rdItem D M s 1 0).e ≠ 0 then (rdItem D M s 1 0).e else if (rdItem D M s 1 0).size < s.size then 3 else 0
def getX (D M : Int) (s : ByteArray) : It := if getE D M s ≠ 0 then noIt else (rdItem D M s 1 0).x
theorem capsE_zero (x : It) (D M : Int) : capsE x D M = 0 ↔ x.may = true ∧ (x.deep : Int) ≤ D ∧ (x.count : Int) ≤ M := by
 unfold capsE
 cases x.may <;> simp
 split
 ·simp; omega
 ·split
  ·simp; omega
  ·simp; omega
theorem fitE_zero (ty : Ty) (x : It) : fitE ty x = 0 ↔ ty.may = true ∧ x.may = true ∧ x.isOf ty = true := by
 unfold fitE
 cases ty.may <;> cases x.may <;> cases x.isOf ty <;> simp
def tPutE (ty : Ty) (x : It) (D M : Int) : Int := if fitE ty x ≠ 0 then fitE ty x else capsE x D M
def tGetE (ty : Ty) (s : ByteArray) (D M : Int) : Int := if ty.may = false then 1 else if getE D M s ≠ 0 then getE D M s else fitE ty (getX D M s)
def tGetX (ty : Ty) (s : ByteArray) (D M : Int) : It := if tGetE ty s D M ≠ 0 then noIt else getX D M s
theorem tPutE_zero (ty : Ty) (x : It) (D M : Int) : tPutE ty x D M = 0 ↔ fitE ty x = 0 ∧ capsE x D M = 0 := by
 unfold tPutE
 split <;> simp_all
theorem tGetE_zero (ty : Ty) (s : ByteArray) (D M : Int) : tGetE ty s D M = 0 ↔ ty.may = true ∧ getE D M s = 0 ∧ fitE ty (getX D M s) = 0 := by
 unfold tGetE
 cases ty.may
 ·simp
 ·simp only [Bool.true_eq_false, if_false, true_and]
  split <;> simp_all
structure Ent where
 id : Nat
 name : ByteArray
 ty : ByteArray
def Ent.shape (e : Ent) : Ty := (readTy e.ty.data.toList).getD (.mk 0 0 [] 0)
def entE (c : Cfg) (seen : List Ent) (e : Ent) : Int :=
 if nmMay e.name = false then 11 else if (seen.any fun x => decide (x.name = e.name)) = true then 11 else if (seen.any fun x => decide (x.id = e.id)) = true then 1
 else if readTy e.ty.data.toList = none then 3 else if c.fm = 1 ∧ e.shape.flat = false then 12 else 0
def entsE (c : Cfg) : List Ent → List Ent → Int
 | _, [] => 0
 | seen, e :: r => if entE c seen e ≠ 0 then entE c seen e else entsE c (seen ++ [e]) r
def rgE (c : Cfg) (l : List Ent) : Int := if c.right = false then 1 else if 32 < l.length then 4 else entsE c [] l
def byName (l : List Ent) (nm : ByteArray) : Option Ent := l.find? fun e => decide (e.name = nm)
def frIs (c : Cfg) (f : Fr) (e : Ent) : Bool := (decide (c.fm = 1) && decide (f.nm = e.name) && decide (f.id = 0)) || (decide (c.fm ≠ 1) && decide (f.id = e.id) && decide (f.nm.size = 0))
def byFrame (c : Cfg) (l : List Ent) (f : Fr) : Option Ent := l.find? (frIs c f)
def rgPut (c : Cfg) (t : Ty) (x : It) : ByteArray × Int := if c.fm = 1 then lyPut t x c.it else (if tPutE t x c.de c.it = 0 then ⟨x.rlp.toArray⟩ else ⟨#[]⟩, tPutE t x c.de c.it)
def rgGet (c : Cfg) (t : Ty) (s : ByteArray) : Int × It := if c.fm = 1 then lyGet t s c.it else (tGetE t s c.de c.it, tGetX t s c.de c.it)
def rgEnc (c : Cfg) (l : List Ent) (nm : ByteArray) (x : It) : Fr × Int := match byName l nm with
 | none => (noFr, 11)
 | some e => if (rgPut c e.shape x).2 ≠ 0 then (noFr, (rgPut c e.shape x).2) else if c.fm = 1 then (⟨0, e.name, (rgPut c e.shape x).1⟩, 0) else (⟨e.id, ByteArray.empty, (rgPut c e.shape x).1⟩, 0)
structure Ms where
 name : ByteArray
 x : It
def noMs : Ms := ⟨ByteArray.empty, noIt⟩
def rgDec (c : Cfg) (l : List Ent) (f : Fr) : Int × Ms := match byFrame c l f with
 | none => (11, noMs)
 | some e => if (rgGet c e.shape f.body).1 = 0 then (0, ⟨e.name, (rgGet c e.shape f.body).2⟩) else if (rgGet c e.shape f.body).1 = 2 then (3, noMs) else ((rgGet c e.shape f.body).1, noMs)
structure EntsOk (c : Cfg) (l : List Ent) : Prop where
 may : ∀ e ∈ l, nmMay e.name = true
 ty : ∀ e ∈ l, readTy e.ty.data.toList = some e.shape
 flat : c.fm = 1 → ∀ e ∈ l, e.shape.flat = true
 names : ∀ i j (hi : i < l.length) (hj : j < l.length), l[i].name = l[j].name → i = j
 ids : ∀ i j (hi : i < l.length) (hj : j < l.length), l[i].id = l[j].id → i = j
theorem EntsOk.nil (c : Cfg) : EntsOk c [] := ⟨by simp, by simp, by simp, by simp, by simp⟩
theorem entE_zero {c : Cfg} {seen : List Ent} {e : Ent} (h : entE c seen e = 0) : nmMay e.name = true ∧ (∀ x ∈ seen, x.name ≠ e.name) ∧ (∀ x ∈ seen, x.id ≠ e.id) ∧ readTy e.ty.data.toList = some e.shape ∧ (c.fm = 1 → e.shape.flat = true) := by
 unfold entE at h
 by_cases h1 : nmMay e.name = false
 ·rw [if_pos h1] at h; cases h
 rw [if_neg h1] at h
 by_cases h2 : (seen.any fun x => decide (x.name = e.name)) = true
 ·rw [if_pos h2] at h; cases h
 rw [if_neg h2] at h
 by_cases h3 : (seen.any fun x => decide (x.id = e.id)) = true
 ·rw [if_pos h3] at h; cases h
 rw [if_neg h3] at h
 by_cases h4 : readTy e.ty.data.toList = none
 ·rw [if_pos h4] at h; cases h
 rw [if_neg h4] at h
 by_cases h5 : c.fm = 1 ∧ e.shape.flat = false
 ·rw [if_pos h5] at h; cases h
 refine ⟨by simpa using h1, fun x hx he => h2 (List.any_eq_true.2 ⟨x, hx, decide_eq_true he⟩), fun x hx he => h3 (List.any_eq_true.2 ⟨x, hx, decide_eq_true he⟩), ?_, fun hc => ?_⟩
 ·obtain ⟨t, ht⟩ := Option.ne_none_iff_exists'.1 h4
  unfold Ent.shape; rw [ht]; rfl
 ·cases hf : e.shape.flat with
  | true => rfl
  | false => exact absurd ⟨hc, hf⟩ h5
theorem EntsOk.snoc {c : Cfg} {l : List Ent} {e : Ent} (h : EntsOk c l) (he : entE c l e = 0) : EntsOk c (l ++ [e]) := by
 obtain ⟨h1, h2, h3, h4, h5⟩ := entE_zero he
 have key : ∀ {α : Type} (f : Ent → α), (∀ x ∈ l, f x ≠ f e) → (∀ i j (hi : i < l.length) (hj : j < l.length), f l[i] = f l[j] → i = j) → ∀ i j (hi : i < (l ++ [e]).length) (hj : j < (l ++ [e]).length), f (l ++ [e])[i] = f (l ++ [e])[j] → i = j := by
  intro α f hne hin i j hi hj heq
  simp only [List.length_append, List.length_singleton] at hi hj
  by_cases hi2 : i < l.length
  ·rw [List.getElem_append_left hi2] at heq
   by_cases hj2 : j < l.length
   ·rw [List.getElem_append_left hj2] at heq
    exact hin i j hi2 hj2 heq
   ·obtain rfl : j = l.length := by omega
    rw [List.getElem_concat_length rfl] at heq
    exact absurd heq (hne _ (List.getElem_mem hi2))
  ·obtain rfl : i = l.length := by omega
   rw [List.getElem_concat_length rfl] at heq
   by_cases hj2 : j < l.length
   ·rw [List.getElem_append_left hj2] at heq
    exact absurd heq.symm (hne _ (List.getElem_mem hj2))
   ·omega
 refine ⟨fun x hx => ?_, fun x hx => ?_, fun hc x hx => ?_, key (·.name) h2 h.names, key (·.id) h3 h.ids⟩
 ·rcases List.mem_append.1 hx with hx | hx
  ·exact h.may x hx
  ·obtain rfl := List.mem_singleton.1 hx; exact h1
 ·rcases List.mem_append.1 hx with hx | hx
  ·exact h.ty x hx
  ·obtain rfl := List.mem_singleton.1 hx; exact h4
 ·rcases List.mem_append.1 hx with hx | hx
  ·exact h.flat hc x hx
  ·obtain rfl := List.mem_singleton.1 hx; exact h5 hc
theorem entsE_ok {c : Cfg} : ∀ (r seen : List Ent), EntsOk c seen → entsE c seen r = 0 → EntsOk c (seen ++ r)
 | [], seen, h, _ => by simpa using h
 | e :: r, seen, h, hz => by
  rw [entsE] at hz
  by_cases he : entE c seen e = 0
  ·rw [if_neg (by simp [he])] at hz
   have := entsE_ok r (seen ++ [e]) (h.snoc he) hz
   rwa [List.append_assoc, List.singleton_append] at this
  ·rw [if_pos he] at hz; exact absurd hz he
theorem rg_ok {c : Cfg} {l : List Ent} (h : rgE c l = 0) : c.right = true ∧ l.length ≤ 32 ∧ EntsOk c l := by
 unfold rgE at h
 cases hr : c.right with
 | false => rw [if_pos hr] at h; cases h
 | true =>
  rw [if_neg (by simp [hr])] at h
  by_cases hl : 32 < l.length
  ·rw [if_pos hl] at h; cases h
  rw [if_neg hl] at h
  exact ⟨rfl, by omega, by simpa using entsE_ok l [] (EntsOk.nil c) h⟩
end Go.Proofs.YtnfpgadegpmhkaaGreatDoor
