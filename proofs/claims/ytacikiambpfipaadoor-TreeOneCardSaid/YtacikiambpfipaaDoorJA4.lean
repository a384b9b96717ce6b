/- Values as trees: plain laws. No program in sight. -/
/- Types in memory: four cells (kind, size, the slice of the types within, tail). Own text; no program in sight. -/
/- The document's number of bytes, the highest first. -/
/- Appending to a Buf inside a region that draws its order; small words for literals. Own text; no program in sight. -/
import Derived.Test.YtacikiambpfipaaDoorJRlpRP
import Derived.Test.YtacikiambpfipaaDoorJA3
import Derived.Test.YtacikiambpfipaaDoorJTypedP
import Derived.Test.YtacikiambpfipaaDoorJA1
import Derived.Test.YtacikiambpfipaaDoorJWords
import Derived.Test.YtacikiambpfipaaDoorJTyP
import Derived.Test.YtacikiambpfipaaDoorProg
import Derived.Test.YtacikiambpfipaaDoorJA2
import Derived.WalkSpells
import Derived.Test.YtacikiambpfipaaDoorJBuf
import Derived.Deep.RegionLaw
namespace Go.Proofs.YtacikiambpfipaaDoor
set_option linter.unusedVariables false
set_option linter.unusedSimpArgs false

theorem rHead_le (b n : Nat) (h : n < 18446744073709551616) : (rHead b n).length ≤ 9 := by
  rw [rHead_length]
  have := minL_length 8 n (by simpa using h)
  split <;> omega
theorem rlpL_total (s : List It) (ih : ∀ x ∈ s, x.total + 9 * x.count < 1099511627776 → x.rlp.length ≤ x.total + 9 * x.count) : totalL s + 9 * countL s < 1099511627776 → (rlpL s).length ≤ totalL s + 9 * countL s := by
  induction s with
  | nil => simp [rlpL]
  | cons x xs hxs =>
    intro h
    simp only [totalL, countL] at h
    have h1 := ih x (by simp) (by omega)
    have h2 := hxs (fun y hy => ih y (by simp [hy])) (by omega)
    simp only [rlpL, totalL, countL, List.length_append]
    omega
theorem rlp_total (x : It) : x.total + 9 * x.count < 1099511627776 → x.rlp.length ≤ x.total + 9 * x.count := by
  induction x using It.ind with
  | h t l s ih =>
    intro h
    simp only [It.total, It.count] at h
    have h1 := rlpL_total s ih (by omega)
    rw [It.rlp]
    simp only [It.total, It.count]
    by_cases hl : l = true
    · rw [if_pos hl, List.length_append]
      have := rHead_le 192 (rlpL s).length (by omega)
      omega
    rw [if_neg hl]
    split
    · have : t.data.toList.length = t.size := toList_size t
      omega
    · rw [List.length_append]
      have := rHead_le 128 t.size (by omega)
      have : t.data.toList.length = t.size := toList_size t
      omega
theorem great_rlp (x : It) (h : x.great = false) : x.rlp.length ≤ 20000 := by
  have h1 := great_count x h
  have h3 := bulk_total x
  simp only [It.great, Bool.or_eq_false_iff, decide_eq_false_iff_not] at h
  have h2 := rlp_total x (by omega)
  omega
theorem great_count62 (x : It) (h : x.great = false) : x.count ≤ 4611686018427387904 := by
  have := great_count x h
  omega
/-- What Get of rlp tells, by the caps: the error; the item is (rdItem D M s 1 0).x. -/
def getE (D M : Int) (s : ByteArray) : Int := if (rdItem D M s 1 0).e ≠ 0 then (rdItem D M s 1 0).e else if (rdItem D M s 1 0).size < s.size then 3 else 0
def getX (D M : Int) (s : ByteArray) : It := if getE D M s ≠ 0 then noIt else (rdItem D M s 1 0).x
theorem may_parts (x : It) : x.may = true ↔ x.right = true ∧ x.deep ≤ 16 ∧ x.count ≤ 1024 := by
  simp only [It.may, Bool.and_eq_true, decide_eq_true_eq, and_assoc]
theorem capsE_zero (x : It) (D M : Int) : capsE x D M = 0 ↔ x.may = true ∧ (x.deep : Int) ≤ D ∧ (x.count : Int) ≤ M := by
  unfold capsE
  cases x.may <;> simp
  split
  · simp; omega
  · split
    · simp; omega
    · simp; omega
/-- What is put is got. -/
theorem getE_put (D M : Int) (x : It) (h : capsE x D M = 0) (s : ByteArray) (hs : s.data.toList = x.rlp) (hz : s.size < 18446744073709551616) : getE D M s = 0 ∧ getX D M s = x := by
  rw [capsE_zero, may_parts] at h
  obtain ⟨⟨h1, h2, h3⟩, h4, h5⟩ := h
  have hr := rd_put' D M x s [] 1 0 (by simpa using hs) hz h1 (by omega) (by omega) (by omega) (by omega)
  have hl : s.size = x.rlp.length := by rw [← hs, toList_size]
  have he : getE D M s = 0 := by
    unfold getE
    rw [hr]; simp; omega
  refine ⟨he, ?_⟩
  unfold getX
  rw [if_neg (by simp [he]), hr]
/-- What is got is put. -/
theorem put_getE (D M : Int) (s : ByteArray) (h : getE D M s = 0) : capsE (getX D M s) D M = 0 ∧ (getX D M s).rlp = s.data.toList := by
  have hx : getX D M s = (rdItem D M s 1 0).x := by unfold getX; rw [if_neg (by simp [h])]
  rw [hx]
  unfold getE at h
  have hb := (rd_back D M s.size).1 s 1 0 (Nat.le_refl _)
  generalize rdItem D M s 1 0 = R at *
  by_cases h1 : R.e ≠ 0
  · rw [if_pos h1] at h; exact absurd h h1
  rw [if_neg h1] at h
  have hb := hb (Decidable.not_not.1 h1)
  have h2 : ¬ R.size < s.size := by intro h2; rw [if_pos h2] at h; simp at h
  have h3 : s.data.toList.length = s.size := toList_size s
  refine ⟨?_, ?_⟩
  · rw [capsE_zero, may_parts]
    have a1 := hb.deepD
    have a2 := hb.deep16
    have a3 := hb.manyM
    have a4 := hb.many
    exact ⟨⟨hb.right, by omega, by omega⟩, by omega, by omega⟩
  · rw [hb.rlp, List.take_of_length_le (by omega)]
/-- Two that may be have the same bytes only if they are the same. -/
theorem rlp_inj (x y : It) (hx : x.may = true) (hy : y.may = true) (hl : x.rlp.length < 18446744073709551616) (h : x.rlp = y.rlp) : x = y := by
  have e1 : (⟨x.rlp.toArray⟩ : ByteArray).data.toList = x.rlp := by simp
  have hz : (⟨x.rlp.toArray⟩ : ByteArray).size < 18446744073709551616 := by rw [← toList_size, e1]; exact hl
  rw [may_parts] at hx hy
  have c1 : capsE x 16 1024 = 0 := by rw [capsE_zero, may_parts]; exact ⟨hx, by omega, by omega⟩
  have c2 : capsE y 16 1024 = 0 := by rw [capsE_zero, may_parts]; exact ⟨hy, by omega, by omega⟩
  have g1 := (getE_put 16 1024 x c1 _ e1 hz).2
  have g2 := (getE_put 16 1024 y c2 _ (e1.trans h) hz).2
  exact g1.symm.trans g2
theorem fitE_zero (ty : Ty) (x : It) : fitE ty x = 0 ↔ ty.may = true ∧ x.may = true ∧ x.isOf ty = true := by
  unfold fitE
  cases ty.may <;> cases x.may <;> cases x.isOf ty <;> simp
/-- The error of Put, of Get. -/
def tPutE (ty : Ty) (x : It) (D M : Int) : Int := if fitE ty x ≠ 0 then fitE ty x else capsE x D M
def tGetE (ty : Ty) (s : ByteArray) (D M : Int) : Int := if ty.may = false then 1 else if getE D M s ≠ 0 then getE D M s else fitE ty (getX D M s)
theorem tPutE_zero (ty : Ty) (x : It) (D M : Int) : tPutE ty x D M = 0 ↔ fitE ty x = 0 ∧ capsE x D M = 0 := by
  unfold tPutE
  split <;> simp_all
theorem tGetE_zero (ty : Ty) (s : ByteArray) (D M : Int) : tGetE ty s D M = 0 ↔ ty.may = true ∧ getE D M s = 0 ∧ fitE ty (getX D M s) = 0 := by
  unfold tGetE
  cases ty.may
  · simp
  · simp only [Bool.true_eq_false, if_false, true_and]
    split <;> simp_all
theorem tree_put_get (ty : Ty) (x : It) (D M : Int) (h : tPutE ty x D M = 0) (s : ByteArray) (hs : s.data.toList = x.rlp) (hz : s.size < 18446744073709551616) : tGetE ty s D M = 0 ∧ getX D M s = x := by
  rw [tPutE_zero] at h
  obtain ⟨h1, h2⟩ := getE_put D M x h.2 s hs hz
  rw [tGetE_zero, h2]
  exact ⟨⟨((fitE_zero ty x).1 h.1).1, h1, h.1⟩, rfl⟩
theorem tree_get_put (ty : Ty) (s : ByteArray) (D M : Int) (h : tGetE ty s D M = 0) : tPutE ty (getX D M s) D M = 0 ∧ (getX D M s).rlp = s.data.toList := by
  rw [tGetE_zero] at h
  obtain ⟨h1, h2⟩ := put_getE D M s h.2.1
  rw [tPutE_zero]
  exact ⟨⟨h.2.2, h1⟩, h2⟩
end Go.Proofs.YtacikiambpfipaaDoor
namespace Go.Proofs.YtacikiambpfipaaDoor
set_option linter.unusedVariables false
set_option linter.unusedSimpArgs false
open Go.RowKit

def okI (i : Int) : Prop := -9223372036854775808 ≤ i ∧ i ≤ 9223372036854775807

mutual
/-- The four cells are the type x, whose lists lie below block B. -/
def TyIn (w : World) (B : Nat) : Ty → Value → Value → Value → Value → Prop
  | .mk k s l t, c0, c1, c2, c3 => c0 = .int .i64 k ∧ c1 = .int .i64 s ∧ c3 = .int .i64 t ∧ okI k ∧ okI s ∧ okI t ∧ l.length ≤ 9223372036854775807 ∧ ∃ A cap, c2 = .slice A l.length cap ∧ l.length ≤ cap ∧ cap ≤ 9223372036854775807 ∧ TysIn w B l A 0
/-- From place i on the slice at A holds these types. -/
def TysIn (w : World) (B : Nat) : List Ty → Option Addr → Nat → Prop
  | [], _, _ => True
  | x :: xs, A, i => (∃ b o c0 c1 c2 c3, A = some ⟨b, o, none⟩ ∧ b < B ∧ w.cell? ⟨b, o + i * 4, none⟩ = some c0 ∧ w.cell? ⟨b, o + i * 4 + 1, none⟩ = some c1 ∧ w.cell? ⟨b, o + i * 4 + 2, none⟩ = some c2 ∧ w.cell? ⟨b, o + i * 4 + 3, none⟩ = some c3 ∧ TyIn w B x c0 c1 c2 c3) ∧ TysIn w B xs A (i + 1)
end
theorem TysIn.at_ {w : World} {B : Nat} {A : Option Addr} : ∀ {s : List Ty} {i : Nat}, TysIn w B s A i → ∀ (j : Nat) (h : j < s.length), ∃ b o c0 c1 c2 c3, A = some ⟨b, o, none⟩ ∧ b < B ∧ w.cell? ⟨b, o + (i + j) * 4, none⟩ = some c0 ∧ w.cell? ⟨b, o + (i + j) * 4 + 1, none⟩ = some c1 ∧ w.cell? ⟨b, o + (i + j) * 4 + 2, none⟩ = some c2 ∧ w.cell? ⟨b, o + (i + j) * 4 + 3, none⟩ = some c3 ∧ TyIn w B s[j] c0 c1 c2 c3
  | [], _, _, j, h => by simp at h
  | x :: xs, i, hi, 0, _ => by simpa [TysIn] using hi.1
  | x :: xs, i, hi, j + 1, h => by
    have := TysIn.at_ hi.2 j (by simpa using h)
    rw [show i + 1 + j = i + (j + 1) from by omega] at this
    simpa using this
theorem TysIn.mk_ {w : World} {B : Nat} {A : Option Addr} : ∀ {s : List Ty} {i : Nat}, (∀ (j : Nat) (h : j < s.length), ∃ b o c0 c1 c2 c3, A = some ⟨b, o, none⟩ ∧ b < B ∧ w.cell? ⟨b, o + (i + j) * 4, none⟩ = some c0 ∧ w.cell? ⟨b, o + (i + j) * 4 + 1, none⟩ = some c1 ∧ w.cell? ⟨b, o + (i + j) * 4 + 2, none⟩ = some c2 ∧ w.cell? ⟨b, o + (i + j) * 4 + 3, none⟩ = some c3 ∧ TyIn w B s[j] c0 c1 c2 c3) → TysIn w B s A i
  | [], _, _ => by simp [TysIn]
  | x :: xs, i, h => by
    refine ⟨h 0 (Nat.zero_lt_succ _), TysIn.mk_ fun j hj => ?_⟩
    have := h (j + 1) (by simpa using hj)
    rw [show i + (j + 1) = i + 1 + j from by omega] at this
    simpa using this
/-- What the four cells of a type look like. -/
theorem TyIn.open_ {w : World} {B : Nat} {x : Ty} {c0 c1 c2 c3 : Value} (h : TyIn w B x c0 c1 c2 c3) : ∃ A cap, c0 = .int .i64 x.kind ∧ c1 = .int .i64 x.size ∧ c2 = .slice A x.sub.length cap ∧ c3 = .int .i64 x.tail ∧ okI x.kind ∧ okI x.size ∧ okI x.tail ∧ x.sub.length ≤ cap ∧ cap ≤ 9223372036854775807 ∧ TysIn w B x.sub A 0 := by
  cases x with
  | mk k s l t =>
    obtain ⟨h0, h1, h3, hk, hs, ht, hl, A, cap, h2, hc, hm, h4⟩ := h
    exact ⟨A, cap, h0, h1, h2, h3, hk, hs, ht, hc, hm, h4⟩
theorem TyIn.keep {w w' : World} {B B' : Nat} (hB : B ≤ B') (hk : ∀ p : Addr, p.block < B → w'.cell? p = w.cell? p) : ∀ (x : Ty) {c0 c1 c2 c3 : Value}, TyIn w B x c0 c1 c2 c3 → TyIn w' B' x c0 c1 c2 c3 := by
  intro x
  induction x using Ty.ind with
  | h k s l t ih =>
    intro c0 c1 c2 c3 h
    obtain ⟨h0, h1, h3, hk', hs, ht, hl, A, cap, h2, hc, hm, h4⟩ := h
    refine ⟨h0, h1, h3, hk', hs, ht, hl, A, cap, h2, hc, hm, TysIn.mk_ fun j hj => ?_⟩
    obtain ⟨b, o, d0, d1, d2, d3, hA, hb, e0, e1, e2, e3, hi⟩ := h4.at_ j hj
    exact ⟨b, o, d0, d1, d2, d3, hA, by omega, (hk _ hb).trans e0, (hk _ hb).trans e1, (hk _ hb).trans e2, (hk _ hb).trans e3, ih _ (List.getElem_mem hj) hi⟩
theorem TyIn.below {w w' : World} {B : Nat} {x : Ty} {c0 c1 c2 c3 : Value} (h : TyIn w B x c0 c1 c2 c3) (hb : Below B w w') : TyIn w' B x c0 c1 c2 c3 := TyIn.keep (Nat.le_refl _) (fun _ hp => hb.cell hp) x h
theorem TyIn.mono {w : World} {B B' : Nat} {x : Ty} {c0 c1 c2 c3 : Value} (h : TyIn w B x c0 c1 c2 c3) (hB : B ≤ B') : TyIn w B' x c0 c1 c2 c3 := TyIn.keep hB (fun _ _ => rfl) x h
theorem TysIn.keep {w w' : World} {B B' : Nat} (hB : B ≤ B') (hk : ∀ p : Addr, p.block < B → w'.cell? p = w.cell? p) {s : List Ty} {A : Option Addr} {i : Nat} (h : TysIn w B s A i) : TysIn w' B' s A i := TysIn.mk_ fun j hj => by
  obtain ⟨b, o, d0, d1, d2, d3, hA, hlt, e0, e1, e2, e3, hi⟩ := h.at_ j hj
  exact ⟨b, o, d0, d1, d2, d3, hA, by omega, (hk _ hlt).trans e0, (hk _ hlt).trans e1, (hk _ hlt).trans e2, (hk _ hlt).trans e3, hi.keep hB hk⟩
theorem TysIn.below {w w' : World} {B i : Nat} {s : List Ty} {A : Option Addr} (h : TysIn w B s A i) (hb : Below B w w') : TysIn w' B s A i := h.keep (Nat.le_refl _) (fun _ hp => hb.cell hp)
/-- A block of four cells that is known whole. -/
theorem blk4 {w : World} {g : Nat} {t : TypeId} {a b c d : Value} (h : Blk w g t #[a, b, c, d]) : w.cell? ⟨g, 0, none⟩ = some a ∧ w.cell? ⟨g, 1, none⟩ = some b ∧ w.cell? ⟨g, 2, none⟩ = some c ∧ w.cell? ⟨g, 3, none⟩ = some d ∧ w.frozen? ⟨g, 0, none⟩ = false ∧ w.frozen? ⟨g, 1, none⟩ = false ∧ w.frozen? ⟨g, 2, none⟩ = false ∧ w.frozen? ⟨g, 3, none⟩ = false :=
  ⟨h.cell 0, h.cell 1, h.cell 2, h.cell 3, h.frozen 0, h.frozen 1, h.frozen 2, h.frozen 3⟩
/-- The box of a call's argument, behind a call that changed nothing below. -/
theorem box4 {w w' : World} {t : TypeId} {a b c d : Value} (hb : Below (w.heap.size + 1) (w.alloc (.cells #[a, b, c, d] t)) w') : w'.cell? ⟨w.heap.size, 0, none⟩ = some a ∧ w'.cell? ⟨w.heap.size, 1, none⟩ = some b ∧ w'.cell? ⟨w.heap.size, 2, none⟩ = some c ∧ w'.cell? ⟨w.heap.size, 3, none⟩ = some d := by
  have h0 := Blk.new w t #[a, b, c, d]
  have h : Blk w' w.heap.size t #[a, b, c, d] := (hb.block _ (by omega)).trans h0
  exact ⟨h.cell 0, h.cell 1, h.cell 2, h.cell 3⟩
end Go.Proofs.YtacikiambpfipaaDoor
namespace Go.Proofs.YtacikiambpfipaaDoor
set_option linter.unusedVariables false
set_option linter.unusedSimpArgs false
open Go.RowKit

theorem ret2_num {a : Int} {b c : Nat} (h : a = (b : Int)) (h' : b = c) : Ending.returned (.tuple #[.int .u64 a, .int .i64 0]) = .returned (.tuple #[.int .u64 c, .int .i64 0]) := by
  subst h; subst h'; rfl

set_option maxRecDepth 100000 in
set_option maxHeartbeats 1000000 in
theorem refNumber_c (s : ByteArray) (w : World) (h8 : s.size ≤ 8) :
    Calls Tryd.prog 68 #[.string s] w fun e w' => e = .returned (.int .u64 (beL s.data.toList)) ∧ w = w' := by
  go_enter Tryd.func68, Tryd.ntmps68
  go_wp2
  go_loop [3, 4] (fun n i => ∃ k m : Nat, k ≤ s.size ∧ Hid (m = beL (s.data.toList.take k)) ∧ n = .int .u64 m ∧ i = .int .i64 k) (fun _ i => s.size - (intOf i).toNat)
  case atStart => exact ⟨0, 0, by omega, rfl, rfl, rfl⟩
  case round =>
    obtain ⟨k, m, hk, hm, rfl, rfl⟩ := hrel
    by_cases hlt : k < s.size
    · go_wp2
      go_round
      case rel =>
        have hb := s[k].toNat_lt
        have hn := beL_lt (s.data.toList.take (k + 1))
        rw [length_take s (k + 1) (by omega), take_snoc s k hlt, beL_snoc, ← hm.out] at hn
        have hp := le_pow (k + 1) (by omega)
        refine ⟨k + 1, _, by omega, Lib.hid rfl, ?_, by go_num⟩
        rw [take_snoc s k hlt, beL_snoc, ← hm.out, IntWalk.u64_in (256 * (m : Int)) (by omega), IntWalk.u64_in (s[k].toNat : Int) (by omega), IntWalk.u64_in _ (by omega)]
        go_num
      case measure => simp [intOf]; omega
    · go_wp2
      go_ret
      exact ⟨by show Ending.returned (.int .u64 m) = _; rw [hm.out, List.take_of_length_le (by simp; omega)], rfl⟩
end Go.Proofs.YtacikiambpfipaaDoor
namespace Go.Proofs.YtacikiambpfipaaDoor
set_option linter.unusedVariables false
set_option linter.unusedSimpArgs false
open Go.RowKit

theorem wp_append_buf {P : Program} {w : World} {o : Oper} {a : Act} {K : Act → World → Prop} {Q : Exit → Act → World → Prop} (s x : Operand) (t tx : TypeId)
    (ho : o.op = .call { callee := .builtin .append, args := #[s, x], argTypes := #[t, tx] }) (base : Nat) (E : TypeId) (i : TypeInfo) (ht : P.underlying t = some (.slice E)) (hi : P.info? E = some i) (hz : i.zero = some (.int .u8 0)) (h1 : i.size = 1) (hby : i.bytes = 1)
    {v : Value} {l : List UInt8} (hv : a.eval s = v) (h : Buf w base E v l) (xv : Value) (m : List UInt8) (hx : a.eval x = xv) (hs : Src P 1 tx xv m.length (cb m) w) (hb : base ≤ w.heap.size) (hlen : l.length + m.length ≤ 140737488355328)
    (hK : ∀ (A' : Option Addr) (n' cap' : Nat) w', Buf w' base E (.slice A' n' cap') (l ++ m) → Kept E base w w' → K (a.put o.dst (.slice A' n' cap')) w') : Oper.wp P o a w K Q := by
  obtain ⟨v', w', hrun, r1, r2⟩ := h.append (P := P) t tx o.type i ht hi hz h1 hby xv m hs hb hlen
  obtain ⟨A', cap', hv', _⟩ := r1.form
  unfold Oper.wp
  simp [execOp, ho, resolve, invoke, builtin, hv, hx, hrun, Result.andThen]
  subst hv'
  exact hK _ _ _ w' r1 r2
/-- At a step of a region that draws its order. -/
theorem step_append_buf {P : Program} {w : World} {ops : Array Oper} {o : Oper} {a : Act} {K : Act → World → Prop} {Q : Exit → Act → World → Prop} {E' : Prop} (hgd : o.guard = none) (s x : Operand) (t tx : TypeId)
    (ho : o.op = .call { callee := .builtin .append, args := #[s, x], argTypes := #[t, tx] }) (base : Nat) (E : TypeId) (i : TypeInfo) (ht : P.underlying t = some (.slice E)) (hi : P.info? E = some i) (hz : i.zero = some (.int .u8 0)) (h1 : i.size = 1) (hby : i.bytes = 1)
    {v : Value} {l : List UInt8} (hv : a.eval s = v) (h : Buf w base E v l) (xv : Value) (m : List UInt8) (hx : a.eval x = xv) (hs : Src P 1 tx xv m.length (cb m) w) (hb : base ≤ w.heap.size) (hlen : l.length + m.length ≤ 140737488355328)
    (hK : ∀ (A' : Option Addr) (n' cap' : Nat) w', Buf w' base E (.slice A' n' cap') (l ++ m) → Kept E base w w' → K (a.put o.dst (.slice A' n' cap')) w') :
    if Region.wanted o (yielded ops a.tmps) = true then Oper.wp P o a w K Q else E' := by
  have hw : Region.wanted o (yielded ops a.tmps) = true := by simp [Region.wanted, hgd]
  rw [if_pos hw]
  exact wp_append_buf s x t tx ho base E i ht hi hz h1 hby hv h xv m hx hs hb hlen hK
theorem src_lit {P : Program} {tx e' : TypeId} (hk : P.underlying tx = some (.slice e')) (w : World) (E : TypeId) (cs : Array Value) (m : List UInt8) (c g : Nat) (hg : g = w.heap.size) (hcs : cs.toList = cb m) : Src P 1 tx (.slice (some ⟨g, 0, none⟩) m.length c) m.length (cb m) (w.alloc (.cells cs E)) := by
  subst hg; exact src_new hk w E cs m c hcs
theorem src_litD {P : Program} {tx e' : TypeId} (hk : P.underlying tx = some (.slice e')) (w : World) (E : TypeId) (cs : Array Value) (m : List UInt8) (c g : Nat) (hg : g = w.heap.size) (hcs : cs.toList = cb m) : Src P 1 tx (.slice (some ⟨g, 0, none⟩) m.length c) m.length (cb m) (w.alloc (.cells cs E)).drew := by
  subst hg
  exact Src.ofSlice _ hk _ _ _ _ (by rw [cb_length, Nat.mul_one]) (fun j u hu => show (w.alloc (.cells cs E)).cell? _ = _ from World.news_of_block (heap_alloc_new w (.cells cs E)) j u (by rw [← hcs] at hu; simpa using hu)) (cb_one m)
theorem Buf.form' {w : World} {base : Nat} {E : TypeId} {v : Value} {l : List UInt8} (h : Buf w base E v l) : ∃ A n cap, v = .slice A n cap ∧ Hid (n = l.length) ∧ n ≤ cap ∧ cap ≤ 9223372036854775807 := by
  obtain ⟨A, cap, h1, h2, h3⟩ := h.form
  exact ⟨A, _, cap, h1, Lib.hid rfl, h2, h3⟩
theorem Blk.kept {E : TypeId} {base g : Nat} {w w' : World} {t : TypeId} {cs : Array Value} (h : Blk w g t cs) (hk : Kept E base w w') (hne : t ≠ E) : Blk w' g t cs := hk.other g _ h (by
  intro c f e; injection e with _ e2; exact hne e2)
theorem Blk.keep {w w' : World} {g B : Nat} {t : TypeId} {cs : Array Value} (h : Blk w g t cs) (hb : Below B w w') (hg : g < B) : Blk w' g t cs := (hb.block g hg).trans h
theorem blk3 {w : World} {g : Nat} {t : TypeId} {a b c : Value} (h : Blk w g t #[a, b, c]) : w.cell? ⟨g, 0, none⟩ = some a ∧ w.cell? ⟨g, 1, none⟩ = some b ∧ w.cell? ⟨g, 2, none⟩ = some c ∧ w.frozen? ⟨g, 0, none⟩ = false ∧ w.frozen? ⟨g, 1, none⟩ = false ∧ w.frozen? ⟨g, 2, none⟩ = false :=
  ⟨h.cell 0, h.cell 1, h.cell 2, h.frozen 0, h.frozen 1, h.frozen 2⟩
end Go.Proofs.YtacikiambpfipaaDoor
