/- Package typed: Fits, whole. -/
/- slices.Reverse of bytes, fixed.turned, fixed.Big. -/
/- bits.Len64 and leb.Size. -/
/- The document's least bytes. -/
/- The cells of a slice of items. Own text. -/
import Derived.Test.YtacikiambpfipaaDoorJTypedF
import Derived.Test.YtacikiambpfipaaDoorJA3
import Derived.Test.YtacikiambpfipaaDoorProg
import Derived.Test.YtacikiambpfipaaDoorJWords
import Derived.WalkSpells
import Derived.Shelf.Strconv.Itoa0
import Derived.Test.YtacikiambpfipaaDoorJA1
namespace Go.Proofs.YtacikiambpfipaaDoor
set_option linter.unusedVariables false
set_option linter.unusedSimpArgs false
open Go.RowKit

set_option maxRecDepth 100000 in
set_option maxHeartbeats 1600000 in
theorem fits_c (ty : Ty) (x : It) (B : Nat) (w : World) (t0 t1 t2 t3 c0 c1 c2 : Value) (hT : TyIn w B ty t0 t1 t2 t3) (hI : ItIn w B x c0 c1 c2) (hB : B ≤ w.heap.size) (hL : Laid w) :
    Calls Tryd.prog 43 #[.agg #[t0, t1, t2, t3], .agg #[c0, c1, c2]] w fun e w' => e = .returned (.int .i64 (fitE ty x)) ∧ Below w.heap.size w w' := by
  have hpos := hL.pos
  obtain ⟨W0, hW0⟩ : ∃ W0, (w.alloc (.cells #[t0, t1, t2, t3] 24)).alloc (.cells #[c0, c1, c2] 27) = W0 := ⟨_, rfl⟩
  have hb0 : Below w.heap.size w W0 := by rw [← hW0]; exact ((Below.refl _ w).alloc (Nat.le_refl _) _).alloc (by simp) _
  have hz0 : W0.heap.size = w.heap.size + 2 := by rw [← hW0]; simp
  have m1 : Blk W0 w.heap.size 24 #[t0, t1, t2, t3] := by rw [← hW0]; exact (Blk.new w _ _).alloc _
  have m2 : Blk W0 (w.heap.size + 1) 27 #[c0, c1, c2] := by rw [← hW0]; have := Blk.new (w.alloc (.cells #[t0, t1, t2, t3] 24)) 27 #[c0, c1, c2]; simpa using this
  have HC1 := Lib.hid (schemaMay_c ty B W0 t0 t1 t2 t3 (hT.below (hb0.mono hB)) (by omega) (hL.below hb0 hpos))
  have HC2 : Hid (∀ V, Below (w.heap.size + 2) W0 V → Calls Tryd.prog 97 #[.agg #[c0, c1, c2]] V fun e w' => e = .returned (.bool x.may) ∧ Below V.heap.size V w') := Lib.hid (fun V hV => may_c x B V c0 c1 c2 ((hI.below (hb0.mono hB)).below (hV.mono (by omega))) (by have := hV.size; omega))
  have HM1 := Lib.hid m1
  have HM2 := Lib.hid m2
  have HB0 := Lib.hid hb0
  have HT := Lib.hid hT
  have HI := Lib.hid hI
  have HW0 := Lib.hid hW0
  obtain ⟨a, ha⟩ : ∃ a, ty.may = a := ⟨_, rfl⟩
  obtain ⟨b, hb⟩ : ∃ b, x.may = b := ⟨_, rfl⟩
  obtain ⟨c, hc⟩ : ∃ c, x.isOf ty = c := ⟨_, rfl⟩
  have HE : Hid (fitE ty x = if a && b then (if c then 0 else 12) else 1) := Lib.hid (by rw [fitE, ha, hb, hc])
  have HA := Lib.hid ha
  have HBB := Lib.hid hb
  have HCC := Lib.hid hc
  rw [ha] at HC1
  rw [hb] at HC2
  obtain ⟨A, cap, rfl, rfl, rfl, rfl, _⟩ := hT.open_
  obtain ⟨A', cap', rfl, rfl, rfl, _⟩ := hI.open_
  generalize fitE ty x = R at *
  generalize ty.kind = ki at *
  generalize ty.size = si at *
  generalize ty.tail = ta at *
  clear ha hb hc hT hI hW0 m1 m2
  cases a with
  | false =>
    have HX : Hid (R = 1) := Lib.hid (by rw [HE.out]; rfl)
    go_enter Tryd.func43, Tryd.ntmps43
    go_wp2_with fail
    rw [HW0.out]
    refine HC1.out.mono ?_
    rintro e w1 ⟨rfl, hb1⟩
    go_wp2
    go_ret
    exact ⟨by rw [HX.out]; rfl, HB0.out.trans (hb1.mono (by omega))⟩
  | true =>
    cases b with
    | false =>
      have HX : Hid (R = 1) := Lib.hid (by rw [HE.out]; rfl)
      go_enter Tryd.func43, Tryd.ntmps43
      go_wp2_with fail
      rw [HW0.out]
      refine HC1.out.mono ?_
      rintro e w1 ⟨rfl, hb1⟩
      obtain ⟨g0, g1, g2, _, _, _⟩ := blk3 (HM2.out.keep hb1 (by omega))
      have hz1 := hb1.size
      go_wp2_with fail
      refine (HC2.out w1 (hb1.mono (by omega))).mono ?_
      rintro e w2 ⟨rfl, hb2⟩
      go_wp2
      go_ret
      exact ⟨by rw [HX.out]; rfl, HB0.out.trans ((hb1.trans (hb2.mono hz1)).mono (by omega))⟩
    | true =>
      have HX : Hid (R = if c then 0 else 12) := Lib.hid (by rw [HE.out]; rfl)
      go_enter Tryd.func43, Tryd.ntmps43
      go_wp2_with fail
      rw [HW0.out]
      refine HC1.out.mono ?_
      rintro e w1 ⟨rfl, hb1⟩
      obtain ⟨g0, g1, g2, _, _, _⟩ := blk3 (HM2.out.keep hb1 (by omega))
      have hz1 := hb1.size
      go_wp2_with fail
      refine (HC2.out w1 (hb1.mono (by omega))).mono ?_
      rintro e w2 ⟨rfl, hb2⟩
      have hz2 := hb2.size
      have HB2 : Hid (Below (w.heap.size + 2) W0 w2) := Lib.hid ((hb1.trans (hb2.mono hz1)).mono (by omega))
      clear g0 g1 g2 hb1 hb2
      go_wp2_with fail
      refine (kinds_c w2).mono ?_
      rintro e w3 ⟨rfl, rfl⟩
      obtain ⟨W5, hW5⟩ : ∃ W5, ((w2.alloc (.map kEs.toArray 5)).alloc (.cells #[.map (some w2.heap.size)] 125)).alloc (.cells #[.func (.func 99) #[] #[.pointer (some ⟨w2.heap.size + 1, 0, none⟩), .pointer (some ⟨w2.heap.size + 1 + 1, 0, none⟩)]] 127) = W5 := ⟨_, rfl⟩
      have hz5 : W5.heap.size = w2.heap.size + 3 := by rw [← hW5]; simp
      have hb5 : Below w2.heap.size w2 W5 := by rw [← hW5]; exact (((Below.refl _ _).alloc (Nat.le_refl _) _).alloc (by simp) _).alloc (by simp; omega) _
      have HFV : Hid (FV W5 (w2.heap.size + 1) (w2.heap.size + 1 + 1) w2.heap.size) := Lib.hid (by
        rw [← hW5]
        refine ⟨?_, ?_, ?_⟩
        · have := (Blk.new (w2.alloc (.map kEs.toArray 5)) 125 #[.map (some w2.heap.size)])
          rw [World.size_alloc] at this
          exact this.alloc _
        · have := Blk.new ((w2.alloc (.map kEs.toArray 5)).alloc (.cells #[.map (some w2.heap.size)] 125)) 127 #[.func (.func 99) #[] #[.pointer (some ⟨w2.heap.size + 1, 0, none⟩), .pointer (some ⟨w2.heap.size + 1 + 1, 0, none⟩)]]
          rw [World.size_alloc, World.size_alloc] at this
          exact this
        · have h3 : (w2.alloc (.map kEs.toArray 5)).heap[w2.heap.size]? = some (.map kEs.toArray 5) := heap_alloc_new w2 _
          rw [Below.heap_alloc _ _ _ (by simp; omega), Below.heap_alloc _ _ _ (by simp)]
          exact h3)
      have HB5 : Hid (Below (w.heap.size + 2) W0 W5) := Lib.hid (HB2.out.trans (hb5.mono (by omega)))
      have hbB : Below B w W5 := (HB0.out.mono hB).trans (HB5.out.mono (by omega))
      obtain ⟨_, _, hrt⟩ := ty_may HA.out
      have hri : x.right = true := by
        have h := HBB.out
        unfold It.may at h
        simp only [Bool.and_eq_true] at h
        exact h.1.1
      have HF := Lib.hid (fitsC_c x B W5 _ _ _ (HI.out.below hbB) (by omega) hri ty _ _ _ _ (HT.out.below hbB) hrt _ _ _ HFV.out)
      rw [HCC.out] at HF
      have HW5 := Lib.hid hW5
      have n1 := HM1.out.keep HB5.out (by omega)
      have n2 := HM2.out.keep HB5.out (by omega)
      have q0 : W5.cell? ⟨w.heap.size, 0, none⟩ = some (.int .i64 ki) := n1.cell 0
      have q1 : W5.cell? ⟨w.heap.size, 1, none⟩ = some (.int .i64 si) := n1.cell 1
      have q2 : W5.cell? ⟨w.heap.size, 2, none⟩ = some (.slice A ty.sub.length cap) := n1.cell 2
      have q3 : W5.cell? ⟨w.heap.size, 3, none⟩ = some (.int .i64 ta) := n1.cell 3
      have r0 : W5.cell? ⟨w.heap.size + 1, 0, none⟩ = some (.string x.text) := n2.cell 0
      have r1 : W5.cell? ⟨w.heap.size + 1, 1, none⟩ = some (.bool x.list) := n2.cell 1
      have r2 : W5.cell? ⟨w.heap.size + 1, 2, none⟩ = some (.slice A' x.sub.length cap') := n2.cell 2
      have l0 : w.heap.size < w2.heap.size := by omega
      have l1 : w.heap.size + 1 < w2.heap.size := by omega
      rw [← hW5] at q0 q1 q2 q3 r0 r1 r2
      clear hW5 hb5 hbB hrt hri n1 n2
      go_wp2_with fail
      rw [HW5.out]
      refine HF.out.mono ?_
      rintro e w6 ⟨rfl, hb6⟩
      have HB6 : Hid (Below w.heap.size w w6) := Lib.hid (HB0.out.trans ((HB5.out.mono (by omega)).trans (hb6.mono (by omega))))
      clear hb6
      cases c with
      | true =>
        go_wp2
        go_ret
        exact ⟨by rw [HX.out]; rfl, HB6.out⟩
      | false =>
        go_wp2
        go_ret
        exact ⟨by rw [HX.out]; rfl, HB6.out⟩
end Go.Proofs.YtacikiambpfipaaDoor
namespace Go.Proofs.YtacikiambpfipaaDoor
set_option linter.unusedVariables false
set_option linter.unusedSimpArgs false
open Go.RowKit

/-- k pairs swapped, from both ends. -/
def rv (l : List UInt8) : Nat → List UInt8
  | 0 => l
  | k + 1 => ((rv l k).set k ((rv l k).getD (l.length - 1 - k) 0)).set (l.length - 1 - k) ((rv l k).getD k 0)
theorem rv_length (l : List UInt8) (k : Nat) : (rv l k).length = l.length := by
  induction k with
  | zero => rfl
  | succ k ih => simp [rv, ih]
theorem rv_at (l : List UInt8) (k : Nat) : 2 * k ≤ l.length + 1 → ∀ j, j < l.length → (rv l k)[j]? = if j < k ∨ l.length - k ≤ j then l[l.length - 1 - j]? else l[j]? := by
  induction k with
  | zero => intro _ j hj; rw [if_neg (by omega)]; rfl
  | succ k ih =>
    intro hk j hj
    have IH := ih (by omega)
    have e1 := IH k (by omega)
    have e2 := IH (l.length - 1 - k) (by omega)
    have hl := rv_length l k
    simp only [rv, List.getElem?_set, List.getD_eq_getElem?_getD, List.length_set, hl]
    by_cases h1 : l.length - 1 - k = j
    · subst h1
      rw [if_pos rfl, if_pos hj, if_pos (by omega), e1]
      by_cases h3 : k = l.length - 1 - k
      · rw [if_neg (by omega), ← h3, List.getElem?_eq_getElem (by omega), ]
        simp only [Option.getD_some]
        rw [show l.length - 1 - k = k from by omega, List.getElem?_eq_getElem (by omega)]
      · rw [if_neg (by omega), show l.length - 1 - (l.length - 1 - k) = k from by omega, List.getElem?_eq_getElem (by omega)]
        rfl
    · rw [if_neg h1]
      by_cases h2 : k = j
      · subst h2
        rw [if_pos rfl, if_pos hj, if_pos (by omega), e2, if_neg (by omega), List.getElem?_eq_getElem (by omega)]
        rfl
      · rw [if_neg h2, IH j hj]
        by_cases h3 : j < k ∨ l.length - k ≤ j
        · rw [if_pos h3, if_pos (by omega)]
        · rw [if_neg h3, if_neg (by omega)]
theorem rv_all (l : List UInt8) (k : Nat) (h : l.length ≤ 2 * k + 1) (hk : 2 * k ≤ l.length + 1) : rv l k = l.reverse := by
  apply List.ext_getElem?
  intro j
  by_cases hj : j < l.length
  · rw [rv_at l k hk j hj, List.getElem?_reverse hj]
    by_cases h3 : j < k ∨ l.length - k ≤ j
    · rw [if_pos h3]
    · rw [if_neg h3, show l.length - 1 - j = j from by omega]
  · rw [List.getElem?_eq_none (by rw [rv_length]; omega), List.getElem?_eq_none (by simp; omega)]
set_option maxRecDepth 100000 in
set_option maxHeartbeats 1000000 in
theorem reverse_c (base g cap : Nat) (l : List UInt8) (w : World) (hbuf : Buf w base 5 (.slice (some ⟨g, 0, none⟩) l.length cap) l) (hl : l.length ≤ 1099511627776) :
    Calls Tryd.prog 167 #[.slice (some ⟨g, 0, none⟩) l.length cap] w fun e w' => e = .returned (.tuple #[]) ∧ Buf w' base 5 (.slice (some ⟨g, 0, none⟩) l.length cap) l.reverse ∧ Kept 5 base w w' := by
  obtain ⟨n, hn⟩ : ∃ n, l.length = n := ⟨_, rfl⟩
  rw [hn] at hbuf hl ⊢
  have HN := Lib.hid hn
  have hc := hbuf.len.2
  clear hn
  go_enter Tryd.func167, Tryd.ntmps167
  go_wp2
  go_loopw [2, 3] (fun i j wr => ∃ k : Nat, 2 * k ≤ n + 1 ∧ i = .int .i64 k ∧ j = .int .i64 ((n : Int) - 1 - k) ∧ Buf wr base 5 (.slice (some ⟨g, 0, none⟩) n cap) (rv l k) ∧ Kept 5 base w wr) (fun i _ _ => n - (intOf i).toNat)
  case atStart => exact ⟨0, by omega, rfl, by go_num, hbuf, Kept.refl _ _ _⟩
  case round =>
    obtain ⟨k, hk, rfl, rfl, hb, hkept⟩ := hrel
    clear hbuf
    by_cases hlt : 2 * k + 1 < n
    · have hlen : (rv l k).length = n := by rw [rv_length, HN.out]
      obtain ⟨d, hd⟩ : ∃ d : Nat, n - 1 - k = d := ⟨_, rfl⟩
      have hdi : (n : Int) - 1 - k = d := by omega
      obtain ⟨c1, f1, g1, g2⟩ := hb.at_ (k := k) (by omega)
      obtain ⟨c2, f2, _, _⟩ := hb.at_ (k := d) (by omega)
      have HS := Lib.hid ((hb.set (k := k) (by omega) ((rv l k).getD d 0)).set (k := d) (by rw [List.length_set]; omega) ((rv l k).getD k 0))
      obtain ⟨cur, fr, hcur, hbg⟩ := hb.block
      have HK := Lib.hid (((hkept.store (k := k) hcur hbg (.int .u8 ((rv l k).getD d 0).toNat))).store (k := d) (setCell_heap _ hcur) hbg (.int .u8 ((rv l k).getD k 0).toNat))
      have HR : Hid (((rv l k).set k ((rv l k).getD d 0)).set d ((rv l k).getD k 0) = rv l (k + 1)) := Lib.hid (by simp only [rv]; rw [HN.out, hd])
      rw [HR.out] at HS
      have hne : (⟨g, d, none⟩ : Addr) ≠ ⟨g, k, none⟩ := fun e => by have := congrArg Addr.off e; simp at this; omega
      rw [hdi]
      have ht : ((rv l k).getD d 0).toNat < 256 := UInt8.toNat_lt _
      have ht2 : ((rv l k).getD k 0).toNat < 256 := UInt8.toNat_lt _
      generalize ((rv l k).getD d 0).toNat = y at *
      generalize ((rv l k).getD k 0).toNat = x at *
      have hkd : k < d := by omega
      have hdn : d < n := by omega
      clear hcur hb hkept hlen hd
      go_wp2
      go_region
      all_goals
        go_wp2
        go_roundw
        case rel => exact ⟨k + 1, by omega, by go_num, by go_num, HS.out.drew, HK.out.drew⟩
        case measure => simp [intOf]; omega
    · have e : rv l k = l.reverse := rv_all l k (by rw [HN.out]; omega) (by rw [HN.out]; omega)
      rw [e] at hb
      go_wp2
      go_end0
      exact ⟨rfl, hb, hkept⟩
set_option maxRecDepth 100000 in
theorem turnedB_c (base g cap : Nat) (l : List UInt8) (w : World) (hbuf : Buf w base 5 (.slice (some ⟨g, 0, none⟩) l.length cap) l) (hl : l.length ≤ 1099511627776) :
    Calls Tryd.prog 143 #[.slice (some ⟨g, 0, none⟩) l.length cap] w fun e w' => e = .returned (.string ⟨l.reverse.toArray⟩) ∧ Kept 5 base w w' := by
  have HC := Lib.hid (reverse_c base g cap l w hbuf hl)
  clear hbuf
  go_enter Tryd.func143, Tryd.ntmps143
  go_wp2_with fail
  refine HC.out.mono ?_
  rintro e w1 ⟨rfl, hb, hk⟩
  have hst := hb.str' (P := Tryd.prog) Tryd.underlying54 Tryd.underlying5 Tryd.underlying9
  have HK := Lib.hid hk
  clear hb hk
  obtain ⟨X, HX⟩ : ∃ X, Hid ((⟨l.reverse.toArray⟩ : ByteArray) = X) := ⟨_, Lib.hid rfl⟩
  rw [HX.out] at hst
  generalize l.length = n at *
  go_wp2
  go_ret
  exact ⟨by rw [HX.out]; rfl, HK.out⟩
end Go.Proofs.YtacikiambpfipaaDoor
namespace Go.Proofs.YtacikiambpfipaaDoor
set_option linter.unusedVariables false
set_option linter.unusedSimpArgs false
open Go.RowKit

/-- How many bits. -/
def blF : Nat → Nat → Nat
  | 0, _ => 0
  | f + 1, n => if n = 0 then 0 else blF f (n / 2) + 1
def bl (n : Nat) : Nat := blF 64 n
theorem blF_zero (f : Nat) : blF f 0 = 0 := by cases f <;> simp [blF]
theorem blF_more (f g n : Nat) (hf : n < 2 ^ f) (hg : n < 2 ^ g) : blF f n = blF g n := by
  induction f generalizing g n with
  | zero => simp at hf; subst hf; rw [blF_zero, blF_zero]
  | succ f ih =>
    by_cases h0 : n = 0
    · subst h0; rw [blF_zero, blF_zero]
    · cases g with
      | zero => simp at hg; omega
      | succ g => simp only [blF, if_neg h0]; rw [ih g (n / 2) (by rw [Nat.pow_succ] at hf; omega) (by rw [Nat.pow_succ] at hg; omega)]
theorem bl_half (n : Nat) (h0 : 0 < n) (h : n < 2 ^ 64) : bl n = bl (n / 2) + 1 := by
  unfold bl
  rw [show (64 : Nat) = 63 + 1 from rfl, blF, if_neg (by omega), blF_more 63 (63 + 1) (n / 2) (by omega) (by omega)]
theorem bl_shift (k n : Nat) (h : 2 ^ k ≤ n) (hn : n < 2 ^ 64) : bl n = bl (n / 2 ^ k) + k := by
  induction k generalizing n with
  | zero => simp
  | succ k ih =>
    have hp : 2 ^ (k + 1) = 2 ^ k * 2 := Nat.pow_succ ..
    have h1 : 0 < 2 ^ k := Nat.pow_pos (by omega)
    rw [bl_half n (by omega) hn, ih (n / 2) (by omega) (by omega), Nat.div_div_eq_div_mul, Nat.mul_comm 2, ← hp]
    omega
theorem bl_le (k n : Nat) (h : n < 2 ^ k) (hk : k ≤ 64) : bl n ≤ k := by
  unfold bl
  have h64 : n < 2 ^ 64 := Nat.lt_of_lt_of_le h (Nat.pow_le_pow_right (by omega) hk)
  rw [blF_more 64 k n h64 h]
  clear h64 h hk
  induction k generalizing n with
  | zero => simp [blF]
  | succ k ih => simp only [blF]; split; omega; have := ih (n / 2); omega
theorem bl_pos (n : Nat) (h0 : 0 < n) (h : n < 2 ^ 64) : 1 ≤ bl n := by rw [bl_half n h0 h]; omega
theorem ret_int {k : IntKind} {a b : Int} (h : a = b) : Ending.returned (.int k a) = .returned (.int k b) := by rw [h]
def lenRen : Go.Shelf.Ren := ⟨fun x => if x = 129 then 144 else x, fun x => if x = 3 then 3 else if x = 4 then 4 else if x = 5 then 5 else if x = 9 then 9 else if x = 46 then 190 else if x = 53 then 39 else x, fun x => x⟩
theorem lays129 : Go.Proofs.Lays.n129 Tryd.prog lenRen where
  mixed := by kernel_rfl
  f129 := by kernel_rfl
  t3 := by kernel_rfl
  a3 := fun _ => by kernel_rfl
  z3 := fun _ => by kernel_rfl
  v3 := fun _ => by kernel_rfl
  t4 := by kernel_rfl
  a4 := fun _ => by kernel_rfl
  z4 := fun _ => by kernel_rfl
  v4 := fun _ => by kernel_rfl
  t5 := by kernel_rfl
  a5 := fun _ => by kernel_rfl
  z5 := fun _ => by kernel_rfl
  v5 := fun _ => by kernel_rfl
  t9 := by kernel_rfl
  a9 := fun _ => by kernel_rfl
  z9 := fun _ => by kernel_rfl
  v9 := fun _ => by kernel_rfl
  t46 := by kernel_rfl
  a46 := fun _ => by kernel_rfl
  z46 := fun _ => by kernel_rfl
  v46 := fun _ => by kernel_rfl
  t53 := by kernel_rfl
  a53 := fun _ => by kernel_rfl
  z53 := fun _ => by kernel_rfl
  v53 := fun _ => by kernel_rfl
theorem bitLen_eq (n : Nat) : Lib.bitLen n = bl n := by
  unfold Lib.bitLen bl
  have h : ∀ f n, Lib.bitLenAux f n = blF f n := by
    intro f
    induction f with
    | zero => intro n; rfl
    | succ f ih => intro n; simp only [Lib.bitLenAux, blF, ih]; split <;> omega
  exact h 64 n
theorem len64_c (n : Nat) (w : World) (hn : n < 18446744073709551616) :
    Calls Tryd.prog 144 #[.int .u64 n] w fun e w' => e = .returned (.int .i64 (bl n)) ∧ w = w' := by
  have h : Calls Tryd.prog 144 #[.int .u64 n] w fun e w' => e = .returned (.int .i64 (Lib.bitLen (n : Int).toNat)) ∧ w' = w := Any.bits_Len64 lays129 n w (by omega) (by omega)
  exact h.mono fun e w' ⟨he, hw⟩ => ⟨by rw [he, Int.toNat_natCast, bitLen_eq], hw.symm⟩
end Go.Proofs.YtacikiambpfipaaDoor
namespace Go.Proofs.YtacikiambpfipaaDoor
set_option linter.unusedVariables false
set_option linter.unusedSimpArgs false
open Go.RowKit

def LeastInv (n : Nat) (w : World) (x v : Value) (wr : World) : Prop :=
  ∃ (m : Nat) (s : ByteArray), x = .int .u64 m ∧ v = .string s ∧ minL m ++ s.data.toList = minL n ∧ m < 18446744073709551616 ∧ s.size ≤ 8 ∧ Below w.heap.size w wr
theorem least_next {n m : Nat} {s : ByteArray} (h : minL m ++ s.data.toList = minL n) (h0 : 0 < m) : minL (m / 256) ++ (⟨#[ub ((m : Int) % 256)]⟩ ++ s).data.toList = minL n := by
  rw [← h, minL_pos (n := m) (by omega), toList_app]
  simp
theorem least_size {n m : Nat} {s : ByteArray} (h : minL m ++ s.data.toList = minL n) (hn : n < 18446744073709551616) : s.size ≤ 8 := by
  have h1 := minL_length 8 n (by simpa using hn)
  have := congrArg List.length h
  simp only [List.length_append, toList_size] at this
  omega
set_option maxRecDepth 100000 in
set_option maxHeartbeats 1000000 in
theorem refLeast_c (n : Nat) (w : World) (hn : n < 18446744073709551616) :
    Calls Tryd.prog 130 #[.int .u64 n] w fun e w' => e = .returned (.string ⟨(minL n).toArray⟩) ∧ Below w.heap.size w w' := by
  have k1 := fun (w : World) (a : Int) => run_str1 Tryd.underlying54 Tryd.underlying5 Tryd.underlying9 w a
  go_enter Tryd.func130, Tryd.ntmps130
  go_wp2
  go_loopw [0, 3] (fun x v wr => LeastInv n w x v wr) (fun x _ _ => (intOf x).toNat)
  case atStart => exact ⟨n, _, rfl, rfl, by simp, hn, by simp [ByteArray.size], Below.refl _ _⟩
  case round =>
    obtain ⟨m, s, rfl, rfl, hm, hm64, hs, hb⟩ := hrel
    have HM := Lib.hid hm
    clear hm
    by_cases h0 : 0 < m
    · go_wp2
      go_roundw
      case rel => exact ⟨m / 256, _, by go_num, rfl, least_next HM.out h0, by omega, least_size (least_next HM.out h0) hn, hb.alloc hb.size _⟩
      case measure => simp [intOf]; omega
    · go_wp2
      go_ret
      obtain rfl : m = 0 := by omega
      have e := HM.out
      rw [minL_zero, List.nil_append] at e
      exact ⟨ret_str (bytes_ext (by rw [← e])), hb⟩
end Go.Proofs.YtacikiambpfipaaDoor
namespace Go.Proofs.YtacikiambpfipaaDoor
set_option linter.unusedVariables false
set_option linter.unusedSimpArgs false
open Go.RowKit

theorem ItIn.one {w : World} {B : Nat} {x : It} {c0 c1 c2 : Value} (h : ItIn w B x c0 c1 c2) : c0.oneCell' = true ∧ c1.oneCell' = true ∧ c2.oneCell' = true := by
  obtain ⟨A, cap, rfl, rfl, rfl, _⟩ := h.open_
  exact ⟨rfl, rfl, rfl⟩
/-- The cells cs are these items, three a piece. -/
def ItsAre (w : World) (B : Nat) : List It → List Value → Prop
  | [], cs => cs = []
  | x :: xs, cs => ∃ c0 c1 c2 ds, cs = c0 :: c1 :: c2 :: ds ∧ ItIn w B x c0 c1 c2 ∧ ItsAre w B xs ds
theorem ItsAre.length {w : World} {B : Nat} : ∀ {s : List It} {cs : List Value}, ItsAre w B s cs → cs.length = s.length * 3
  | [], cs, h => by simp [ItsAre] at h; simp [h]
  | x :: xs, cs, h => by
    obtain ⟨c0, c1, c2, ds, rfl, _, h2⟩ := h
    have := h2.length
    simp only [List.length_cons, this]; omega
theorem ItsAre.one {w : World} {B : Nat} : ∀ {s : List It} {cs : List Value}, ItsAre w B s cs → ∀ u ∈ cs, u.oneCell' = true
  | [], cs, h => by simp [ItsAre] at h; simp [h]
  | x :: xs, cs, h => by
    obtain ⟨c0, c1, c2, ds, rfl, h1, h2⟩ := h
    have h3 := h1.one
    have h4 := h2.one
    intro u hu
    simp only [List.mem_cons] at hu
    rcases hu with rfl | rfl | rfl | hu
    · exact h3.1
    · exact h3.2.1
    · exact h3.2.2
    · exact h4 u hu
theorem ItsAre.keep {w w' : World} {B B' : Nat} (hB : B ≤ B') (hk : ∀ p : Addr, p.block < B → w'.cell? p = w.cell? p) : ∀ {s : List It} {cs : List Value}, ItsAre w B s cs → ItsAre w' B' s cs
  | [], cs, h => h
  | x :: xs, cs, h => by
    obtain ⟨c0, c1, c2, ds, rfl, h1, h2⟩ := h
    exact ⟨c0, c1, c2, ds, rfl, ItIn.keep hB hk x h1, h2.keep hB hk⟩
/-- Out of a slice: its cells, one by one. -/
theorem ItsIn.cells {w : World} {B : Nat} {b o : Nat} : ∀ {s : List It} {i : Nat}, ItsIn w B s (some ⟨b, o, none⟩) i → ∃ cs, ItsAre w B s cs ∧ ∀ j u, cs[j]? = some u → w.cell? ⟨b, o + i * 3 + j, none⟩ = some u
  | [], i, _ => ⟨[], rfl, by simp⟩
  | x :: xs, i, h => by
    obtain ⟨⟨b', o', c0, c1, c2, hA, _, e0, e1, e2, hi⟩, h2⟩ := h
    injection hA with hA
    injection hA with hb ho
    subst hb; subst ho
    obtain ⟨ds, hd, hc⟩ := h2.cells
    refine ⟨c0 :: c1 :: c2 :: ds, ⟨c0, c1, c2, ds, rfl, hi, hd⟩, fun j u hu => ?_⟩
    match j, hu with
    | 0, hu => simp at hu; subst hu; exact e0
    | 1, hu => simp at hu; subst hu; exact e1
    | 2, hu => simp at hu; subst hu; exact e2
    | j + 3, hu =>
      have := hc j u (by simpa using hu)
      rw [show o + i * 3 + (j + 3) = o + (i + 1) * 3 + j from by omega]; exact this
/-- Back into a slice. -/
theorem ItsIn.of_cells {w : World} {B : Nat} {b o : Nat} (hb : b < B) : ∀ {s : List It} {i : Nat} {cs : List Value}, ItsAre w B s cs → (∀ j u, cs[j]? = some u → w.cell? ⟨b, o + i * 3 + j, none⟩ = some u) → ItsIn w B s (some ⟨b, o, none⟩) i
  | [], _, _, _, _ => trivial
  | x :: xs, i, cs, h, hc => by
    obtain ⟨c0, c1, c2, ds, rfl, h1, h2⟩ := h
    refine ⟨⟨b, o, c0, c1, c2, rfl, hb, by simpa using hc 0 c0 (by simp), hc 1 c1 (by simp), hc 2 c2 (by simp), h1⟩, ItsIn.of_cells hb h2 fun j u hu => ?_⟩
    have := hc (j + 3) u (by simpa using hu)
    rw [show o + (i + 1) * 3 + j = o + i * 3 + (j + 3) from by omega]; exact this
end Go.Proofs.YtacikiambpfipaaDoor
