/- packed.Next by a meter with much room. -/
/- Two frames compared by '=='. -/
/- How large the frame is that bytes tell. -/
import Derived.Test.YtebllmpdlapefaaGreatDoorKA31
import Derived.Test.YtebllmpdlapefaaGreatDoorKA1
import Derived.Laws.StructEq
namespace Go.Proofs.YtebllmpdlapefaaGreatDoor
set_option linter.unusedVariables false
set_option linter.unusedSimpArgs false
open Go.RowKit

/-- packed.Next by a meter with room for one more body. -/
theorem packedNext_met (most unp : Int) (mg a u t p : Nat) (s : ByteArray) (w : World) (hs : s.size ≤ 9223372036854775807) (hm1 : -9223372036854775808 ≤ most) (hm2 : most ≤ 9223372036854775807) (hM : Mtr w mg a u t p) (ha : a ≤ 9223372036854775807) (hu : u + 70000 ≤ a) (ht : t + 70000 ≤ 9223372036854775807) (hun : unp ≤ 70000) :
    Calls Tryz.prog 77 #[.int .i64 most, .int .i64 unp, .pointer (some ⟨mg, 0, none⟩), .string s] w fun e w' => e = pkRet (pkNext most unp s) ∧ (∃ q, Mtr w' mg a (u + (pkNext most unp s).2.2.2.2) (t + (pkNext most unp s).2.2.2.2) q) ∧ Only [mg] w w' := by
  by_cases hx : (plNext most s).1 ≠ 0 ∨ (sSize (plNext most s).2.2.1).2.2 ≠ 0 ∨ unp < (sSize (plNext most s).2.2.1).1
  · have hz : (pkNext most unp s).2.2.2.2 = 0 := by
      rw [pkNext_eq]
      by_cases h0 : (plNext most s).1 ≠ 0
      · rw [if_pos h0]
      · rw [if_neg h0]
        by_cases h1 : (sSize (plNext most s).2.2.1).2.2 ≠ 0
        · rw [if_pos h1]
        · rw [if_neg h1, if_pos (by rcases hx with h | h | h; exact absurd h h0; exact absurd h h1; exact h)]
    rw [hz]
    exact (packedNext_no most unp mg s w hs hm1 hm2 hx).mono fun e w' ⟨he, ho⟩ => ⟨he, ⟨p, hM.only ho (by simp)⟩, ho.mono (by simp)⟩
  · have h0 : (plNext most s).1 = 0 := Decidable.byContradiction fun h => hx (.inl h)
    have h1 : (sSize (plNext most s).2.2.1).2.2 = 0 := Decidable.byContradiction fun h => hx (.inr (.inl h))
    have h2 : ((sSize (plNext most s).2.2.1).1 : Int) ≤ unp := by
      have : ¬ unp < (sSize (plNext most s).2.2.1).1 := fun h => hx (.inr (.inr h))
      omega
    have hz : (pkNext most unp s).2.2.2.2 = (sSize (plNext most s).2.2.1).1 := by
      rw [pkNext_eq, if_neg (by rw [h0]; simp), if_neg (by rw [h1]; simp), if_neg (by omega)]
      split <;> rfl
    rw [hz]
    exact packedNext_ok most unp mg a u t p s w hs hm1 hm2 hM ha h0 h1 h2 (by omega) (by omega)
theorem pkNext_met (most unp : Int) (s : ByteArray) : (pkNext most unp s).2.2.2.2 = 0 ∨ ((pkNext most unp s).2.2.2.2 : Int) ≤ unp := by
  rw [pkNext_eq]
  split
  · exact .inl rfl
  · split
    · exact .inl rfl
    · split
      · exact .inl rfl
      · right
        split <;> simp only <;> omega
/-- packed.Next by a meter with much room. -/
theorem packedNext_any (most unp : Int) (mg : Nat) (s : ByteArray) (w : World) (hs : s.size ≤ 9223372036854775807) (hm1 : -9223372036854775808 ≤ most) (hm2 : most ≤ 9223372036854775807) (hM : Mtr w mg 1073741824 0 0 0) (hu : unp ≤ 70000) :
    Calls Tryz.prog 77 #[.int .i64 most, .int .i64 unp, .pointer (some ⟨mg, 0, none⟩), .string s] w fun e w' => e = pkRet (pkNext most unp s) ∧ (∃ u q, Mtr w' mg 1073741824 u (pkNext most unp s).2.2.2.2 q) ∧ Only [mg] w w' :=
  (packedNext_met most unp mg 1073741824 0 0 0 s w hs hm1 hm2 hM (by omega) (by omega) (by omega) hu).mono fun e w' ⟨he, ⟨q, hm⟩, ho⟩ => ⟨he, ⟨_, q, by simpa only [Nat.zero_add] using hm⟩, ho⟩
end Go.Proofs.YtebllmpdlapefaaGreatDoor
namespace Go.Proofs.YtebllmpdlapefaaGreatDoor
set_option linter.unusedVariables false
set_option linter.unusedSimpArgs false
open Go.RowKit

theorem eqg_fr : (Tryz.prog).eqGuardType (Tryz.prog).depth 27 = false := by kernel_rfl
theorem fld_fr : (Tryz.prog).underlying 27 = some (.struct ((Tryz.prog).fieldsOf 27)) := by kernel_rfl
theorem held_fr : (Tryz.prog).stoodInHeld 27 = false := by kernel_rfl
theorem flds_fr : ((Tryz.prog).fieldsOf 27).toList.map (fun f => (f.type, f.offset, decide (f.name ≠ "_"))) = [(25, 0, true), (9, 1, true), (9, 2, true)] := by kernel_rfl
theorem eqFields3 (fs : List Field) (h : fs.map (fun f => (f.type, f.offset, decide (f.name ≠ "_"))) = [(25, 0, true), (9, 1, true), (9, 2, true)]) (x1 y1 : Int) (x2 y2 x3 y3 : ByteArray) (w : World) :
    (Op.eqFields 9999 #[.int .u64 x1, .string x2, .string x3] #[.int .u64 y1, .string y2, .string y3] fs).run Tryz.prog w = .ok (decide (x1 = y1 ∧ x2 = y2 ∧ x3 = y3)) w := by
  have hl : fs.length = 3 := by have := congrArg List.length h; simpa using this
  obtain ⟨f1, f2, f3, rfl⟩ : ∃ f1 f2 f3, fs = [f1, f2, f3] := by
    match fs, hl with
    | [f1, f2, f3], _ => exact ⟨f1, f2, f3, rfl⟩
  simp only [List.map_cons, List.map_nil, List.cons.injEq, Prod.mk.injEq, and_true] at h
  obtain ⟨⟨h1, h2, h3⟩, ⟨h4, h5, h6⟩, h7, h8, h9⟩ := h
  have n1 := of_decide_eq_true h3
  have n2 := of_decide_eq_true h6
  have n3 := of_decide_eq_true h9
  have a1 : ∀ w, (isAgg 25).run Tryz.prog w = .ok false w := fun _ => by kernel_rfl
  have a2 : ∀ w, (isAgg 9).run Tryz.prog w = .ok false w := fun _ => by kernel_rfl
  have p1 : ∀ (a b c : Value) w, (part 25 #[a, b, c] 0).run Tryz.prog w = .ok a w := by
    intro a b c w
    simp [part, Sem.run_bind, a1]
  have p2 : ∀ (a b c : Value) w, (part 9 #[a, b, c] 1).run Tryz.prog w = .ok b w := by
    intro a b c w
    simp [part, Sem.run_bind, a2]
  have p3 : ∀ (a b c : Value) w, (part 9 #[a, b, c] 2).run Tryz.prog w = .ok c w := by
    intro a b c w
    simp [part, Sem.run_bind, a2]
  have q1 := run_equalIn_int (P := Tryz.prog) w 9998 25 .u64 .u64 x1 y1 Tryz.underlying25
  have q2 := run_equalIn_string (P := Tryz.prog) w 9998 9 x2 y2 Tryz.underlying9
  have q3 := run_equalIn_string (P := Tryz.prog) w 9998 9 x3 y3 Tryz.underlying9
  simp only [Op.eqFields, n1, n2, n3, h1, h2, h4, h5, h7, h8, ne_eq, not_false_eq_true, if_true, Sem.run_bind, p1, p2, p3, Result.andThen_ok, q1, q2, q3]
  by_cases e0 : x1 = y1
  · subst e0
    simp only [beq_self_eq_true, Bool.not_true, Bool.false_eq_true, if_false, Sem.run_bind, p2, p3, Result.andThen_ok, q2, q3, true_and]
    rcases str_ways x2 y2 with ⟨rfl, e1, _⟩ | ⟨hne, e1, _⟩
    · rw [e1]
      simp only [Bool.not_true, Bool.false_eq_true, if_false, Sem.run_bind, p3, Result.andThen_ok, q3, true_and]
      rcases str_ways x3 y3 with ⟨rfl, e2, _⟩ | ⟨hne, e2, _⟩
      · rw [e2]; simp
      · rw [e2]; simp [hne]
    · rw [e1]
      simp [hne]
  · have : (x1 == y1) = false := beq_eq_false_iff_ne.2 e0
    rw [this]; simp [e0]
theorem eqFr_run (x1 y1 : Int) (x2 y2 x3 y3 : ByteArray) (w : World) : (Op.equalIn 10000 27 (.agg #[.int .u64 x1, .string x2, .string x3]) (.agg #[.int .u64 y1, .string y2, .string y3])).run Tryz.prog w = .ok (decide (x1 = y1 ∧ x2 = y2 ∧ x3 = y3)) w := by
  rw [run_equalIn_struct w 9999 27 _ _ fld_fr held_fr]
  exact eqFields3 _ flds_fr x1 y1 x2 y2 x3 y3 w
/-- Two frames, as they are. -/
theorem eqFr_same (x1 : Int) (x2 x3 : ByteArray) (w : World) : (Op.equalIn 10000 27 (.agg #[.int .u64 x1, .string x2, .string x3]) (.agg #[.int .u64 x1, .string x2, .string x3])).run Tryz.prog w = .ok true w := by
  rw [eqFr_run]; simp
end Go.Proofs.YtebllmpdlapefaaGreatDoor
namespace Go.Proofs.YtebllmpdlapefaaGreatDoor
set_option linter.unusedVariables false
set_option linter.unusedSimpArgs false

theorem sStep_le (s : ByteArray) (size k b : Nat) (out : List UInt8) (h : out.length ≤ size) (h0 : (sStep s size k b out).1 = 0) : (sStep s size k b out).2.2.length ≤ size := by
  unfold sStep at h0 ⊢
  by_cases h1 : s.size < k + sHead b
  · rw [if_pos h1]; exact h
  rw [if_neg h1] at h0 ⊢
  by_cases h2 : (b % 4 ≠ 0 ∧ (sBack b (sNum s k b) = 0 ∨ out.length < sBack b (sNum s k b))) ∨ size - out.length < sCount b (sNum s k b)
  · rw [if_pos h2]; exact h
  rw [if_neg h2] at h0 ⊢
  have h3 : sCount b (sNum s k b) ≤ size - out.length := by omega
  by_cases h4 : b % 4 = 0
  · rw [if_pos h4] at h0 ⊢
    by_cases h5 : s.size < k + sHead b + sCount b (sNum s k b)
    · rw [if_pos h5]; exact h
    rw [if_neg h5]
    simp only [List.length_append, toList_size]
    rw [size_cut _ _ _ (by omega)]
    omega
  · rw [if_neg h4]
    simp only [cpy_length]
    omega
theorem sAll_le (s : ByteArray) (size : Nat) : ∀ (f k : Nat) (out : List UInt8), out.length ≤ size → (sAll s size f k out).2.length ≤ size
  | 0, k, out, _ => by simp [sAll]
  | f + 1, k, out, h => by
    unfold sAll
    by_cases h1 : k < s.size
    · rw [dif_pos h1]
      by_cases h2 : (sStep s size k s[k].toNat out).1 = 0
      · rw [if_pos h2]; exact sAll_le s size f _ _ (sStep_le s size k _ out h h2)
      · rw [if_neg h2]; simp
    · rw [dif_neg h1]
      split
      · simp
      · exact h
theorem pkNext_body (fr un : Int) (s : ByteArray) : (((pkNext fr un s).2.2.1.size : Nat) : Int) ≤ max un 0 := by
  rw [pkNext_eq]
  split
  · show ((0 : Nat) : Int) ≤ _; omega
  split
  · show ((0 : Nat) : Int) ≤ _; omega
  split
  · show ((0 : Nat) : Int) ≤ _; omega
  split
  · show ((0 : Nat) : Int) ≤ _; omega
  · rename_i h1 h2 h3 h4
    show (((sUnpack (plNext fr s).2.2.1 un).2.length : Nat) : Int) ≤ _
    unfold sUnpack sElems
    rw [if_neg h2, if_neg h3]
    have := sAll_le ((plNext fr s).2.2.1.extract (sSize (plNext fr s).2.2.1).2.1 (plNext fr s).2.2.1.size) (sSize (plNext fr s).2.2.1).1 (((plNext fr s).2.2.1.extract (sSize (plNext fr s).2.2.1).2.1 (plNext fr s).2.2.1.size).size + 1) 0 [] (by simp)
    omega
theorem cut_le (s : ByteArray) (a b : Nat) : (s.extract a b).size ≤ s.size := by simp; omega
theorem nmGet_size (s : ByteArray) : (nmGet s).2.size ≤ 12 := by
  unfold nmGet
  split
  · rename_i h; exact (nmMay_size h.2).2
  · exact Nat.zero_le _
theorem cnNext_body (m : Nat) (most : Int) (s : ByteArray) : (cnNext m most s).2.1.size ≤ 12 ∧ (cnNext m most s).2.2.1.size ≤ s.size := by
  unfold cnNext
  repeat' split
  all_goals dsimp only
  all_goals first | with_reducible exact ⟨nmGet_size _, cut_le _ _ _⟩ | exact ⟨by simp, by simp⟩
theorem plNext_body (most : Int) (s : ByteArray) : (plNext most s).2.2.1.size ≤ s.size := by
  by_cases h : (plNext most s).1 = 0
  · rw [plNext_eq] at h ⊢
    generalize plSize most s = p at *
    generalize lebNext (s.extract p.2.1 (p.2.1 + p.1)) = q at *
    by_cases h1 : p.2.2 ≠ 0
    · rw [if_pos h1]; exact Nat.zero_le _
    rw [if_neg h1] at h ⊢
    by_cases h2 : s.size < p.2.1 + p.1
    · rw [if_pos h2]; exact Nat.zero_le _
    rw [if_neg h2] at h ⊢
    by_cases h3 : q.2.2 ≠ 0
    · rw [if_pos h3]; exact Nat.zero_le _
    rw [if_neg h3]
    exact Nat.le_trans (cut_le _ _ _) (cut_le _ _ _)
  · rw [plErr most s h]; exact Nat.zero_le _
/-- The frame that bytes tell: its name is no longer than they are, nor is its body, or than the largest. -/
theorem wRaw_body (c : Cfg) (s : ByteArray) : (wRaw c s).2.1.nm.size ≤ 12 ∧ (((wRaw c s).2.1.body.size : Nat) : Int) ≤ max (s.size : Int) (max c.un 0) := by
  unfold wRaw
  split
  · have := cnNext_body c.mg c.fr s; exact ⟨this.1, by have := this.2; show (((cnNext c.mg c.fr s).2.2.1.size : Nat) : Int) ≤ _; omega⟩
  split
  · have := plNext_body c.fr s; exact ⟨Nat.zero_le _, by show (((plNext c.fr s).2.2.1.size : Nat) : Int) ≤ _; omega⟩
  · have := pkNext_body c.fr c.un s; exact ⟨Nat.zero_le _, by show (((pkNext c.fr c.un s).2.2.1.size : Nat) : Int) ≤ _; omega⟩
end Go.Proofs.YtebllmpdlapefaaGreatDoor
