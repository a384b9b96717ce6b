/- hatchwaylaw16.PackedReads. -/
import Derived.Test.YthbechmkjhkipaaPackedPuts
namespace Go.Proofs.Ythbechmkjhkipaa
set_option linter.unusedVariables false
set_option linter.unusedSimpArgs false
open Go.RowKit

/-- A beginning of bytes tells the same number, or is short. -/
theorem lebGo_pre (s : ByteArray) (c : Nat) (hc : c ≤ s.size) (f : Nat) : ∀ i n, lebGo (s.extract 0 c) f i n = lebGo s f i n ∨ lebGo (s.extract 0 c) f i n = (0, 0, 2) := by
  have hz : (s.extract 0 c).size = c := by rw [size_cut _ _ _ hc]; omega
  induction f with
  | zero => intro i n; exact .inl rfl
  | succ f ih =>
    intro i n
    by_cases hi : i < c
    · have h1 : i < (s.extract 0 c).size := by omega
      have h2 : i < s.size := by omega
      have e : (s.extract 0 c)[i] = s[i] := by
        have h3 := byte_at (s.extract 0 c) i h1
        rw [toList_cut, List.drop_zero, List.getElem?_take_of_lt hi, byte_at s i h2] at h3
        injection h3 with h3; exact h3.symm
      rw [lebGo, lebGo, dif_pos h1, dif_pos h2, e]
      split
      · exact .inl rfl
      · split
        · exact .inl rfl
        · exact ih _ _
    · exact .inr (lebGo_end _ _ _ _ (by omega))
theorem lebNext_pre (s : ByteArray) (c : Nat) (hc : c ≤ s.size) : lebNext (s.extract 0 c) = lebNext s ∨ lebNext (s.extract 0 c) = (0, 0, 2) := lebGo_pre s c hc 10 0 0
theorem plNext_pre (most : Int) (s : ByteArray) (c : Nat) (hc : c ≤ s.size) : plNext most (s.extract 0 c) = plNext most s ∨ plNext most (s.extract 0 c) = (2, 0, ByteArray.empty, 0) := by
  have hz : (s.extract 0 c).size = c := by rw [size_cut _ _ _ hc]; omega
  rcases lebNext_pre s c hc with h | h
  · have hp : plSize most (s.extract 0 c) = plSize most s := by unfold plSize; rw [h]
    rw [plNext_eq most (s.extract 0 c), plNext_eq most s, hp, hz]
    by_cases h0 : (plSize most s).2.2 ≠ 0
    · rw [if_pos h0, if_pos h0]; exact .inl rfl
    · rw [if_neg h0, if_neg h0]
      by_cases h1 : c < (plSize most s).2.1 + (plSize most s).1
      · rw [if_pos h1]; exact .inr rfl
      · have h2 : ¬ s.size < (plSize most s).2.1 + (plSize most s).1 := by omega
        rw [if_neg h1, if_neg h2]
        have e : (s.extract 0 c).extract (plSize most s).2.1 ((plSize most s).2.1 + (plSize most s).1) = s.extract (plSize most s).2.1 ((plSize most s).2.1 + (plSize most s).1) := by
          apply bytes_ext
          rw [toList_cut, toList_cut, toList_cut, List.drop_zero, List.take_take, Nat.min_eq_left (by omega)]
        rw [e]; exact .inl rfl
  · have hp : plSize most (s.extract 0 c) = (0, 0, 2) := by unfold plSize; rw [h]; rfl
    rw [plNext_eq most (s.extract 0 c), hp]; exact .inr rfl
theorem pkNext_short (most unp : Int) (s : ByteArray) (h : (pkNext most unp s).1 = 2) : pkNext most unp s = (2, 0, ByteArray.empty, 0, 0) := by
  rw [pkNext_eq] at h ⊢
  by_cases h0 : (plNext most s).1 ≠ 0
  · rw [if_pos h0] at h ⊢; simp only at h ⊢; rw [h]
  · rw [if_neg h0] at h ⊢
    split at h
    · simp only at h; split at h <;> omega
    · split at h
      · simp at h
      · split at h <;> simp at h
theorem pkNext_pre (most unp : Int) (s : ByteArray) (c : Nat) (hc : c ≤ s.size) : pkNext most unp (s.extract 0 c) = (2, 0, ByteArray.empty, 0, 0) ∨ ((pkNext most unp s).1 ≠ 2 ∧ pkNext most unp (s.extract 0 c) = pkNext most unp s) := by
  rcases plNext_pre most s c hc with h | h
  · have e : pkNext most unp (s.extract 0 c) = pkNext most unp s := by rw [pkNext_eq, pkNext_eq most unp s, h]
    by_cases h2 : (pkNext most unp s).1 = 2
    · left; rw [e]; exact pkNext_short most unp s h2
    · exact .inr ⟨h2, e⟩
  · left; rw [pkNext_eq, h]; rfl
/-- packed.Next by a meter with much room. -/
theorem packedNext_any (most unp : Int) (mg : Nat) (s : ByteArray) (w : World) (hs : s.size ≤ 9223372036854775807) (hm1 : -9223372036854775808 ≤ most) (hm2 : most ≤ 9223372036854775807) (hM : Mtr w mg 1073741824 0 0 0) (hu : unp ≤ 20000) :
    Calls Try.prog 19 #[.int .i64 most, .int .i64 unp, .pointer (some ⟨mg, 0, none⟩), .string s] w fun e w' => e = pkRet (pkNext most unp s) ∧ (∃ u q, Mtr w' mg 1073741824 u (pkNext most unp s).2.2.2.2 q) ∧ Only [mg] w w' := by
  by_cases hx : (plNext most s).1 ≠ 0 ∨ (sSize (plNext most s).2.2.1).2.2 ≠ 0 ∨ unp < (sSize (plNext most s).2.2.1).1
  · have hz : (pkNext most unp s).2.2.2.2 = 0 := by
      rw [pkNext_eq]
      by_cases h0 : (plNext most s).1 ≠ 0
      · rw [if_pos h0]
      · rw [if_neg h0]
        by_cases h1 : (sSize (plNext most s).2.2.1).2.2 ≠ 0
        · rw [if_pos h1]
        · rw [if_neg h1, if_pos (by rcases hx with h | h | h; exact absurd h h0; exact absurd h h1; exact h)]
    rw [hz]
    exact (packedNext_no most unp mg s w hs hm1 hm2 hx).mono fun e w' ⟨he, ho⟩ => ⟨he, ⟨0, 0, hM.only ho (by simp)⟩, ho.mono (by simp)⟩
  · have h0 : (plNext most s).1 = 0 := Decidable.byContradiction fun h => hx (.inl h)
    have h1 : (sSize (plNext most s).2.2.1).2.2 = 0 := Decidable.byContradiction fun h => hx (.inr (.inl h))
    have h2 : ((sSize (plNext most s).2.2.1).1 : Int) ≤ unp := by
      have : ¬ unp < (sSize (plNext most s).2.2.1).1 := fun h => hx (.inr (.inr h))
      omega
    have hz : (pkNext most unp s).2.2.2.2 = (sSize (plNext most s).2.2.1).1 := by
      rw [pkNext_eq, if_neg (by rw [h0]; simp), if_neg (by rw [h1]; simp), if_neg (by omega)]
      split <;> rfl
    rw [hz]
    refine (packedNext_ok most unp mg 1073741824 0 0 0 s w hs hm1 hm2 hM (by omega) h0 h1 h2 (by omega) (by omega)).mono fun e w' ⟨he, ⟨q, hm⟩, ho⟩ => ⟨he, ⟨(sSize (plNext most s).2.2.1).1, q, ?_⟩, ho⟩
    simp only [Nat.zero_add] at hm
    exact hm

set_option maxRecDepth 100000 in
set_option maxHeartbeats 4000000 in
theorem packedReads_w (most unp : Int) (s : ByteArray) (cut : Nat) (w : World) (hs : s.size ≤ 9223372036854775807) (hm1 : -9223372036854775808 ≤ most) (hm2 : most ≤ 9223372036854775807) (hcut : cut ≤ 65535) :
    Calls Try.prog 7 #[.int .i64 most, .int .i64 unp, .string s, .int .u16 cut] w fun e w' => e = .returned (.bool true) ∧ Below w.heap.size w w' := by
  by_cases h1 : 1000 < s.size
  · go_enter Try.func7, Try.ntmps7
    go_wp2_with fail
    refine (packedAlive w).mono ?_
    rintro e w1 ⟨rfl, hb⟩
    have hz1 := hb.size
    go_wp2
    go_ret
    exact ⟨rfl, hb⟩
  · by_cases h2 : 20000 < unp
    · go_enter Try.func7, Try.ntmps7
      go_wp2_with fail
      refine (packedAlive w).mono ?_
      rintro e w1 ⟨rfl, hb⟩
      have hz1 := hb.size
      go_wp2
      go_ret
      exact ⟨rfl, hb⟩
    · have HN := Lib.hid (fun mg w hM => packedNext_any most unp mg s w hs hm1 hm2 hM (by omega))
      have HR := Lib.hid (fun w => refPackedNext_c most unp s w hs hm1 hm2)
      obtain ⟨c, hc, hcs, hways⟩ : ∃ c : Nat, c ≤ s.size ∧ min cut s.size = c ∧ ((cut < s.size ∧ c = cut) ∨ (s.size ≤ cut ∧ c = s.size)) := ⟨min cut s.size, by omega, rfl, by omega⟩
      have HP := Lib.hid (fun mg w hM => packedNext_any most unp mg (s.extract 0 c) w (by rw [size_cut _ _ _ hc]; omega) hm1 hm2 hM (by omega))
      have hpre := pkNext_pre most unp s c hc
      generalize pkNext most unp (s.extract 0 c) = Y at *
      generalize pkNext most unp s = X at *
      obtain ⟨er, id, bo, sz, me⟩ := X
      dsimp only at *
      have n2 := str_ways bo bo
      simp only [ne_eq, not_true_eq_false, false_and, or_false, true_and] at n2
      obtain ⟨n2, n4⟩ := n2
      have n5 : (er == er) = true := by simp
      have n6 : (er != er) = false := by simp
      clear hcs
      rcases hpre with hY | ⟨hne, hY⟩
      · subst hY
        rcases hways with ⟨hw1, rfl⟩ | ⟨hw1, rfl⟩
        · have emin : min (c : Int) (s.size : Int) = c := by omega
          have emin2 : ((c : Nat) : Int).toNat = c := by omega
          go_enter Try.func7, Try.ntmps7
          go_wp2_with fail
          refine (packedAlive w).mono ?_
          rintro e w1 ⟨rfl, hb⟩
          have hz1 := hb.size
          go_wp2_with fail
          refine (meterNew_c _ w1).mono ?_
          rintro e w4 ⟨rfl, hw4⟩
          have hM : Mtr w4 w1.heap.size 1073741824 0 0 0 := by rw [hw4]; exact Blk.new w1 _ _
          have hW4 : Below w.heap.size w w4 := by rw [hw4]; exact hb.alloc (by omega) _
          have hz4 : w1.heap.size < w4.heap.size := by rw [hw4]; simp
          clear hw4 hb
          go_wp2_with fail
          refine (HN.out _ _ hM).mono ?_
          rintro e w5 ⟨rfl, ⟨u, q, hM5⟩, ho5⟩
          have hz5 := ho5.size
          have hW5 : Below w.heap.size w w5 := hW4.trans (ho5.below (by omega) (by simp; omega))
          unfold pkRet
          dsimp only at hM5 ⊢
          clear hM ho5 hW4
          go_wp2_with fail
          refine (HR.out _).mono ?_
          rintro e w6 ⟨rfl, hb6⟩
          unfold pkRef
          dsimp only
          have hM6 : Mtr w6 w1.heap.size 1073741824 u me q := (hM5.alloc _).only (Only.of_below hb6 (Nat.le_refl _)) (by simp)
          have hF6 : Blk w6 w5.heap.size 42 #[.int .u64 id, .string ⟨#[]⟩, .string bo] := (hb6.block w5.heap.size (by simp)).trans (Blk.new w5 _ _)
          have hz6 := hb6.size
          simp only [World.size_alloc] at hz6
          have hW6 : Below w.heap.size w w6 := (hW5.alloc (by omega) _).trans (hb6.mono (by simp; omega))
          have c0 : ∀ o, (w6.alloc o).cell? ⟨w5.heap.size, 0, none⟩ = some (.int .u64 id) := fun o => (hF6.alloc o).cell 0
          have c1 : ∀ o, (w6.alloc o).cell? ⟨w5.heap.size, 1, none⟩ = some (.string ⟨#[]⟩) := fun o => (hF6.alloc o).cell 1
          have c2 : ∀ o, (w6.alloc o).cell? ⟨w5.heap.size, 2, none⟩ = some (.string bo) := fun o => (hF6.alloc o).cell 2
          clear hM5 hW5 hb6
          go_wp2_with fail
          refine (taken_c _ _ _ _ _ _ (hM6.alloc _)).mono ?_
          rintro e w' ⟨rfl, rfl⟩
          go_wp2_with fail
          refine (meterNew_c _ _).mono ?_
          rintro e w7 ⟨rfl, hw7⟩
          have hM7 : Mtr w7 (w6.heap.size + 1) 1073741824 0 0 0 := by rw [hw7]; have := Blk.new (w6.alloc (.cells #[.int .u64 id, .string ⟨#[]⟩, .string bo] 42)) 68 #[.int .i64 1073741824, .int .i64 0, .int .i64 0, .int .i64 0]; rw [World.size_alloc] at this; exact this
          have hF7 : Blk w7 w5.heap.size 42 #[.int .u64 id, .string ⟨#[]⟩, .string bo] := by rw [hw7]; exact (hF6.alloc _).alloc _
          have hW7 : Below w.heap.size w w7 := by rw [hw7]; exact (hW6.alloc (by omega) _).alloc (by simp; omega) _
          have hz7 : w7.heap.size = w6.heap.size + 2 := by rw [hw7]; simp
          rw [World.size_alloc]
          clear hw7 hM6 hF6 hW6 c0 c1 c2
          go_wp2_with fail
          refine (HP.out _ _ hM7).mono ?_
          rintro e w8 ⟨rfl, ⟨u8, q8, hM8⟩, ho8⟩
          have hz8 := ho8.size
          have hF8 := hF7.only ho8 (by simp; omega)
          have hW8 : Below w.heap.size w w8 := hW7.trans (ho8.below (by omega) (by simp; omega))
          have c0 : ∀ o, (w8.alloc o).cell? ⟨w5.heap.size, 0, none⟩ = some (.int .u64 id) := fun o => (hF8.alloc o).cell 0
          have c1 : ∀ o, (w8.alloc o).cell? ⟨w5.heap.size, 1, none⟩ = some (.string ⟨#[]⟩) := fun o => (hF8.alloc o).cell 1
          have c2 : ∀ o, (w8.alloc o).cell? ⟨w5.heap.size, 2, none⟩ = some (.string bo) := fun o => (hF8.alloc o).cell 2
          unfold pkRet
          dsimp only at hM8 ⊢
          clear hM7 hF7 hW7 ho8
          go_wp2_with fail
          refine (taken_c _ _ _ _ _ _ (hM8.alloc _)).mono ?_
          rintro e w' ⟨rfl, rfl⟩
          go_wp2
          go_ret
          exact ⟨rfl, hW8.alloc (by omega) _⟩
        · have emin : min (cut : Int) (s.size : Int) = s.size := by omega
          rw [cut_all] at HP
          go_enter Try.func7, Try.ntmps7
          go_wp2_with fail
          refine (packedAlive w).mono ?_
          rintro e w1 ⟨rfl, hb⟩
          have hz1 := hb.size
          go_wp2_with fail
          refine (meterNew_c _ w1).mono ?_
          rintro e w4 ⟨rfl, hw4⟩
          have hM : Mtr w4 w1.heap.size 1073741824 0 0 0 := by rw [hw4]; exact Blk.new w1 _ _
          have hW4 : Below w.heap.size w w4 := by rw [hw4]; exact hb.alloc (by omega) _
          have hz4 : w1.heap.size < w4.heap.size := by rw [hw4]; simp
          clear hw4 hb
          go_wp2_with fail
          refine (HN.out _ _ hM).mono ?_
          rintro e w5 ⟨rfl, ⟨u, q, hM5⟩, ho5⟩
          have hz5 := ho5.size
          have hW5 : Below w.heap.size w w5 := hW4.trans (ho5.below (by omega) (by simp; omega))
          unfold pkRet
          dsimp only at hM5 ⊢
          clear hM ho5 hW4
          go_wp2_with fail
          refine (HR.out _).mono ?_
          rintro e w6 ⟨rfl, hb6⟩
          unfold pkRef
          dsimp only
          have hM6 : Mtr w6 w1.heap.size 1073741824 u me q := (hM5.alloc _).only (Only.of_below hb6 (Nat.le_refl _)) (by simp)
          have hF6 : Blk w6 w5.heap.size 42 #[.int .u64 id, .string ⟨#[]⟩, .string bo] := (hb6.block w5.heap.size (by simp)).trans (Blk.new w5 _ _)
          have hz6 := hb6.size
          simp only [World.size_alloc] at hz6
          have hW6 : Below w.heap.size w w6 := (hW5.alloc (by omega) _).trans (hb6.mono (by simp; omega))
          have c0 : ∀ o, (w6.alloc o).cell? ⟨w5.heap.size, 0, none⟩ = some (.int .u64 id) := fun o => (hF6.alloc o).cell 0
          have c1 : ∀ o, (w6.alloc o).cell? ⟨w5.heap.size, 1, none⟩ = some (.string ⟨#[]⟩) := fun o => (hF6.alloc o).cell 1
          have c2 : ∀ o, (w6.alloc o).cell? ⟨w5.heap.size, 2, none⟩ = some (.string bo) := fun o => (hF6.alloc o).cell 2
          clear hM5 hW5 hb6
          go_wp2_with fail
          refine (taken_c _ _ _ _ _ _ (hM6.alloc _)).mono ?_
          rintro e w' ⟨rfl, rfl⟩
          go_wp2_with fail
          refine (meterNew_c _ _).mono ?_
          rintro e w7 ⟨rfl, hw7⟩
          have hM7 : Mtr w7 (w6.heap.size + 1) 1073741824 0 0 0 := by rw [hw7]; have := Blk.new (w6.alloc (.cells #[.int .u64 id, .string ⟨#[]⟩, .string bo] 42)) 68 #[.int .i64 1073741824, .int .i64 0, .int .i64 0, .int .i64 0]; rw [World.size_alloc] at this; exact this
          have hF7 : Blk w7 w5.heap.size 42 #[.int .u64 id, .string ⟨#[]⟩, .string bo] := by rw [hw7]; exact (hF6.alloc _).alloc _
          have hW7 : Below w.heap.size w w7 := by rw [hw7]; exact (hW6.alloc (by omega) _).alloc (by simp; omega) _
          have hz7 : w7.heap.size = w6.heap.size + 2 := by rw [hw7]; simp
          rw [World.size_alloc]
          clear hw7 hM6 hF6 hW6 c0 c1 c2
          go_wp2_with fail
          refine (HP.out _ _ hM7).mono ?_
          rintro e w8 ⟨rfl, ⟨u8, q8, hM8⟩, ho8⟩
          have hz8 := ho8.size
          have hF8 := hF7.only ho8 (by simp; omega)
          have hW8 : Below w.heap.size w w8 := hW7.trans (ho8.below (by omega) (by simp; omega))
          have c0 : ∀ o, (w8.alloc o).cell? ⟨w5.heap.size, 0, none⟩ = some (.int .u64 id) := fun o => (hF8.alloc o).cell 0
          have c1 : ∀ o, (w8.alloc o).cell? ⟨w5.heap.size, 1, none⟩ = some (.string ⟨#[]⟩) := fun o => (hF8.alloc o).cell 1
          have c2 : ∀ o, (w8.alloc o).cell? ⟨w5.heap.size, 2, none⟩ = some (.string bo) := fun o => (hF8.alloc o).cell 2
          unfold pkRet
          dsimp only at hM8 ⊢
          clear hM7 hF7 hW7 ho8
          go_wp2_with fail
          refine (taken_c _ _ _ _ _ _ (hM8.alloc _)).mono ?_
          rintro e w' ⟨rfl, rfl⟩
          go_wp2
          go_ret
          exact ⟨rfl, hW8.alloc (by omega) _⟩
      · subst hY
        have n7 : (er == 2) = false := beq_eq_false_iff_ne.2 hne
        clear hne
        rcases hways with ⟨hw1, rfl⟩ | ⟨hw1, rfl⟩
        · have emin : min (c : Int) (s.size : Int) = c := by omega
          have emin2 : ((c : Nat) : Int).toNat = c := by omega
          go_enter Try.func7, Try.ntmps7
          go_wp2_with fail
          refine (packedAlive w).mono ?_
          rintro e w1 ⟨rfl, hb⟩
          have hz1 := hb.size
          go_wp2_with fail
          refine (meterNew_c _ w1).mono ?_
          rintro e w4 ⟨rfl, hw4⟩
          have hM : Mtr w4 w1.heap.size 1073741824 0 0 0 := by rw [hw4]; exact Blk.new w1 _ _
          have hW4 : Below w.heap.size w w4 := by rw [hw4]; exact hb.alloc (by omega) _
          have hz4 : w1.heap.size < w4.heap.size := by rw [hw4]; simp
          clear hw4 hb
          go_wp2_with fail
          refine (HN.out _ _ hM).mono ?_
          rintro e w5 ⟨rfl, ⟨u, q, hM5⟩, ho5⟩
          have hz5 := ho5.size
          have hW5 : Below w.heap.size w w5 := hW4.trans (ho5.below (by omega) (by simp; omega))
          unfold pkRet
          dsimp only at hM5 ⊢
          clear hM ho5 hW4
          go_wp2_with fail
          refine (HR.out _).mono ?_
          rintro e w6 ⟨rfl, hb6⟩
          unfold pkRef
          dsimp only
          have hM6 : Mtr w6 w1.heap.size 1073741824 u me q := (hM5.alloc _).only (Only.of_below hb6 (Nat.le_refl _)) (by simp)
          have hF6 : Blk w6 w5.heap.size 42 #[.int .u64 id, .string ⟨#[]⟩, .string bo] := (hb6.block w5.heap.size (by simp)).trans (Blk.new w5 _ _)
          have hz6 := hb6.size
          simp only [World.size_alloc] at hz6
          have hW6 : Below w.heap.size w w6 := (hW5.alloc (by omega) _).trans (hb6.mono (by simp; omega))
          have c0 : ∀ o, (w6.alloc o).cell? ⟨w5.heap.size, 0, none⟩ = some (.int .u64 id) := fun o => (hF6.alloc o).cell 0
          have c1 : ∀ o, (w6.alloc o).cell? ⟨w5.heap.size, 1, none⟩ = some (.string ⟨#[]⟩) := fun o => (hF6.alloc o).cell 1
          have c2 : ∀ o, (w6.alloc o).cell? ⟨w5.heap.size, 2, none⟩ = some (.string bo) := fun o => (hF6.alloc o).cell 2
          clear hM5 hW5 hb6
          go_wp2_with fail
          refine (taken_c _ _ _ _ _ _ (hM6.alloc _)).mono ?_
          rintro e w' ⟨rfl, rfl⟩
          go_wp2_with fail
          refine (meterNew_c _ _).mono ?_
          rintro e w7 ⟨rfl, hw7⟩
          have hM7 : Mtr w7 (w6.heap.size + 1) 1073741824 0 0 0 := by rw [hw7]; have := Blk.new (w6.alloc (.cells #[.int .u64 id, .string ⟨#[]⟩, .string bo] 42)) 68 #[.int .i64 1073741824, .int .i64 0, .int .i64 0, .int .i64 0]; rw [World.size_alloc] at this; exact this
          have hF7 : Blk w7 w5.heap.size 42 #[.int .u64 id, .string ⟨#[]⟩, .string bo] := by rw [hw7]; exact (hF6.alloc _).alloc _
          have hW7 : Below w.heap.size w w7 := by rw [hw7]; exact (hW6.alloc (by omega) _).alloc (by simp; omega) _
          have hz7 : w7.heap.size = w6.heap.size + 2 := by rw [hw7]; simp
          rw [World.size_alloc]
          clear hw7 hM6 hF6 hW6 c0 c1 c2
          go_wp2_with fail
          refine (HP.out _ _ hM7).mono ?_
          rintro e w8 ⟨rfl, ⟨u8, q8, hM8⟩, ho8⟩
          have hz8 := ho8.size
          have hF8 := hF7.only ho8 (by simp; omega)
          have hW8 : Below w.heap.size w w8 := hW7.trans (ho8.below (by omega) (by simp; omega))
          have c0 : ∀ o, (w8.alloc o).cell? ⟨w5.heap.size, 0, none⟩ = some (.int .u64 id) := fun o => (hF8.alloc o).cell 0
          have c1 : ∀ o, (w8.alloc o).cell? ⟨w5.heap.size, 1, none⟩ = some (.string ⟨#[]⟩) := fun o => (hF8.alloc o).cell 1
          have c2 : ∀ o, (w8.alloc o).cell? ⟨w5.heap.size, 2, none⟩ = some (.string bo) := fun o => (hF8.alloc o).cell 2
          unfold pkRet
          dsimp only at hM8 ⊢
          clear hM7 hF7 hW7 ho8
          go_wp2_with fail
          refine (taken_c _ _ _ _ _ _ (hM8.alloc _)).mono ?_
          rintro e w' ⟨rfl, rfl⟩
          go_wp2
          go_ret
          exact ⟨rfl, hW8.alloc (by omega) _⟩
        · have emin : min (cut : Int) (s.size : Int) = s.size := by omega
          rw [cut_all] at HP
          go_enter Try.func7, Try.ntmps7
          go_wp2_with fail
          refine (packedAlive w).mono ?_
          rintro e w1 ⟨rfl, hb⟩
          have hz1 := hb.size
          go_wp2_with fail
          refine (meterNew_c _ w1).mono ?_
          rintro e w4 ⟨rfl, hw4⟩
          have hM : Mtr w4 w1.heap.size 1073741824 0 0 0 := by rw [hw4]; exact Blk.new w1 _ _
          have hW4 : Below w.heap.size w w4 := by rw [hw4]; exact hb.alloc (by omega) _
          have hz4 : w1.heap.size < w4.heap.size := by rw [hw4]; simp
          clear hw4 hb
          go_wp2_with fail
          refine (HN.out _ _ hM).mono ?_
          rintro e w5 ⟨rfl, ⟨u, q, hM5⟩, ho5⟩
          have hz5 := ho5.size
          have hW5 : Below w.heap.size w w5 := hW4.trans (ho5.below (by omega) (by simp; omega))
          unfold pkRet
          dsimp only at hM5 ⊢
          clear hM ho5 hW4
          go_wp2_with fail
          refine (HR.out _).mono ?_
          rintro e w6 ⟨rfl, hb6⟩
          unfold pkRef
          dsimp only
          have hM6 : Mtr w6 w1.heap.size 1073741824 u me q := (hM5.alloc _).only (Only.of_below hb6 (Nat.le_refl _)) (by simp)
          have hF6 : Blk w6 w5.heap.size 42 #[.int .u64 id, .string ⟨#[]⟩, .string bo] := (hb6.block w5.heap.size (by simp)).trans (Blk.new w5 _ _)
          have hz6 := hb6.size
          simp only [World.size_alloc] at hz6
          have hW6 : Below w.heap.size w w6 := (hW5.alloc (by omega) _).trans (hb6.mono (by simp; omega))
          have c0 : ∀ o, (w6.alloc o).cell? ⟨w5.heap.size, 0, none⟩ = some (.int .u64 id) := fun o => (hF6.alloc o).cell 0
          have c1 : ∀ o, (w6.alloc o).cell? ⟨w5.heap.size, 1, none⟩ = some (.string ⟨#[]⟩) := fun o => (hF6.alloc o).cell 1
          have c2 : ∀ o, (w6.alloc o).cell? ⟨w5.heap.size, 2, none⟩ = some (.string bo) := fun o => (hF6.alloc o).cell 2
          clear hM5 hW5 hb6
          go_wp2_with fail
          refine (taken_c _ _ _ _ _ _ (hM6.alloc _)).mono ?_
          rintro e w' ⟨rfl, rfl⟩
          go_wp2_with fail
          refine (meterNew_c _ _).mono ?_
          rintro e w7 ⟨rfl, hw7⟩
          have hM7 : Mtr w7 (w6.heap.size + 1) 1073741824 0 0 0 := by rw [hw7]; have := Blk.new (w6.alloc (.cells #[.int .u64 id, .string ⟨#[]⟩, .string bo] 42)) 68 #[.int .i64 1073741824, .int .i64 0, .int .i64 0, .int .i64 0]; rw [World.size_alloc] at this; exact this
          have hF7 : Blk w7 w5.heap.size 42 #[.int .u64 id, .string ⟨#[]⟩, .string bo] := by rw [hw7]; exact (hF6.alloc _).alloc _
          have hW7 : Below w.heap.size w w7 := by rw [hw7]; exact (hW6.alloc (by omega) _).alloc (by simp; omega) _
          have hz7 : w7.heap.size = w6.heap.size + 2 := by rw [hw7]; simp
          rw [World.size_alloc]
          clear hw7 hM6 hF6 hW6 c0 c1 c2
          go_wp2_with fail
          refine (HP.out _ _ hM7).mono ?_
          rintro e w8 ⟨rfl, ⟨u8, q8, hM8⟩, ho8⟩
          have hz8 := ho8.size
          have hF8 := hF7.only ho8 (by simp; omega)
          have hW8 : Below w.heap.size w w8 := hW7.trans (ho8.below (by omega) (by simp; omega))
          have c0 : ∀ o, (w8.alloc o).cell? ⟨w5.heap.size, 0, none⟩ = some (.int .u64 id) := fun o => (hF8.alloc o).cell 0
          have c1 : ∀ o, (w8.alloc o).cell? ⟨w5.heap.size, 1, none⟩ = some (.string ⟨#[]⟩) := fun o => (hF8.alloc o).cell 1
          have c2 : ∀ o, (w8.alloc o).cell? ⟨w5.heap.size, 2, none⟩ = some (.string bo) := fun o => (hF8.alloc o).cell 2
          unfold pkRet
          dsimp only at hM8 ⊢
          clear hM7 hF7 hW7 ho8
          go_wp2_with fail
          refine (taken_c _ _ _ _ _ _ (hM8.alloc _)).mono ?_
          rintro e w' ⟨rfl, rfl⟩
          go_wp2
          go_ret
          exact ⟨rfl, hW8.alloc (by omega) _⟩
theorem packedReads_row (most unp : Int) (s : ByteArray) (cut : Int) (w : World) (hm : (Lit.int .i64 most).wf = true) (_ : (Lit.int .i64 unp).wf = true) (hs : s.size ≤ maxLen) (hc : (Lit.int .u16 cut).wf = true) :
    Calls Try.prog 7 #[.int .i64 most, .int .i64 unp, .string s, .int .u16 cut] w fun e w' => e = .returned (.bool true) ∧ Below w.heap.size w w' := by
  have h1 : 0 ≤ cut ∧ cut ≤ 65535 := by simpa [Lit.wf, IntKind.min, IntKind.max, IntKind.signed, IntKind.bits] using hc
  have h2 := bounds_i64 hm
  obtain ⟨x, rfl⟩ : ∃ x : Nat, cut = (x : Int) := ⟨cut.toNat, by omega⟩
  exact packedReads_w most unp s x w (by simpa [maxLen] using hs) (by omega) (by omega) (by omega)
end Go.Proofs.Ythbechmkjhkipaa
