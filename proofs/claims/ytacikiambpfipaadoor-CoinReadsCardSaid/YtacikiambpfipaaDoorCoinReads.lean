/- hatchwaylaw14.CoinReads. -/
import Derived.Test.YtacikiambpfipaaDoorCoinPuts
namespace Go.Proofs.YtacikiambpfipaaDoor
set_option linter.unusedVariables false
set_option linter.unusedSimpArgs false
open Go.RowKit

set_option maxRecDepth 100000 in
set_option maxHeartbeats 4000000 in
theorem coinReads_w (m : Nat) (most : Int) (s : ByteArray) (cut : Nat) (w : World) (hm : m < 4294967296) (hs : s.size ≤ 9223372036854775807) (hmo : -9223372036854775808 ≤ most ∧ most ≤ 9223372036854775807) (hcut : cut ≤ 65535) :
    Calls Tryd.prog 5 #[.int .u32 m, .int .i64 most, .string s, .int .u16 cut] w fun e w' => e = .returned (.bool true) ∧ Below w.heap.size w w' := by
  have HA := Lib.hid coinAlive
  by_cases h1 : 1000 < s.size
  · go_enter Tryd.func5, Tryd.ntmps5
    go_wp2_with fail
    refine (HA.out _).mono ?_
    rintro e w1 ⟨rfl, hb⟩
    have hz1 := hb.size
    go_wp2
    go_ret
    exact ⟨rfl, hb⟩
  have HN := Lib.hid (fun w => coinNext_c m most s w hm (by omega) hmo)
  have HR := Lib.hid (fun w => ref14Next_c m most s w hm (by omega) hmo)
  obtain ⟨c, hc, hcs, hways⟩ : ∃ c : Nat, c ≤ s.size ∧ min cut s.size = c ∧ ((cut ≤ s.size ∧ c = cut) ∨ (s.size < cut ∧ c = s.size)) := ⟨min cut s.size, by omega, rfl, by omega⟩
  have HP := Lib.hid (fun w => coinNext_c m most (s.extract 0 c) w hm (by rw [size_cut _ _ _ hc]; omega) hmo)
  have hpre := cnNext_cut m most s c hc
  have hput := cnPut_next m most s (cnNext m most s).2.1 (cnNext m most s).2.2.1 (cnNext m most s).2.2.2
  have HK := Lib.hid makeKey_c
  unfold keyV at HK HR
  generalize kC 64 = KL at *
  generalize cnNext m most (s.extract 0 c) = Y at *
  generalize cnNext m most s = X at *
  obtain ⟨er, nm, bo, sz⟩ := X
  obtain ⟨er', nm', bo', sz'⟩ := Y
  dsimp only at *
  unfold cnRet at HN HR HP
  dsimp only at HN HR HP
  have n2 := str_ways bo bo
  have n5 := str_ways nm nm
  simp only [ne_eq, not_true_eq_false, false_and, or_false, true_and] at n2 n5
  obtain ⟨n2, n4⟩ := n2
  obtain ⟨n5, n6⟩ := n5
  have n7 : (er == er) = true := by simp
  have n8 : (er != er) = false := by simp
  clear hcs
  rcases hways with ⟨hw1, rfl⟩ | ⟨hw1, rfl⟩
  · have emin : min (c : Int) (s.size : Int) = c := by omega
    have emin2 : ((c : Nat) : Int).toNat = c := by omega
    rcases hpre with h2 | h2
    · subst h2
      by_cases h0 : er = 0
      · subst h0
        obtain ⟨p1, p2, p3, p4, p5, p6⟩ := hput rfl
        clear hput
        have HQ := Lib.hid (fun w => coinPut_c m nm bo w hm p1 (by omega))
        rw [p6] at HQ
        have m1 := str_ways (s.extract 0 sz) (s.extract 0 sz)
        simp only [ne_eq, not_true_eq_false, false_and, or_false, true_and] at m1
        obtain ⟨m1, m2⟩ := m1
        have p7 : ¬ (s.size < sz) := by omega
        have p8 : sz ≤ s.size := p4
        clear p1 p2 p3 p6
        have p9 : ((sz : Int) ≤ s.size) := by omega
        go_enter Tryd.func5, Tryd.ntmps5
        go_wp2_with fail
        refine (HA.out _).mono ?_
        rintro e w1 ⟨rfl, hb⟩
        have hz1 := hb.size
        go_wp2_with fail
        refine (HN.out _).mono ?_
        rintro e w2 ⟨rfl, hb2⟩
        have hb' := hb.trans (hb2.mono hz1)
        have hz2 := hb'.size
        clear hb hb2
        go_wp2_with fail
        refine (HK.out _).mono ?_
        rintro e w3 ⟨rfl, hb3⟩
        have hF3 : Blk w3 w2.heap.size 41 #[.int .u64 0, .string nm, .string bo] := (hb3.block w2.heap.size (by simp)).trans (Blk.new w2 _ _)
        have hW3 : Below w.heap.size w w3 := (hb'.alloc (by omega) _).trans (hb3.mono (by simp; omega))
        have hz3 := hb3.size
        simp only [World.size_alloc] at hz3
        clear hb3 hb'
        go_wp2_with fail
        refine (HR.out _).mono ?_
        rintro e w4 ⟨rfl, hb4⟩
        have hF4 : Blk w4 w2.heap.size 41 #[.int .u64 0, .string nm, .string bo] := (hb4.block w2.heap.size (by omega)).trans hF3
        have hW4 : Below w.heap.size w w4 := hW3.trans (hb4.mono (by omega))
        have hz4 := hb4.size
        have c0 : ∀ o, (w4.alloc o).cell? ⟨w2.heap.size, 0, none⟩ = some (.int .u64 0) := fun o => (hF4.alloc o).cell 0
        have c1 : ∀ o, (w4.alloc o).cell? ⟨w2.heap.size, 1, none⟩ = some (.string nm) := fun o => (hF4.alloc o).cell 1
        have c2 : ∀ o, (w4.alloc o).cell? ⟨w2.heap.size, 2, none⟩ = some (.string bo) := fun o => (hF4.alloc o).cell 2
        clear hF3 hW3 hb4
        go_wp2_with fail
        refine (HP.out _).mono ?_
        rintro e w5 ⟨rfl, hb5⟩
        have hz5 := hb5.size
        simp only [World.size_alloc] at hz5
        have hF5 : Blk w5 w2.heap.size 41 #[.int .u64 0, .string nm, .string bo] := (hb5.block w2.heap.size (by simp; omega)).trans (hF4.alloc _)
        have hW5 : Below w.heap.size w w5 := (hW4.alloc (by omega) _).trans (hb5.mono (by simp; omega))
        clear c0 c1 c2 hF4 hW4 hb5
        have c0 : ∀ o, (w5.alloc o).cell? ⟨w2.heap.size, 0, none⟩ = some (.int .u64 0) := fun o => (hF5.alloc o).cell 0
        have c1 : ∀ o, (w5.alloc o).cell? ⟨w2.heap.size, 1, none⟩ = some (.string nm) := fun o => (hF5.alloc o).cell 1
        have c2 : ∀ o, (w5.alloc o).cell? ⟨w2.heap.size, 2, none⟩ = some (.string bo) := fun o => (hF5.alloc o).cell 2
        have hW6 : Hid (∀ o, Below w.heap.size w (w5.alloc o)) := Lib.hid (fun o => hW5.alloc (by omega) _)
        clear hF5
        go_wp2_with fail
        refine (HQ.out _).mono ?_
        rintro e w6 ⟨rfl, hb6⟩
        go_wp2
        go_ret
        exact ⟨rfl, (hW6.out _).trans (hb6.mono (by simp; omega))⟩
      · clear hput
        have h0' : (er != 0) = true := bne_iff_ne.2 h0
        go_enter Tryd.func5, Tryd.ntmps5
        go_wp2_with fail
        refine (HA.out _).mono ?_
        rintro e w1 ⟨rfl, hb⟩
        have hz1 := hb.size
        go_wp2_with fail
        refine (HN.out _).mono ?_
        rintro e w2 ⟨rfl, hb2⟩
        have hb' := hb.trans (hb2.mono hz1)
        have hz2 := hb'.size
        clear hb hb2
        go_wp2_with fail
        refine (HK.out _).mono ?_
        rintro e w3 ⟨rfl, hb3⟩
        have hF3 : Blk w3 w2.heap.size 41 #[.int .u64 0, .string nm, .string bo] := (hb3.block w2.heap.size (by simp)).trans (Blk.new w2 _ _)
        have hW3 : Below w.heap.size w w3 := (hb'.alloc (by omega) _).trans (hb3.mono (by simp; omega))
        have hz3 := hb3.size
        simp only [World.size_alloc] at hz3
        clear hb3 hb'
        go_wp2_with fail
        refine (HR.out _).mono ?_
        rintro e w4 ⟨rfl, hb4⟩
        have hF4 : Blk w4 w2.heap.size 41 #[.int .u64 0, .string nm, .string bo] := (hb4.block w2.heap.size (by omega)).trans hF3
        have hW4 : Below w.heap.size w w4 := hW3.trans (hb4.mono (by omega))
        have hz4 := hb4.size
        have c0 : ∀ o, (w4.alloc o).cell? ⟨w2.heap.size, 0, none⟩ = some (.int .u64 0) := fun o => (hF4.alloc o).cell 0
        have c1 : ∀ o, (w4.alloc o).cell? ⟨w2.heap.size, 1, none⟩ = some (.string nm) := fun o => (hF4.alloc o).cell 1
        have c2 : ∀ o, (w4.alloc o).cell? ⟨w2.heap.size, 2, none⟩ = some (.string bo) := fun o => (hF4.alloc o).cell 2
        clear hF3 hW3 hb4
        go_wp2_with fail
        refine (HP.out _).mono ?_
        rintro e w5 ⟨rfl, hb5⟩
        have hz5 := hb5.size
        simp only [World.size_alloc] at hz5
        have hF5 : Blk w5 w2.heap.size 41 #[.int .u64 0, .string nm, .string bo] := (hb5.block w2.heap.size (by simp; omega)).trans (hF4.alloc _)
        have hW5 : Below w.heap.size w w5 := (hW4.alloc (by omega) _).trans (hb5.mono (by simp; omega))
        clear c0 c1 c2 hF4 hW4 hb5
        have c0 : ∀ o, (w5.alloc o).cell? ⟨w2.heap.size, 0, none⟩ = some (.int .u64 0) := fun o => (hF5.alloc o).cell 0
        have c1 : ∀ o, (w5.alloc o).cell? ⟨w2.heap.size, 1, none⟩ = some (.string nm) := fun o => (hF5.alloc o).cell 1
        have c2 : ∀ o, (w5.alloc o).cell? ⟨w2.heap.size, 2, none⟩ = some (.string bo) := fun o => (hF5.alloc o).cell 2
        have hW6 : Hid (∀ o, Below w.heap.size w (w5.alloc o)) := Lib.hid (fun o => hW5.alloc (by omega) _)
        clear hF5
        go_wp2
        go_ret
        exact ⟨rfl, hW6.out _⟩
    · by_cases h3 : er' = 2
      · subst h3
        clear h2
        by_cases h0 : er = 0
        · subst h0
          obtain ⟨p1, p2, p3, p4, p5, p6⟩ := hput rfl
          clear hput
          have HQ := Lib.hid (fun w => coinPut_c m nm bo w hm p1 (by omega))
          rw [p6] at HQ
          have m1 := str_ways (s.extract 0 sz) (s.extract 0 sz)
          simp only [ne_eq, not_true_eq_false, false_and, or_false, true_and] at m1
          obtain ⟨m1, m2⟩ := m1
          have p7 : ¬ (s.size < sz) := by omega
          have p8 : sz ≤ s.size := p4
          clear p1 p2 p3 p6
          have p9 : ((sz : Int) ≤ s.size) := by omega
          go_enter Tryd.func5, Tryd.ntmps5
          go_wp2_with fail
          refine (HA.out _).mono ?_
          rintro e w1 ⟨rfl, hb⟩
          have hz1 := hb.size
          go_wp2_with fail
          refine (HN.out _).mono ?_
          rintro e w2 ⟨rfl, hb2⟩
          have hb' := hb.trans (hb2.mono hz1)
          have hz2 := hb'.size
          clear hb hb2
          go_wp2_with fail
          refine (HK.out _).mono ?_
          rintro e w3 ⟨rfl, hb3⟩
          have hF3 : Blk w3 w2.heap.size 41 #[.int .u64 0, .string nm, .string bo] := (hb3.block w2.heap.size (by simp)).trans (Blk.new w2 _ _)
          have hW3 : Below w.heap.size w w3 := (hb'.alloc (by omega) _).trans (hb3.mono (by simp; omega))
          have hz3 := hb3.size
          simp only [World.size_alloc] at hz3
          clear hb3 hb'
          go_wp2_with fail
          refine (HR.out _).mono ?_
          rintro e w4 ⟨rfl, hb4⟩
          have hF4 : Blk w4 w2.heap.size 41 #[.int .u64 0, .string nm, .string bo] := (hb4.block w2.heap.size (by omega)).trans hF3
          have hW4 : Below w.heap.size w w4 := hW3.trans (hb4.mono (by omega))
          have hz4 := hb4.size
          have c0 : ∀ o, (w4.alloc o).cell? ⟨w2.heap.size, 0, none⟩ = some (.int .u64 0) := fun o => (hF4.alloc o).cell 0
          have c1 : ∀ o, (w4.alloc o).cell? ⟨w2.heap.size, 1, none⟩ = some (.string nm) := fun o => (hF4.alloc o).cell 1
          have c2 : ∀ o, (w4.alloc o).cell? ⟨w2.heap.size, 2, none⟩ = some (.string bo) := fun o => (hF4.alloc o).cell 2
          clear hF3 hW3 hb4
          go_wp2_with fail
          refine (HP.out _).mono ?_
          rintro e w5 ⟨rfl, hb5⟩
          have hz5 := hb5.size
          simp only [World.size_alloc] at hz5
          have hF5 : Blk w5 w2.heap.size 41 #[.int .u64 0, .string nm, .string bo] := (hb5.block w2.heap.size (by simp; omega)).trans (hF4.alloc _)
          have hW5 : Below w.heap.size w w5 := (hW4.alloc (by omega) _).trans (hb5.mono (by simp; omega))
          clear c0 c1 c2 hF4 hW4 hb5
          have c0 : ∀ o, (w5.alloc o).cell? ⟨w2.heap.size, 0, none⟩ = some (.int .u64 0) := fun o => (hF5.alloc o).cell 0
          have c1 : ∀ o, (w5.alloc o).cell? ⟨w2.heap.size, 1, none⟩ = some (.string nm) := fun o => (hF5.alloc o).cell 1
          have c2 : ∀ o, (w5.alloc o).cell? ⟨w2.heap.size, 2, none⟩ = some (.string bo) := fun o => (hF5.alloc o).cell 2
          have hW6 : Hid (∀ o, Below w.heap.size w (w5.alloc o)) := Lib.hid (fun o => hW5.alloc (by omega) _)
          clear hF5
          go_wp2_with fail
          refine (HQ.out _).mono ?_
          rintro e w6 ⟨rfl, hb6⟩
          go_wp2
          go_ret
          exact ⟨rfl, (hW6.out _).trans (hb6.mono (by simp; omega))⟩
        · clear hput
          have h0' : (er != 0) = true := bne_iff_ne.2 h0
          go_enter Tryd.func5, Tryd.ntmps5
          go_wp2_with fail
          refine (HA.out _).mono ?_
          rintro e w1 ⟨rfl, hb⟩
          have hz1 := hb.size
          go_wp2_with fail
          refine (HN.out _).mono ?_
          rintro e w2 ⟨rfl, hb2⟩
          have hb' := hb.trans (hb2.mono hz1)
          have hz2 := hb'.size
          clear hb hb2
          go_wp2_with fail
          refine (HK.out _).mono ?_
          rintro e w3 ⟨rfl, hb3⟩
          have hF3 : Blk w3 w2.heap.size 41 #[.int .u64 0, .string nm, .string bo] := (hb3.block w2.heap.size (by simp)).trans (Blk.new w2 _ _)
          have hW3 : Below w.heap.size w w3 := (hb'.alloc (by omega) _).trans (hb3.mono (by simp; omega))
          have hz3 := hb3.size
          simp only [World.size_alloc] at hz3
          clear hb3 hb'
          go_wp2_with fail
          refine (HR.out _).mono ?_
          rintro e w4 ⟨rfl, hb4⟩
          have hF4 : Blk w4 w2.heap.size 41 #[.int .u64 0, .string nm, .string bo] := (hb4.block w2.heap.size (by omega)).trans hF3
          have hW4 : Below w.heap.size w w4 := hW3.trans (hb4.mono (by omega))
          have hz4 := hb4.size
          have c0 : ∀ o, (w4.alloc o).cell? ⟨w2.heap.size, 0, none⟩ = some (.int .u64 0) := fun o => (hF4.alloc o).cell 0
          have c1 : ∀ o, (w4.alloc o).cell? ⟨w2.heap.size, 1, none⟩ = some (.string nm) := fun o => (hF4.alloc o).cell 1
          have c2 : ∀ o, (w4.alloc o).cell? ⟨w2.heap.size, 2, none⟩ = some (.string bo) := fun o => (hF4.alloc o).cell 2
          clear hF3 hW3 hb4
          go_wp2_with fail
          refine (HP.out _).mono ?_
          rintro e w5 ⟨rfl, hb5⟩
          have hz5 := hb5.size
          simp only [World.size_alloc] at hz5
          have hF5 : Blk w5 w2.heap.size 41 #[.int .u64 0, .string nm, .string bo] := (hb5.block w2.heap.size (by simp; omega)).trans (hF4.alloc _)
          have hW5 : Below w.heap.size w w5 := (hW4.alloc (by omega) _).trans (hb5.mono (by simp; omega))
          clear c0 c1 c2 hF4 hW4 hb5
          have c0 : ∀ o, (w5.alloc o).cell? ⟨w2.heap.size, 0, none⟩ = some (.int .u64 0) := fun o => (hF5.alloc o).cell 0
          have c1 : ∀ o, (w5.alloc o).cell? ⟨w2.heap.size, 1, none⟩ = some (.string nm) := fun o => (hF5.alloc o).cell 1
          have c2 : ∀ o, (w5.alloc o).cell? ⟨w2.heap.size, 2, none⟩ = some (.string bo) := fun o => (hF5.alloc o).cell 2
          have hW6 : Hid (∀ o, Below w.heap.size w (w5.alloc o)) := Lib.hid (fun o => hW5.alloc (by omega) _)
          clear hF5
          go_wp2
          go_ret
          exact ⟨rfl, hW6.out _⟩
      · have h3' : (er' == 2) = false := beq_eq_false_iff_ne.2 h3
        have h3'' : (er' != 2) = true := bne_iff_ne.2 h3
        injection h2 with q1 q2
        injection q2 with q2 q3
        injection q3 with q3 q4
        replace q1 := q1.symm
        replace q2 := q2.symm
        replace q3 := q3.symm
        replace q4 := q4.symm
        subst q1; subst q2; subst q3; subst q4
        by_cases h0 : er = 0
        · subst h0
          obtain ⟨p1, p2, p3, p4, p5, p6⟩ := hput rfl
          clear hput
          have HQ := Lib.hid (fun w => coinPut_c m nm bo w hm p1 (by omega))
          rw [p6] at HQ
          have m1 := str_ways (s.extract 0 sz) (s.extract 0 sz)
          simp only [ne_eq, not_true_eq_false, false_and, or_false, true_and] at m1
          obtain ⟨m1, m2⟩ := m1
          have p7 : ¬ (s.size < sz) := by omega
          have p8 : sz ≤ s.size := p4
          clear p1 p2 p3 p6
          have p9 : ((sz : Int) ≤ s.size) := by omega
          go_enter Tryd.func5, Tryd.ntmps5
          go_wp2_with fail
          refine (HA.out _).mono ?_
          rintro e w1 ⟨rfl, hb⟩
          have hz1 := hb.size
          go_wp2_with fail
          refine (HN.out _).mono ?_
          rintro e w2 ⟨rfl, hb2⟩
          have hb' := hb.trans (hb2.mono hz1)
          have hz2 := hb'.size
          clear hb hb2
          go_wp2_with fail
          refine (HK.out _).mono ?_
          rintro e w3 ⟨rfl, hb3⟩
          have hF3 : Blk w3 w2.heap.size 41 #[.int .u64 0, .string nm, .string bo] := (hb3.block w2.heap.size (by simp)).trans (Blk.new w2 _ _)
          have hW3 : Below w.heap.size w w3 := (hb'.alloc (by omega) _).trans (hb3.mono (by simp; omega))
          have hz3 := hb3.size
          simp only [World.size_alloc] at hz3
          clear hb3 hb'
          go_wp2_with fail
          refine (HR.out _).mono ?_
          rintro e w4 ⟨rfl, hb4⟩
          have hF4 : Blk w4 w2.heap.size 41 #[.int .u64 0, .string nm, .string bo] := (hb4.block w2.heap.size (by omega)).trans hF3
          have hW4 : Below w.heap.size w w4 := hW3.trans (hb4.mono (by omega))
          have hz4 := hb4.size
          have c0 : ∀ o, (w4.alloc o).cell? ⟨w2.heap.size, 0, none⟩ = some (.int .u64 0) := fun o => (hF4.alloc o).cell 0
          have c1 : ∀ o, (w4.alloc o).cell? ⟨w2.heap.size, 1, none⟩ = some (.string nm) := fun o => (hF4.alloc o).cell 1
          have c2 : ∀ o, (w4.alloc o).cell? ⟨w2.heap.size, 2, none⟩ = some (.string bo) := fun o => (hF4.alloc o).cell 2
          clear hF3 hW3 hb4
          go_wp2_with fail
          refine (HP.out _).mono ?_
          rintro e w5 ⟨rfl, hb5⟩
          have hz5 := hb5.size
          simp only [World.size_alloc] at hz5
          have hF5 : Blk w5 w2.heap.size 41 #[.int .u64 0, .string nm, .string bo] := (hb5.block w2.heap.size (by simp; omega)).trans (hF4.alloc _)
          have hW5 : Below w.heap.size w w5 := (hW4.alloc (by omega) _).trans (hb5.mono (by simp; omega))
          clear c0 c1 c2 hF4 hW4 hb5
          have c0 : ∀ o, (w5.alloc o).cell? ⟨w2.heap.size, 0, none⟩ = some (.int .u64 0) := fun o => (hF5.alloc o).cell 0
          have c1 : ∀ o, (w5.alloc o).cell? ⟨w2.heap.size, 1, none⟩ = some (.string nm) := fun o => (hF5.alloc o).cell 1
          have c2 : ∀ o, (w5.alloc o).cell? ⟨w2.heap.size, 2, none⟩ = some (.string bo) := fun o => (hF5.alloc o).cell 2
          have hW6 : Hid (∀ o, Below w.heap.size w (w5.alloc o)) := Lib.hid (fun o => hW5.alloc (by omega) _)
          clear hF5
          go_wp2_with fail
          refine (HQ.out _).mono ?_
          rintro e w6 ⟨rfl, hb6⟩
          go_wp2
          go_ret
          exact ⟨rfl, (hW6.out _).trans (hb6.mono (by simp; omega))⟩
        · clear hput
          have h0' : (er != 0) = true := bne_iff_ne.2 h0
          go_enter Tryd.func5, Tryd.ntmps5
          go_wp2_with fail
          refine (HA.out _).mono ?_
          rintro e w1 ⟨rfl, hb⟩
          have hz1 := hb.size
          go_wp2_with fail
          refine (HN.out _).mono ?_
          rintro e w2 ⟨rfl, hb2⟩
          have hb' := hb.trans (hb2.mono hz1)
          have hz2 := hb'.size
          clear hb hb2
          go_wp2_with fail
          refine (HK.out _).mono ?_
          rintro e w3 ⟨rfl, hb3⟩
          have hF3 : Blk w3 w2.heap.size 41 #[.int .u64 0, .string nm, .string bo] := (hb3.block w2.heap.size (by simp)).trans (Blk.new w2 _ _)
          have hW3 : Below w.heap.size w w3 := (hb'.alloc (by omega) _).trans (hb3.mono (by simp; omega))
          have hz3 := hb3.size
          simp only [World.size_alloc] at hz3
          clear hb3 hb'
          go_wp2_with fail
          refine (HR.out _).mono ?_
          rintro e w4 ⟨rfl, hb4⟩
          have hF4 : Blk w4 w2.heap.size 41 #[.int .u64 0, .string nm, .string bo] := (hb4.block w2.heap.size (by omega)).trans hF3
          have hW4 : Below w.heap.size w w4 := hW3.trans (hb4.mono (by omega))
          have hz4 := hb4.size
          have c0 : ∀ o, (w4.alloc o).cell? ⟨w2.heap.size, 0, none⟩ = some (.int .u64 0) := fun o => (hF4.alloc o).cell 0
          have c1 : ∀ o, (w4.alloc o).cell? ⟨w2.heap.size, 1, none⟩ = some (.string nm) := fun o => (hF4.alloc o).cell 1
          have c2 : ∀ o, (w4.alloc o).cell? ⟨w2.heap.size, 2, none⟩ = some (.string bo) := fun o => (hF4.alloc o).cell 2
          clear hF3 hW3 hb4
          go_wp2_with fail
          refine (HP.out _).mono ?_
          rintro e w5 ⟨rfl, hb5⟩
          have hz5 := hb5.size
          simp only [World.size_alloc] at hz5
          have hF5 : Blk w5 w2.heap.size 41 #[.int .u64 0, .string nm, .string bo] := (hb5.block w2.heap.size (by simp; omega)).trans (hF4.alloc _)
          have hW5 : Below w.heap.size w w5 := (hW4.alloc (by omega) _).trans (hb5.mono (by simp; omega))
          clear c0 c1 c2 hF4 hW4 hb5
          have c0 : ∀ o, (w5.alloc o).cell? ⟨w2.heap.size, 0, none⟩ = some (.int .u64 0) := fun o => (hF5.alloc o).cell 0
          have c1 : ∀ o, (w5.alloc o).cell? ⟨w2.heap.size, 1, none⟩ = some (.string nm) := fun o => (hF5.alloc o).cell 1
          have c2 : ∀ o, (w5.alloc o).cell? ⟨w2.heap.size, 2, none⟩ = some (.string bo) := fun o => (hF5.alloc o).cell 2
          have hW6 : Hid (∀ o, Below w.heap.size w (w5.alloc o)) := Lib.hid (fun o => hW5.alloc (by omega) _)
          clear hF5
          go_wp2
          go_ret
          exact ⟨rfl, hW6.out _⟩
  · have emin : min (cut : Int) (s.size : Int) = s.size := by omega
    rw [cut_all] at HP
    rcases hpre with h2 | h2
    · subst h2
      by_cases h0 : er = 0
      · subst h0
        obtain ⟨p1, p2, p3, p4, p5, p6⟩ := hput rfl
        clear hput
        have HQ := Lib.hid (fun w => coinPut_c m nm bo w hm p1 (by omega))
        rw [p6] at HQ
        have m1 := str_ways (s.extract 0 sz) (s.extract 0 sz)
        simp only [ne_eq, not_true_eq_false, false_and, or_false, true_and] at m1
        obtain ⟨m1, m2⟩ := m1
        have p7 : ¬ (s.size < sz) := by omega
        have p8 : sz ≤ s.size := p4
        clear p1 p2 p3 p6
        have p9 : ((sz : Int) ≤ s.size) := by omega
        go_enter Tryd.func5, Tryd.ntmps5
        go_wp2_with fail
        refine (HA.out _).mono ?_
        rintro e w1 ⟨rfl, hb⟩
        have hz1 := hb.size
        go_wp2_with fail
        refine (HN.out _).mono ?_
        rintro e w2 ⟨rfl, hb2⟩
        have hb' := hb.trans (hb2.mono hz1)
        have hz2 := hb'.size
        clear hb hb2
        go_wp2_with fail
        refine (HK.out _).mono ?_
        rintro e w3 ⟨rfl, hb3⟩
        have hF3 : Blk w3 w2.heap.size 41 #[.int .u64 0, .string nm, .string bo] := (hb3.block w2.heap.size (by simp)).trans (Blk.new w2 _ _)
        have hW3 : Below w.heap.size w w3 := (hb'.alloc (by omega) _).trans (hb3.mono (by simp; omega))
        have hz3 := hb3.size
        simp only [World.size_alloc] at hz3
        clear hb3 hb'
        go_wp2_with fail
        refine (HR.out _).mono ?_
        rintro e w4 ⟨rfl, hb4⟩
        have hF4 : Blk w4 w2.heap.size 41 #[.int .u64 0, .string nm, .string bo] := (hb4.block w2.heap.size (by omega)).trans hF3
        have hW4 : Below w.heap.size w w4 := hW3.trans (hb4.mono (by omega))
        have hz4 := hb4.size
        have c0 : ∀ o, (w4.alloc o).cell? ⟨w2.heap.size, 0, none⟩ = some (.int .u64 0) := fun o => (hF4.alloc o).cell 0
        have c1 : ∀ o, (w4.alloc o).cell? ⟨w2.heap.size, 1, none⟩ = some (.string nm) := fun o => (hF4.alloc o).cell 1
        have c2 : ∀ o, (w4.alloc o).cell? ⟨w2.heap.size, 2, none⟩ = some (.string bo) := fun o => (hF4.alloc o).cell 2
        clear hF3 hW3 hb4
        go_wp2_with fail
        refine (HP.out _).mono ?_
        rintro e w5 ⟨rfl, hb5⟩
        have hz5 := hb5.size
        simp only [World.size_alloc] at hz5
        have hF5 : Blk w5 w2.heap.size 41 #[.int .u64 0, .string nm, .string bo] := (hb5.block w2.heap.size (by simp; omega)).trans (hF4.alloc _)
        have hW5 : Below w.heap.size w w5 := (hW4.alloc (by omega) _).trans (hb5.mono (by simp; omega))
        clear c0 c1 c2 hF4 hW4 hb5
        have c0 : ∀ o, (w5.alloc o).cell? ⟨w2.heap.size, 0, none⟩ = some (.int .u64 0) := fun o => (hF5.alloc o).cell 0
        have c1 : ∀ o, (w5.alloc o).cell? ⟨w2.heap.size, 1, none⟩ = some (.string nm) := fun o => (hF5.alloc o).cell 1
        have c2 : ∀ o, (w5.alloc o).cell? ⟨w2.heap.size, 2, none⟩ = some (.string bo) := fun o => (hF5.alloc o).cell 2
        have hW6 : Hid (∀ o, Below w.heap.size w (w5.alloc o)) := Lib.hid (fun o => hW5.alloc (by omega) _)
        clear hF5
        go_wp2_with fail
        refine (HQ.out _).mono ?_
        rintro e w6 ⟨rfl, hb6⟩
        go_wp2
        go_ret
        exact ⟨rfl, (hW6.out _).trans (hb6.mono (by simp; omega))⟩
      · clear hput
        have h0' : (er != 0) = true := bne_iff_ne.2 h0
        go_enter Tryd.func5, Tryd.ntmps5
        go_wp2_with fail
        refine (HA.out _).mono ?_
        rintro e w1 ⟨rfl, hb⟩
        have hz1 := hb.size
        go_wp2_with fail
        refine (HN.out _).mono ?_
        rintro e w2 ⟨rfl, hb2⟩
        have hb' := hb.trans (hb2.mono hz1)
        have hz2 := hb'.size
        clear hb hb2
        go_wp2_with fail
        refine (HK.out _).mono ?_
        rintro e w3 ⟨rfl, hb3⟩
        have hF3 : Blk w3 w2.heap.size 41 #[.int .u64 0, .string nm, .string bo] := (hb3.block w2.heap.size (by simp)).trans (Blk.new w2 _ _)
        have hW3 : Below w.heap.size w w3 := (hb'.alloc (by omega) _).trans (hb3.mono (by simp; omega))
        have hz3 := hb3.size
        simp only [World.size_alloc] at hz3
        clear hb3 hb'
        go_wp2_with fail
        refine (HR.out _).mono ?_
        rintro e w4 ⟨rfl, hb4⟩
        have hF4 : Blk w4 w2.heap.size 41 #[.int .u64 0, .string nm, .string bo] := (hb4.block w2.heap.size (by omega)).trans hF3
        have hW4 : Below w.heap.size w w4 := hW3.trans (hb4.mono (by omega))
        have hz4 := hb4.size
        have c0 : ∀ o, (w4.alloc o).cell? ⟨w2.heap.size, 0, none⟩ = some (.int .u64 0) := fun o => (hF4.alloc o).cell 0
        have c1 : ∀ o, (w4.alloc o).cell? ⟨w2.heap.size, 1, none⟩ = some (.string nm) := fun o => (hF4.alloc o).cell 1
        have c2 : ∀ o, (w4.alloc o).cell? ⟨w2.heap.size, 2, none⟩ = some (.string bo) := fun o => (hF4.alloc o).cell 2
        clear hF3 hW3 hb4
        go_wp2_with fail
        refine (HP.out _).mono ?_
        rintro e w5 ⟨rfl, hb5⟩
        have hz5 := hb5.size
        simp only [World.size_alloc] at hz5
        have hF5 : Blk w5 w2.heap.size 41 #[.int .u64 0, .string nm, .string bo] := (hb5.block w2.heap.size (by simp; omega)).trans (hF4.alloc _)
        have hW5 : Below w.heap.size w w5 := (hW4.alloc (by omega) _).trans (hb5.mono (by simp; omega))
        clear c0 c1 c2 hF4 hW4 hb5
        have c0 : ∀ o, (w5.alloc o).cell? ⟨w2.heap.size, 0, none⟩ = some (.int .u64 0) := fun o => (hF5.alloc o).cell 0
        have c1 : ∀ o, (w5.alloc o).cell? ⟨w2.heap.size, 1, none⟩ = some (.string nm) := fun o => (hF5.alloc o).cell 1
        have c2 : ∀ o, (w5.alloc o).cell? ⟨w2.heap.size, 2, none⟩ = some (.string bo) := fun o => (hF5.alloc o).cell 2
        have hW6 : Hid (∀ o, Below w.heap.size w (w5.alloc o)) := Lib.hid (fun o => hW5.alloc (by omega) _)
        clear hF5
        go_wp2
        go_ret
        exact ⟨rfl, hW6.out _⟩
    · by_cases h3 : er' = 2
      · subst h3
        clear h2
        by_cases h0 : er = 0
        · subst h0
          obtain ⟨p1, p2, p3, p4, p5, p6⟩ := hput rfl
          clear hput
          have HQ := Lib.hid (fun w => coinPut_c m nm bo w hm p1 (by omega))
          rw [p6] at HQ
          have m1 := str_ways (s.extract 0 sz) (s.extract 0 sz)
          simp only [ne_eq, not_true_eq_false, false_and, or_false, true_and] at m1
          obtain ⟨m1, m2⟩ := m1
          have p7 : ¬ (s.size < sz) := by omega
          have p8 : sz ≤ s.size := p4
          clear p1 p2 p3 p6
          have p9 : ((sz : Int) ≤ s.size) := by omega
          go_enter Tryd.func5, Tryd.ntmps5
          go_wp2_with fail
          refine (HA.out _).mono ?_
          rintro e w1 ⟨rfl, hb⟩
          have hz1 := hb.size
          go_wp2_with fail
          refine (HN.out _).mono ?_
          rintro e w2 ⟨rfl, hb2⟩
          have hb' := hb.trans (hb2.mono hz1)
          have hz2 := hb'.size
          clear hb hb2
          go_wp2_with fail
          refine (HK.out _).mono ?_
          rintro e w3 ⟨rfl, hb3⟩
          have hF3 : Blk w3 w2.heap.size 41 #[.int .u64 0, .string nm, .string bo] := (hb3.block w2.heap.size (by simp)).trans (Blk.new w2 _ _)
          have hW3 : Below w.heap.size w w3 := (hb'.alloc (by omega) _).trans (hb3.mono (by simp; omega))
          have hz3 := hb3.size
          simp only [World.size_alloc] at hz3
          clear hb3 hb'
          go_wp2_with fail
          refine (HR.out _).mono ?_
          rintro e w4 ⟨rfl, hb4⟩
          have hF4 : Blk w4 w2.heap.size 41 #[.int .u64 0, .string nm, .string bo] := (hb4.block w2.heap.size (by omega)).trans hF3
          have hW4 : Below w.heap.size w w4 := hW3.trans (hb4.mono (by omega))
          have hz4 := hb4.size
          have c0 : ∀ o, (w4.alloc o).cell? ⟨w2.heap.size, 0, none⟩ = some (.int .u64 0) := fun o => (hF4.alloc o).cell 0
          have c1 : ∀ o, (w4.alloc o).cell? ⟨w2.heap.size, 1, none⟩ = some (.string nm) := fun o => (hF4.alloc o).cell 1
          have c2 : ∀ o, (w4.alloc o).cell? ⟨w2.heap.size, 2, none⟩ = some (.string bo) := fun o => (hF4.alloc o).cell 2
          clear hF3 hW3 hb4
          go_wp2_with fail
          refine (HP.out _).mono ?_
          rintro e w5 ⟨rfl, hb5⟩
          have hz5 := hb5.size
          simp only [World.size_alloc] at hz5
          have hF5 : Blk w5 w2.heap.size 41 #[.int .u64 0, .string nm, .string bo] := (hb5.block w2.heap.size (by simp; omega)).trans (hF4.alloc _)
          have hW5 : Below w.heap.size w w5 := (hW4.alloc (by omega) _).trans (hb5.mono (by simp; omega))
          clear c0 c1 c2 hF4 hW4 hb5
          have c0 : ∀ o, (w5.alloc o).cell? ⟨w2.heap.size, 0, none⟩ = some (.int .u64 0) := fun o => (hF5.alloc o).cell 0
          have c1 : ∀ o, (w5.alloc o).cell? ⟨w2.heap.size, 1, none⟩ = some (.string nm) := fun o => (hF5.alloc o).cell 1
          have c2 : ∀ o, (w5.alloc o).cell? ⟨w2.heap.size, 2, none⟩ = some (.string bo) := fun o => (hF5.alloc o).cell 2
          have hW6 : Hid (∀ o, Below w.heap.size w (w5.alloc o)) := Lib.hid (fun o => hW5.alloc (by omega) _)
          clear hF5
          go_wp2_with fail
          refine (HQ.out _).mono ?_
          rintro e w6 ⟨rfl, hb6⟩
          go_wp2
          go_ret
          exact ⟨rfl, (hW6.out _).trans (hb6.mono (by simp; omega))⟩
        · clear hput
          have h0' : (er != 0) = true := bne_iff_ne.2 h0
          go_enter Tryd.func5, Tryd.ntmps5
          go_wp2_with fail
          refine (HA.out _).mono ?_
          rintro e w1 ⟨rfl, hb⟩
          have hz1 := hb.size
          go_wp2_with fail
          refine (HN.out _).mono ?_
          rintro e w2 ⟨rfl, hb2⟩
          have hb' := hb.trans (hb2.mono hz1)
          have hz2 := hb'.size
          clear hb hb2
          go_wp2_with fail
          refine (HK.out _).mono ?_
          rintro e w3 ⟨rfl, hb3⟩
          have hF3 : Blk w3 w2.heap.size 41 #[.int .u64 0, .string nm, .string bo] := (hb3.block w2.heap.size (by simp)).trans (Blk.new w2 _ _)
          have hW3 : Below w.heap.size w w3 := (hb'.alloc (by omega) _).trans (hb3.mono (by simp; omega))
          have hz3 := hb3.size
          simp only [World.size_alloc] at hz3
          clear hb3 hb'
          go_wp2_with fail
          refine (HR.out _).mono ?_
          rintro e w4 ⟨rfl, hb4⟩
          have hF4 : Blk w4 w2.heap.size 41 #[.int .u64 0, .string nm, .string bo] := (hb4.block w2.heap.size (by omega)).trans hF3
          have hW4 : Below w.heap.size w w4 := hW3.trans (hb4.mono (by omega))
          have hz4 := hb4.size
          have c0 : ∀ o, (w4.alloc o).cell? ⟨w2.heap.size, 0, none⟩ = some (.int .u64 0) := fun o => (hF4.alloc o).cell 0
          have c1 : ∀ o, (w4.alloc o).cell? ⟨w2.heap.size, 1, none⟩ = some (.string nm) := fun o => (hF4.alloc o).cell 1
          have c2 : ∀ o, (w4.alloc o).cell? ⟨w2.heap.size, 2, none⟩ = some (.string bo) := fun o => (hF4.alloc o).cell 2
          clear hF3 hW3 hb4
          go_wp2_with fail
          refine (HP.out _).mono ?_
          rintro e w5 ⟨rfl, hb5⟩
          have hz5 := hb5.size
          simp only [World.size_alloc] at hz5
          have hF5 : Blk w5 w2.heap.size 41 #[.int .u64 0, .string nm, .string bo] := (hb5.block w2.heap.size (by simp; omega)).trans (hF4.alloc _)
          have hW5 : Below w.heap.size w w5 := (hW4.alloc (by omega) _).trans (hb5.mono (by simp; omega))
          clear c0 c1 c2 hF4 hW4 hb5
          have c0 : ∀ o, (w5.alloc o).cell? ⟨w2.heap.size, 0, none⟩ = some (.int .u64 0) := fun o => (hF5.alloc o).cell 0
          have c1 : ∀ o, (w5.alloc o).cell? ⟨w2.heap.size, 1, none⟩ = some (.string nm) := fun o => (hF5.alloc o).cell 1
          have c2 : ∀ o, (w5.alloc o).cell? ⟨w2.heap.size, 2, none⟩ = some (.string bo) := fun o => (hF5.alloc o).cell 2
          have hW6 : Hid (∀ o, Below w.heap.size w (w5.alloc o)) := Lib.hid (fun o => hW5.alloc (by omega) _)
          clear hF5
          go_wp2
          go_ret
          exact ⟨rfl, hW6.out _⟩
      · have h3' : (er' == 2) = false := beq_eq_false_iff_ne.2 h3
        have h3'' : (er' != 2) = true := bne_iff_ne.2 h3
        injection h2 with q1 q2
        injection q2 with q2 q3
        injection q3 with q3 q4
        replace q1 := q1.symm
        replace q2 := q2.symm
        replace q3 := q3.symm
        replace q4 := q4.symm
        subst q1; subst q2; subst q3; subst q4
        by_cases h0 : er = 0
        · subst h0
          obtain ⟨p1, p2, p3, p4, p5, p6⟩ := hput rfl
          clear hput
          have HQ := Lib.hid (fun w => coinPut_c m nm bo w hm p1 (by omega))
          rw [p6] at HQ
          have m1 := str_ways (s.extract 0 sz) (s.extract 0 sz)
          simp only [ne_eq, not_true_eq_false, false_and, or_false, true_and] at m1
          obtain ⟨m1, m2⟩ := m1
          have p7 : ¬ (s.size < sz) := by omega
          have p8 : sz ≤ s.size := p4
          clear p1 p2 p3 p6
          have p9 : ((sz : Int) ≤ s.size) := by omega
          go_enter Tryd.func5, Tryd.ntmps5
          go_wp2_with fail
          refine (HA.out _).mono ?_
          rintro e w1 ⟨rfl, hb⟩
          have hz1 := hb.size
          go_wp2_with fail
          refine (HN.out _).mono ?_
          rintro e w2 ⟨rfl, hb2⟩
          have hb' := hb.trans (hb2.mono hz1)
          have hz2 := hb'.size
          clear hb hb2
          go_wp2_with fail
          refine (HK.out _).mono ?_
          rintro e w3 ⟨rfl, hb3⟩
          have hF3 : Blk w3 w2.heap.size 41 #[.int .u64 0, .string nm, .string bo] := (hb3.block w2.heap.size (by simp)).trans (Blk.new w2 _ _)
          have hW3 : Below w.heap.size w w3 := (hb'.alloc (by omega) _).trans (hb3.mono (by simp; omega))
          have hz3 := hb3.size
          simp only [World.size_alloc] at hz3
          clear hb3 hb'
          go_wp2_with fail
          refine (HR.out _).mono ?_
          rintro e w4 ⟨rfl, hb4⟩
          have hF4 : Blk w4 w2.heap.size 41 #[.int .u64 0, .string nm, .string bo] := (hb4.block w2.heap.size (by omega)).trans hF3
          have hW4 : Below w.heap.size w w4 := hW3.trans (hb4.mono (by omega))
          have hz4 := hb4.size
          have c0 : ∀ o, (w4.alloc o).cell? ⟨w2.heap.size, 0, none⟩ = some (.int .u64 0) := fun o => (hF4.alloc o).cell 0
          have c1 : ∀ o, (w4.alloc o).cell? ⟨w2.heap.size, 1, none⟩ = some (.string nm) := fun o => (hF4.alloc o).cell 1
          have c2 : ∀ o, (w4.alloc o).cell? ⟨w2.heap.size, 2, none⟩ = some (.string bo) := fun o => (hF4.alloc o).cell 2
          clear hF3 hW3 hb4
          go_wp2_with fail
          refine (HP.out _).mono ?_
          rintro e w5 ⟨rfl, hb5⟩
          have hz5 := hb5.size
          simp only [World.size_alloc] at hz5
          have hF5 : Blk w5 w2.heap.size 41 #[.int .u64 0, .string nm, .string bo] := (hb5.block w2.heap.size (by simp; omega)).trans (hF4.alloc _)
          have hW5 : Below w.heap.size w w5 := (hW4.alloc (by omega) _).trans (hb5.mono (by simp; omega))
          clear c0 c1 c2 hF4 hW4 hb5
          have c0 : ∀ o, (w5.alloc o).cell? ⟨w2.heap.size, 0, none⟩ = some (.int .u64 0) := fun o => (hF5.alloc o).cell 0
          have c1 : ∀ o, (w5.alloc o).cell? ⟨w2.heap.size, 1, none⟩ = some (.string nm) := fun o => (hF5.alloc o).cell 1
          have c2 : ∀ o, (w5.alloc o).cell? ⟨w2.heap.size, 2, none⟩ = some (.string bo) := fun o => (hF5.alloc o).cell 2
          have hW6 : Hid (∀ o, Below w.heap.size w (w5.alloc o)) := Lib.hid (fun o => hW5.alloc (by omega) _)
          clear hF5
          go_wp2_with fail
          refine (HQ.out _).mono ?_
          rintro e w6 ⟨rfl, hb6⟩
          go_wp2
          go_ret
          exact ⟨rfl, (hW6.out _).trans (hb6.mono (by simp; omega))⟩
        · clear hput
          have h0' : (er != 0) = true := bne_iff_ne.2 h0
          go_enter Tryd.func5, Tryd.ntmps5
          go_wp2_with fail
          refine (HA.out _).mono ?_
          rintro e w1 ⟨rfl, hb⟩
          have hz1 := hb.size
          go_wp2_with fail
          refine (HN.out _).mono ?_
          rintro e w2 ⟨rfl, hb2⟩
          have hb' := hb.trans (hb2.mono hz1)
          have hz2 := hb'.size
          clear hb hb2
          go_wp2_with fail
          refine (HK.out _).mono ?_
          rintro e w3 ⟨rfl, hb3⟩
          have hF3 : Blk w3 w2.heap.size 41 #[.int .u64 0, .string nm, .string bo] := (hb3.block w2.heap.size (by simp)).trans (Blk.new w2 _ _)
          have hW3 : Below w.heap.size w w3 := (hb'.alloc (by omega) _).trans (hb3.mono (by simp; omega))
          have hz3 := hb3.size
          simp only [World.size_alloc] at hz3
          clear hb3 hb'
          go_wp2_with fail
          refine (HR.out _).mono ?_
          rintro e w4 ⟨rfl, hb4⟩
          have hF4 : Blk w4 w2.heap.size 41 #[.int .u64 0, .string nm, .string bo] := (hb4.block w2.heap.size (by omega)).trans hF3
          have hW4 : Below w.heap.size w w4 := hW3.trans (hb4.mono (by omega))
          have hz4 := hb4.size
          have c0 : ∀ o, (w4.alloc o).cell? ⟨w2.heap.size, 0, none⟩ = some (.int .u64 0) := fun o => (hF4.alloc o).cell 0
          have c1 : ∀ o, (w4.alloc o).cell? ⟨w2.heap.size, 1, none⟩ = some (.string nm) := fun o => (hF4.alloc o).cell 1
          have c2 : ∀ o, (w4.alloc o).cell? ⟨w2.heap.size, 2, none⟩ = some (.string bo) := fun o => (hF4.alloc o).cell 2
          clear hF3 hW3 hb4
          go_wp2_with fail
          refine (HP.out _).mono ?_
          rintro e w5 ⟨rfl, hb5⟩
          have hz5 := hb5.size
          simp only [World.size_alloc] at hz5
          have hF5 : Blk w5 w2.heap.size 41 #[.int .u64 0, .string nm, .string bo] := (hb5.block w2.heap.size (by simp; omega)).trans (hF4.alloc _)
          have hW5 : Below w.heap.size w w5 := (hW4.alloc (by omega) _).trans (hb5.mono (by simp; omega))
          clear c0 c1 c2 hF4 hW4 hb5
          have c0 : ∀ o, (w5.alloc o).cell? ⟨w2.heap.size, 0, none⟩ = some (.int .u64 0) := fun o => (hF5.alloc o).cell 0
          have c1 : ∀ o, (w5.alloc o).cell? ⟨w2.heap.size, 1, none⟩ = some (.string nm) := fun o => (hF5.alloc o).cell 1
          have c2 : ∀ o, (w5.alloc o).cell? ⟨w2.heap.size, 2, none⟩ = some (.string bo) := fun o => (hF5.alloc o).cell 2
          have hW6 : Hid (∀ o, Below w.heap.size w (w5.alloc o)) := Lib.hid (fun o => hW5.alloc (by omega) _)
          clear hF5
          go_wp2
          go_ret
          exact ⟨rfl, hW6.out _⟩
theorem coinReads_row (m most : Int) (s : ByteArray) (cut : Int) (w : World) (hm : (Lit.int .u32 m).wf = true) (h2 : (Lit.int .i64 most).wf = true) (h1 : s.size ≤ maxLen) (h3 : (Lit.int .u16 cut).wf = true) :
    Calls Tryd.prog 5 #[.int .u32 m, .int .i64 most, .string s, .int .u16 cut] w fun e w' => e = .returned (.bool true) ∧ Below w.heap.size w w' := by
  have h0 : 0 ≤ m ∧ m ≤ 4294967295 := by simpa [Lit.wf, IntKind.min, IntKind.max, IntKind.signed, IntKind.bits] using hm
  have h4 : 0 ≤ cut ∧ cut ≤ 65535 := by simpa [Lit.wf, IntKind.min, IntKind.max, IntKind.signed, IntKind.bits] using h3
  have h5 := bounds_i64 h2
  obtain ⟨x, rfl⟩ : ∃ x : Nat, m = (x : Int) := ⟨m.toNat, by omega⟩
  obtain ⟨y, rfl⟩ : ∃ y : Nat, cut = (y : Int) := ⟨cut.toNat, by omega⟩
  exact coinReads_w x most s y w (by omega) (by simpa [maxLen] using h1) ⟨by omega, by omega⟩ (by omega)
end Go.Proofs.YtacikiambpfipaaDoor
