/- The document's parse of types: a List. -/
import Derived.Test.YtacikiambpfipaaDoorJA6
namespace Go.Proofs.YtacikiambpfipaaDoor
set_option linter.unusedVariables false
set_option linter.unusedSimpArgs false
open Go.RowKit

set_option maxRecDepth 100000 in
set_option maxHeartbeats 3200000 in
theorem tyParse_list (f deep : Nat) (hd8 : deep ≤ 8) (IH : Hid (∀ (s : ByteArray) (at_ : Nat) (w : World), at_ ≤ s.size → s.size ≤ 100000 →
    Calls Tryd.prog 96 #[.string s, .int .i64 at_, .int .i64 ((deep + 1 : Nat) : Int)] w fun e w' => TyEnd s w (tItem f (s.data.toList.drop at_)) e w')) (s : ByteArray) (at_ : Nat) (w : World) (hat : at_ ≤ s.size) (hs : s.size ≤ 100000)
    (R : Option (Ty × List UInt8)) (HR : Hid (tItem (f + 1) (s.data.toList.drop at_) = R)) (hlt : at_ < s.size) (hll : s[at_].toNat = 91) :
    Calls Tryd.prog 96 #[.string s, .int .i64 at_, .int .i64 deep] w fun e w' => TyEnd s w R e w' := by
  have d1 : decide (s.size ≤ at_) = false := by simp; omega
  have d2 : decide ((8 : Int) < (deep : Int)) = false := by simp; omega
  have hb256 := s[at_].toNat_lt
  have HC : Hid (tItem (f + 1) (s[at_] :: s.data.toList.drop (at_ + 1)) = R) := Lib.hid (by rw [← drop_cons s at_ hlt]; exact HR.out)
  have HD := Lib.hid (fun w => digits20_c s (at_ + 1) w (by omega) hs)
  have E8 : Hid (((at_ + 1 : Nat) : Int) = (at_ : Int) + 1) := Lib.hid (by omega)
  obtain ⟨N, HN⟩ : ∃ N, Hid (numR (s.data.toList.drop (at_ + 1)) = N) := ⟨_, Lib.hid rfl⟩
  rw [HN.out, E8.out] at HD
  clear HR
  have e1 : ((s[at_].toNat : Int) == 117) = false := beq_eq_false_iff_ne.2 (by omega)
  have e2 : ((s[at_].toNat : Int) == 98) = false := beq_eq_false_iff_ne.2 (by omega)
  have e3 : ((s[at_].toNat : Int) == 115) = false := beq_eq_false_iff_ne.2 (by omega)
  have e4 : ((s[at_].toNat : Int) == 91) = true := by simp [hll]
  have HE0 : Hid (tList (tItem f (s.data.toList.drop (at_ + 1))) = R) := Lib.hid (by rw [← HC.out, show s[at_] = 91 from UInt8.toNat_inj.1 hll, tItem_l])
  have HI := Lib.hid (IH.out s (at_ + 1) (w.alloc (.cells #[.int .i64 0, .int .i64 0, .slice none 0 0, .int .i64 0] 24)) (by omega) hs)
  have E9 : Hid ((deep : Int) + 1 = ((deep + 1 : Nat) : Int)) := Lib.hid (by omega)
  obtain ⟨T, HT⟩ : ∃ T, Hid (tItem f (s.data.toList.drop (at_ + 1)) = T) := ⟨_, Lib.hid rfl⟩
  rw [HT.out] at HE0 HI
  rw [E8.out] at HI
  clear hll HC HD HN
  cases T with
  | none =>
    have HE : Hid (R = none) := Lib.hid HE0.out.symm
    clear HE0
    go_enter Tryd.func96, Tryd.ntmps96
    go_wp2_with fail
    rw [E9.out]
    refine HI.out.mono ?_
    rintro e w4 ⟨hb, v0, v1, rfl⟩
    have hbk := (Blk.new w 24 #[.int .i64 0, .int .i64 0, .slice none 0 0, .int .i64 0]).keep hb (by simp)
    obtain ⟨r0, r1, r2', r3, rf0, rf1, rf2, rf3⟩ := blk4 hbk
    have hz := hb.size
    simp only [World.size_alloc] at hz
    have hlw : w.heap.size < w4.heap.size := by omega
    have hlw1 : w.heap.size < w4.heap.size + 1 := by omega
    have HB4 : Hid (Below w.heap.size w w4) := Lib.hid (((Below.refl w.heap.size w).alloc (Nat.le_refl _) _).trans (hb.mono (by simp)))
    clear hb hbk
    go_wp2
    refine bodyPost_ret (v := badTy 0 0) (by simp [badTy, results, Tryd.results96, go_sem, r0, r1, r2', r3, World.cell?_alloc_lt, hlw]) rfl ?_
    rw [HE.out]
    refine ⟨?_, 0, 0, rfl⟩
    exact (((((HB4.out.setCell (by simp) _).setCell (by simp) _).setCell (by simp) _).setCell (by simp) _).alloc (by simp [World.setCell]; omega) _)
  | some z =>
    obtain ⟨x, r⟩ := z
    obtain ⟨k1, k2⟩ := tItem_sfx _ _ _ _ HT.out
    obtain ⟨k3, k4⟩ := sfx_drop (by omega) k1
    have k5 : s.size - r.length ≤ s.size := by omega
    have HK3 := Lib.hid k3
    obtain ⟨q, hq⟩ : ∃ q, s.size - r.length = q := ⟨_, rfl⟩
    rw [hq] at k4 k5 HK3
    have HQ := Lib.hid hq
    have HE1 : Hid (tTail x (s.data.toList.drop q) = R) := Lib.hid (by rw [HK3.out]; exact HE0.out)
    clear HE0 k1 k2 k3
    by_cases hqs : q < s.size
    · by_cases h58 : s[q].toNat = 58
      · have f1 : ((s[q].toNat : Int) != 58) = false := by simp [h58]
        obtain ⟨N, HN⟩ : ∃ N, Hid (numR (s.data.toList.drop (q + 1)) = N) := ⟨_, Lib.hid rfl⟩
        have HE2 : Hid (tClose x N = R) := Lib.hid (by rw [← HN.out, ← tTail_colon, ← HE1.out, drop_cons s q hqs, show s[q] = 58 from UInt8.toNat_inj.1 h58])
        have HD := Lib.hid (fun w => digits20_c s (q + 1) w (by omega) hs)
        have E7 : Hid (((q + 1 : Nat) : Int) = (q : Int) + 1) := Lib.hid (by omega)
        rw [HN.out, E7.out] at HD
        clear HE1 h58
        cases N with
        | none =>
          have HE : Hid (R = none) := Lib.hid HE2.out.symm
          clear HE2
          go_enter Tryd.func96, Tryd.ntmps96
          go_wp2_with fail
          rw [E9.out]
          refine HI.out.mono ?_
          rintro e w4 ⟨hb, c0, c1, c2, c3, rfl, hy⟩
          rw [HQ.out]
          have hbk := (Blk.new w 24 #[.int .i64 0, .int .i64 0, .slice none 0 0, .int .i64 0]).keep hb (by simp)
          obtain ⟨r0, r1, r2', r3, rf0, rf1, rf2, rf3⟩ := blk4 hbk
          have hz := hb.size
          simp only [World.size_alloc] at hz
          have hlw : w.heap.size < w4.heap.size := by omega
          have hlw1 : w.heap.size < w4.heap.size + 1 := by omega
          have HB4 : Hid (Below w.heap.size w w4) := Lib.hid (((Below.refl w.heap.size w).alloc (Nat.le_refl _) _).trans (hb.mono (by simp)))
          have HY := Lib.hid hy
          simp only [World.size_alloc] at HY
          obtain ⟨AA, ccap, rfl, rfl, rfl, rfl, hko, hzo, hto, _⟩ := hy.open_
          have HOK := Lib.hid (And.intro hko (And.intro hzo hto))
          clear hb hbk hy hko hzo hto
          go_wp2_with fail
          refine (HD.out _).mono ?_
          rintro e w' ⟨rfl, rfl⟩
          simp only [numEnd]
          go_wp2
          refine bodyPost_ret (v := badTy 0 0) (by simp [badTy, results, Tryd.results96, go_sem, r0, r1, r2', r3, World.cell?_alloc_lt, hlw]) rfl ?_
          rw [HE.out]
          refine ⟨?_, 0, 0, rfl⟩
          exact (((((HB4.out.setCell (by simp) _).setCell (by simp) _).setCell (by simp) _).setCell (by simp) _).alloc (by simp [World.setCell]; omega) _)
        | some z2 =>
          obtain ⟨n, r2⟩ := z2
          obtain ⟨hp1, hp2, hp3, hp4⟩ := numR_pos (by omega) HN.out
          obtain ⟨q2, hq2⟩ : ∃ q2, s.size - r2.length = q2 := ⟨_, rfl⟩
          rw [hq2] at hp1 hp2 hp3
          have HQ2 := Lib.hid hq2
          have HP1 := Lib.hid hp1
          clear hp1
          by_cases hq2s : q2 < s.size
          · have HR2 : Hid (r2 = s[q2] :: s.data.toList.drop (q2 + 1)) := Lib.hid (by rw [← HP1.out, drop_cons s q2 hq2s])
            by_cases h93 : s[q2].toNat = 93
            · have f2 : ((s[q2].toNat : Int) != 93) = false := by simp [h93]
              have HE : Hid (R = some (.mk 4 n [x] 0, s.data.toList.drop (q2 + 1))) := Lib.hid (by rw [← HE2.out, HR2.out]; simp [tClose, h93])
              have HDQ := Lib.hid (dropT s (q2 + 1) (by omega))
              clear HE2 h93
              go_enter Tryd.func96, Tryd.ntmps96
              go_wp2_with fail
              rw [E9.out]
              refine HI.out.mono ?_
              rintro e w4 ⟨hb, c0, c1, c2, c3, rfl, hy⟩
              rw [HQ.out]
              have hbk := (Blk.new w 24 #[.int .i64 0, .int .i64 0, .slice none 0 0, .int .i64 0]).keep hb (by simp)
              obtain ⟨r0, r1, r2', r3, rf0, rf1, rf2, rf3⟩ := blk4 hbk
              have hz := hb.size
              simp only [World.size_alloc] at hz
              have hlw : w.heap.size < w4.heap.size := by omega
              have hlw1 : w.heap.size < w4.heap.size + 1 := by omega
              have HB4 : Hid (Below w.heap.size w w4) := Lib.hid (((Below.refl w.heap.size w).alloc (Nat.le_refl _) _).trans (hb.mono (by simp)))
              have HY := Lib.hid hy
              simp only [World.size_alloc] at HY
              obtain ⟨AA, ccap, rfl, rfl, rfl, rfl, hko, hzo, hto, _⟩ := hy.open_
              have HOK := Lib.hid (And.intro hko (And.intro hzo hto))
              clear hb hbk hy hko hzo hto
              go_wp2_with fail
              refine (HD.out _).mono ?_
              rintro e w' ⟨rfl, rfl⟩
              simp only [numEnd, HQ2.out]
              go_wp2
              refine bodyPost_ret (v := .tuple #[.agg #[.int .i64 4, .int .i64 n, .slice (some ⟨w4.heap.size + 1, 0, none⟩) 1 1, .int .i64 0], .int .i64 ((q2 : Int) + 1)]) (by simp [results, Tryd.results96, go_sem, r0, r1, r2', r3, World.cell?_alloc_lt, hlw, hlw1]) rfl ?_
              rw [HE.out]
              refine ⟨((((((HB4.out.setCell (by simp) _).setCell (by simp) _).setCell (by simp) _).setCell (by simp) _).alloc (by simp [World.setCell]; omega) _).alloc (by simp [World.setCell]; omega) _), _, _, _, _, by rw [HDQ.out]; go_num, ?_⟩
              have hon : Only [w.heap.size] w4 ((((((w4.setCell ⟨w.heap.size, 0, none⟩ (.int .i64 4)).setCell ⟨w.heap.size, 1, none⟩ (.int .i64 n)).setCell ⟨w.heap.size, 2, none⟩ (.slice (some ⟨w4.heap.size + 1, 0, none⟩) 1 1)).setCell ⟨w.heap.size, 3, none⟩ (.int .i64 0)).alloc (.cells #[.int .i64 x.kind, .int .i64 x.size, .slice AA x.sub.length ccap, .int .i64 x.tail] 24)).alloc (.cells #[.int .i64 x.kind, .int .i64 x.size, .slice AA x.sub.length ccap, .int .i64 x.tail] 24)) := (by repeat (first | exact Only.refl _ _ | assumption | with_reducible refine Only.drewN ?_ _ | with_reducible refine Only.drew ?_ | with_reducible refine Only.alloc ?_ _ | ((with_reducible refine Only.put ?_ ?_ _); · (first | omega | (simp <;> omega)))))
              refine ⟨rfl, rfl, rfl, okI_small (by omega) (by omega), okI_small (by omega) (by omega), okI_small (by omega) (by omega), by simp, _, 1, rfl, by simp, by simp, ⟨⟨w4.heap.size + 1, 0, .int .i64 x.kind, .int .i64 x.size, .slice AA x.sub.length ccap, .int .i64 x.tail, rfl, ?_, ?_, ?_, ?_, ?_, ?_⟩, trivial⟩⟩
              · show w.heap.size ≤ w4.heap.size + 1
                omega
              · exact (new_at _ _ _ (w4.heap.size + 1) (by simp [World.setCell])).cell 0
              · exact (new_at _ _ _ (w4.heap.size + 1) (by simp [World.setCell])).cell 1
              · exact (new_at _ _ _ (w4.heap.size + 1) (by simp [World.setCell])).cell 2
              · exact (new_at _ _ _ (w4.heap.size + 1) (by simp [World.setCell])).cell 3
              · refine HY.out.only (L := [w.heap.size]) hon ?_ ?_
                · intro k hk hs
                  have hk : k = w.heap.size := by simpa using hk
                  have hs : w.heap.size + 1 ≤ k := hs
                  omega
                · intro k _ hs
                  have hs : w.heap.size + 1 ≤ k := hs
                  show w.heap.size ≤ k
                  omega
            · have f2 : ((s[q2].toNat : Int) != 93) = true := by simp; omega
              have HE : Hid (R = none) := Lib.hid (by rw [← HE2.out, HR2.out]; simp [tClose, h93])
              clear HE2 h93
              go_enter Tryd.func96, Tryd.ntmps96
              go_wp2_with fail
              rw [E9.out]
              refine HI.out.mono ?_
              rintro e w4 ⟨hb, c0, c1, c2, c3, rfl, hy⟩
              rw [HQ.out]
              have hbk := (Blk.new w 24 #[.int .i64 0, .int .i64 0, .slice none 0 0, .int .i64 0]).keep hb (by simp)
              obtain ⟨r0, r1, r2', r3, rf0, rf1, rf2, rf3⟩ := blk4 hbk
              have hz := hb.size
              simp only [World.size_alloc] at hz
              have hlw : w.heap.size < w4.heap.size := by omega
              have hlw1 : w.heap.size < w4.heap.size + 1 := by omega
              have HB4 : Hid (Below w.heap.size w w4) := Lib.hid (((Below.refl w.heap.size w).alloc (Nat.le_refl _) _).trans (hb.mono (by simp)))
              have HY := Lib.hid hy
              simp only [World.size_alloc] at HY
              obtain ⟨AA, ccap, rfl, rfl, rfl, rfl, hko, hzo, hto, _⟩ := hy.open_
              have HOK := Lib.hid (And.intro hko (And.intro hzo hto))
              clear hb hbk hy hko hzo hto
              go_wp2_with fail
              refine (HD.out _).mono ?_
              rintro e w' ⟨rfl, rfl⟩
              simp only [numEnd, HQ2.out]
              go_wp2
              refine bodyPost_ret (v := badTy 0 0) (by simp [badTy, results, Tryd.results96, go_sem, r0, r1, r2', r3, World.cell?_alloc_lt, hlw]) rfl ?_
              rw [HE.out]
              refine ⟨?_, 0, 0, rfl⟩
              exact (((((HB4.out.setCell (by simp) _).setCell (by simp) _).setCell (by simp) _).setCell (by simp) _).alloc (by simp [World.setCell]; omega) _)
          · have HE : Hid (R = none) := Lib.hid (by rw [← HE2.out, ← HP1.out, List.drop_eq_nil_of_le (by simp; omega)]; rfl)
            clear HE2
            go_enter Tryd.func96, Tryd.ntmps96
            go_wp2_with fail
            rw [E9.out]
            refine HI.out.mono ?_
            rintro e w4 ⟨hb, c0, c1, c2, c3, rfl, hy⟩
            rw [HQ.out]
            have hbk := (Blk.new w 24 #[.int .i64 0, .int .i64 0, .slice none 0 0, .int .i64 0]).keep hb (by simp)
            obtain ⟨r0, r1, r2', r3, rf0, rf1, rf2, rf3⟩ := blk4 hbk
            have hz := hb.size
            simp only [World.size_alloc] at hz
            have hlw : w.heap.size < w4.heap.size := by omega
            have hlw1 : w.heap.size < w4.heap.size + 1 := by omega
            have HB4 : Hid (Below w.heap.size w w4) := Lib.hid (((Below.refl w.heap.size w).alloc (Nat.le_refl _) _).trans (hb.mono (by simp)))
            have HY := Lib.hid hy
            simp only [World.size_alloc] at HY
            obtain ⟨AA, ccap, rfl, rfl, rfl, rfl, hko, hzo, hto, _⟩ := hy.open_
            have HOK := Lib.hid (And.intro hko (And.intro hzo hto))
            clear hb hbk hy hko hzo hto
            go_wp2_with fail
            refine (HD.out _).mono ?_
            rintro e w' ⟨rfl, rfl⟩
            simp only [numEnd, HQ2.out]
            go_wp2
            refine bodyPost_ret (v := badTy 0 0) (by simp [badTy, results, Tryd.results96, go_sem, r0, r1, r2', r3, World.cell?_alloc_lt, hlw]) rfl ?_
            rw [HE.out]
            refine ⟨?_, 0, 0, rfl⟩
            exact (((((HB4.out.setCell (by simp) _).setCell (by simp) _).setCell (by simp) _).setCell (by simp) _).alloc (by simp [World.setCell]; omega) _)
      · have f1 : ((s[q].toNat : Int) != 58) = true := by simp; omega
        have HE : Hid (R = none) := Lib.hid (by rw [← HE1.out, drop_cons s q hqs, tTail_no _ _ _ h58])
        clear HE1 h58
        go_enter Tryd.func96, Tryd.ntmps96
        go_wp2_with fail
        rw [E9.out]
        refine HI.out.mono ?_
        rintro e w4 ⟨hb, c0, c1, c2, c3, rfl, hy⟩
        rw [HQ.out]
        have hbk := (Blk.new w 24 #[.int .i64 0, .int .i64 0, .slice none 0 0, .int .i64 0]).keep hb (by simp)
        obtain ⟨r0, r1, r2', r3, rf0, rf1, rf2, rf3⟩ := blk4 hbk
        have hz := hb.size
        simp only [World.size_alloc] at hz
        have hlw : w.heap.size < w4.heap.size := by omega
        have hlw1 : w.heap.size < w4.heap.size + 1 := by omega
        have HB4 : Hid (Below w.heap.size w w4) := Lib.hid (((Below.refl w.heap.size w).alloc (Nat.le_refl _) _).trans (hb.mono (by simp)))
        have HY := Lib.hid hy
        simp only [World.size_alloc] at HY
        obtain ⟨AA, ccap, rfl, rfl, rfl, rfl, hko, hzo, hto, _⟩ := hy.open_
        have HOK := Lib.hid (And.intro hko (And.intro hzo hto))
        clear hb hbk hy hko hzo hto
        go_wp2
        refine bodyPost_ret (v := badTy 0 0) (by simp [badTy, results, Tryd.results96, go_sem, r0, r1, r2', r3, World.cell?_alloc_lt, hlw]) rfl ?_
        rw [HE.out]
        refine ⟨?_, 0, 0, rfl⟩
        exact (((((HB4.out.setCell (by simp) _).setCell (by simp) _).setCell (by simp) _).setCell (by simp) _).alloc (by simp [World.setCell]; omega) _)
    · have HE : Hid (R = none) := Lib.hid (by rw [← HE1.out, List.drop_eq_nil_of_le (by simp; omega)]; rfl)
      clear HE1
      go_enter Tryd.func96, Tryd.ntmps96
      go_wp2_with fail
      rw [E9.out]
      refine HI.out.mono ?_
      rintro e w4 ⟨hb, c0, c1, c2, c3, rfl, hy⟩
      rw [HQ.out]
      have hbk := (Blk.new w 24 #[.int .i64 0, .int .i64 0, .slice none 0 0, .int .i64 0]).keep hb (by simp)
      obtain ⟨r0, r1, r2', r3, rf0, rf1, rf2, rf3⟩ := blk4 hbk
      have hz := hb.size
      simp only [World.size_alloc] at hz
      have hlw : w.heap.size < w4.heap.size := by omega
      have hlw1 : w.heap.size < w4.heap.size + 1 := by omega
      have HB4 : Hid (Below w.heap.size w w4) := Lib.hid (((Below.refl w.heap.size w).alloc (Nat.le_refl _) _).trans (hb.mono (by simp)))
      have HY := Lib.hid hy
      simp only [World.size_alloc] at HY
      obtain ⟨AA, ccap, rfl, rfl, rfl, rfl, hko, hzo, hto, _⟩ := hy.open_
      have HOK := Lib.hid (And.intro hko (And.intro hzo hto))
      clear hb hbk hy hko hzo hto
      go_wp2
      refine bodyPost_ret (v := badTy 0 0) (by simp [badTy, results, Tryd.results96, go_sem, r0, r1, r2', r3, World.cell?_alloc_lt, hlw]) rfl ?_
      rw [HE.out]
      refine ⟨?_, 0, 0, rfl⟩
      exact (((((HB4.out.setCell (by simp) _).setCell (by simp) _).setCell (by simp) _).setCell (by simp) _).alloc (by simp [World.setCell]; omega) _)
end Go.Proofs.YtacikiambpfipaaDoor
