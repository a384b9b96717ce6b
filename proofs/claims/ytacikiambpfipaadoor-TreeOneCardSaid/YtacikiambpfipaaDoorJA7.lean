/- The document's parse of types. -/
import Derived.Test.YtacikiambpfipaaDoorJTyParse1
import Derived.Test.YtacikiambpfipaaDoorJTyParse2
import Derived.Test.YtacikiambpfipaaDoorJTyParse3
namespace Go.Proofs.YtacikiambpfipaaDoor
set_option linter.unusedVariables false
set_option linter.unusedSimpArgs false
open Go.RowKit

set_option maxRecDepth 100000 in
set_option maxHeartbeats 3200000 in
theorem tyParse_c : ∀ (f deep : Nat), deep + f = 9 → ∀ (s : ByteArray) (at_ : Nat) (w : World), at_ ≤ s.size → s.size ≤ 100000 →
    Calls Tryd.prog 96 #[.string s, .int .i64 at_, .int .i64 deep] w fun e w' => TyEnd s w (tItem f (s.data.toList.drop at_)) e w' := by
  intro f
  induction f with
  | zero =>
    intro deep hdp s at_ w hat hs
    have HE : Hid (tItem 0 (s.data.toList.drop at_) = none) := Lib.hid rfl
    generalize tItem 0 (s.data.toList.drop at_) = R at *
    have hd8 : 8 < deep := by omega
    clear hdp
    by_cases hlt : at_ < s.size
    · go_enter Tryd.func96, Tryd.ntmps96
      go_wp2
      refine bodyPost_ret (v := badTy 0 0) (by simp [badTy, results, Tryd.results96, go_sem, HE]) rfl ?_
      rw [HE.out]
      exact ⟨(by repeat (first | exact Below.refl _ _ | assumption | with_reducible refine Below.drewN' ?_ _ | with_reducible refine Below.drew ?_ | ((with_reducible refine Below.alloc' ?_ ?_ _); · (first | omega | (simp <;> omega))))), 0, 0, rfl⟩
    · go_enter Tryd.func96, Tryd.ntmps96
      go_wp2
      refine bodyPost_ret (v := badTy 0 0) (by simp [badTy, results, Tryd.results96, go_sem, HE]) rfl ?_
      rw [HE.out]
      exact ⟨(by repeat (first | exact Below.refl _ _ | assumption | with_reducible refine Below.drewN' ?_ _ | with_reducible refine Below.drew ?_ | ((with_reducible refine Below.alloc' ?_ ?_ _); · (first | omega | (simp <;> omega))))), 0, 0, rfl⟩
  | succ f ih =>
    intro deep hdp s at_ w hat hs
    have IH := Lib.hid (fun s at_ w => ih (deep + 1) (by omega) s at_ w)
    have hd8 : deep ≤ 8 := by omega
    clear ih hdp
    obtain ⟨R, HR⟩ : ∃ R, Hid (tItem (f + 1) (s.data.toList.drop at_) = R) := ⟨_, Lib.hid rfl⟩
    rw [HR.out]
    by_cases hlt : at_ < s.size
    · by_cases hl : s[at_].toNat = 91
      · exact tyParse_list f deep hd8 IH s at_ w hat hs R HR hlt hl
      · by_cases ht : s[at_].toNat = 123
        · exact tyParse_struct f deep hd8 IH s at_ w hat hs R HR hlt ht
        · exact tyParse_num f deep hd8 IH s at_ w hat hs R HR hlt hl ht
    · have HE : Hid (R = none) := Lib.hid (by rw [← HR.out, List.drop_eq_nil_of_le (by simp; omega), tItem_nil])
      clear HR
      go_enter Tryd.func96, Tryd.ntmps96
      go_wp2
      refine bodyPost_ret (v := badTy 0 0) (by simp [badTy, results, Tryd.results96, go_sem, HE]) rfl ?_
      rw [HE.out]
      exact ⟨(by repeat (first | exact Below.refl _ _ | assumption | with_reducible refine Below.drewN' ?_ _ | with_reducible refine Below.drew ?_ | ((with_reducible refine Below.alloc' ?_ ?_ _); · (first | omega | (simp <;> omega))))), 0, 0, rfl⟩
end Go.Proofs.YtacikiambpfipaaDoor
