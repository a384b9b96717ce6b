/- strings.Repeat, by the shelf. -/
import Derived.Test.YtmcdgmepheibkaaDoorProg
import Derived.Test.YtmcdgmepheibkaaDoorWords
import Derived.Shelf.Strings.Repeat
namespace Go.Proofs.YtmcdgmepheibkaaDoor
set_option linter.unusedVariables false
set_option linter.unusedSimpArgs false
open Go.RowKit

def repRen : Go.Shelf.Ren := ⟨fun x => if x = 99 then 123 else if x = 105 then 98 else if x = 165 then 124 else if x = 166 then 125 else if x = 169 then 127 else if x = 170 then 126 else if x = 206 then 140 else if x = 212 then 122 else if x = 240 then 141 else if x = 241 then 142 else if x = 263 then 138 else if x = 264 then 139 else if x = 276 then 143 else if x = 277 then 144 else x, fun x => if x = 0 then 0 else if x = 3 then 3 else if x = 4 then 4 else if x = 5 then 5 else if x = 9 then 9 else if x = 20 then 20 else if x = 37 then 83 else if x = 46 then 140 else if x = 51 then 168 else if x = 53 then 41 else if x = 70 then 144 else if x = 72 then 146 else if x = 75 then 149 else if x = 76 then 150 else if x = 80 then 153 else if x = 109 then 141 else if x = 127 then 173 else if x = 146 then 169 else if x = 148 then 171 else if x = 164 then 175 else x, fun x => x⟩
theorem lays105 : Go.Proofs.Lays.n105 Tryd.prog repRen where
  mixed := by kernel_rfl
  f99 := by kernel_rfl
  f105 := by kernel_rfl
  f165 := by kernel_rfl
  f166 := by kernel_rfl
  f169 := by kernel_rfl
  f170 := by kernel_rfl
  f206 := by kernel_rfl
  f212 := by kernel_rfl
  f240 := by kernel_rfl
  f241 := by kernel_rfl
  f263 := by kernel_rfl
  f264 := by kernel_rfl
  f276 := by kernel_rfl
  f277 := by kernel_rfl
  t0 := by kernel_rfl
  a0 := fun _ => by kernel_rfl
  z0 := fun _ => by kernel_rfl
  v0 := fun _ => by kernel_rfl
  t3 := by kernel_rfl
  a3 := fun _ => by kernel_rfl
  z3 := fun _ => by kernel_rfl
  v3 := fun _ => by kernel_rfl
  t4 := by kernel_rfl
  a4 := fun _ => by kernel_rfl
  z4 := fun _ => by kernel_rfl
  v4 := fun _ => by kernel_rfl
  t5 := by kernel_rfl
  a5 := fun _ => by kernel_rfl
  z5 := fun _ => by kernel_rfl
  v5 := fun _ => by kernel_rfl
  t9 := by kernel_rfl
  a9 := fun _ => by kernel_rfl
  z9 := fun _ => by kernel_rfl
  v9 := fun _ => by kernel_rfl
  t20 := by kernel_rfl
  a20 := fun _ => by kernel_rfl
  z20 := fun _ => by kernel_rfl
  v20 := fun _ => by kernel_rfl
  t37 := by kernel_rfl
  a37 := fun _ => by kernel_rfl
  z37 := fun _ => by kernel_rfl
  v37 := fun _ => by kernel_rfl
  t46 := by kernel_rfl
  a46 := fun _ => by kernel_rfl
  z46 := fun _ => by kernel_rfl
  v46 := fun _ => by kernel_rfl
  t51 := by kernel_rfl
  a51 := fun _ => by kernel_rfl
  z51 := fun _ => by kernel_rfl
  v51 := fun _ => by kernel_rfl
  t53 := by kernel_rfl
  a53 := fun _ => by kernel_rfl
  z53 := fun _ => by kernel_rfl
  v53 := fun _ => by kernel_rfl
  t70 := by kernel_rfl
  a70 := fun _ => by kernel_rfl
  z70 := fun _ => by kernel_rfl
  v70 := fun _ => by kernel_rfl
  t72 := by kernel_rfl
  a72 := fun _ => by kernel_rfl
  z72 := fun _ => by kernel_rfl
  v72 := fun _ => by kernel_rfl
  t75 := by kernel_rfl
  a75 := fun _ => by kernel_rfl
  z75 := fun _ => by kernel_rfl
  v75 := fun _ => by kernel_rfl
  t76 := by kernel_rfl
  a76 := fun _ => by kernel_rfl
  z76 := fun _ => by kernel_rfl
  v76 := fun _ => by kernel_rfl
  t109 := by kernel_rfl
  a109 := fun _ => by kernel_rfl
  z109 := fun _ => by kernel_rfl
  v109 := fun _ => by kernel_rfl
  t127 := by kernel_rfl
  a127 := fun _ => by kernel_rfl
  z127 := fun _ => by kernel_rfl
  v127 := fun _ => by kernel_rfl
  t146 := by kernel_rfl
  a146 := fun _ => by kernel_rfl
  z146 := fun _ => by kernel_rfl
  v146 := fun _ => by kernel_rfl
  t148 := by kernel_rfl
  a148 := fun _ => by kernel_rfl
  z148 := fun _ => by kernel_rfl
  v148 := fun _ => by kernel_rfl
  t164 := by kernel_rfl
  a164 := fun _ => by kernel_rfl
  z164 := fun _ => by kernel_rfl
  v164 := fun _ => by kernel_rfl
theorem repExtra : Go.Proofs.Builder.Extra Tryd.prog repRen where
  sizeBuilder := by kernel_rfl
  liesBuilder := by kernel_rfl
  t5 := by kernel_rfl
  a5 := fun _ => by kernel_rfl
  z5 := fun _ => by kernel_rfl
  v5 := fun _ => by kernel_rfl
  infoByte := by kernel_rfl
  cellsByte := by kernel_rfl
  sizeByte := by kernel_rfl
  neB5 := by decide
theorem rep_zero : ∀ c, Lib.repeatL [0] c = List.replicate c 0
  | 0 => rfl
  | c + 1 => by rw [Lib.repeatL, rep_zero c]; rfl
theorem repeat_c (c : Nat) (w : World) (hc : c ≤ 65536) : Calls Tryd.prog 98 #[.string ⟨#[0]⟩, .int .i64 c] w fun e w' => e = .returned (.string ⟨(List.replicate c 0).toArray⟩) ∧ Below w.heap.size w w' := by
  have h : Calls Tryd.prog 98 #[.string ⟨#[0]⟩, .int .i64 c] w fun e w' => e = .returned (.string ⟨(Lib.repeatL (⟨#[0]⟩ : ByteArray).data.toList c).toArray⟩) ∧ Below w.heap.size w w' := Any.strings_Repeat lays105 repExtra ⟨#[0]⟩ c w (by omega) (by simp [ByteArray.size]; omega)
  exact h.mono fun e w' ⟨he, hb⟩ => ⟨by rw [he, show (⟨#[0]⟩ : ByteArray).data.toList = [0] from rfl, rep_zero], hb⟩
end Go.Proofs.YtmcdgmepheibkaaDoor
