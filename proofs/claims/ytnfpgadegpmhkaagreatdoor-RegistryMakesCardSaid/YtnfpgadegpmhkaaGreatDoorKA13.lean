/- A literal of one byte as a string, later. -/
import Derived.Test.YtnfpgadegpmhkaaGreatDoorProg
import Derived.Test.YtnfpgadegpmhkaaGreatDoorKA4
import Derived.WalkSpells
import Derived.LoopTactic
import Derived.Deep.RegionWith
import Derived.Deep.DeepFit
import Derived.Test.YtnfpgadegpmhkaaGreatDoorKA12
import Derived.Test.YtnfpgadegpmhkaaGreatDoorKA2
import Derived.Test.YtnfpgadegpmhkaaGreatDoorKA3
set_option linter.unusedVariables false
set_option linter.unusedSimpArgs false
set_option maxRecDepth 100000
set_option maxHeartbeats 1000000
namespace Go.Proofs.YtnfpgadegpmhkaaGreatDoor
open Go.RowKit
def LaidC (w : World) : Prop := w.cell? ⟨0, 0, none⟩ = some (.int .i64 2) ∧ w.cell? ⟨0, 1, none⟩ = some (.int .i64 4) ∧ w.cell? ⟨0, 2, none⟩ = some (.int .i64 8)
theorem LaidC.pos {w : World} (h : LaidC w) : 0 < w.heap.size := lt_of_cell h.1
theorem LaidC.same {w w' : World} (h : LaidC w) (hk : w'.heap[0]? = w.heap[0]?) : LaidC w' :=
 ⟨(World.cell?_of_block hk).trans h.1, (World.cell?_of_block hk).trans h.2.1, (World.cell?_of_block hk).trans h.2.2⟩
theorem LaidC.below {w w' : World} {B : Nat} (h : LaidC w) (hb : Below B w w') (hB : 0 < B) : LaidC w' := h.same (hb.block 0 hB)
theorem LaidC.only {w w' : World} {L : List Nat} (h : LaidC w) (ho : Only L w w') (hL : 0 ∉ L) : LaidC w' := h.same (ho.block 0 h.pos hL)
theorem cp_ways (n : Nat) : (n < 253 ∧ cpFirst n = n) ∨ (¬ n < 253 ∧ n < 65536 ∧ cpFirst n = 253) ∨ (¬ n < 253 ∧ ¬ n < 65536 ∧ n < 4294967296 ∧ cpFirst n = 254) ∨ (¬ n < 253 ∧ ¬ n < 65536 ∧ ¬ n < 4294967296 ∧ cpFirst n = 255) := by
 unfold cpFirst
 split
 ·exact .inl ⟨‹_›, rfl⟩
 ·split
  ·exact .inr (.inl ⟨‹_›, ‹_›, rfl⟩)
  ·split
   ·exact .inr (.inr (.inl ⟨‹_›, ‹_›, ‹_›, rfl⟩))
   ·exact .inr (.inr (.inr ⟨‹_›, ‹_›, ‹_›, rfl⟩))
theorem cpFirst_c (n : Nat) (w : World) (hn : n < 18446744073709551616) :
 Calls Tryz.prog 150 #[.int .u64 n] w fun e w' => e = .returned (.int .u8 (cpFirst n)) ∧ w = w' := by
 rcases cp_ways n with ⟨h1, e⟩ | ⟨h1, h2, e⟩ | ⟨h1, h2, h3, e⟩ | ⟨h1, h2, h3, e⟩
 ·rw [e]
  clear e
  have d1 : decide ((n : Int) < 253) = true := decide_eq_true (by omega)
  go_enter Tryz.func150, Tryz.ntmps150
  go_wp2
  go_ret
  exact ⟨by go_num, rfl⟩
 ·rw [e]
  clear e
  have d1 : decide ((n : Int) < 253) = false := decide_eq_false (by omega)
  have d2 : decide ((n : Int) < 65536) = true := decide_eq_true (by omega)
  go_enter Tryz.func150, Tryz.ntmps150
  go_wp2
  go_ret
  exact ⟨by go_num, rfl⟩
 ·rw [e]
  clear e
  have d1 : decide ((n : Int) < 253) = false := decide_eq_false (by omega)
  have d2 : decide ((n : Int) < 65536) = false := decide_eq_false (by omega)
  have d3 : decide ((n : Int) < 4294967296) = true := decide_eq_true (by omega)
  go_enter Tryz.func150, Tryz.ntmps150
  go_wp2
  go_ret
  exact ⟨by go_num, rfl⟩
 ·rw [e]
  clear e
  have d1 : decide ((n : Int) < 253) = false := decide_eq_false (by omega)
  have d2 : decide ((n : Int) < 65536) = false := decide_eq_false (by omega)
  have d3 : decide ((n : Int) < 4294967296) = false := decide_eq_false (by omega)
  go_enter Tryz.func150, Tryz.ntmps150
  go_wp2
  go_ret
  exact ⟨by go_num, rfl⟩
theorem cpPut_small {n : Nat} (h : n < 253) : cpPut n = [ub n] := by unfold cpPut; rw [if_pos h]
theorem cpPut_great {n f k : Nat} (h : ¬ n < 253) (hf : cpFirst n = f) (hk : cpBehind f = k) : (⟨#[ub f]⟩ ++ ⟨(leD n k).toArray⟩ : ByteArray) = ⟨(cpPut n).toArray⟩ :=
 bytes_ext (by rw [toList_app]; unfold cpPut; rw [if_neg h, hf, hk]; rfl)
theorem cpPut_c (n : Nat) (w : World) (hn : n < 18446744073709551616) (hL : LaidC w) :
 Calls Tryz.prog 110 #[.int .u64 n] w fun e w' => e = .returned (.string ⟨(cpPut n).toArray⟩) ∧ Below w.heap.size w w' := by
 have hpos := hL.pos
 obtain ⟨l0, l1, l2⟩ := hL
 have HF := Lib.hid (cpFirst_c n w hn)
 have k1 := fun (w : World) (a : Int) => run_str1 Tryz.underlying117 Tryz.underlying5 Tryz.underlying9 w a
 rcases cp_ways n with ⟨h1, e⟩ | ⟨h1, h2, e⟩ | ⟨h1, h2, h3, e⟩ | ⟨h1, h2, h3, e⟩
 ·have HL := Lib.hid (cpPut_small h1)
  rw [e] at HF
  clear e hn l0 l1 l2
  go_enter Tryz.func110, Tryz.ntmps110
  go_wp2_with fail
  refine HF.out.mono ?_
  rintro e w' ⟨rfl, rfl⟩
  go_wp2
  go_ret
  exact ⟨ret_str (by rw [HL.out]), blw⟩
 ·have HD := Lib.hid (fun w => little_c n 2 w (by have := cp_fits h1 hn; rw [e] at this; simpa [cpBehind] using this) (by omega) (by omega))
  have HL := Lib.hid (cpPut_great (k := 2) h1 e (by decide))
  have hT : (⟨(leD n 2).toArray⟩ : ByteArray).size = 2 := by rw [size_of, leD_length]
  generalize (⟨(leD n 2).toArray⟩ : ByteArray) = T at *
  rw [e] at HF
  clear e hn
  go_enter Tryz.func110, Tryz.ntmps110
  go_wp2_with fail
  refine HF.out.mono ?_
  rintro e w' ⟨rfl, rfl⟩
  go_wp2_with fail
  refine (HD.out _).mono ?_
  rintro e w' ⟨rfl, hb⟩
  go_wp2
  go_ret
  exact ⟨ret_str (by rw [← HL.out]; rfl), ((Below.refl w.heap.size w).alloc (Nat.le_refl _) _).trans (hb.mono (by simp))⟩
 ·have HD := Lib.hid (fun w => little_c n 4 w (by have := cp_fits h1 hn; rw [e] at this; simpa [cpBehind] using this) (by omega) (by omega))
  have HL := Lib.hid (cpPut_great (k := 4) h1 e (by decide))
  have hT : (⟨(leD n 4).toArray⟩ : ByteArray).size = 4 := by rw [size_of, leD_length]
  generalize (⟨(leD n 4).toArray⟩ : ByteArray) = T at *
  rw [e] at HF
  clear e hn
  go_enter Tryz.func110, Tryz.ntmps110
  go_wp2_with fail
  refine HF.out.mono ?_
  rintro e w' ⟨rfl, rfl⟩
  go_wp2_with fail
  refine (HD.out _).mono ?_
  rintro e w' ⟨rfl, hb⟩
  go_wp2
  go_ret
  exact ⟨ret_str (by rw [← HL.out]; rfl), ((Below.refl w.heap.size w).alloc (Nat.le_refl _) _).trans (hb.mono (by simp))⟩
 ·have HD := Lib.hid (fun w => little_c n 8 w (by have := cp_fits h1 hn; rw [e] at this; simpa [cpBehind] using this) (by omega) (by omega))
  have HL := Lib.hid (cpPut_great (k := 8) h1 e (by decide))
  have hT : (⟨(leD n 8).toArray⟩ : ByteArray).size = 8 := by rw [size_of, leD_length]
  generalize (⟨(leD n 8).toArray⟩ : ByteArray) = T at *
  rw [e] at HF
  clear e hn
  go_enter Tryz.func110, Tryz.ntmps110
  go_wp2_with fail
  refine HF.out.mono ?_
  rintro e w' ⟨rfl, rfl⟩
  go_wp2_with fail
  refine (HD.out _).mono ?_
  rintro e w' ⟨rfl, hb⟩
  go_wp2
  go_ret
  exact ⟨ret_str (by rw [← HL.out]; rfl), ((Below.refl w.heap.size w).alloc (Nat.le_refl _) _).trans (hb.mono (by simp))⟩
def cpRet (N : Nat × Nat × Int) : Ending := .returned (.tuple #[.int .u64 N.1, .int .i64 N.2.1, .int .i64 N.2.2])
theorem toList_cut1 (s : ByteArray) (k : Nat) : (s.extract 1 (1 + k)).data.toList = (s.data.toList.drop 1).take k := by
 simp [ByteArray.extract, ByteArray.copySlice, Array.toList_extract]
theorem cpNext_c (s : ByteArray) (w : World) (hs : s.size ≤ 9223372036854775807) (hL : LaidC w) :
 Calls Tryz.prog 154 #[.string s] w fun e w' => e = cpRet (cpNext s.data.toList) ∧ w = w' := by
 have hpos := hL.pos
 obtain ⟨l0, l1, l2⟩ := hL
 unfold cpRet
 rcases empty_ways s with ⟨hz0, rfl⟩ | ⟨hz0, hz1, hz2⟩
 ·go_enter Tryz.func154, Tryz.ntmps154
  go_wp2
  go_ret3
  exact ⟨rfl, rfl⟩
 ·have hp : 0 < s.size := by omega
  have hcons := drop_cons s 0 hp
  rw [List.drop_zero] at hcons
  have hb := s[0].toNat_lt
  by_cases h253 : s[0].toNat < 253
  ·have HN : Hid (cpNext s.data.toList = (s[0].toNat, 1, 0)) := Lib.hid (by rw [hcons]; simp only [cpNext, if_pos h253])
   generalize cpNext s.data.toList = N at *
   clear hcons
   go_enter Tryz.func154, Tryz.ntmps154
   go_wp2
   go_ret3
   exact ⟨by rw [HN.out]; rfl, rfl⟩
  ·rcases (show s[0].toNat = 253 ∨ s[0].toNat = 254 ∨ s[0].toNat = 255 by omega) with hb | hb | hb
   ·have hb253 : s[0].toNat = 253 := hb
    have HK : Hid (cpNext s.data.toList = if (s.data.toList.drop 1).length < 2 then (0, 0, 2) else if cpFirst (leL ((s.data.toList.drop 1).take 2)) = 253 then (leL ((s.data.toList.drop 1).take 2), 1 + 2, 0) else (0, 0, 3)) := Lib.hid (by
     rw [hcons]; simp only [cpNext, hb253]; rfl)
    rw [List.length_drop, toList_size] at HK
    generalize cpNext s.data.toList = N at *
    by_cases hsz : s.size < 1 + 2
    ·have HN : Hid (N = (0, 0, 2)) := Lib.hid (by rw [HK.out, if_pos (by omega)])
     clear HK hcons
     go_enter Tryz.func154, Tryz.ntmps154
     go_wp2
     go_ret3
     exact ⟨by rw [HN.out]; rfl, rfl⟩
    ·have hX : (s.extract 1 (1 + 2)).data.toList = (s.data.toList.drop 1).take 2 := toList_cut1 s 2
     have hXs : (s.extract 1 (1 + 2)).size = 2 := by rw [size_cut s 1 (1 + 2) (by omega)]
     have HG := Lib.hid (getLittle_c (s.extract 1 (1 + 2)) w (by omega) (by omega))
     rw [hX] at HG
     have hm := leL_lt ((s.data.toList.drop 1).take 2)
     rw [← hX, toList_size, hXs] at hm
     rw [hX] at hm
     rw [if_neg (by omega)] at HK
     generalize leL ((s.data.toList.drop 1).take 2) = m at *
     have HF := Lib.hid (cpFirst_c m w (by omega))
     by_cases hf : cpFirst m = 253
     ·have HN : Hid (N = (m, 1 + 2, 0)) := Lib.hid (by rw [HK.out, if_pos hf])
      rw [hf] at HF
      clear HK hcons hX hXs hm hf
      go_enter Tryz.func154, Tryz.ntmps154
      go_wp2_with fail
      refine HG.out.mono ?_
      rintro e w' ⟨rfl, rfl⟩
      go_wp2_with fail
      refine HF.out.mono ?_
      rintro e w' ⟨rfl, rfl⟩
      go_wp2
      go_ret3
      exact ⟨by rw [HN.out]; rfl, rfl⟩
     ·have HN : Hid (N = (0, 0, 3)) := Lib.hid (by rw [HK.out, if_neg hf])
      have e1 : ((cpFirst m : Int) != 253) = true := by rw [bne_iff_ne]; omega
      generalize cpFirst m = F at *
      clear HK hcons hX hXs hm hf
      go_enter Tryz.func154, Tryz.ntmps154
      go_wp2_with fail
      refine HG.out.mono ?_
      rintro e w' ⟨rfl, rfl⟩
      go_wp2_with fail
      refine HF.out.mono ?_
      rintro e w' ⟨rfl, rfl⟩
      go_wp2
      go_ret3
      exact ⟨by rw [HN.out]; rfl, rfl⟩
   ·have hb253 : s[0].toNat = 254 := hb
    have HK : Hid (cpNext s.data.toList = if (s.data.toList.drop 1).length < 4 then (0, 0, 2) else if cpFirst (leL ((s.data.toList.drop 1).take 4)) = 254 then (leL ((s.data.toList.drop 1).take 4), 1 + 4, 0) else (0, 0, 3)) := Lib.hid (by
     rw [hcons]; simp only [cpNext, hb253]; rfl)
    rw [List.length_drop, toList_size] at HK
    generalize cpNext s.data.toList = N at *
    by_cases hsz : s.size < 1 + 4
    ·have HN : Hid (N = (0, 0, 2)) := Lib.hid (by rw [HK.out, if_pos (by omega)])
     clear HK hcons
     go_enter Tryz.func154, Tryz.ntmps154
     go_wp2
     go_ret3
     exact ⟨by rw [HN.out]; rfl, rfl⟩
    ·have hX : (s.extract 1 (1 + 4)).data.toList = (s.data.toList.drop 1).take 4 := toList_cut1 s 4
     have hXs : (s.extract 1 (1 + 4)).size = 4 := by rw [size_cut s 1 (1 + 4) (by omega)]
     have HG := Lib.hid (getLittle_c (s.extract 1 (1 + 4)) w (by omega) (by omega))
     rw [hX] at HG
     have hm := leL_lt ((s.data.toList.drop 1).take 4)
     rw [← hX, toList_size, hXs] at hm
     rw [hX] at hm
     rw [if_neg (by omega)] at HK
     generalize leL ((s.data.toList.drop 1).take 4) = m at *
     have HF := Lib.hid (cpFirst_c m w (by omega))
     by_cases hf : cpFirst m = 254
     ·have HN : Hid (N = (m, 1 + 4, 0)) := Lib.hid (by rw [HK.out, if_pos hf])
      rw [hf] at HF
      clear HK hcons hX hXs hm hf
      go_enter Tryz.func154, Tryz.ntmps154
      go_wp2_with fail
      refine HG.out.mono ?_
      rintro e w' ⟨rfl, rfl⟩
      go_wp2_with fail
      refine HF.out.mono ?_
      rintro e w' ⟨rfl, rfl⟩
      go_wp2
      go_ret3
      exact ⟨by rw [HN.out]; rfl, rfl⟩
     ·have HN : Hid (N = (0, 0, 3)) := Lib.hid (by rw [HK.out, if_neg hf])
      have e1 : ((cpFirst m : Int) != 254) = true := by rw [bne_iff_ne]; omega
      generalize cpFirst m = F at *
      clear HK hcons hX hXs hm hf
      go_enter Tryz.func154, Tryz.ntmps154
      go_wp2_with fail
      refine HG.out.mono ?_
      rintro e w' ⟨rfl, rfl⟩
      go_wp2_with fail
      refine HF.out.mono ?_
      rintro e w' ⟨rfl, rfl⟩
      go_wp2
      go_ret3
      exact ⟨by rw [HN.out]; rfl, rfl⟩
   ·have hb253 : s[0].toNat = 255 := hb
    have HK : Hid (cpNext s.data.toList = if (s.data.toList.drop 1).length < 8 then (0, 0, 2) else if cpFirst (leL ((s.data.toList.drop 1).take 8)) = 255 then (leL ((s.data.toList.drop 1).take 8), 1 + 8, 0) else (0, 0, 3)) := Lib.hid (by
     rw [hcons]; simp only [cpNext, hb253]; rfl)
    rw [List.length_drop, toList_size] at HK
    generalize cpNext s.data.toList = N at *
    by_cases hsz : s.size < 1 + 8
    ·have HN : Hid (N = (0, 0, 2)) := Lib.hid (by rw [HK.out, if_pos (by omega)])
     clear HK hcons
     go_enter Tryz.func154, Tryz.ntmps154
     go_wp2
     go_ret3
     exact ⟨by rw [HN.out]; rfl, rfl⟩
    ·have hX : (s.extract 1 (1 + 8)).data.toList = (s.data.toList.drop 1).take 8 := toList_cut1 s 8
     have hXs : (s.extract 1 (1 + 8)).size = 8 := by rw [size_cut s 1 (1 + 8) (by omega)]
     have HG := Lib.hid (getLittle_c (s.extract 1 (1 + 8)) w (by omega) (by omega))
     rw [hX] at HG
     have hm := leL_lt ((s.data.toList.drop 1).take 8)
     rw [← hX, toList_size, hXs] at hm
     rw [hX] at hm
     rw [if_neg (by omega)] at HK
     generalize leL ((s.data.toList.drop 1).take 8) = m at *
     have HF := Lib.hid (cpFirst_c m w (by omega))
     by_cases hf : cpFirst m = 255
     ·have HN : Hid (N = (m, 1 + 8, 0)) := Lib.hid (by rw [HK.out, if_pos hf])
      rw [hf] at HF
      clear HK hcons hX hXs hm hf
      go_enter Tryz.func154, Tryz.ntmps154
      go_wp2_with fail
      refine HG.out.mono ?_
      rintro e w' ⟨rfl, rfl⟩
      go_wp2_with fail
      refine HF.out.mono ?_
      rintro e w' ⟨rfl, rfl⟩
      go_wp2
      go_ret3
      exact ⟨by rw [HN.out]; rfl, rfl⟩
     ·have HN : Hid (N = (0, 0, 3)) := Lib.hid (by rw [HK.out, if_neg hf])
      have e1 : ((cpFirst m : Int) != 255) = true := by rw [bne_iff_ne]; omega
      generalize cpFirst m = F at *
      clear HK hcons hX hXs hm hf
      go_enter Tryz.func154, Tryz.ntmps154
      go_wp2_with fail
      refine HG.out.mono ?_
      rintro e w' ⟨rfl, rfl⟩
      go_wp2_with fail
      refine HF.out.mono ?_
      rintro e w' ⟨rfl, rfl⟩
      go_wp2
      go_ret3
      exact ⟨by rw [HN.out]; rfl, rfl⟩
end Go.Proofs.YtnfpgadegpmhkaaGreatDoor
