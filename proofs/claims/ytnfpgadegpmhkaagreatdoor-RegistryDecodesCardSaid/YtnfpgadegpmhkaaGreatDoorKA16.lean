/- A literal of one byte as a string, later. -/
import Derived.Test.YtnfpgadegpmhkaaGreatDoorProg
import Derived.Test.YtnfpgadegpmhkaaGreatDoorKA4
import Derived.WalkSpells
import Derived.LoopTactic
import Derived.Deep.RegionWith
import Derived.Deep.DeepFit
import Derived.Test.YtnfpgadegpmhkaaGreatDoorKA15
import Derived.Test.YtnfpgadegpmhkaaGreatDoorKA2
import Derived.Test.YtnfpgadegpmhkaaGreatDoorKA3
set_option linter.unusedVariables false
set_option linter.unusedSimpArgs false
set_option maxRecDepth 100000
set_option maxHeartbeats 1000000
namespace Go.Proofs.YtnfpgadegpmhkaaGreatDoor
open Go.RowKit
def LaidC (w : World) : Prop := w.cell? ⟨0, 0, none⟩ = some (.int .i64 2) ∧ w.cell? ⟨0, 1, none⟩ = some (.int .i64 4) ∧ w.cell? ⟨0, 2, none⟩ = some (.int .i64 8)
theorem LaidC.pos {w : World} (h : LaidC w) : 0 < w.heap.size := lt_of_cell h.1
theorem LaidC.same {w w' : World} (h : LaidC w) (hk : w'.heap[0]? = w.heap[0]?) : LaidC w' :=
 ⟨(World.cell?_of_block hk).trans h.1, (World.cell?_of_block hk).trans h.2.1, (World.cell?_of_block hk).trans h.2.2⟩
theorem LaidC.below {w w' : World} {B : Nat} (h : LaidC w) (hb : Below B w w') (hB : 0 < B) : LaidC w' := h.same (hb.block 0 hB)
theorem LaidC.only {w w' : World} {L : List Nat} (h : LaidC w) (ho : Only L w w') (hL : 0 ∉ L) : LaidC w' := h.same (ho.block 0 h.pos hL)
theorem cp_ways (n : Nat) : (n < 253 ∧ cpFirst n = n) ∨ (¬ n < 253 ∧ n < 65536 ∧ cpFirst n = 253) ∨ (¬ n < 253 ∧ ¬ n < 65536 ∧ n < 4294967296 ∧ cpFirst n = 254) ∨ (¬ n < 253 ∧ ¬ n < 65536 ∧ ¬ n < 4294967296 ∧ cpFirst n = 255) := by
 unfold cpFirst
 split
 ·exact .inl ⟨‹_›, rfl⟩
 ·split
  ·exact .inr (.inl ⟨‹_›, ‹_›, rfl⟩)
  ·split
   ·exact .inr (.inr (.inl ⟨‹_›, ‹_›, ‹_›, rfl⟩))
   ·exact .inr (.inr (.inr ⟨‹_›, ‹_›, ‹_›, rfl⟩))
theorem cpFirst_c (n : Nat) (w : World) (hn : n < 18446744073709551616) :
 Calls Tryz.prog 150 #[.int .u64 n] w fun e w' => e = .returned (.int .u8 (cpFirst n)) ∧ w = w' := by
 rcases cp_ways n with ⟨h1, e⟩ | ⟨h1, h2, e⟩ | ⟨h1, h2, h3, e⟩ | ⟨h1, h2, h3, e⟩
 ·rw [e]
  clear e
  have d1 : decide ((n : Int) < 253) = true := decide_eq_true (by omega)
  go_enter Tryz.func150, Tryz.ntmps150
  go_wp2
  go_ret
  exact ⟨by go_num, rfl⟩
 ·rw [e]
  clear e
  have d1 : decide ((n : Int) < 253) = false := decide_eq_false (by omega)
  have d2 : decide ((n : Int) < 65536) = true := decide_eq_true (by omega)
  go_enter Tryz.func150, Tryz.ntmps150
  go_wp2
  go_ret
  exact ⟨by go_num, rfl⟩
 ·rw [e]
  clear e
  have d1 : decide ((n : Int) < 253) = false := decide_eq_false (by omega)
  have d2 : decide ((n : Int) < 65536) = false := decide_eq_false (by omega)
  have d3 : decide ((n : Int) < 4294967296) = true := decide_eq_true (by omega)
  go_enter Tryz.func150, Tryz.ntmps150
  go_wp2
  go_ret
  exact ⟨by go_num, rfl⟩
 ·rw [e]
  clear e
  have d1 : decide ((n : Int) < 253) = false := decide_eq_false (by omega)
  have d2 : decide ((n : Int) < 65536) = false := decide_eq_false (by omega)
  have d3 : decide ((n : Int) < 4294967296) = false := decide_eq_false (by omega)
  go_enter Tryz.func150, Tryz.ntmps150
  go_wp2
  go_ret
  exact ⟨by go_num, rfl⟩
theorem cpPut_small {n : Nat} (h : n < 253) : cpPut n = [ub n] := by unfold cpPut; rw [if_pos h]
theorem cpPut_great {n f k : Nat} (h : ¬ n < 253) (hf : cpFirst n = f) (hk : cpBehind f = k) : (⟨#[ub f]⟩ ++ ⟨(leD n k).toArray⟩ : ByteArray) = ⟨(cpPut n).toArray⟩ :=
 bytes_ext (by rw [toList_app]; unfold cpPut; rw [if_neg h, hf, hk]; rfl)
theorem cpPut_c (n : Nat) (w : World) (hn : n < 18446744073709551616) (hL : LaidC w) :
 Calls Tryz.prog 110 #[.int .u64 n] w fun e w' => e = .returned (.string ⟨(cpPut n).toArray⟩) ∧ Below w.heap.size w w' := by
 have hpos := hL.pos
 obtain ⟨l0, l1, l2⟩ := hL
 have HF := Lib.hid (cpFirst_c n w hn)
 have k1 := fun (w : World) (a : Int) => run_str1 Tryz.underlying117 Tryz.underlying5 Tryz.underlying9 w a
 rcases cp_ways n with ⟨h1, e⟩ | ⟨h1, h2, e⟩ | ⟨h1, h2, h3, e⟩ | ⟨h1, h2, h3, e⟩
 ·have HL := Lib.hid (cpPut_small h1)
  rw [e] at HF
  clear e hn l0 l1 l2
  go_enter Tryz.func110, Tryz.ntmps110
  go_wp2_with fail
  refine HF.out.mono ?_
  rintro e w' ⟨rfl, rfl⟩
  go_wp2
  go_ret
  exact ⟨ret_str (by rw [HL.out]), blw⟩
 ·have HD := Lib.hid (fun w => little_c n 2 w (by have := cp_fits h1 hn; rw [e] at this; simpa [cpBehind] using this) (by omega) (by omega))
  have HL := Lib.hid (cpPut_great (k := 2) h1 e (by decide))
  have hT : (⟨(leD n 2).toArray⟩ : ByteArray).size = 2 := by rw [size_of, leD_length]
  generalize (⟨(leD n 2).toArray⟩ : ByteArray) = T at *
  rw [e] at HF
  clear e hn
  go_enter Tryz.func110, Tryz.ntmps110
  go_wp2_with fail
  refine HF.out.mono ?_
  rintro e w' ⟨rfl, rfl⟩
  go_wp2_with fail
  refine (HD.out _).mono ?_
  rintro e w' ⟨rfl, hb⟩
  go_wp2
  go_ret
  exact ⟨ret_str (by rw [← HL.out]; rfl), ((Below.refl w.heap.size w).alloc (Nat.le_refl _) _).trans (hb.mono (by simp))⟩
 ·have HD := Lib.hid (fun w => little_c n 4 w (by have := cp_fits h1 hn; rw [e] at this; simpa [cpBehind] using this) (by omega) (by omega))
  have HL := Lib.hid (cpPut_great (k := 4) h1 e (by decide))
  have hT : (⟨(leD n 4).toArray⟩ : ByteArray).size = 4 := by rw [size_of, leD_length]
  generalize (⟨(leD n 4).toArray⟩ : ByteArray) = T at *
  rw [e] at HF
  clear e hn
  go_enter Tryz.func110, Tryz.ntmps110
  go_wp2_with fail
  refine HF.out.mono ?_
  rintro e w' ⟨rfl, rfl⟩
  go_wp2_with fail
  refine (HD.out _).mono ?_
  rintro e w' ⟨rfl, hb⟩
  go_wp2
  go_ret
  exact ⟨ret_str (by rw [← HL.out]; rfl), ((Below.refl w.heap.size w).alloc (Nat.le_refl _) _).trans (hb.mono (by simp))⟩
 ·have HD := Lib.hid (fun w => little_c n 8 w (by have := cp_fits h1 hn; rw [e] at this; simpa [cpBehind] using this) (by omega) (by omega))
  have HL := Lib.hid (cpPut_great (k := 8) h1 e (by decide))
  have hT : (⟨(leD n 8).toArray⟩ : ByteArray).size = 8 := by rw [size_of, leD_length]
  generalize (⟨(leD n 8).toArray⟩ : ByteArray) = T at *
  rw [e] at HF
  clear e hn
  go_enter Tryz.func110, Tryz.ntmps110
  go_wp2_with fail
  refine HF.out.mono ?_
  rintro e w' ⟨rfl, rfl⟩
  go_wp2_with fail
  refine (HD.out _).mono ?_
  rintro e w' ⟨rfl, hb⟩
  go_wp2
  go_ret
  exact ⟨ret_str (by rw [← HL.out]; rfl), ((Below.refl w.heap.size w).alloc (Nat.le_refl _) _).trans (hb.mono (by simp))⟩
def cpRet (N : Nat × Nat × Int) : Ending := .returned (.tuple #[.int .u64 N.1, .int .i64 N.2.1, .int .i64 N.2.2])
theorem toList_cut1 (s : ByteArray) (k : Nat) : (s.extract 1 (1 + k)).data.toList = (s.data.toList.drop 1).take k := by
 simp [ByteArray.extract, ByteArray.copySlice, Array.toList_extract]
theorem cpNext_c (s : ByteArray) (w : World) (hs : s.size ≤ 9223372036854775807) (hL : LaidC w) :
 Calls Tryz.prog 154 #[.string s] w fun e w' => e = cpRet (cpNext s.data.toList) ∧ w = w' := by
 have hpos := hL.pos
 obtain ⟨l0, l1, l2⟩ := hL
 unfold cpRet
 rcases empty_ways s with ⟨hz0, rfl⟩ | ⟨hz0, hz1, hz2⟩
 ·go_enter Tryz.func154, Tryz.ntmps154
  go_wp2
  go_ret3
  exact ⟨rfl, rfl⟩
 ·have hp : 0 < s.size := by omega
  have hcons := drop_cons s 0 hp
  rw [List.drop_zero] at hcons
  have hb := s[0].toNat_lt
  by_cases h253 : s[0].toNat < 253
  ·have HN : Hid (cpNext s.data.toList = (s[0].toNat, 1, 0)) := Lib.hid (by rw [hcons]; simp only [cpNext, if_pos h253])
   generalize cpNext s.data.toList = N at *
   clear hcons
   go_enter Tryz.func154, Tryz.ntmps154
   go_wp2
   go_ret3
   exact ⟨by rw [HN.out]; rfl, rfl⟩
  ·rcases (show s[0].toNat = 253 ∨ s[0].toNat = 254 ∨ s[0].toNat = 255 by omega) with hb | hb | hb
   ·have hb253 : s[0].toNat = 253 := hb
    have HK : Hid (cpNext s.data.toList = if (s.data.toList.drop 1).length < 2 then (0, 0, 2) else if cpFirst (leL ((s.data.toList.drop 1).take 2)) = 253 then (leL ((s.data.toList.drop 1).take 2), 1 + 2, 0) else (0, 0, 3)) := Lib.hid (by
     rw [hcons]; simp only [cpNext, hb253]; rfl)
    rw [List.length_drop, toList_size] at HK
    generalize cpNext s.data.toList = N at *
    by_cases hsz : s.size < 1 + 2
    ·have HN : Hid (N = (0, 0, 2)) := Lib.hid (by rw [HK.out, if_pos (by omega)])
     clear HK hcons
     go_enter Tryz.func154, Tryz.ntmps154
     go_wp2
     go_ret3
     exact ⟨by rw [HN.out]; rfl, rfl⟩
    ·have hX : (s.extract 1 (1 + 2)).data.toList = (s.data.toList.drop 1).take 2 := toList_cut1 s 2
     have hXs : (s.extract 1 (1 + 2)).size = 2 := by rw [size_cut s 1 (1 + 2) (by omega)]
     have HG := Lib.hid (getLittle_c (s.extract 1 (1 + 2)) w (by omega) (by omega))
     rw [hX] at HG
     have hm := leL_lt ((s.data.toList.drop 1).take 2)
     rw [← hX, toList_size, hXs] at hm
     rw [hX] at hm
     rw [if_neg (by omega)] at HK
     generalize leL ((s.data.toList.drop 1).take 2) = m at *
     have HF := Lib.hid (cpFirst_c m w (by omega))
     by_cases hf : cpFirst m = 253
     ·have HN : Hid (N = (m, 1 + 2, 0)) := Lib.hid (by rw [HK.out, if_pos hf])
      rw [hf] at HF
      clear HK hcons hX hXs hm hf
      go_enter Tryz.func154, Tryz.ntmps154
      go_wp2_with fail
      refine HG.out.mono ?_
      rintro e w' ⟨rfl, rfl⟩
      go_wp2_with fail
      refine HF.out.mono ?_
      rintro e w' ⟨rfl, rfl⟩
      go_wp2
      go_ret3
      exact ⟨by rw [HN.out]; rfl, rfl⟩
     ·have HN : Hid (N = (0, 0, 3)) := Lib.hid (by rw [HK.out, if_neg hf])
      have e1 : ((cpFirst m : Int) != 253) = true := by rw [bne_iff_ne]; omega
      generalize cpFirst m = F at *
      clear HK hcons hX hXs hm hf
      go_enter Tryz.func154, Tryz.ntmps154
      go_wp2_with fail
      refine HG.out.mono ?_
      rintro e w' ⟨rfl, rfl⟩
      go_wp2_with fail
      refine HF.out.mono ?_
      rintro e w' ⟨rfl, rfl⟩
      go_wp2
      go_ret3
      exact ⟨by rw [HN.out]; rfl, rfl⟩
   ·have hb253 : s[0].toNat = 254 := hb
    have HK : Hid (cpNext s.data.toList = if (s.data.toList.drop 1).length < 4 then (0, 0, 2) else if cpFirst (leL ((s.data.toList.drop 1).take 4)) = 254 then (leL ((s.data.toList.drop 1).take 4), 1 + 4, 0) else (0, 0, 3)) := Lib.hid (by
     rw [hcons]; simp only [cpNext, hb253]; rfl)
    rw [List.length_drop, toList_size] at HK
    generalize cpNext s.data.toList = N at *
    by_cases hsz : s.size < 1 + 4
    ·have HN : Hid (N = (0, 0, 2)) := Lib.hid (by rw [HK.out, if_pos (by omega)])
     clear HK hcons
     go_enter Tryz.func154, Tryz.ntmps154
     go_wp2
     go_ret3
     exact ⟨by rw [HN.out]; rfl, rfl⟩
    ·have hX : (s.extract 1 (1 + 4)).data.toList = (s.data.toList.drop 1).take 4 := toList_cut1 s 4
     have hXs : (s.extract 1 (1 + 4)).size = 4 := by rw [size_cut s 1 (1 + 4) (by omega)]
     have HG := Lib.hid (getLittle_c (s.extract 1 (1 + 4)) w (by omega) (by omega))
     rw [hX] at HG
     have hm := leL_lt ((s.data.toList.drop 1).take 4)
     rw [← hX, toList_size, hXs] at hm
     rw [hX] at hm
     rw [if_neg (by omega)] at HK
     generalize leL ((s.data.toList.drop 1).take 4) = m at *
     have HF := Lib.hid (cpFirst_c m w (by omega))
     by_cases hf : cpFirst m = 254
     ·have HN : Hid (N = (m, 1 + 4, 0)) := Lib.hid (by rw [HK.out, if_pos hf])
      rw [hf] at HF
      clear HK hcons hX hXs hm hf
      go_enter Tryz.func154, Tryz.ntmps154
      go_wp2_with fail
      refine HG.out.mono ?_
      rintro e w' ⟨rfl, rfl⟩
      go_wp2_with fail
      refine HF.out.mono ?_
      rintro e w' ⟨rfl, rfl⟩
      go_wp2
      go_ret3
      exact ⟨by rw [HN.out]; rfl, rfl⟩
     ·have HN : Hid (N = (0, 0, 3)) := Lib.hid (by rw [HK.out, if_neg hf])
      have e1 : ((cpFirst m : Int) != 254) = true := by rw [bne_iff_ne]; omega
      generalize cpFirst m = F at *
      clear HK hcons hX hXs hm hf
      go_enter Tryz.func154, Tryz.ntmps154
      go_wp2_with fail
      refine HG.out.mono ?_
      rintro e w' ⟨rfl, rfl⟩
      go_wp2_with fail
      refine HF.out.mono ?_
      rintro e w' ⟨rfl, rfl⟩
      go_wp2
      go_ret3
      exact ⟨by rw [HN.out]; rfl, rfl⟩
   ·have hb253 : s[0].toNat = 255 := hb
    have HK : Hid (cpNext s.data.toList = if (s.data.toList.drop 1).length < 8 then (0, 0, 2) else if cpFirst (leL ((s.data.toList.drop 1).take 8)) = 255 then (leL ((s.data.toList.drop 1).take 8), 1 + 8, 0) else (0, 0, 3)) := Lib.hid (by
     rw [hcons]; simp only [cpNext, hb253]; rfl)
    rw [List.length_drop, toList_size] at HK
    generalize cpNext s.data.toList = N at *
    by_cases hsz : s.size < 1 + 8
    ·have HN : Hid (N = (0, 0, 2)) := Lib.hid (by rw [HK.out, if_pos (by omega)])
     clear HK hcons
     go_enter Tryz.func154, Tryz.ntmps154
     go_wp2
     go_ret3
     exact ⟨by rw [HN.out]; rfl, rfl⟩
    ·have hX : (s.extract 1 (1 + 8)).data.toList = (s.data.toList.drop 1).take 8 := toList_cut1 s 8
     have hXs : (s.extract 1 (1 + 8)).size = 8 := by rw [size_cut s 1 (1 + 8) (by omega)]
     have HG := Lib.hid (getLittle_c (s.extract 1 (1 + 8)) w (by omega) (by omega))
     rw [hX] at HG
     have hm := leL_lt ((s.data.toList.drop 1).take 8)
     rw [← hX, toList_size, hXs] at hm
     rw [hX] at hm
     rw [if_neg (by omega)] at HK
     generalize leL ((s.data.toList.drop 1).take 8) = m at *
     have HF := Lib.hid (cpFirst_c m w (by omega))
     by_cases hf : cpFirst m = 255
     ·have HN : Hid (N = (m, 1 + 8, 0)) := Lib.hid (by rw [HK.out, if_pos hf])
      rw [hf] at HF
      clear HK hcons hX hXs hm hf
      go_enter Tryz.func154, Tryz.ntmps154
      go_wp2_with fail
      refine HG.out.mono ?_
      rintro e w' ⟨rfl, rfl⟩
      go_wp2_with fail
      refine HF.out.mono ?_
      rintro e w' ⟨rfl, rfl⟩
      go_wp2
      go_ret3
      exact ⟨by rw [HN.out]; rfl, rfl⟩
     ·have HN : Hid (N = (0, 0, 3)) := Lib.hid (by rw [HK.out, if_neg hf])
      have e1 : ((cpFirst m : Int) != 255) = true := by rw [bne_iff_ne]; omega
      generalize cpFirst m = F at *
      clear HK hcons hX hXs hm hf
      go_enter Tryz.func154, Tryz.ntmps154
      go_wp2_with fail
      refine HG.out.mono ?_
      rintro e w' ⟨rfl, rfl⟩
      go_wp2_with fail
      refine HF.out.mono ?_
      rintro e w' ⟨rfl, rfl⟩
      go_wp2
      go_ret3
      exact ⟨by rw [HN.out]; rfl, rfl⟩
theorem cp_same {s : ByteArray} (hp : 0 < s.size) {k m : Nat} (hk : cpBehind s[0].toNat = k) (hb : 253 ≤ s[0].toNat) (hl : 1 + k ≤ s.size) (hm : leL ((s.data.toList.drop 1).take k) = m) :
 (cpFirst m = s[0].toNat → (⟨(cpPut m).toArray⟩ : ByteArray) = s.extract 0 (1 + k)) ∧ (cpFirst m ≠ s[0].toNat → (⟨(cpPut m).toArray⟩ : ByteArray) ≠ s.extract 0 (1 + k)) := by
 have h8 := cpBehind_le s[0].toNat
 rw [hk] at h8
 have hcons := drop_cons s 0 hp
 rw [List.drop_zero] at hcons
 have hR : (s.extract 0 (1 + k)).data.toList = s[0] :: (s.data.toList.drop 1).take k := by
  rw [toList_cut, List.drop_zero, hcons, Nat.add_comm 1 k, List.take_succ_cons]; simp
 have hlen : ((s.data.toList.drop 1).take k).length = k := by simp; omega
 have hub : ub (s[0].toNat : Nat) = s[0] := by apply UInt8.toNat_inj.1; rw [ub_toNat _ s[0].toNat_lt]
 refine ⟨fun hf => bytes_ext ?_, fun hf he => hf ?_⟩
 ·have h253 : ¬ m < 253 := fun hlt => by
   have : cpFirst m = m := by unfold cpFirst; rw [if_pos hlt]
   omega
  rw [hR]
  show cpPut m = _
  unfold cpPut
  rw [if_neg h253, hf, hub, hk, ← hm]
  congr 1
  have := leD_L ((s.data.toList.drop 1).take k)
  rwa [hlen] at this
 ·have h1 := congrArg (fun x : ByteArray => x.data.toList) he
  simp only [hR] at h1
  replace h1 : cpPut m = _ := h1
  have h253 : ¬ m < 253 := fun hlt => by
   unfold cpPut at h1
   rw [if_pos hlt] at h1
   have := congrArg List.length h1
   rw [List.length_cons, List.length_cons, hlen] at this
   simp at this; omega
  unfold cpPut at h1
  rw [if_neg h253] at h1
  injection h1 with h2 _
  rw [← h2, ub_toNat _ (cpFirst_lt m)]
theorem refCpLittle_c (n sz : Nat) (w : World) (hn : n < 2 ^ (8 * sz)) (h8 : sz ≤ 8) :
 Calls Tryz.prog 122 #[.int .u64 n, .int .i64 sz] w fun e w' => e = .returned (.string ⟨(leD n sz).toArray⟩) ∧ Below w.heap.size w w' := by
 have HB := Lib.hid (refBig_c n sz w hn h8)
 have HT := Lib.hid (fun w' => refTurned_c ⟨((leD n sz).reverse).toArray⟩ w' (by rw [size_of, List.length_reverse, leD_length]; omega))
 simp only [List.reverse_reverse] at HT
 generalize (leD n sz).reverse = r at *
 clear hn
 go_enter Tryz.func122, Tryz.ntmps122
 go_wp2_with fail
 refine HB.out.mono ?_
 rintro e w1 ⟨rfl, hb⟩
 go_wp2_with fail
 refine (HT.out w1).mono ?_
 rintro e w' ⟨rfl, rfl⟩
 go_wp2
 go_ret
 exact ⟨rfl, hb⟩
theorem refCpPut_c (n : Nat) (w : World) (hn : n < 18446744073709551616) :
 Calls Tryz.prog 86 #[.int .u64 n] w fun e w' => e = .returned (.string ⟨(cpPut n).toArray⟩) ∧ Below w.heap.size w w' := by
 have k1 := fun (w : World) (a : Int) => run_str1 Tryz.underlying117 Tryz.underlying5 Tryz.underlying9 w a
 rcases cp_ways n with ⟨h1, e⟩ | ⟨h1, h2, e⟩ | ⟨h1, h2, h3, e⟩ | ⟨h1, h2, h3, e⟩
 ·have HL := Lib.hid (cpPut_small h1)
  have d1 : decide ((n : Int) < 253) = true := decide_eq_true (by omega)
  clear e hn
  go_enter Tryz.func86, Tryz.ntmps86
  go_wp2_with fail
  go_ret
  exact ⟨ret_str (by rw [HL.out]), blw⟩
 ·have d1 : decide ((n : Int) < 253) = false := decide_eq_false (by omega)
  have d2 : decide ((n : Int) < 65536) = true := decide_eq_true (by omega)
  have HD := Lib.hid (fun w => refCpLittle_c n 2 w (by have := cp_fits h1 hn; rw [e] at this; simpa [cpBehind] using this) (by omega))
  have HL := Lib.hid (cpPut_great (k := 2) h1 e (by decide))
  have hT : (⟨(leD n 2).toArray⟩ : ByteArray).size = 2 := by rw [size_of, leD_length]
  generalize (⟨(leD n 2).toArray⟩ : ByteArray) = T at *
  clear e hn
  go_enter Tryz.func86, Tryz.ntmps86
  go_wp2_with fail
  refine (HD.out _).mono ?_
  rintro e w' ⟨rfl, hb⟩
  go_wp2
  go_ret
  exact ⟨ret_str (by rw [← HL.out]; rfl), hb⟩
 ·have d1 : decide ((n : Int) < 253) = false := decide_eq_false (by omega)
  have d2 : decide ((n : Int) < 65536) = false := decide_eq_false (by omega)
  have d3 : decide ((n : Int) < 4294967296) = true := decide_eq_true (by omega)
  have HD := Lib.hid (fun w => refCpLittle_c n 4 w (by have := cp_fits h1 hn; rw [e] at this; simpa [cpBehind] using this) (by omega))
  have HL := Lib.hid (cpPut_great (k := 4) h1 e (by decide))
  have hT : (⟨(leD n 4).toArray⟩ : ByteArray).size = 4 := by rw [size_of, leD_length]
  generalize (⟨(leD n 4).toArray⟩ : ByteArray) = T at *
  clear e hn
  go_enter Tryz.func86, Tryz.ntmps86
  go_wp2_with fail
  refine (HD.out _).mono ?_
  rintro e w' ⟨rfl, hb⟩
  go_wp2
  go_ret
  exact ⟨ret_str (by rw [← HL.out]; rfl), hb⟩
 ·have d1 : decide ((n : Int) < 253) = false := decide_eq_false (by omega)
  have d2 : decide ((n : Int) < 65536) = false := decide_eq_false (by omega)
  have d3 : decide ((n : Int) < 4294967296) = false := decide_eq_false (by omega)
  have HD := Lib.hid (fun w => refCpLittle_c n 8 w (by have := cp_fits h1 hn; rw [e] at this; simpa [cpBehind] using this) (by omega))
  have HL := Lib.hid (cpPut_great (k := 8) h1 e (by decide))
  have hT : (⟨(leD n 8).toArray⟩ : ByteArray).size = 8 := by rw [size_of, leD_length]
  generalize (⟨(leD n 8).toArray⟩ : ByteArray) = T at *
  clear e hn
  go_enter Tryz.func86, Tryz.ntmps86
  go_wp2_with fail
  refine (HD.out _).mono ?_
  rintro e w' ⟨rfl, hb⟩
  go_wp2
  go_ret
  exact ⟨ret_str (by rw [← HL.out]; rfl), hb⟩
theorem refCpNext_c (s : ByteArray) (w : World) (hs : s.size ≤ 9223372036854775807) :
 Calls Tryz.prog 161 #[.string s] w fun e w' => e = cpRet (cpNext s.data.toList) ∧ Below w.heap.size w w' := by
 unfold cpRet
 rcases empty_ways s with ⟨hz0, rfl⟩ | ⟨hz0, hz1, hz2⟩
 ·go_enter Tryz.func161, Tryz.ntmps161
  go_wp2
  go_ret3
  exact ⟨rfl, blw⟩
 ·have hp : 0 < s.size := by omega
  have hcons := drop_cons s 0 hp
  rw [List.drop_zero] at hcons
  have hb := s[0].toNat_lt
  by_cases h253 : s[0].toNat < 253
  ·have HN : Hid (cpNext s.data.toList = (s[0].toNat, 1, 0)) := Lib.hid (by rw [hcons]; simp only [cpNext, if_pos h253])
   have hX : (⟨(cpPut s[0].toNat).toArray⟩ : ByteArray) = s.extract 0 1 := bytes_ext (by
    rw [toList_cut, List.drop_zero, hcons, List.take_succ_cons, List.take_zero]
    show cpPut _ = _
    rw [cpPut_small h253]
    congr 1
    apply UInt8.toNat_inj.1; rw [ub_toNat _ s[0].toNat_lt])
   generalize cpNext s.data.toList = N at *
   have HP := Lib.hid (fun w' => refCpPut_c s[0].toNat w' (by omega))
   have e1 : ((s[0].toNat : Int) == 253) = false := beq_eq_false_iff_ne.2 (by omega)
   have e2 : ((s[0].toNat : Int) == 254) = false := beq_eq_false_iff_ne.2 (by omega)
   have e3 : ((s[0].toNat : Int) == 255) = false := beq_eq_false_iff_ne.2 (by omega)
   generalize (⟨(cpPut s[0].toNat).toArray⟩ : ByteArray) = Z at *
   obtain ⟨_, z1, z2⟩ | ⟨z0, _⟩ := str_ways Z (s.extract 0 1)
   ·clear hcons
    go_enter Tryz.func161, Tryz.ntmps161
    go_wp2_with fail
    go_region_with (go_at_call 86; refine (HP.out _).mono ?_; rintro e w' ⟨rfl, hb⟩)
    all_goals
     go_wp2
     go_ret3
     refine ⟨by rw [HN.out]; rfl, ?_⟩
     first
     | exact (Below.refl w.heap.size w).drew.trans hb
     | exact hb
   ·exact absurd hX z0
  ·rcases (show s[0].toNat = 253 ∨ s[0].toNat = 254 ∨ s[0].toNat = 255 by omega) with hb | hb | hb
   ·have hb253 : s[0].toNat = 253 := hb
    have HK : Hid (cpNext s.data.toList = if (s.data.toList.drop 1).length < 2 then (0, 0, 2) else if cpFirst (leL ((s.data.toList.drop 1).take 2)) = 253 then (leL ((s.data.toList.drop 1).take 2), 1 + 2, 0) else (0, 0, 3)) := Lib.hid (by
     rw [hcons]; simp only [cpNext, hb253]; rfl)
    rw [List.length_drop, toList_size] at HK
    generalize cpNext s.data.toList = N at *
    by_cases hsz : s.size < 1 + 2
    ·have HN : Hid (N = (0, 0, 2)) := Lib.hid (by rw [HK.out, if_pos (by omega)])
     clear HK hcons
     go_enter Tryz.func161, Tryz.ntmps161
     go_wp2
     go_ret3
     exact ⟨by rw [HN.out]; rfl, blw⟩
    ·have hX : (s.extract 1 (1 + 2)).data.toList = (s.data.toList.drop 1).take 2 := toList_cut1 s 2
     have hXs : (s.extract 1 (1 + 2)).size = 2 := by rw [size_cut s 1 (1 + 2) (by omega)]
     have HT := Lib.hid (refTurned_c (s.extract 1 (1 + 2)) w (by omega))
     rw [hX] at HT
     have hrs : (⟨((s.data.toList.drop 1).take 2).reverse.toArray⟩ : ByteArray).size ≤ 8 := by rw [size_of, List.length_reverse, ← hX, toList_size]; omega
     have HM := Lib.hid (refNumber_c (⟨((s.data.toList.drop 1).take 2).reverse.toArray⟩ : ByteArray) w hrs)
     have hbe : beL ((s.data.toList.drop 1).take 2).reverse = leL ((s.data.toList.drop 1).take 2) := by simp [beL]
     simp only [hbe] at HM
     have hsame := cp_same (s := s) hp (k := 2) (by rw [hb253]; rfl) (by omega) (by omega) rfl
     rw [hb253] at hsame
     have hm := leL_lt ((s.data.toList.drop 1).take 2)
     rw [← hX, toList_size, hXs] at hm
     rw [hX] at hm
     rw [if_neg (by omega)] at HK
     generalize leL ((s.data.toList.drop 1).take 2) = m at *
     generalize (⟨((s.data.toList.drop 1).take 2).reverse.toArray⟩ : ByteArray) = Y at *
     have HP := Lib.hid (fun w' => refCpPut_c m w' (by omega))
     generalize (⟨(cpPut m).toArray⟩ : ByteArray) = Z at *
     have hUs : (s.extract 0 (1 + 2)).size = 1 + 2 := by rw [size_cut s 0 (1 + 2) (by omega)]
     have HU : Hid (s.extract 0 (1 + 2) = s.extract 0 (1 + 2)) := Lib.hid rfl
     by_cases hf : cpFirst m = 253
     ·have HN : Hid (N = (m, 1 + 2, 0)) := Lib.hid (by rw [HK.out, if_pos hf])
      have hz := hsame.1 hf
      obtain ⟨_, z1, z2⟩ | ⟨z0, _⟩ := str_ways Z (s.extract 0 (1 + 2))
      ·clear HK hcons hX hXs hm hf hsame hbe hrs
       go_enter Tryz.func161, Tryz.ntmps161
       go_wp2_with fail
       refine HT.out.mono ?_
       rintro e w' ⟨rfl, rfl⟩
       go_wp2_with fail
       refine HM.out.mono ?_
       rintro e w' ⟨rfl, rfl⟩
       go_wp2_with fail
       go_region_with (go_at_call 86; refine (HP.out _).mono ?_; rintro e w' ⟨rfl, hb⟩)
       all_goals
        go_wp2
        go_ret3
        refine ⟨by rw [HN.out]; rfl, ?_⟩
        first
        | exact (Below.refl w.heap.size w).drew.trans hb
        | exact hb
      ·exact absurd hz z0
     ·have HN : Hid (N = (0, 0, 3)) := Lib.hid (by rw [HK.out, if_neg hf])
      have hz := hsame.2 hf
      obtain ⟨z0, _⟩ | ⟨_, z1, z2⟩ := str_ways Z (s.extract 0 (1 + 2))
      ·exact absurd z0 hz
      ·clear HK hcons hX hXs hm hf hsame hbe hrs
       go_enter Tryz.func161, Tryz.ntmps161
       go_wp2_with fail
       refine HT.out.mono ?_
       rintro e w' ⟨rfl, rfl⟩
       go_wp2_with fail
       refine HM.out.mono ?_
       rintro e w' ⟨rfl, rfl⟩
       go_wp2_with fail
       go_region_with (go_at_call 86; refine (HP.out _).mono ?_; rintro e w' ⟨rfl, hb⟩)
       all_goals
        go_wp2
        go_ret3
        refine ⟨by rw [HN.out]; rfl, ?_⟩
        first
        | exact (Below.refl w.heap.size w).drew.trans hb
        | exact hb
   ·have hb253 : s[0].toNat = 254 := hb
    have HK : Hid (cpNext s.data.toList = if (s.data.toList.drop 1).length < 4 then (0, 0, 2) else if cpFirst (leL ((s.data.toList.drop 1).take 4)) = 254 then (leL ((s.data.toList.drop 1).take 4), 1 + 4, 0) else (0, 0, 3)) := Lib.hid (by
     rw [hcons]; simp only [cpNext, hb253]; rfl)
    rw [List.length_drop, toList_size] at HK
    generalize cpNext s.data.toList = N at *
    by_cases hsz : s.size < 1 + 4
    ·have HN : Hid (N = (0, 0, 2)) := Lib.hid (by rw [HK.out, if_pos (by omega)])
     clear HK hcons
     go_enter Tryz.func161, Tryz.ntmps161
     go_wp2
     go_ret3
     exact ⟨by rw [HN.out]; rfl, blw⟩
    ·have hX : (s.extract 1 (1 + 4)).data.toList = (s.data.toList.drop 1).take 4 := toList_cut1 s 4
     have hXs : (s.extract 1 (1 + 4)).size = 4 := by rw [size_cut s 1 (1 + 4) (by omega)]
     have HT := Lib.hid (refTurned_c (s.extract 1 (1 + 4)) w (by omega))
     rw [hX] at HT
     have hrs : (⟨((s.data.toList.drop 1).take 4).reverse.toArray⟩ : ByteArray).size ≤ 8 := by rw [size_of, List.length_reverse, ← hX, toList_size]; omega
     have HM := Lib.hid (refNumber_c (⟨((s.data.toList.drop 1).take 4).reverse.toArray⟩ : ByteArray) w hrs)
     have hbe : beL ((s.data.toList.drop 1).take 4).reverse = leL ((s.data.toList.drop 1).take 4) := by simp [beL]
     simp only [hbe] at HM
     have hsame := cp_same (s := s) hp (k := 4) (by rw [hb253]; rfl) (by omega) (by omega) rfl
     rw [hb253] at hsame
     have hm := leL_lt ((s.data.toList.drop 1).take 4)
     rw [← hX, toList_size, hXs] at hm
     rw [hX] at hm
     rw [if_neg (by omega)] at HK
     generalize leL ((s.data.toList.drop 1).take 4) = m at *
     generalize (⟨((s.data.toList.drop 1).take 4).reverse.toArray⟩ : ByteArray) = Y at *
     have HP := Lib.hid (fun w' => refCpPut_c m w' (by omega))
     generalize (⟨(cpPut m).toArray⟩ : ByteArray) = Z at *
     have hUs : (s.extract 0 (1 + 4)).size = 1 + 4 := by rw [size_cut s 0 (1 + 4) (by omega)]
     have HU : Hid (s.extract 0 (1 + 4) = s.extract 0 (1 + 4)) := Lib.hid rfl
     by_cases hf : cpFirst m = 254
     ·have HN : Hid (N = (m, 1 + 4, 0)) := Lib.hid (by rw [HK.out, if_pos hf])
      have hz := hsame.1 hf
      obtain ⟨_, z1, z2⟩ | ⟨z0, _⟩ := str_ways Z (s.extract 0 (1 + 4))
      ·clear HK hcons hX hXs hm hf hsame hbe hrs
       go_enter Tryz.func161, Tryz.ntmps161
       go_wp2_with fail
       refine HT.out.mono ?_
       rintro e w' ⟨rfl, rfl⟩
       go_wp2_with fail
       refine HM.out.mono ?_
       rintro e w' ⟨rfl, rfl⟩
       go_wp2_with fail
       go_region_with (go_at_call 86; refine (HP.out _).mono ?_; rintro e w' ⟨rfl, hb⟩)
       all_goals
        go_wp2
        go_ret3
        refine ⟨by rw [HN.out]; rfl, ?_⟩
        first
        | exact (Below.refl w.heap.size w).drew.trans hb
        | exact hb
      ·exact absurd hz z0
     ·have HN : Hid (N = (0, 0, 3)) := Lib.hid (by rw [HK.out, if_neg hf])
      have hz := hsame.2 hf
      obtain ⟨z0, _⟩ | ⟨_, z1, z2⟩ := str_ways Z (s.extract 0 (1 + 4))
      ·exact absurd z0 hz
      ·clear HK hcons hX hXs hm hf hsame hbe hrs
       go_enter Tryz.func161, Tryz.ntmps161
       go_wp2_with fail
       refine HT.out.mono ?_
       rintro e w' ⟨rfl, rfl⟩
       go_wp2_with fail
       refine HM.out.mono ?_
       rintro e w' ⟨rfl, rfl⟩
       go_wp2_with fail
       go_region_with (go_at_call 86; refine (HP.out _).mono ?_; rintro e w' ⟨rfl, hb⟩)
       all_goals
        go_wp2
        go_ret3
        refine ⟨by rw [HN.out]; rfl, ?_⟩
        first
        | exact (Below.refl w.heap.size w).drew.trans hb
        | exact hb
   ·have hb253 : s[0].toNat = 255 := hb
    have HK : Hid (cpNext s.data.toList = if (s.data.toList.drop 1).length < 8 then (0, 0, 2) else if cpFirst (leL ((s.data.toList.drop 1).take 8)) = 255 then (leL ((s.data.toList.drop 1).take 8), 1 + 8, 0) else (0, 0, 3)) := Lib.hid (by
     rw [hcons]; simp only [cpNext, hb253]; rfl)
    rw [List.length_drop, toList_size] at HK
    generalize cpNext s.data.toList = N at *
    by_cases hsz : s.size < 1 + 8
    ·have HN : Hid (N = (0, 0, 2)) := Lib.hid (by rw [HK.out, if_pos (by omega)])
     clear HK hcons
     go_enter Tryz.func161, Tryz.ntmps161
     go_wp2
     go_ret3
     exact ⟨by rw [HN.out]; rfl, blw⟩
    ·have hX : (s.extract 1 (1 + 8)).data.toList = (s.data.toList.drop 1).take 8 := toList_cut1 s 8
     have hXs : (s.extract 1 (1 + 8)).size = 8 := by rw [size_cut s 1 (1 + 8) (by omega)]
     have HT := Lib.hid (refTurned_c (s.extract 1 (1 + 8)) w (by omega))
     rw [hX] at HT
     have hrs : (⟨((s.data.toList.drop 1).take 8).reverse.toArray⟩ : ByteArray).size ≤ 8 := by rw [size_of, List.length_reverse, ← hX, toList_size]; omega
     have HM := Lib.hid (refNumber_c (⟨((s.data.toList.drop 1).take 8).reverse.toArray⟩ : ByteArray) w hrs)
     have hbe : beL ((s.data.toList.drop 1).take 8).reverse = leL ((s.data.toList.drop 1).take 8) := by simp [beL]
     simp only [hbe] at HM
     have hsame := cp_same (s := s) hp (k := 8) (by rw [hb253]; rfl) (by omega) (by omega) rfl
     rw [hb253] at hsame
     have hm := leL_lt ((s.data.toList.drop 1).take 8)
     rw [← hX, toList_size, hXs] at hm
     rw [hX] at hm
     rw [if_neg (by omega)] at HK
     generalize leL ((s.data.toList.drop 1).take 8) = m at *
     generalize (⟨((s.data.toList.drop 1).take 8).reverse.toArray⟩ : ByteArray) = Y at *
     have HP := Lib.hid (fun w' => refCpPut_c m w' (by omega))
     generalize (⟨(cpPut m).toArray⟩ : ByteArray) = Z at *
     have hUs : (s.extract 0 (1 + 8)).size = 1 + 8 := by rw [size_cut s 0 (1 + 8) (by omega)]
     have HU : Hid (s.extract 0 (1 + 8) = s.extract 0 (1 + 8)) := Lib.hid rfl
     by_cases hf : cpFirst m = 255
     ·have HN : Hid (N = (m, 1 + 8, 0)) := Lib.hid (by rw [HK.out, if_pos hf])
      have hz := hsame.1 hf
      obtain ⟨_, z1, z2⟩ | ⟨z0, _⟩ := str_ways Z (s.extract 0 (1 + 8))
      ·clear HK hcons hX hXs hm hf hsame hbe hrs
       go_enter Tryz.func161, Tryz.ntmps161
       go_wp2_with fail
       refine HT.out.mono ?_
       rintro e w' ⟨rfl, rfl⟩
       go_wp2_with fail
       refine HM.out.mono ?_
       rintro e w' ⟨rfl, rfl⟩
       go_wp2_with fail
       go_region_with (go_at_call 86; refine (HP.out _).mono ?_; rintro e w' ⟨rfl, hb⟩)
       all_goals
        go_wp2
        go_ret3
        refine ⟨by rw [HN.out]; rfl, ?_⟩
        first
        | exact (Below.refl w.heap.size w).drew.trans hb
        | exact hb
      ·exact absurd hz z0
     ·have HN : Hid (N = (0, 0, 3)) := Lib.hid (by rw [HK.out, if_neg hf])
      have hz := hsame.2 hf
      obtain ⟨z0, _⟩ | ⟨_, z1, z2⟩ := str_ways Z (s.extract 0 (1 + 8))
      ·exact absurd z0 hz
      ·clear HK hcons hX hXs hm hf hsame hbe hrs
       go_enter Tryz.func161, Tryz.ntmps161
       go_wp2_with fail
       refine HT.out.mono ?_
       rintro e w' ⟨rfl, rfl⟩
       go_wp2_with fail
       refine HM.out.mono ?_
       rintro e w' ⟨rfl, rfl⟩
       go_wp2_with fail
       go_region_with (go_at_call 86; refine (HP.out _).mono ?_; rintro e w' ⟨rfl, hb⟩)
       all_goals
        go_wp2
        go_ret3
        refine ⟨by rw [HN.out]; rfl, ?_⟩
        first
        | exact (Below.refl w.heap.size w).drew.trans hb
        | exact hb
end Go.Proofs.YtnfpgadegpmhkaaGreatDoor
