/- Package schema: May. -/
import Derived.Test.YtnfpgadegpmhkaaGreatDoorKA19
import Derived.Test.YtnfpgadegpmhkaaGreatDoorKA2
import Derived.Laws.EntriesVeiled
import Derived.Test.YtnfpgadegpmhkaaGreatDoorKA3
set_option linter.unusedVariables false
set_option linter.unusedSimpArgs false
set_option maxRecDepth 100000
set_option maxHeartbeats 1600000
namespace Go.Proofs.YtnfpgadegpmhkaaGreatDoor
open Go.RowKit
def Laid (w : World) : Prop := w.cell? ⟨1, 0, none⟩ = some (.int .i64 1) ∧ w.cell? ⟨1, 1, none⟩ = some (.int .i64 2) ∧ w.cell? ⟨1, 2, none⟩ = some (.int .i64 4) ∧ w.cell? ⟨1, 3, none⟩ = some (.int .i64 8)
theorem Laid.pos {w : World} (h : Laid w) : 1 < w.heap.size := lt_of_cell h.1
theorem Laid.same {w w' : World} (h : Laid w) (hk : w'.heap[1]? = w.heap[1]?) : Laid w' :=
 ⟨(World.cell?_of_block hk).trans h.1, (World.cell?_of_block hk).trans h.2.1, (World.cell?_of_block hk).trans h.2.2.1, (World.cell?_of_block hk).trans h.2.2.2⟩
theorem Laid.below {w w' : World} {B : Nat} (h : Laid w) (hb : Below B w w') (hB : 1 < B) : Laid w' := h.same (hb.block 1 hB)
theorem Laid.only {w w' : World} {L : List Nat} (h : Laid w) (ho : Only L w w') (hL : 1 ∉ L) : Laid w' := h.same (ho.block 1 h.pos hL)
theorem Laid.alloc {w : World} (h : Laid w) (o : Obj) : Laid (w.alloc o) := h.below ((Below.refl w.heap.size w).alloc (Nat.le_refl _) o) h.pos
def isSize (n : Int) : Bool := decide (n = 1 ∨ n = 2 ∨ n = 4 ∨ n = 8)
theorem isSize_c (n : Int) (w : World) (h : Laid w) : Calls Tryz.prog 163 #[.int .i64 n] w fun e w' => e = .returned (.bool (isSize n)) ∧ w = w' := by
 obtain ⟨h0, h1, h2, h3⟩ := h
 obtain ⟨R, HR⟩ : ∃ R, Hid (isSize n = R) := ⟨_, Lib.hid rfl⟩
 rw [HR.out]
 have i0 : ∀ w, (Instr.index 214 (.agg #[.int .i64 1, .int .i64 2, .int .i64 4, .int .i64 8]) (.int .i64 0)).run Tryz.prog w = .ok (.int .i64 1) w := fun _ => by kernel_rfl
 have i1 : ∀ w, (Instr.index 214 (.agg #[.int .i64 1, .int .i64 2, .int .i64 4, .int .i64 8]) (.int .i64 1)).run Tryz.prog w = .ok (.int .i64 2) w := fun _ => by kernel_rfl
 have i2 : ∀ w, (Instr.index 214 (.agg #[.int .i64 1, .int .i64 2, .int .i64 4, .int .i64 8]) (.int .i64 2)).run Tryz.prog w = .ok (.int .i64 4) w := fun _ => by kernel_rfl
 have i3 : ∀ w, (Instr.index 214 (.agg #[.int .i64 1, .int .i64 2, .int .i64 4, .int .i64 8]) (.int .i64 3)).run Tryz.prog w = .ok (.int .i64 8) w := fun _ => by kernel_rfl
 go_enter Tryz.func163, Tryz.ntmps163
 go_wp2_with fail
 go_loop [6] (fun i => ∃ k : Nat, k ≤ 4 ∧ i = .int .i64 k ∧ Hid (∀ j, j < k → n ≠ ([1, 2, 4, 8] : List Int).getD j 0)) (fun i => 4 - (intOf i).toNat)
 case atStart => exact ⟨0, by omega, rfl, Lib.hid (by omega)⟩
 case round =>
  obtain ⟨k, hk, rfl, hn⟩ := hrel
  have key : k = 0 ∨ k = 1 ∨ k = 2 ∨ k = 3 ∨ k = 4 := by omega
  rcases key with rfl | rfl | rfl | rfl | rfl
  ·by_cases he : n = 1
   ·have HE : Hid (R = true) := Lib.hid (by rw [← HR.out]; unfold isSize; rw [decide_eq_true]; omega)
    subst he
    go_wp2
    go_ret
    exact ⟨by rw [HE.out]; rfl, rfl⟩
   ·have e1 : (n == (1 : Int)) = false := beq_eq_false_iff_ne.2 he
    have HN : Hid (∀ j, j < 0 + 1 → n ≠ ([1, 2, 4, 8] : List Int).getD j 0) := Lib.hid (fun j hj => by
     by_cases h : j = 0
     ·subst h; simpa using he
     ·exact hn.out j (by omega))
    clear he
    go_wp2
    go_round
    case rel => exact ⟨0 + 1, by omega, by go_num, HN⟩
    case measure => simp [intOf]
  ·by_cases he : n = 2
   ·have HE : Hid (R = true) := Lib.hid (by rw [← HR.out]; unfold isSize; rw [decide_eq_true]; omega)
    subst he
    go_wp2
    go_ret
    exact ⟨by rw [HE.out]; rfl, rfl⟩
   ·have e1 : (n == (2 : Int)) = false := beq_eq_false_iff_ne.2 he
    have HN : Hid (∀ j, j < 1 + 1 → n ≠ ([1, 2, 4, 8] : List Int).getD j 0) := Lib.hid (fun j hj => by
     by_cases h : j = 1
     ·subst h; simpa using he
     ·exact hn.out j (by omega))
    clear he
    go_wp2
    go_round
    case rel => exact ⟨1 + 1, by omega, by go_num, HN⟩
    case measure => simp [intOf]
  ·by_cases he : n = 4
   ·have HE : Hid (R = true) := Lib.hid (by rw [← HR.out]; unfold isSize; rw [decide_eq_true]; omega)
    subst he
    go_wp2
    go_ret
    exact ⟨by rw [HE.out]; rfl, rfl⟩
   ·have e1 : (n == (4 : Int)) = false := beq_eq_false_iff_ne.2 he
    have HN : Hid (∀ j, j < 2 + 1 → n ≠ ([1, 2, 4, 8] : List Int).getD j 0) := Lib.hid (fun j hj => by
     by_cases h : j = 2
     ·subst h; simpa using he
     ·exact hn.out j (by omega))
    clear he
    go_wp2
    go_round
    case rel => exact ⟨2 + 1, by omega, by go_num, HN⟩
    case measure => simp [intOf]
  ·by_cases he : n = 8
   ·have HE : Hid (R = true) := Lib.hid (by rw [← HR.out]; unfold isSize; rw [decide_eq_true]; omega)
    subst he
    go_wp2
    go_ret
    exact ⟨by rw [HE.out]; rfl, rfl⟩
   ·have e1 : (n == (8 : Int)) = false := beq_eq_false_iff_ne.2 he
    have HN : Hid (∀ j, j < 3 + 1 → n ≠ ([1, 2, 4, 8] : List Int).getD j 0) := Lib.hid (fun j hj => by
     by_cases h : j = 3
     ·subst h; simpa using he
     ·exact hn.out j (by omega))
    clear he
    go_wp2
    go_round
    case rel => exact ⟨3 + 1, by omega, by go_num, HN⟩
    case measure => simp [intOf]
  ·have HE : Hid (R = false) := Lib.hid (by
    have hh := hn.out
    have a0 := hh 0 (by omega)
    have a1 := hh 1 (by omega)
    have a2 := hh 2 (by omega)
    have a3 := hh 3 (by omega)
    simp at a0 a1 a2 a3
    rw [← HR.out]; unfold isSize; rw [decide_eq_false]; omega)
   go_wp2
   go_ret
   exact ⟨by rw [HE.out]; rfl, rfl⟩
def sized (l m s : Int) : Bool := decide (l ≤ s ∧ s ≤ m)
theorem sized_c (l m s : Int) (g : Nat) (w : World) (h : w.cell? ⟨g, 1, none⟩ = some (.int .i64 s)) :
 Calls Tryz.prog 162 #[.int .i64 l, .int .i64 m, .pointer (some ⟨g, 0, none⟩)] w fun e w' => e = .returned (.bool (sized l m s)) ∧ w = w' := by
 obtain ⟨R, HR⟩ : ∃ R, Hid (sized l m s = R) := ⟨_, Lib.hid rfl⟩
 rw [HR.out]
 by_cases h1 : l ≤ s
 ·by_cases h2 : s ≤ m
  ·have HX : Hid (R = true) := Lib.hid (by rw [← HR.out]; exact decide_eq_true ⟨h1, h2⟩)
   have e2 : decide (s ≤ m) = true := decide_eq_true h2
   go_enter Tryz.func162, Tryz.ntmps162
   go_wp2
   go_ret
   exact ⟨by rw [HX.out]; rfl, rfl⟩
  ·have HX : Hid (R = false) := Lib.hid (by rw [← HR.out]; exact decide_eq_false (fun h => h2 h.2))
   have e2 : decide (s ≤ m) = false := decide_eq_false h2
   go_enter Tryz.func162, Tryz.ntmps162
   go_wp2
   go_ret
   exact ⟨by rw [HX.out]; rfl, rfl⟩
 ·have HX : Hid (R = false) := Lib.hid (by rw [← HR.out]; exact decide_eq_false (fun h => h1 h.1))
  go_enter Tryz.func162, Tryz.ntmps162
  go_wp2
  go_ret
  exact ⟨by rw [HX.out]; rfl, rfl⟩
theorem fitsKind_c (k s : Int) (A : Option Addr) (n cap : Nat) (t : Int) (w : World) (hL : Laid w) (hk : okI k) (hs : okI s) (ht : okI t) (hn : n ≤ 9223372036854775807) :
 Calls Tryz.prog 128 #[.agg #[.int .i64 k, .int .i64 s, .slice A n cap, .int .i64 t]] w fun e w' => e = .returned (.bool (tyOk k s n t)) ∧ Below w.heap.size w w' := by
 unfold okI at hk hs ht
 obtain ⟨hk1, hk2⟩ := hk
 obtain ⟨hs1, hs2⟩ := hs
 obtain ⟨ht1, ht2⟩ := ht
 have HS := Lib.hid (fun w' hb => isSize_c s w' (hL.below (B := w.heap.size) hb hL.pos))
 obtain ⟨b, hb⟩ : ∃ b, isSize s = b := ⟨_, rfl⟩
 rw [hb] at HS
 have HB := Lib.hid hb
 obtain ⟨R, HR⟩ : ∃ R, Hid (tyOk k s n t = R) := ⟨_, Lib.hid rfl⟩
 rw [HR.out]
 clear hb hL
 go_enter Tryz.func128, Tryz.ntmps128
 go_wp2_with (first | (go_at_call 163; refine (HS.out _ blw).mono ?_; rintro e w' ⟨rfl, rfl⟩) | (go_at_call 162; refine (sized_c _ _ s _ _ (by simp)).mono ?_; rintro e w' ⟨rfl, rfl⟩))
 all_goals
  go_ret
  refine ⟨ret_bool ?_, blw⟩
  rw [← HR.out, Bool.eq_iff_iff]
  have hbb := HB.out
  simp_all [tyOk, sized, isSize]
  try omega
theorem TyIn.ok {w : World} {B : Nat} {x : Ty} {c0 c1 c2 c3 : Value} (h : TyIn w B x c0 c1 c2 c3) : okI x.kind ∧ okI x.size ∧ okI x.tail ∧ x.sub.length ≤ 9223372036854775807 := by
 obtain ⟨A, cap, _, _, _, _, h1, h2, h3, h4, h5, _⟩ := h.open_
 exact ⟨h1, h2, h3, by omega⟩
theorem smay_c : ∀ (x : Ty) (B : Nat) (w : World) (c0 c1 c2 c3 : Value), TyIn w B x c0 c1 c2 c3 → B ≤ w.heap.size → ∀ (lb lv c : Nat), Blk w lb 3 #[.int .i64 c] → B ≤ lb → 1 < lb → Laid w → 1 ≤ lv → lv ≤ 9 → c ≤ 64 →
 Calls Tryz.prog 96 #[.agg #[c0, c1, c2, c3], .int .i64 lv, .pointer (some ⟨lb, 0, none⟩)] w fun e w' =>
  e = .returned (.bool (x.vis lv c).1) ∧ Blk w' lb 3 #[.int .i64 (x.vis lv c).2] ∧ Only [lb] w w' := by
 intro x
 induction x using Ty.ind with
 | h ki s l ta ih =>
  intro B w c0 c1 c2 c3 h hB lb lv c hV hcB hl0 hLd hlv hlv2 hc
  obtain ⟨rfl, rfl, rfl, hki, hsi, hta, hs, A, cap, rfl, hcap, hcm, hsub⟩ := h
  have IH := Lib.hid ih
  have HS := Lib.hid hsub
  have HKI := Lib.hid hki
  have HSI := Lib.hid hsi
  have HTA := Lib.hid hta
  unfold okI at hki hsi hta
  obtain ⟨hki1, hki2⟩ := hki
  obtain ⟨hsi1, hsi2⟩ := hsi
  obtain ⟨hta1, hta2⟩ := hta
  clear ih hsub
  have q1 : w.cell? ⟨lb, 0, none⟩ = some (.int .i64 c) := hV.cell 0
  have q1f : w.frozen? ⟨lb, 0, none⟩ = false := hV.frozen 0
  have HV := Lib.hid hV
  have HL := Lib.hid hLd
  have l1 := hV.lt
  have HR : Hid ((Ty.mk ki s l ta).vis lv c = if 8 < lv ∨ c = 0 ∨ tyOk ki s l.length ta = false then (false, c) else visT l (lv + 1) (c - 1)) := Lib.hid (by simp only [Ty.vis])
  generalize (Ty.mk ki s l ta).vis lv c = R at *
  clear hV hLd
  by_cases h1 : 8 < lv
  ·have HX : Hid (R = (false, c)) := Lib.hid (by rw [HR.out, if_pos (.inl h1)])
   clear HR
   go_enter Tryz.func96, Tryz.ntmps96
   go_wp2
   go_ret
   rw [HX.out]
   exact ⟨rfl, HV.out.alloc _, onl⟩
  ·by_cases h2 : c = 0
   ·have HX : Hid (R = (false, c)) := Lib.hid (by rw [HR.out, if_pos (.inr (.inl h2))])
    subst h2
    clear HR
    go_enter Tryz.func96, Tryz.ntmps96
    go_wp2
    go_ret
    rw [HX.out]
    exact ⟨rfl, HV.out.alloc _, onl⟩
   ·have e1 : ((c : Int) == 0) = false := beq_eq_false_iff_ne.2 (by omega)
    have HF := Lib.hid (fitsKind_c ki s A l.length cap ta (w.alloc (.cells #[.int .i64 ki, .int .i64 s, .slice A l.length cap, .int .i64 ta] 55)) (HL.out.alloc _) HKI.out HSI.out HTA.out hs)
    cases hf : tyOk ki s l.length ta with
    | false =>
     rw [hf] at HF
     have HX : Hid (R = (false, c)) := Lib.hid (by rw [HR.out, if_pos (.inr (.inr hf))])
     clear HR hf h2
     go_enter Tryz.func96, Tryz.ntmps96
     go_wp2_with fail
     refine HF.out.mono ?_
     rintro e w1 ⟨rfl, hb⟩
     go_wp2
     go_ret
     rw [HX.out]
     have hb2 : Below w.heap.size w w1 := (Below.alloc (Below.refl _ _) (Nat.le_refl _) _).trans (hb.mono (by simp))
     exact ⟨rfl, HV.out.only (Only.of_below hb2 (Nat.le_refl _)) (by simp), (Only.of_below hb2 (Nat.le_refl _)).mono (by simp)⟩
    | true =>
     rw [hf] at HF
     have HX : Hid (R = visT l (lv + 1) (c - 1)) := Lib.hid (by rw [HR.out, if_neg (by rw [hf]; simp; omega)])
     have hc2 : 1 ≤ c := by omega
     clear HR hf h2
     go_enter Tryz.func96, Tryz.ntmps96
     go_wp2_with fail
     refine HF.out.mono ?_
     rintro e w1 ⟨rfl, hb0⟩
     obtain ⟨g0, g1, g2, g3⟩ := box4 (by simpa using hb0)
     have hb2 : Below w.heap.size w w1 := (Below.alloc (Below.refl _ _) (Nat.le_refl _) _).trans (hb0.mono (by simp))
     have hV1 := HV.out.only (Only.of_below hb2 (Nat.le_refl _)) (by simp)
     have p1 : w1.cell? ⟨lb, 0, none⟩ = some (.int .i64 c) := hV1.cell 0
     have p1f : w1.frozen? ⟨lb, 0, none⟩ = false := hV1.frozen 0
     have HV1 := Lib.hid hV1
     have hbz := hb2.size
     clear hV1 hb0 q1 q1f HF
     go_wp2_with fail
     go_loopw [30] (fun i wr => ∃ k c' : Nat, k ≤ l.length ∧ i = .int .i64 k ∧ Hid (visT (l.take k) (lv + 1) (c - 1) = (true, c')) ∧ Blk wr lb 3 #[.int .i64 c'] ∧ Only [lb] w wr ∧ c' ≤ 64) (fun i _ => l.length - (intOf i).toNat)
     case atStart =>
      refine ⟨0, c - 1, by omega, rfl, Lib.hid (by simp [visT]), HV1.out.store (by simp; omega), ?_, by omega⟩
      exact ((Only.of_below hb2 (Nat.le_refl _)).mono (by simp)).setCell (by simp) _
     case round =>
      obtain ⟨k, c', hk, rfl, hvs, hVr, hon, hc'⟩ := hrel
      have hbr : Below B w wr := hon.below hB (by simp; omega)
      have hrz := hon.size
      have HVR := Lib.hid hVr
      clear hVr
      by_cases hlt : k < l.length
      ·obtain ⟨b, o, d0, d1, d2, d3, rfl, hbB, e0, e1', e2, e3, hi⟩ := HS.out.at_ k hlt
       simp only [Nat.zero_add] at e0 e1' e2 e3
       replace e0 := (hbr.cell (p := ⟨b, o + k * 4, none⟩) hbB).trans e0
       replace e1' := (hbr.cell (p := ⟨b, o + k * 4 + 1, none⟩) hbB).trans e1'
       replace e2 := (hbr.cell (p := ⟨b, o + k * 4 + 2, none⟩) hbB).trans e2
       replace e3 := (hbr.cell (p := ⟨b, o + k * 4 + 3, none⟩) hbB).trans e3
       obtain ⟨A2, cap2, rfl, rfl, rfl, rfl, _⟩ := hi.open_
       have hmem := List.getElem_mem hlt
       have hiw := hi.below hbr
       have HLr := HL.out.only hon (by simp; omega)
       have HC := Lib.hid (IH.out _ hmem B (wr.alloc (.cells #[.int .i64 l[k].kind, .int .i64 l[k].size, .slice A2 l[k].sub.length cap2, .int .i64 l[k].tail] 55)) _ _ _ _ (hiw.below (Below.alloc (Below.refl _ _) (by omega) _)) (by simp; omega) lb (lv + 1) c' (HVR.out.alloc _) hcB hl0 (HLr.alloc _) (by omega) (by omega) hc')
       have hvb := (tyVis_is l[k] (lv + 1) c' (by omega)).2.2
       obtain ⟨⟨r, c2⟩, hT⟩ : ∃ T, l[k].vis (lv + 1) c' = T := ⟨_, rfl⟩
       rw [hT] at HC hvb
       have hv1 : c2 ≤ 64 := by simp at hvb; omega
       have e9 : (lv : Int) + 1 = ((lv + 1 : Nat) : Int) := by omega
       have E9 := Lib.hid e9
       cases r with
       | true =>
        have HN : Hid (visT (l.take (k + 1)) (lv + 1) (c - 1) = (true, c2)) := Lib.hid (by rw [visT_take hlt hvs.out, hT])
        clear hi hiw hT hvb e9 HLr
        go_wp2_with fail
        rw [E9.out]
        refine HC.out.mono ?_
        rintro e w2 ⟨rfl, hV2, ho2⟩
        have hon2 : Only [lb] w w2 := (hon.alloc _).trans ho2
        clear ho2
        go_wp2
        go_roundw
        case rel => exact ⟨k + 1, c2, by omega, by go_num, HN, hV2, hon2, hv1⟩
        case measure => simp [intOf]; omega
       | false =>
        have HN : Hid (visT l (lv + 1) (c - 1) = (false, c2)) := Lib.hid (visT_stop hlt hvs.out hT)
        clear hi hiw hT hvb e9 HLr
        go_wp2_with fail
        rw [E9.out]
        refine HC.out.mono ?_
        rintro e w2 ⟨rfl, hV2, ho2⟩
        have hon2 : Only [lb] w w2 := (hon.alloc _).trans ho2
        clear ho2
        go_wp2
        go_ret
        rw [HX.out, HN.out]
        exact ⟨rfl, hV2, hon2⟩
      ·have hvs1 := hvs.out
       rw [List.take_of_length_le (by omega)] at hvs1
       have HN := Lib.hid hvs1
       clear hvs1
       go_wp2
       go_ret
       rw [HX.out, HN.out]
       exact ⟨rfl, HVR.out, hon⟩
theorem schemaMay_c (x : Ty) (B : Nat) (w : World) (c0 c1 c2 c3 : Value) (h : TyIn w B x c0 c1 c2 c3) (hB : B ≤ w.heap.size) (hL : Laid w) :
 Calls Tryz.prog 60 #[.agg #[c0, c1, c2, c3]] w fun e w' => e = .returned (.bool x.may) ∧ Below w.heap.size w w' := by
 have hb1 := Blk.new (w.alloc (.cells #[c0, c1, c2, c3] 55)) 3 #[.int .i64 64]
 have hpos := hL.pos
 have HC := Lib.hid (smay_c x B ((w.alloc (.cells #[c0, c1, c2, c3] 55)).alloc (.cells #[.int .i64 64] 3)) c0 c1 c2 c3 (h.below ((Below.alloc (Below.refl _ _) hB _).alloc (by simp; omega) _)) (by simp; omega) (w.heap.size + 1) 1 64 (by simpa using hb1) (by omega) (by omega) ((hL.alloc _).alloc _) (by omega) (by omega) (by omega))
 have HM : Hid (x.may = (x.vis 1 64).1) := Lib.hid (tyVis_may x).symm
 rw [HM.out]
 obtain ⟨A, cap, rfl, rfl, rfl, rfl, _⟩ := h.open_
 generalize x.vis 1 64 = R at *
 generalize x.kind = ki at *
 generalize x.size = si at *
 generalize x.tail = ta at *
 clear h hb1 hL
 go_enter Tryz.func60, Tryz.ntmps60
 go_wp2_with fail
 refine HC.out.mono ?_
 rintro e w2 ⟨rfl, hV, ho⟩
 go_wp2
 go_ret
 exact ⟨rfl, ((Below.refl w.heap.size w).alloc (Nat.le_refl _) _ |>.alloc (by simp) _).trans (ho.below (by simp; omega) (by simp))⟩
theorem fullL_append (a b : List Ty) : fullL (a ++ b) = (fullL a && fullL b) := by
 induction a with
 | nil => simp [fullL]
 | cons x xs ih => simp [fullL, ih, Bool.and_assoc]
theorem fullL_take {s : List Ty} {k : Nat} (h : k < s.length) : fullL (s.take (k + 1)) = (fullL (s.take k) && s[k].full) := by
 rw [take_succ_ty s k h, fullL_append]; simp [fullL]
theorem fullL_no {s : List Ty} {k : Nat} (h : k < s.length) (hf : s[k].full = false) : fullL s = false := by
 have h1 := fullL_append (s.take (k + 1)) (s.drop (k + 1))
 rw [List.take_append_drop, fullL_take h, hf] at h1
 simpa using h1
theorem full_is (x : Ty) : x.full = (decide (x.tail = 0) && fullL x.sub) := by cases x; rfl
theorem fullWithin_c : ∀ (x : Ty) (B : Nat) (w : World) (c0 c1 c2 c3 : Value), TyIn w B x c0 c1 c2 c3 → B ≤ w.heap.size → True →
 Calls Tryz.prog 80 #[.agg #[c0, c1, c2, c3]] w fun e w' => e = .returned (.bool (fullL x.sub)) ∧ Below w.heap.size w w' := by
 intro x
 induction x using Ty.ind with
 | h ki s l ta ih =>
  intro B w c0 c1 c2 c3 h hB _
  obtain ⟨rfl, rfl, rfl, hki, hsi, hta, hs, A, cap, rfl, hcap, hcm, hsub⟩ := h
  have IH := Lib.hid ih
  have HS := Lib.hid hsub
  have HKI := Lib.hid hki
  have HSI := Lib.hid hsi
  have HTA := Lib.hid hta
  unfold okI at hki hsi hta
  obtain ⟨hki1, hki2⟩ := hki
  obtain ⟨hsi1, hsi2⟩ := hsi
  obtain ⟨hta1, hta2⟩ := hta
  clear ih hsub
  rw [Ty.sub_mk]
  obtain ⟨R, HR⟩ : ∃ R, Hid (fullL l = R) := ⟨_, Lib.hid rfl⟩
  rw [HR.out]
  go_enter Tryz.func80, Tryz.ntmps80
  go_wp2_with fail
  go_loopw [8] (fun i wr => ∃ k : Nat, k ≤ l.length ∧ i = .int .i64 k ∧ Hid (fullL (l.take k) = true) ∧ Below w.heap.size w wr) (fun i _ => l.length - (intOf i).toNat)
  case atStart => exact ⟨0, by omega, rfl, Lib.hid (by simp [fullL]), blw⟩
  case round =>
   obtain ⟨k, hk, rfl, hm, hb⟩ := hrel
   by_cases hlt : k < l.length
   ·obtain ⟨b, o, d0, d1, d2, d3, rfl, hbB, e0, e1, e2, e3, hi⟩ := HS.out.at_ k hlt
    simp only [Nat.zero_add] at e0 e1 e2 e3
    replace e0 := (hb.cell (p := ⟨b, o + k * 4, none⟩) (by simp; omega)).trans e0
    replace e1 := (hb.cell (p := ⟨b, o + k * 4 + 1, none⟩) (by simp; omega)).trans e1
    replace e2 := (hb.cell (p := ⟨b, o + k * 4 + 2, none⟩) (by simp; omega)).trans e2
    replace e3 := (hb.cell (p := ⟨b, o + k * 4 + 3, none⟩) (by simp; omega)).trans e3
    have hbz := hb.size
    have hmem := List.getElem_mem hlt
    have hiw := hi.below (hb.mono hB)
    obtain ⟨A2, cap2, rfl, rfl, rfl, rfl, _⟩ := hi.open_
    have hfs := full_is l[k]
    have HC := Lib.hid (IH.out _ hmem B (wr.alloc (.cells #[.int .i64 l[k].kind, .int .i64 l[k].size, .slice A2 l[k].sub.length cap2, .int .i64 l[k].tail] 55)) _ _ _ _ (hiw.below (Below.alloc (Below.refl _ _) (by omega) _)) (by simp; omega) trivial)
    by_cases ht0 : l[k].tail = 0
    ·have e5 : ((0 : Int) != 0) = false := rfl
     rw [ht0] at HC e3 hfs
     generalize l[k].kind = ki2 at *
     generalize l[k].size = si2 at *
     generalize l[k].sub.length = n2 at *
     have hb4 : Below w.heap.size w (wr.alloc (.cells #[.int .i64 ki2, .int .i64 si2, .slice A2 n2 cap2, .int .i64 0] 55)) := hb.alloc hbz _
     have HB4 := Lib.hid hb4
     cases hf : fullL l[k].sub with
     | true =>
      rw [hf] at HC
      have HN : Hid (fullL (l.take (k + 1)) = true) := Lib.hid (by rw [fullL_take hlt, hm.out, hfs, hf]; rfl)
      clear hf hfs hi hiw ht0 hb4
      go_wp2_with fail
      refine HC.out.mono ?_
      rintro e w2 ⟨rfl, hb2⟩
      have hb3 := HB4.out.trans (hb2.mono (by simp; omega))
      go_wp2
      go_roundw
      case rel => exact ⟨k + 1, by omega, by go_num, HN, hb3⟩
      case measure => simp [intOf]; omega
     | false =>
      rw [hf] at HC
      have HN : Hid (R = false) := Lib.hid (by rw [← HR.out]; exact fullL_no hlt (by rw [hfs, hf]; rfl))
      clear hf hfs hi hiw ht0 hb4
      go_wp2_with fail
      refine HC.out.mono ?_
      rintro e w2 ⟨rfl, hb2⟩
      have hb3 := HB4.out.trans (hb2.mono (by simp; omega))
      go_wp2
      go_ret
      exact ⟨by rw [HN.out]; rfl, hb3⟩
    ·have e5 : (l[k].tail != 0) = true := bne_iff_ne.2 ht0
     have HN : Hid (R = false) := Lib.hid (by rw [← HR.out]; exact fullL_no hlt (by rw [hfs, decide_eq_false ht0]; rfl))
     have hb4 : Below w.heap.size w (wr.alloc (.cells #[.int .i64 l[k].kind, .int .i64 l[k].size, .slice A2 l[k].sub.length cap2, .int .i64 l[k].tail] 55)) := hb.alloc hbz _
     generalize l[k].kind = ki2 at *
     generalize l[k].size = si2 at *
     generalize l[k].sub.length = n2 at *
     generalize l[k].tail = ta2 at *
     clear hfs hi hiw ht0 HC
     go_wp2
     go_ret
     exact ⟨by rw [HN.out]; rfl, hb4⟩
   ·have hm1 := hm.out
    rw [List.take_of_length_le (by omega), HR.out] at hm1
    have HM := Lib.hid hm1
    clear hm1
    go_wp2
    go_ret
    exact ⟨by rw [HM.out]; rfl, hb⟩
theorem flat_c (x : Ty) (B : Nat) (w : World) (c0 c1 c2 c3 : Value) (h : TyIn w B x c0 c1 c2 c3) (hB : B ≤ w.heap.size) (hL : Laid w) :
 Calls Tryz.prog 50 #[.agg #[c0, c1, c2, c3]] w fun e w' => e = .returned (.bool x.flat) ∧ Below w.heap.size w w' := by
 have hpos := hL.pos
 have hb0 : Below w.heap.size w (w.alloc (.cells #[c0, c1, c2, c3] 55)) := blw
 have HM := Lib.hid (schemaMay_c x B (w.alloc (.cells #[c0, c1, c2, c3] 55)) c0 c1 c2 c3 (h.below (hb0.mono hB)) (by simp; omega) (hL.below hb0 hpos))
 have HF := Lib.hid (fun V (hV : Below (w.heap.size + 1) (w.alloc (.cells #[c0, c1, c2, c3] 55)) V) => fullWithin_c x B V c0 c1 c2 c3 ((h.below (hb0.mono hB)).below (hV.mono (by omega))) (by have := hV.size; simp at this; omega) trivial)
 have HX : Hid (x.flat = (x.may && fullL x.sub)) := Lib.hid rfl
 have hbx := fun V (hV : Below (w.heap.size + 1) (w.alloc (.cells #[c0, c1, c2, c3] 55)) V) => box4 hV
 obtain ⟨A, cap, rfl, rfl, rfl, rfl, _⟩ := h.open_
 generalize x.flat = R at *
 generalize fullL x.sub = F at *
 generalize x.kind = ki at *
 generalize x.size = si at *
 generalize x.sub.length = n at *
 generalize x.tail = ta at *
 have HB0 := Lib.hid hb0
 have HBX := Lib.hid hbx
 clear h hL hb0 hbx
 cases hm : x.may with
 | true =>
  rw [hm] at HM HX
  clear hm
  go_enter Tryz.func50, Tryz.ntmps50
  go_wp2_with fail
  refine HM.out.mono ?_
  rintro e w2 ⟨rfl, hb2⟩
  have hb2' : Below (w.heap.size + 1) (w.alloc (.cells #[.int .i64 ki, .int .i64 si, .slice A n cap, .int .i64 ta] 55)) w2 := by simpa using hb2
  obtain ⟨q0, q1, q2, q3⟩ := HBX.out w2 hb2'
  have HF2 := Lib.hid (HF.out w2 hb2')
  have HB2 := Lib.hid (HB0.out.trans (hb2'.mono (by omega)))
  clear hb2 hb2'
  go_wp2_with fail
  refine HF2.out.mono ?_
  rintro e w3 ⟨rfl, hb3⟩
  have HB3 := Lib.hid (HB2.out.trans (hb3.mono HB2.out.size))
  clear hb3
  go_wp2
  go_ret
  exact ⟨by rw [HX.out]; rfl, HB3.out⟩
 | false =>
  rw [hm] at HM HX
  clear hm
  go_enter Tryz.func50, Tryz.ntmps50
  go_wp2_with fail
  refine HM.out.mono ?_
  rintro e w2 ⟨rfl, hb2⟩
  have HB2 := Lib.hid (HB0.out.trans (hb2.mono (by simp)))
  clear hb2
  go_wp2
  go_ret
  exact ⟨by rw [HX.out]; rfl, HB2.out⟩
def scanW (w : World) (c0 c1 c2 : Value) : World :=
 ((((w.alloc (.cells #[c0, c1, c2] 28)).alloc (.cells #[.func (.func 102) #[] #[]] 33)).alloc (.cells #[.int .i64 0] 3)).alloc (.cells #[.int .i64 0] 3)).alloc
  (.cells #[.func (.func 141) #[] #[.pointer (some ⟨w.heap.size + 1 + 1, 0, none⟩), .pointer (some ⟨w.heap.size + 1, 0, none⟩), .pointer (some ⟨w.heap.size + 1 + 1 + 1, 0, none⟩), .pointer (some ⟨w.heap.size + 1 + 1 + 1 + 1, 0, none⟩)]] 181)
theorem scan_vars (w : World) (c0 c1 c2 : Value) : Vars (scanW w c0 c1 c2) (w.heap.size + 1 + 1) (w.heap.size + 1) (w.heap.size + 1 + 1 + 1) (w.heap.size + 1 + 1 + 1 + 1) 0 0 := by
 unfold scanW
 refine ⟨?_, ?_, ?_, ?_⟩
 ·refine Blk.alloc (Blk.alloc ?_ _) _
  have := Blk.new ((w.alloc (.cells #[c0, c1, c2] 28)).alloc (.cells #[.func (.func 102) #[] #[]] 33)) 3 #[.int .i64 0]
  simpa using this
 ·refine Blk.alloc (Blk.alloc (Blk.alloc ?_ _) _) _
  have := Blk.new (w.alloc (.cells #[c0, c1, c2] 28)) 33 #[.func (.func 102) #[] #[]]
  simpa using this
 ·refine Blk.alloc ?_ _
  have := Blk.new (((w.alloc (.cells #[c0, c1, c2] 28)).alloc (.cells #[.func (.func 102) #[] #[]] 33)).alloc (.cells #[.int .i64 0] 3)) 3 #[.int .i64 0]
  simpa using this
 ·have := Blk.new ((((w.alloc (.cells #[c0, c1, c2] 28)).alloc (.cells #[.func (.func 102) #[] #[]] 33)).alloc (.cells #[.int .i64 0] 3)).alloc (.cells #[.int .i64 0] 3)) 181 #[.func (.func 141) #[] #[.pointer (some ⟨w.heap.size + 1 + 1, 0, none⟩), .pointer (some ⟨w.heap.size + 1, 0, none⟩), .pointer (some ⟨w.heap.size + 1 + 1 + 1, 0, none⟩), .pointer (some ⟨w.heap.size + 1 + 1 + 1 + 1, 0, none⟩)]]
  simpa using this
theorem scan_below (w : World) (c0 c1 c2 : Value) : Below w.heap.size w (scanW w c0 c1 c2) := by
 unfold scanW
 exact blw
theorem scan_size (w : World) (c0 c1 c2 : Value) : (scanW w c0 c1 c2).heap.size = w.heap.size + 5 := by
 unfold scanW; simp
def scanV (x : It) : Value := .tuple #[.int .i64 (if x.may then (x.count : Int) else 0), .int .i64 (if x.may then (x.deep : Int) else 0), .bool x.may]
theorem scan_c (x : It) (B : Nat) (w : World) (c0 c1 c2 : Value) (h : ItIn w B x c0 c1 c2) (hB : B ≤ w.heap.size) :
 Calls Tryz.prog 101 #[.agg #[c0, c1, c2], .func (.func 102) #[] #[]] w fun e w' => e = .returned (scanV x) ∧ Below w.heap.size w w' := by
 have hsz := scan_size w c0 c1 c2
 have HC := Lib.hid (visit_c x B (scanW w c0 c1 c2) c0 c1 c2 (h.below ((scan_below w c0 c1 c2).mono hB)) (by omega) _ _ _ _ 1 0 0 (scan_vars w c0 c1 c2) (by omega) (by omega) (by omega) (by omega) (by omega) (by omega) (by omega))
 have hsb := scan_below w c0 c1 c2
 have HB := Lib.hid hsb
 have hm : x.may = (x.vis 1 0 0).1 := (vis_may x).symm
 have hv : (x.vis 1 0 0).1 = true → (x.vis 1 0 0).2 = (0 + x.count, max 0 (1 - 1 + x.deep)) := (vis_is x 1 0 0 (by omega) (by omega)).2.1
 obtain ⟨⟨r, c, d⟩, hT⟩ : ∃ T, x.vis 1 0 0 = T := ⟨_, rfl⟩
 rw [hT] at HC hm hv
 have HM : Hid (scanV x = .tuple #[.int .i64 (if r then (c : Int) else 0), .int .i64 (if r then (d : Int) else 0), .bool r]) := Lib.hid (by
  dsimp only at hm hv
  unfold scanV
  rw [hm]
  cases r with
  | false => rfl
  | true =>
   have h2 := hv rfl
   injection h2 with h3 h4
   subst h3; subst h4
   simp)
 clear hm hv
 obtain ⟨A, cap, rfl, rfl, rfl, _⟩ := h.open_
 have HZ := Lib.hid hsz
 clear hT h hsb hsz
 cases r with
 | true =>
  go_enter Tryz.func101, Tryz.ntmps101
  go_wp2_with fail
  refine HC.out.mono ?_
  rintro e w2 ⟨rfl, hV, ho⟩
  have hb2 : Below w.heap.size w w2 := HB.out.trans (ho.below (by have := HZ.out; omega) (by simp; omega))
  have p1 : w2.cell? ⟨w.heap.size + 1 + 1, 0, none⟩ = some (.int .i64 c) := cell_of_one hV.cnt
  have p1f : w2.frozen? ⟨w.heap.size + 1 + 1, 0, none⟩ = false := free_of_one hV.cnt
  have p3 : w2.cell? ⟨w.heap.size + 1 + 1 + 1, 0, none⟩ = some (.int .i64 d) := cell_of_one hV.dp
  have p3f : w2.frozen? ⟨w.heap.size + 1 + 1 + 1, 0, none⟩ = false := free_of_one hV.dp
  clear ho hV
  go_wp2
  go_region
  all_goals go_wp2
  all_goals
   refine bodyPost_ret (v := .tuple #[.int .i64 c, .int .i64 d, .bool true]) (by simp [results, Tryz.results101, go_sem, p1, p3]) rfl ⟨by rw [HM.out]; rfl, ?_⟩
   exact (((hb2.setCell (by simp; omega) _).setCell (by simp; omega) _).drew)
 | false =>
  go_enter Tryz.func101, Tryz.ntmps101
  go_wp2_with fail
  refine HC.out.mono ?_
  rintro e w2 ⟨rfl, hV, ho⟩
  have hb2 : Below w.heap.size w w2 := HB.out.trans (ho.below (by have := HZ.out; omega) (by simp; omega))
  have p1 : w2.cell? ⟨w.heap.size + 1 + 1, 0, none⟩ = some (.int .i64 c) := cell_of_one hV.cnt
  have p1f : w2.frozen? ⟨w.heap.size + 1 + 1, 0, none⟩ = false := free_of_one hV.cnt
  have p3 : w2.cell? ⟨w.heap.size + 1 + 1 + 1, 0, none⟩ = some (.int .i64 d) := cell_of_one hV.dp
  have p3f : w2.frozen? ⟨w.heap.size + 1 + 1 + 1, 0, none⟩ = false := free_of_one hV.dp
  clear ho hV
  go_wp2
  refine bodyPost_ret (v := .tuple #[.int .i64 0, .int .i64 0, .bool false]) (by simp [results, Tryz.results101, go_sem, p1, p3]) rfl ⟨by rw [HM.out]; rfl, ?_⟩
  exact ((hb2.setCell (by simp; omega) _).setCell (by simp; omega) _)
theorem may_c (x : It) (B : Nat) (w : World) (c0 c1 c2 : Value) (h : ItIn w B x c0 c1 c2) (hB : B ≤ w.heap.size) :
 Calls Tryz.prog 97 #[.agg #[c0, c1, c2]] w fun e w' => e = .returned (.bool x.may) ∧ Below w.heap.size w w' := by
 have HC := Lib.hid (scan_c x B (w.alloc (.cells #[c0, c1, c2] 28)) c0 c1 c2 (h.below blw) (by simp; omega))
 obtain ⟨a, b, hab⟩ : ∃ a b : Int, scanV x = .tuple #[.int .i64 a, .int .i64 b, .bool x.may] := ⟨_, _, rfl⟩
 rw [hab] at HC
 obtain ⟨A, cap, rfl, rfl, rfl, _⟩ := h.open_
 clear h hab
 generalize x.may = R at *
 go_enter Tryz.func97, Tryz.ntmps97
 go_wp2_with fail
 refine HC.out.mono ?_
 rintro e w2 ⟨rfl, hb⟩
 go_wp2
 go_ret
 exact ⟨rfl, (Below.alloc (Below.refl _ _) (Nat.le_refl _) _).trans (hb.mono (by simp))⟩
theorem caps_c (x : It) (D M : Int) (B : Nat) (w : World) (c0 c1 c2 : Value) (h : ItIn w B x c0 c1 c2) (hB : B ≤ w.heap.size) :
 Calls Tryz.prog 69 #[.agg #[c0, c1, c2], .int .i64 D, .int .i64 M] w fun e w' => e = .returned (.int .i64 (capsE x D M)) ∧ Below w.heap.size w w' := by
 have HC := Lib.hid (scan_c x B (w.alloc (.cells #[c0, c1, c2] 28)) c0 c1 c2 (h.below blw) (by simp; omega))
 obtain ⟨A, cap, rfl, rfl, rfl, _⟩ := h.open_
 clear h
 cases hm : x.may with
 | false =>
  have HS : Hid (scanV x = .tuple #[.int .i64 0, .int .i64 0, .bool false]) := Lib.hid (by rw [scanV, hm]; rfl)
  have HE : Hid (capsE x D M = 1) := Lib.hid (by rw [capsE, if_pos hm])
  clear hm
  go_enter Tryz.func69, Tryz.ntmps69
  go_wp2_with fail
  refine HC.out.mono ?_
  rintro e w2 ⟨rfl, hb⟩
  rw [HS.out]
  go_wp2
  go_ret
  rw [HE.out]
  exact ⟨rfl, (Below.alloc (Below.refl _ _) (Nat.le_refl _) _).trans (hb.mono (by simp))⟩
 | true =>
  obtain ⟨c, hc⟩ : ∃ c, (x.count : Int) = c := ⟨_, rfl⟩
  obtain ⟨d, hd⟩ : ∃ d, (x.deep : Int) = d := ⟨_, rfl⟩
  have HS : Hid (scanV x = .tuple #[.int .i64 c, .int .i64 d, .bool true]) := Lib.hid (by rw [scanV, hm, ← hc, ← hd]; rfl)
  have hE : capsE x D M = if D < d then 6 else if M < c then 4 else 0 := by rw [capsE, if_neg (by simp [hm]), hc, hd]
  clear hm hc hd
  by_cases h1 : D < d
  ·have HE : Hid (capsE x D M = 6) := Lib.hid (by rw [hE, if_pos h1])
   clear hE
   go_enter Tryz.func69, Tryz.ntmps69
   go_wp2_with fail
   refine HC.out.mono ?_
   rintro e w2 ⟨rfl, hb⟩
   rw [HS.out]
   go_wp2
   go_ret
   rw [HE.out]
   exact ⟨rfl, (Below.alloc (Below.refl _ _) (Nat.le_refl _) _).trans (hb.mono (by simp))⟩
  ·rw [if_neg h1] at hE
   by_cases h2 : M < c
   ·have HE : Hid (capsE x D M = 4) := Lib.hid (by rw [hE, if_pos h2])
    clear hE
    go_enter Tryz.func69, Tryz.ntmps69
    go_wp2_with fail
    refine HC.out.mono ?_
    rintro e w2 ⟨rfl, hb⟩
    rw [HS.out]
    go_wp2
    go_ret
    rw [HE.out]
    exact ⟨rfl, (Below.alloc (Below.refl _ _) (Nat.le_refl _) _).trans (hb.mono (by simp))⟩
   ·have HE : Hid (capsE x D M = 0) := Lib.hid (by rw [hE, if_neg h2])
    clear hE
    go_enter Tryz.func69, Tryz.ntmps69
    go_wp2_with fail
    refine HC.out.mono ?_
    rintro e w2 ⟨rfl, hb⟩
    rw [HS.out]
    go_wp2
    go_ret
    rw [HE.out]
    exact ⟨rfl, (Below.alloc (Below.refl _ _) (Nat.le_refl _) _).trans (hb.mono (by simp))⟩
theorem tails20_c : ∀ (x : Ty) (B : Nat) (w : World) (c0 c1 c2 c3 : Value), TyIn w B x c0 c1 c2 c3 → B ≤ w.heap.size → True →
 Calls Tryz.prog 51 #[.agg #[c0, c1, c2, c3]] w fun e w' => e = .returned (.bool (!x.full)) ∧ Below w.heap.size w w' := by
 intro x
 induction x using Ty.ind with
 | h ki s l ta ih =>
  intro B w c0 c1 c2 c3 h hB _
  obtain ⟨rfl, rfl, rfl, hki, hsi, hta, hs, A, cap, rfl, hcap, hcm, hsub⟩ := h
  have IH := Lib.hid ih
  have HS := Lib.hid hsub
  have HKI := Lib.hid hki
  have HSI := Lib.hid hsi
  have HTA := Lib.hid hta
  unfold okI at hki hsi hta
  obtain ⟨hki1, hki2⟩ := hki
  obtain ⟨hsi1, hsi2⟩ := hsi
  obtain ⟨hta1, hta2⟩ := hta
  clear ih hsub
  obtain ⟨R, HR⟩ : ∃ R, Hid ((!(Ty.mk ki s l ta).full) = R) := ⟨_, Lib.hid rfl⟩
  rw [HR.out]
  by_cases ht0 : ta = 0
  ·subst ht0
   have HX : Hid (R = !(fullL l)) := Lib.hid (by rw [← HR.out]; rfl)
   go_enter Tryz.func51, Tryz.ntmps51
   go_wp2_with fail
   go_loopw [3] (fun i wr => ∃ k : Nat, k ≤ l.length ∧ i = .int .i64 k ∧ Hid (fullL (l.take k) = true) ∧ Below w.heap.size w wr ∧ wr.cell? ⟨w.heap.size, 2, none⟩ = some (.slice A l.length cap)) (fun i _ => l.length - (intOf i).toNat)
   case atStart => exact ⟨0, by omega, rfl, Lib.hid (by simp [fullL]), blw, by simp⟩
   case round =>
    obtain ⟨k, hk, rfl, hm, hb, hcell⟩ := hrel
    by_cases hlt : k < l.length
    ·obtain ⟨b, o, d0, d1, d2, d3, rfl, hbB, e0, e1, e2, e3, hi⟩ := HS.out.at_ k hlt
     simp only [Nat.zero_add] at e0 e1 e2 e3
     replace e0 := (hb.cell (p := ⟨b, o + k * 4, none⟩) (by simp; omega)).trans e0
     replace e1 := (hb.cell (p := ⟨b, o + k * 4 + 1, none⟩) (by simp; omega)).trans e1
     replace e2 := (hb.cell (p := ⟨b, o + k * 4 + 2, none⟩) (by simp; omega)).trans e2
     replace e3 := (hb.cell (p := ⟨b, o + k * 4 + 3, none⟩) (by simp; omega)).trans e3
     have hbz := hb.size
     have hmem := List.getElem_mem hlt
     have hiw := hi.below (hb.mono hB)
     have HC := Lib.hid (IH.out _ hmem B wr d0 d1 d2 d3 hiw (by omega) trivial)
     cases hf : l[k].full with
     | true =>
      rw [hf] at HC
      have HN : Hid (fullL (l.take (k + 1)) = true) := Lib.hid (by rw [fullL_take hlt, hm.out, hf]; rfl)
      clear hf hi hiw
      go_wp2_with fail
      refine HC.out.mono ?_
      rintro e w2 ⟨rfl, hb2⟩
      have hbz2 := hb2.size
      have hbl := lt_of_cell hcell
      have hcell2 := (hb2.cell (p := ⟨w.heap.size, 2, none⟩) (by simp; omega)).trans hcell
      have hb3 := hb.trans (hb2.mono hbz)
      go_wp2
      go_roundw
      case rel => exact ⟨k + 1, by omega, by go_num, HN, hb3, hcell2⟩
      case measure => simp [intOf]; omega
     | false =>
      rw [hf] at HC
      have HN : Hid (fullL l = false) := Lib.hid (fullL_no hlt hf)
      clear hf hi hiw
      go_wp2_with fail
      refine HC.out.mono ?_
      rintro e w2 ⟨rfl, hb2⟩
      have hbz2 := hb2.size
      have hbl := lt_of_cell hcell
      have hcell2 := (hb2.cell (p := ⟨w.heap.size, 2, none⟩) (by simp; omega)).trans hcell
      have hb3 := hb.trans (hb2.mono hbz)
      go_wp2
      go_ret
      exact ⟨by rw [HX.out, HN.out]; rfl, hb3⟩
    ·have hm1 := hm.out
     rw [List.take_of_length_le (by omega)] at hm1
     have HM := Lib.hid hm1
     clear hm1
     go_wp2
     go_ret
     exact ⟨by rw [HX.out, HM.out]; rfl, hb⟩
  ·have e1 : (ta != 0) = true := bne_iff_ne.2 ht0
   have HX : Hid (R = true) := Lib.hid (by rw [← HR.out, full_is, Ty.tail_mk, decide_eq_false ht0]; rfl)
   clear ht0
   go_enter Tryz.func51, Tryz.ntmps51
   go_wp2
   go_ret
   exact ⟨by rw [HX.out]; rfl, blw⟩
theorem refFlat_c (x : Ty) (B : Nat) (w : World) (c0 c1 c2 c3 : Value) (h : TyIn w B x c0 c1 c2 c3) (hB : B ≤ w.heap.size) (hc : x.count ≤ 4611686018427387904) :
 Calls Tryz.prog 34 #[.agg #[c0, c1, c2, c3]] w fun e w' => e = .returned (.bool x.flat) ∧ Below w.heap.size w w' := by
 have HMY := Lib.hid (fun V (hV : Below w.heap.size w V) => may20_c x B V c0 c1 c2 c3 (h.below (hV.mono hB)) (by have := hV.size; omega) hc)
 obtain ⟨ki, s, l, ta⟩ := x
 obtain ⟨rfl, rfl, rfl, hki, hsi, hta, hs, A, cap, rfl, hcap, hcm, hsub⟩ := h
 have HS := Lib.hid hsub
 have IH : Hid (∀ y ∈ l, ∀ (B : Nat) (w : World) (c0 c1 c2 c3 : Value), TyIn w B y c0 c1 c2 c3 → B ≤ w.heap.size → True → Calls Tryz.prog 51 #[.agg #[c0, c1, c2, c3]] w fun e w' => e = .returned (.bool (!y.full)) ∧ Below w.heap.size w w') := Lib.hid (fun y _ => tails20_c y)
 have HFL : Hid ((Ty.mk ki s l ta).flat = ((Ty.mk ki s l ta).may && fullL l)) := Lib.hid rfl
 unfold okI at hki hsi hta
 clear hsub hc
 generalize (Ty.mk ki s l ta).flat = R at *
 generalize (Ty.mk ki s l ta).may = MY at *
 have HX : Hid (R = (MY && fullL l)) := HFL
 clear HFL
 go_enter Tryz.func34, Tryz.ntmps34
 go_wp2_with fail
 go_loopw [3] (fun i wr => ∃ k : Nat, k ≤ l.length ∧ i = .int .i64 k ∧ Hid (fullL (l.take k) = true) ∧ Below w.heap.size w wr ∧ wr.cell? ⟨w.heap.size, 2, none⟩ = some (.slice A l.length cap) ∧ Below (w.heap.size + 1) (w.alloc (.cells #[.int .i64 ki, .int .i64 s, .slice A l.length cap, .int .i64 ta] 55)) wr) (fun i _ => l.length - (intOf i).toNat)
 case atStart => exact ⟨0, by omega, rfl, Lib.hid (by simp [fullL]), blw, by simp, Below.refl _ _⟩
 case round =>
  obtain ⟨k, hk, rfl, hm, hb, hcell, hbox⟩ := hrel
  by_cases hlt : k < l.length
  ·obtain ⟨b, o, d0, d1, d2, d3, rfl, hbB, e0, e1, e2, e3, hi⟩ := HS.out.at_ k hlt
   simp only [Nat.zero_add] at e0 e1 e2 e3
   replace e0 := (hb.cell (p := ⟨b, o + k * 4, none⟩) (by simp; omega)).trans e0
   replace e1 := (hb.cell (p := ⟨b, o + k * 4 + 1, none⟩) (by simp; omega)).trans e1
   replace e2 := (hb.cell (p := ⟨b, o + k * 4 + 2, none⟩) (by simp; omega)).trans e2
   replace e3 := (hb.cell (p := ⟨b, o + k * 4 + 3, none⟩) (by simp; omega)).trans e3
   have hbz := hb.size
   have hmem := List.getElem_mem hlt
   have hiw := hi.below (hb.mono hB)
   have HC := Lib.hid (IH.out _ hmem B wr d0 d1 d2 d3 hiw (by omega) trivial)
   have hbxz := hbox.size
   cases hf : l[k].full with
   | true =>
    rw [hf] at HC
    have HN : Hid (fullL (l.take (k + 1)) = true) := Lib.hid (by rw [fullL_take hlt, hm.out, hf]; rfl)
    clear hf hi hiw
    go_wp2_with fail
    refine HC.out.mono ?_
    rintro e w2 ⟨rfl, hb2⟩
    have hbox2 := hbox.trans (hb2.mono (by simpa using hbxz))
    have hbz2 := hb2.size
    have hbl := lt_of_cell hcell
    have hcell2 := (hb2.cell (p := ⟨w.heap.size, 2, none⟩) (by simp; omega)).trans hcell
    have hb3 := hb.trans (hb2.mono hbz)
    go_wp2
    go_roundw
    case rel => exact ⟨k + 1, by omega, by go_num, HN, hb3, hcell2, hbox2⟩
    case measure => simp [intOf]; omega
   | false =>
    rw [hf] at HC
    have HN : Hid (fullL l = false) := Lib.hid (fullL_no hlt hf)
    clear hf hi hiw
    go_wp2_with fail
    refine HC.out.mono ?_
    rintro e w2 ⟨rfl, hb2⟩
    have hbz2 := hb2.size
    have hbl := lt_of_cell hcell
    have hcell2 := (hb2.cell (p := ⟨w.heap.size, 2, none⟩) (by simp; omega)).trans hcell
    have hb3 := hb.trans (hb2.mono hbz)
    go_wp2
    go_ret
    exact ⟨by rw [HX.out, HN.out, Bool.and_false]; rfl, hb3⟩
  ·have hm1 := hm.out
   rw [List.take_of_length_le (by omega)] at hm1
   have HM := Lib.hid hm1
   obtain ⟨q0, q1, q2, q3⟩ := box4 hbox
   have hbz := hb.size
   have HM2 := Lib.hid (HMY.out wr hb)
   have HB := Lib.hid hb
   clear hm1
   go_wp2_with fail
   refine HM2.out.mono ?_
   rintro e w2 ⟨rfl, hb2⟩
   have hb3 := HB.out.trans (hb2.mono hbz)
   go_wp2
   go_ret
   exact ⟨by rw [HX.out, HM.out, Bool.and_true]; rfl, hb3⟩
end Go.Proofs.YtnfpgadegpmhkaaGreatDoor
