/- Package schema: May. -/
import Derived.Test.YtacikiambpfipaaDoorKTyRef
import Derived.Test.YtacikiambpfipaaDoorKA3
import Derived.Laws.EntriesVeiled
namespace Go.Proofs.YtacikiambpfipaaDoor
set_option linter.unusedVariables false
set_option linter.unusedSimpArgs false
open Go.RowKit

/-- The table of a Uint's sizes lies in block 0. -/
def Laid (w : World) : Prop := w.cell? ⟨0, 0, none⟩ = some (.int .i64 1) ∧ w.cell? ⟨0, 1, none⟩ = some (.int .i64 2) ∧ w.cell? ⟨0, 2, none⟩ = some (.int .i64 4) ∧ w.cell? ⟨0, 3, none⟩ = some (.int .i64 8)
theorem Laid.pos {w : World} (h : Laid w) : 0 < w.heap.size := lt_of_cell h.1
theorem Laid.same {w w' : World} (h : Laid w) (hk : w'.heap[0]? = w.heap[0]?) : Laid w' :=
  ⟨(World.cell?_of_block hk).trans h.1, (World.cell?_of_block hk).trans h.2.1, (World.cell?_of_block hk).trans h.2.2.1, (World.cell?_of_block hk).trans h.2.2.2⟩
theorem Laid.below {w w' : World} {B : Nat} (h : Laid w) (hb : Below B w w') (hB : 0 < B) : Laid w' := h.same (hb.block 0 hB)
theorem Laid.only {w w' : World} {L : List Nat} (h : Laid w) (ho : Only L w w') (hL : 0 ∉ L) : Laid w' := h.same (ho.block 0 h.pos hL)
theorem Laid.alloc {w : World} (h : Laid w) (o : Obj) : Laid (w.alloc o) := h.below ((Below.refl w.heap.size w).alloc (Nat.le_refl _) o) h.pos

def isSize (n : Int) : Bool := decide (n = 1 ∨ n = 2 ∨ n = 4 ∨ n = 8)
set_option maxRecDepth 100000 in
set_option maxHeartbeats 400000 in
theorem isSize_c (n : Int) (w : World) (h : Laid w) : Calls Tryd.prog 178 #[.int .i64 n] w fun e w' => e = .returned (.bool (isSize n)) ∧ w = w' := by
  obtain ⟨h0, h1, h2, h3⟩ := h
  obtain ⟨R, HR⟩ : ∃ R, Hid (isSize n = R) := ⟨_, Lib.hid rfl⟩
  rw [HR.out]
  have i0 : ∀ w, (Instr.index 227 (.agg #[.int .i64 1, .int .i64 2, .int .i64 4, .int .i64 8]) (.int .i64 0)).run Tryd.prog w = .ok (.int .i64 1) w := fun _ => by kernel_rfl
  have i1 : ∀ w, (Instr.index 227 (.agg #[.int .i64 1, .int .i64 2, .int .i64 4, .int .i64 8]) (.int .i64 1)).run Tryd.prog w = .ok (.int .i64 2) w := fun _ => by kernel_rfl
  have i2 : ∀ w, (Instr.index 227 (.agg #[.int .i64 1, .int .i64 2, .int .i64 4, .int .i64 8]) (.int .i64 2)).run Tryd.prog w = .ok (.int .i64 4) w := fun _ => by kernel_rfl
  have i3 : ∀ w, (Instr.index 227 (.agg #[.int .i64 1, .int .i64 2, .int .i64 4, .int .i64 8]) (.int .i64 3)).run Tryd.prog w = .ok (.int .i64 8) w := fun _ => by kernel_rfl
  go_enter Tryd.func178, Tryd.ntmps178
  go_wp2_with fail
  go_loop [6] (fun i => ∃ k : Nat, k ≤ 4 ∧ i = .int .i64 k ∧ Hid (∀ j, j < k → n ≠ ([1, 2, 4, 8] : List Int).getD j 0)) (fun i => 4 - (intOf i).toNat)
  case atStart => exact ⟨0, by omega, rfl, Lib.hid (by omega)⟩
  case round =>
    obtain ⟨k, hk, rfl, hn⟩ := hrel
    have key : k = 0 ∨ k = 1 ∨ k = 2 ∨ k = 3 ∨ k = 4 := by omega
    rcases key with rfl | rfl | rfl | rfl | rfl
    · by_cases he : n = 1
      · have HE : Hid (R = true) := Lib.hid (by rw [← HR.out]; unfold isSize; rw [decide_eq_true]; omega)
        subst he
        go_wp2
        go_ret
        exact ⟨by rw [HE.out]; rfl, rfl⟩
      · have e1 : (n == (1 : Int)) = false := beq_eq_false_iff_ne.2 he
        have HN : Hid (∀ j, j < 0 + 1 → n ≠ ([1, 2, 4, 8] : List Int).getD j 0) := Lib.hid (fun j hj => by
          by_cases h : j = 0
          · subst h; simpa using he
          · exact hn.out j (by omega))
        clear he
        go_wp2
        go_round
        case rel => exact ⟨0 + 1, by omega, by go_num, HN⟩
        case measure => simp [intOf]
    · by_cases he : n = 2
      · have HE : Hid (R = true) := Lib.hid (by rw [← HR.out]; unfold isSize; rw [decide_eq_true]; omega)
        subst he
        go_wp2
        go_ret
        exact ⟨by rw [HE.out]; rfl, rfl⟩
      · have e1 : (n == (2 : Int)) = false := beq_eq_false_iff_ne.2 he
        have HN : Hid (∀ j, j < 1 + 1 → n ≠ ([1, 2, 4, 8] : List Int).getD j 0) := Lib.hid (fun j hj => by
          by_cases h : j = 1
          · subst h; simpa using he
          · exact hn.out j (by omega))
        clear he
        go_wp2
        go_round
        case rel => exact ⟨1 + 1, by omega, by go_num, HN⟩
        case measure => simp [intOf]
    · by_cases he : n = 4
      · have HE : Hid (R = true) := Lib.hid (by rw [← HR.out]; unfold isSize; rw [decide_eq_true]; omega)
        subst he
        go_wp2
        go_ret
        exact ⟨by rw [HE.out]; rfl, rfl⟩
      · have e1 : (n == (4 : Int)) = false := beq_eq_false_iff_ne.2 he
        have HN : Hid (∀ j, j < 2 + 1 → n ≠ ([1, 2, 4, 8] : List Int).getD j 0) := Lib.hid (fun j hj => by
          by_cases h : j = 2
          · subst h; simpa using he
          · exact hn.out j (by omega))
        clear he
        go_wp2
        go_round
        case rel => exact ⟨2 + 1, by omega, by go_num, HN⟩
        case measure => simp [intOf]
    · by_cases he : n = 8
      · have HE : Hid (R = true) := Lib.hid (by rw [← HR.out]; unfold isSize; rw [decide_eq_true]; omega)
        subst he
        go_wp2
        go_ret
        exact ⟨by rw [HE.out]; rfl, rfl⟩
      · have e1 : (n == (8 : Int)) = false := beq_eq_false_iff_ne.2 he
        have HN : Hid (∀ j, j < 3 + 1 → n ≠ ([1, 2, 4, 8] : List Int).getD j 0) := Lib.hid (fun j hj => by
          by_cases h : j = 3
          · subst h; simpa using he
          · exact hn.out j (by omega))
        clear he
        go_wp2
        go_round
        case rel => exact ⟨3 + 1, by omega, by go_num, HN⟩
        case measure => simp [intOf]
    · have HE : Hid (R = false) := Lib.hid (by
        have hh := hn.out
        have a0 := hh 0 (by omega)
        have a1 := hh 1 (by omega)
        have a2 := hh 2 (by omega)
        have a3 := hh 3 (by omega)
        simp at a0 a1 a2 a3
        rw [← HR.out]; unfold isSize; rw [decide_eq_false]; omega)
      go_wp2
      go_ret
      exact ⟨by rw [HE.out]; rfl, rfl⟩

def sized (l m s : Int) : Bool := decide (l ≤ s ∧ s ≤ m)
set_option maxHeartbeats 400000 in
theorem sized_c (l m s : Int) (g : Nat) (w : World) (h : w.cell? ⟨g, 1, none⟩ = some (.int .i64 s)) :
    Calls Tryd.prog 177 #[.int .i64 l, .int .i64 m, .pointer (some ⟨g, 0, none⟩)] w fun e w' => e = .returned (.bool (sized l m s)) ∧ w = w' := by
  obtain ⟨R, HR⟩ : ∃ R, Hid (sized l m s = R) := ⟨_, Lib.hid rfl⟩
  rw [HR.out]
  by_cases h1 : l ≤ s
  · by_cases h2 : s ≤ m
    · have HX : Hid (R = true) := Lib.hid (by rw [← HR.out]; exact decide_eq_true ⟨h1, h2⟩)
      have e2 : decide (s ≤ m) = true := decide_eq_true h2
      go_enter Tryd.func177, Tryd.ntmps177
      go_wp2
      go_ret
      exact ⟨by rw [HX.out]; rfl, rfl⟩
    · have HX : Hid (R = false) := Lib.hid (by rw [← HR.out]; exact decide_eq_false (fun h => h2 h.2))
      have e2 : decide (s ≤ m) = false := decide_eq_false h2
      go_enter Tryd.func177, Tryd.ntmps177
      go_wp2
      go_ret
      exact ⟨by rw [HX.out]; rfl, rfl⟩
  · have HX : Hid (R = false) := Lib.hid (by rw [← HR.out]; exact decide_eq_false (fun h => h1 h.1))
    go_enter Tryd.func177, Tryd.ntmps177
    go_wp2
    go_ret
    exact ⟨by rw [HX.out]; rfl, rfl⟩
set_option maxRecDepth 100000 in
set_option maxHeartbeats 1600000 in
theorem fitsKind_c (k s : Int) (A : Option Addr) (n cap : Nat) (t : Int) (w : World) (hL : Laid w) (hk : okI k) (hs : okI s) (ht : okI t) (hn : n ≤ 9223372036854775807) :
    Calls Tryd.prog 153 #[.agg #[.int .i64 k, .int .i64 s, .slice A n cap, .int .i64 t]] w fun e w' => e = .returned (.bool (tyOk k s n t)) ∧ Below w.heap.size w w' := by
  unfold okI at hk hs ht
  obtain ⟨hk1, hk2⟩ := hk
  obtain ⟨hs1, hs2⟩ := hs
  obtain ⟨ht1, ht2⟩ := ht
  have HS := Lib.hid (fun w' hb => isSize_c s w' (hL.below (B := w.heap.size) hb hL.pos))
  obtain ⟨b, hb⟩ : ∃ b, isSize s = b := ⟨_, rfl⟩
  rw [hb] at HS
  have HB := Lib.hid hb
  obtain ⟨R, HR⟩ : ∃ R, Hid (tyOk k s n t = R) := ⟨_, Lib.hid rfl⟩
  rw [HR.out]
  clear hb hL
  go_enter Tryd.func153, Tryd.ntmps153
  go_wp2_with (first | (go_at_call 178; refine (HS.out _ (by repeat (first | exact Below.refl _ _ | assumption | with_reducible refine Below.drewN' ?_ _ | with_reducible refine Below.drew ?_ | ((with_reducible refine Below.alloc' ?_ ?_ _); · (first | omega | (simp <;> omega)))))).mono ?_; rintro e w' ⟨rfl, rfl⟩) | (go_at_call 177; refine (sized_c _ _ s _ _ (by simp)).mono ?_; rintro e w' ⟨rfl, rfl⟩))
  all_goals
    go_ret
    refine ⟨ret_bool ?_, (by repeat (first | exact Below.refl _ _ | assumption | with_reducible refine Below.drewN' ?_ _ | with_reducible refine Below.drew ?_ | ((with_reducible refine Below.alloc' ?_ ?_ _); · (first | omega | (simp <;> omega)))))⟩
    rw [← HR.out, Bool.eq_iff_iff]
    have hbb := HB.out
    simp_all [tyOk, sized, isSize]
    try omega

theorem TyIn.ok {w : World} {B : Nat} {x : Ty} {c0 c1 c2 c3 : Value} (h : TyIn w B x c0 c1 c2 c3) : okI x.kind ∧ okI x.size ∧ okI x.tail ∧ x.sub.length ≤ 9223372036854775807 := by
  obtain ⟨A, cap, _, _, _, _, h1, h2, h3, h4, h5, _⟩ := h.open_
  exact ⟨h1, h2, h3, by omega⟩
set_option maxRecDepth 100000 in
set_option maxHeartbeats 800000 in
theorem smay_c : ∀ (x : Ty) (B : Nat) (w : World) (c0 c1 c2 c3 : Value), TyIn w B x c0 c1 c2 c3 → B ≤ w.heap.size → ∀ (lb lv c : Nat), Blk w lb 3 #[.int .i64 c] → B ≤ lb → 0 < lb → Laid w → 1 ≤ lv → lv ≤ 9 → c ≤ 64 →
    Calls Tryd.prog 118 #[.agg #[c0, c1, c2, c3], .int .i64 lv, .pointer (some ⟨lb, 0, none⟩)] w fun e w' =>
      e = .returned (.bool (x.vis lv c).1) ∧ Blk w' lb 3 #[.int .i64 (x.vis lv c).2] ∧ Only [lb] w w' := by
  intro x
  induction x using Ty.ind with
  | h ki s l ta ih =>
    intro B w c0 c1 c2 c3 h hB lb lv c hV hcB hl0 hLd hlv hlv2 hc
    obtain ⟨rfl, rfl, rfl, hki, hsi, hta, hs, A, cap, rfl, hcap, hcm, hsub⟩ := h
    have IH := Lib.hid ih
    have HS := Lib.hid hsub
    have HKI := Lib.hid hki
    have HSI := Lib.hid hsi
    have HTA := Lib.hid hta
    unfold okI at hki hsi hta
    obtain ⟨hki1, hki2⟩ := hki
    obtain ⟨hsi1, hsi2⟩ := hsi
    obtain ⟨hta1, hta2⟩ := hta
    clear ih hsub
    have q1 : w.cell? ⟨lb, 0, none⟩ = some (.int .i64 c) := hV.cell 0
    have q1f : w.frozen? ⟨lb, 0, none⟩ = false := hV.frozen 0
    have HV := Lib.hid hV
    have HL := Lib.hid hLd
    have l1 := hV.lt
    have HR : Hid ((Ty.mk ki s l ta).vis lv c = if 8 < lv ∨ c = 0 ∨ tyOk ki s l.length ta = false then (false, c) else visT l (lv + 1) (c - 1)) := Lib.hid (by simp only [Ty.vis])
    generalize (Ty.mk ki s l ta).vis lv c = R at *
    clear hV hLd
    by_cases h1 : 8 < lv
    · have HX : Hid (R = (false, c)) := Lib.hid (by rw [HR.out, if_pos (.inl h1)])
      clear HR
      go_enter Tryd.func118, Tryd.ntmps118
      go_wp2
      go_ret
      rw [HX.out]
      exact ⟨rfl, HV.out.alloc _, (by repeat (first | exact Only.refl _ _ | assumption | with_reducible refine Only.drewN ?_ _ | with_reducible refine Only.drew ?_ | with_reducible refine Only.alloc ?_ _ | ((with_reducible refine Only.put ?_ ?_ _); · (first | omega | (simp <;> omega)))))⟩
    · by_cases h2 : c = 0
      · have HX : Hid (R = (false, c)) := Lib.hid (by rw [HR.out, if_pos (.inr (.inl h2))])
        subst h2
        clear HR
        go_enter Tryd.func118, Tryd.ntmps118
        go_wp2
        go_ret
        rw [HX.out]
        exact ⟨rfl, HV.out.alloc _, (by repeat (first | exact Only.refl _ _ | assumption | with_reducible refine Only.drewN ?_ _ | with_reducible refine Only.drew ?_ | with_reducible refine Only.alloc ?_ _ | ((with_reducible refine Only.put ?_ ?_ _); · (first | omega | (simp <;> omega)))))⟩
      · have e1 : ((c : Int) == 0) = false := beq_eq_false_iff_ne.2 (by omega)
        have HF := Lib.hid (fitsKind_c ki s A l.length cap ta (w.alloc (.cells #[.int .i64 ki, .int .i64 s, .slice A l.length cap, .int .i64 ta] 24)) (HL.out.alloc _) HKI.out HSI.out HTA.out hs)
        cases hf : tyOk ki s l.length ta with
        | false =>
          rw [hf] at HF
          have HX : Hid (R = (false, c)) := Lib.hid (by rw [HR.out, if_pos (.inr (.inr hf))])
          clear HR hf h2
          go_enter Tryd.func118, Tryd.ntmps118
          go_wp2_with fail
          refine HF.out.mono ?_
          rintro e w1 ⟨rfl, hb⟩
          go_wp2
          go_ret
          rw [HX.out]
          have hb2 : Below w.heap.size w w1 := (Below.alloc (Below.refl _ _) (Nat.le_refl _) _).trans (hb.mono (by simp))
          exact ⟨rfl, HV.out.only (Only.of_below hb2 (Nat.le_refl _)) (by simp), (Only.of_below hb2 (Nat.le_refl _)).mono (by simp)⟩
        | true =>
          rw [hf] at HF
          have HX : Hid (R = visT l (lv + 1) (c - 1)) := Lib.hid (by rw [HR.out, if_neg (by rw [hf]; simp; omega)])
          have hc2 : 1 ≤ c := by omega
          clear HR hf h2
          go_enter Tryd.func118, Tryd.ntmps118
          go_wp2_with fail
          refine HF.out.mono ?_
          rintro e w1 ⟨rfl, hb0⟩
          obtain ⟨g0, g1, g2, g3⟩ := box4 (by simpa using hb0)
          have hb2 : Below w.heap.size w w1 := (Below.alloc (Below.refl _ _) (Nat.le_refl _) _).trans (hb0.mono (by simp))
          have hV1 := HV.out.only (Only.of_below hb2 (Nat.le_refl _)) (by simp)
          have p1 : w1.cell? ⟨lb, 0, none⟩ = some (.int .i64 c) := hV1.cell 0
          have p1f : w1.frozen? ⟨lb, 0, none⟩ = false := hV1.frozen 0
          have HV1 := Lib.hid hV1
          have hbz := hb2.size
          clear hV1 hb0 q1 q1f HF
          go_wp2_with fail
          go_loopw [30] (fun i wr => ∃ k c' : Nat, k ≤ l.length ∧ i = .int .i64 k ∧ Hid (visT (l.take k) (lv + 1) (c - 1) = (true, c')) ∧ Blk wr lb 3 #[.int .i64 c'] ∧ Only [lb] w wr ∧ c' ≤ 64) (fun i _ => l.length - (intOf i).toNat)
          case atStart =>
            refine ⟨0, c - 1, by omega, rfl, Lib.hid (by simp [visT]), HV1.out.store (by simp; omega), ?_, by omega⟩
            exact ((Only.of_below hb2 (Nat.le_refl _)).mono (by simp)).setCell (by simp) _
          case round =>
            obtain ⟨k, c', hk, rfl, hvs, hVr, hon, hc'⟩ := hrel
            have hbr : Below B w wr := hon.below hB (by simp; omega)
            have hrz := hon.size
            have HVR := Lib.hid hVr
            clear hVr
            by_cases hlt : k < l.length
            · obtain ⟨b, o, d0, d1, d2, d3, rfl, hbB, e0, e1', e2, e3, hi⟩ := HS.out.at_ k hlt
              simp only [Nat.zero_add] at e0 e1' e2 e3
              replace e0 := (hbr.cell (p := ⟨b, o + k * 4, none⟩) hbB).trans e0
              replace e1' := (hbr.cell (p := ⟨b, o + k * 4 + 1, none⟩) hbB).trans e1'
              replace e2 := (hbr.cell (p := ⟨b, o + k * 4 + 2, none⟩) hbB).trans e2
              replace e3 := (hbr.cell (p := ⟨b, o + k * 4 + 3, none⟩) hbB).trans e3
              obtain ⟨A2, cap2, rfl, rfl, rfl, rfl, _⟩ := hi.open_
              have hmem := List.getElem_mem hlt
              have hiw := hi.below hbr
              have HLr := HL.out.only hon (by simp; omega)
              have HC := Lib.hid (IH.out _ hmem B (wr.alloc (.cells #[.int .i64 l[k].kind, .int .i64 l[k].size, .slice A2 l[k].sub.length cap2, .int .i64 l[k].tail] 24)) _ _ _ _ (hiw.below (Below.alloc (Below.refl _ _) (by omega) _)) (by simp; omega) lb (lv + 1) c' (HVR.out.alloc _) hcB hl0 (HLr.alloc _) (by omega) (by omega) hc')
              have hvb := (tyVis_is l[k] (lv + 1) c' (by omega)).2.2
              obtain ⟨⟨r, c2⟩, hT⟩ : ∃ T, l[k].vis (lv + 1) c' = T := ⟨_, rfl⟩
              rw [hT] at HC hvb
              have hv1 : c2 ≤ 64 := by simp at hvb; omega
              have e9 : (lv : Int) + 1 = ((lv + 1 : Nat) : Int) := by omega
              have E9 := Lib.hid e9
              cases r with
              | true =>
                have HN : Hid (visT (l.take (k + 1)) (lv + 1) (c - 1) = (true, c2)) := Lib.hid (by rw [visT_take hlt hvs.out, hT])
                clear hi hiw hT hvb e9 HLr
                go_wp2_with fail
                rw [E9.out]
                refine HC.out.mono ?_
                rintro e w2 ⟨rfl, hV2, ho2⟩
                have hon2 : Only [lb] w w2 := (hon.alloc _).trans ho2
                clear ho2
                go_wp2
                go_roundw
                case rel => exact ⟨k + 1, c2, by omega, by go_num, HN, hV2, hon2, hv1⟩
                case measure => simp [intOf]; omega
              | false =>
                have HN : Hid (visT l (lv + 1) (c - 1) = (false, c2)) := Lib.hid (visT_stop hlt hvs.out hT)
                clear hi hiw hT hvb e9 HLr
                go_wp2_with fail
                rw [E9.out]
                refine HC.out.mono ?_
                rintro e w2 ⟨rfl, hV2, ho2⟩
                have hon2 : Only [lb] w w2 := (hon.alloc _).trans ho2
                clear ho2
                go_wp2
                go_ret
                rw [HX.out, HN.out]
                exact ⟨rfl, hV2, hon2⟩
            · have hvs1 := hvs.out
              rw [List.take_of_length_le (by omega)] at hvs1
              have HN := Lib.hid hvs1
              clear hvs1
              go_wp2
              go_ret
              rw [HX.out, HN.out]
              exact ⟨rfl, HVR.out, hon⟩

set_option maxHeartbeats 400000 in
theorem schemaMay_c (x : Ty) (B : Nat) (w : World) (c0 c1 c2 c3 : Value) (h : TyIn w B x c0 c1 c2 c3) (hB : B ≤ w.heap.size) (hL : Laid w) :
    Calls Tryd.prog 74 #[.agg #[c0, c1, c2, c3]] w fun e w' => e = .returned (.bool x.may) ∧ Below w.heap.size w w' := by
  have hb1 := Blk.new (w.alloc (.cells #[c0, c1, c2, c3] 24)) 3 #[.int .i64 64]
  have hpos := hL.pos
  have HC := Lib.hid (smay_c x B ((w.alloc (.cells #[c0, c1, c2, c3] 24)).alloc (.cells #[.int .i64 64] 3)) c0 c1 c2 c3 (h.below ((Below.alloc (Below.refl _ _) hB _).alloc (by simp; omega) _)) (by simp; omega) (w.heap.size + 1) 1 64 (by simpa using hb1) (by omega) (by omega) ((hL.alloc _).alloc _) (by omega) (by omega) (by omega))
  have HM : Hid (x.may = (x.vis 1 64).1) := Lib.hid (tyVis_may x).symm
  rw [HM.out]
  obtain ⟨A, cap, rfl, rfl, rfl, rfl, _⟩ := h.open_
  generalize x.vis 1 64 = R at *
  generalize x.kind = ki at *
  generalize x.size = si at *
  generalize x.tail = ta at *
  clear h hb1 hL
  go_enter Tryd.func74, Tryd.ntmps74
  go_wp2_with fail
  refine HC.out.mono ?_
  rintro e w2 ⟨rfl, hV, ho⟩
  go_wp2
  go_ret
  exact ⟨rfl, ((Below.refl w.heap.size w).alloc (Nat.le_refl _) _ |>.alloc (by simp) _).trans (ho.below (by simp; omega) (by simp))⟩
end Go.Proofs.YtacikiambpfipaaDoor
