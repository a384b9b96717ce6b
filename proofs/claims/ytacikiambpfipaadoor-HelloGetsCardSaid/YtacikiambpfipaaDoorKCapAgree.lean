/- hello.Agree. -/
import Derived.Test.YtacikiambpfipaaDoorKA9
import Derived.Test.YtacikiambpfipaaDoorKA11
namespace Go.Proofs.YtacikiambpfipaaDoor
set_option linter.unusedVariables false
set_option linter.unusedSimpArgs false
open Go.RowKit Go.Shelf
attribute [local go_sem] Oper.semAt_some

theorem dealL_snoc (m : List Cp) (c : Cp) : dealL (m ++ [c]) = dealStep (dealL m) c := by simp [dealL]
theorem dealStep_len (d : List Cp) (c : Cp) : (dealStep d c).length ≤ d.length + 1 := by unfold dealStep; split <;> simp
theorem dealL_len (m : List Cp) : (dealL m).length ≤ m.length := by
  have key : ∀ (m d : List Cp), (m.foldl dealStep d).length ≤ d.length + m.length := by
    intro m
    induction m with
    | nil => intro d; simp
    | cons c m ih => intro d; have := ih (dealStep d c); have := dealStep_len d c; simp only [List.foldl_cons, List.length_cons]; omega
  have := key m []
  simpa [dealL] using this
/-- How Agree ends. -/
def AgEnd (la ma : Int) (a : List Cp) (lb mb : Int) (b : List Cp) (w : World) (e : Ending) (w' : World) : Prop :=
  Below w.heap.size w w' ∧
    if helB la ma a = true ∧ helB lb mb b = true then
      if min ma mb < max la lb then e = .returned (.tuple #[.agg #[.int .i64 0, .slice none 0 0], .int .i64 7])
      else ∃ v, e = .returned (.tuple #[.agg #[.int .i64 (min ma mb), v], .int .i64 0]) ∧ CpR w' w'.heap.size v (dealL (bothL a b))
    else e = .returned (.tuple #[.agg #[.int .i64 0, .slice none 0 0], .int .i64 1])
/-- Between two rounds. -/
structure AgInv (ver : Int) (w : World) (s0 : Nat) (pre : List Cp) (W : World) : Prop where
  row : ∃ v, Blk W s0 106 #[.int .i64 ver, v] ∧ W.ownsRow (s0 + 3) 104 2 v (dealL pre).length (cc (dealL pre))
  res : Blk W (w.heap.size + 2) 106 #[.int .i64 0, .slice none 0 0]
  below : Below w.heap.size w W
  size : s0 + 3 ≤ W.heap.size
theorem AgInv.grown {ver : Int} {w W W' : World} {s0 : Nat} {pre : List Cp} {row : Option Nat} (hs0 : w.heap.size + 3 ≤ s0) (h : AgInv ver w s0 pre W) (hg : W.grownBy W' row) (hr : ∀ r, row = some r → s0 + 3 ≤ r ∧ ∃ o : Obj, W.heap[r]? = some o ∧ o.isCells = false) : AgInv ver w s0 pre W' := by
  have hB : Below (s0 + 3) W W' := ⟨hg.os, hg.tape, hg.output, hg.size, fun k hk => hg.block k (by have := h.size; omega) (fun e => by have := (hr k e.symm).1; omega)⟩
  obtain ⟨v, h1, h2⟩ := h.row
  exact ⟨⟨v, h1.keep hB (by omega), own_grown h2 hg (fun r e => (hr r e).2)⟩, h.res.keep hB (by omega), h.below.trans (hB.mono (by omega)), Nat.le_trans h.size hg.size⟩
theorem dealRet {tmps : Array Value} {V : World} {g : Nat} (a b : Value) (e : Int) (hp : tmps.getD 4 undef = .pointer (some ⟨g, 0, none⟩)) (he : tmps.getD 5 undef = .int .i64 e) (hB : Blk V g 106 #[a, b]) :
    (results Tryd.f80 tmps).run Tryd.prog V = .ok (.tuple #[.agg #[a, b], .int .i64 e]) V := by
  have r0 : V.cell? ⟨g, 0, none⟩ = some a := hB.cell 0
  have r1 : V.cell? ⟨g, 1, none⟩ = some b := hB.cell 1
  simp only [Array.getD_eq_getD_getElem?] at hp he
  simp [results, Tryd.results80, go_sem, hp, he, r0, r1]
set_option maxRecDepth 100000 in
set_option maxHeartbeats 3200000 in
theorem agree_c (la ma : Int) (a : List Cp) (va : Value) (lb mb : Int) (b : List Cp) (vb : Value) (B : Nat) (w : World) (ha : CpR w B va a) (hb : CpR w B vb b) (hB : B ≤ w.heap.size) (na : NmOk a) (nb : NmOk b) (ala : a.length ≤ 1000) (alb : b.length ≤ 1000) :
    Calls Tryd.prog 80 #[.agg #[.int .i64 la, .int .i64 ma, va], .agg #[.int .i64 lb, .int .i64 mb, vb]] w (AgEnd la ma a lb mb b w) := by
  refine (callsIn_wide (n := 5)).1 ?_
  refine callsIn_of_wp_marks Tryd.func80 rfl trivial ?_ rfl
  simp only [Tryd.ntmps80, List.size_toArray, List.length_cons, List.length_nil, Nat.reduceAdd, Nat.reduceSub, Array.replicate_succ, Array.replicate_zero, List.push_toArray, List.append_toArray, List.nil_append, List.cons_append]
  obtain ⟨A, n, cap, rfl, hn, hnc, hcm⟩ := ha.form'
  obtain ⟨A', n', cap', rfl, hn', hnc', hcm'⟩ := hb.form'
  gi_wp2_with fail
  obtain ⟨W3, hW3⟩ : ∃ W3, ((w.alloc (.cells #[.int .i64 la, .int .i64 ma, .slice A n cap] 68)).alloc (.cells #[.int .i64 lb, .int .i64 mb, .slice A' n' cap'] 68)).alloc (.cells #[.int .i64 0, .slice none 0 0] 106) = W3 := ⟨_, rfl⟩
  have hz3 : W3.heap.size = w.heap.size + 3 := by rw [← hW3]; simp
  have hb3 : Below w.heap.size w W3 := by rw [← hW3]; exact (((Below.refl _ w).alloc (Nat.le_refl _) _).alloc (by simp) _).alloc (by simp; omega) _
  have k0 : Blk W3 w.heap.size 68 #[.int .i64 la, .int .i64 ma, .slice A n cap] := by rw [← hW3]; exact ((Blk.new w _ _).alloc _).alloc _
  have k1 : Blk W3 (w.heap.size + 1) 68 #[.int .i64 lb, .int .i64 mb, .slice A' n' cap'] := by
    rw [← hW3]
    have := Blk.new (w.alloc (.cells #[.int .i64 la, .int .i64 ma, .slice A n cap] 68)) 68 #[.int .i64 lb, .int .i64 mb, .slice A' n' cap']
    rw [World.size_alloc] at this
    exact this.alloc _
  have k2 : Blk W3 (w.heap.size + 2) 106 #[.int .i64 0, .slice none 0 0] := by
    rw [← hW3]
    have := Blk.new ((w.alloc (.cells #[.int .i64 la, .int .i64 ma, .slice A n cap] 68)).alloc (.cells #[.int .i64 lb, .int .i64 mb, .slice A' n' cap'] 68)) 106 #[.int .i64 0, .slice none 0 0]
    rw [World.size_alloc, World.size_alloc] at this
    exact this
  rw [hW3]
  clear hW3
  have HMA := Lib.hid (helMay_c la ma a _ B W3 (ha.below (hb3.mono hB)) (by omega) na ala)
  cases hma : helB la ma a with
  | false =>
    rw [hma] at HMA
    refine ⟨trivial, (callsIn_wide.2 HMA.out).mono ?_⟩
    rintro e W4 ⟨rfl, hb4⟩
    have hk2 := k2.keep hb4 (by omega)
    have g0 : W4.cell? ⟨w.heap.size + 2, 0, none⟩ = some (.int .i64 0) := hk2.cell 0
    have g1 : W4.cell? ⟨w.heap.size + 2, 1, none⟩ = some (.slice none 0 0) := hk2.cell 1
    have f0 := hk2.frozen 0
    have f1 := hk2.frozen 1
    have HK2 := Lib.hid hk2
    have HB4 : Hid (Below w.heap.size w W4) := Lib.hid (hb3.trans (hb4.mono (by omega)))
    clear hb4 hk2 k0 k1 k2 hb3
    gi_wp2
    refine ⟨trivial, ?_⟩
    gi_wp2
    have HV := Lib.hid ((HK2.out.set 0 (.int .i64 0)).set 1 (.slice none 0 0))
    refine ⟨_, dealRet _ _ _ (g := w.heap.size + 2) rfl rfl HV.out, ?_⟩
    refine ⟨(HB4.out.setCell (p := ⟨w.heap.size + 2, 0, none⟩) (by simp) _).setCell (p := ⟨w.heap.size + 2, 1, none⟩) (by simp) _, ?_⟩
    rw [if_neg (by rw [hma]; simp)]
  | true =>
    rw [hma] at HMA
    refine ⟨trivial, (callsIn_wide.2 HMA.out).mono ?_⟩
    rintro e W4 ⟨rfl, hb4⟩
    have hz4 := hb4.size
    have HB4 : Hid (Below w.heap.size w W4) := Lib.hid (hb3.trans (hb4.mono (by omega)))
    have HK0 : Hid (Blk W4 w.heap.size 68 #[.int .i64 la, .int .i64 ma, .slice A n cap]) := Lib.hid (k0.keep hb4 (by omega))
    have HK1 : Hid (Blk W4 (w.heap.size + 1) 68 #[.int .i64 lb, .int .i64 mb, .slice A' n' cap']) := Lib.hid (k1.keep hb4 (by omega))
    have HK2 : Hid (Blk W4 (w.heap.size + 2) 106 #[.int .i64 0, .slice none 0 0]) := Lib.hid (k2.keep hb4 (by omega))
    have HMB := Lib.hid (helMay_c lb mb b _ B W4 (hb.below (HB4.out.mono hB)) (by omega) nb alb)
    clear hb4 k0 k1 k2
    obtain ⟨p0, p1, p2, _⟩ := blk3 HK1.out
    gi_wp2_with fail
    cases hmb : helB lb mb b with
    | false =>
      rw [hmb] at HMB
      refine ⟨trivial, (callsIn_wide.2 HMB.out).mono ?_⟩
      rintro e W5 ⟨rfl, hb5⟩
      have HB5 : Hid (Below w.heap.size w W5) := Lib.hid (HB4.out.trans (hb5.mono HB4.out.size))
      have HK25 : Hid (Blk W5 (w.heap.size + 2) 106 #[.int .i64 0, .slice none 0 0]) := Lib.hid (HK2.out.keep hb5 HK2.out.lt)
      have HB4 := HB5
      have HK2 := HK25
      have g0 : W5.cell? ⟨w.heap.size + 2, 0, none⟩ = some (.int .i64 0) := HK2.out.cell 0
      have g1 : W5.cell? ⟨w.heap.size + 2, 1, none⟩ = some (.slice none 0 0) := HK2.out.cell 1
      have f0 := HK2.out.frozen 0
      have f1 := HK2.out.frozen 1
      clear hb5
      gi_wp2
      have HV := Lib.hid ((HK2.out.set 0 (.int .i64 0)).set 1 (.slice none 0 0))
      refine ⟨_, dealRet _ _ _ (g := w.heap.size + 2) rfl rfl HV.out, ?_⟩
      refine ⟨(HB4.out.setCell (p := ⟨w.heap.size + 2, 0, none⟩) (by simp) _).setCell (p := ⟨w.heap.size + 2, 1, none⟩) (by simp) _, ?_⟩
      rw [if_neg (by rw [hmb]; simp)]
    | true =>
      rw [hmb] at HMB
      refine ⟨trivial, (callsIn_wide.2 HMB.out).mono ?_⟩
      rintro e W5 ⟨rfl, hb5⟩
      have hz5 := hb5.size
      have HB5 : Hid (Below w.heap.size w W5) := Lib.hid (HB4.out.trans (hb5.mono HB4.out.size))
      have HK05 : Hid (Blk W5 w.heap.size 68 #[.int .i64 la, .int .i64 ma, .slice A n cap]) := Lib.hid (HK0.out.keep hb5 HK0.out.lt)
      have HK15 : Hid (Blk W5 (w.heap.size + 1) 68 #[.int .i64 lb, .int .i64 mb, .slice A' n' cap']) := Lib.hid (HK1.out.keep hb5 HK1.out.lt)
      have HK25 : Hid (Blk W5 (w.heap.size + 2) 106 #[.int .i64 0, .slice none 0 0]) := Lib.hid (HK2.out.keep hb5 HK2.out.lt)
      clear hb5 p0 p1 p2
      obtain ⟨q0, q1, q2, _⟩ := blk3 HK05.out
      obtain ⟨p0, p1, p2, _⟩ := blk3 HK15.out
      have g0 : W5.cell? ⟨w.heap.size + 2, 0, none⟩ = some (.int .i64 0) := HK25.out.cell 0
      have g1 : W5.cell? ⟨w.heap.size + 2, 1, none⟩ = some (.slice none 0 0) := HK25.out.cell 1
      have f0 := HK25.out.frozen 0
      have f1 := HK25.out.frozen 1
      have l5 : w.heap.size + 2 < W5.heap.size := by omega
      have l50 : w.heap.size < W5.heap.size := by omega
      have l51 : w.heap.size + 1 < W5.heap.size := by omega
      have hAe : ∀ (W : World) (e : Ending), AgEnd la ma a lb mb b w e W ↔ (Below w.heap.size w W ∧ if min ma mb < max la lb then e = .returned (.tuple #[.agg #[.int .i64 0, .slice none 0 0], .int .i64 7]) else ∃ v, e = .returned (.tuple #[.agg #[.int .i64 (min ma mb), v], .int .i64 0]) ∧ CpR W W.heap.size v (dealL (bothL a b))) := by
        intro W e
        unfold AgEnd
        rw [if_pos ⟨hma, hmb⟩]
      have HAE := Lib.hid hAe
      clear hAe
      by_cases hmin : min ma mb < max la lb
      · gi_wp2
        refine ⟨_, dealRet _ _ _ (g := w.heap.size + 2) rfl rfl (((HK25.out.set 0 (.int .i64 0)).set 1 (.slice none 0 0)).alloc _), ?_⟩
        refine (HAE.out _ _).2 ⟨((HB5.out.setCell (p := ⟨w.heap.size + 2, 0, none⟩) (by simp) _).setCell (p := ⟨w.heap.size + 2, 1, none⟩) (by simp) _).alloc (by simp [World.setCell]; omega) _, ?_⟩
        rw [if_pos hmin]
      · have hdm : decide (min ma mb < max la lb) = false := decide_eq_false hmin
        gi_wp2_with fail
        obtain ⟨s0, hs0⟩ : ∃ s0, W5.heap.size = s0 := ⟨_, rfl⟩
        obtain ⟨W6, hW6⟩ : ∃ W6, W5.alloc (.cells #[.int .i64 (min ma mb), .slice none 0 0] 106) = W6 := ⟨_, rfl⟩
        have hz6 : W6.heap.size = s0 + 1 := by rw [← hW6, World.size_alloc, hs0]
        have hb56 : Below W5.heap.size W5 W6 := by rw [← hW6]; exact (Below.refl _ W5).alloc (Nat.le_refl _) _
        have d6 : Blk W6 s0 106 #[.int .i64 (min ma mb), .slice none 0 0] := by rw [← hW6, ← hs0]; exact Blk.new W5 _ _
        rw [hW6, hs0]
        clear hW6
        refine ⟨trivial, (callsIn_wide.2 (bothF_c _ _ W6 _ _ _ _ _ _ rfl rfl)).mono ?_⟩
        rintro e W7 ⟨rfl, rfl⟩
        rw [hz6]
        gi_wp2_with fail
        obtain ⟨W0, hW0⟩ : ∃ W0, (W6.alloc (.cells #[.slice A n cap] 66)).alloc (.cells #[.slice A' n' cap'] 66) = W0 := ⟨_, rfl⟩
        have hzW : W0.heap.size = s0 + 3 := by rw [← hW0]; simp [hz6]
        have b0 : Blk W0 (s0 + 1) 66 #[.slice A n cap] := by rw [← hW0, ← hz6]; exact (Blk.new W6 _ _).alloc _
        have b1 : Blk W0 (s0 + 1 + 1) 66 #[.slice A' n' cap'] := by
          rw [← hW0, ← hz6]; have := Blk.new (W6.alloc (.cells #[.slice A n cap] 66)) 66 #[.slice A' n' cap']; simpa using this
        have hb60 : Below W6.heap.size W6 W0 := by rw [← hW0]; exact ((Below.refl _ W6).alloc (Nat.le_refl _) _).alloc (by simp) _
        have hbw : Below w.heap.size w W0 := (HB5.out.trans (hb56.mono (by omega))).trans (hb60.mono (by omega))
        rw [hW0]
        have hs0w : w.heap.size + 3 ≤ s0 := by omega
        refine wpIn_rangeFunc_ownH rfl (by omega) (gf := 157) (lb := #[.pointer (some ⟨s0 + 1, 0, none⟩), .pointer (some ⟨s0 + 1 + 1, 0, none⟩)]) rfl trivial (enters_of Tryd.func157 (by kernel_rfl) rfl)
          (both_stops _ (s0 + 1) w.heap.size a b _ _ W0 b0 b1 ((ha.below (hbw.mono hB)).mono hB) ((hb.below (hbw.mono hB)).mono hB) ala alb (by omega)) (fun h k => h.trans k) ?kb (Below.refl _ _) (fun _ => rfl) (AgInv (min ma mb) w s0) (fun _ _ _ => False) ?hI ?hIx ?h0
          (fun x a' W => ∃ Bx, s0 + 3 ≤ Bx ∧ Blk W Bx 104 #[.string x.1, .int .i64 x.2] ∧ a' = { tmps := #[.agg #[.int .i64 la, .int .i64 ma, .slice A n cap], .agg #[.int .i64 lb, .int .i64 mb, .slice A' n' cap'], .pointer (some ⟨w.heap.size, 0, none⟩), .pointer (some ⟨w.heap.size + 1, 0, none⟩), .pointer (some ⟨w.heap.size + 1 + 1, 0, none⟩), .int .i64 0, .pointer (some ⟨s0, 0, none⟩), .pointer (some ⟨Bx, 0, none⟩), undef, .agg #[.int .i64 la, .int .i64 ma, .slice A n cap], .bool true, .bool false, .bool false, .agg #[.int .i64 lb, .int .i64 mb, .slice A' n' cap'], .bool true, .bool false, .bool false, undef, .pointer (some ⟨w.heap.size, 1, none⟩), .int .i64 ma, .pointer (some ⟨w.heap.size + 1, 1, none⟩), .int .i64 mb, .int .i64 (min ma mb), .agg #[.int .i64 (min ma mb), .slice none 0 0], .pointer (some ⟨s0, 0, none⟩), .int .i64 (min ma mb), .pointer (some ⟨w.heap.size, 0, none⟩), .int .i64 la, .pointer (some ⟨w.heap.size + 1, 0, none⟩), .int .i64 lb, .int .i64 (max la lb), .bool false, undef, .pointer (some ⟨w.heap.size, 2, none⟩), .slice A n cap, .pointer (some ⟨w.heap.size + 1, 2, none⟩), .slice A' n' cap', .func (.func 157) #[] #[.pointer (some ⟨s0 + 1, 0, none⟩), .pointer (some ⟨s0 + 1 + 1, 0, none⟩)], .agg #[.string x.1, .int .i64 x.2], undef, undef, undef, undef, undef, undef, undef, undef, undef, undef, undef, undef, undef, undef, undef, undef, undef, undef, undef, undef, undef, undef, undef, undef, undef, undef, undef, undef, undef], defers := [] }) ?hAx ?assign ?body ?done ?stop
        case kb => exact fun W l o o' hl h _ _ => KeepC.below (belowK_b (n₀ := W0.heap.size) (Nat.le_refl _) W l o o' hl h ‹_› ‹_›) (by omega) (by omega)
        case hI => exact fun pre W W' row hs hg hr => hs.grown hs0w hg (fun r e => by have := hr r e; rw [hzW] at this; exact this)
        case hIx => exact fun _ _ _ _ _ h _ _ => h
        case h0 => exact ⟨⟨.slice none 0 0, d6.keep hb60 (by omega), World.ownsRow_nil _ _ _ _⟩, (HK25.out.keep hb56 (by omega)).keep hb60 (by omega), hbw, by omega⟩
        case hAx =>
          intro x a' u W W' row hs hg hr
          obtain ⟨Bx, h1, h2, h3⟩ := hs
          refine ⟨Bx, h1, (hg.block Bx h2.lt (fun e => ?_)).trans h2, h3⟩
          obtain ⟨_, o, ho, hc⟩ := hr Bx e.symm
          rw [show W.heap[Bx]? = some _ from h2] at ho
          injection ho with ho
          subst ho
          cases hc
        case assign =>
          intro l pre x W K hI hK
          simp only [encC]
          gi_wp2
          exact hK _ _ ((KeepsOthers.alloc _ _).from _) (KeepC.below ((Below.refl _ W).alloc (Nat.le_refl _) _) (by have := hI.size; omega) (by have := hI.size; omega)) (hI.grown hs0w (grown_of_below ((Below.refl _ W).alloc (Nat.le_refl _) _)) (fun r e => by cases e)) ⟨W.heap.size, hI.size, Blk.new W _ _, rfl⟩
        case body =>
          intro l pre x a' W hl hr hI hAx hlen
          obtain ⟨Bx, hBx, hbx, rfl⟩ := hAx
          obtain ⟨v, hd, ho⟩ := hI.row
          obtain ⟨x1, x2⟩ := x
          have HD1 : Hid (dealL (pre ++ [(x1, x2)]) = dealStep (dealL pre) (x1, x2)) := Lib.hid (dealL_snoc _ _)
          have hdl := dealL_len pre
          have HBX := Lib.hid hbx
          have HDB := Lib.hid hd
          have HI := Lib.hid hI
          have HO := Lib.hid ho
          generalize dealL pre = D at *
          obtain ⟨k, hk⟩ : ∃ k, D.length = k := ⟨_, rfl⟩
          have HKL := Lib.hid hk
          rw [hk] at ho hdl HO
          obtain ⟨AD, capD, rfl, hkc, hcD, hsome⟩ := own_form' ho
          have c0 : W.cell? ⟨Bx, 0, none⟩ = some (.string x1) := hbx.cell 0
          have c1 : W.cell? ⟨Bx, 1, none⟩ = some (.int .i64 x2) := hbx.cell 1
          have m0 : W.cell? ⟨s0, 0, none⟩ = some (.int .i64 (min ma mb)) := hd.cell 0
          have m1 : W.cell? ⟨s0, 1, none⟩ = some (.slice AD k capD) := hd.cell 1
          have hsz := hI.size
          have hbxl := hbx.lt
          have hk1000 : k ≤ 1001 := by omega
          clear hbx hd hI ho hk
          obtain ⟨i0, hi, hz0, hz1, hz2⟩ := info_parts info_cap
          by_cases hk0 : k = 0
          · subst hk0
            have HST : Hid (dealStep D (x1, x2) = D ++ [(x1, x2)]) := Lib.hid (by rw [List.eq_nil_of_length_eq_zero HKL.out]; simp [dealStep])
            rw [HST.out] at HD1
            gi_wp2
            refine wpIn_region_quiet_round l rfl (by kernel_rfl) (by kernel_rfl) (by kernel_rfl) ?_
            repeat (gi_big_quiet_step (fail))
            refine wpQuietIn_nil ?_
            intro _ hw'
            obtain ⟨nq, hw''⟩ := hw'
            subst hw''
            obtain ⟨wq, hwq⟩ : ∃ wq, W.drewN nq = wq := ⟨_, rfl⟩
            have hzq : wq.heap.size = W.heap.size := by rw [← hwq]; rfl
            have hhq : wq.heap = W.heap := by rw [← hwq]; rfl
            have hbq : Below W.heap.size W wq := by rw [← hwq]; exact (Below.refl _ W).drewN' nq
            have c0 : wq.cell? ⟨Bx, 0, none⟩ = some (.string x1) := by rw [← hwq]; exact c0
            have c1 : wq.cell? ⟨Bx, 1, none⟩ = some (.int .i64 x2) := by rw [← hwq]; exact c1
            have m1 := (show wq.cell? ⟨s0, 1, none⟩ = W.cell? ⟨s0, 1, none⟩ by rw [← hwq]; rfl).trans m1
            have HOQ := Lib.hid ((own_block HO.out (w' := wq) (fun k _ hk => hbq.block k hk)).alloc (.cells #[.string x1, .int .i64 x2] 104))
            have HDQ := Lib.hid ((HDB.out.keep hbq HDB.out.lt).alloc (.cells #[.string x1, .int .i64 x2] 104))
            have HBQ := Lib.hid (hbq.alloc (by omega) (.cells #[.string x1, .int .i64 x2] 104))
            have HKQ := Lib.hid ((show KeepsOthers W wq from ⟨by omega, fun k o h _ => by rw [hhq]; exact h⟩).trans (KeepsOthers.alloc wq (.cells #[.string x1, .int .i64 x2] 104)))
            rw [hwq]
            have hzq1 : W.heap.size ≤ wq.heap.size := by omega
            clear hwq hbq hhq hzq
            gi_wp2_with (gi_at_builtin; refine Hid.out ?_)
            refine Lib.hid ?_
            refine wpListIn_append_own _ (by rfl) (.tmp 62) (.tmp 64) 66 (by rfl) (s0 + 3) 104 i0 _ 2 24 Tryd.underlying66 hi hz0 hz1 hz2 rfl (by decide) _ 0 (cc D) (by rfl) HOQ.out ⟨wq.heap.size, 0, none⟩ 1 1 [.string x1, .int .i64 x2] (by rfl) (by rfl) (World.news_of_block (heap_alloc_new wq (.cells #[.string x1, .int .i64 x2] 104))) (by simp [Value.oneCell']) (by simp only [maxLen]; omega) (by omega) (by simp; omega) ?_
            intro v' w1 hown' hgrow hnil'
            obtain ⟨A1, cap1, hv1, hk1c, hcm1, _⟩ := own_form' hown'
            subst hv1
            have hs0g : w.heap.size + 2 < s0 := by omega
            have hd1 : Blk w1 s0 106 _ := HDQ.out.grown hgrow (by
              intro e
              have := own_ge HOQ.out s0 e
              omega)
            have f9 := hd1.frozen 1
            have m9 := hd1.cell 1
            have hz1' := hgrow.size
            simp only [World.size_alloc] at hz1'
            have HFIN : Hid (KeepsFrom W0.heap.size W (w1.setCell ⟨s0, 1, none⟩ (.slice A1 (0 + 1) cap1)) ∧ KeepC w.heap.size (s0 + 1) W (w1.setCell ⟨s0, 1, none⟩ (.slice A1 (0 + 1) cap1)) ∧ AgInv (min ma mb) w s0 (pre ++ [(x1, x2)]) (w1.setCell ⟨s0, 1, none⟩ (.slice A1 (0 + 1) cap1))) := Lib.hid (by
              have hblk : ∀ j, j < s0 + 3 → w1.heap[j]? = W.heap[j]? := by
                intro j hj
                refine (hgrow.block j (by simp; omega) ?_).trans (HBQ.out.block j (by omega))
                intro e
                have := own_ge HOQ.out j e.symm
                omega
              have hko : KeepsOthers (wq.alloc (.cells #[.string x1, .int .i64 x2] 104)) w1 := KeepsOthers.of_grownBy hgrow (fun j o e ho => own_iscells HOQ.out e ho)
              refine ⟨((HKQ.out.trans hko).trans (KeepsOthers.setCell _ _ _)).from _, ⟨fun j hj => (Below.heap_setCell _ _ _ _ (by simp; omega)).trans (hblk j (by omega)), (Below.heap_setCell _ _ _ _ (by simp)).trans (hblk _ (by omega)), (Below.heap_setCell _ _ _ _ (by show s0 + 1 + 1 ≠ s0; omega)).trans (hblk _ (by omega))⟩, ?_⟩
              refine ⟨⟨.slice A1 (0 + 1) cap1, ?_, ?_⟩, ?_, ?_, ?_⟩
              · exact hd1.set 1 _
              · rw [HD1.out, cc_append, cc_one, List.length_append, HKL.out]
                exact own_block hown' (fun j hj _ => Below.heap_setCell _ _ _ _ (by simp; omega))
              · exact (Below.heap_setCell _ _ _ _ (by simp; omega)).trans ((hblk _ (by omega)).trans HI.out.res)
              · refine Below.setCell ?_ (p := ⟨s0, 1, none⟩) (by simp; omega) _
                exact HI.out.below.trans ⟨(hgrow.os).trans HBQ.out.os, (hgrow.tape).trans HBQ.out.tape, (hgrow.output).trans HBQ.out.output, by omega, fun j hj => hblk j (by omega)⟩
              · simp [World.setCell]; omega)
            clear hown' hgrow hnil' hd1
            gi_wp2
            exact HFIN.out
          · obtain ⟨g, rfl⟩ := hsome hk0
            obtain ⟨hcl, hfz, hgs, hgl⟩ := own_cell HO.out
            have hkD : k - 1 < D.length := by rw [HKL.out]; omega
            have hat := cc_at D (k - 1) hkD
            have e0 := hcl _ _ hat.1
            have e1 := hcl _ _ hat.2
            have HGD : Hid (D.getD (D.length - 1) (⟨#[]⟩, 0) = D[k - 1]) := Lib.hid (by simp only [HKL.out]; rw [List.getD_eq_getElem?_getD, List.getElem?_eq_getElem hkD]; rfl)
            obtain ⟨y, hy⟩ : ∃ y, D[k - 1] = y := ⟨_, rfl⟩
            rw [hy] at e0 e1 HGD
            obtain ⟨y1, y2⟩ := y
            simp only at e0 e1
            have f0 := hfz ((k - 1) * 2)
            have f1 := hfz ((k - 1) * 2 + 1)
            have hkn : ((k : Int) - 1).toNat = k - 1 := by omega
            have k1 : (0 : Int) ≤ (k : Int) - 1 := by omega
            have k2 : (k : Int) - 1 < k := by omega
            have k3 : (1 : Int) ≤ k := by omega
            have k4 : decide ((0 : Int) ≤ (k : Int) - 1) = true := decide_eq_true k1
            have k5 : 1 ≤ k := by omega
            have kw : IntKind.i64.wrap ((k : Int) - 1) = (k : Int) - 1 := IntWalk.i64_in _ (by omega)
            clear hcl hfz hat hy hkD
            rcases str_ways y1 x1 with ⟨hyx, q1, q2⟩ | ⟨hyx, q1, q2⟩
            · have HST : Hid (dealStep D (x1, x2) = D.set (k - 1) (x1, x2)) := Lib.hid (by
                have hne : D ≠ [] := fun e => by rw [e] at HKL; have := HKL.out; simp at this; omega
                unfold dealStep
                rw [HGD.out, if_pos ⟨hne, hyx⟩, HKL.out])
              rw [HST.out] at HD1
              clear hyx
              gi_wp2
              refine wpIn_region_quiet_round l rfl (by kernel_rfl) (by kernel_rfl) (by kernel_rfl) ?_
              repeat (gi_big_quiet_step (fail))
              refine wpQuietIn_nil ?_
              intro _ hw'
              obtain ⟨nq, hw''⟩ := hw'
              subst hw''
              obtain ⟨wq, hwq⟩ : ∃ wq, W.drewN nq = wq := ⟨_, rfl⟩
              have hhq : wq.heap = W.heap := by rw [← hwq]; rfl
              have hbq : Below W.heap.size W wq := by rw [← hwq]; exact (Below.refl _ W).drewN' nq
              have c0 : wq.cell? ⟨Bx, 0, none⟩ = some (.string x1) := by rw [← hwq]; exact c0
              have c1 : wq.cell? ⟨Bx, 1, none⟩ = some (.int .i64 x2) := by rw [← hwq]; exact c1
              have m1 := (show wq.cell? ⟨s0, 1, none⟩ = W.cell? ⟨s0, 1, none⟩ by rw [← hwq]; rfl).trans m1
              have e0 := (show wq.cell? ⟨g, (k - 1) * 2, none⟩ = W.cell? ⟨g, (k - 1) * 2, none⟩ by rw [← hwq]; rfl).trans e0
              have e1 := (show wq.cell? ⟨g, (k - 1) * 2 + 1, none⟩ = W.cell? ⟨g, (k - 1) * 2 + 1, none⟩ by rw [← hwq]; rfl).trans e1
              have f0 := (show wq.frozen? ⟨g, (k - 1) * 2, none⟩ = W.frozen? ⟨g, (k - 1) * 2, none⟩ by rw [← hwq]; rfl).trans f0
              have f1 := (show wq.frozen? ⟨g, (k - 1) * 2 + 1, none⟩ = W.frozen? ⟨g, (k - 1) * 2 + 1, none⟩ by rw [← hwq]; rfl).trans f1
              rw [hwq]
              have HFIN : Hid (KeepsFrom W0.heap.size W ((wq.setCell ⟨g, (k - 1) * 2, none⟩ (.string x1)).setCell ⟨g, (k - 1) * 2 + 1, none⟩ (.int .i64 x2)) ∧ KeepC w.heap.size (s0 + 1) W ((wq.setCell ⟨g, (k - 1) * 2, none⟩ (.string x1)).setCell ⟨g, (k - 1) * 2 + 1, none⟩ (.int .i64 x2)) ∧ AgInv (min ma mb) w s0 (pre ++ [(x1, x2)]) ((wq.setCell ⟨g, (k - 1) * 2, none⟩ (.string x1)).setCell ⟨g, (k - 1) * 2 + 1, none⟩ (.int .i64 x2))) := Lib.hid (by
                have hblk : ∀ j, j < s0 + 3 → ((wq.setCell ⟨g, (k - 1) * 2, none⟩ (.string x1)).setCell ⟨g, (k - 1) * 2 + 1, none⟩ (.int .i64 x2)).heap[j]? = W.heap[j]? := by
                  intro j hj
                  refine (Below.heap_setCell _ _ _ _ (by show j ≠ g; omega)).trans ((Below.heap_setCell _ _ _ _ (by show j ≠ g; omega)).trans ?_)
                  rw [hhq]
                have hsz' : ((wq.setCell ⟨g, (k - 1) * 2, none⟩ (.string x1)).setCell ⟨g, (k - 1) * 2 + 1, none⟩ (.int .i64 x2)).heap.size = W.heap.size := by simp [World.setCell, hhq]
                have hoq : wq.ownsRow (s0 + 3) 104 2 (.slice (some ⟨g, 0, none⟩) k capD) k (cc D) := own_block HO.out (fun j _ _ => by rw [hhq])
                refine ⟨(((show KeepsOthers W wq from ⟨by rw [hhq]; exact Nat.le_refl _, fun k o h _ => by rw [hhq]; exact h⟩).trans (KeepsOthers.setCell _ _ _)).trans (KeepsOthers.setCell _ _ _)).from _, ⟨fun j hj => hblk j (by omega), hblk _ (by omega), hblk _ (by omega)⟩, ?_⟩
                refine ⟨⟨.slice (some ⟨g, 0, none⟩) k capD, (hblk s0 (by omega)).trans HDB.out, ?_⟩, (hblk _ (by omega)).trans HI.out.res, ?_, by omega⟩
                · rw [HD1.out, cc_set D (k - 1) (x1, x2) (by rw [HKL.out]; omega), List.length_set, HKL.out]
                  exact own_store (own_store hoq _ (by omega) _) _ (by omega) _
                · exact HI.out.below.trans ⟨hbq.os, hbq.tape, hbq.output, by omega, fun j hj => hblk j (by omega)⟩)
              clear hwq hhq hbq
              gi_wp2
              exact HFIN.out
            · have HST : Hid (dealStep D (x1, x2) = D ++ [(x1, x2)]) := Lib.hid (by
                unfold dealStep
                rw [HGD.out, if_neg (fun h => hyx h.2)])
              rw [HST.out] at HD1
              clear hyx
              gi_wp2
              refine wpIn_region_quiet_round l rfl (by kernel_rfl) (by kernel_rfl) (by kernel_rfl) ?_
              repeat (gi_big_quiet_step (fail))
              refine wpQuietIn_nil ?_
              intro _ hw'
              obtain ⟨nq, hw''⟩ := hw'
              subst hw''
              obtain ⟨wq, hwq⟩ : ∃ wq, W.drewN nq = wq := ⟨_, rfl⟩
              have hzq : wq.heap.size = W.heap.size := by rw [← hwq]; rfl
              have hhq : wq.heap = W.heap := by rw [← hwq]; rfl
              have hbq : Below W.heap.size W wq := by rw [← hwq]; exact (Below.refl _ W).drewN' nq
              have c0 : wq.cell? ⟨Bx, 0, none⟩ = some (.string x1) := by rw [← hwq]; exact c0
              have c1 : wq.cell? ⟨Bx, 1, none⟩ = some (.int .i64 x2) := by rw [← hwq]; exact c1
              have m1 := (show wq.cell? ⟨s0, 1, none⟩ = W.cell? ⟨s0, 1, none⟩ by rw [← hwq]; rfl).trans m1
              have HOQ := Lib.hid ((own_block HO.out (w' := wq) (fun k _ hk => hbq.block k hk)).alloc (.cells #[.string x1, .int .i64 x2] 104))
              have HDQ := Lib.hid ((HDB.out.keep hbq HDB.out.lt).alloc (.cells #[.string x1, .int .i64 x2] 104))
              have HBQ := Lib.hid (hbq.alloc (by omega) (.cells #[.string x1, .int .i64 x2] 104))
              have HKQ := Lib.hid ((show KeepsOthers W wq from ⟨by omega, fun k o h _ => by rw [hhq]; exact h⟩).trans (KeepsOthers.alloc wq (.cells #[.string x1, .int .i64 x2] 104)))
              rw [hwq]
              have hzq1 : W.heap.size ≤ wq.heap.size := by omega
              clear hwq hbq hhq hzq
              gi_wp2_with (gi_at_builtin; refine Hid.out ?_)
              refine Lib.hid ?_
              refine wpListIn_append_own _ (by rfl) (.tmp 62) (.tmp 64) 66 (by rfl) (s0 + 3) 104 i0 _ 2 24 Tryd.underlying66 hi hz0 hz1 hz2 rfl (by decide) _ k (cc D) (by rfl) HOQ.out ⟨wq.heap.size, 0, none⟩ 1 1 [.string x1, .int .i64 x2] (by rfl) (by rfl) (World.news_of_block (heap_alloc_new wq (.cells #[.string x1, .int .i64 x2] 104))) (by simp [Value.oneCell']) (by simp only [maxLen]; omega) (by omega) (by simp; omega) ?_
              intro v' w1 hown' hgrow hnil'
              obtain ⟨A1, cap1, hv1, hk1c, hcm1, _⟩ := own_form' hown'
              subst hv1
              have hs0g : w.heap.size + 2 < s0 := by omega
              have hd1 : Blk w1 s0 106 _ := HDQ.out.grown hgrow (by
                intro e
                have := own_ge HOQ.out s0 e
                omega)
              have f9 := hd1.frozen 1
              have m9 := hd1.cell 1
              have hz1' := hgrow.size
              simp only [World.size_alloc] at hz1'
              have HFIN : Hid (KeepsFrom W0.heap.size W (w1.setCell ⟨s0, 1, none⟩ (.slice A1 (k + 1) cap1)) ∧ KeepC w.heap.size (s0 + 1) W (w1.setCell ⟨s0, 1, none⟩ (.slice A1 (k + 1) cap1)) ∧ AgInv (min ma mb) w s0 (pre ++ [(x1, x2)]) (w1.setCell ⟨s0, 1, none⟩ (.slice A1 (k + 1) cap1))) := Lib.hid (by
                have hblk : ∀ j, j < s0 + 3 → w1.heap[j]? = W.heap[j]? := by
                  intro j hj
                  refine (hgrow.block j (by simp; omega) ?_).trans (HBQ.out.block j (by omega))
                  intro e
                  have := own_ge HOQ.out j e.symm
                  omega
                have hko : KeepsOthers (wq.alloc (.cells #[.string x1, .int .i64 x2] 104)) w1 := KeepsOthers.of_grownBy hgrow (fun j o e ho => own_iscells HOQ.out e ho)
                refine ⟨((HKQ.out.trans hko).trans (KeepsOthers.setCell _ _ _)).from _, ⟨fun j hj => (Below.heap_setCell _ _ _ _ (by simp; omega)).trans (hblk j (by omega)), (Below.heap_setCell _ _ _ _ (by simp)).trans (hblk _ (by omega)), (Below.heap_setCell _ _ _ _ (by show s0 + 1 + 1 ≠ s0; omega)).trans (hblk _ (by omega))⟩, ?_⟩
                refine ⟨⟨.slice A1 (k + 1) cap1, ?_, ?_⟩, ?_, ?_, ?_⟩
                · exact hd1.set 1 _
                · rw [HD1.out, cc_append, cc_one, List.length_append, HKL.out]
                  exact own_block hown' (fun j hj _ => Below.heap_setCell _ _ _ _ (by simp; omega))
                · exact (Below.heap_setCell _ _ _ _ (by simp; omega)).trans ((hblk _ (by omega)).trans HI.out.res)
                · refine Below.setCell ?_ (p := ⟨s0, 1, none⟩) (by simp; omega) _
                  exact HI.out.below.trans ⟨(hgrow.os).trans HBQ.out.os, (hgrow.tape).trans HBQ.out.tape, (hgrow.output).trans HBQ.out.output, by omega, fun j hj => hblk j (by omega)⟩
                · simp [World.setCell]; omega)
              clear hown' hgrow hnil' hd1
              gi_wp2
              exact HFIN.out
        case stop => exact fun D c pre W _ _ h _ => h.elim
        case done =>
          rintro D ys W hD rfl hI hK
          obtain ⟨v, hd, ho⟩ := hI.row
          obtain ⟨AD, capD, rfl, hkc, hcD, _⟩ := own_form' ho
          have HDL := Lib.hid ho
          have m0 : W.cell? ⟨s0, 0, none⟩ = some (.int .i64 (min ma mb)) := hd.cell 0
          have m1 : W.cell? ⟨s0, 1, none⟩ = some (.slice AD (dealL (bothL a b)).length capD) := hd.cell 1
          have g0 : W.cell? ⟨w.heap.size + 2, 0, none⟩ = some (.int .i64 0) := hI.res.cell 0
          have g1 : W.cell? ⟨w.heap.size + 2, 1, none⟩ = some (.slice none 0 0) := hI.res.cell 1
          have f0 := hI.res.frozen 0
          have f1 := hI.res.frozen 1
          have HI := Lib.hid hI
          clear hI hd ho
          gi_wp2
          obtain ⟨V, hV⟩ : ∃ V, (W.setCell ⟨w.heap.size + 1 + 1, 0, none⟩ (.int .i64 (min ma mb))).setCell ⟨w.heap.size + 1 + 1, 1, none⟩ (.slice AD (dealL (bothL a b)).length capD) = V := ⟨_, rfl⟩
          have gV : Blk V (w.heap.size + 2) 106 #[.int .i64 (min ma mb), .slice AD (dealL (bothL a b)).length capD] := by rw [← hV]; exact (HI.out.res.set 0 _).set 1 _
          have hKV : V.heap[D]? = some (.deferred (some [])) := by rw [← hV]; exact (KeepsOthers.setCell _ _ _).same D _ ((KeepsOthers.setCell _ _ _).same D _ hK rfl) rfl
          have hBV : Below w.heap.size w V := by rw [← hV]; exact (HI.out.below.setCell (p := ⟨w.heap.size + 2, 0, none⟩) (by simp) _).setCell (p := ⟨w.heap.size + 2, 1, none⟩) (by simp) _
          have hoV : V.ownsRow (s0 + 3) 104 2 (.slice AD (dealL (bothL a b)).length capD) (dealL (bothL a b)).length (cc (dealL (bothL a b))) := by
            rw [← hV]
            exact own_block HDL.out (fun j hj _ => (Below.heap_setCell _ _ _ _ (by show j ≠ w.heap.size + 1 + 1; omega)).trans (Below.heap_setCell _ _ _ _ (by show j ≠ w.heap.size + 1 + 1; omega)))
          have hzV : s0 + 3 ≤ V.heap.size := by have := HI.out.size; rw [← hV]; simp [World.setCell]; omega
          rw [hV]
          have hb9 := belowK_b (w := W0) (n₀ := s0 + 3) (by omega) V D _ (.deferred none) hD hKV rfl rfl
          have hoU := own_grown hoV (grownBy_putObj' V D (.deferred none)) (fun r e => by cases e; exact ⟨_, hKV, rfl⟩)
          refine ⟨by simp, .inl ⟨_, _, rfl, run_takeDeferred hKV, ?_⟩⟩
          refine ⟨_, dealRet _ _ _ (g := w.heap.size + 2) rfl rfl (gV.keep hb9 (by omega)), ?_⟩
          refine (HAE.out _ _).2 ⟨hBV.trans (hb9.mono (by omega)), ?_⟩
          rw [if_neg (by omega)]
          exact ⟨_, rfl, CpR.of_own hoU⟩
end Go.Proofs.YtacikiambpfipaaDoor
