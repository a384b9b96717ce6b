/- What is put is got again, and what is got is put as it was: hellos, plain. -/
/- hatchwaylaw32.caps, plain. -/
/- The law's same of hellos, of equal ones. -/
/- A drawn region whose operations only read, whose calls may make memory of their own: one walk, the class of worlds being 'what lies below stands'. No program in sight. -/
/- hatchwaylaw32.Of. -/
/- A region that only reads, inside a round of a range over a function. Own law; no program in sight. -/
import Derived.Test.YtacikiambpfipaaDoorKHelGet
import Derived.Test.YtacikiambpfipaaDoorKA9
import Derived.Deep.AppendLies
import Derived.Deep.RegionLaw
import Derived.Test.YtacikiambpfipaaDoorKCapS
import Derived.Test.YtacikiambpfipaaDoorKA10
import Derived.Deep.Quiet
import Derived.Below
import Derived.Deep.RegionHeld3
import Derived.Test.YtacikiambpfipaaDoorKA8
import Derived.Sort.QuietIn
namespace Go.Proofs.YtacikiambpfipaaDoor
set_option linter.unusedVariables false
set_option linter.unusedSimpArgs false
open Go.RowKit

theorem hel_put_get {l m : Int} {cs : List Cp} (h : helB l m cs = true) (s : ByteArray) (hs : s = ⟨(helIt l m cs).rlp.toArray⟩) : s.size ≤ 20000 ∧ hGetE s = 0 ∧ hGetL s = l ∧ hGetM s = m ∧ hGetC s = cs := by
  have hd : s.data.toList = (helIt l m cs).rlp := by rw [hs]
  have hsz : s.size ≤ 20000 := by rw [← toList_size, hd]; exact helIt_rlp h
  have hl := (helB_parts h).2.2.2.1
  obtain ⟨g1, g2⟩ := getE_put 16 1024 _ (helIt_caps hl) s hd (by omega)
  obtain ⟨r1, r2, r3, r4⟩ := helIt_read h
  obtain ⟨k1, k2, k3, k4⟩ := hGet_ok (s := s) g1 (by rw [g2]; exact r1) (by rw [g2, r2, r3, r4]; exact h)
  rw [g2] at k2 k3 k4
  exact ⟨hsz, k1, by rw [k2, r2], by rw [k3, r3], by rw [k4, r4]⟩
theorem hel_get_put {s : ByteArray} (h : hGetE s = 0) : helB (hGetL s) (hGetM s) (hGetC s) = true ∧ (⟨(helIt (hGetL s) (hGetM s) (hGetC s)).rlp.toArray⟩ : ByteArray) = s := by
  have hn : ¬ (getE 16 1024 s ≠ 0 ∨ hOk (getX 16 1024 s) = false ∨ helB (hL (getX 16 1024 s)) (hM (getX 16 1024 s)) (hC (getX 16 1024 s)) = false) := fun hb => by
    have := (hGet_bad hb).1
    rw [h] at this; cases this
  have g0 : getE 16 1024 s = 0 := by
    by_cases e : getE 16 1024 s = 0
    · exact e
    · exact absurd (.inl e) hn
  have g1 : hOk (getX 16 1024 s) = true := by
    cases e : hOk (getX 16 1024 s) with
    | true => rfl
    | false => exact absurd (.inr (.inl e)) hn
  have g2 : helB (hL (getX 16 1024 s)) (hM (getX 16 1024 s)) (hC (getX 16 1024 s)) = true := by
    cases e : helB (hL (getX 16 1024 s)) (hM (getX 16 1024 s)) (hC (getX 16 1024 s)) with
    | true => rfl
    | false => exact absurd (.inr (.inr e)) hn
  obtain ⟨_, k2, k3, k4⟩ := hGet_ok g0 g1 g2
  have hp := put_getE 16 1024 s g0
  have hm := ((capsE_zero _ _ _).1 hp.1).1
  have hr := read_helIt ((may_parts _).1 hm).1 g1 g2
  rw [k2, k3, k4]
  refine ⟨g2, ?_⟩
  rw [← hr, hp.2]
end Go.Proofs.YtacikiambpfipaaDoor
namespace Go.Proofs.YtacikiambpfipaaDoor
set_option linter.unusedVariables false
set_option linter.unusedSimpArgs false
open Go.RowKit

/-- A new row of these capabilities. -/
def NewCaps (E : TypeId) (l : List Cp) (w : World) (e : Ending) (w' : World) : Prop := Below w.heap.size w w' ∧ ∃ v, e = .returned v ∧ w'.ownsRow w.heap.size E 2 v l.length (cc l)
theorem take_cp (l : List Cp) (k : Nat) (h : k < l.length) : l.take (k + 1) = l.take k ++ [l[k]] := List.take_succ_eq_append_getElem h
theorem newsD {w : World} {g : Nat} {cs : Array Value} {t : TypeId} (hg : g = w.heap.size) : ∀ j u, cs.toList[j]? = some u → (w.alloc (.cells cs t)).drew.cell? ((⟨g, 0, none⟩ : Addr).add j) = some u := by
  subst hg
  exact fun j u h => World.news_of_block (heap_alloc_new w (.cells cs t)) j u h
set_option maxRecDepth 100000 in
set_option maxHeartbeats 1600000 in
theorem lcaps_c (l : List Cp) (v : Value) (B : Nat) (w : World) (h : CpR w B v l) (hB : B ≤ w.heap.size) (hl : l.length ≤ 1000) :
    Calls Tryd.prog 86 #[v] w (NewCaps 104 l w) := by
  obtain ⟨i0, hi, hz0, hz1, hz2⟩ := info_parts info_cap
  obtain ⟨A, n, cap, rfl, hn, hnc, hcm⟩ := h.form'
  have hn1 : n ≤ 1000 := by rw [hn.out]; exact hl
  have HC := Lib.hid h
  clear h
  go_enter Tryd.func86, Tryd.ntmps86
  go_wp2_with fail
  go_loopw [3, 4] (fun b i wr => ∃ k : Nat, k ≤ n ∧ i = .int .i64 k ∧ Below w.heap.size w wr ∧ wr.ownsRow w.heap.size 104 2 b k (cc (l.take k))) (fun _ i _ => n - (intOf i).toNat)
  case atStart => exact ⟨0, by omega, rfl, Below.refl _ _, World.ownsRow_nil _ _ _ _⟩
  case round =>
    obtain ⟨k, hk, rfl, hb, hown⟩ := hrel
    have hwz := hb.size
    obtain ⟨A2, cap2, rfl, hk2, hc2, _⟩ := own_form' hown
    by_cases hlt : k < n
    · have hkl : k < l.length := by rw [← hn.out]; exact hlt
      obtain ⟨g, o, rfl, hg, e0, e1⟩ := (HC.out.below (hb.mono hB)).at_ hkl
      have HT := Lib.hid (take_cp l k hkl)
      obtain ⟨c, hc⟩ : ∃ c, l[k] = c := ⟨_, rfl⟩
      rw [hc] at e0 e1 HT
      obtain ⟨x1, x2⟩ := c
      simp only at e0 e1
      clear hc hkl
      have HO := Lib.hid hown
      have HB := Lib.hid hb
      clear hown hb
      go_wp2_with fail
      have j0 : (k : Int) < (n : Int) := by omega
      go_region_law (refine step_append_lies _ (by rfl) (.tmp 11) (.tmp 23) 66 (by rfl) w.heap.size 104 i0 _ 2 24 Tryd.underlying66 hi hz0 hz1 hz2 (by rfl) (by decide) _ k (cc (l.take k)) (by rfl) ((HO.out.alloc _).drew) ⟨wr.heap.size, 0, none⟩ 1 1 [.string x1, .int .i64 x2] (by rfl) (by rfl) (newsD (by rfl)) (by simp [Value.oneCell']) (by omega) (by simp only [maxLen]; omega) (by omega) (by simp; omega) _ rfl ?_; intro g1 cap1 w1 hown1 hgrow1 hat1 hlt1)
      all_goals
        have HO1 : Hid (w1.ownsRow w.heap.size 104 2 (.slice (some ⟨g1, 0, none⟩) (k + 1) cap1) (k + 1) (cc (l.take (k + 1)))) := Lib.hid (by rw [HT.out, cc_append, cc_one]; exact hown1)
        have HB1 : Hid (Below w.heap.size w w1) := Lib.hid ((((HB.out.alloc hwz _).drew)).grown hgrow1 (by simp; omega) (fun r e => (own_ge HO.out r e)))
        clear hown1 hgrow1 hat1
        go_wp2
        go_roundw
        case rel => exact ⟨k + 1, by omega, by go_num, HB1.out, HO1.out⟩
        case measure => simp [intOf]; omega
    · have HF : Hid (wr.ownsRow w.heap.size 104 2 (.slice A2 k cap2) l.length (cc l)) := Lib.hid (by
        have hkn : l.take k = l := List.take_of_length_le (by rw [← hn.out]; omega)
        have hkl : l.length = k := by rw [← hn.out]; omega
        rw [hkn] at hown
        rw [hkl]
        exact hown)
      go_wp2
      go_ret
      exact ⟨hb, _, rfl, HF.out⟩
set_option maxRecDepth 100000 in
set_option maxHeartbeats 1600000 in
theorem plain_c (l : List Cp) (v : Value) (B : Nat) (w : World) (h : CpR w B v l) (hB : B ≤ w.heap.size) (hl : l.length ≤ 1000) :
    Calls Tryd.prog 94 #[v] w (NewCaps 111 l w) := by
  obtain ⟨i0, hi, hz0, hz1, hz2⟩ := info_parts info_rcap
  obtain ⟨A, n, cap, rfl, hn, hnc, hcm⟩ := h.form'
  have hn1 : n ≤ 1000 := by rw [hn.out]; exact hl
  have HC := Lib.hid h
  clear h
  go_enter Tryd.func94, Tryd.ntmps94
  go_wp2_with fail
  go_loopw [3, 4] (fun b i wr => ∃ k : Nat, k ≤ n ∧ i = .int .i64 k ∧ Below w.heap.size w wr ∧ wr.ownsRow w.heap.size 111 2 b k (cc (l.take k))) (fun _ i _ => n - (intOf i).toNat)
  case atStart => exact ⟨0, by omega, rfl, Below.refl _ _, World.ownsRow_nil _ _ _ _⟩
  case round =>
    obtain ⟨k, hk, rfl, hb, hown⟩ := hrel
    have hwz := hb.size
    obtain ⟨A2, cap2, rfl, hk2, hc2, _⟩ := own_form' hown
    by_cases hlt : k < n
    · have hkl : k < l.length := by rw [← hn.out]; exact hlt
      obtain ⟨g, o, rfl, hg, e0, e1⟩ := (HC.out.below (hb.mono hB)).at_ hkl
      have HT := Lib.hid (take_cp l k hkl)
      obtain ⟨c, hc⟩ : ∃ c, l[k] = c := ⟨_, rfl⟩
      rw [hc] at e0 e1 HT
      obtain ⟨x1, x2⟩ := c
      simp only at e0 e1
      clear hc hkl
      have HO := Lib.hid hown
      have HB := Lib.hid hb
      clear hown hb
      go_wp2_with fail
      have j0 : (k : Int) < (n : Int) := by omega
      go_region_law (refine step_append_lies _ (by rfl) (.tmp 11) (.tmp 23) 61 (by rfl) w.heap.size 111 i0 _ 2 24 Tryd.underlying61 hi hz0 hz1 hz2 (by rfl) (by decide) _ k (cc (l.take k)) (by rfl) ((HO.out.alloc _).drew) ⟨wr.heap.size, 0, none⟩ 1 1 [.string x1, .int .i64 x2] (by rfl) (by rfl) (newsD (by rfl)) (by simp [Value.oneCell']) (by omega) (by simp only [maxLen]; omega) (by omega) (by simp; omega) _ rfl ?_; intro g1 cap1 w1 hown1 hgrow1 hat1 hlt1)
      all_goals
        have HO1 : Hid (w1.ownsRow w.heap.size 111 2 (.slice (some ⟨g1, 0, none⟩) (k + 1) cap1) (k + 1) (cc (l.take (k + 1)))) := Lib.hid (by rw [HT.out, cc_append, cc_one]; exact hown1)
        have HB1 : Hid (Below w.heap.size w w1) := Lib.hid ((((HB.out.alloc hwz _).drew)).grown hgrow1 (by simp; omega) (fun r e => (own_ge HO.out r e)))
        clear hown1 hgrow1 hat1
        go_wp2
        go_roundw
        case rel => exact ⟨k + 1, by omega, by go_num, HB1.out, HO1.out⟩
        case measure => simp [intOf]; omega
    · have HF : Hid (wr.ownsRow w.heap.size 111 2 (.slice A2 k cap2) l.length (cc l)) := Lib.hid (by
        have hkn : l.take k = l := List.take_of_length_le (by rw [← hn.out]; omega)
        have hkl : l.length = k := by rw [← hn.out]; omega
        rw [hkn] at hown
        rw [hkl]
        exact hown)
      go_wp2
      go_ret
      exact ⟨hb, _, rfl, HF.out⟩
end Go.Proofs.YtacikiambpfipaaDoor
namespace Go.Proofs.YtacikiambpfipaaDoor
set_option linter.unusedVariables false
set_option linter.unusedSimpArgs false
open Go.RowKit

set_option maxRecDepth 100000 in
set_option maxHeartbeats 1600000 in
theorem same32_c (least most : Int) (l : List Cp) (v u : Value) (w : World) (h : CpR w w.heap.size v l) (k : CpR w w.heap.size u l) (hl : l.length ≤ 1000) :
    Calls Tryd.prog 35 #[.agg #[.int .i64 least, .int .i64 most, v], .agg #[.int .i64 least, .int .i64 most, u]] w fun e w' => e = .returned (.bool true) ∧ Below w.heap.size w w' := by
  obtain ⟨W0, hW0⟩ : ∃ W0, (w.alloc (.cells #[.int .i64 least, .int .i64 most, v] 68)).alloc (.cells #[.int .i64 least, .int .i64 most, u] 63) = W0 := ⟨_, rfl⟩
  have hb0 : Below w.heap.size w W0 := by rw [← hW0]; exact ((Below.refl _ w).alloc (Nat.le_refl _) _).alloc (by simp) _
  have hz0 : W0.heap.size = w.heap.size + 2 := by rw [← hW0]; simp
  have hk0 : Blk W0 w.heap.size 68 #[.int .i64 least, .int .i64 most, v] := by rw [← hW0]; exact (Blk.new w _ _).alloc _
  have hk1 : Blk W0 (w.heap.size + 1) 63 #[.int .i64 least, .int .i64 most, u] := by
    have := Blk.new (w.alloc (.cells #[.int .i64 least, .int .i64 most, v] 68)) 63 #[.int .i64 least, .int .i64 most, u]
    rw [hW0] at this
    simpa using this
  have HV : Hid (∀ V, Below W0.heap.size W0 V → CpR V V.heap.size v l) := Lib.hid (fun V hV => ((h.below hb0).mono (by omega : w.heap.size ≤ W0.heap.size) |>.below hV).mono hV.size)
  have HU : Hid (∀ V, Below W0.heap.size W0 V → CpR V V.heap.size u l) := Lib.hid (fun V hV => ((k.below hb0).mono (by omega : w.heap.size ≤ W0.heap.size) |>.below hV).mono hV.size)
  obtain ⟨A, n, cap, rfl, hn, hnc, hcm⟩ := h.form'
  obtain ⟨A', n', cap', rfl, hn', hnc', hcm'⟩ := k.form'
  have HPL : Hid (∀ V, Below W0.heap.size W0 V → Calls Tryd.prog 94 #[.slice A n cap] V fun e w' => ∃ vp, e = .returned vp ∧ Hid (Below W0.heap.size W0 w') ∧ Hid (CpR w' w'.heap.size vp l)) := Lib.hid (fun V hV => (plain_c l _ _ V (HV.out V hV) (Nat.le_refl _) hl).mono fun e w' ⟨h1, v1, h2, h3⟩ => ⟨v1, h2, Lib.hid (hV.trans (h1.mono hV.size)), Lib.hid (CpR.of_own h3)⟩)
  have HSM : Hid (∀ V vp, Below W0.heap.size W0 V → CpR V V.heap.size vp l → Calls Tryd.prog 93 #[vp, .slice A' n' cap'] V fun e w' => e = .returned (.bool true) ∧ Below W0.heap.size W0 w') := Lib.hid (fun V vp hV hp => (sameC_c l l _ _ _ V hp (HU.out V hV) (Nat.le_refl _) (by omega) (by omega)).mono fun e w' ⟨h1, h2⟩ => ⟨by rw [h1, decide_eq_true rfl], hV.trans (h2.mono hV.size)⟩)
  have HKV : Hid (∀ V, Below W0.heap.size W0 V → V.cell? ⟨w.heap.size, 0, none⟩ = some (.int .i64 least) ∧ V.cell? ⟨w.heap.size, 1, none⟩ = some (.int .i64 most) ∧ V.cell? ⟨w.heap.size, 2, none⟩ = some (.slice A n cap) ∧ V.cell? ⟨w.heap.size + 1, 0, none⟩ = some (.int .i64 least) ∧ V.cell? ⟨w.heap.size + 1, 1, none⟩ = some (.int .i64 most) ∧ V.cell? ⟨w.heap.size + 1, 2, none⟩ = some (.slice A' n' cap')) := Lib.hid (fun V hV => by
    obtain ⟨p0, p1, p2, _⟩ := blk3 (hk0.keep hV (by omega))
    obtain ⟨q0, q1, q2, _⟩ := blk3 (hk1.keep hV (by omega))
    exact ⟨p0, p1, p2, q0, q1, q2⟩)
  have HB0 := Lib.hid hb0
  have HW0 := Lib.hid hW0
  have HZ0 : Hid (w.heap.size ≤ W0.heap.size) := Lib.hid (by omega)
  clear h k hb0 hz0 hk0 hk1 hW0
  go_enter Tryd.func35, Tryd.ntmps35
  go_upto_region 1 with fail
  rw [HW0.out]
  obtain ⟨x0, x1, x2, x3, x4, x5⟩ := HKV.out W0 (Below.refl _ _)
  have HB : Hid (Below W0.heap.size W0 W0) := Lib.hid (Below.refl _ _)
  go_wp2_with fail
  go_region_held3 (fun V => V.cell? ⟨w.heap.size, 0, none⟩ = some (.int .i64 least) ∧ V.cell? ⟨w.heap.size, 1, none⟩ = some (.int .i64 most) ∧ V.cell? ⟨w.heap.size, 2, none⟩ = some (.slice A n cap) ∧ V.cell? ⟨w.heap.size + 1, 0, none⟩ = some (.int .i64 least) ∧ V.cell? ⟨w.heap.size + 1, 1, none⟩ = some (.int .i64 most) ∧ V.cell? ⟨w.heap.size + 1, 2, none⟩ = some (.slice A' n' cap'))
    (first | exact HKV.out _ (Below.refl _ _).drew | exact HKV.out _ hv2 | exact HKV.out _ HVA.out)
    (first
      | (go_at_call 94; ((with_reducible refine (HPL.out _ (Below.refl _ _).drew).mono ?_); rintro e wa ⟨vp, rfl, HVA, HCA⟩))
      | (go_at_call 93; ((with_reducible refine (HSM.out wa _ HVA.out HCA.out).mono ?_); rintro e wb ⟨rfl, hv2⟩)))
  all_goals
    go_wp2
    go_ret
    exact ⟨rfl, HB0.out.trans (hv2.mono HZ0.out)⟩
end Go.Proofs.YtacikiambpfipaaDoor
namespace Go.Proofs.YtacikiambpfipaaDoor
set_option linter.unusedVariables false
set_option linter.unusedSimpArgs false
open Go Go.RowKit

section
variable {P : Program} {ops : Array Oper} {C : World → Prop} {Q : Act → Prop} {o : Oper} {rest : List Oper} {a : Act}
theorem wpQuiet_val (v : Value) (hg : Region.wanted o (yielded ops a.tmps) = true) (h : ∀ w, C w → o.quietAt P a C w v) (hn : wpQuiet P ops C Q rest (a.put o.dst v)) : wpQuiet P ops C Q (o :: rest) a := by
  unfold wpQuiet; rw [if_pos hg]; exact ⟨v, h, hn⟩
theorem wpQuiet_run (v : Value) (hg : Region.wanted o (yielded ops a.tmps) = true) (h : ∀ w, C w → (execOp a.eval o).run P w = .ok (.value v) w) (hn : wpQuiet P ops C Q rest (a.put o.dst v)) : wpQuiet P ops C Q (o :: rest) a :=
  wpQuiet_val v hg (fun w hw => by unfold Oper.quietAt; rw [h w hw]; exact ⟨rfl, rfl⟩) hn
theorem wpQuiet_callB {W : World} (f : FuncId) (args : Array Value) (v : Value) (hg : Region.wanted o (yielded ops a.tmps) = true) (ho : ∀ w, (execOp a.eval o).run P w = .ok (.enter f args) w)
    (hc : ∀ w, Below W.heap.size W w → Calls P f args w fun e w' => e = .returned v ∧ Below w.heap.size w w') (hn : wpQuiet P ops (fun w' => Below W.heap.size W w') Q rest (a.put o.dst v)) : wpQuiet P ops (fun w' => Below W.heap.size W w') Q (o :: rest) a :=
  wpQuiet_val v hg (fun w hw => by
    unfold Oper.quietAt; rw [ho w]
    exact ⟨rfl, (hc w hw).mono fun e w' ⟨he, hb⟩ => ⟨he, hw.trans (hb.mono hw.size)⟩⟩) hn
theorem wp_region_below {id : Nat} {Q : Exit → Act → World → Prop} {a : Act} {w : World} {l : List Oper} (hm : P.follows .mixedOrders = true) (hB : Region.lexB .any l.toArray = true)
    (h : wpQuiet P l.toArray (fun w' => Below w.heap.size w w') (fun a' => ∀ w', Below w.heap.size w w' → Q .normal a' w') l a) : (Code.region id l.toArray true).wp P Q a w :=
  wp_region_quiet (C := fun w' => Below w.heap.size w w') hm hB (Below.refl _ _).drew (by simpa using h)
end
end Go.Proofs.YtacikiambpfipaaDoor
namespace Go.Proofs.YtacikiambpfipaaDoor
set_option linter.unusedVariables false
set_option linter.unusedSimpArgs false
open Go.RowKit

/-- A hello as the program has it: new. -/
def OfEnd (least most : Int) (l : List Cp) (w : World) (e : Ending) (w' : World) : Prop := Below w.heap.size w w' ∧ ∃ v, e = .returned (.agg #[.int .i64 least, .int .i64 most, v]) ∧ CpR w' w'.heap.size v l
theorem helRet {R : Ending → World → Prop} {tmps : Array Value} {V : World} {g : Nat} (a b c : Value) (hp : tmps.getD 2 undef = .pointer (some ⟨g, 0, none⟩)) (hB : Blk V g 68 #[a, b, c])
    (hR : R (.returned (.agg #[a, b, c])) V) : bodyPost Tryd.prog Tryd.f30 R .ret { tmps := tmps, defers := [] } V := by
  obtain ⟨r0, r1, r2, _⟩ := blk3 hB
  simp only [Array.getD_eq_getD_getElem?] at hp
  exact bodyPost_ret (v := .agg #[a, b, c]) (by simp [results, Tryd.results30, go_sem, hp, r0, r1, r2]) rfl hR
theorem cell3b {w : World} {g : Nat} {t : TypeId} {a b c a' b' c' : Value} (h : Blk w g t #[a, b, c]) : Blk (((w.setCell ⟨g, 0, none⟩ a').setCell ⟨g, 1, none⟩ b').setCell ⟨g, 2, none⟩ c') g t #[a', b', c'] := ((h.set 0 a').set 1 b').set 2 c'
theorem own_mono {w : World} {base base' : Nat} {E : TypeId} {sz : Nat} {v : Value} {n : Nat} {xs : List Value} (h : w.ownsRow base E sz v n xs) (hb : base' ≤ base) : w.ownsRow base' E sz v n xs := by
  refine ⟨h.1, ?_⟩
  rcases h.2 with h2 | ⟨g, cap, cur, hv, hg, r⟩
  · exact .inl h2
  · exact .inr ⟨g, cap, cur, hv, by omega, r⟩
set_option maxRecDepth 100000 in
set_option maxHeartbeats 1600000 in
theorem hof_c (least most : Int) (l : List Cp) (v : Value) (B : Nat) (w : World) (h : CpR w B v l) (hB : B ≤ w.heap.size) (hl : l.length ≤ 1000) :
    Calls Tryd.prog 30 #[.agg #[.int .i64 least, .int .i64 most, v]] w (OfEnd least most l w) := by
  obtain ⟨A, n, cap, rfl, hn, hnc, hcm⟩ := h.form'
  obtain ⟨W0, hW0⟩ : ∃ W0, (w.alloc (.cells #[.int .i64 least, .int .i64 most, .slice A n cap] 63)).alloc (.cells #[.int .i64 0, .int .i64 0, .slice none 0 0] 68) = W0 := ⟨_, rfl⟩
  have HW0 : Hid (Below w.heap.size w W0) := Lib.hid (by rw [← hW0]; exact ((Below.refl _ w).alloc (Nat.le_refl _) _).alloc (by simp) _)
  have HZ0 : Hid (W0.heap.size = w.heap.size + 2) := Lib.hid (by rw [← hW0]; simp)
  have HK0 : Hid (Blk W0 w.heap.size 63 #[.int .i64 least, .int .i64 most, .slice A n cap]) := Lib.hid (by rw [← hW0]; exact (Blk.new w _ _).alloc _)
  have HK1 : Hid (Blk W0 (w.heap.size + 1) 68 #[.int .i64 0, .int .i64 0, .slice none 0 0]) := Lib.hid (by
    rw [← hW0]
    have := Blk.new (w.alloc (.cells #[.int .i64 least, .int .i64 most, .slice A n cap] 63)) 68 #[.int .i64 0, .int .i64 0, .slice none 0 0]
    rw [World.size_alloc] at this
    exact this)
  have HR0 : Hid (CpR W0 B (.slice A n cap) l) := Lib.hid (h.below (HW0.out.mono hB))
  have HWW := Lib.hid hW0
  have FX : Hid (∀ V, Below (w.heap.size + 2) W0 V → V.cell? ⟨w.heap.size, 0, none⟩ = some (.int .i64 least) ∧ V.cell? ⟨w.heap.size, 1, none⟩ = some (.int .i64 most) ∧ V.cell? ⟨w.heap.size, 2, none⟩ = some (.slice A n cap) ∧ V.cell? ⟨w.heap.size + 1, 0, none⟩ = some (.int .i64 0) ∧ V.cell? ⟨w.heap.size + 1, 1, none⟩ = some (.int .i64 0) ∧ V.cell? ⟨w.heap.size + 1, 2, none⟩ = some (.slice none 0 0) ∧ V.frozen? ⟨w.heap.size + 1, 0, none⟩ = false ∧ V.frozen? ⟨w.heap.size + 1, 1, none⟩ = false ∧ V.frozen? ⟨w.heap.size + 1, 2, none⟩ = false ∧ Below (w.heap.size + 2) W0 V) := Lib.hid (fun V hV => by
    obtain ⟨a0, a1, a2, _⟩ := blk3 (HK0.out.keep hV (by omega))
    obtain ⟨b0, b1, b2, b3, b4, b5⟩ := blk3 (HK1.out.keep hV (by omega))
    exact ⟨a0, a1, a2, b0, b1, b2, b3, b4, b5, hV⟩)
  have HC : Hid (∀ V, Below (w.heap.size + 2) W0 V → Calls Tryd.prog 86 #[.slice A n cap] V fun e w' => ∃ A1 n1 c1, e = .returned (.slice A1 n1 c1) ∧ (Hid (w'.ownsRow (w.heap.size + 2) 104 2 (.slice A1 n1 c1) l.length (cc l)) ∧ Below (w.heap.size + 2) W0 w')) := Lib.hid (fun V hV => by
    have hz := HZ0.out
    have hVz := hV.size
    refine (lcaps_c l _ B V (HR0.out.below (hV.mono (by omega))) (by omega) hl).mono ?_
    rintro e w' ⟨hb, v, rfl, ho⟩
    obtain ⟨A1, c1, rfl, _⟩ := own_form' ho
    exact ⟨A1, _, c1, rfl, Lib.hid (own_mono ho (by omega)), hV.trans (hb.mono (by omega))⟩)
  have hV5 : Below (w.heap.size + 2) W0 W0 := Below.refl _ _
  obtain ⟨a0, a1, a2, _⟩ := FX.out W0 hV5
  clear hW0 h
  go_enter Tryd.func30, Tryd.ntmps30
  go_wp2_with fail
  rw [HWW.out]
  go_region_law (first
    | (go_simp; go_at_call 86; refine (HC.out _ (by first | exact hV5 | exact hV5.drew)).mono ?_; rintro e w' ⟨A1, n1, c1, rfl, HCR, hv⟩; obtain ⟨x0, x1, x2, x3, x4, x5, x6, x7, x8, _⟩ := FX.out w' hv))
  all_goals
    have HFB : Hid (Below w.heap.size w w') := Lib.hid (HW0.out.trans (hv.mono (by omega)))
    have HKB : Hid (Blk w' (w.heap.size + 1) 68 #[.int .i64 0, .int .i64 0, .slice none 0 0]) := Lib.hid (HK1.out.keep hv (by omega))
    have hzw : w.heap.size + 2 ≤ w'.heap.size := by have := hv.size; have := HZ0.out; omega
    clear hv
    go_wp2
    refine helRet _ _ _ (g := w.heap.size + 1) rfl (cell3b HKB.out) ⟨((HFB.out.setCell (p := ⟨w.heap.size + 1, 0, none⟩) (by simp) _).setCell (p := ⟨w.heap.size + 1, 1, none⟩) (by simp) _).setCell (p := ⟨w.heap.size + 1, 2, none⟩) (by simp) _, _, rfl, ?_⟩
    refine CpR.of_own (own_block HCR.out (fun j hj _ => ?_))
    exact (Below.heap_setCell _ _ _ _ (by show j ≠ w.heap.size + 1; omega)).trans ((Below.heap_setCell _ _ _ _ (by show j ≠ w.heap.size + 1; omega)).trans (Below.heap_setCell _ _ _ _ (by show j ≠ w.heap.size + 1; omega)))
end Go.Proofs.YtacikiambpfipaaDoor
namespace Go.Proofs.YtacikiambpfipaaDoor
set_option linter.unusedVariables false
set_option linter.unusedSimpArgs false
open Go

def noDefer (l : List Oper) : Bool := l.all fun o => match o.op with | .defer _ => false | _ => true
theorem noDefer_at {l : List Oper} (h : noDefer l = true) {i : Nat} {o : Oper} (ho : l.toArray[i]? = some o) : ∀ c, o.op ≠ .defer c := by
  intro c hc
  have hm : o ∈ l := by simpa using Array.mem_of_getElem? ho
  have := List.all_eq_true.1 h o hm
  rw [hc] at this
  cases this
theorem wpOpIn_inRound {F : Fence} {n : Nat} {P : Program} {l : List Oper} {Q : Exit → Act → World → Prop} {i k : Nat} {K : Act → World → Prop} {a : Act} {w : World} (hro : F.round = none) (hnd : noDefer l = true) (h : wpOpIn F n P l.toArray Q i K a w) : wpOpIn (F.inRound k) n P l.toArray Q i K a w := by
  unfold wpOpIn at h ⊢
  split
  · rename_i ho; simp only [ho] at h; exact h
  · rename_i o ho
    simp only [ho] at h
    split
    · rename_i hw
      simp only [hw, if_true] at h
      unfold Oper.wpIn at h ⊢
      rw [hro, Oper.semAt_none] at h
      rw [Fence.inRound_round, Oper.semAt_some _ _ _ (noDefer_at hnd ho)]
      exact h
    · rename_i hw
      simp only [hw, if_false] at h
      exact h
theorem wpAnyIn_inRound {F : Fence} {n : Nat} {P : Program} {l : List Oper} {Q : Exit → Act → World → Prop} {md : Region.Mode} (k : Nat) (hro : F.round = none) (hnd : noDefer l = true) : ∀ (fuel : Nat) (listed : Array Bool) (a : Act) (w : World), wpAnyIn F n P md l.toArray Q fuel listed a w → wpAnyIn (F.inRound k) n P md l.toArray Q fuel listed a w
  | 0, _, _, _, h => h
  | fuel + 1, listed, a, w, h => ⟨h.1, fun i hi => wpOpIn_mono (fun a w => wpAnyIn_inRound k hro hnd fuel _ a w) (wpOpIn_inRound hro hnd (h.2 i hi))⟩
theorem wpIn_region_quiet_round {F : Fence} {n : Nat} {P : Program} {id : Nat} {Q : Exit → Act → World → Prop} {a : Act} {w : World} {l : List Oper} (k : Nat) (hro : F.round = none) (hm : P.follows .mixedOrders = true) (hB : Region.lexB .any l.toArray = true) (hnd : noDefer l = true)
    (h : wpQuietIn F n P l.toArray (fun w' => ∃ n, w' = w.drewN n) (fun a' => ∀ w', (∃ n, w' = w.drewN n) → Q .normal a' w') l a) : (Code.region id l.toArray true).wpIn (F.inRound k) n P Q a w := by
  simp only [Region.lexB, Bool.and_eq_true] at hB
  refine wpIn_region_any hm (wpAnyIn_inRound k hro hnd _ _ _ _ (wpAnyIn_of_quiet (C := fun w' => ∃ n, w' = w.drewN n) (Q := fun a' => ∀ w', (∃ n, w' = w.drewN n) → Q .normal a' w') hro (fun _ w' hw' h => h w' hw') _ _ _ _ ⟨1, rfl⟩ ?_))
  have := wpAnyQIn_lex (F := F) (n := n) (C := fun w' => ∃ n, w' = w.drewN n) (md := .any) hB.1 l.toArray.toList 0 (Array.replicate l.toArray.size false) a (by simp) (by simpa using hB.2) (by simpa using h)
  simpa using this
end Go.Proofs.YtacikiambpfipaaDoor
