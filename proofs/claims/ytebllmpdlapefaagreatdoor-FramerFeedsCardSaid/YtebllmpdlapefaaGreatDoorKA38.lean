/- The example of framer; how much is looked at. -/
/- Words for the laws of framer. -/
import Derived.Test.YtebllmpdlapefaaGreatDoorKA37
import Derived.Test.YtebllmpdlapefaaGreatDoorKA6
import Derived.Test.YtebllmpdlapefaaGreatDoorKA36
import Derived.Test.YtebllmpdlapefaaGreatDoorKA35
namespace Go.Proofs.YtebllmpdlapefaaGreatDoor
set_option linter.unusedVariables false
set_option linter.unusedSimpArgs false
open Go.RowKit

theorem split_ex1 : split (wNext exC) ⟨#[3, 5]⟩ = ([], ⟨#[3, 5]⟩, 0, 0) := by decide +kernel
theorem split_ex2 : split (wNext exC) ⟨#[3, 5, 97, 98, 1]⟩ = ([⟨5, ⟨#[]⟩, ⟨#[97, 98]⟩⟩], ⟨#[1]⟩, 0, 0) := by decide +kernel
theorem fed_ex1 : fed (wNext exC) Fed.new ⟨#[3, 5]⟩ = (⟨⟨#[3, 5]⟩, 0, 2, 0⟩, [], 0) := by
  rw [fed_whole rfl, show Fed.new.buf ++ (⟨#[3, 5]⟩ : ByteArray) = ⟨#[3, 5]⟩ from by decide, split_ex1]; rfl
theorem fed_ex2 : fed (wNext exC) ⟨⟨#[3, 5]⟩, 0, 2, 0⟩ ⟨#[97, 98, 1]⟩ = (⟨⟨#[1]⟩, 0, 3, 1⟩, [⟨5, ⟨#[]⟩, ⟨#[97, 98]⟩⟩], 0) := by
  rw [fed_whole rfl, show (⟨#[3, 5]⟩ : ByteArray) ++ (⟨#[97, 98, 1]⟩ : ByteArray) = ⟨#[3, 5, 97, 98, 1]⟩ from by decide, split_ex2]; rfl
theorem exC_right : exC.right = true := by decide
set_option maxRecDepth 100000 in
set_option maxHeartbeats 1000000 in
theorem frAlive (w : World) : Calls Tryz.prog 33 #[] w fun e w' => e = .returned (.bool true) ∧ Below w.heap.size w w' := by
  have HN : Hid (Calls Tryz.prog 36 #[.agg #[.int .i64 2, .int .u32 0, .int .i64 9, .int .i64 1, .int .i64 1, .int .i64 1]] w fun e w' => (∃ g, e = .returned (.tuple #[.pointer (some ⟨g, 0, none⟩), .int .i64 0]) ∧ FrmS w' w.heap.size g (.slice none 0 0) exC Fed.new) ∧ Below w.heap.size w w') := Lib.hid (frNew_c exC w exC_right)
  have hEG := eqg_fr
  have hQ1 := eqFr_same 5 ⟨#[]⟩ ⟨#[97, 98]⟩
  go_enter Tryz.func33, Tryz.ntmps33
  go_wp2_with fail
  refine HN.out.mono ?_
  rintro e w1 ⟨⟨g, rfl, hf1⟩, hb1⟩
  have HF1 := Lib.hid (frFeed_c w.heap.size g _ exC Fed.new ⟨#[3, 5]⟩ w1 exC_right exC_ok hf1 hb1.size (by decide) (by decide))
  rw [fed_ex1] at HF1
  simp only at HF1
  have HFT := Lib.hid hf1.foot_ge
  have HB1 := Lib.hid hb1
  clear hf1 hb1
  go_wp2_with fail
  refine HF1.out.mono ?_
  rintro e w2 ⟨rv, bv2, rfl, hr2, hf2, ho2, hown2⟩
  have hb2 : Below w.heap.size w1 w2 := ho2.below HB1.out.size (fun k hk => (HFT.out k hk).1)
  have HF2 := Lib.hid (frFeed_c w.heap.size g _ exC ⟨⟨#[3, 5]⟩, 0, 2, 0⟩ ⟨#[97, 98, 1]⟩ w2 exC_right exC_ok hf2 (Nat.le_trans HB1.out.size hb2.size) (by decide) (by decide))
  rw [fed_ex2] at HF2
  simp only at HF2
  have HB2 := Lib.hid (HB1.out.trans hb2)
  have HFT2 := Lib.hid hf2.foot_ge
  obtain ⟨A2, n2, cap2, rfl, hn2, hnc2, hcm2⟩ := hr2.form'
  obtain rfl : n2 = 0 := hn2.out
  clear hr2 hf2 ho2 hown2 hb2 hn2 HF1 HFT HB1
  go_wp2_with fail
  refine HF2.out.mono ?_
  rintro e w3 ⟨rv, bv3, rfl, hr3, hf3, ho3, hown3⟩
  have HB3 : Hid (Below w.heap.size w w3) := Lib.hid (HB2.out.trans (ho3.below HB2.out.size (fun k hk => (HFT2.out k hk).1)))
  have HBU := Lib.hid (frBuffered_c w.heap.size g bv3 exC _ w3 hf3)
  have hr := hr3.read
  obtain ⟨A3, n3, cap3, rfl, hn3, hnc3, hcm3⟩ := hr3.form'
  obtain rfl : n3 = 1 := hn3.out
  obtain ⟨gg, o, rfl, hg, e0, e1, e2⟩ := hr.at_ (j := 0) (by simp)
  simp at e0 e1 e2
  clear hr3 hf3 ho3 hown3 hn3 HF2 HFT2 HB2 hr hg
  go_wp2_with fail
  refine HBU.out.mono ?_
  rintro e w4 ⟨rfl, rfl⟩
  have hz : (⟨#[1]⟩ : ByteArray).size = 1 := rfl
  go_wp2
  go_ret
  exact ⟨rfl, HB3.out⟩
/-- How many bytes they have together. -/
def sizes (l : List ByteArray) : Nat := (l.map ByteArray.size).sum
theorem sizes_nil : sizes [] = 0 := rfl
theorem sizes_cons (s : ByteArray) (l : List ByteArray) : sizes (s :: l) = s.size + sizes l := by simp [sizes]
theorem sizes_app (a b : List ByteArray) : sizes (a ++ b) = sizes a + sizes b := by simp [sizes]
theorem sizes_take (l : List ByteArray) (j : Nat) (h : j < l.length) : sizes (l.take (j + 1)) = sizes (l.take j) + l[j].size := by
  rw [List.take_succ_eq_append_getElem h, sizes_app, sizes_cons, sizes_nil]; omega
theorem sizes_mem : ∀ (l : List ByteArray) (s : ByteArray), s ∈ l → s.size ≤ sizes l
  | t :: l, s, h => by
    rw [sizes_cons]
    rcases List.mem_cons.1 h with rfl | h
    · omega
    · have := sizes_mem l s h; omega
set_option maxRecDepth 100000 in
set_option maxHeartbeats 1000000 in
theorem great19_c (l : List ByteArray) (v : Value) (B : Nat) (w : World) (h : StR w B v l) (hB : B ≤ w.heap.size) (hl : ∀ s ∈ l, s.size ≤ 9223372036854775807) :
    Calls Tryz.prog 34 #[v] w fun e w' => e = .returned (.bool (decide (200 < l.length) || decide (1500 < min (sizes l) 10000))) ∧ Below w.heap.size w w' := by
  obtain ⟨A, n, cap, rfl, hn, hnc, hcm⟩ := h.form'
  have HH := Lib.hid h
  have HS := Lib.hid hl
  clear h hl
  by_cases h2 : 200 < n
  · have h2i : (200 : Int) < n := by omega
    have HX : Hid ((decide (200 < l.length) || decide (1500 < min (sizes l) 10000)) = true) := Lib.hid (by rw [← hn.out]; simp [h2])
    rw [HX.out]
    go_enter Tryz.func34, Tryz.ntmps34
    go_wp2
    go_ret
    exact ⟨rfl, Below.refl _ _⟩
  · have h2i : ¬ (200 : Int) < n := by omega
    have HX : Hid ((decide (200 < l.length) || decide (1500 < min (sizes l) 10000)) = decide (1500 < min (sizes l) 10000)) := Lib.hid (by rw [← hn.out]; simp [h2])
    rw [HX.out]
    go_enter Tryz.func34, Tryz.ntmps34
    go_wp2
    go_loopw [3, 4] (fun a i wr => ∃ j : Nat, i = .int .i64 j ∧ j ≤ n ∧ a = .int .i64 (min (sizes (l.take j)) 10000 : Nat) ∧ wr = w) (fun _ i _ => n - (intOf i).toNat)
    case atStart => exact ⟨0, rfl, by omega, by simp [sizes], rfl⟩
    case round =>
      obtain ⟨j, rfl, hj, rfl, rfl⟩ := hrel
      by_cases hlt : j < n
      · have hjl : j < l.length := by rw [← hn.out]; exact hlt
        obtain ⟨g, o, rfl, hg, e0⟩ := HH.out.at_ hjl
        have hst := sizes_take l j hjl
        have hsz := HS.out l[j] (List.getElem_mem hjl)
        obtain ⟨x, hx⟩ : ∃ x, l[j] = x := ⟨_, rfl⟩
        rw [hx] at e0 hst hsz
        clear hx
        have m1 : min (x.size : Int) 10000 = ((min x.size 10000 : Nat) : Int) := by omega
        have m2 : min (((min (sizes (l.take j)) 10000 : Nat) : Int) + ((min x.size 10000 : Nat) : Int)) 10000 = ((min (sizes (l.take (j + 1))) 10000 : Nat) : Int) := by omega
        have l1 : min x.size 10000 ≤ 10000 := by omega
        have l2 : min (sizes (l.take j)) 10000 ≤ 10000 := by omega
        have HST := Lib.hid hst
        clear hst
        generalize (min x.size 10000 : Nat) = b0 at *
        generalize (min (sizes (l.take j)) 10000 : Nat) = a0 at *
        obtain ⟨a1, ha1⟩ : ∃ a1, (min (sizes (l.take (j + 1))) 10000 : Nat) = a1 := ⟨_, rfl⟩
        rw [ha1] at m2
        have HA1 := Lib.hid ha1
        clear ha1
        go_wp2
        go_roundw
        case rel => exact ⟨j + 1, by go_num, by omega, by rw [HA1.out], trivial⟩
        case measure => simp [intOf]; omega
      · obtain rfl : j = n := by omega
        have hT : l.take j = l := List.take_of_length_le (by rw [← hn.out]; exact Nat.le_refl _)
        rw [hT]
        obtain ⟨a0, ha0⟩ : ∃ a0, (min (sizes l) 10000 : Nat) = a0 := ⟨_, rfl⟩
        have HA := Lib.hid ha0
        rw [ha0]
        clear hT ha0
        go_wp2
        go_ret
        exact ⟨ret_bool (by rw [HA.out]; simp; omega), Below.refl _ _⟩
end Go.Proofs.YtebllmpdlapefaaGreatDoor
namespace Go.Proofs.YtebllmpdlapefaaGreatDoor
set_option linter.unusedVariables false
set_option linter.unusedSimpArgs false
open Go.RowKit

theorem refRight19_c (c : Cfg) (w : World) : Calls Tryz.prog 35 #[c.val] w fun e w' => e = .returned (.bool c.right) ∧ Below w.heap.size w w' := by
  have HR := Lib.hid (fun w => refRight17_c c w)
  unfold Cfg.val at *
  generalize c.right = b at *
  go_enter Tryz.func35, Tryz.ntmps35
  go_wp2_with fail
  refine (HR.out _).mono ?_
  rintro e w1 ⟨rfl, hb1⟩
  have HB1 := Lib.hid hb1
  go_wp2
  go_ret
  exact ⟨rfl, by first | exact HB1.out | exact ((Below.refl w.heap.size w).alloc (Nat.le_refl _) _).trans (HB1.out.mono (by simp))⟩
theorem sizes_take_le (l : List ByteArray) (k : Nat) : sizes (l.take k) ≤ sizes l := by
  have h := sizes_app (l.take k) (l.drop k)
  rw [List.take_append_drop] at h
  omega
theorem fed_sizes (c : Cfg) (x : Fed) (s : ByteArray) : (fed (wNext c) x s).1.buf.size ≤ x.buf.size + s.size ∧ (fed (wNext c) x s).1.told ≤ x.told + (x.buf.size + s.size) ∧ (fed (wNext c) x s).2.1.length ≤ x.buf.size + s.size := by
  by_cases h0 : x.fault = 0
  · rw [fed_whole h0]
    have h1 := split_len' c (x.buf ++ s)
    have h2 := split_tail_le' c (x.buf ++ s)
    rw [size_app] at h1 h2
    exact ⟨h2, by simp only; omega, h1⟩
  · rw [fed_broken h0]; exact ⟨by simp only; omega, by simp only; omega, by simp⟩
theorem FrmS.far {w : World} {base g : Nat} {bv : Value} {c : Cfg} {x : Fed} (h : FrmS w base g bv c x) {k : Nat} {t : TypeId} {cs : Array Value} (hb : Blk w k t cs) (ht : t ≠ 5) (hk : k ≠ g) : k ∉ foot g bv := by
  intro hm
  rcases mem_foot.1 hm with e | e
  · exact hk e
  · obtain ⟨_, nd, _, h2, _⟩ := h
    exact h2.own_ne hb ht e
theorem load_row_run {P : Program} {w : World} {o : Oper} {a : Act} (ty : TypeId) (x : Operand) (ho : o.op = .load ty x) (g : Nat) (hx : a.eval x = .pointer (some ⟨g, 0, none⟩))
    (t : TypeId) (cs : Array Value) (fr : Nat × Nat) (d : TypeDesc) (hC : w.heap[g]? = some (.cells cs t fr)) (hu : P.underlying ty = some d) (hd : (match d with | .struct _ | .array _ _ => true | _ => false) = true) (hi : (P.info? ty).map (·.size) = some cs.size) :
    (execOp a.eval o).run P w = .ok (.value (.agg cs)) w := by
  unfold execOp
  simp only [ho, hx, Instr.loadAt, Instr.sureAddr, Sem.run_bind, Sem.run_pure, Result.andThen_ok, run_loadVar_row w g t ty cs fr d hC hu hd hi]
theorem quietB {P : Program} {f : FuncId} {args : Array Value} {w : World} {v : Value} (h : Calls P f args w fun e w' => e = .returned v ∧ w = w') : Calls P f args w fun e w' => e = .returned v ∧ Below w.heap.size w w' := h.mono fun e w' ⟨h1, h2⟩ => ⟨h1, by rw [← h2]; exact Below.refl _ _⟩
end Go.Proofs.YtebllmpdlapefaaGreatDoor
