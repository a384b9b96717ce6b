/- A buffer of bytes: copy within it, slices.Clone. -/
/- framer.drop. -/
import Derived.Test.YtebllmpdlapefaaGreatDoorProg
import Derived.Test.YtebllmpdlapefaaGreatDoorKA1
import Derived.Lib.BufferMore
import Derived.Laws.IdiomCopy
import Derived.Laws.CopyOwn
namespace Go.Proofs.YtebllmpdlapefaaGreatDoor
set_option linter.unusedVariables false
set_option linter.unusedSimpArgs false
open Go.RowKit

theorem info_byteF : (Tryz.prog.info? 5).map (fun i => (i.zero, i.size, i.bytes)) = some (some (.int .u8 0), 1, 1) := by kernel_rfl
theorem size_byteF : (Tryz.prog.info? 5).map (·.size) = some 1 := by kernel_rfl
theorem wpList_copy_cells {P : Program} {w : World} {ops : Array Oper} {rest : List Oper} {o : Oper} {a : Act} {Q : Exit → Act → World → Prop} (hgd : o.guard = none) (d s : Operand) (dT sT : TypeId)
    (ho : o.op = .call { callee := .builtin .copy, args := #[d, s], argTypes := #[dT, sT] }) (elem : TypeId) (hu : P.underlying dT = some (.slice elem)) (hsz : (P.info? elem).map (·.size) = some 1)
    (g off dLen dCap : Nat) (ad : Addr) (sLen sCap : Nat) (hd : a.eval d = .slice (some ⟨g, off, none⟩) dLen dCap) (hs : a.eval s = .slice (some ad) sLen sCap)
    (cs : List Value) (hn : cs.length = Nat.min sLen dLen) (hsrc : ∀ j v, cs[j]? = some v → w.cell? (ad.add j) = some v)
    (hc : ∀ j, j < cs.length → (w.cell? ⟨g, off + j, none⟩).isSome = true) (hf : ∀ j, j < cs.length → w.frozen? ⟨g, off + j, none⟩ = false) (h1 : ∀ v ∈ cs, v.oneCell' = true)
    (h : wpList P ops Q rest (a.put o.dst (goInt cs.length)) (w.setCells g off cs)) : wpList P ops Q (o :: rest) a w := by
  refine wpList_plain hgd fun K hK => ?_
  have hrun := run_copy_cells (P := P) w dT sT o.type elem g off dLen dCap ad sLen sCap cs hu hsz hn hsrc hc hf h1
  unfold Oper.wp
  simp [execOp, ho, resolve, invoke, builtin, hd, hs, hrun, Result.andThen]
  exact hK _ _ h
theorem Buf.blank (w : World) (base : Nat) (E : TypeId) (hb : base ≤ w.heap.size) : Buf (w.alloc (.cells #[] E)) base E (.slice (some ⟨w.heap.size, 0, none⟩) 0 0) [] :=
  ⟨_, 0, rfl, by simp, by simp, .inr ⟨w.heap.size, #[], (0, 0), rfl, hb, heap_alloc_new w _, rfl, by simp [cb], .inl rfl⟩⟩
set_option maxRecDepth 100000 in
set_option maxHeartbeats 1000000 in
theorem cloneB_c (base g n cap : Nat) (l : List UInt8) (w : World) (hn : n = l.length) (h : Buf w base 5 (.slice (some ⟨g, 0, none⟩) n cap) l) (hl : l.length ≤ 1000000) :
    Calls Tryz.prog 128 #[.slice (some ⟨g, 0, none⟩) n cap] w fun e w' => (∃ v', e = .returned v' ∧ Buf w' w.heap.size 5 v' l ∧ ∃ k, v'.ownBlock = some k) ∧ Below w.heap.size w w' := by
  obtain ⟨i0, hi, hz0, hz1, hz2⟩ := info_parts info_byteF
  have hne := fun (w : World) (a : Addr) (n c : Nat) => Lib.run_eql_slice_some_nil (P := Tryz.prog) w a n c Tryz.underlying104
  have HB := Lib.hid (h.alloc (.cells #[] 5))
  have HE := Lib.hid (Buf.blank w w.heap.size 5 (Nat.le_refl _))
  clear h
  go_enter Tryz.func128, Tryz.ntmps128
  go_wp2_with (
    at_builtin
    refine wpList_append_bufO (by rfl) (.tmp 5) (.tmp 6) 104 104 (by rfl) w.heap.size 5 i0 Tryz.underlying104 hi hz0 hz1 hz2 (by rfl) HE.out _ l (by rfl) (src_buf Tryz.underlying104 HB.out) (by simp) (by simp; omega) ?_
    intro A' n' cap' w' hb' hg'
    have HB2 : Hid (Buf w' w.heap.size 5 (.slice A' n' cap') l) := Lib.hid (by simpa using hb')
    have HO : Hid (∃ k, (Value.slice A' n' cap').ownBlock = some k) := Lib.hid (by rcases hg'.own with e | ⟨k, e, _⟩; exact ⟨_, e⟩; exact ⟨k, e⟩)
    have HW : Hid (Below w.heap.size w w') := Lib.hid (GrB.below ((Below.refl _ w).alloc (Nat.le_refl _) (.cells #[] 5)) hg' (by simp) (fun k hk => (HE.out.ge k hk).1))
    clear hb' hg')
  go_ret
  exact ⟨⟨_, rfl, HB2.out, HO.out⟩, HW.out⟩
theorem GrB.of_own {a b : World} {v v' : Value} (h : a.grownBy b v.ownBlock) (ho : v'.ownBlock = v.ownBlock) : GrB a b v v' := ⟨h, .inl ho⟩
theorem Buf.shrunk {w : World} {base g n cap k : Nat} {l : List UInt8} (h : Buf w base 5 (.slice (some ⟨g, 0, none⟩) n cap) l) (hk : k ≤ l.length) :
    ∃ W, w.setCells g 0 (cb (l.drop k)) = W ∧ Buf W base 5 (.slice (some ⟨g, 0, none⟩) (l.length - k) cap) (l.drop k) ∧ GrB w W (.slice (some ⟨g, 0, none⟩) n cap) (.slice (some ⟨g, 0, none⟩) (l.length - k) cap) ∧
      (∀ j v, (cb (l.drop k))[j]? = some v → w.cell? ((⟨g, k, none⟩ : Addr).add j) = some v) ∧ (∀ j, j < (cb (l.drop k)).length → (w.cell? ⟨g, 0 + j, none⟩).isSome = true) ∧ ∀ j, j < (cb (l.drop k)).length → w.frozen? ⟨g, 0 + j, none⟩ = false := by
  have hat := fun j (hj : j < l.length) => h.at_ (k := j) hj
  obtain ⟨A', cap', h1, h2, h3, h4⟩ := h
  injection h1 with hA hn hc
  subst hA; subst hc; subst hn
  rcases h4 with ⟨h4, _⟩ | ⟨g', cur, fr, hA, hg, hh, hs, ht, hfr⟩
  · cases h4
  · injection hA with hA
    injection hA with hA
    subst hA
    have hdl : (l.drop k).length = l.length - k := List.length_drop
    have hcl : (cb (l.drop k)).length = l.length - k := by rw [cb_length, hdl]
    obtain ⟨cur', c1, c2, c3⟩ := setCells_heap (cb (l.drop k)) 0 w cur hh (by omega)
    refine ⟨_, rfl, ⟨_, cap, by rw [hdl], by rw [hdl]; omega, h3, .inr ⟨g, cur', fr, rfl, hg, c1, by omega, ?_, hfr⟩⟩, ⟨⟨World.os_setCells _ _ _ _, setCells_tape _ _ _ _, World.output_setCells _ _ _ _, by rw [setCells_size]; exact Nat.le_refl _, fun j hj hne => World.heap_setCells_other w g 0 _ hj (fun e => hne (by subst e; rfl))⟩, .inl rfl⟩, ?_, ?_, ?_⟩
    · rw [Nat.zero_add, hcl] at c3
      rw [hdl, c3]; simp
    · intro j v hv
      rw [cb_at, List.getElem?_drop] at hv
      have hj : k + j < l.length := by
        rcases Nat.lt_or_ge (k + j) l.length with h | h
        · exact h
        · rw [List.getElem?_eq_none h] at hv; cases hv
      have e1 : (⟨g, k, none⟩ : Addr).add j = ⟨g, k + j, none⟩ := by unfold Addr.add; split <;> simp_all
      rw [e1, (hat (k + j) hj).1, List.getD_eq_getElem?_getD]
      rw [List.getElem?_eq_getElem hj] at hv ⊢
      simpa using hv
    · intro j hj
      rw [Nat.zero_add, (hat j (by omega)).1]; rfl
    · intro j hj
      rw [Nat.zero_add]; exact (hat j (by omega)).2.1
theorem size_byteD : (Tryz.prog.info? 5).map (·.size) = some 1 := size_byteF
end Go.Proofs.YtebllmpdlapefaaGreatDoor
namespace Go.Proofs.YtebllmpdlapefaaGreatDoor
set_option linter.unusedVariables false
set_option linter.unusedSimpArgs false
open Go.RowKit

set_option maxRecDepth 100000 in
set_option maxHeartbeats 1000000 in
theorem drop_c (base : Nat) (v : Value) (l : List UInt8) (n : Nat) (w : World) (h : Buf w base 5 v l) (hbase : base ≤ w.heap.size) (hn : n ≤ l.length) (hl : l.length ≤ 1000000) :
    Calls Tryz.prog 95 #[v, .int .i64 n] w fun e w' => ∃ v', e = .returned v' ∧ Buf w' base 5 v' (l.drop n) ∧ GrB w w' v v' := by
  have h' := h
  obtain ⟨A, cap, rfl, hlc, hcm, h4⟩ := h
  rcases h4 with ⟨rfl, rfl⟩ | ⟨g, cur, fr, rfl, _⟩
  · obtain rfl : l = [] := List.eq_nil_of_length_eq_zero (by omega)
    obtain rfl : n = 0 := by simpa using hn
    clear h'
    have hcp := run_copy_none (P := Tryz.prog) w 104 104 3 5 none none 0 0 0 0 Tryz.underlying104 size_byteF (by simp)
    go_enter Tryz.func95, Tryz.ntmps95
    go_wp2
    go_ret
    exact ⟨_, rfl, Buf.nil _ _ _, GrB.refl _ _⟩
  · obtain ⟨W, hW, hBW, hGW, s1, s2, s3⟩ := h'.shrunk hn
    have HBF := Lib.hid hBW
    have HGR := Lib.hid hGW
    clear hBW hGW
    obtain ⟨len, hlen⟩ : ∃ len, l.length = len := ⟨_, rfl⟩
    have HL := Lib.hid hlen
    rw [hlen] at h' hlc hn hl HBF HGR ⊢
    obtain ⟨k, hk⟩ : ∃ k, len - n = k := ⟨_, rfl⟩
    rw [hk] at HBF HGR
    have hk2 : (len : Int) - n = k := by omega
    have hkl : (cb (l.drop n)).length = k := by rw [cb_length, List.length_drop, hlen, hk]
    by_cases hcz : n = cap
    · obtain rfl : k = 0 := by omega
      obtain rfl : len = cap := by omega
      subst hcz
      have e0 : cb (l.drop n) = [] := List.eq_nil_of_length_eq_zero hkl
      rw [e0] at hW
      obtain rfl : w = W := hW
      have hcp := run_copy_none (P := Tryz.prog) w 104 104 3 5 (some ⟨g, 0, none⟩) (some ⟨g, 0, none⟩) n n 0 0 Tryz.underlying104 size_byteF (by simp)
      clear s1 s2 s3 e0 hkl h'
      rename_i right
      clear right hlc hn hk hk2
      have HH := Lib.hid hlen
      clear hlen
      by_cases hc : 4096 < n
      · have hci : ((4096 : Int) < n) := by omega
        have HCL := Lib.hid (cloneB_c base g 0 n (l.drop n) w (by rw [List.length_drop, HH.out]; omega) HBF.out (by rw [List.length_drop, HH.out]; omega))
        go_enter Tryz.func95, Tryz.ntmps95
        go_wp2_with fail
        refine HCL.out.mono ?_
        rintro e W2 ⟨⟨v', rfl, hb2, hown⟩, hbl⟩
        have HG2 : Hid (GrB w W2 (.slice (some ⟨g, 0, none⟩) n n) v') := Lib.hid ⟨HGR.out.grown.andThen (grownBy_none hbl) (by simp), .inr (by obtain ⟨k', e'⟩ := hown; exact ⟨k', e', (hb2.ge k' e').1⟩)⟩
        have HB2 := Lib.hid (hb2.mono hbase)
        clear hb2 hbl HCL HBF HGR hown
        go_wp2
        go_ret
        exact ⟨_, rfl, HB2.out, HG2.out⟩
      · have hci : ¬ ((4096 : Int) < n) := by omega
        go_enter Tryz.func95, Tryz.ntmps95
        go_wp2
        go_ret
        exact ⟨_, rfl, HBF.out, HGR.out⟩
    · have hcp := run_copy_cells (P := Tryz.prog) w 104 104 3 5 g 0 len cap ⟨g, n, none⟩ k (cap - n) (cb (l.drop n)) Tryz.underlying104 size_byteF (by rw [hkl]; show k = min k len; omega) s1 s2 s3 (cb_one _)
      rw [hkl, hW] at hcp
      rename_i right
      clear right s1 s2 s3 hW h' hkl
      have HH := Lib.hid hlen
      clear hlen
      by_cases hc : 4 * k + 4096 < cap
      · have hci : (4 * (k : Int) + 4096 < cap) := by omega
        have HCL := Lib.hid (cloneB_c base g k cap (l.drop n) W (by rw [List.length_drop, HH.out, hk]) HBF.out (by rw [List.length_drop, HH.out]; omega))
        go_enter Tryz.func95, Tryz.ntmps95
        go_wp2_with fail
        refine HCL.out.mono ?_
        rintro e W2 ⟨⟨v', rfl, hb2, hown⟩, hbl⟩
        have HG2 : Hid (GrB w W2 (.slice (some ⟨g, 0, none⟩) len cap) v') := Lib.hid ⟨HGR.out.grown.andThen (grownBy_none hbl) (by simp), .inr (by obtain ⟨k', e'⟩ := hown; exact ⟨k', e', by have := (hb2.ge k' e').1; have := HGR.out.size; omega⟩)⟩
        have HB2 := Lib.hid (hb2.mono (Nat.le_trans hbase HGR.out.size))
        clear hb2 hbl HCL HBF HGR hown
        go_wp2
        go_ret
        exact ⟨_, rfl, HB2.out, HG2.out⟩
      · have hci : ¬ (4 * (k : Int) + 4096 < cap) := by omega
        go_enter Tryz.func95, Tryz.ntmps95
        go_wp2
        go_ret
        exact ⟨_, rfl, HBF.out, HGR.out⟩
end Go.Proofs.YtebllmpdlapefaaGreatDoor
