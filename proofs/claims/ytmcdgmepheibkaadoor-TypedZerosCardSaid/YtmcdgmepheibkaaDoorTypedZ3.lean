/- Package typed: Zero. -/
import Derived.Test.YtmcdgmepheibkaaDoorTypedZ1
import Derived.Test.YtmcdgmepheibkaaDoorTypedZ2
import Derived.Test.YtmcdgmepheibkaaDoorItemS
namespace Go.Proofs.YtmcdgmepheibkaaDoor
set_option linter.unusedVariables false
set_option linter.unusedSimpArgs false
open Go.RowKit

/-- append(x.Sub, sub), inside a region that draws its order. -/
theorem step_append_item {w : World} {ops : Array Oper} {o : Oper} {a : Act} {K : Act → World → Prop} {Q : Exit → Act → World → Prop} {E' : Prop} (hgd : o.guard = none) (s x : Operand)
    (ho : o.op = .call { callee := .builtin .append, args := #[s, x], argTypes := #[25, 25] }) (lo : Nat) (acc : List It) {v : Value} (hs : a.eval s = v) (hacc : Acc w lo acc v) (y : It) {c0 c1 c2 : Value}
    (hy : ItS w (fun k => lo ≤ k ∧ v.ownBlock ≠ some k) y c0 c1 c2) (g : Nat) (hx : a.eval x = .slice (some ⟨g, 0, none⟩) 1 1) (hg0 : w.cell? ⟨g, 0, none⟩ = some c0) (hg1 : w.cell? ⟨g, 1, none⟩ = some c1) (hg2 : w.cell? ⟨g, 2, none⟩ = some c2)
    (hlen : acc.length ≤ 1000000) (hlo : lo ≤ w.heap.size)
    (hK : ∀ g' n' cap w', Hid (n' = acc.length + 1) → Acc w' lo (acc ++ [y]) (.slice (some ⟨g', 0, none⟩) n' cap) → w.grownBy w' v.ownBlock → lo ≤ g' → K (a.put o.dst (.slice (some ⟨g', 0, none⟩) n' cap)) w') :
    if Region.wanted o (yielded ops a.tmps) = true then Oper.wp Tryd.prog o a w K Q else E' := by
  obtain ⟨i0, hi, hz0, hz1, hz2⟩ := info_parts info_item
  obtain ⟨cs, h1, h2⟩ := hacc
  refine step_append_lies w hgd s x 25 ho lo 27 i0 _ 3 48 Tryd.underlying25 hi hz0 hz1 hz2 rfl (by decide) v acc.length cs hs h1 ⟨g, 0, none⟩ 1 1 [c0, c1, c2] hx rfl ?_ (one3 hy) (by decide) (by simp only [maxLen]; omega) (by omega) hlo w.heap.size rfl ?_
  · intro j u hu
    have e1 : ∀ j, (⟨g, 0, none⟩ : Addr).add j = ⟨g, j, none⟩ := by intro j; unfold Addr.add; split <;> simp_all
    rw [e1]
    match j, hu with
    | 0, hu => simp at hu; subst hu; exact hg0
    | 1, hu => simp at hu; subst hu; exact hg1
    | 2, hu => simp at hu; subst hu; exact hg2
  · intro g' cap w' ho' hgr hat hlt
    have hge := own_ge ho' g' rfl
    refine hK g' _ cap w' (Lib.hid rfl) ⟨cs ++ [c0, c1, c2], by rw [List.length_append]; exact ho', ?_⟩ hgr hge
    refine ((h2.snoc hy).keep (fun k hk hS => ⟨hS.1, ?_⟩) fun p hp hS => World.cell?_of_block (hgr.block _ hp (fun e => hS.2 e.symm)))
    intro e
    have e : g' = k := by simpa [Value.ownBlock] using e
    rcases hat with hat | hat
    · exact hS.2 (by rw [hat, e])
    · omega
theorem zeroL_none (l : List Ty) : zeroL l 0 = [] := by cases l <;> rfl
theorem zeroL_succ : ∀ {l : List Ty} {i : Nat} (h : i < l.length), zeroL l (i + 1) = zeroL l i ++ [l[i].zero]
  | [], i, h => by simp at h
  | x :: xs, 0, h => by
    show x.zero :: zeroL xs 0 = [] ++ [x.zero]
    rw [zeroL_none]; rfl
  | x :: xs, i + 1, h => by
    have hi : i < xs.length := by simpa using h
    have := zeroL_succ (l := xs) (i := i) hi
    show x.zero :: zeroL xs (i + 1) = x.zero :: (zeroL xs i) ++ [xs[i].zero]
    rw [this]; rfl
theorem zeroL_len {l : List Ty} {i : Nat} (h : i ≤ l.length) : (zeroL l i).length = i := by rw [zeroL_eq]; simp; omega
/-- The variables of the walk over a zero value: the table, the walk itself. -/
structure ZV (w : World) (ob fb g : Nat) : Prop where
  of_ : Blk w ob 76 #[.map (some g)]
  fn : Blk w fb 39 #[.func (.func 54) #[] #[.pointer (some ⟨ob, 0, none⟩), .pointer (some ⟨fb, 0, none⟩)]]
  mp : w.heap[g]? = some (.map kEs.toArray 5)
theorem ZV.keep {w w' : World} {ob fb g B : Nat} (h : ZV w ob fb g) (hb : Below B w w') (h1 : ob < B) (h2 : fb < B) (h3 : g < B) : ZV w' ob fb g := ⟨h.of_.keep hb h1, h.fn.keep hb h2, (hb.block g h3).trans h.mp⟩
theorem ZV.lt {w : World} {ob fb g : Nat} (h : ZV w ob fb g) : ob < w.heap.size ∧ fb < w.heap.size ∧ g < w.heap.size := ⟨h.of_.lt, h.fn.lt, lt_of_block h.mp⟩
theorem ZV.below {w w' : World} {ob fb g : Nat} (h : ZV w ob fb g) (hb : Below w.heap.size w w') : ZV w' ob fb g := h.keep hb h.lt.1 h.lt.2.1 h.lt.2.2
/-- How Zero's walk ends. -/
def ZEnd (w : World) (y : It) (e : Ending) (w' : World) : Prop := (∃ c0 c1 c2, e = .returned (.agg #[c0, c1, c2]) ∧ ItS w' (w.heap.size ≤ ·) y c0 c1 c2) ∧ Below w.heap.size w w'
set_option maxRecDepth 100000 in
set_option maxHeartbeats 3200000 in
theorem zeroC_c : ∀ (x : Ty) (B : Nat) (w : World) (c0 c1 c2 c3 : Value), TyIn w B x c0 c1 c2 c3 → B ≤ w.heap.size → x.right = true → ∀ ob fb g, ZV w ob fb g →
    Calls Tryd.prog 54 #[.agg #[c0, c1, c2, c3], .pointer (some ⟨ob, 0, none⟩), .pointer (some ⟨fb, 0, none⟩)] w fun e w' => ZEnd w x.zero e w' := by
  intro x
  induction x using Ty.ind with
  | h ki s l ta ih =>
    intro B w c0 c1 c2 c3 h hB hr ob fb g hV
    obtain ⟨rfl, rfl, rfl, hki, hsi, hta, hs, A, cap, rfl, hcap, hcm, hsub⟩ := h
    have IH := Lib.hid ih
    have HS := Lib.hid hsub
    have HKI := Lib.hid hki
    have HSI := Lib.hid hsi
    have HTA := Lib.hid hta
    unfold okI at hki hsi hta
    obtain ⟨hki1, hki2⟩ := hki
    obtain ⟨hsi1, hsi2⟩ := hsi
    obtain ⟨hta1, hta2⟩ := hta
    clear ih hsub
    have hml := kept_le hr
    obtain ⟨hta3, hta4, hway⟩ := tail_ok hr
    obtain ⟨hok, hrt⟩ := right_ok hr
    have hzz : (Ty.mk ki s l ta).zero = if ki = 2 then .mk (noughts s.toNat) false [] else if ki = 4 then .mk ⟨#[]⟩ true [] else if ki = 5 then .mk ⟨#[]⟩ true (zeroL l (Ty.mk ki s l ta).kept) else .mk ⟨#[]⟩ false [] := by
      rw [Ty.zero, kept_is]
      by_cases h5 : ki = 5
      · subst h5; rfl
      · rw [if_neg h5, if_neg h5]
    obtain ⟨m, hm⟩ : ∃ m, (Ty.mk ki s l ta).kept = m := ⟨_, rfl⟩
    rw [hm] at hml hway hzz
    have HZZ := Lib.hid hzz
    have HRT := Lib.hid hrt
    have HKC := Lib.hid (fun W => kept_c ki s ta A l.length cap m W hcap hcm hta3 hta4 (fun hl => tys_some HS.out hl) hway)
    have HWY := Lib.hid hway
    clear HKI HSI HTA hr hm hzz hrt hway
    generalize (Ty.mk ki s l ta).zero = R at *
    rcases ok_ways hok with ⟨rfl, h3, hn, rfl⟩ | ⟨rfl, h3, h4, hn, rfl⟩ | ⟨rfl, h3, h4, hn, rfl⟩ | ⟨rfl, h3, h4, hn, rfl⟩ | ⟨rfl, rfl, h4, h5, h6⟩
    · have HX : Hid (R = .mk ⟨#[]⟩ false []) := Lib.hid HZZ.out
      obtain rfl : m = 0 := by rcases HWY.out with h | h; exact absurd h.1 (by decide); exact h.2
      have HNL := Lib.hid hn
      clear hok IH HS hn HZZ
      obtain ⟨W2, hW2⟩ : ∃ W2, (w.alloc (.cells #[.int .i64 1, .int .i64 s, .slice A l.length cap, .int .i64 0] 24)).alloc (.cells #[.string ⟨#[]⟩, .bool false, .slice none 0 0] 27) = W2 := ⟨_, rfl⟩
      have hb2 : Below w.heap.size w W2 := by rw [← hW2]; exact ((Below.refl _ w).alloc (Nat.le_refl _) _).alloc (by simp) _
      have hz2 : W2.heap.size = w.heap.size + 2 := by rw [← hW2]; simp
      have n1 : Blk W2 w.heap.size 24 #[.int .i64 1, .int .i64 s, .slice A l.length cap, .int .i64 0] := by rw [← hW2]; exact (Blk.new w _ _).alloc _
      have n2 : Blk W2 (w.heap.size + 1) 27 #[.string ⟨#[]⟩, .bool false, .slice none 0 0] := by rw [← hW2]; have := Blk.new (w.alloc (.cells #[.int .i64 1, .int .i64 s, .slice A l.length cap, .int .i64 0] 24)) 27 #[.string ⟨#[]⟩, .bool false, .slice none 0 0]; simpa using this
      have HN1 := Lib.hid n1
      have HN2 := Lib.hid n2
      have HB2 := Lib.hid hb2
      have HLK := Lib.hid (run_getI (w := W2) (es := kEs) (c := 5) (hV.below hb2).mp 1 _ _ rfl)
      rw [← hW2] at HLK
      have hlk := HLK.out
      simp only [kUint, kFixed, kBytes, kList, kStruct] at hlk
      have hf : ∀ w, (Instr.field 79 (.agg #[.func (.func 95) #[] #[], .func (.func 94) #[] #[]]) 1).run Tryd.prog w = .ok (.func (.func 94) #[] #[]) w := fun _ => by kernel_rfl
      have h0f : w.cell? ⟨ob, 0, none⟩ = some (.map (some g)) := hV.of_.cell 0
      have hl1 := hV.lt.1
      have HV := Lib.hid hV
      have HW2 := Lib.hid hW2
      clear hV HLK hW2 hb2 n1 n2
      go_enter Tryd.func54, Tryd.ntmps54
      go_wp2_with fail
      rw [HW2.out]
      refine (zT_c 1 s 0 _ _).mono ?_
      rintro e w1 ⟨rfl, hb1⟩
      have hz1 := hb1.size
      have HB1 : Hid (Below w.heap.size w w1) := Lib.hid (HB2.out.trans (hb1.mono (by omega)))
      have HM1 := Lib.hid (HN1.out.keep hb1 (by omega))
      have HM2 := Lib.hid (HN2.out.keep hb1 (by omega))
      obtain ⟨q0, q1, q2, q3, _⟩ := blk4 HM1.out
      have hlw : w.heap.size < w1.heap.size := by omega
      have HKW := Lib.hid (HKC.out (w1.alloc (.cells #[.string (⟨#[]⟩), .bool false, .slice none 0 0] 27)))
      clear hb1 hlk h0f
      go_wp2_with fail
      refine HKW.out.mono ?_
      rintro e w3 ⟨⟨A', cap', rfl, hA⟩, hb3⟩
      have hz3 := hb3.size
      simp only [World.size_alloc] at hz3
      have HA := Lib.hid hA
      have HX3 := Lib.hid ((Blk.new w1 27 #[.string (⟨#[]⟩), .bool false, .slice none 0 0]).keep hb3 (by simp))
      have HR3 := Lib.hid ((HM2.out.alloc (.cells #[.string (⟨#[]⟩), .bool false, .slice none 0 0] 27)).keep hb3 (by simp; omega))
      have HB3 : Hid (Below w.heap.size w w3) := Lib.hid ((HB1.out.alloc (by omega) _).trans (hb3.mono (by simp; omega)))
      clear hb3 hA q0 q1 q2 q3
      obtain ⟨x0, x1, x2, xf0, xf1, xf2⟩ := blk3 HX3.out
      obtain ⟨r0, r1, r2, rf0, rf1, rf2⟩ := blk3 HR3.out
      go_wp2_with fail
      refine wp_loop_rounds 1 ?_
      rw [rounds_succ]
      go_wp2
      refine bodyPost_ret (v := .agg #[.string (⟨#[]⟩), .bool false, .slice none 0 0]) (by simp [results, Tryd.results54, go_sem, r0, r1, r2]) rfl ?_
      rw [HX.out]
      exact ⟨⟨_, _, _, rfl, ItS.text false (by first | omega | simp [ByteArray.size])⟩, ((HB3.out.setCell (by simp) _).setCell (by simp) _).setCell (by simp) _⟩
    · have HX : Hid (R = .mk (noughts s.toNat) false []) := Lib.hid HZZ.out
      obtain rfl : m = 0 := by rcases HWY.out with h | h; exact absurd h.1 (by decide); exact h.2
      have HNL := Lib.hid hn
      clear hok IH HS hn HZZ
      obtain ⟨T, hT⟩ : ∃ T, noughts s.toNat = T := ⟨_, rfl⟩
      have hTs : T.size ≤ 65536 := by rw [← hT, noughts_size]; omega
      have HZF := Lib.hid (fun W => zF_c 2 s 0 (.slice A l.length cap) W (by omega) h4)
      rw [hT] at HZF HX
      clear hT
      obtain ⟨W2, hW2⟩ : ∃ W2, (w.alloc (.cells #[.int .i64 2, .int .i64 s, .slice A l.length cap, .int .i64 0] 24)).alloc (.cells #[.string ⟨#[]⟩, .bool false, .slice none 0 0] 27) = W2 := ⟨_, rfl⟩
      have hb2 : Below w.heap.size w W2 := by rw [← hW2]; exact ((Below.refl _ w).alloc (Nat.le_refl _) _).alloc (by simp) _
      have hz2 : W2.heap.size = w.heap.size + 2 := by rw [← hW2]; simp
      have n1 : Blk W2 w.heap.size 24 #[.int .i64 2, .int .i64 s, .slice A l.length cap, .int .i64 0] := by rw [← hW2]; exact (Blk.new w _ _).alloc _
      have n2 : Blk W2 (w.heap.size + 1) 27 #[.string ⟨#[]⟩, .bool false, .slice none 0 0] := by rw [← hW2]; have := Blk.new (w.alloc (.cells #[.int .i64 2, .int .i64 s, .slice A l.length cap, .int .i64 0] 24)) 27 #[.string ⟨#[]⟩, .bool false, .slice none 0 0]; simpa using this
      have HN1 := Lib.hid n1
      have HN2 := Lib.hid n2
      have HB2 := Lib.hid hb2
      have HLK := Lib.hid (run_getI (w := W2) (es := kEs) (c := 5) (hV.below hb2).mp 2 _ _ rfl)
      rw [← hW2] at HLK
      have hlk := HLK.out
      simp only [kUint, kFixed, kBytes, kList, kStruct] at hlk
      have hf : ∀ w, (Instr.field 79 (.agg #[.func (.func 96) #[] #[], .func (.func 97) #[] #[]]) 1).run Tryd.prog w = .ok (.func (.func 97) #[] #[]) w := fun _ => by kernel_rfl
      have h0f : w.cell? ⟨ob, 0, none⟩ = some (.map (some g)) := hV.of_.cell 0
      have hl1 := hV.lt.1
      have HV := Lib.hid hV
      have HW2 := Lib.hid hW2
      clear hV HLK hW2 hb2 n1 n2
      go_enter Tryd.func54, Tryd.ntmps54
      go_wp2_with fail
      rw [HW2.out]
      refine (HZF.out _).mono ?_
      rintro e w1 ⟨rfl, hb1⟩
      have hz1 := hb1.size
      have HB1 : Hid (Below w.heap.size w w1) := Lib.hid (HB2.out.trans (hb1.mono (by omega)))
      have HM1 := Lib.hid (HN1.out.keep hb1 (by omega))
      have HM2 := Lib.hid (HN2.out.keep hb1 (by omega))
      obtain ⟨q0, q1, q2, q3, _⟩ := blk4 HM1.out
      have hlw : w.heap.size < w1.heap.size := by omega
      have HKW := Lib.hid (HKC.out (w1.alloc (.cells #[.string (T), .bool false, .slice none 0 0] 27)))
      clear hb1 hlk h0f
      go_wp2_with fail
      refine HKW.out.mono ?_
      rintro e w3 ⟨⟨A', cap', rfl, hA⟩, hb3⟩
      have hz3 := hb3.size
      simp only [World.size_alloc] at hz3
      have HA := Lib.hid hA
      have HX3 := Lib.hid ((Blk.new w1 27 #[.string (T), .bool false, .slice none 0 0]).keep hb3 (by simp))
      have HR3 := Lib.hid ((HM2.out.alloc (.cells #[.string (T), .bool false, .slice none 0 0] 27)).keep hb3 (by simp; omega))
      have HB3 : Hid (Below w.heap.size w w3) := Lib.hid ((HB1.out.alloc (by omega) _).trans (hb3.mono (by simp; omega)))
      clear hb3 hA q0 q1 q2 q3
      obtain ⟨x0, x1, x2, xf0, xf1, xf2⟩ := blk3 HX3.out
      obtain ⟨r0, r1, r2, rf0, rf1, rf2⟩ := blk3 HR3.out
      go_wp2_with fail
      refine wp_loop_rounds 1 ?_
      rw [rounds_succ]
      go_wp2
      refine bodyPost_ret (v := .agg #[.string (T), .bool false, .slice none 0 0]) (by simp [results, Tryd.results54, go_sem, r0, r1, r2]) rfl ?_
      rw [HX.out]
      exact ⟨⟨_, _, _, rfl, ItS.text false (by first | omega | simp [ByteArray.size])⟩, ((HB3.out.setCell (by simp) _).setCell (by simp) _).setCell (by simp) _⟩
    · have HX : Hid (R = .mk ⟨#[]⟩ false []) := Lib.hid HZZ.out
      obtain rfl : m = 0 := by rcases HWY.out with h | h; exact absurd h.1 (by decide); exact h.2
      have HNL := Lib.hid hn
      clear hok IH HS hn HZZ
      obtain ⟨W2, hW2⟩ : ∃ W2, (w.alloc (.cells #[.int .i64 3, .int .i64 s, .slice A l.length cap, .int .i64 0] 24)).alloc (.cells #[.string ⟨#[]⟩, .bool false, .slice none 0 0] 27) = W2 := ⟨_, rfl⟩
      have hb2 : Below w.heap.size w W2 := by rw [← hW2]; exact ((Below.refl _ w).alloc (Nat.le_refl _) _).alloc (by simp) _
      have hz2 : W2.heap.size = w.heap.size + 2 := by rw [← hW2]; simp
      have n1 : Blk W2 w.heap.size 24 #[.int .i64 3, .int .i64 s, .slice A l.length cap, .int .i64 0] := by rw [← hW2]; exact (Blk.new w _ _).alloc _
      have n2 : Blk W2 (w.heap.size + 1) 27 #[.string ⟨#[]⟩, .bool false, .slice none 0 0] := by rw [← hW2]; have := Blk.new (w.alloc (.cells #[.int .i64 3, .int .i64 s, .slice A l.length cap, .int .i64 0] 24)) 27 #[.string ⟨#[]⟩, .bool false, .slice none 0 0]; simpa using this
      have HN1 := Lib.hid n1
      have HN2 := Lib.hid n2
      have HB2 := Lib.hid hb2
      have HLK := Lib.hid (run_getI (w := W2) (es := kEs) (c := 5) (hV.below hb2).mp 3 _ _ rfl)
      rw [← hW2] at HLK
      have hlk := HLK.out
      simp only [kUint, kFixed, kBytes, kList, kStruct] at hlk
      have hf : ∀ w, (Instr.field 79 (.agg #[.func (.func 99) #[] #[], .func (.func 94) #[] #[]]) 1).run Tryd.prog w = .ok (.func (.func 94) #[] #[]) w := fun _ => by kernel_rfl
      have h0f : w.cell? ⟨ob, 0, none⟩ = some (.map (some g)) := hV.of_.cell 0
      have hl1 := hV.lt.1
      have HV := Lib.hid hV
      have HW2 := Lib.hid hW2
      clear hV HLK hW2 hb2 n1 n2
      go_enter Tryd.func54, Tryd.ntmps54
      go_wp2_with fail
      rw [HW2.out]
      refine (zT_c 3 s 0 _ _).mono ?_
      rintro e w1 ⟨rfl, hb1⟩
      have hz1 := hb1.size
      have HB1 : Hid (Below w.heap.size w w1) := Lib.hid (HB2.out.trans (hb1.mono (by omega)))
      have HM1 := Lib.hid (HN1.out.keep hb1 (by omega))
      have HM2 := Lib.hid (HN2.out.keep hb1 (by omega))
      obtain ⟨q0, q1, q2, q3, _⟩ := blk4 HM1.out
      have hlw : w.heap.size < w1.heap.size := by omega
      have HKW := Lib.hid (HKC.out (w1.alloc (.cells #[.string (⟨#[]⟩), .bool false, .slice none 0 0] 27)))
      clear hb1 hlk h0f
      go_wp2_with fail
      refine HKW.out.mono ?_
      rintro e w3 ⟨⟨A', cap', rfl, hA⟩, hb3⟩
      have hz3 := hb3.size
      simp only [World.size_alloc] at hz3
      have HA := Lib.hid hA
      have HX3 := Lib.hid ((Blk.new w1 27 #[.string (⟨#[]⟩), .bool false, .slice none 0 0]).keep hb3 (by simp))
      have HR3 := Lib.hid ((HM2.out.alloc (.cells #[.string (⟨#[]⟩), .bool false, .slice none 0 0] 27)).keep hb3 (by simp; omega))
      have HB3 : Hid (Below w.heap.size w w3) := Lib.hid ((HB1.out.alloc (by omega) _).trans (hb3.mono (by simp; omega)))
      clear hb3 hA q0 q1 q2 q3
      obtain ⟨x0, x1, x2, xf0, xf1, xf2⟩ := blk3 HX3.out
      obtain ⟨r0, r1, r2, rf0, rf1, rf2⟩ := blk3 HR3.out
      go_wp2_with fail
      refine wp_loop_rounds 1 ?_
      rw [rounds_succ]
      go_wp2
      refine bodyPost_ret (v := .agg #[.string (⟨#[]⟩), .bool false, .slice none 0 0]) (by simp [results, Tryd.results54, go_sem, r0, r1, r2]) rfl ?_
      rw [HX.out]
      exact ⟨⟨_, _, _, rfl, ItS.text false (by first | omega | simp [ByteArray.size])⟩, ((HB3.out.setCell (by simp) _).setCell (by simp) _).setCell (by simp) _⟩
    · have HX : Hid (R = .mk ⟨#[]⟩ true []) := Lib.hid HZZ.out
      obtain rfl : m = 0 := by rcases HWY.out with h | h; exact absurd h.1 (by decide); exact h.2
      have HNL := Lib.hid hn
      clear hok IH HS hn HZZ
      obtain ⟨W2, hW2⟩ : ∃ W2, (w.alloc (.cells #[.int .i64 4, .int .i64 s, .slice A l.length cap, .int .i64 0] 24)).alloc (.cells #[.string ⟨#[]⟩, .bool false, .slice none 0 0] 27) = W2 := ⟨_, rfl⟩
      have hb2 : Below w.heap.size w W2 := by rw [← hW2]; exact ((Below.refl _ w).alloc (Nat.le_refl _) _).alloc (by simp) _
      have hz2 : W2.heap.size = w.heap.size + 2 := by rw [← hW2]; simp
      have n1 : Blk W2 w.heap.size 24 #[.int .i64 4, .int .i64 s, .slice A l.length cap, .int .i64 0] := by rw [← hW2]; exact (Blk.new w _ _).alloc _
      have n2 : Blk W2 (w.heap.size + 1) 27 #[.string ⟨#[]⟩, .bool false, .slice none 0 0] := by rw [← hW2]; have := Blk.new (w.alloc (.cells #[.int .i64 4, .int .i64 s, .slice A l.length cap, .int .i64 0] 24)) 27 #[.string ⟨#[]⟩, .bool false, .slice none 0 0]; simpa using this
      have HN1 := Lib.hid n1
      have HN2 := Lib.hid n2
      have HB2 := Lib.hid hb2
      have HLK := Lib.hid (run_getI (w := W2) (es := kEs) (c := 5) (hV.below hb2).mp 4 _ _ rfl)
      rw [← hW2] at HLK
      have hlk := HLK.out
      simp only [kUint, kFixed, kBytes, kList, kStruct] at hlk
      have hf : ∀ w, (Instr.field 79 (.agg #[.func (.func 100) #[] #[], .func (.func 101) #[] #[]]) 1).run Tryd.prog w = .ok (.func (.func 101) #[] #[]) w := fun _ => by kernel_rfl
      have h0f : w.cell? ⟨ob, 0, none⟩ = some (.map (some g)) := hV.of_.cell 0
      have hl1 := hV.lt.1
      have HV := Lib.hid hV
      have HW2 := Lib.hid hW2
      clear hV HLK hW2 hb2 n1 n2
      go_enter Tryd.func54, Tryd.ntmps54
      go_wp2_with fail
      rw [HW2.out]
      refine (zL_c 4 s 0 _ _).mono ?_
      rintro e w1 ⟨rfl, hb1⟩
      have hz1 := hb1.size
      have HB1 : Hid (Below w.heap.size w w1) := Lib.hid (HB2.out.trans (hb1.mono (by omega)))
      have HM1 := Lib.hid (HN1.out.keep hb1 (by omega))
      have HM2 := Lib.hid (HN2.out.keep hb1 (by omega))
      obtain ⟨q0, q1, q2, q3, _⟩ := blk4 HM1.out
      have hlw : w.heap.size < w1.heap.size := by omega
      have HKW := Lib.hid (HKC.out (w1.alloc (.cells #[.string (⟨#[]⟩), .bool true, .slice none 0 0] 27)))
      clear hb1 hlk h0f
      go_wp2_with fail
      refine HKW.out.mono ?_
      rintro e w3 ⟨⟨A', cap', rfl, hA⟩, hb3⟩
      have hz3 := hb3.size
      simp only [World.size_alloc] at hz3
      have HA := Lib.hid hA
      have HX3 := Lib.hid ((Blk.new w1 27 #[.string (⟨#[]⟩), .bool true, .slice none 0 0]).keep hb3 (by simp))
      have HR3 := Lib.hid ((HM2.out.alloc (.cells #[.string (⟨#[]⟩), .bool true, .slice none 0 0] 27)).keep hb3 (by simp; omega))
      have HB3 : Hid (Below w.heap.size w w3) := Lib.hid ((HB1.out.alloc (by omega) _).trans (hb3.mono (by simp; omega)))
      clear hb3 hA q0 q1 q2 q3
      obtain ⟨x0, x1, x2, xf0, xf1, xf2⟩ := blk3 HX3.out
      obtain ⟨r0, r1, r2, rf0, rf1, rf2⟩ := blk3 HR3.out
      go_wp2_with fail
      refine wp_loop_rounds 1 ?_
      rw [rounds_succ]
      go_wp2
      refine bodyPost_ret (v := .agg #[.string (⟨#[]⟩), .bool true, .slice none 0 0]) (by simp [results, Tryd.results54, go_sem, r0, r1, r2]) rfl ?_
      rw [HX.out]
      exact ⟨⟨_, _, _, rfl, ItS.text true (by first | omega | simp [ByteArray.size])⟩, ((HB3.out.setCell (by simp) _).setCell (by simp) _).setCell (by simp) _⟩
    · have HX : Hid (R = .mk ⟨#[]⟩ true (zeroL l m)) := Lib.hid HZZ.out
      have hm16 : m ≤ 16 := by omega
      clear hok HZZ
      obtain ⟨W2, hW2⟩ : ∃ W2, (w.alloc (.cells #[.int .i64 5, .int .i64 0, .slice A l.length cap, .int .i64 ta] 24)).alloc (.cells #[.string ⟨#[]⟩, .bool false, .slice none 0 0] 27) = W2 := ⟨_, rfl⟩
      have hb2 : Below w.heap.size w W2 := by rw [← hW2]; exact ((Below.refl _ w).alloc (Nat.le_refl _) _).alloc (by simp) _
      have hz2 : W2.heap.size = w.heap.size + 2 := by rw [← hW2]; simp
      have n1 : Blk W2 w.heap.size 24 #[.int .i64 5, .int .i64 0, .slice A l.length cap, .int .i64 ta] := by rw [← hW2]; exact (Blk.new w _ _).alloc _
      have n2 : Blk W2 (w.heap.size + 1) 27 #[.string ⟨#[]⟩, .bool false, .slice none 0 0] := by rw [← hW2]; have := Blk.new (w.alloc (.cells #[.int .i64 5, .int .i64 0, .slice A l.length cap, .int .i64 ta] 24)) 27 #[.string ⟨#[]⟩, .bool false, .slice none 0 0]; simpa using this
      have HN1 := Lib.hid n1
      have HN2 := Lib.hid n2
      have HB2 := Lib.hid hb2
      have HLK := Lib.hid (run_getI (w := W2) (es := kEs) (c := 5) (hV.below hb2).mp 5 _ _ rfl)
      rw [← hW2] at HLK
      have hlk := HLK.out
      simp only [kUint, kFixed, kBytes, kList, kStruct] at hlk
      have hf : ∀ w, (Instr.field 79 (.agg #[.func (.func 102) #[] #[], .func (.func 103) #[] #[]]) 1).run Tryd.prog w = .ok (.func (.func 103) #[] #[]) w := fun _ => by kernel_rfl
      have h0f : w.cell? ⟨ob, 0, none⟩ = some (.map (some g)) := hV.of_.cell 0
      have hl1 := hV.lt.1
      have HV := Lib.hid hV
      have HW2 := Lib.hid hW2
      clear hV HLK hW2 hb2 n1 n2
      go_enter Tryd.func54, Tryd.ntmps54
      go_wp2_with fail
      rw [HW2.out]
      refine (zS_c 5 0 ta _ _).mono ?_
      rintro e w1 ⟨rfl, hb1⟩
      have hz1 := hb1.size
      have HB1 : Hid (Below w.heap.size w w1) := Lib.hid (HB2.out.trans (hb1.mono (by omega)))
      have HM1 := Lib.hid (HN1.out.keep hb1 (by omega))
      have HM2 := Lib.hid (HN2.out.keep hb1 (by omega))
      obtain ⟨q0, q1, q2, q3, _⟩ := blk4 HM1.out
      have hlw : w.heap.size < w1.heap.size := by omega
      have HKW := Lib.hid (HKC.out (w1.alloc (.cells #[.string (⟨#[]⟩), .bool true, .slice none 0 0] 27)))
      clear hb1 hlk h0f
      go_wp2_with fail
      refine HKW.out.mono ?_
      rintro e w3 ⟨⟨A', cap', rfl, hA⟩, hb3⟩
      have hz3 := hb3.size
      simp only [World.size_alloc] at hz3
      have HA := Lib.hid hA
      have HX3 := Lib.hid ((Blk.new w1 27 #[.string (⟨#[]⟩), .bool true, .slice none 0 0]).keep hb3 (by simp))
      have HR3 := Lib.hid ((HM2.out.alloc (.cells #[.string (⟨#[]⟩), .bool true, .slice none 0 0] 27)).keep hb3 (by simp; omega))
      have HB3 : Hid (Below w.heap.size w w3) := Lib.hid ((HB1.out.alloc (by omega) _).trans (hb3.mono (by simp; omega)))
      clear hb3 hA q0 q1 q2 q3
      obtain ⟨x0, x1, x2, xf0, xf1, xf2⟩ := blk3 HX3.out
      obtain ⟨r0, r1, r2, rf0, rf1, rf2⟩ := blk3 HR3.out
      have HZV3 := Lib.hid (HV.out.below HB3.out)
      have HW13 : Hid (w1.heap.size + 1 ≤ w3.heap.size ∧ w.heap.size + 2 ≤ w1.heap.size) := Lib.hid (by omega)
      go_wp2_with fail
      go_loopw [18] (fun i wr => ∃ (kk : Nat) (vv : Value), kk ≤ m ∧ i = .int .i64 kk ∧ Blk wr w1.heap.size 27 #[.string ⟨#[]⟩, .bool true, vv] ∧ Acc wr (w1.heap.size + 1) (zeroL l kk) vv ∧ Blk wr (w.heap.size + 1) 27 #[.string ⟨#[]⟩, .bool false, .slice none 0 0] ∧ Below w.heap.size w wr ∧ w1.heap.size + 1 ≤ wr.heap.size) (fun i _ => m - (intOf i).toNat)
      case atStart => exact ⟨0, .slice none 0 0, by omega, rfl, HX3.out, by rw [zeroL_none]; exact Acc.nil _ _, HR3.out, HB3.out, by omega⟩
      case round =>
        obtain ⟨kk, vv, hkk, rfl, hbx, hacc, hbr, hb, hrz⟩ := hrel
        have HBX := Lib.hid hbx
        have HACC := Lib.hid hacc
        have HBR := Lib.hid hbr
        have HB := Lib.hid hb
        clear x0 x1 x2 xf0 xf1 xf2 r0 r1 r2 rf0 rf1 rf2
        have hlen : (zeroL l kk).length = kk := zeroL_len (by omega)
        obtain ⟨A2, n2, cap2, rfl, hn2, hc3, hc4⟩ := hacc.form'
        obtain ⟨x0, x1, x2, xf0, xf1, xf2⟩ := blk3 hbx
        obtain ⟨r0, r1, r2, rf0, rf1, rf2⟩ := blk3 hbr
        have hbz := hb.size
        by_cases hlt : kk < m
        · have hll : kk < l.length := by omega
          obtain rfl := HA.out (by omega)
          obtain ⟨b, o, d0, d1, d2, d3, rfl, hbB, e0, e1, e2, e3, hi⟩ := HS.out.at_ kk hll
          simp only [Nat.zero_add] at e0 e1 e2 e3
          have hbB2 : Below B w wr := hb.mono hB
          replace e0 := (hbB2.cell (p := ⟨b, o + kk * 4, none⟩) hbB).trans e0
          replace e1 := (hbB2.cell (p := ⟨b, o + kk * 4 + 1, none⟩) hbB).trans e1
          replace e2 := (hbB2.cell (p := ⟨b, o + kk * 4 + 2, none⟩) hbB).trans e2
          replace e3 := (hbB2.cell (p := ⟨b, o + kk * 4 + 3, none⟩) hbB).trans e3
          obtain ⟨A4, cap4, rfl, rfl, rfl, rfl, _⟩ := hi.open_
          obtain ⟨W0, hW0⟩ : ∃ W0, wr.alloc (.cells #[.int .i64 l[kk].kind, .int .i64 l[kk].size, .slice A4 l[kk].sub.length cap4, .int .i64 l[kk].tail] 24) = W0 := ⟨_, rfl⟩
          have hb0 : Below wr.heap.size wr W0 := by rw [← hW0]; exact (Below.refl _ wr).alloc (Nat.le_refl _) _
          have hz0 : W0.heap.size = wr.heap.size + 1 := by rw [← hW0]; simp
          have hk0 : Blk W0 wr.heap.size 24 #[.int .i64 l[kk].kind, .int .i64 l[kk].size, .slice A4 l[kk].sub.length cap4, .int .i64 l[kk].tail] := by rw [← hW0]; exact Blk.new wr _ _
          have hvl := HV.out.lt
          have HU : Hid (∀ V, Below (wr.heap.size + 1) W0 V → Below wr.heap.size wr V ∧ ZV V ob fb g ∧ wr.heap.size + 1 ≤ V.heap.size) := Lib.hid (fun V hV => by
            have h1 : Below wr.heap.size wr V := hb0.trans (hV.mono (by omega))
            exact ⟨h1, (HV.out.below hb).keep h1 (by omega) (by omega) (by omega), by have := hV.size; omega⟩)
          have HKP : Hid (∀ V, Below (wr.heap.size + 1) W0 V → V.cell? ⟨w1.heap.size, 0, none⟩ = some (.string ⟨#[]⟩) ∧ V.cell? ⟨w1.heap.size, 1, none⟩ = some (.bool true) ∧ V.cell? ⟨w1.heap.size, 2, none⟩ = some (.slice A2 n2 cap2) ∧ V.frozen? ⟨w1.heap.size, 2, none⟩ = false ∧
              V.cell? ⟨fb, 0, none⟩ = some (.func (.func 54) #[] #[.pointer (some ⟨ob, 0, none⟩), .pointer (some ⟨fb, 0, none⟩)]) ∧
              V.cell? ⟨wr.heap.size, 0, none⟩ = some (.int .i64 l[kk].kind) ∧ V.cell? ⟨wr.heap.size, 1, none⟩ = some (.int .i64 l[kk].size) ∧ V.cell? ⟨wr.heap.size, 2, none⟩ = some (.slice A4 l[kk].sub.length cap4) ∧ V.cell? ⟨wr.heap.size, 3, none⟩ = some (.int .i64 l[kk].tail) ∧ w1.heap.size < V.heap.size) := Lib.hid (fun V hV => by
            obtain ⟨h1, h2, h3⟩ := HU.out V hV
            have k1 := HBX.out.keep h1 (by omega)
            have k2 := hk0.keep hV (by omega)
            exact ⟨k1.cell 0, k1.cell 1, k1.cell 2, k1.frozen 2, h2.fn.cell 0, k2.cell 0, k2.cell 1, k2.cell 2, k2.cell 3, by omega⟩)
          have HCZ : Hid (∀ V, Below (wr.heap.size + 1) W0 V → Calls Tryd.prog 54 #[.agg #[.int .i64 l[kk].kind, .int .i64 l[kk].size, .slice A4 l[kk].sub.length cap4, .int .i64 l[kk].tail], .pointer (some ⟨ob, 0, none⟩), .pointer (some ⟨fb, 0, none⟩)] V fun e w' => (∃ c0 c1 c2, e = .returned (.agg #[c0, c1, c2]) ∧ ItS w' (wr.heap.size + 1 ≤ ·) l[kk].zero c0 c1 c2) ∧ Below (wr.heap.size + 1) W0 w') := Lib.hid (fun V hV => by
            obtain ⟨h1, h2, h3⟩ := HU.out V hV
            refine (IH.out _ (List.getElem_mem hll) B V _ _ _ _ ((hi.below hbB2).below (h1.mono (by omega))) (by omega) (rightT_at HRT.out kk hll) ob fb g h2).mono ?_
            rintro e w' ⟨⟨c0, c1, c2, rfl, hit⟩, hx⟩
            refine ⟨⟨c0, c1, c2, rfl, hit.weak fun k _ hk => ?_⟩, hV.trans (hx.mono (by omega))⟩
            have hk : V.heap.size ≤ k := hk
            show wr.heap.size + 1 ≤ k
            omega)
          have HN : Hid (zeroL l (kk + 1) = zeroL l kk ++ [l[kk].zero]) := Lib.hid (zeroL_succ hll)
          have HLN := Lib.hid hlen
          have HW0 := Lib.hid hW0
          have HHZ := Lib.hid (And.intro hbz (And.intro hrz hz0))
          clear hbx hacc hbr hb hi hbB2 hW0 hb0 hk0 hvl hlen
          go_wp2_with fail
          rw [HW0.out]
          have HNO : Hid ((Value.slice A2 n2 cap2).ownBlock ≠ some w1.heap.size) := Lib.hid (fun e => by have := (HACC.out.ge _ e).1; omega)
          have hv0 : Below (wr.heap.size + 1) W0 W0 := Below.refl _ _
          clear x0 x1 x2 xf2
          obtain ⟨x0, x1, x2, xf2, f0, t0, t1, t2, t3, hlx⟩ := HKP.out W0 hv0
          go_region_law (first
            | (refine step_append_item (by rfl) (.tmp 23) (.tmp 27) (by rfl) (w1.heap.size + 1) (zeroL l kk) (by rfl) (HAC4.out _) l[kk].zero (HYS.out _) _ (by rfl) (by simp) (by simp) (by simp) (by have := HLN.out; omega) (by simp; omega) ?_; intro g' n' cap' w5 hn' hacc5 hgr hlo5; have HX5 := Lib.hid (((HBX.out.keep (HU.out w4 HV4.out).1 (by omega)).alloc _).grown hgr HNO.out); obtain ⟨z0, z1, z2, zf0, zf1, zf2⟩ := blk3 HX5.out; have HG5 := Lib.hid hgr; have HA5 := Lib.hid hacc5; clear hgr hacc5)
            | (go_simp; go_at_call 54; refine (HCZ.out _ (by first | exact hv0 | exact hv0.drew | assumption)).mono ?_; rintro e w4 ⟨⟨y0, y1, y2, rfl, hit⟩, hv⟩; obtain ⟨x0', x1', x2', xf2', f0', t0', t1', t2', t3', hlx'⟩ := HKP.out w4 hv; have HAC4 := Lib.hid (fun o => (HACC.out.keep (fun k hk hk2 => ((HU.out w4 hv).1.block k hk2)) : Acc w4 (w1.heap.size + 1) (zeroL l kk) (.slice A2 n2 cap2)).below ((Below.refl _ _).alloc (Nat.le_refl _) o)); have HIT := Lib.hid hit; obtain ⟨AA, ccap, rfl, rfl, rfl, _⟩ := hit.open_; have HYS := Lib.hid (fun o => ItS.keep (S' := fun k => w1.heap.size + 1 ≤ k ∧ (Value.slice A2 n2 cap2).ownBlock ≠ some k) (w' := w4.alloc o) (fun k _ hS => ⟨by have hS : wr.heap.size + 1 ≤ k := hS; omega, fun e => by have hS : wr.heap.size + 1 ≤ k := hS; have := (HACC.out.ge k e).2; omega⟩) (fun q hq _ => World.cell?_alloc_lt _ _ _ hq) _ HIT.out); have hvz := hv.size; have HV4 := Lib.hid hv; clear hit hv))
          all_goals
            have hw13 := HW13.out
            have hHZ := HHZ.out
            have hge := HACC.out.ge
            have HBF : Hid (Below w.heap.size w w5) := Lib.hid (((HB.out.trans ((HU.out w4 HV4.out).1.mono (by omega))).alloc (by omega) _).grown HG5.out (by simp; omega) (fun k hk => by have := (hge k hk).1; omega))
            have HRF : Hid (Blk w5 (w.heap.size + 1) 27 #[.string ⟨#[]⟩, .bool false, .slice none 0 0]) := Lib.hid (((HBR.out.keep (HU.out w4 HV4.out).1 (by omega)).alloc _).grown HG5.out (fun e => by have := (hge _ e).1; omega))
            have hz5 := HG5.out.size
            simp only [World.size_alloc] at hz5
            have HZ5 : Hid (w1.heap.size + 1 ≤ w5.heap.size ∧ w.heap.size + 2 ≤ w1.heap.size) := Lib.hid (by omega)
            clear hw13 hHZ hge hz5
            go_wp2
            go_roundw
            case rel =>
              have hzz := HZ5.out
              refine ⟨kk + 1, .slice (some ⟨g', 0, none⟩) n' cap', by omega, by go_num, HX5.out.store rfl, ?_, HRF.out.far (by simp; omega) _, HBF.out.setCell (by simp; omega) _, by simp [World.setCell]; omega⟩
              rw [HN.out]
              exact HA5.out.only ((Only.refl [w1.heap.size] w5).setCell (p := ⟨w1.heap.size, 2, none⟩) (by simp) _) (by simp)
            case measure => simp [intOf]; omega
        · have hkm : kk = m := by omega
          have HE : Hid (R = .mk ⟨#[]⟩ true (zeroL l kk)) := Lib.hid (by rw [HX.out, hkm])
          go_wp2
          refine bodyPost_ret (v := .agg #[.string ⟨#[]⟩, .bool true, .slice A2 n2 cap2]) (by simp [results, Tryd.results54, go_sem, r0, r1, r2]) rfl ?_
          rw [HE.out]
          refine ⟨⟨_, _, _, rfl, ?_⟩, ((HB.out.setCell (by simp) _).setCell (by simp) _).setCell (by simp) _⟩
          have ha3 : Acc _ (w1.heap.size + 1) (zeroL l kk) (.slice A2 n2 cap2) := HACC.out.only (L := [w.heap.size + 1]) (w' := ((wr.setCell ⟨w.heap.size + 1, 0, none⟩ (.string ⟨#[]⟩)).setCell ⟨w.heap.size + 1, 1, none⟩ (.bool true)).setCell ⟨w.heap.size + 1, 2, none⟩ (.slice A2 n2 cap2)) ((((Only.refl _ _).setCell (by simp) _).setCell (by simp) _).setCell (by simp) _) (by have := HW13.out; simp; omega)
          exact (ha3.list (by omega)).weak fun k _ hk => by
            have hk : w1.heap.size + 1 ≤ k := hk
            have := HW13.out
            show w.heap.size ≤ k
            omega
end Go.Proofs.YtmcdgmepheibkaaDoor
