/- split.Join, the document's Join, and the law's bound on frames. -/
/- The document's Join. -/
import Derived.Test.YtebllmpdlapefaaGreatDoorKA38
import Derived.Test.YtebllmpdlapefaaGreatDoorKA39
import Derived.Test.YtebllmpdlapefaaGreatDoorKA32
import Derived.Test.YtebllmpdlapefaaGreatDoorKWirePuts
namespace Go.Proofs.YtebllmpdlapefaaGreatDoor
set_option linter.unusedVariables false
set_option linter.unusedSimpArgs false
open Go.RowKit

theorem wBytes_small (c : Cfg) (f : Fr) (hf : f.ok) (hb : f.body.size ≤ 200) : (wBytes c f).1.size ≤ 1000 := by
  have hl := lebL_length 10 f.id (by have := hf.id; omega) (by omega)
  have hp := pack_length f.body.data.toList
  rw [toList_size] at hp
  unfold wBytes
  split
  · split
    · rename_i hm
      split
      · simp
      · simp only; rw [cnPut_size c.mg f.nm f.body (nmMay_size hm).2]; omega
    · simp
  · split
    · split
      · simp
      · simp only
        rw [size_of]
        have h2 := lebL_length 10 ((lebL f.id).length + f.body.data.toList.length) (by rw [toList_size]; omega) (by omega)
        unfold plPut
        rw [List.length_append, List.length_append]
        rw [toList_size] at *
        omega
    · split
      · simp
      · split
        · simp
        · simp only
          rw [size_of]
          have h2 := lebL_length 10 ((lebL f.id).length + (pack f.body.data.toList).length) (by omega) (by omega)
          unfold plPut
          rw [List.length_append, List.length_append]
          omega
theorem wPut_small (c : Cfg) (f : Fr) (hf : f.ok) (hb : f.body.size ≤ 200) : (wPut c f).1.size ≤ 1000 ∧ ((wPut c f).2 = 0 → (wPut c f).1.data.toList ≠ []) := by
  constructor
  · unfold wPut
    have := wBytes_small c f hf hb
    split
    · split
      · simp
      · split
        · simp
        · exact this
    · simp
  · intro h
    obtain ⟨⟨m, h1⟩, h2⟩ := wRaw_put hf.id (S := (wPut c f).1) (Prod.ext rfl h) ByteArray.empty
    have hr : c.right = true := by
      unfold wPut at h
      by_cases hx : c.right = true ∧ wFits c f = true
      · exact hx.1
      · rw [if_neg hx] at h; cases h
    have h3 := (wNext_ok c).pos ((wPut c f).1 ++ ByteArray.empty) (by rw [wNext_right hr, h1])
    rw [wNext_right hr, h1] at h3
    intro hn
    have : (wPut c f).1.size = 0 := by rw [← toList_size, hn]; rfl
    simp only at h3
    omega
/-- Frames that the laws do not look at. -/
def grF (l : List Fr) : Bool := decide (20 < l.length) || l.any (fun f => decide (200 < f.body.size) || decide (100 < f.nm.size))
def wJoinA (c : Cfg) (l : List Fr) : ByteArray × Int := if c.right = true then wJoin c ByteArray.empty l else (ByteArray.empty, 1)
theorem wJoin_at (c : Cfg) (acc : ByteArray) (l : List Fr) (j : Nat) (h : j < l.length) : wJoin c acc (l.drop j) = if (wPut c l[j]).2 ≠ 0 then (ByteArray.empty, (wPut c l[j]).2) else wJoin c (acc ++ (wPut c l[j]).1) (l.drop (j + 1)) := by
  rw [List.drop_eq_getElem_cons h, wJoin]
set_option maxRecDepth 100000 in
set_option maxHeartbeats 1000000 in
theorem great18_c (v : Value) (l : List Fr) (B : Nat) (w : World) (h : FrR w B v l) (hB : B ≤ w.heap.size) (ho : ∀ f ∈ l, f.ok) :
    Calls Tryz.prog 30 #[v] w fun e w' => e = .returned (.bool (grF l)) ∧ w = w' := by
  obtain ⟨A, n, cap, rfl, hn, hnc, hcm⟩ := h.form'
  by_cases h1 : 20 < n
  · have hg : grF l = true := by unfold grF; rw [← hn.out]; simp [h1]
    rw [hg]
    clear h
    go_enter Tryz.func30, Tryz.ntmps30
    go_wp2
    go_ret
    exact ⟨rfl, rfl⟩
  have H := Lib.hid h
  have HO := Lib.hid ho
  have HG : Hid (grF l = l.any (fun f => decide (200 < f.body.size) || decide (100 < f.nm.size))) := Lib.hid (by unfold grF; rw [← hn.out]; simp; omega)
  clear h ho
  go_enter Tryz.func30, Tryz.ntmps30
  go_wp2
  go_loopw [3] (fun i wr => ∃ j : Nat, i = .int .i64 j ∧ j ≤ n ∧ Hid (l.any (fun f => decide (200 < f.body.size) || decide (100 < f.nm.size)) = (l.drop j).any (fun f => decide (200 < f.body.size) || decide (100 < f.nm.size))) ∧ w = wr) (fun i _ => n - (intOf i).toNat)
  case atStart => exact ⟨0, rfl, by omega, Lib.hid (by simp), rfl⟩
  case round =>
    obtain ⟨j, rfl, hj, HD, rfl⟩ := hrel
    by_cases hlt : j < n
    · have hjl : j < l.length := by rw [← hn.out]; exact hlt
      obtain ⟨g, o, rfl, hg, e0, e1, e2⟩ := H.out.at_ hjl
      have hfo := HO.out l[j] (List.getElem_mem hjl)
      have HD2 : Hid (l.any (fun f => decide (200 < f.body.size) || decide (100 < f.nm.size)) = ((decide (200 < l[j].body.size) || decide (100 < l[j].nm.size)) || (l.drop (j + 1)).any (fun f => decide (200 < f.body.size) || decide (100 < f.nm.size)))) := Lib.hid (by
        rw [HD.out, List.drop_eq_getElem_cons hjl, List.any_cons])
      obtain ⟨x, hx⟩ : ∃ x, l[j] = x := ⟨_, rfl⟩
      rw [hx] at e0 e1 e2 HD2 hfo
      clear hx HD
      have hf1 := hfo.nm
      have hf2 := hfo.body
      obtain ⟨x1, x2, x3⟩ := x
      simp only at e0 e1 e2 HD2 hf1 hf2
      clear hfo
      by_cases hb1 : 200 < x3.size
      · have HR : Hid (grF l = true) := Lib.hid (by rw [HG.out, HD2.out]; simp [hb1])
        go_wp2
        go_ret
        exact ⟨by rw [HR.out]; rfl, rfl⟩
      · by_cases hb2 : 100 < x2.size
        · have HR : Hid (grF l = true) := Lib.hid (by rw [HG.out, HD2.out]; simp [hb2])
          go_wp2
          go_ret
          exact ⟨by rw [HR.out]; rfl, rfl⟩
        · have HD3 : Hid (l.any (fun f => decide (200 < f.body.size) || decide (100 < f.nm.size)) = (l.drop (j + 1)).any (fun f => decide (200 < f.body.size) || decide (100 < f.nm.size))) := Lib.hid (by rw [HD2.out]; simp [hb1, hb2])
          clear HD2
          go_wp2
          go_roundw
          case rel => exact ⟨j + 1, by go_num, by omega, HD3, trivial⟩
          case measure => simp [intOf]; omega
    · have HR : Hid (grF l = false) := Lib.hid (by rw [HG.out, HD.out, List.drop_eq_nil_of_le (by rw [← hn.out]; omega)]; rfl)
      go_wp2
      go_ret
      exact ⟨by rw [HR.out]; rfl, rfl⟩
theorem Bld.keep {w w' : World} {base b : Nat} {l : List UInt8} (h : Bld w base b l) (hb : Below w.heap.size w w') : Bld w' base b l := by
  obtain ⟨h1, p, v, h2, h3, h4, h5⟩ := h
  exact ⟨h1, p, v, h2.keep hb h2.lt, h3, h4.below hb, h5⟩
theorem KeptB.more {E : TypeId} {base b : Nat} {w0 w w' : World} (h : KeptB E base b w0 w) (hb : Below w.heap.size w w') (hB : base ≤ w.heap.size) : KeptB E base b w0 w' :=
  h.trans ((Kept.of_below hb (Nat.le_refl _) hB).b b)
set_option maxRecDepth 100000 in
set_option maxHeartbeats 2000000 in
theorem join_c (c : Cfg) (v : Value) (l : List Fr) (B : Nat) (w : World) (hc : c.ok) (h : FrR w B v l) (hB : B ≤ w.heap.size) (ho : ∀ f ∈ l, f.ok ∧ f.body.size ≤ 200) (hl : l.length ≤ 20) :
    Calls Tryz.prog 31 #[c.val, v] w fun e w' => e = .returned (.tuple #[.string (wJoinA c l).1, .int .i64 (wJoinA c l).2]) ∧ Below w.heap.size w w' := by
  obtain ⟨A, n, cap, rfl, hn, hnc, hcm⟩ := h.form'
  have hn20 : n ≤ 20 := by rw [hn.out]; exact hl
  have HRT := Lib.hid (right_c c)
  have HP := Lib.hid (fun f h1 h2 V => wPut_c c f hc h1 h2 V)
  have HWJ : Hid (wJoinA c l = if c.right = true then wJoin c ByteArray.empty l else (ByteArray.empty, 1)) := Lib.hid rfl
  have H := Lib.hid h
  have HO := Lib.hid ho
  clear h ho hl
  unfold Cfg.val at *
  generalize wJoinA c l = J at *
  cases hr : c.right with
  | false =>
    rw [hr] at HRT HWJ
    obtain rfl : J = (ByteArray.empty, 1) := by rw [HWJ.out]; rfl
    obtain ⟨W0, hW0⟩ : ∃ W0, w.alloc (.cells #[.int .i64 c.fm, .int .u32 c.mg, .int .i64 c.fr, .int .i64 c.un, .int .i64 c.de, .int .i64 c.it] 24) = W0 := ⟨_, rfl⟩
    have HB0 : Hid (Below w.heap.size w W0) := Lib.hid (by rw [← hW0]; exact (by repeat (first | exact Below.refl _ _ | assumption | with_reducible refine Below.drewN' ?_ _ | with_reducible refine Below.drew ?_ | ((with_reducible refine Below.alloc' ?_ ?_ _); · (first | omega | (simp <;> omega))))))
    have HW0 := Lib.hid hW0
    clear hW0
    go_enter Tryz.func31, Tryz.ntmps31
    go_wp2_with fail
    rw [HW0.out]
    refine (HRT.out _).mono ?_
    rintro e w1 ⟨rfl, hb⟩
    have HB1 := Lib.hid (HB0.out.trans (hb.mono HB0.out.size))
    clear hb
    go_wp2
    go_ret2
    exact ⟨rfl, HB1.out⟩
  | true =>
    rw [hr] at HRT HWJ
    rw [if_pos rfl] at HWJ
    obtain ⟨W0, hW0⟩ : ∃ W0, w.alloc (.cells #[.int .i64 c.fm, .int .u32 c.mg, .int .i64 c.fr, .int .i64 c.un, .int .i64 c.de, .int .i64 c.it] 24) = W0 := ⟨_, rfl⟩
    have HB0 : Hid (Below w.heap.size w W0) := Lib.hid (by rw [← hW0]; exact (by repeat (first | exact Below.refl _ _ | assumption | with_reducible refine Below.drewN' ?_ _ | with_reducible refine Below.drew ?_ | ((with_reducible refine Below.alloc' ?_ ?_ _); · (first | omega | (simp <;> omega))))))
    have HK0 : Hid (Blk W0 w.heap.size 24 #[.int .i64 c.fm, .int .u32 c.mg, .int .i64 c.fr, .int .i64 c.un, .int .i64 c.de, .int .i64 c.it]) := Lib.hid (by rw [← hW0]; exact Blk.new _ _ _)
    have HW0 := Lib.hid hW0
    clear hW0
    go_enter Tryz.func31, Tryz.ntmps31
    go_wp2_with fail
    rw [HW0.out]
    refine (HRT.out _).mono ?_
    rintro e w1 ⟨rfl, hb⟩
    have HB1 := Lib.hid (HB0.out.trans (hb.mono HB0.out.size))
    have HK1 := Lib.hid (HK0.out.keep hb HK0.out.lt)
    clear hb HB0 HK0 HRT
    have hw1 : w.heap.size < w1.heap.size := HK1.out.lt
    go_wp2
    obtain ⟨W2, hW2⟩ : ∃ W2, w1.alloc (.cells #[.pointer none, .slice none 0 0] 106) = W2 := ⟨_, rfl⟩
    have HBL : Hid (Bld W2 (w1.heap.size + 1) w1.heap.size []) := Lib.hid (by rw [← hW2]; exact ⟨by omega, _, _, Blk.new _ _ _, .inl rfl, Buf.nil _ _ _, fun _ => rfl⟩)
    have HK2 := Lib.hid (HK1.out.alloc (.cells #[.pointer none, .slice none 0 0] 106))
    have HB2 : Hid (Below w.heap.size w W2) := Lib.hid (by rw [← hW2]; exact HB1.out.alloc HB1.out.size _)
    have HZ2 : Hid (W2.heap.size = w1.heap.size + 1) := Lib.hid (by rw [← hW2]; simp)
    rw [hW2] at HK2 ⊢
    have HR2 := Lib.hid (H.out.below (HB2.out.mono hB))
    clear hW2 HK1 HB1 H
    go_loopw [16] (fun i wr => ∃ (j : Nat) (acc : List UInt8), i = .int .i64 j ∧ j ≤ n ∧ Hid (Bld wr (w1.heap.size + 1) w1.heap.size acc) ∧ Hid (KeptB 5 (w1.heap.size + 1) w1.heap.size W2 wr) ∧ Hid (wJoin c ByteArray.empty l = wJoin c ⟨acc.toArray⟩ (l.drop j)) ∧ acc.length ≤ 1000 * j) (fun i _ => n - (intOf i).toNat)
    case atStart => exact ⟨0, [], rfl, by omega, HBL, Lib.hid (KeptB.refl _ _ _ _), Lib.hid rfl, by simp⟩
    case round =>
      obtain ⟨j, acc, rfl, hj, HBj, HKj, HJj, hacc⟩ := hrel
      clear HBL
      have hzr : w1.heap.size + 1 ≤ wr.heap.size := by rw [← HZ2.out]; exact HKj.out.size
      have hkb : Blk wr w.heap.size 24 #[.int .i64 c.fm, .int .u32 c.mg, .int .i64 c.fr, .int .i64 c.un, .int .i64 c.de, .int .i64 c.it] := (HKj.out.block _ (by omega) (by omega)).trans HK2.out
      by_cases hlt : j < n
      · have hjl : j < l.length := by rw [← hn.out]; exact hlt
        obtain ⟨g, o, rfl, hg, e0, e1, e2⟩ := (HR2.out.keep (Nat.le_refl _) (fun p hp => World.cell?_of_block (HKj.out.block _ (by omega) (by omega)))).at_ hjl
        obtain ⟨hfo, hfb⟩ := HO.out l[j] (List.getElem_mem hjl)
        have HJ2 := Lib.hid (HJj.out.trans (wJoin_at c ⟨acc.toArray⟩ l j hjl))
        obtain ⟨x, hx⟩ : ∃ x, l[j] = x := ⟨_, rfl⟩
        rw [hx] at e0 e1 e2 hfo hfb HJ2
        clear hx HJj
        have HPX := Lib.hid (fun V => HP.out x hfo (by omega) V)
        obtain ⟨hsm, hne⟩ := wPut_small c x hfo hfb
        obtain ⟨x1, x2, x3⟩ := x
        simp only at e0 e1 e2
        unfold Fr.val at HPX
        simp only at HPX
        generalize wPut c ⟨x1, x2, x3⟩ = Y at *
        obtain ⟨T, er⟩ := Y
        simp only at hsm hne HPX HJ2
        have hkq := hkb.alloc (.cells #[.int .u64 x1, .string x2, .string x3] 27)
        have q0 : _ = some (Value.int .i64 c.fm) := hkq.cell 0
        have q1 : _ = some (Value.int .u32 c.mg) := hkq.cell 1
        have q2 : _ = some (Value.int .i64 c.fr) := hkq.cell 2
        have q3 : _ = some (Value.int .i64 c.un) := hkq.cell 3
        have q4 : _ = some (Value.int .i64 c.de) := hkq.cell 4
        have q5 : _ = some (Value.int .i64 c.it) := hkq.cell 5
        have HBq := Lib.hid (HBj.out.keep ((Below.refl wr.heap.size wr).alloc (Nat.le_refl _) (.cells #[.int .u64 x1, .string x2, .string x3] 27)))
        have HKq := Lib.hid (HKj.out.more ((Below.refl wr.heap.size wr).alloc (Nat.le_refl _) (.cells #[.int .u64 x1, .string x2, .string x3] 27)) hzr)
        clear hkq hkb HBj HKj hfo hfb
        go_wp2_with fail
        refine (HPX.out _).mono ?_
        rintro e w5 ⟨rfl, hb5⟩
        have hz5 : w1.heap.size + 1 ≤ w5.heap.size := by have := hb5.size; simp at this; omega
        have HB5 := Lib.hid (HBq.out.keep hb5)
        have HK5 := Lib.hid (HKq.out.more hb5 (by simp; omega))
        clear hb5 HBq HKq q0 q1 q2 q3 q4 q5 e0 e1 e2
        by_cases h0 : er = 0
        · subst h0
          rw [if_neg (by simp)] at HJ2
          have HWS := Lib.hid (writeStr_c w1.heap.size (w1.heap.size + 1) w5 acc T HB5.out (hne rfl) hz5 (by omega))
          clear HB5 hne
          go_wp2_with fail
          refine HWS.out.mono ?_
          rintro e w6 ⟨rfl, hb6, hk6⟩
          have HB6 := Lib.hid hb6
          have HK6 := Lib.hid (HK5.out.trans hk6)
          clear hb6 hk6 HK5 HWS
          go_wp2
          go_roundw
          case rel => exact ⟨j + 1, acc ++ T.data.toList, by go_num, by omega, HB6, HK6, Lib.hid (by rw [HJ2.out]; congr 1), by rw [List.length_append, toList_size]; omega⟩
          case measure => simp [intOf]; omega
        · have h4 : (er != 0) = true := bne_iff_ne.2 h0
          rw [if_pos h0] at HJ2
          have HF : Hid (J = (ByteArray.empty, er)) := Lib.hid (by rw [HWJ.out, HJ2.out])
          have HBE : Hid (Below w.heap.size w w5) := Lib.hid (HB2.out.trans (HK5.out.below (by omega) (by omega)))
          clear HB5 hne HJ2 HK5
          go_wp2
          go_ret2
          exact ⟨by rw [HF.out]; rfl, HBE.out⟩
      · have HF : Hid (J = (⟨acc.toArray⟩, 0)) := Lib.hid (by rw [HWJ.out, HJj.out, List.drop_eq_nil_of_le (by rw [← hn.out]; omega)]; rfl)
        have HSS := Lib.hid (bldString_c w1.heap.size (w1.heap.size + 1) wr acc HBj.out (by omega) w.heap.size (by omega))
        have HBE : Hid (Below w.heap.size w wr) := Lib.hid (HB2.out.trans (HKj.out.below (by omega) (by omega)))
        clear hkb HJj HKj
        go_wp2_with fail
        refine HSS.out.mono ?_
        rintro e w6 ⟨rfl, hb6, _⟩
        have HB6 := Lib.hid (HBE.out.trans hb6)
        clear hb6
        go_wp2
        go_ret2
        exact ⟨by rw [HF.out]; rfl, HB6.out⟩
end Go.Proofs.YtebllmpdlapefaaGreatDoor
namespace Go.Proofs.YtebllmpdlapefaaGreatDoor
set_option linter.unusedVariables false
set_option linter.unusedSimpArgs false
open Go.RowKit

set_option maxRecDepth 100000 in
set_option maxHeartbeats 2000000 in
theorem refJoin18_c (c : Cfg) (v : Value) (l : List Fr) (B : Nat) (w : World) (hc : c.ok) (h : FrR w B v l) (hB : B ≤ w.heap.size) (ho : ∀ f ∈ l, f.ok ∧ f.body.size ≤ 200) (hl : l.length ≤ 20) :
    Calls Tryz.prog 32 #[keyV, c.val, v] w fun e w' => e = .returned (.tuple #[.string (wJoinA c l).1, .int .i64 (wJoinA c l).2]) ∧ Below w.heap.size w w' := by
  obtain ⟨A, n, cap, rfl, hn, hnc, hcm⟩ := h.form'
  have hn20 : n ≤ 20 := by rw [hn.out]; exact hl
  have HRT := Lib.hid (refRight17_c c)
  have HP := Lib.hid (fun f h1 h2 V => refPut17_c c f hc h1 h2 V)
  have HWJ : Hid (wJoinA c l = if c.right = true then wJoin c ByteArray.empty l else (ByteArray.empty, 1)) := Lib.hid rfl
  have H := Lib.hid h
  have HO := Lib.hid ho
  clear h ho hl
  unfold keyV Cfg.val at *
  have HI := Lib.hid (info_key' 64)
  generalize kC 64 = KL at *
  generalize wJoinA c l = J at *
  obtain ⟨W0, hW0⟩ : ∃ W0, (w.alloc (.cells KL 32)).alloc (.cells #[.int .i64 c.fm, .int .u32 c.mg, .int .i64 c.fr, .int .i64 c.un, .int .i64 c.de, .int .i64 c.it] 24) = W0 := ⟨_, rfl⟩
  have hN := two_new hW0
  have HKB : Hid (∀ V, Below (w.heap.size + 2) W0 V → Blk V w.heap.size 32 KL ∧ Blk V (w.heap.size + 1) 24 #[.int .i64 c.fm, .int .u32 c.mg, .int .i64 c.fr, .int .i64 c.un, .int .i64 c.de, .int .i64 c.it] ∧ FrR V B (.slice A n cap) l ∧ Below w.heap.size w V ∧ w.heap.size + 2 ≤ V.heap.size) := Lib.hid (fun V hV => by
    have hb := hN.2.1.trans (hV.mono (by omega))
    exact ⟨hN.2.2.1.keep hV (by omega), hN.2.2.2.keep hV (by omega), H.out.below (hb.mono hB), hb, by have := hV.size; omega⟩)
  have HZ0 : Hid (W0.heap.size = w.heap.size + 2) := Lib.hid hN.1
  have HW0 := Lib.hid hW0
  clear hW0 hN
  obtain ⟨_, hcb, _, hbw, _⟩ := HKB.out W0 (Below.refl _ _)
  have q0 : W0.cell? ⟨w.heap.size + 1, 0, none⟩ = some (.int .i64 c.fm) := hcb.cell 0
  have q1 : W0.cell? ⟨w.heap.size + 1, 1, none⟩ = some (.int .u32 c.mg) := hcb.cell 1
  have q2 : W0.cell? ⟨w.heap.size + 1, 2, none⟩ = some (.int .i64 c.fr) := hcb.cell 2
  have q3 : W0.cell? ⟨w.heap.size + 1, 3, none⟩ = some (.int .i64 c.un) := hcb.cell 3
  have q4 : W0.cell? ⟨w.heap.size + 1, 4, none⟩ = some (.int .i64 c.de) := hcb.cell 4
  have q5 : W0.cell? ⟨w.heap.size + 1, 5, none⟩ = some (.int .i64 c.it) := hcb.cell 5
  clear hcb hbw
  cases hr : c.right with
  | false =>
    rw [hr] at HRT HWJ
    obtain rfl : J = (ByteArray.empty, 1) := by rw [HWJ.out]; rfl
    go_enter Tryz.func32, Tryz.ntmps32
    go_wp2_with fail
    rw [HW0.out]
    refine (HRT.out _).mono ?_
    rintro e w1 ⟨rfl, hb⟩
    have HB1 : Hid (Below (w.heap.size + 2) W0 w1) := Lib.hid (hb.mono (by rw [HZ0.out]; omega))
    clear hb
    obtain ⟨_, _, _, hbw, _⟩ := HKB.out w1 HB1.out
    have HBW := Lib.hid hbw
    clear hbw
    go_wp2
    go_ret2
    exact ⟨rfl, HBW.out⟩
  | true =>
    rw [hr] at HRT HWJ
    rw [if_pos rfl] at HWJ
    go_enter Tryz.func32, Tryz.ntmps32
    go_wp2_with fail
    rw [HW0.out]
    refine (HRT.out _).mono ?_
    rintro e w1 ⟨rfl, hb⟩
    have HB1 : Hid (Below (w.heap.size + 2) W0 w1) := Lib.hid (hb.mono (by rw [HZ0.out]; omega))
    clear hb q0 q1 q2 q3 q4 q5 HRT
    go_wp2
    go_loopw [8, 9] (fun sv i wr => ∃ (j : Nat) (acc : ByteArray), sv = .string acc ∧ i = .int .i64 j ∧ j ≤ n ∧ Hid (Below (w.heap.size + 2) W0 wr) ∧ Hid (wJoin c ByteArray.empty l = wJoin c acc (l.drop j)) ∧ acc.size ≤ 1000 * j) (fun _ i _ => n - (intOf i).toNat)
    case atStart => exact ⟨0, ByteArray.empty, rfl, rfl, by omega, HB1, Lib.hid rfl, by simp⟩
    case round =>
      obtain ⟨j, acc, rfl, rfl, hj, HBj, HJj, hacc⟩ := hrel
      obtain ⟨hkk, hkc, hfr, hbw, hz⟩ := HKB.out wr HBj.out
      have HKK := Lib.hid hkk
      have HKC := Lib.hid hkc
      have HBW := Lib.hid hbw
      clear hkk hkc hbw
      by_cases hlt : j < n
      · have hjl : j < l.length := by rw [← hn.out]; exact hlt
        obtain ⟨g, o, rfl, hg, e0, e1, e2⟩ := hfr.at_ hjl
        have hgl : g < wr.heap.size := by omega
        obtain ⟨hfo, hfb⟩ := HO.out l[j] (List.getElem_mem hjl)
        have HJ2 := Lib.hid (HJj.out.trans (wJoin_at c acc l j hjl))
        obtain ⟨x, hx⟩ : ∃ x, l[j] = x := ⟨_, rfl⟩
        rw [hx] at e0 e1 e2 hfo hfb HJ2
        clear hx HJj hfr
        have HPX := Lib.hid (fun V => HP.out x hfo (by omega) V)
        obtain ⟨hsm, _⟩ := wPut_small c x hfo hfb
        obtain ⟨x1, x2, x3⟩ := x
        simp only at e0 e1 e2
        unfold Fr.val at HPX
        simp only at HPX
        generalize wPut c ⟨x1, x2, x3⟩ = Y at *
        obtain ⟨T, er⟩ := Y
        simp only at hsm HPX HJ2
        clear hfo hfb
        go_wp2
        refine wp_region_below (by kernel_rfl) (by kernel_rfl) ?_
        refine wpQuiet_loadG (by rfl) 32 (.tmp 3) (by rfl) w.heap.size (by rfl) 32 KL (0, 0) _ (by intro w' hw'; exact HKK.out.keep hw' HKK.out.lt) Tryz.underlying32 rfl HI.out ?_
        simp only [Act.put, List.setIfInBounds_toArray, List.set_cons_zero, List.set_cons_succ]
        refine wpQuiet_loadG (by rfl) 24 (.tmp 4) (by rfl) (w.heap.size + 1) (by rfl) 24 #[.int .i64 c.fm, .int .u32 c.mg, .int .i64 c.fr, .int .i64 c.un, .int .i64 c.de, .int .i64 c.it] (0, 0) _ (by intro w' hw'; exact HKC.out.keep hw' HKC.out.lt) Tryz.underlying24 rfl info_cfg ?_
        simp only [Act.put, List.setIfInBounds_toArray, List.set_cons_zero, List.set_cons_succ]
        refine wpQuiet_run (.slice (some ⟨g, o, none⟩) n cap) (by rfl) (fun _ _ => by first | rfl | go_simp) ?_
        simp only [Act.put, List.setIfInBounds_toArray, List.set_cons_zero, List.set_cons_succ]
        refine wpQuiet_run (.int .i64 j) (by rfl) (fun _ _ => by first | rfl | go_simp) ?_
        simp only [Act.put, List.setIfInBounds_toArray, List.set_cons_zero, List.set_cons_succ]
        refine wpQuiet_run (.pointer (some ⟨g, o + j * 3, none⟩)) (by rfl) (fun _ _ => by first | rfl | go_simp) ?_
        simp only [Act.put, List.setIfInBounds_toArray, List.set_cons_zero, List.set_cons_succ]
        refine wpQuiet_run (.agg #[.int .u64 x1, .string x2, .string x3]) (by rfl) (fun w' hw' => by
          have f0 := (hw'.cell (p := ⟨g, o + j * 3, none⟩) (by simpa using hgl)).trans e0
          have f1 := (hw'.cell (p := ⟨g, o + j * 3 + 1, none⟩) (by simpa using hgl)).trans e1
          have f2 := (hw'.cell (p := ⟨g, o + j * 3 + 2, none⟩) (by simpa using hgl)).trans e2
          go_simp) ?_
        simp only [Act.put, List.setIfInBounds_toArray, List.set_cons_zero, List.set_cons_succ]
        refine wpQuiet_callB 16 _ _ (by rfl) (fun _ => by first | rfl | go_simp) (fun w _ => HPX.out _) ?_
        simp only [Act.put, List.setIfInBounds_toArray, List.set_cons_zero, List.set_cons_succ]
        refine wpQuiet_run (.tuple #[.string T, .int .i64 er]) (by rfl) (fun _ _ => by first | rfl | go_simp) ?_
        simp only [Act.put, List.setIfInBounds_toArray, List.set_cons_zero, List.set_cons_succ]
        refine wpQuiet_run (.string T) (by rfl) (fun _ _ => by first | rfl | go_simp) ?_
        simp only [Act.put, List.setIfInBounds_toArray, List.set_cons_zero, List.set_cons_succ]
        refine wpQuiet_run (.int .i64 er) (by rfl) (fun _ _ => by first | rfl | go_simp) ?_
        simp only [Act.put, List.setIfInBounds_toArray, List.set_cons_zero, List.set_cons_succ]
        refine wpQuiet_run (.string T) (by rfl) (fun _ _ => by first | rfl | go_simp) ?_
        simp only [Act.put, List.setIfInBounds_toArray, List.set_cons_zero, List.set_cons_succ]
        refine wpQuiet_run (.int .i64 er) (by rfl) (fun _ _ => by first | rfl | go_simp) ?_
        simp only [Act.put, List.setIfInBounds_toArray, List.set_cons_zero, List.set_cons_succ]
        refine wpQuiet_nil ?_
        intro w5 hb5
        have HB5 : Hid (Below (w.heap.size + 2) W0 w5) := Lib.hid (HBj.out.trans (hb5.mono hz))
        clear hb5 e0 e1 e2 HKK HKC HBW
        by_cases h0 : er = 0
        · subst h0
          rw [if_neg (by simp)] at HJ2
          go_wp2
          go_roundw
          case rel => exact ⟨j + 1, acc ++ T, rfl, by go_num, by omega, HB5, HJ2, by rw [size_app]; omega⟩
          case measure => simp [intOf]; omega
        · have h4 : (er != 0) = true := bne_iff_ne.2 h0
          rw [if_pos h0] at HJ2
          have HF : Hid (J = (ByteArray.empty, er)) := Lib.hid (by rw [HWJ.out, HJ2.out])
          obtain ⟨_, _, _, hbw, _⟩ := HKB.out w5 HB5.out
          have HBE := Lib.hid hbw
          clear hbw HJ2
          go_wp2
          go_ret2
          exact ⟨by rw [HF.out]; rfl, HBE.out⟩
      · have HF : Hid (J = (acc, 0)) := Lib.hid (by rw [HWJ.out, HJj.out, List.drop_eq_nil_of_le (by rw [← hn.out]; omega)]; rfl)
        clear HJj hfr
        go_wp2
        go_ret2
        exact ⟨by rw [HF.out]; rfl, HBW.out⟩
end Go.Proofs.YtebllmpdlapefaaGreatDoor
