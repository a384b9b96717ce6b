/- snap.Size and snap.Unpack: what they tell. -/
/- snap.Unpack with a meter: the size is taken ahead. -/
import Derived.Test.YtebllmpdlapefaaGreatDoorKSnap
import Derived.Deep.LoopGhost
import Derived.Test.YtebllmpdlapefaaGreatDoorKA25
namespace Go.Proofs.YtebllmpdlapefaaGreatDoor
set_option linter.unusedVariables false
set_option linter.unusedSimpArgs false
open Go.RowKit

theorem tri {x y : Nat × Nat × Int} {a b c : Int} (h : x = y) (ha : a = y.1) (hb : b = y.2.1) (hc : c = y.2.2) : Ending.returned (.tuple #[.int .i64 a, .int .i64 b, .int .i64 c]) = .returned (.tuple #[.int .i64 x.1, .int .i64 x.2.1, .int .i64 x.2.2]) := by
  subst h; rw [ha, hb, hc]
theorem two {x : Int × List UInt8} {e : Int} {l : List UInt8} (h : x = (e, l)) : Ending.returned (.tuple #[.string ⟨l.toArray⟩, .int .i64 e]) = .returned (.tuple #[.string ⟨x.2.toArray⟩, .int .i64 x.1]) := by
  subst h; rfl

set_option maxHeartbeats 400000 in
theorem size_c (s : ByteArray) (w : World) (hs : s.size ≤ 9223372036854775807) :
    Calls Tryz.prog 141 #[.string s] w fun e w' => e = .returned (.tuple #[.int .i64 (sSize s).1, .int .i64 (sSize s).2.1, .int .i64 (sSize s).2.2]) ∧ w = w' := by
  have hl := fun w => lebNext_c s w hs
  have hz : sSize s = if (lebNext s).2.2 = 0 then (if 4294967295 < (lebNext s).1 then (0, 0, 5) else lebNext s) else (0, 0, (lebNext s).2.2) := rfl
  generalize lebNext s = x at *
  obtain ⟨n, hd, er⟩ := x
  generalize sSize s = y at *
  simp only at hl hz
  have Hl := Lib.hid hl
  have Hz := Lib.hid hz
  clear hl hz
  rcases beq0 er with ⟨h0, h1, h2⟩ | ⟨h0, h1, h2⟩
  · subst h0
    clear h1 h2
    by_cases h3 : 4294967295 < n
    · have Hy : Hid (y = (0, 0, 5)) := Lib.hid (by rw [Hz.out, if_pos rfl, if_pos h3])
      clear Hz
      go_enter Tryz.func141, Tryz.ntmps141
      go_wp2_with fail
      refine (Hl.out _).mono ?_
      rintro e w' ⟨rfl, rfl⟩
      go_wp2
      go_ret3
      exact ⟨tri Hy.out rfl rfl rfl, rfl⟩
    · have Hy : Hid (y = (n, hd, 0)) := Lib.hid (by rw [Hz.out, if_pos rfl, if_neg h3])
      clear Hz
      go_enter Tryz.func141, Tryz.ntmps141
      go_wp2_with fail
      refine (Hl.out _).mono ?_
      rintro e w' ⟨rfl, rfl⟩
      go_wp2
      go_ret3
      exact ⟨tri Hy.out rfl rfl rfl, rfl⟩
  · have H0 := Lib.hid h0
    clear h0
    go_enter Tryz.func141, Tryz.ntmps141
    go_wp2_with fail
    refine (Hl.out _).mono ?_
    rintro e w' ⟨rfl, rfl⟩
    go_wp2
    go_ret3
    exact ⟨tri (Hz.out.trans (by rw [if_neg H0.out])) rfl rfl rfl, rfl⟩

theorem sSize_ok (s : ByteArray) (h : (sSize s).2.2 = 0) : (sSize s).1 ≤ 4294967295 ∧ 0 < (sSize s).2.1 ∧ (sSize s).2.1 ≤ 10 ∧ (sSize s).2.1 ≤ s.size := by
  have hz : sSize s = if (lebNext s).2.2 = 0 then (if 4294967295 < (lebNext s).1 then (0, 0, 5) else lebNext s) else (0, 0, (lebNext s).2.2) := rfl
  by_cases h0 : (lebNext s).2.2 = 0
  · have hk := lebNext_ok s h0
    by_cases h1 : 4294967295 < (lebNext s).1
    · rw [hz, if_pos h0, if_pos h1] at h; simp at h
    · rw [hz, if_pos h0, if_neg h1]; omega
  · rw [hz, if_neg h0] at h; exact absurd h h0

/-- What stands at the head of the loop over the elements: X is what all of them come to. -/
def UnpInv (g B size : Nat) (body : ByteArray) (X : Int × List UInt8) (w : World) (gk : Nat) (v : Value) (wr : World) : Prop :=
  ∃ (k : Nat) (out : List UInt8) (h' cap' : Nat) (f : Int), v = .slice (some ⟨h', 0, none⟩) out.length cap' ∧ wr.ownsRow B 5 1 (.slice (some ⟨h', 0, none⟩) out.length cap') out.length (cb out) ∧ Rdr wr g body k f ∧ Below B w wr ∧
    ((f = 0 ∧ k ≤ body.size ∧ out.length ≤ size ∧ Hid (sAll body size gk k out = X) ∧ body.size - k < gk) ∨ (Hid (f ≠ 0) ∧ (f == 0) = false ∧ (f != 0) = true ∧ Hid (X = (f, []))))
theorem unp_next {g B size : Nat} {body : ByteArray} {X : Int × List UInt8} {w w1 w2 : World} {gk k : Nat} {out : List UInt8} {e : Ending} (hB : Below B w w1) (hk : k < body.size) (ho : out.length ≤ size) (hx : sAll body size gk k out = X) (hgk : body.size - k < gk)
    (he : ElemEnd g body B B w1 (sStep body size k body[k].toNat out) e w2) : ∃ v, e = .returned v ∧ (∃ h' n c, v = .slice (some ⟨h', 0, none⟩) n c) ∧ UnpInv g B size body X w (gk - 1) v w2 := by
  obtain ⟨h', cap', k', rfl, hown, hr, hk', hb⟩ := he
  obtain ⟨f, rfl⟩ : ∃ f, gk = f + 1 := ⟨gk - 1, by omega⟩
  refine ⟨_, rfl, ⟨_, _, _, rfl⟩, k', _, h', cap', _, rfl, hown, hr, hB.trans hb, ?_⟩
  rcases beq0 (sStep body size k body[k].toNat out).1 with ⟨h0, h1, h2⟩ | ⟨h0, h1, h2⟩
  · have hs := sStep_ok body[k].toNat_lt hk ho h0
    have := hk' h0
    subst this
    exact .inl ⟨h0, by omega, hs.2.2, Lib.hid (sAll_next hk hx h0), by simp; omega⟩
  · exact .inr ⟨Lib.hid h0, h1, h2, Lib.hid (sAll_err hk hx h0)⟩


set_option maxRecDepth 100000 in
set_option maxHeartbeats 800000 in
theorem unpack_nil (s : ByteArray) (most : Int) (w : World) (hs : s.size ≤ 9223372036854775807) :
    Calls Tryz.prog 119 #[.string s, .int .i64 most, .pointer none] w fun e w' => e = .returned (.tuple #[.string ⟨(sUnpack s most).2.toArray⟩, .int .i64 (sUnpack s most).1]) ∧ Below w.heap.size w w' := by
  have hl := fun w => size_c s w hs
  have hok := sSize_ok s
  have hz : sUnpack s most = if (sSize s).2.2 ≠ 0 then ((sSize s).2.2, []) else if most < (sSize s).1 then (5, []) else sElems (s.extract (sSize s).2.1 s.size) (sSize s).1 := rfl
  generalize sSize s = x at *
  obtain ⟨n, hd, er⟩ := x
  generalize sUnpack s most = y at *
  simp only at hl hz hok
  have Hl := Lib.hid hl
  have Hz := Lib.hid hz
  clear hl hz
  obtain ⟨i0, hi, hz0, hz1, hz2⟩ := info_parts info_u8
  rcases beq0 er with ⟨h0, h1, h2⟩ | ⟨h0, h1, h2⟩
  · subst h0
    obtain ⟨hn, hd0, hd10, hds⟩ := hok rfl
    clear h1 h2 hok
    by_cases h3 : most < n
    · have Hy : Hid (y = (5, [])) := Lib.hid (by rw [Hz.out, if_neg (by simp), if_pos h3])
      clear Hz
      go_enter Tryz.func119, Tryz.ntmps119
      go_wp2_with fail
      refine (Hl.out _).mono ?_
      rintro e w' ⟨rfl, rfl⟩
      go_wp2
      go_ret2
      exact ⟨by rw [Hy.out]; rfl, Below.refl _ _⟩
    · have Hy : Hid (y = sElems (s.extract hd s.size) n) := Lib.hid (by rw [Hz.out, if_neg (by simp), if_neg h3])
      clear Hz
      have h3b : decide (most < (n : Int)) = false := by simp; omega
      by_cases h4 : n ≤ 4096
      · go_enter Tryz.func119, Tryz.ntmps119
        go_wp2_with fail
        refine (Hl.out _).mono ?_
        rintro e w' ⟨rfl, rfl⟩
        go_wp2_with (at_make; refine wpList_make_own _ rfl _ _ 104 rfl w.heap.size 5 i0 (.int .u8 0) 1 Tryz.underlying104 hi hz0 hz1 .i64 .i64 _ n rfl rfl (by omega) (by rw [hz2]; omega) (by simp only [maxLen]; omega) (by omega) ?_; intro w1 hown1 hgrow1)
        have hb1 := (Below.refl w.heap.size w).grown hgrow1 (by omega) (by simp)
        have hw1 : w1.heap.size ≤ w1.heap.size := Nat.le_refl _
        have hbz := hb1.size
        clear hgrow1
        go_wp2_with fail
        refine (read_c _ w1).mono ?_
        rintro e w2 ⟨rfl, hw2⟩
        have hr2 : Rdr w2 w1.heap.size (s.extract hd s.size) 0 0 := by rw [hw2]; exact Blk.new w1 _ _
        have hown2 : w2.ownsRow w.heap.size 5 1 (.slice (some ⟨w.heap.size, 0, none⟩) 0 n) 0 [] := by rw [hw2]; exact hown1.alloc _
        have hb2 : Below w.heap.size w w2 := by rw [hw2]; exact hb1.alloc (by omega) _
        have hwz : w1.heap.size < w2.heap.size := by rw [hw2]; simp
        clear hw2 hown1 hb1
        obtain ⟨g, hg⟩ : ∃ g, g = w1.heap.size := ⟨_, rfl⟩
        rw [← hg] at hr2 hwz hbz ⊢
        clear hg
        have hbs : (s.extract hd s.size).size ≤ 9223372036854775807 := by rw [size_cut _ _ _ (Nat.le_refl _)]; omega
        generalize s.extract hd s.size = body at *
        have hgB : w.heap.size ≤ g := by omega
        go_wp2_with fail
        go_loopg [11] (body.size + 1) (fun gk v wr => UnpInv g w.heap.size n body y w gk v wr)
        case atStart => exact ⟨0, [], _, n, 0, rfl, hown2, hr2, hb2, .inl ⟨rfl, by omega, by simp, Lib.hid Hy.out.symm, by omega⟩⟩
        case round =>
          obtain ⟨k, out, h', cap', f, rfl, how, hrr, hbb, ⟨rfl, hk, hol, hsa, hgk⟩ | ⟨hf, hf1, hf2, hX⟩⟩ := hrel
          · by_cases hk2 : k < body.size
            · go_wp2_with fail
              refine (fault_c g body k 0 wr hrr).mono ?_
              rintro e w' ⟨rfl, rfl⟩
              go_wp2_with fail
              refine (left_c g body k 0 wr hrr hk hbs).mono ?_
              rintro e w3 ⟨rfl, nd, rfl⟩
              have hEl := Lib.hid (element_c g body k (wr.drewN nd) (hrr.drewN nd) hk2 hbs w.heap.size w.heap.size cap' h' n out (how.drewN' nd) hgB (Nat.le_refl _) (by have := hbb.size; simp <;> omega) (by have := hbb.size; simp <;> omega) hol hn)
              go_wp2_with fail
              refine hEl.out.mono ?_
              intro e w4 hee
              obtain ⟨v4, rfl, ⟨h4, n4, c4, rfl⟩, hinv⟩ := unp_next (hbb.drewN' nd) hk2 hol hsa.out hgk hee
              clear hee hEl
              go_wp2
              go_roundg (gk - 1)
              case measure => omega
              case rel => exact hinv
            · have HX := Lib.hid (sAll_end hk2 (f := gk - 1) (x := y) (by rw [show gk - 1 + 1 = gk from by omega]; exact hsa.out))
              go_wp2_with fail
              refine (fault_c g body k 0 wr hrr).mono ?_
              rintro e w' ⟨rfl, rfl⟩
              go_wp2_with fail
              refine (left_c g body k 0 wr hrr hk hbs).mono ?_
              rintro e w3 ⟨rfl, nd, rfl⟩
              by_cases hos : out.length < n
              · have HY : Hid (y = (2, [])) := Lib.hid (by rw [HX.out, if_pos hos])
                clear HX
                go_wp2_with fail
                refine (fail_yes g body k 2 _ (hrr.drewN nd)).mono ?_
                rintro e w4 ⟨rfl, hr4, ho4⟩
                have hb4 : Below w.heap.size w w4 := (hbb.drewN' nd).trans (ho4.below (by have := hbb.size; simp <;> omega) (by simp; omega))
                go_wp2_with fail
                refine (fault_c g body _ 2 w4 hr4).mono ?_
                rintro e w' ⟨rfl, rfl⟩
                go_wp2_with fail
                refine (fault_c g body _ 2 w4 hr4).mono ?_
                rintro e w' ⟨rfl, rfl⟩
                go_wp2
                go_ret2
                exact ⟨two HY.out, hb4⟩
              · have HY : Hid (y = (0, out)) := Lib.hid (by rw [HX.out, if_neg hos])
                clear HX
                have hcv := run_str_own Tryz.underlying104 Tryz.underlying5 Tryz.underlying9 (how.drewN' nd)
                go_wp2_with fail
                refine (fault_c g body _ 0 _ (hrr.drewN nd)).mono ?_
                rintro e w' ⟨rfl, rfl⟩
                go_wp2
                go_ret2
                have hb4 := hbb.drewN' nd
                exact ⟨two HY.out, hb4⟩
          · go_wp2_with fail
            refine (fault_c g body k f wr hrr).mono ?_
            rintro e w' ⟨rfl, rfl⟩
            by_cases hos : out.length < n
            · go_wp2_with fail
              refine (fail_fault g body k f 2 wr hrr hf1).mono ?_
              rintro e w4 ⟨rfl, hr4, ho4⟩
              have hb4 : Below w.heap.size w w4 := hbb.trans (ho4.below (by have := hbb.size; omega) (by simp; omega))
              go_wp2_with fail
              refine (fault_c g body _ f w4 hr4).mono ?_
              rintro e w' ⟨rfl, rfl⟩
              go_wp2_with fail
              refine (fault_c g body _ f w4 hr4).mono ?_
              rintro e w' ⟨rfl, rfl⟩
              go_wp2
              go_ret2
              exact ⟨two hX.out, hb4⟩
            · go_wp2_with fail
              refine (fault_c g body _ f wr hrr).mono ?_
              rintro e w' ⟨rfl, rfl⟩
              go_wp2_with fail
              refine (fault_c g body _ f wr hrr).mono ?_
              rintro e w' ⟨rfl, rfl⟩
              go_wp2
              go_ret2
              have hb4 := hbb
              exact ⟨two hX.out, hb4⟩
      · go_enter Tryz.func119, Tryz.ntmps119
        go_wp2_with fail
        refine (Hl.out _).mono ?_
        rintro e w' ⟨rfl, rfl⟩
        go_wp2_with (at_make; refine wpList_make_own _ rfl _ _ 104 rfl w.heap.size 5 i0 (.int .u8 0) 1 Tryz.underlying104 hi hz0 hz1 .i64 .i64 _ 4096 rfl rfl (by omega) (by rw [hz2]; omega) (by simp only [maxLen]; omega) (by omega) ?_; intro w1 hown1 hgrow1)
        have hb1 := (Below.refl w.heap.size w).grown hgrow1 (by omega) (by simp)
        have hw1 : w1.heap.size ≤ w1.heap.size := Nat.le_refl _
        have hbz := hb1.size
        clear hgrow1
        go_wp2_with fail
        refine (read_c _ w1).mono ?_
        rintro e w2 ⟨rfl, hw2⟩
        have hr2 : Rdr w2 w1.heap.size (s.extract hd s.size) 0 0 := by rw [hw2]; exact Blk.new w1 _ _
        have hown2 : w2.ownsRow w.heap.size 5 1 (.slice (some ⟨w.heap.size, 0, none⟩) 0 4096) 0 [] := by rw [hw2]; exact hown1.alloc _
        have hb2 : Below w.heap.size w w2 := by rw [hw2]; exact hb1.alloc (by omega) _
        have hwz : w1.heap.size < w2.heap.size := by rw [hw2]; simp
        clear hw2 hown1 hb1
        obtain ⟨g, hg⟩ : ∃ g, g = w1.heap.size := ⟨_, rfl⟩
        rw [← hg] at hr2 hwz hbz ⊢
        clear hg
        have hbs : (s.extract hd s.size).size ≤ 9223372036854775807 := by rw [size_cut _ _ _ (Nat.le_refl _)]; omega
        generalize s.extract hd s.size = body at *
        have hgB : w.heap.size ≤ g := by omega
        go_wp2_with fail
        go_loopg [11] (body.size + 1) (fun gk v wr => UnpInv g w.heap.size n body y w gk v wr)
        case atStart => exact ⟨0, [], _, 4096, 0, rfl, hown2, hr2, hb2, .inl ⟨rfl, by omega, by simp, Lib.hid Hy.out.symm, by omega⟩⟩
        case round =>
          obtain ⟨k, out, h', cap', f, rfl, how, hrr, hbb, ⟨rfl, hk, hol, hsa, hgk⟩ | ⟨hf, hf1, hf2, hX⟩⟩ := hrel
          · by_cases hk2 : k < body.size
            · go_wp2_with fail
              refine (fault_c g body k 0 wr hrr).mono ?_
              rintro e w' ⟨rfl, rfl⟩
              go_wp2_with fail
              refine (left_c g body k 0 wr hrr hk hbs).mono ?_
              rintro e w3 ⟨rfl, nd, rfl⟩
              have hEl := Lib.hid (element_c g body k (wr.drewN nd) (hrr.drewN nd) hk2 hbs w.heap.size w.heap.size cap' h' n out (how.drewN' nd) hgB (Nat.le_refl _) (by have := hbb.size; simp <;> omega) (by have := hbb.size; simp <;> omega) hol hn)
              go_wp2_with fail
              refine hEl.out.mono ?_
              intro e w4 hee
              obtain ⟨v4, rfl, ⟨h4, n4, c4, rfl⟩, hinv⟩ := unp_next (hbb.drewN' nd) hk2 hol hsa.out hgk hee
              clear hee hEl
              go_wp2
              go_roundg (gk - 1)
              case measure => omega
              case rel => exact hinv
            · have HX := Lib.hid (sAll_end hk2 (f := gk - 1) (x := y) (by rw [show gk - 1 + 1 = gk from by omega]; exact hsa.out))
              go_wp2_with fail
              refine (fault_c g body k 0 wr hrr).mono ?_
              rintro e w' ⟨rfl, rfl⟩
              go_wp2_with fail
              refine (left_c g body k 0 wr hrr hk hbs).mono ?_
              rintro e w3 ⟨rfl, nd, rfl⟩
              by_cases hos : out.length < n
              · have HY : Hid (y = (2, [])) := Lib.hid (by rw [HX.out, if_pos hos])
                clear HX
                go_wp2_with fail
                refine (fail_yes g body k 2 _ (hrr.drewN nd)).mono ?_
                rintro e w4 ⟨rfl, hr4, ho4⟩
                have hb4 : Below w.heap.size w w4 := (hbb.drewN' nd).trans (ho4.below (by have := hbb.size; simp <;> omega) (by simp; omega))
                go_wp2_with fail
                refine (fault_c g body _ 2 w4 hr4).mono ?_
                rintro e w' ⟨rfl, rfl⟩
                go_wp2_with fail
                refine (fault_c g body _ 2 w4 hr4).mono ?_
                rintro e w' ⟨rfl, rfl⟩
                go_wp2
                go_ret2
                exact ⟨two HY.out, hb4⟩
              · have HY : Hid (y = (0, out)) := Lib.hid (by rw [HX.out, if_neg hos])
                clear HX
                have hcv := run_str_own Tryz.underlying104 Tryz.underlying5 Tryz.underlying9 (how.drewN' nd)
                go_wp2_with fail
                refine (fault_c g body _ 0 _ (hrr.drewN nd)).mono ?_
                rintro e w' ⟨rfl, rfl⟩
                go_wp2
                go_ret2
                have hb4 := hbb.drewN' nd
                exact ⟨two HY.out, hb4⟩
          · go_wp2_with fail
            refine (fault_c g body k f wr hrr).mono ?_
            rintro e w' ⟨rfl, rfl⟩
            by_cases hos : out.length < n
            · go_wp2_with fail
              refine (fail_fault g body k f 2 wr hrr hf1).mono ?_
              rintro e w4 ⟨rfl, hr4, ho4⟩
              have hb4 : Below w.heap.size w w4 := hbb.trans (ho4.below (by have := hbb.size; omega) (by simp; omega))
              go_wp2_with fail
              refine (fault_c g body _ f w4 hr4).mono ?_
              rintro e w' ⟨rfl, rfl⟩
              go_wp2_with fail
              refine (fault_c g body _ f w4 hr4).mono ?_
              rintro e w' ⟨rfl, rfl⟩
              go_wp2
              go_ret2
              exact ⟨two hX.out, hb4⟩
            · go_wp2_with fail
              refine (fault_c g body _ f wr hrr).mono ?_
              rintro e w' ⟨rfl, rfl⟩
              go_wp2_with fail
              refine (fault_c g body _ f wr hrr).mono ?_
              rintro e w' ⟨rfl, rfl⟩
              go_wp2
              go_ret2
              have hb4 := hbb
              exact ⟨two hX.out, hb4⟩
  · have H0 := Lib.hid h0
    clear h0 hok
    go_enter Tryz.func119, Tryz.ntmps119
    go_wp2_with fail
    refine (Hl.out _).mono ?_
    rintro e w' ⟨rfl, rfl⟩
    go_wp2
    go_ret2
    exact ⟨by rw [Hz.out, if_pos H0.out]; rfl, Below.refl _ _⟩
end Go.Proofs.YtebllmpdlapefaaGreatDoor
namespace Go.Proofs.YtebllmpdlapefaaGreatDoor
set_option linter.unusedVariables false
set_option linter.unusedSimpArgs false
open Go.RowKit



set_option maxHeartbeats 400000 in
theorem unpackM_err (s : ByteArray) (most : Int) (mg : Nat) (w : World) (hs : s.size ≤ 9223372036854775807) (hx : (sSize s).2.2 ≠ 0) :
    Calls Tryz.prog 119 #[.string s, .int .i64 most, .pointer (some ⟨mg, 0, none⟩)] w fun e w' => e = .returned (.tuple #[.string ⟨[].toArray⟩, .int .i64 (sSize s).2.2]) ∧ w = w' := by
  have hl := fun w => size_c s w hs
  have hok := sSize_ok s
  have hz : sUnpack s most = if (sSize s).2.2 ≠ 0 then ((sSize s).2.2, []) else if most < (sSize s).1 then (5, []) else sElems (s.extract (sSize s).2.1 s.size) (sSize s).1 := rfl
  generalize sSize s = x at *
  obtain ⟨n, hd, er⟩ := x
  generalize sUnpack s most = y at *
  dsimp only at *
  have Hl := Lib.hid hl
  have Hz := Lib.hid hz
  clear hl hz
  rcases beq0 er with ⟨h0, h1, h2⟩ | ⟨h0, h1, h2⟩
  · exact absurd h0 hx
  · clear h0 hx hok
    go_enter Tryz.func119, Tryz.ntmps119
    go_wp2_with fail
    refine (Hl.out _).mono ?_
    rintro e w' ⟨rfl, rfl⟩
    go_wp2
    go_ret2
    exact ⟨rfl, rfl⟩

set_option maxHeartbeats 400000 in
theorem unpackM_most (s : ByteArray) (most : Int) (mg : Nat) (w : World) (hs : s.size ≤ 9223372036854775807) (hx : (sSize s).2.2 = 0) (hm : most < (sSize s).1) :
    Calls Tryz.prog 119 #[.string s, .int .i64 most, .pointer (some ⟨mg, 0, none⟩)] w fun e w' => e = .returned (.tuple #[.string ⟨[].toArray⟩, .int .i64 5]) ∧ w = w' := by
  have hl := fun w => size_c s w hs
  have hok := sSize_ok s
  have hz : sUnpack s most = if (sSize s).2.2 ≠ 0 then ((sSize s).2.2, []) else if most < (sSize s).1 then (5, []) else sElems (s.extract (sSize s).2.1 s.size) (sSize s).1 := rfl
  generalize sSize s = x at *
  obtain ⟨n, hd, er⟩ := x
  generalize sUnpack s most = y at *
  dsimp only at *
  have Hl := Lib.hid hl
  have Hz := Lib.hid hz
  clear hl hz
  subst hx
  clear hok Hz
  go_enter Tryz.func119, Tryz.ntmps119
  go_wp2_with fail
  refine (Hl.out _).mono ?_
  rintro e w' ⟨rfl, rfl⟩
  go_wp2
  go_ret2
  exact ⟨rfl, rfl⟩

set_option maxHeartbeats 400000 in
theorem unpackM_over (s : ByteArray) (most : Int) (mg a u t p : Nat) (w : World) (hs : s.size ≤ 9223372036854775807) (hM : Mtr w mg a u t p) (ha : a ≤ 9223372036854775807) (hu : u ≤ a) (hx : (sSize s).2.2 = 0) (hm : ((sSize s).1 : Int) ≤ most) (ho : a < u + (sSize s).1) :
    Calls Tryz.prog 119 #[.string s, .int .i64 most, .pointer (some ⟨mg, 0, none⟩)] w fun e w' => e = .returned (.tuple #[.string ⟨[].toArray⟩, .int .i64 5]) ∧ Only [] w w' := by
  have hl := fun w => size_c s w hs
  have hok := sSize_ok s
  have hz : sUnpack s most = if (sSize s).2.2 ≠ 0 then ((sSize s).2.2, []) else if most < (sSize s).1 then (5, []) else sElems (s.extract (sSize s).2.1 s.size) (sSize s).1 := rfl
  generalize sSize s = x at *
  obtain ⟨n, hd, er⟩ := x
  generalize sUnpack s most = y at *
  dsimp only at *
  have Hl := Lib.hid hl
  have Hz := Lib.hid hz
  clear hl hz
  subst hx
  clear hok Hz
  go_enter Tryz.func119, Tryz.ntmps119
  go_wp2_with fail
  refine (Hl.out _).mono ?_
  rintro e w' ⟨rfl, rfl⟩
  go_wp2_with fail
  refine (meterTake_over mg a u t p n w hM ha hu ho).mono ?_
  rintro e w1 ⟨rfl, hon⟩
  go_wp2
  go_ret2
  exact ⟨rfl, hon⟩

set_option maxRecDepth 100000 in
set_option maxHeartbeats 800000 in
theorem unpackM_ok (s : ByteArray) (most : Int) (mg a u t p : Nat) (w0 : World) (hs : s.size ≤ 9223372036854775807) (hM : Mtr w0 mg a u t p) (ha : a ≤ 9223372036854775807) (hx : (sSize s).2.2 = 0) (hm : ((sSize s).1 : Int) ≤ most) (ho : u + (sSize s).1 ≤ a) (ht : t + (sSize s).1 ≤ 9223372036854775807) :
    Calls Tryz.prog 119 #[.string s, .int .i64 most, .pointer (some ⟨mg, 0, none⟩)] w0 fun e w' => e = .returned (.tuple #[.string ⟨(sUnpack s most).2.toArray⟩, .int .i64 (sUnpack s most).1]) ∧ Mtr w' mg a (u + (sSize s).1) (t + (sSize s).1) (max p (u + (sSize s).1)) ∧ Only [mg] w0 w' := by
  have hl := fun w => size_c s w hs
  have hok := sSize_ok s
  have hz : sUnpack s most = if (sSize s).2.2 ≠ 0 then ((sSize s).2.2, []) else if most < (sSize s).1 then (5, []) else sElems (s.extract (sSize s).2.1 s.size) (sSize s).1 := rfl
  generalize sSize s = x at *
  obtain ⟨n, hd, er⟩ := x
  generalize sUnpack s most = y at *
  dsimp only at *
  have Hl := Lib.hid hl
  have Hz := Lib.hid hz
  clear hl hz
  subst hx
  obtain ⟨hn, hd0, hd10, hds⟩ := hok rfl
  have Hy : Hid (y = sElems (s.extract hd s.size) n) := Lib.hid (by rw [Hz.out, if_neg (by simp), if_neg (by omega)])
  clear hok Hz
  obtain ⟨i0, hi, hz0, hz1, hz2⟩ := info_parts info_u8
  have h3b : decide (most < (n : Int)) = false := by simp; omega
  have Ht := Lib.hid (meterTake_ok mg a u t p n w0 hM ha ho ht)
  have HO := Lib.hid ho
  have HT := Lib.hid ht
  clear ho ht
  generalize u + n = u2 at *
  generalize t + n = t2 at *
  generalize max p u2 = p2 at *
  by_cases h4 : n ≤ 4096
  · go_enter Tryz.func119, Tryz.ntmps119
    go_wp2_with fail
    refine (Hl.out _).mono ?_
    rintro e w' ⟨rfl, rfl⟩
    go_wp2_with fail
    refine Ht.out.mono ?_
    rintro e w ⟨rfl, hm2, hon⟩
    go_wp2_with (at_make; refine wpList_make_own _ rfl _ _ 104 rfl w.heap.size 5 i0 (.int .u8 0) 1 Tryz.underlying104 hi hz0 hz1 .i64 .i64 _ n rfl rfl (by omega) (by rw [hz2]; omega) (by simp only [maxLen]; omega) (by omega) ?_; intro w1 hown1 hgrow1)
    have hb1 := (Below.refl w.heap.size w).grown hgrow1 (by omega) (by simp)
    have hw1 : w1.heap.size ≤ w1.heap.size := Nat.le_refl _
    have hbz := hb1.size
    clear hgrow1
    go_wp2_with fail
    refine (read_c _ w1).mono ?_
    rintro e w2 ⟨rfl, hw2⟩
    have hr2 : Rdr w2 w1.heap.size (s.extract hd s.size) 0 0 := by rw [hw2]; exact Blk.new w1 _ _
    have hown2 : w2.ownsRow w.heap.size 5 1 (.slice (some ⟨w.heap.size, 0, none⟩) 0 n) 0 [] := by rw [hw2]; exact hown1.alloc _
    have hb2 : Below w.heap.size w w2 := by rw [hw2]; exact hb1.alloc (by omega) _
    have hwz : w1.heap.size < w2.heap.size := by rw [hw2]; simp
    clear hw2 hown1 hb1
    obtain ⟨g, hg⟩ : ∃ g, g = w1.heap.size := ⟨_, rfl⟩
    rw [← hg] at hr2 hwz hbz ⊢
    clear hg
    have hbs : (s.extract hd s.size).size ≤ 9223372036854775807 := by rw [size_cut _ _ _ (Nat.le_refl _)]; omega
    generalize s.extract hd s.size = body at *
    have hgB : w.heap.size ≤ g := by omega
    go_wp2_with fail
    go_loopg [11] (body.size + 1) (fun gk v wr => UnpInv g w.heap.size n body y w gk v wr)
    case atStart => exact ⟨0, [], _, n, 0, rfl, hown2, hr2, hb2, .inl ⟨rfl, by omega, by simp, Lib.hid Hy.out.symm, by omega⟩⟩
    case round =>
      obtain ⟨k, out, h', cap', f, rfl, how, hrr, hbb, ⟨rfl, hk, hol, hsa, hgk⟩ | ⟨hf, hf1, hf2, hX⟩⟩ := hrel
      · by_cases hk2 : k < body.size
        · go_wp2_with fail
          refine (fault_c g body k 0 wr hrr).mono ?_
          rintro e w' ⟨rfl, rfl⟩
          go_wp2_with fail
          refine (left_c g body k 0 wr hrr hk hbs).mono ?_
          rintro e w3 ⟨rfl, nd, rfl⟩
          have hEl := Lib.hid (element_c g body k (wr.drewN nd) (hrr.drewN nd) hk2 hbs w.heap.size w.heap.size cap' h' n out (how.drewN' nd) hgB (Nat.le_refl _) (by have := hbb.size; simp <;> omega) (by have := hbb.size; simp <;> omega) hol hn)
          go_wp2_with fail
          refine hEl.out.mono ?_
          intro e w4 hee
          obtain ⟨v4, rfl, ⟨h4, n4, c4, rfl⟩, hinv⟩ := unp_next (hbb.drewN' nd) hk2 hol hsa.out hgk hee
          clear hee hEl
          go_wp2
          go_roundg (gk - 1)
          case measure => omega
          case rel => exact hinv
        · have HX := Lib.hid (sAll_end hk2 (f := gk - 1) (x := y) (by rw [show gk - 1 + 1 = gk from by omega]; exact hsa.out))
          go_wp2_with fail
          refine (fault_c g body k 0 wr hrr).mono ?_
          rintro e w' ⟨rfl, rfl⟩
          go_wp2_with fail
          refine (left_c g body k 0 wr hrr hk hbs).mono ?_
          rintro e w3 ⟨rfl, nd, rfl⟩
          by_cases hos : out.length < n
          · have HY : Hid (y = (2, [])) := Lib.hid (by rw [HX.out, if_pos hos])
            clear HX
            go_wp2_with fail
            refine (fail_yes g body k 2 _ (hrr.drewN nd)).mono ?_
            rintro e w4 ⟨rfl, hr4, ho4⟩
            have hb4 : Below w.heap.size w w4 := (hbb.drewN' nd).trans (ho4.below (by have := hbb.size; simp <;> omega) (by simp; omega))
            go_wp2_with fail
            refine (fault_c g body _ 2 w4 hr4).mono ?_
            rintro e w' ⟨rfl, rfl⟩
            go_wp2_with fail
            refine (fault_c g body _ 2 w4 hr4).mono ?_
            rintro e w' ⟨rfl, rfl⟩
            go_wp2
            go_ret2
            exact ⟨two HY.out, hm2.only (Only.of_below hb4 (Nat.le_refl _)) (by simp), hon.trans' (Only.of_below hb4 (Nat.le_refl _)) (by simp)⟩
          · have HY : Hid (y = (0, out)) := Lib.hid (by rw [HX.out, if_neg hos])
            clear HX
            have hcv := run_str_own Tryz.underlying104 Tryz.underlying5 Tryz.underlying9 (how.drewN' nd)
            go_wp2_with fail
            refine (fault_c g body _ 0 _ (hrr.drewN nd)).mono ?_
            rintro e w' ⟨rfl, rfl⟩
            go_wp2
            go_ret2
            have hb4 := hbb.drewN' nd
            exact ⟨two HY.out, hm2.only (Only.of_below hb4 (Nat.le_refl _)) (by simp), hon.trans' (Only.of_below hb4 (Nat.le_refl _)) (by simp)⟩
      · go_wp2_with fail
        refine (fault_c g body k f wr hrr).mono ?_
        rintro e w' ⟨rfl, rfl⟩
        by_cases hos : out.length < n
        · go_wp2_with fail
          refine (fail_fault g body k f 2 wr hrr hf1).mono ?_
          rintro e w4 ⟨rfl, hr4, ho4⟩
          have hb4 : Below w.heap.size w w4 := hbb.trans (ho4.below (by have := hbb.size; omega) (by simp; omega))
          go_wp2_with fail
          refine (fault_c g body _ f w4 hr4).mono ?_
          rintro e w' ⟨rfl, rfl⟩
          go_wp2_with fail
          refine (fault_c g body _ f w4 hr4).mono ?_
          rintro e w' ⟨rfl, rfl⟩
          go_wp2
          go_ret2
          exact ⟨two hX.out, hm2.only (Only.of_below hb4 (Nat.le_refl _)) (by simp), hon.trans' (Only.of_below hb4 (Nat.le_refl _)) (by simp)⟩
        · go_wp2_with fail
          refine (fault_c g body _ f wr hrr).mono ?_
          rintro e w' ⟨rfl, rfl⟩
          go_wp2_with fail
          refine (fault_c g body _ f wr hrr).mono ?_
          rintro e w' ⟨rfl, rfl⟩
          go_wp2
          go_ret2
          have hb4 := hbb
          exact ⟨two hX.out, hm2.only (Only.of_below hb4 (Nat.le_refl _)) (by simp), hon.trans' (Only.of_below hb4 (Nat.le_refl _)) (by simp)⟩
  · go_enter Tryz.func119, Tryz.ntmps119
    go_wp2_with fail
    refine (Hl.out _).mono ?_
    rintro e w' ⟨rfl, rfl⟩
    go_wp2_with fail
    refine Ht.out.mono ?_
    rintro e w ⟨rfl, hm2, hon⟩
    go_wp2_with (at_make; refine wpList_make_own _ rfl _ _ 104 rfl w.heap.size 5 i0 (.int .u8 0) 1 Tryz.underlying104 hi hz0 hz1 .i64 .i64 _ 4096 rfl rfl (by omega) (by rw [hz2]; omega) (by simp only [maxLen]; omega) (by omega) ?_; intro w1 hown1 hgrow1)
    have hb1 := (Below.refl w.heap.size w).grown hgrow1 (by omega) (by simp)
    have hw1 : w1.heap.size ≤ w1.heap.size := Nat.le_refl _
    have hbz := hb1.size
    clear hgrow1
    go_wp2_with fail
    refine (read_c _ w1).mono ?_
    rintro e w2 ⟨rfl, hw2⟩
    have hr2 : Rdr w2 w1.heap.size (s.extract hd s.size) 0 0 := by rw [hw2]; exact Blk.new w1 _ _
    have hown2 : w2.ownsRow w.heap.size 5 1 (.slice (some ⟨w.heap.size, 0, none⟩) 0 4096) 0 [] := by rw [hw2]; exact hown1.alloc _
    have hb2 : Below w.heap.size w w2 := by rw [hw2]; exact hb1.alloc (by omega) _
    have hwz : w1.heap.size < w2.heap.size := by rw [hw2]; simp
    clear hw2 hown1 hb1
    obtain ⟨g, hg⟩ : ∃ g, g = w1.heap.size := ⟨_, rfl⟩
    rw [← hg] at hr2 hwz hbz ⊢
    clear hg
    have hbs : (s.extract hd s.size).size ≤ 9223372036854775807 := by rw [size_cut _ _ _ (Nat.le_refl _)]; omega
    generalize s.extract hd s.size = body at *
    have hgB : w.heap.size ≤ g := by omega
    go_wp2_with fail
    go_loopg [11] (body.size + 1) (fun gk v wr => UnpInv g w.heap.size n body y w gk v wr)
    case atStart => exact ⟨0, [], _, 4096, 0, rfl, hown2, hr2, hb2, .inl ⟨rfl, by omega, by simp, Lib.hid Hy.out.symm, by omega⟩⟩
    case round =>
      obtain ⟨k, out, h', cap', f, rfl, how, hrr, hbb, ⟨rfl, hk, hol, hsa, hgk⟩ | ⟨hf, hf1, hf2, hX⟩⟩ := hrel
      · by_cases hk2 : k < body.size
        · go_wp2_with fail
          refine (fault_c g body k 0 wr hrr).mono ?_
          rintro e w' ⟨rfl, rfl⟩
          go_wp2_with fail
          refine (left_c g body k 0 wr hrr hk hbs).mono ?_
          rintro e w3 ⟨rfl, nd, rfl⟩
          have hEl := Lib.hid (element_c g body k (wr.drewN nd) (hrr.drewN nd) hk2 hbs w.heap.size w.heap.size cap' h' n out (how.drewN' nd) hgB (Nat.le_refl _) (by have := hbb.size; simp <;> omega) (by have := hbb.size; simp <;> omega) hol hn)
          go_wp2_with fail
          refine hEl.out.mono ?_
          intro e w4 hee
          obtain ⟨v4, rfl, ⟨h4, n4, c4, rfl⟩, hinv⟩ := unp_next (hbb.drewN' nd) hk2 hol hsa.out hgk hee
          clear hee hEl
          go_wp2
          go_roundg (gk - 1)
          case measure => omega
          case rel => exact hinv
        · have HX := Lib.hid (sAll_end hk2 (f := gk - 1) (x := y) (by rw [show gk - 1 + 1 = gk from by omega]; exact hsa.out))
          go_wp2_with fail
          refine (fault_c g body k 0 wr hrr).mono ?_
          rintro e w' ⟨rfl, rfl⟩
          go_wp2_with fail
          refine (left_c g body k 0 wr hrr hk hbs).mono ?_
          rintro e w3 ⟨rfl, nd, rfl⟩
          by_cases hos : out.length < n
          · have HY : Hid (y = (2, [])) := Lib.hid (by rw [HX.out, if_pos hos])
            clear HX
            go_wp2_with fail
            refine (fail_yes g body k 2 _ (hrr.drewN nd)).mono ?_
            rintro e w4 ⟨rfl, hr4, ho4⟩
            have hb4 : Below w.heap.size w w4 := (hbb.drewN' nd).trans (ho4.below (by have := hbb.size; simp <;> omega) (by simp; omega))
            go_wp2_with fail
            refine (fault_c g body _ 2 w4 hr4).mono ?_
            rintro e w' ⟨rfl, rfl⟩
            go_wp2_with fail
            refine (fault_c g body _ 2 w4 hr4).mono ?_
            rintro e w' ⟨rfl, rfl⟩
            go_wp2
            go_ret2
            exact ⟨two HY.out, hm2.only (Only.of_below hb4 (Nat.le_refl _)) (by simp), hon.trans' (Only.of_below hb4 (Nat.le_refl _)) (by simp)⟩
          · have HY : Hid (y = (0, out)) := Lib.hid (by rw [HX.out, if_neg hos])
            clear HX
            have hcv := run_str_own Tryz.underlying104 Tryz.underlying5 Tryz.underlying9 (how.drewN' nd)
            go_wp2_with fail
            refine (fault_c g body _ 0 _ (hrr.drewN nd)).mono ?_
            rintro e w' ⟨rfl, rfl⟩
            go_wp2
            go_ret2
            have hb4 := hbb.drewN' nd
            exact ⟨two HY.out, hm2.only (Only.of_below hb4 (Nat.le_refl _)) (by simp), hon.trans' (Only.of_below hb4 (Nat.le_refl _)) (by simp)⟩
      · go_wp2_with fail
        refine (fault_c g body k f wr hrr).mono ?_
        rintro e w' ⟨rfl, rfl⟩
        by_cases hos : out.length < n
        · go_wp2_with fail
          refine (fail_fault g body k f 2 wr hrr hf1).mono ?_
          rintro e w4 ⟨rfl, hr4, ho4⟩
          have hb4 : Below w.heap.size w w4 := hbb.trans (ho4.below (by have := hbb.size; omega) (by simp; omega))
          go_wp2_with fail
          refine (fault_c g body _ f w4 hr4).mono ?_
          rintro e w' ⟨rfl, rfl⟩
          go_wp2_with fail
          refine (fault_c g body _ f w4 hr4).mono ?_
          rintro e w' ⟨rfl, rfl⟩
          go_wp2
          go_ret2
          exact ⟨two hX.out, hm2.only (Only.of_below hb4 (Nat.le_refl _)) (by simp), hon.trans' (Only.of_below hb4 (Nat.le_refl _)) (by simp)⟩
        · go_wp2_with fail
          refine (fault_c g body _ f wr hrr).mono ?_
          rintro e w' ⟨rfl, rfl⟩
          go_wp2_with fail
          refine (fault_c g body _ f wr hrr).mono ?_
          rintro e w' ⟨rfl, rfl⟩
          go_wp2
          go_ret2
          have hb4 := hbb
          exact ⟨two hX.out, hm2.only (Only.of_below hb4 (Nat.le_refl _)) (by simp), hon.trans' (Only.of_below hb4 (Nat.le_refl _)) (by simp)⟩
end Go.Proofs.YtebllmpdlapefaaGreatDoor
