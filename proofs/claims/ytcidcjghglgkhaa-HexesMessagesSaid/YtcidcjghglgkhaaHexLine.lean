/- hexes.line: a dump's line. -/
import Derived.Test.YtcidcjghglgkhaaHex
import Derived.Test.YtcidcjghglgkhaaTurned
namespace Go.Proofs.Ytcidcjghglgkhaa
set_option linter.unusedVariables false
set_option linter.unusedSimpArgs false
open Go.RowKit

theorem make_run (c : Nat) (C : Int) (hC : C = c) (hc : c ≤ 1099511627776) : ∃ cs : Array Value, (∀ w, (Instr.makeSlice 80 (.int .i64 0) (.int .i64 C)).run Try.prog w = .ok (.slice (some ⟨w.heap.size, 0, none⟩) 0 c) (w.alloc (.cells cs 5))) ∧
    Hid (∀ (w : World) base, base ≤ w.heap.size → Buf (w.alloc (.cells cs 5)) base 5 (.slice (some ⟨w.heap.size, 0, none⟩) 0 c) []) := by
  obtain ⟨i0, hi, hz0, hz1, hz2⟩ := info_parts info_byte
  subst hC
  refine ⟨madeCells (Value.int .u8 0).cells (c * i0.size), fun w => ?_, Lib.hid (fun w base hb => ?_)⟩
  · have hr := run_make (P := Try.prog) w 80 5 i0 (.int .u8 0) Try.underlying80 hi hz0 .i64 .i64 0 c (Int.le_refl _) (by omega) (by rw [hz2]; omega) (by omega)
    simp only [Int.toNat_zero, Int.toNat_natCast] at hr
    exact hr
  · exact Buf.own (World.ownsRow_made w _ c hb (by simp only [maxLen]; omega) (by rw [hz1]; exact size_madeCells _ _))
def dot (c : UInt8) : UInt8 := if c.toNat < 32 ∨ 126 < c.toNat then 46 else c
def spL (p : List UInt8) : List UInt8 := p.flatMap fun c => 32 :: hx c
def lineL (a : Nat) (p : List UInt8) : List UInt8 := hxL (leD a 4).reverse ++ spL p ++ [32, 32] ++ p.map dot ++ [10]
theorem hx_length (c : UInt8) : (hx c).length = 2 := rfl
theorem spL_length (p : List UInt8) : (spL p).length = 3 * p.length := by
  induction p with
  | nil => rfl
  | cons c t ih => simp only [spL, List.flatMap_cons, List.length_append, List.length_cons, hx_length] at ih ⊢; omega
theorem lineL_length (a : Nat) (p : List UInt8) : (lineL a p).length = 11 + 4 * p.length := by
  simp only [lineL, List.length_append, hxL_length, List.length_reverse, leD_length, spL_length, List.length_map, List.length_cons, List.length_nil]; omega
theorem spL_snoc (p : List UInt8) (k : Nat) (h : k < p.length) : spL (p.take (k + 1)) = spL (p.take k) ++ (32 :: hx p[k]) := by
  unfold spL; rw [List.take_succ_eq_append_getElem h, List.flatMap_append, List.flatMap_singleton]
theorem dots_snoc (p : List UInt8) (k : Nat) (h : k < p.length) : (p.take (k + 1)).map dot = (p.take k).map dot ++ [dot p[k]] := by
  rw [List.take_succ_eq_append_getElem h, List.map_append]; rfl
theorem sp_cells (c : UInt8) (b : Nat) (hq : c.toNat = b) (hp hp') : (#[Value.int .u8 32, Value.int .u8 ((⟨#[48, 49, 50, 51, 52, 53, 54, 55, 56, 57, 97, 98, 99, 100, 101, 102]⟩ : ByteArray)[((b : Int) / 16).toNat]'hp).toNat, Value.int .u8 ((⟨#[48, 49, 50, 51, 52, 53, 54, 55, 56, 57, 97, 98, 99, 100, 101, 102]⟩ : ByteArray)[((b : Int) % 16).toNat]'hp').toNat] : Array Value).toList = cb (32 :: hx c) := by
  have := hx_cells c b hq hp hp'
  simp only [cb, List.map_cons] at this ⊢
  rw [← this]
  rfl
/-- The bytes p lie from the cell o of block g on. -/
def RdAt (w : World) (g o : Nat) (p : List UInt8) : Prop := g < w.heap.size ∧ ∀ j (h : j < p.length), w.cell? ⟨g, o + j, none⟩ = some (.int .u8 (p[j]).toNat)
theorem RdAt.below {w w' : World} {g o : Nat} {p : List UInt8} (h : RdAt w g o p) {B : Nat} (hb : Below B w w') (hg : g < B) : RdAt w' g o p :=
  ⟨Nat.lt_of_lt_of_le h.1 hb.size, fun j hj => (hb.cell (p := ⟨g, o + j, none⟩) hg).trans (h.2 j hj)⟩
set_option maxRecDepth 100000 in
set_option maxHeartbeats 1600000 in
theorem line_c (a g o cp : Nat) (p : List UInt8) (w : World) (ha : a < 4294967296) (hr : RdAt w g o p) (hp : p.length ≤ 4096) (hcp : p.length ≤ cp) (hcp2 : cp ≤ 9223372036854775807) :
    Calls Try.prog 68 #[.int .i64 a, .slice (some ⟨g, o, none⟩) p.length cp] w fun e w' => ∃ A n c, e = .returned (.slice A n c) ∧ Buf w' w.heap.size 5 (.slice A n c) (lineL a p) ∧ Kept 5 w.heap.size w w' := by
  obtain ⟨i0, hi, hz0, hz1, hz2⟩ := info_parts info_byte
  have HB := Lib.hid (big_c a 4 w (by simpa using ha) (by omega) (by omega))
  have HX := Lib.hid (fun w => hex_c (⟨((leD a 4).reverse).toArray⟩ : ByteArray) w (by rw [size_of]; simp [leD_length]))
  have HL : Hid ((hxL (⟨((leD a 4).reverse).toArray⟩ : ByteArray).data.toList).length = 8) := Lib.hid (by simp [hxL_length, leD_length])
  have hsz : (⟨(hxL (⟨((leD a 4).reverse).toArray⟩ : ByteArray).data.toList).toArray⟩ : ByteArray).size = 8 := by rw [size_of]; exact HL.out
  have HT : Hid ((⟨(hxL (⟨((leD a 4).reverse).toArray⟩ : ByteArray).data.toList).toArray⟩ : ByteArray).data.toList = hxL (leD a 4).reverse) := Lib.hid (by simp)
  obtain ⟨n, hn⟩ : ∃ n, p.length = n := ⟨_, rfl⟩
  have HN := Lib.hid hn
  rw [hn] at hp hcp ⊢
  clear hn
  have HR := Lib.hid hr
  have hgw := hr.1
  clear hr HL
  generalize (⟨(hxL (⟨((leD a 4).reverse).toArray⟩ : ByteArray).data.toList).toArray⟩ : ByteArray) = Y at *
  generalize (⟨((leD a 4).reverse).toArray⟩ : ByteArray) = X at *
  go_enter Try.func68, Try.ntmps68
  go_wp2_with fail
  refine HB.out.mono ?_
  rintro e w1 ⟨rfl, hb1⟩
  have hz1' := hb1.size
  obtain ⟨cs, hmk, HMB⟩ := make_run (11 + 4 * n) (11 + 4 * (n : Int)) (by omega) (by omega)
  go_wp2_with fail
  have q1 : IntKind.i64.wrap (4 * (n : Int)) = 4 * (n : Int) := IntWalk.i64_in _ (by omega)
  have q2 : IntKind.i64.wrap (11 + 4 * (n : Int)) = 11 + 4 * (n : Int) := IntWalk.i64_in _ (by omega)
  go_region_law (first
    | (go_simp; go_at_call 31; refine (HX.out _).mono ?_; rintro e wx ⟨rfl, hbx⟩)
    | (refine step_append_buf (by rfl) (.tmp 22) (.tmp 24) 80 9 (by rfl) w.heap.size 5 i0 Try.underlying80 hi hz0 hz1 hz2 (by rfl) (by first | exact ((HMB.out w1 w.heap.size hz1').drew).below hbx | exact (HMB.out w1 w.heap.size hz1').below hbx | exact HMB.out wx w.heap.size (Nat.le_trans hz1' hbx.size)) _ Y.data.toList (by rfl) (src_str Try.underlying9 _ Y) (by have := hbx.size; simp at this ⊢; omega) (by rw [toList_size, hsz]; simp) ?_; intro A2 n2 cap2 w2 hb2 hk2))
  all_goals
    have HK2 : Hid (Kept 5 w.heap.size w w2) := Lib.hid (by
      have k0 := Kept.of_below (E := 5) (base := w.heap.size) hb1 (Nat.le_refl _) (Nat.le_refl _)
      first
        | exact ((k0.drew).trans (Kept.of_below hbx (Nat.le_refl _) hz1')).trans (((Kept.refl _ _ wx).alloc (Nat.le_trans hz1' hbx.size) _).trans hk2)
        | exact (((k0.alloc hz1' _).drew).trans (Kept.of_below hbx (Nat.le_refl _) (by simp; omega))).trans hk2
        | exact (((k0.alloc hz1' _)).trans (Kept.of_below hbx (Nat.le_refl _) (by simp; omega))).trans hk2)
    rw [List.nil_append, HT.out] at hb2
    have HB2 := Lib.hid hb2
    clear hb2 hk2 hbx
  all_goals
    have HHL : Hid ((hxL (leD a 4).reverse).length = 8) := Lib.hid (by simp [hxL_length, leD_length])
    obtain ⟨H, HH⟩ : ∃ H, Hid (H = hxL (leD a 4).reverse) := ⟨_, Lib.hid rfl⟩
    rw [← HH.out] at HHL HB2
    go_wp2
    go_loopw [7, 28] (fun b i wr => ∃ k : Nat, k ≤ n ∧ i = .int .i64 k ∧ ∃ l, Hid (l = H ++ spL (p.take k)) ∧ ShInv w.heap.size w wr b l) (fun _ i _ => n - (intOf i).toNat)
    case atStart => exact ⟨0, by omega, rfl, H, Lib.hid (by simp [spL]), HB2.out, HK2.out⟩
    case round =>
      obtain ⟨k, hk, rfl, l, Hl, hbuf, hkept⟩ := hrel
      have hwz := hkept.size
      have hll : l.length ≤ 20000 := by
        have h1 := HN.out
        have h2 := HHL.out
        rw [Hl.out, List.length_append, spL_length, List.length_take]; omega
      have HRR := Lib.hid (HR.out.below hkept.below hgw)
      have HK := Lib.hid hkept
      clear hkept
      obtain ⟨A2, n2, cap2, rfl, hn2, hc3, hc4⟩ := hbuf.form'
      by_cases hlt : k < n
      · have hkp : k < p.length := by rw [HN.out]; exact hlt
        have hcell := HRR.out.2 k hkp
        have HT2 : Hid (l ++ (32 :: hx p[k]) = H ++ spL (p.take (k + 1))) := Lib.hid (by rw [Hl.out, spL_snoc p k hkp, List.append_assoc])
        obtain ⟨c, hcc⟩ : ∃ c, p[k] = c := ⟨_, rfl⟩
        rw [hcc] at hcell HT2
        clear hcc hkp
        have hbt := c.toNat_lt
        go_wp2_with fail
        have j0 : (k : Int) < (n : Int) := by omega
        have k1 : (0 : Int) ≤ (c.toNat : Int) / 16 := by omega
        have k2 : (c.toNat : Int) / 16 < 16 := by omega
        have k3 := and15 c.toNat hbt
        have k4 : (0 : Int) ≤ (c.toNat : Int) % 16 := by omega
        have k5 : (c.toNat : Int) % 16 < 16 := by omega
        go_region_law (refine step_append_buf (by rfl) (.tmp 32) (.tmp 39) 80 80 (by rfl) w.heap.size 5 i0 Try.underlying80 hi hz0 hz1 hz2 (by rfl) (hbuf.alloc _).drew _ (32 :: hx c) (by rfl) (src_litD Try.underlying80 _ 5 _ (32 :: hx c) 3 _ (by simp) (sp_cells c _ rfl _ _)) (by simp; omega) (by simp [hx]; omega) ?_; intro A1 n1 cap1 w1 hb1 hk1)
        all_goals
          have HB1 := Lib.hid hb1
          have HK1 : Hid (Kept 5 w.heap.size w w1) := Lib.hid (((HK.out.alloc (by omega) _).drew).trans hk1)
          clear hb1 hk1 hbuf
          go_wp2
          go_roundw
          case rel => exact ⟨k + 1, by omega, by go_num, _, HT2, HB1.out, HK1.out⟩
          case measure => simp [intOf]; omega
      · have HT2 : Hid (l = H ++ spL p) := Lib.hid (by rw [Hl.out, List.take_of_length_le (by rw [HN.out]; omega)])
        go_wp2_with (at_builtin; refine wpList_append_buf (by rfl) (.tmp 42) (.tmp 43) 80 80 (by rfl) w.heap.size 5 i0 Try.underlying80 hi hz0 hz1 hz2 (by rfl) (hbuf.alloc _) _ [32, 32] (by rfl) (src_lit Try.underlying80 _ 5 _ [32, 32] 2 _ (by rfl) (by simp [cb])) (by simp only [World.size_alloc]; omega) (by simp; omega) ?_; intro A3 n3 cap3 w3 hb3 hk3)
        have HB3 : Hid (Buf w3 w.heap.size 5 (.slice A3 n3 cap3) (H ++ spL p ++ [32, 32])) := Lib.hid (by rw [← HT2.out]; exact hb3)
        have HK3 : Hid (Kept 5 w.heap.size w w3) := Lib.hid ((HK.out.alloc (by omega) _).trans hk3)
        have HML : Hid ((H ++ spL p ++ [32, 32]).length ≤ 20000) := Lib.hid (by
          have h1 := HN.out
          have h2 := HHL.out
          simp only [List.length_append, spL_length, List.length_cons, List.length_nil]; omega)
        clear hb3 hk3 hbuf HK HRR hll HT2 Hl hwz HB2 HK2
        have HF : Hid (H ++ spL p ++ [32, 32] ++ p.map dot ++ [10] = lineL a p) := Lib.hid (by rw [HH.out]; rfl)
        generalize H ++ spL p ++ [32, 32] = M at *
        go_loopw [7, 47] (fun b i wr => ∃ k : Nat, k ≤ n ∧ i = .int .i64 k ∧ ∃ l, Hid (l = M ++ (p.take k).map dot) ∧ ShInv w.heap.size w wr b l) (fun _ i _ => n - (intOf i).toNat)
        case atStart => exact ⟨0, by omega, rfl, M, Lib.hid (by simp), HB3.out, HK3.out⟩
        case round =>
          obtain ⟨k, hk, rfl, l, Hl, hbuf, hkept⟩ := hrel
          have hwz := hkept.size
          have hll : l.length ≤ 40000 := by
            have h1 := HN.out
            have h2 := HML.out
            rw [Hl.out, List.length_append, List.length_map, List.length_take]; omega
          have HRR := Lib.hid (HR.out.below hkept.below hgw)
          have HK := Lib.hid hkept
          clear hkept
          obtain ⟨A2, n2, cap2, rfl, hn2, hc3, hc4⟩ := hbuf.form'
          by_cases hlt : k < n
          · have hkp : k < p.length := by rw [HN.out]; exact hlt
            have hcell := HRR.out.2 k hkp
            have HT2 : Hid (l ++ [dot p[k]] = M ++ (p.take (k + 1)).map dot) := Lib.hid (by rw [Hl.out, dots_snoc p k hkp, List.append_assoc])
            obtain ⟨c, hcc⟩ : ∃ c, p[k] = c := ⟨_, rfl⟩
            rw [hcc] at hcell HT2
            clear hcc hkp
            have hbt := c.toNat_lt
            have j0 : (k : Int) < (n : Int) := by omega
            by_cases hd1 : c.toNat < 32
            · have HD : Hid (dot c = 46) := Lib.hid (by simp [dot, hd1])
              rw [HD.out] at HT2
              go_wp2_with (at_builtin; refine wpList_append_buf (by rfl) (.tmp 57) (.tmp 59) 80 80 (by rfl) w.heap.size 5 i0 Try.underlying80 hi hz0 hz1 hz2 (by rfl) (hbuf.alloc _) _ [46] (by rfl) (src_lit Try.underlying80 _ 5 _ [46] 1 _ (by rfl) (by simp [cb])) (by simp only [World.size_alloc]; omega) (by simp; omega) ?_; intro A3 n3 cap3 w3 hb3 hk3; have HB4 := Lib.hid hb3; have HK4 := Lib.hid ((HK.out.alloc (by omega) _).trans hk3); clear hb3 hk3 hbuf)
              go_roundw
              case rel => exact ⟨k + 1, by omega, by go_num, _, HT2, HB4.out, HK4.out⟩
              case measure => simp [intOf]; omega
            · by_cases hd2 : 126 < c.toNat
              · have HD : Hid (dot c = 46) := Lib.hid (by simp [dot, hd2])
                rw [HD.out] at HT2
                go_wp2_with (at_builtin; refine wpList_append_buf (by rfl) (.tmp 57) (.tmp 59) 80 80 (by rfl) w.heap.size 5 i0 Try.underlying80 hi hz0 hz1 hz2 (by rfl) (hbuf.alloc _) _ [46] (by rfl) (src_lit Try.underlying80 _ 5 _ [46] 1 _ (by rfl) (by simp [cb])) (by simp only [World.size_alloc]; omega) (by simp; omega) ?_; intro A3 n3 cap3 w3 hb3 hk3; have HB4 := Lib.hid hb3; have HK4 := Lib.hid ((HK.out.alloc (by omega) _).trans hk3); clear hb3 hk3 hbuf)
                go_roundw
                case rel => exact ⟨k + 1, by omega, by go_num, _, HT2, HB4.out, HK4.out⟩
                case measure => simp [intOf]; omega
              · have HD : Hid (dot c = c) := Lib.hid (by simp only [dot]; rw [if_neg (by omega)])
                rw [HD.out] at HT2
                go_wp2_with (at_builtin; refine wpList_append_buf (by rfl) (.tmp 57) (.tmp 59) 80 80 (by rfl) w.heap.size 5 i0 Try.underlying80 hi hz0 hz1 hz2 (by rfl) (hbuf.alloc _) _ [c] (by rfl) (src_lit Try.underlying80 _ 5 _ [c] 1 _ (by rfl) (by simp [cb])) (by simp only [World.size_alloc]; omega) (by simp; omega) ?_; intro A3 n3 cap3 w3 hb3 hk3; have HB4 := Lib.hid hb3; have HK4 := Lib.hid ((HK.out.alloc (by omega) _).trans hk3); clear hb3 hk3 hbuf)
                go_roundw
                case rel => exact ⟨k + 1, by omega, by go_num, _, HT2, HB4.out, HK4.out⟩
                case measure => simp [intOf]; omega
          · have HT2 : Hid (l ++ [10] = M ++ p.map dot ++ [10]) := Lib.hid (by rw [Hl.out, List.take_of_length_le (by rw [HN.out]; omega)])
            go_wp2_with (at_builtin; refine wpList_append_buf (by rfl) (.tmp 62) (.tmp 63) 80 80 (by rfl) w.heap.size 5 i0 Try.underlying80 hi hz0 hz1 hz2 (by rfl) (hbuf.alloc _) _ [10] (by rfl) (src_lit Try.underlying80 _ 5 _ [10] 1 _ (by rfl) (by simp [cb])) (by simp only [World.size_alloc]; omega) (by simp; omega) ?_; intro A3 n3 cap3 w3 hb3 hk3; have HB4 := Lib.hid hb3; have HK4 := Lib.hid hk3; clear hb3 hk3)
            go_ret
            exact ⟨_, _, _, rfl, by rw [← HF.out, ← HT2.out]; exact HB4.out, (HK.out.alloc (by omega) _).trans HK4.out⟩
end Go.Proofs.Ytcidcjghglgkhaa
