/- The document's Feed. -/
import Derived.Test.YtebllmpdlapefaaGreatDoorKA5
import Derived.Test.YtebllmpdlapefaaGreatDoorKA36
namespace Go.Proofs.YtebllmpdlapefaaGreatDoor
set_option linter.unusedVariables false
set_option linter.unusedSimpArgs false
open Go.RowKit

def rFrC (c : Cfg) (x : Fed) : Array Value := #[.int .i64 c.fm, .int .u32 c.mg, .int .i64 c.fr, .int .i64 c.un, .int .i64 c.de, .int .i64 c.it, .string x.buf, .int .i64 x.fault, .int .i64 x.laid, .int .i64 x.told]
def rFrV (c : Cfg) (x : Fed) : Value := .agg (rFrC c x)
theorem set10 {w : World} {g : Nat} {t : TypeId} {z0 z1 z2 z3 z4 z5 z6 z7 z8 z9 : Value} (h : Blk w g t #[z0, z1, z2, z3, z4, z5, z6, z7, z8, z9]) (v0 v1 v2 v3 v4 v5 v6 v7 v8 v9 : Value) : Blk ((((((((((w.setCell ⟨g, 0, none⟩ v0).setCell ⟨g, 1, none⟩ v1).setCell ⟨g, 2, none⟩ v2).setCell ⟨g, 3, none⟩ v3).setCell ⟨g, 4, none⟩ v4).setCell ⟨g, 5, none⟩ v5).setCell ⟨g, 6, none⟩ v6).setCell ⟨g, 7, none⟩ v7).setCell ⟨g, 8, none⟩ v8).setCell ⟨g, 9, none⟩ v9) g t #[v0, v1, v2, v3, v4, v5, v6, v7, v8, v9] := by
  have h0 : Blk (w.setCell ⟨g, 0, none⟩ v0) g t #[v0, z1, z2, z3, z4, z5, z6, z7, z8, z9] := Blk.store h rfl
  have h1 : Blk ((w.setCell ⟨g, 0, none⟩ v0).setCell ⟨g, 1, none⟩ v1) g t #[v0, v1, z2, z3, z4, z5, z6, z7, z8, z9] := Blk.store h0 rfl
  have h2 : Blk (((w.setCell ⟨g, 0, none⟩ v0).setCell ⟨g, 1, none⟩ v1).setCell ⟨g, 2, none⟩ v2) g t #[v0, v1, v2, z3, z4, z5, z6, z7, z8, z9] := Blk.store h1 rfl
  have h3 : Blk ((((w.setCell ⟨g, 0, none⟩ v0).setCell ⟨g, 1, none⟩ v1).setCell ⟨g, 2, none⟩ v2).setCell ⟨g, 3, none⟩ v3) g t #[v0, v1, v2, v3, z4, z5, z6, z7, z8, z9] := Blk.store h2 rfl
  have h4 : Blk (((((w.setCell ⟨g, 0, none⟩ v0).setCell ⟨g, 1, none⟩ v1).setCell ⟨g, 2, none⟩ v2).setCell ⟨g, 3, none⟩ v3).setCell ⟨g, 4, none⟩ v4) g t #[v0, v1, v2, v3, v4, z5, z6, z7, z8, z9] := Blk.store h3 rfl
  have h5 : Blk ((((((w.setCell ⟨g, 0, none⟩ v0).setCell ⟨g, 1, none⟩ v1).setCell ⟨g, 2, none⟩ v2).setCell ⟨g, 3, none⟩ v3).setCell ⟨g, 4, none⟩ v4).setCell ⟨g, 5, none⟩ v5) g t #[v0, v1, v2, v3, v4, v5, z6, z7, z8, z9] := Blk.store h4 rfl
  have h6 : Blk (((((((w.setCell ⟨g, 0, none⟩ v0).setCell ⟨g, 1, none⟩ v1).setCell ⟨g, 2, none⟩ v2).setCell ⟨g, 3, none⟩ v3).setCell ⟨g, 4, none⟩ v4).setCell ⟨g, 5, none⟩ v5).setCell ⟨g, 6, none⟩ v6) g t #[v0, v1, v2, v3, v4, v5, v6, z7, z8, z9] := Blk.store h5 rfl
  have h7 : Blk ((((((((w.setCell ⟨g, 0, none⟩ v0).setCell ⟨g, 1, none⟩ v1).setCell ⟨g, 2, none⟩ v2).setCell ⟨g, 3, none⟩ v3).setCell ⟨g, 4, none⟩ v4).setCell ⟨g, 5, none⟩ v5).setCell ⟨g, 6, none⟩ v6).setCell ⟨g, 7, none⟩ v7) g t #[v0, v1, v2, v3, v4, v5, v6, v7, z8, z9] := Blk.store h6 rfl
  have h8 : Blk (((((((((w.setCell ⟨g, 0, none⟩ v0).setCell ⟨g, 1, none⟩ v1).setCell ⟨g, 2, none⟩ v2).setCell ⟨g, 3, none⟩ v3).setCell ⟨g, 4, none⟩ v4).setCell ⟨g, 5, none⟩ v5).setCell ⟨g, 6, none⟩ v6).setCell ⟨g, 7, none⟩ v7).setCell ⟨g, 8, none⟩ v8) g t #[v0, v1, v2, v3, v4, v5, v6, v7, v8, z9] := Blk.store h7 rfl
  have h9 : Blk ((((((((((w.setCell ⟨g, 0, none⟩ v0).setCell ⟨g, 1, none⟩ v1).setCell ⟨g, 2, none⟩ v2).setCell ⟨g, 3, none⟩ v3).setCell ⟨g, 4, none⟩ v4).setCell ⟨g, 5, none⟩ v5).setCell ⟨g, 6, none⟩ v6).setCell ⟨g, 7, none⟩ v7).setCell ⟨g, 8, none⟩ v8).setCell ⟨g, 9, none⟩ v9) g t #[v0, v1, v2, v3, v4, v5, v6, v7, v8, v9] := Blk.store h8 rfl
  exact h9
set_option maxRecDepth 100000 in
set_option maxHeartbeats 2000000 in
theorem refFeed_broken (c : Cfg) (x : Fed) (s : ByteArray) (w : World) (h0 : x.fault ≠ 0) :
    Calls Tryz.prog 43 #[keyV, rFrV c x, .string s] w fun e w' => e = .returned (.tuple #[rFrV c { x with laid := 0 }, .slice none 0 0, .int .i64 x.fault]) ∧ Below w.heap.size w w' := by
  have hbe : (x.fault != 0) = true := bne_iff_ne.2 h0
  obtain ⟨b, fl, ld, td⟩ := x
  simp only at *
  unfold keyV rFrV rFrC at *
  try simp only
  have HI := Lib.hid (info_key' 64)
  generalize kC 64 = KL at *
  obtain ⟨W0, hW0⟩ : ∃ W0, ((w.alloc (.cells KL 32)).alloc (.cells #[.int .i64 c.fm, .int .u32 c.mg, .int .i64 c.fr, .int .i64 c.un, .int .i64 c.de, .int .i64 c.it, .string b, .int .i64 fl, .int .i64 ld, .int .i64 td] 76)).alloc (.cells #[.int .i64 0, .int .u32 0, .int .i64 0, .int .i64 0, .int .i64 0, .int .i64 0, .string ⟨#[]⟩, .int .i64 0, .int .i64 0, .int .i64 0] 76) = W0 := ⟨_, rfl⟩
  obtain ⟨hz0, hB0, hK0, hF0, hR0⟩ := three_new hW0
  have HK0 := Lib.hid hK0
  have HF0 := Lib.hid hF0
  have HR0 := Lib.hid hR0
  have HB0 := Lib.hid hB0
  have HZ0 := Lib.hid hz0
  have HW0 := Lib.hid hW0
  clear hz0 hB0 hK0 hF0 hR0 hW0
  have g0 := HF0.out.cell 0
  have g1 := HF0.out.cell 1
  have g2 := HF0.out.cell 2
  have g3 := HF0.out.cell 3
  have g4 := HF0.out.cell 4
  have g5 := HF0.out.cell 5
  have g6 := HF0.out.cell 6
  have g7 := HF0.out.cell 7
  have g8 := HF0.out.cell 8
  have g9 := HF0.out.cell 9
  simp at g0 g1 g2 g3 g4 g5 g6 g7 g8 g9
  go_enter Tryz.func43, Tryz.ntmps43
  go_wp2_with fail
  go_region
  all_goals
    go_wp2
    refine bodyPost_ret (v := .tuple #[.agg #[.int .i64 c.fm, .int .u32 c.mg, .int .i64 c.fr, .int .i64 c.un, .int .i64 c.de, .int .i64 c.it, .string b, .int .i64 fl, .int .i64 0, .int .i64 td], .slice none 0 0, .int .i64 fl]) (by simp [results, Tryz.results43, go_sem]) rfl ?_
    exact ⟨rfl, (by repeat (first | exact Below.refl _ _ | assumption | with_reducible refine Below.drewN' ?_ _ | with_reducible refine Below.drew ?_ | ((with_reducible refine Below.alloc' ?_ ?_ _); · (first | omega | (simp <;> omega)))))⟩
set_option maxRecDepth 100000 in
set_option maxHeartbeats 2000000 in
theorem refFeed_whole (c : Cfg) (x : Fed) (s : ByteArray) (w : World) (hc : c.ok) (h0 : x.fault = 0) (hs : x.buf.size + s.size ≤ 100000) (ht : x.told ≤ 1000000000) :
    Calls Tryz.prog 43 #[keyV, rFrV c x, .string s] w fun e w' => (∃ v, e = .returned (.tuple #[rFrV c (fed (wNext c) x s).1, v, .int .i64 (fed (wNext c) x s).2.2]) ∧ FrO w' w.heap.size v (fed (wNext c) x s).2.1) ∧ Below w.heap.size w w' := by
  rw [fed_whole h0]
  have HS := Lib.hid (fun V => refSplit18_c c (x.buf ++ s) V hc (by rw [size_app]; omega))
  have hlen := split_len' c (x.buf ++ s)
  rw [size_app] at hlen
  have hmet := split_met c (x.buf ++ s)
  rw [size_app] at hmet
  have hb1 : x.buf.size ≤ 100000 := by omega
  have hs1 : s.size ≤ 100000 := by omega
  generalize split (wNext c) (x.buf ++ s) = X at *
  obtain ⟨l, tl, m, er⟩ := X
  unfold Cfg.val at HS
  obtain ⟨b, fl, ld, td⟩ := x
  simp only at *
  unfold keyV rFrV rFrC at *
  try simp only
  have HI := Lib.hid (info_key' 64)
  generalize kC 64 = KL at *
  obtain ⟨W0, hW0⟩ : ∃ W0, ((w.alloc (.cells KL 32)).alloc (.cells #[.int .i64 c.fm, .int .u32 c.mg, .int .i64 c.fr, .int .i64 c.un, .int .i64 c.de, .int .i64 c.it, .string b, .int .i64 fl, .int .i64 ld, .int .i64 td] 76)).alloc (.cells #[.int .i64 0, .int .u32 0, .int .i64 0, .int .i64 0, .int .i64 0, .int .i64 0, .string ⟨#[]⟩, .int .i64 0, .int .i64 0, .int .i64 0] 76) = W0 := ⟨_, rfl⟩
  obtain ⟨hz0, hB0, hK0, hF0, hR0⟩ := three_new hW0
  have HK0 := Lib.hid hK0
  have HF0 := Lib.hid hF0
  have HR0 := Lib.hid hR0
  have HB0 := Lib.hid hB0
  have HZ0 := Lib.hid hz0
  have HW0 := Lib.hid hW0
  clear hz0 hB0 hK0 hF0 hR0 hW0
  have g0 := HF0.out.cell 0
  have g1 := HF0.out.cell 1
  have g2 := HF0.out.cell 2
  have g3 := HF0.out.cell 3
  have g4 := HF0.out.cell 4
  have g5 := HF0.out.cell 5
  have g6 := HF0.out.cell 6
  have g7 := HF0.out.cell 7
  have g8 := HF0.out.cell 8
  have g9 := HF0.out.cell 9
  simp at g0 g1 g2 g3 g4 g5 g6 g7 g8 g9
  go_enter Tryz.func43, Tryz.ntmps43
  subst h0
  go_upto_region 1 with fail
  rw [HW0.out]
  go_wp2_with (refine wpList_load_row (by rfl) 32 (.tmp 3) (by rfl) w.heap.size (by rfl) 32 KL (0, 0) _ HK0.out Tryz.underlying32 rfl HI.out ?_)
  refine (HS.out _).mono ?_
  rintro e w1 ⟨⟨v, rfl, hf⟩, hb⟩
  obtain ⟨A, n, cap, rfl, hn, hnc, hcm⟩ := hf.form'
  have hn1 : n ≤ 200000 := by rw [hn.out]; omega
  have HF1 := Lib.hid (HF0.out.keep hb (by have := HZ0.out; omega))
  have HR1 := Lib.hid (HR0.out.keep hb (by have := HZ0.out; omega))
  have HFR := Lib.hid hf
  have HB1 : Hid (Below w.heap.size w w1) := Lib.hid (HB0.out.trans (hb.mono (by have := HZ0.out; omega)))
  have hz1 : w.heap.size + 3 ≤ w1.heap.size := by have := hb.size; have := HZ0.out; omega
  have g6 := HF1.out.cell 6
  have g7 := HF1.out.cell 7
  have g8 := HF1.out.cell 8
  have g9 := HF1.out.cell 9
  simp at g6 g7 g8 g9
  have f6 := HF1.out.frozen 6
  have f7 := HF1.out.frozen 7
  have f8 := HF1.out.frozen 8
  have f9 := HF1.out.frozen 9
  clear hb hf
  go_upto_region 9 with fail
  obtain ⟨W9, hW9⟩ : ∃ W9, ((((w1.setCell ⟨w.heap.size + 1, 6, none⟩ (.string tl)).setCell ⟨w.heap.size + 1, 7, none⟩ (.int .i64 er)).setCell ⟨w.heap.size + 1, 8, none⟩ (.int .i64 ((s.size : Int) + m))).setCell ⟨w.heap.size + 1, 9, none⟩ (.int .i64 ((td : Int) + n))) = W9 := ⟨_, rfl⟩
  have HF9 : Blk W9 (w.heap.size + 1) 76 #[.int .i64 c.fm, .int .u32 c.mg, .int .i64 c.fr, .int .i64 c.un, .int .i64 c.de, .int .i64 c.it, .string tl, .int .i64 er, .int .i64 ((s.size : Int) + m), .int .i64 ((td : Int) + n)] := by
    rw [← hW9]; exact (((HF1.out.set 6 _).set 7 _).set 8 _).set 9 _
  have HR9 : Blk W9 (w.heap.size + 1 + 1) 76 #[.int .i64 0, .int .u32 0, .int .i64 0, .int .i64 0, .int .i64 0, .int .i64 0, .string ⟨#[]⟩, .int .i64 0, .int .i64 0, .int .i64 0] := by
    rw [← hW9]; exact (((HR1.out.far (by simp) _).far (by simp) _).far (by simp) _).far (by simp) _
  have hO9 : Only [w.heap.size + 1] w1 W9 := by
    rw [← hW9]; exact ((((Only.refl [w.heap.size + 1] w1).setCell (.inl (by simp)) _).setCell (.inl (by simp)) _).setCell (.inl (by simp)) _).setCell (.inl (by simp)) _
  have HB9 : Hid (Below w.heap.size w W9) := Lib.hid (HB1.out.trans (hO9.below (by omega) (by simp)))
  have HFR9 : Hid (FrO W9 W0.heap.size (.slice A n cap) l) := Lib.hid (HFR.out.only hO9 (by have := HZ0.out; simp; omega))
  rw [hW9]
  clear hW9 hO9 g6 g7 g8 g9 f6 f7 f8 f9 HF1 HR1 HFR HB1
  have q0 := HF9.cell 0
  have q1 := HF9.cell 1
  have q2 := HF9.cell 2
  have q3 := HF9.cell 3
  have q4 := HF9.cell 4
  have q5 := HF9.cell 5
  have q6 := HF9.cell 6
  have q7 := HF9.cell 7
  have q8 := HF9.cell 8
  have q9 := HF9.cell 9
  have r0 := HR9.cell 0
  have r1 := HR9.cell 1
  have r2 := HR9.cell 2
  have r3 := HR9.cell 3
  have r4 := HR9.cell 4
  have r5 := HR9.cell 5
  have r6 := HR9.cell 6
  have r7 := HR9.cell 7
  have r8 := HR9.cell 8
  have r9 := HR9.cell 9
  simp at q0 q1 q2 q3 q4 q5 q6 q7 q8 q9 r0 r1 r2 r3 r4 r5 r6 r7 r8 r9
  have t0 := HR9.frozen 0
  have t1 := HR9.frozen 1
  have t2 := HR9.frozen 2
  have t3 := HR9.frozen 3
  have t4 := HR9.frozen 4
  have t5 := HR9.frozen 5
  have t6 := HR9.frozen 6
  have t7 := HR9.frozen 7
  have t8 := HR9.frozen 8
  have t9 := HR9.frozen 9
  have HR9 := Lib.hid HR9
  have HF9 := Lib.hid HF9
  go_wp2
  obtain ⟨W10, hW10⟩ : ∃ W10, ((((((((((W9.setCell ⟨w.heap.size + 1 + 1, 0, none⟩ (.int .i64 c.fm)).setCell ⟨w.heap.size + 1 + 1, 1, none⟩ (.int .u32 c.mg)).setCell ⟨w.heap.size + 1 + 1, 2, none⟩ (.int .i64 c.fr)).setCell ⟨w.heap.size + 1 + 1, 3, none⟩ (.int .i64 c.un)).setCell ⟨w.heap.size + 1 + 1, 4, none⟩ (.int .i64 c.de)).setCell ⟨w.heap.size + 1 + 1, 5, none⟩ (.int .i64 c.it)).setCell ⟨w.heap.size + 1 + 1, 6, none⟩ (.string tl)).setCell ⟨w.heap.size + 1 + 1, 7, none⟩ (.int .i64 er)).setCell ⟨w.heap.size + 1 + 1, 8, none⟩ (.int .i64 ((s.size : Int) + m))).setCell ⟨w.heap.size + 1 + 1, 9, none⟩ (.int .i64 ((td : Int) + n))) = W10 := ⟨_, rfl⟩
  have HK : Blk W10 (w.heap.size + 1 + 1) 76 #[.int .i64 c.fm, .int .u32 c.mg, .int .i64 c.fr, .int .i64 c.un, .int .i64 c.de, .int .i64 c.it, .string tl, .int .i64 er, .int .i64 ((s.size : Int) + m), .int .i64 ((td : Int) + n)] := by
    rw [← hW10]; exact set10 HR9.out _ _ _ _ _ _ _ _ _ _
  have hO10 : Only [w.heap.size + 1 + 1] W9 W10 := by
    rw [← hW10]; exact ((((((((((Only.refl [w.heap.size + 1 + 1] W9).setCell (.inl (by simp)) _).setCell (.inl (by simp)) _).setCell (.inl (by simp)) _).setCell (.inl (by simp)) _).setCell (.inl (by simp)) _).setCell (.inl (by simp)) _).setCell (.inl (by simp)) _).setCell (.inl (by simp)) _).setCell (.inl (by simp)) _).setCell (.inl (by simp)) _
  rw [hW10]
  clear hW10 q0 q1 q2 q3 q4 q5 q6 q7 q8 q9 r0 r1 r2 r3 r4 r5 r6 r7 r8 r9 t0 t1 t2 t3 t4 t5 t6 t7 t8 t9
  have k0 := HK.cell 0
  have k1 := HK.cell 1
  have k2 := HK.cell 2
  have k3 := HK.cell 3
  have k4 := HK.cell 4
  have k5 := HK.cell 5
  have k6 := HK.cell 6
  have k7 := HK.cell 7
  have k8 := HK.cell 8
  have k9 := HK.cell 9
  simp at k0 k1 k2 k3 k4 k5 k6 k7 k8 k9
  have hnl : ((td : Int) + n) = ((td + l.length : Nat) : Int) := by rw [hn.out]; omega
  have hsm : ((s.size : Int) + m) = ((s.size + m : Nat) : Int) := by omega
  refine bodyPost_ret (v := .tuple #[.agg #[.int .i64 c.fm, .int .u32 c.mg, .int .i64 c.fr, .int .i64 c.un, .int .i64 c.de, .int .i64 c.it, .string tl, .int .i64 er, .int .i64 ((s.size : Int) + m), .int .i64 ((td : Int) + n)], .slice A n cap, .int .i64 er]) (by simp [results, Tryz.results43, go_sem, k0, k1, k2, k3, k4, k5, k6, k7, k8, k9]) rfl ?_
  exact ⟨⟨.slice A n cap, by rw [hnl, hsm], (HFR9.out.only hO10 (by have := HZ0.out; simp; omega)).lower (by have := HZ0.out; omega)⟩, HB9.out.trans (hO10.below HB9.out.size (by simp; omega))⟩
/-- The document's Feed, broken or not. -/
theorem refFeed19_c (c : Cfg) (x : Fed) (s : ByteArray) (w : World) (hc : c.ok) (hs : x.buf.size + s.size ≤ 100000) (ht : x.told ≤ 1000000000) :
    Calls Tryz.prog 43 #[keyV, rFrV c x, .string s] w fun e w' => (∃ v, e = .returned (.tuple #[rFrV c (fed (wNext c) x s).1, v, .int .i64 (fed (wNext c) x s).2.2]) ∧ FrO w' w.heap.size v (fed (wNext c) x s).2.1) ∧ Below w.heap.size w w' := by
  by_cases h0 : x.fault = 0
  · exact refFeed_whole c x s w hc h0 hs ht
  · refine (refFeed_broken c x s w h0).mono fun e w' ⟨h1, h2⟩ => ⟨⟨.slice none 0 0, ?_, ?_⟩, h2⟩
    · rw [fed_broken h0]; exact h1
    · rw [fed_broken h0]; exact FrO.nil _ _
end Go.Proofs.YtebllmpdlapefaaGreatDoor
