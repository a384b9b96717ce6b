/- framer.cut. -/
/- framer.New, Feed, and what is asked of a framer. -/
import Derived.Test.YtebllmpdlapefaaGreatDoorKA6
import Derived.Test.YtebllmpdlapefaaGreatDoorKA7
import Derived.Test.YtebllmpdlapefaaGreatDoorKA34
import Derived.Test.YtebllmpdlapefaaGreatDoorKA4
import Derived.Test.YtebllmpdlapefaaGreatDoorKA36
namespace Go.Proofs.YtebllmpdlapefaaGreatDoor
set_option linter.unusedVariables false
set_option linter.unusedSimpArgs false
open Go.RowKit

theorem MS.grown {mo : Option Nat} {t R : Nat} {w V V' : World} {row : Option Nat} (h : MS mo t R w V) (hg : V.grownBy V' row) (hr : ∀ k, row = some k → w.heap.size ≤ k) (hm : ∀ k, mo = some k → k < w.heap.size) : MS mo t R w V' :=
  ⟨h.only.grown hg (fun k e => .inr (hr k e)), h.met.only (Only.of_grown hg) (fun k e => by
    have h1 := hm k e
    intro h2
    have := hr k (by simpa using h2)
    omega)⟩
set_option maxRecDepth 100000 in
set_option maxHeartbeats 4000000 in
theorem cut_c (c : Cfg) (g gm base : Nat) (bv : Value) (b : ByteArray) (nd laid told t R : Nat) (w : World) (hr : c.right = true) (hc : c.ok) (hb : b.size ≤ 100000) (hB : FrB w g c bv nd 0 laid told) (hbuf : Buf w base 5 bv b.data.toList) (hbase : base ≤ w.heap.size)
    (hM : Met w (some gm) t R) (hgm : gm ≠ g) (hmb : bv.ownBlock ≠ some gm) (hR : 1099511627776 ≤ R) (hnd : Needs c b nd) :
    Calls Tryz.prog 60 #[.pointer (some ⟨g, 0, none⟩), .pointer (some ⟨gm, 0, none⟩)] w fun e w' => ∃ rv bv' nd', e = .returned rv ∧ FrO w' w.heap.size rv (split (wNext c) b).1 ∧ FrB w' g c bv' nd' (split (wNext c) b).2.2.2 laid told ∧ Buf w' base 5 bv' (split (wNext c) b).2.1.data.toList ∧
      Met w' (some gm) (t + (split (wNext c) b).2.2.1) (R - (split (wNext c) b).2.2.1) ∧ Only (gm :: g :: bv.ownBlock.toList) w w' ∧ (∀ k, bv'.ownBlock = some k → bv.ownBlock = some k ∨ w.heap.size ≤ k) ∧ ((split (wNext c) b).2.2.2 = 0 → Needs c (split (wNext c) b).2.1 nd') := by
  have hne : bv.ownBlock ≠ some g := hbuf.own_ne hB (by decide)
  have hbf := hbuf.form
  rw [toList_size] at hbf
  obtain ⟨A, cap, rfl, hlc, hcm⟩ := hbf
  have hstr : ∀ V, Below w.heap.size w V → (convert 104 9 (.slice A b.size cap)).run Tryz.prog V = .ok (.string b) V := fun V hV => by
    have := Buf.str' (P := Tryz.prog) (src := 104) (dst := 9) Tryz.underlying104 Tryz.underlying5 Tryz.underlying9 (hbuf.below hV)
    rwa [bytes_of] at this
  have HB := Lib.hid hB
  have HBF := Lib.hid hbuf
  have HM := Lib.hid hM
  have HND := Lib.hid hnd
  have hgw : g < w.heap.size := hB.lt
  obtain ⟨q0, q1, q2, q3, q4, q5⟩ := hB.cells
  obtain ⟨p6, p7, p8, p9, p10⟩ := hB.parts
  have HNE := Lib.hid (And.intro hne hmb)
  clear hB hbuf hM hnd hne hmb
  by_cases hlt : b.size < nd
  · have HSP : Hid (split (wNext c) b = ([], b, 0, 0)) := Lib.hid (split_short (wNext_ok c) (HND.out.here hlt))
    rw [HSP.out]
    have hd : decide ((b.size : Int) < nd) = true := by simpa using hlt
    go_enter Tryz.func60, Tryz.ntmps60
    go_wp2_with fail
    go_quiet (fail)
    go_wp2
    go_ret
    exact ⟨_, _, nd, rfl, FrO.nil _ _, HB.out.drewN nq, HBF.out.below (Below.drewN' (Below.refl _ _) nq), HM.out.below (Below.drewN' (Below.refl _ _) nq), Only.drewN (Only.refl _ _) nq, fun k hk => .inl hk, fun _ => HND.out⟩
  · have hd : decide ((b.size : Int) < nd) = false := by simpa using hlt
    have HOK := Lib.hid (wNext_ok c)
    have hN0 := fun a (hR : 70000 ≤ R - a) (s : ByteArray) hs W V hM => wNextM_c c (some gm) (t + a) (R - a) s hc hR hs W V hM
    have HN0 := Lib.hid hN0
    clear hN0
    unfold mvOf Cfg.val at HN0
    have hgmw : gm < w.heap.size := HM.out.lt gm rfl
    have HKV : Hid (∀ V t R, MS (some gm) t R w V → V.cell? ⟨g, 0, none⟩ = some (.int .i64 c.fm) ∧ V.cell? ⟨g, 1, none⟩ = some (.int .u32 c.mg) ∧ V.cell? ⟨g, 2, none⟩ = some (.int .i64 c.fr) ∧ V.cell? ⟨g, 3, none⟩ = some (.int .i64 c.un) ∧ V.cell? ⟨g, 4, none⟩ = some (.int .i64 c.de) ∧ V.cell? ⟨g, 5, none⟩ = some (.int .i64 c.it)) := Lib.hid (fun V t R hV => FrB.cells (HB.out.only hV.only (by simp; omega)))
    have HMS0 := Lib.hid (MS.refl HM.out)
    go_enter Tryz.func60, Tryz.ntmps60
    go_wp2_with fail
    go_quiet (fail)
    have hstr2 := hstr (w.drewN nq) (Below.drewN' (Below.refl _ _) nq)
    clear hstr
    obtain ⟨w1, hw1⟩ : ∃ w1, w.drewN nq = w1 := ⟨_, rfl⟩
    have HM1 : Hid (MS (some gm) t R w w1) := Lib.hid (by rw [← hw1]; exact HMS0.out.below (Below.drewN' (Below.refl _ _) nq))
    have p6' : w1.cell? ⟨g, 6, none⟩ = some (.slice A b.size cap) := by rw [← hw1]; exact p6
    rw [hw1] at hstr2 ⊢
    clear hw1 q0 q1 q2 q3 q4 q5 p6 p7 p8 p9 p10 HMS0
    go_wp2_with fail
    go_loopw [5, 7] (fun lv atv wr => ∃ (acc : List Fr) (k a : Nat), FrO wr w.heap.size lv acc ∧ atv = .int .i64 (k : Nat) ∧ k ≤ b.size ∧ acc.length ≤ k ∧ a ≤ 65536 * acc.length ∧ Hid (split (wNext c) b = (acc ++ (split (wNext c) (b.extract k b.size)).1, (split (wNext c) (b.extract k b.size)).2.1, a + (split (wNext c) (b.extract k b.size)).2.2.1, (split (wNext c) (b.extract k b.size)).2.2.2)) ∧ Hid (MS (some gm) (t + a) (R - a) w wr)) (fun _ atv _ => b.size - (intOf atv).toNat)
    case atStart => exact ⟨[], 0, 0, FrO.nil _ _, rfl, by omega, by simp, by simp, Lib.hid (by rw [cut_all]; simp), HM1⟩
    case round =>
      clear HM1 p6' hstr2
      obtain ⟨acc, k, a, hacc, rfl, hk, hal, ha, HSP, HMR⟩ := hrel
      obtain ⟨A5, n5, cap5, rfl, hn5, hnc5, hcm5⟩ := hacc.form'
      have HACC := Lib.hid hacc
      clear hacc
      obtain ⟨r, hrx⟩ : ∃ r, b.extract k b.size = r := ⟨_, rfl⟩
      have hrz : r.size = b.size - k := by rw [← hrx, size_cut _ _ _ (Nat.le_refl _)]
      rw [hrx] at HSP
      have HRX := Lib.hid hrx
      have hki : (k : Int) ≤ b.size := by omega
      have HN := Lib.hid (fun W V hM => HN0.out a (by omega) r (by omega) W V hM)
      have HGO : Hid ((wNext c r).1 = 0 → 0 < (wNext c r).2.2.1 ∧ (wNext c r).2.2.1 ≤ r.size ∧ split (wNext c) b = ((acc ++ [(wNext c r).2.1]) ++ (split (wNext c) (b.extract (k + (wNext c r).2.2.1) b.size)).1, (split (wNext c) (b.extract (k + (wNext c r).2.2.1) b.size)).2.1, (a + (wNext c r).2.2.2) + (split (wNext c) (b.extract (k + (wNext c r).2.2.1) b.size)).2.2.1, (split (wNext c) (b.extract (k + (wNext c r).2.2.1) b.size)).2.2.2)) := Lib.hid (fun h => by
        obtain ⟨p1, p2⟩ := HOK.out.pos r h
        refine ⟨p1, p2, ?_⟩
        have e : r.extract (wNext c r).2.2.1 r.size = b.extract (k + (wNext c r).2.2.1) b.size := by
          rw [← HRX.out, cut_cut _ _ _ _ (by rw [size_cut _ _ _ (Nat.le_refl _)]; omega), size_cut _ _ _ (Nat.le_refl _)]
          congr 1; omega
        rw [HSP.out, split_go HOK.out h, e]
        simp [Spl.cons, Nat.add_assoc])
      have HST : Hid ((wNext c r).1 ≠ 0 → split (wNext c) b = (acc, r, a + (wNext c r).2.2.2, if (wNext c r).1 = 2 then 0 else (wNext c r).1)) := Lib.hid (fun h => by
        rw [HSP.out, split_eq HOK.out r, if_neg h]; simp)
      have HSH : Hid ((wNext c r).1 = 2 → Needs c r (wNeed c r)) := Lib.hid (fun h => Needs.of hr h)
      have HNC := Lib.hid (fun V => needed_c c r V hr (by omega))
      unfold Cfg.val at HNC
      have hm := wNext_met c r
      obtain ⟨X, hX⟩ : ∃ X, wNext c r = X := ⟨_, rfl⟩
      rw [hX] at HN HGO HST hm HSH
      clear hX HN0
      obtain ⟨y5, ⟨y1, y2, y3⟩, y4, m⟩ := X
      simp only at HGO HST hm HSH
      unfold wRet Fr.val at HN
      simp only at HN
      have HMW := Lib.hid (MS.refl HMR.out.met)
      have HGA : Hid (∀ k, some gm = some k → k < wr.heap.size) := Lib.hid HMR.out.met.lt
      have HWS : Hid (w.heap.size ≤ wr.heap.size) := Lib.hid HMR.out.size
      have HKW : Hid (∀ V t R, MS (some gm) t R wr V → V.cell? ⟨g, 0, none⟩ = some (.int .i64 c.fm) ∧ V.cell? ⟨g, 1, none⟩ = some (.int .u32 c.mg) ∧ V.cell? ⟨g, 2, none⟩ = some (.int .i64 c.fr) ∧ V.cell? ⟨g, 3, none⟩ = some (.int .i64 c.un) ∧ V.cell? ⟨g, 4, none⟩ = some (.int .i64 c.de) ∧ V.cell? ⟨g, 5, none⟩ = some (.int .i64 c.it)) := Lib.hid (fun V t R hV => HKV.out V _ _ (hV.from HMR.out.only))
      have HNA : Hid (∀ V, MS (some gm) (t + a) (R - a) wr V → Blk V wr.heap.size 27 #[.int .u64 0, .string ⟨#[]⟩, .string ⟨#[]⟩] → Calls Tryz.prog 21 #[.agg #[.int .i64 c.fm, .int .u32 c.mg, .int .i64 c.fr, .int .i64 c.un, .int .i64 c.de, .int .i64 c.it], .pointer (some ⟨gm, 0, none⟩), .string r] V fun e w' => e = .returned (.tuple #[.agg #[.int .u64 y1, .string y2, .string y3], .int .i64 y4, .int .i64 y5]) ∧ MS (some gm) (t + a + m) (R - a - m) wr w' ∧ Blk w' wr.heap.size 27 #[.int .u64 0, .string ⟨#[]⟩, .string ⟨#[]⟩]) := Lib.hid (fun V hV hB =>
        (HN.out V V (MS.refl hV.met)).mono fun e w' ⟨h1, h2⟩ => ⟨h1, h2.from hV.only, hB.ms h2 HGA.out⟩)
      have HN1 : Hid (∀ V, MS (some gm) (t + a) (R - a) wr V → Calls Tryz.prog 21 #[.agg #[.int .i64 c.fm, .int .u32 c.mg, .int .i64 c.fr, .int .i64 c.un, .int .i64 c.de, .int .i64 c.it], .pointer (some ⟨gm, 0, none⟩), .string r] V fun e w' => e = .returned (.tuple #[.agg #[.int .u64 y1, .string y2, .string y3], .int .i64 y4, .int .i64 y5]) ∧ MS (some gm) (t + a + m) (R - a - m) wr w') := Lib.hid (fun V hV =>
        (HN.out wr V hV))
      clear HN
      go_upto_region 6 with fail
      go_cut [8, 9, 10] (fun v n er wx => ∃ b8 : Nat, v = .pointer (some ⟨b8, 0, none⟩) ∧ n = .int .i64 y4 ∧ er = .int .i64 y5 ∧ Hid (wr.heap.size ≤ b8) ∧ Hid (Blk wx b8 27 #[.int .u64 y1, .string y2, .string y3]) ∧ Hid (MS (some gm) (t + a + m) (R - a - m) wr wx))
      case first =>
        have hrx2 := HRX.out
        go_wp2_with fail
        go_region_held3 (fun V => V.cell? ⟨g, 0, none⟩ = some (.int .i64 c.fm) ∧ V.cell? ⟨g, 1, none⟩ = some (.int .u32 c.mg) ∧ V.cell? ⟨g, 2, none⟩ = some (.int .i64 c.fr) ∧ V.cell? ⟨g, 3, none⟩ = some (.int .i64 c.un) ∧ V.cell? ⟨g, 4, none⟩ = some (.int .i64 c.de) ∧ V.cell? ⟨g, 5, none⟩ = some (.int .i64 c.it))
          (first | exact HKW.out _ _ _ HMW.out | exact HKW.out _ _ _ HMW.out.drew | exact HKW.out _ _ _ ((HMW.out.alloc _).drew) | exact HKW.out _ _ _ (HMW.out.drew.alloc _) | exact HKW.out _ _ _ hv | exact HKW.out _ _ _ (hv.alloc _) | exact HKW.out _ _ _ (hv.put3 (Nat.le_refl _) HGA.out _ _ _))
          (first
            | (go_at_call 21; ((with_reducible refine (HNA.out _ ((HMW.out.alloc _).drew) (Blk.new _ _ _).drew).mono ?_); rintro e wv ⟨rfl, hv, hz⟩; obtain ⟨z0, z1, z2, zf0, zf1, zf2⟩ := blk3 hz))
            | (go_at_call 21; ((with_reducible refine (HN1.out _ HMW.out.drew).mono ?_); rintro e wv ⟨rfl, hv⟩)))
        all_goals
          go_wp2_with fail
          go_meet
          case rel =>
            first
              | exact ⟨_, rfl, rfl, rfl, Lib.hid hv.size, Lib.hid (Blk.new _ _ _), Lib.hid (hv.alloc _)⟩
              | exact ⟨_, rfl, rfl, rfl, Lib.hid (Nat.le_refl _), Lib.hid (set3 hz _ _ _), Lib.hid (hv.put3 (Nat.le_refl _) HGA.out _ _ _)⟩
      case rest =>
        obtain ⟨b8, rfl, rfl, rfl, HZ8, HK8, HM8⟩ := hcut
        have HM9 : Hid (MS (some gm) (t + a + m) (R - a - m) w wc) := Lib.hid (HM8.out.from HMR.out.only)
        have HACC2 : Hid (FrO wc w.heap.size (.slice A5 n5 cap5) acc) := Lib.hid (HACC.out.only HM8.out.only (by simp; omega))
        have hwc : w.heap.size ≤ wc.heap.size := HM9.out.size
        clear HNA HN1 HKW HKV HMW HGA HMR HACC
        obtain ⟨k0, k1, k2, _, _, _⟩ := blk3 HK8.out
        have hb8 := HK8.out.lt
        by_cases h1 : y5 = 0
        · subst h1
          obtain ⟨p1, p2, p3⟩ := HGO.out rfl
          have HS3 := Lib.hid p3
          clear p3 HGO HST HSP HSH HNC
          have p4 : (k : Int) + y4 ≤ b.size := by omega
          have HACC3 := Lib.hid (HACC2.out.below ((Below.refl _ wc).alloc (Nat.le_refl _) (.cells #[.int .u64 y1, .string y2, .string y3] 27)))
          have HM10 := Lib.hid (HM9.out.alloc (.cells #[.int .u64 y1, .string y2, .string y3] 27))
          go_wp2_with (
            refine wpList_append_frame (by rfl) (.tmp 41) (.tmp 43) (by rfl) w.heap.size acc (by rfl) HACC3.out ⟨y1, y2, y3⟩ wc.heap.size (by rfl) (by simp) (by simp) (by simp) (by omega) (by simp; omega) ?_
            intro g' n' cap' w2 hn' hf2 hgr hlo'
            have HF2 := Lib.hid hf2
            have HM11 : Hid (MS (some gm) (t + a + m) (R - a - m) w w2) := Lib.hid (HM10.out.grown hgr (fun k e => (HACC3.out.ge k e).1) (by intro k e; injection e with e; omega))
            clear hf2 hgr HACC3 HM10)
          go_roundw
          case rel => exact ⟨acc ++ [⟨y1, y2, y3⟩], k + y4, a + m, HF2.out, by go_num, by omega, by rw [List.length_append]; simp; omega, by rw [List.length_append]; simp; omega, HS3, Lib.hid (by have := HM11.out; rwa [Nat.add_assoc, Nat.sub_sub] at this)⟩
          case measure => simp [intOf]; omega
        · have HS2 := HST.out h1
          have HBc : Hid (FrB wc g c (.slice A b.size cap) nd 0 laid told) := Lib.hid (HB.out.only HM9.out.only (by simp; omega))
          have HBFc : Hid (Buf wc base 5 (.slice A b.size cap) b.data.toList) := Lib.hid (HBF.out.only2 HM9.out.only (fun k e => by have := HNE.out.2; rw [e] at this; simpa using Ne.symm (fun h => this (by rw [h]))))
          have hrx2 := HRX.out
          by_cases h2 : y5 = 2
          · subst h2
            rw [if_pos rfl] at HS2
            have HS2 := Lib.hid HS2
            clear HST HGO HSP
            have HND3 := Lib.hid (HSH.out (by first | rfl | trivial))
            clear HSH
            go_wp2_with fail
            refine wp_region_below_tail 11 (by kernel_rfl) (by kernel_rfl) ?_
            simp only [List.take_succ_cons, List.take_zero, List.drop_succ_cons, List.drop_zero]
            refine wpQuiet_run (.pointer (some ⟨g, 0, none⟩)) (by rfl) (fun _ _ => by first | rfl | go_simp) ?_
            simp only [Act.put, List.setIfInBounds_toArray, List.set_cons_zero, List.set_cons_succ]
            refine wpQuiet_run (.pointer (some ⟨g, 0, none⟩)) (by rfl) (fun _ _ => by first | rfl | go_simp) ?_
            simp only [Act.put, List.setIfInBounds_toArray, List.set_cons_zero, List.set_cons_succ]
            refine wpQuiet_run (.pointer (some ⟨g, 0, none⟩)) (by rfl) (fun _ _ => by first | rfl | go_simp) ?_
            simp only [Act.put, List.setIfInBounds_toArray, List.set_cons_zero, List.set_cons_succ]
            refine wpQuiet_run (.pointer (some ⟨g, 0, none⟩)) (by rfl) (fun _ _ => by first | rfl | go_simp) ?_
            simp only [Act.put, List.setIfInBounds_toArray, List.set_cons_zero, List.set_cons_succ]
            refine wpQuiet_run (.agg #[.int .i64 c.fm, .int .u32 c.mg, .int .i64 c.fr, .int .i64 c.un, .int .i64 c.de, .int .i64 c.it]) (by rfl) (fun w' hw' => by obtain ⟨q0, q1, q2, q3, q4, q5⟩ := FrB.cells (HBc.out.keep hw' HBc.out.lt); go_simp) ?_
            simp only [Act.put, List.setIfInBounds_toArray, List.set_cons_zero, List.set_cons_succ]
            refine wpQuiet_run (.string b) (by rfl) (fun _ _ => by first | rfl | go_simp) ?_
            simp only [Act.put, List.setIfInBounds_toArray, List.set_cons_zero, List.set_cons_succ]
            refine wpQuiet_run (.int .i64 k) (by rfl) (fun _ _ => by first | rfl | go_simp) ?_
            simp only [Act.put, List.setIfInBounds_toArray, List.set_cons_zero, List.set_cons_succ]
            refine wpQuiet_run (.string r) (by rfl) (fun _ _ => by first | rfl | go_simp) ?_
            simp only [Act.put, List.setIfInBounds_toArray, List.set_cons_zero, List.set_cons_succ]
            refine wpQuiet_callB 94 _ _ (by rfl) (fun _ => by first | rfl | go_simp) (fun V _ => HNC.out V) ?_
            simp only [Act.put, List.setIfInBounds_toArray, List.set_cons_zero, List.set_cons_succ]
            refine wpQuiet_run (.pointer (some ⟨g, 0, none⟩)) (by rfl) (fun _ _ => by first | rfl | go_simp) ?_
            simp only [Act.put, List.setIfInBounds_toArray, List.set_cons_zero, List.set_cons_succ]
            refine wpQuiet_run (.pointer (some ⟨g, 7, none⟩)) (by rfl) (fun _ _ => by first | rfl | go_simp) ?_
            simp only [Act.put, List.setIfInBounds_toArray, List.set_cons_zero, List.set_cons_succ]
            refine wpQuiet_nil ?_
            intro V hV
            have hBV : FrB V g c (.slice A b.size cap) nd 0 laid told := HBc.out.keep hV HBc.out.lt
            obtain ⟨_, p7, p8, _, _⟩ := FrB.parts hBV
            obtain ⟨_, f7, f8, _, _⟩ := FrB.froz hBV
            have hgV : g < V.heap.size := Nat.lt_of_lt_of_le HBc.out.lt hV.size
            go_upto_region 13 with fail
            obtain ⟨W3, hW3⟩ : ∃ W3, V.setCell ⟨g, 7, none⟩ (.int .i64 (wNeed c r : Nat)) = W3 := ⟨_, rfl⟩
            rw [hW3]
            have hOV : Only [gm, g] w V := (HM9.out.only.mono (by simp)).trans' (Only.of_below hV (Nat.le_refl _)) (by simp)
            have HO3 : Hid (Only (gm :: g :: (Value.slice A b.size cap).ownBlock.toList) w W3) := Lib.hid (by rw [← hW3]; exact (hOV.setCell (.inl (by simp)) _).mono (by intro i hi; simp at hi ⊢; rcases hi with h | h <;> simp [h]))
            have hOg : Only [g] V W3 := by rw [← hW3]; exact (Only.refl _ _).setCell (.inl (by simp)) _
            have HBF3 : Hid (Buf W3 base 5 (.slice A b.size cap) b.data.toList) := Lib.hid ((HBFc.out.below hV).only2 hOg (by intro j e h; simp at h; subst h; exact HNE.out.1 e))
            have HM3 : Hid (Met W3 (some gm) (t + a + m) (R - a - m)) := Lib.hid ((HM9.out.below hV).met.only hOg (by intro j e; injection e with e; subst e; simpa using hgm))
            have HF3 : Hid (FrO W3 w.heap.size (.slice A5 n5 cap5) acc) := Lib.hid ((HACC2.out.below hV).only hOg (by simp; omega))
            have HZ3 : Hid (w.heap.size ≤ W3.heap.size) := Lib.hid HO3.out.size
            clear hOV hOg p7 p8 f7 f8 hgV hBV
            have HB3 : Hid (FrB W3 g c (.slice A b.size cap) (wNeed c r) 0 laid told) := Lib.hid (by rw [← hW3]; exact FrB.setNeed (HBc.out.keep hV HBc.out.lt) _)
            clear hW3 hV HBc HBFc HM9 HACC2 HM8 k0 k1 k2 HK8 HZ8
            have HFIN : Hid ((split (wNext c) b).2.2.2 = 0 → Needs c (split (wNext c) b).2.1 (wNeed c r)) := Lib.hid (fun _ => by rw [HS2.out]; exact HND3.out)
            have hg3 : g < W3.heap.size := HB3.out.lt
            have HDR := Lib.hid (drop_c base (.slice A b.size cap) b.data.toList k W3 HBF3.out (by have := HZ3.out; omega) (by rw [toList_size]; omega) (by rw [toList_size]; omega))
            have HTL : Hid (b.data.toList.drop k = r.data.toList) := Lib.hid (by rw [← HRX.out, toList_cut, take_all])
            obtain ⟨p6, _, _, _, _⟩ := HB3.out.parts
            go_wp2_with fail
            refine HDR.out.mono ?_
            rintro e W4 ⟨v', rfl, hb4, hg4⟩
            rw [HTL.out] at hb4
            have HB4 : Hid (FrB W4 g c (.slice A b.size cap) (wNeed c r) 0 laid told) := Lib.hid (Blk.grB HB3.out hg4 (HNE.out.1))
            have HG4 := Lib.hid hg4
            have HBF4 := Lib.hid hb4
            obtain ⟨A6, n6, cap6, rfl, hn6, hc6, hcm6⟩ := hb4.form'
            obtain ⟨p6', _, _, _, _⟩ := HB4.out.parts
            obtain ⟨f6, _, _, _, _⟩ := HB4.out.froz
            have hg4w : g < W4.heap.size := HB4.out.lt
            clear hb4 hg4 p6 HDR
            go_wp2
            go_ret
            have HOW : Only (gm :: g :: (Value.slice A b.size cap).ownBlock.toList) w W4 := HO3.out.trans' HG4.out.only (fun i hi => .inl (by simp at hi ⊢; exact .inr (.inr hi)))
            refine ⟨.slice A5 n5 cap5, .slice A6 n6 cap6, (wNeed c r), rfl, ?_, ?_, ?_, ?_, ?_, ?_, ?_⟩
            · rw [HS2.out]
              exact (HF3.out.keep (fun j h1 h2 => HG4.out.block h2 (fun e => by have := HBF.out.ge j e; omega))).keep (fun j h1 h2 => Below.heap_setCell _ _ _ _ (by simp; omega))
            · rw [HS2.out]; exact HB4.out.setBuf _
            · rw [HS2.out]
              refine HBF4.out.keep (fun j h1 h2 => Below.heap_setCell _ _ _ _ ?_)
              rintro rfl
              exact (HBF4.out.own_ne HB4.out (by decide)) h2
            · rw [HS2.out]
              have h1 := HM3.out.only HG4.out.only (by intro j e; injection e with e; subst e; exact fun h => HNE.out.2 (own_toList.1 h))
              have h2 := h1.only ((Only.refl [g] W4).setCell (p := ⟨g, 6, none⟩) (.inl (by simp)) (.slice A6 n6 cap6)) (by intro j e; injection e with e; subst e; simpa using hgm)
              simpa only [Nat.add_assoc, Nat.sub_sub] using h2
            · exact HOW.setCell (.inl (by simp)) _
            · intro j hj
              rcases HG4.out.own with e | ⟨j', e, hj'⟩
              · exact .inl (by rw [← e]; exact hj)
              · rw [e] at hj; injection hj with hj; exact .inr (by have := HZ3.out; omega)
            exact HFIN.out
          · rw [if_neg h2] at HS2
            have HS2 := Lib.hid HS2
            clear HST HGO HSP
            have hbe : (y5 == 2) = false := beq_eq_false_iff_ne.2 h2
            obtain ⟨V, hVe⟩ : ∃ V, wc = V := ⟨_, rfl⟩
            have hV : Below wc.heap.size wc V := by rw [← hVe]; exact Below.refl _ _
            rw [hVe] at k0 k1 k2 hb8 ⊢
            clear hVe
            have hBV : FrB V g c (.slice A b.size cap) nd 0 laid told := HBc.out.keep hV HBc.out.lt
            obtain ⟨_, p7, p8, _, _⟩ := FrB.parts hBV
            obtain ⟨_, f7, f8, _, _⟩ := FrB.froz hBV
            have hgV : g < V.heap.size := Nat.lt_of_lt_of_le HBc.out.lt hV.size
            go_upto_region 13 with fail
            obtain ⟨W3, hW3⟩ : ∃ W3, V.setCell ⟨g, 8, none⟩ (.int .i64 y5) = W3 := ⟨_, rfl⟩
            rw [hW3]
            have hOV : Only [gm, g] w V := (HM9.out.only.mono (by simp)).trans' (Only.of_below hV (Nat.le_refl _)) (by simp)
            have HO3 : Hid (Only (gm :: g :: (Value.slice A b.size cap).ownBlock.toList) w W3) := Lib.hid (by rw [← hW3]; exact (hOV.setCell (.inl (by simp)) _).mono (by intro i hi; simp at hi ⊢; rcases hi with h | h <;> simp [h]))
            have hOg : Only [g] V W3 := by rw [← hW3]; exact (Only.refl _ _).setCell (.inl (by simp)) _
            have HBF3 : Hid (Buf W3 base 5 (.slice A b.size cap) b.data.toList) := Lib.hid ((HBFc.out.below hV).only2 hOg (by intro j e h; simp at h; subst h; exact HNE.out.1 e))
            have HM3 : Hid (Met W3 (some gm) (t + a + m) (R - a - m)) := Lib.hid ((HM9.out.below hV).met.only hOg (by intro j e; injection e with e; subst e; simpa using hgm))
            have HF3 : Hid (FrO W3 w.heap.size (.slice A5 n5 cap5) acc) := Lib.hid ((HACC2.out.below hV).only hOg (by simp; omega))
            have HZ3 : Hid (w.heap.size ≤ W3.heap.size) := Lib.hid HO3.out.size
            clear hOV hOg p7 p8 f7 f8 hgV hBV
            have HB3 : Hid (FrB W3 g c (.slice A b.size cap) nd y5 laid told) := Lib.hid (by rw [← hW3]; exact FrB.setFault (HBc.out.keep hV HBc.out.lt) _)
            clear hW3 hV HBc HBFc HM9 HACC2 HM8 k0 k1 k2 HK8 HZ8
            have HFIN : Hid ((split (wNext c) b).2.2.2 = 0 → Needs c (split (wNext c) b).2.1 nd) := Lib.hid (fun h => by rw [HS2.out] at h; exact absurd h h1)
            have hg3 : g < W3.heap.size := HB3.out.lt
            have HDR := Lib.hid (drop_c base (.slice A b.size cap) b.data.toList k W3 HBF3.out (by have := HZ3.out; omega) (by rw [toList_size]; omega) (by rw [toList_size]; omega))
            have HTL : Hid (b.data.toList.drop k = r.data.toList) := Lib.hid (by rw [← HRX.out, toList_cut, take_all])
            obtain ⟨p6, _, _, _, _⟩ := HB3.out.parts
            go_wp2_with fail
            refine HDR.out.mono ?_
            rintro e W4 ⟨v', rfl, hb4, hg4⟩
            rw [HTL.out] at hb4
            have HB4 : Hid (FrB W4 g c (.slice A b.size cap) nd y5 laid told) := Lib.hid (Blk.grB HB3.out hg4 (HNE.out.1))
            have HG4 := Lib.hid hg4
            have HBF4 := Lib.hid hb4
            obtain ⟨A6, n6, cap6, rfl, hn6, hc6, hcm6⟩ := hb4.form'
            obtain ⟨p6', _, _, _, _⟩ := HB4.out.parts
            obtain ⟨f6, _, _, _, _⟩ := HB4.out.froz
            have hg4w : g < W4.heap.size := HB4.out.lt
            clear hb4 hg4 p6 HDR
            go_wp2
            go_ret
            have HOW : Only (gm :: g :: (Value.slice A b.size cap).ownBlock.toList) w W4 := HO3.out.trans' HG4.out.only (fun i hi => .inl (by simp at hi ⊢; exact .inr (.inr hi)))
            refine ⟨.slice A5 n5 cap5, .slice A6 n6 cap6, nd, rfl, ?_, ?_, ?_, ?_, ?_, ?_, ?_⟩
            · rw [HS2.out]
              exact (HF3.out.keep (fun j h1 h2 => HG4.out.block h2 (fun e => by have := HBF.out.ge j e; omega))).keep (fun j h1 h2 => Below.heap_setCell _ _ _ _ (by simp; omega))
            · rw [HS2.out]; exact HB4.out.setBuf _
            · rw [HS2.out]
              refine HBF4.out.keep (fun j h1 h2 => Below.heap_setCell _ _ _ _ ?_)
              rintro rfl
              exact (HBF4.out.own_ne HB4.out (by decide)) h2
            · rw [HS2.out]
              have h1 := HM3.out.only HG4.out.only (by intro j e; injection e with e; subst e; exact fun h => HNE.out.2 (own_toList.1 h))
              have h2 := h1.only ((Only.refl [g] W4).setCell (p := ⟨g, 6, none⟩) (.inl (by simp)) (.slice A6 n6 cap6)) (by intro j e; injection e with e; subst e; simpa using hgm)
              simpa only [Nat.add_assoc, Nat.sub_sub] using h2
            · exact HOW.setCell (.inl (by simp)) _
            · intro j hj
              rcases HG4.out.own with e | ⟨j', e, hj'⟩
              · exact .inl (by rw [← e]; exact hj)
              · rw [e] at hj; injection hj with hj; exact .inr (by have := HZ3.out; omega)
            exact HFIN.out
end Go.Proofs.YtebllmpdlapefaaGreatDoor
namespace Go.Proofs.YtebllmpdlapefaaGreatDoor
set_option linter.unusedVariables false
set_option linter.unusedSimpArgs false
open Go.RowKit

/-- A framer in block g, with its buffer's value: what it holds. -/
def FrmS (w : World) (base g : Nat) (bv : Value) (c : Cfg) (x : Fed) : Prop := base ≤ g ∧ ∃ nd, FrB w g c bv nd x.fault x.laid x.told ∧ Buf w base 5 bv x.buf.data.toList ∧ (x.fault = 0 → Needs c x.buf nd)
theorem FrmS.lt {w : World} {base g : Nat} {bv : Value} {c : Cfg} {x : Fed} (h : FrmS w base g bv c x) : g < w.heap.size := by obtain ⟨_, nd, h1, _⟩ := h; exact h1.lt
theorem FrmS.own {w : World} {base g : Nat} {bv : Value} {c : Cfg} {x : Fed} (h : FrmS w base g bv c x) : ∀ k, bv.ownBlock = some k → base ≤ k ∧ k < w.heap.size := by
  obtain ⟨_, nd, _, h2, _⟩ := h
  exact fun k hk => ⟨(h2.ge k hk).1, (h2.ge k hk).2.1⟩
theorem FrmS.keep {w w' : World} {base g : Nat} {bv : Value} {c : Cfg} {x : Fed} (h : FrmS w base g bv c x) (hk : ∀ k, k < w.heap.size → k = g ∨ bv.ownBlock = some k → w'.heap[k]? = w.heap[k]?) : FrmS w' base g bv c x := by
  obtain ⟨h0, nd, h1, h2, h3⟩ := h
  exact ⟨h0, nd, (hk g h1.lt (.inl rfl)).trans h1, h2.keep (fun k hlt e => hk k hlt (.inr e)), h3⟩
theorem FrmS.only {w w' : World} {base g : Nat} {bv : Value} {c : Cfg} {x : Fed} {L : List Nat} (h : FrmS w base g bv c x) (ho : Only L w w') (hL : ∀ k, k = g ∨ bv.ownBlock = some k → k ∉ L) : FrmS w' base g bv c x := h.keep fun k hlt e => ho.block k hlt (hL k e)
theorem FrmS.below {w w' : World} {base g : Nat} {bv : Value} {c : Cfg} {x : Fed} (h : FrmS w base g bv c x) (hb : Below w.heap.size w w') : FrmS w' base g bv c x := h.only (Only.of_below hb (Nat.le_refl _)) (by simp)
/-- Where it lies, and where its row lies. -/
def foot (g : Nat) (bv : Value) : List Nat := g :: bv.ownBlock.toList
theorem mem_foot {g : Nat} {bv : Value} {k : Nat} : k ∈ foot g bv ↔ k = g ∨ bv.ownBlock = some k := by simp [foot]
theorem FrmS.foot_ge {w : World} {base g : Nat} {bv : Value} {c : Cfg} {x : Fed} (h : FrmS w base g bv c x) : ∀ k ∈ foot g bv, base ≤ k ∧ k < w.heap.size := by
  intro k hk
  rcases mem_foot.1 hk with rfl | e
  · exact ⟨h.1, h.lt⟩
  · exact h.own k e
set_option maxRecDepth 100000 in
theorem frBuffered_c (base g : Nat) (bv : Value) (c : Cfg) (x : Fed) (w : World) (h : FrmS w base g bv c x) :
    Calls Tryz.prog 40 #[.pointer (some ⟨g, 0, none⟩)] w fun e w' => e = .returned (.int .i64 (x.buf.size : Nat)) ∧ w = w' := by
  obtain ⟨_, nd, h1, h2, _⟩ := h
  have hf := h2.form
  rw [toList_size] at hf
  obtain ⟨A, cap, rfl, _, _⟩ := hf
  obtain ⟨p6, p7, p8, p9, p10⟩ := h1.parts
  clear h1 h2
  go_enter Tryz.func40, Tryz.ntmps40
  go_wp2
  go_ret
  exact ⟨rfl, rfl⟩
theorem frBuffered_nil (w : World) : Calls Tryz.prog 40 #[.pointer none] w fun e w' => e = .returned (.int .i64 0) ∧ w = w' := by
  go_enter Tryz.func40, Tryz.ntmps40
  go_wp2
  go_ret
  exact ⟨rfl, rfl⟩
set_option maxRecDepth 100000 in
theorem frFault_c (base g : Nat) (bv : Value) (c : Cfg) (x : Fed) (w : World) (h : FrmS w base g bv c x) :
    Calls Tryz.prog 39 #[.pointer (some ⟨g, 0, none⟩)] w fun e w' => e = .returned (.int .i64 x.fault) ∧ w = w' := by
  obtain ⟨_, nd, h1, h2, _⟩ := h
  have hf := h2.form
  rw [toList_size] at hf
  obtain ⟨A, cap, rfl, _, _⟩ := hf
  obtain ⟨p6, p7, p8, p9, p10⟩ := h1.parts
  clear h1 h2
  go_enter Tryz.func39, Tryz.ntmps39
  go_wp2
  go_ret
  exact ⟨rfl, rfl⟩
theorem frFault_nil (w : World) : Calls Tryz.prog 39 #[.pointer none] w fun e w' => e = .returned (.int .i64 1) ∧ w = w' := by
  go_enter Tryz.func39, Tryz.ntmps39
  go_wp2
  go_ret
  exact ⟨rfl, rfl⟩
set_option maxRecDepth 100000 in
theorem frMetered_c (base g : Nat) (bv : Value) (c : Cfg) (x : Fed) (w : World) (h : FrmS w base g bv c x) :
    Calls Tryz.prog 41 #[.pointer (some ⟨g, 0, none⟩)] w fun e w' => e = .returned (.int .i64 (x.laid : Nat)) ∧ w = w' := by
  obtain ⟨_, nd, h1, h2, _⟩ := h
  have hf := h2.form
  rw [toList_size] at hf
  obtain ⟨A, cap, rfl, _, _⟩ := hf
  obtain ⟨p6, p7, p8, p9, p10⟩ := h1.parts
  clear h1 h2
  go_enter Tryz.func41, Tryz.ntmps41
  go_wp2
  go_ret
  exact ⟨rfl, rfl⟩
theorem frMetered_nil (w : World) : Calls Tryz.prog 41 #[.pointer none] w fun e w' => e = .returned (.int .i64 0) ∧ w = w' := by
  go_enter Tryz.func41, Tryz.ntmps41
  go_wp2
  go_ret
  exact ⟨rfl, rfl⟩
set_option maxRecDepth 100000 in
theorem frTold_c (base g : Nat) (bv : Value) (c : Cfg) (x : Fed) (w : World) (h : FrmS w base g bv c x) :
    Calls Tryz.prog 42 #[.pointer (some ⟨g, 0, none⟩)] w fun e w' => e = .returned (.int .i64 (x.told : Nat)) ∧ w = w' := by
  obtain ⟨_, nd, h1, h2, _⟩ := h
  have hf := h2.form
  rw [toList_size] at hf
  obtain ⟨A, cap, rfl, _, _⟩ := hf
  obtain ⟨p6, p7, p8, p9, p10⟩ := h1.parts
  clear h1 h2
  go_enter Tryz.func42, Tryz.ntmps42
  go_wp2
  go_ret
  exact ⟨rfl, rfl⟩
theorem frTold_nil (w : World) : Calls Tryz.prog 42 #[.pointer none] w fun e w' => e = .returned (.int .i64 0) ∧ w = w' := by
  go_enter Tryz.func42, Tryz.ntmps42
  go_wp2
  go_ret
  exact ⟨rfl, rfl⟩
set_option maxRecDepth 100000 in
theorem frTail_c (base g : Nat) (bv : Value) (c : Cfg) (x : Fed) (w : World) (h : FrmS w base g bv c x) :
    Calls Tryz.prog 38 #[.pointer (some ⟨g, 0, none⟩)] w fun e w' => e = .returned (.string x.buf) ∧ w = w' := by
  obtain ⟨_, nd, h1, h2, _⟩ := h
  have hf := h2.form
  rw [toList_size] at hf
  obtain ⟨A, cap, rfl, _, _⟩ := hf
  obtain ⟨p6, p7, p8, p9, p10⟩ := h1.parts
  have hstr := Buf.str' (P := Tryz.prog) (src := 104) (dst := 9) Tryz.underlying104 Tryz.underlying5 Tryz.underlying9 h2
  rw [bytes_of] at hstr
  clear h1 h2
  go_enter Tryz.func38, Tryz.ntmps38
  go_wp2
  go_ret
  exact ⟨rfl, rfl⟩
theorem frTail_nil (w : World) : Calls Tryz.prog 38 #[.pointer none] w fun e w' => e = .returned (.string ⟨#[]⟩) ∧ w = w' := by
  go_enter Tryz.func38, Tryz.ntmps38
  go_wp2
  go_ret
  exact ⟨rfl, rfl⟩
theorem frFeed_nil (s : ByteArray) (w : World) : Calls Tryz.prog 37 #[.pointer none, .string s] w fun e w' => e = .returned (.tuple #[.slice none 0 0, .int .i64 1]) ∧ w = w' := by
  go_enter Tryz.func37, Tryz.ntmps37
  go_wp2
  refine bodyPost_ret (v := .tuple #[.slice none 0 0, .int .i64 1]) (by simp [results, Tryz.results37, go_sem]) rfl ?_
  exact ⟨rfl, rfl⟩
set_option maxRecDepth 100000 in
set_option maxHeartbeats 1000000 in
theorem frNew_c (c : Cfg) (w : World) (hr : c.right = true) : Calls Tryz.prog 36 #[c.val] w fun e w' => (∃ g, e = .returned (.tuple #[.pointer (some ⟨g, 0, none⟩), .int .i64 0]) ∧ FrmS w' w.heap.size g (.slice none 0 0) c Fed.new) ∧ Below w.heap.size w w' := by
  have HR := Lib.hid (fun w => right_c c w)
  unfold Cfg.val at *
  obtain ⟨W0, hW0⟩ : ∃ W0, w.alloc (.cells #[.int .i64 c.fm, .int .u32 c.mg, .int .i64 c.fr, .int .i64 c.un, .int .i64 c.de, .int .i64 c.it] 24) = W0 := ⟨_, rfl⟩
  have HW0 := Lib.hid hW0
  have HB0 : Hid (Blk W0 w.heap.size 24 #[.int .i64 c.fm, .int .u32 c.mg, .int .i64 c.fr, .int .i64 c.un, .int .i64 c.de, .int .i64 c.it]) := Lib.hid (by rw [← hW0]; exact Blk.new w _ _)
  have HL0 : Hid (Below w.heap.size w W0 ∧ W0.heap.size = w.heap.size + 1) := Lib.hid (by rw [← hW0]; exact ⟨(by repeat (first | exact Below.refl _ _ | assumption | with_reducible refine Below.drewN' ?_ _ | with_reducible refine Below.drew ?_ | ((with_reducible refine Below.alloc' ?_ ?_ _); · (first | omega | (simp <;> omega))))), by simp⟩)
  clear hW0
  have hc6 : ∀ V, Below W0.heap.size W0 V → V.cell? ⟨w.heap.size, 0, none⟩ = some (.int .i64 c.fm) ∧ V.cell? ⟨w.heap.size, 1, none⟩ = some (.int .u32 c.mg) ∧ V.cell? ⟨w.heap.size, 2, none⟩ = some (.int .i64 c.fr) ∧ V.cell? ⟨w.heap.size, 3, none⟩ = some (.int .i64 c.un) ∧ V.cell? ⟨w.heap.size, 4, none⟩ = some (.int .i64 c.de) ∧ V.cell? ⟨w.heap.size, 5, none⟩ = some (.int .i64 c.it) := fun V hV => by
    have hB := HB0.out.keep hV HB0.out.lt
    exact ⟨hB.cell 0, hB.cell 1, hB.cell 2, hB.cell 3, hB.cell 4, hB.cell 5⟩
  have HC6 := Lib.hid hc6
  obtain ⟨q0, q1, q2, q3, q4, q5⟩ := hc6 W0 (Below.refl _ _)
  clear hc6
  rw [hr] at HR
  go_enter Tryz.func36, Tryz.ntmps36
  go_wp2_with fail
  rw [HW0.out]
  refine (HR.out _).mono ?_
  rintro e w1 ⟨rfl, hb1⟩
  obtain ⟨q0, q1, q2, q3, q4, q5⟩ := HC6.out w1 hb1
  have HB1 : Hid (Below w.heap.size w w1 ∧ w.heap.size ≤ w1.heap.size) := Lib.hid ⟨HL0.out.1.trans (hb1.mono (by have := HL0.out.2; omega)), by have := hb1.size; have := HL0.out.2; omega⟩
  clear hb1
  go_wp2
  refine bodyPost_ret (v := .tuple #[.pointer (some ⟨w1.heap.size, 0, none⟩), .int .i64 0]) (by simp [results, Tryz.results36, go_sem]) rfl ?_
  exact ⟨⟨_, rfl, HB1.out.2, 0, Blk.new _ _ _, Buf.nil _ _ _, fun _ => Needs.zero _ _⟩, HB1.out.1.alloc HB1.out.2 _⟩
set_option maxRecDepth 100000 in
set_option maxHeartbeats 1000000 in
theorem frNew_no (c : Cfg) (w : World) (hr : c.right = false) : Calls Tryz.prog 36 #[c.val] w fun e w' => e = .returned (.tuple #[.pointer none, .int .i64 1]) ∧ Below w.heap.size w w' := by
  have HR := Lib.hid (fun w => right_c c w)
  unfold Cfg.val at *
  obtain ⟨W0, hW0⟩ : ∃ W0, w.alloc (.cells #[.int .i64 c.fm, .int .u32 c.mg, .int .i64 c.fr, .int .i64 c.un, .int .i64 c.de, .int .i64 c.it] 24) = W0 := ⟨_, rfl⟩
  have HW0 := Lib.hid hW0
  have HB0 : Hid (Blk W0 w.heap.size 24 #[.int .i64 c.fm, .int .u32 c.mg, .int .i64 c.fr, .int .i64 c.un, .int .i64 c.de, .int .i64 c.it]) := Lib.hid (by rw [← hW0]; exact Blk.new w _ _)
  have HL0 : Hid (Below w.heap.size w W0 ∧ W0.heap.size = w.heap.size + 1) := Lib.hid (by rw [← hW0]; exact ⟨(by repeat (first | exact Below.refl _ _ | assumption | with_reducible refine Below.drewN' ?_ _ | with_reducible refine Below.drew ?_ | ((with_reducible refine Below.alloc' ?_ ?_ _); · (first | omega | (simp <;> omega))))), by simp⟩)
  clear hW0
  have hc6 : ∀ V, Below W0.heap.size W0 V → V.cell? ⟨w.heap.size, 0, none⟩ = some (.int .i64 c.fm) ∧ V.cell? ⟨w.heap.size, 1, none⟩ = some (.int .u32 c.mg) ∧ V.cell? ⟨w.heap.size, 2, none⟩ = some (.int .i64 c.fr) ∧ V.cell? ⟨w.heap.size, 3, none⟩ = some (.int .i64 c.un) ∧ V.cell? ⟨w.heap.size, 4, none⟩ = some (.int .i64 c.de) ∧ V.cell? ⟨w.heap.size, 5, none⟩ = some (.int .i64 c.it) := fun V hV => by
    have hB := HB0.out.keep hV HB0.out.lt
    exact ⟨hB.cell 0, hB.cell 1, hB.cell 2, hB.cell 3, hB.cell 4, hB.cell 5⟩
  have HC6 := Lib.hid hc6
  obtain ⟨q0, q1, q2, q3, q4, q5⟩ := hc6 W0 (Below.refl _ _)
  clear hc6
  rw [hr] at HR
  go_enter Tryz.func36, Tryz.ntmps36
  go_wp2_with fail
  rw [HW0.out]
  refine (HR.out _).mono ?_
  rintro e w1 ⟨rfl, hb1⟩
  obtain ⟨q0, q1, q2, q3, q4, q5⟩ := HC6.out w1 hb1
  have HB1 : Hid (Below w.heap.size w w1 ∧ w.heap.size ≤ w1.heap.size) := Lib.hid ⟨HL0.out.1.trans (hb1.mono (by have := HL0.out.2; omega)), by have := hb1.size; have := HL0.out.2; omega⟩
  clear hb1
  go_wp2
  refine bodyPost_ret (v := .tuple #[.pointer none, .int .i64 1]) (by simp [results, Tryz.results36, go_sem]) rfl ?_
  exact ⟨rfl, HB1.out.1⟩
set_option maxRecDepth 100000 in
set_option maxHeartbeats 1000000 in
theorem frFeed_broken (base g : Nat) (bv : Value) (c : Cfg) (x : Fed) (s : ByteArray) (w : World) (h : FrmS w base g bv c x) (h0 : x.fault ≠ 0) :
    Calls Tryz.prog 37 #[.pointer (some ⟨g, 0, none⟩), .string s] w fun e w' => e = .returned (.tuple #[.slice none 0 0, .int .i64 x.fault]) ∧ FrmS w' base g bv c { x with laid := 0 } ∧ Only [g] w w' := by
  obtain ⟨hge, nd, hB, hbuf, hnd⟩ := h
  have hgw := hB.lt
  have hbe : (x.fault != 0) = true := bne_iff_ne.2 h0
  have HB := Lib.hid hB
  have hne := hbuf.own_ne hB (by decide)
  have HF : Hid (∀ k, FrmS ((w.setCell ⟨g, 9, none⟩ (.int .i64 0)).drewN k) base g bv c { x with laid := 0 }) := Lib.hid (fun k => ⟨hge, nd, (FrB.setLaid hB 0).drewN k, (hbuf.only2 ((Only.refl [g] w).setCell (p := ⟨g, 9, none⟩) (.inl (by simp)) _) (by intro j e hj; simp at hj; subst hj; exact hne e)).below (Below.drewN' (Below.refl _ _) k), hnd⟩)
  obtain ⟨p6, p7, p8, p9, p10⟩ := hB.parts
  obtain ⟨_, _, _, f9, _⟩ := hB.froz
  clear hB hbuf hnd hne h0
  go_enter Tryz.func37, Tryz.ntmps37
  go_wp2_with fail
  go_quiet (fail)
  go_wp2
  refine bodyPost_ret (v := .tuple #[.slice none 0 0, .int .i64 x.fault]) (by simp [results, Tryz.results37, go_sem]) rfl ?_
  exact ⟨rfl, HF.out _, Only.drewN ((Only.refl _ _).setCell (.inl (by simp)) _) _⟩
set_option maxRecDepth 100000 in
set_option maxHeartbeats 2000000 in
theorem frFeed_whole (base g : Nat) (bv : Value) (c : Cfg) (x : Fed) (s : ByteArray) (w : World) (hr : c.right = true) (hc : c.ok) (h : FrmS w base g bv c x) (hbase : base ≤ w.heap.size) (h0 : x.fault = 0) (hs : x.buf.size + s.size ≤ 100000) (ht : x.told ≤ 1000000000) :
    Calls Tryz.prog 37 #[.pointer (some ⟨g, 0, none⟩), .string s] w fun e w' => ∃ rv bv', e = .returned (.tuple #[rv, .int .i64 (fed (wNext c) x s).2.2]) ∧ FrO w' w.heap.size rv (fed (wNext c) x s).2.1 ∧ FrmS w' base g bv' c (fed (wNext c) x s).1 ∧ Only (foot g bv) w w' ∧ (∀ k, bv'.ownBlock = some k → bv.ownBlock = some k ∨ w.heap.size ≤ k) := by
  obtain ⟨hge, nd, hB, hbuf, hnd⟩ := h
  obtain ⟨b, fl, ld, td⟩ := x
  simp only at h0 hB hbuf hnd hs ht
  subst h0
  rw [fed_whole rfl]
  simp only
  have hlen := split_len' c (b ++ s)
  rw [size_app] at hlen
  have hmet := split_met c (b ++ s)
  rw [size_app] at hmet
  obtain ⟨X, hX⟩ : ∃ X, split (wNext c) (b ++ s) = X := ⟨_, rfl⟩
  rw [hX] at hlen hmet ⊢
  obtain ⟨l, tl, m, er⟩ := X
  simp only at hlen hmet ⊢
  have HX := Lib.hid hX
  clear hX
  have hgw := hB.lt
  have hne := hbuf.own_ne hB (by decide)
  have hf := hbuf.form
  rw [toList_size] at hf
  obtain ⟨A, cap, rfl, hlc, hcm⟩ := hf
  obtain ⟨W1, hW1⟩ : ∃ W1, w.setCell ⟨g, 9, none⟩ (.int .i64 0) = W1 := ⟨_, rfl⟩
  have hO1 : Only [g] w W1 := by rw [← hW1]; exact (Only.refl _ _).setCell (.inl (by simp)) _
  have hz1 : W1.heap.size = w.heap.size := by rw [← hW1]; simp [World.setCell]
  have HB1 : Hid (FrB W1 g c (.slice A b.size cap) nd 0 0 td) := Lib.hid (by rw [← hW1]; exact FrB.setLaid hB 0)
  have HBF1 : Hid (Buf W1 base 5 (.slice A b.size cap) b.data.toList) := Lib.hid (hbuf.only2 hO1 (by intro j e hj; simp at hj; subst hj; exact hne e))
  have HO1 := Lib.hid hO1
  have HND := Lib.hid (hnd rfl)
  have HOWN : Hid (∀ k, (Value.slice A b.size cap).ownBlock = some k → k < w.heap.size) := Lib.hid (fun k e => (hbuf.ge k e).2.1)
  have HNE := Lib.hid hne
  obtain ⟨p6, p7, p8, p9, p10⟩ := hB.parts
  obtain ⟨_, _, _, f9, _⟩ := hB.froz
  obtain ⟨i0, hi, hz0, hz1', hz2⟩ := info_parts info_byteF
  have HMN := Lib.hid (meterNew_c 9223372036854775807 W1)
  have HW1 := Lib.hid hW1
  clear hB hbuf hnd hne hO1 hW1
  go_enter Tryz.func37, Tryz.ntmps37
  go_wp2_with fail
  rw [HW1.out]
  clear p6 p7 p8 p9 p10 f9
  refine HMN.out.mono ?_
  rintro e w2 ⟨rfl, hw2⟩
  have hB2 : Below W1.heap.size W1 w2 := by rw [hw2]; exact (Below.refl _ _).alloc (Nat.le_refl _) _
  have hM2 : Mtr w2 W1.heap.size 9223372036854775807 0 0 0 := by rw [hw2]; exact Blk.new _ _ _
  obtain ⟨gm, hgm⟩ : ∃ gm, W1.heap.size = gm := ⟨_, rfl⟩
  have HT := Lib.hid (meterTake_ok gm 9223372036854775807 0 0 0 s.size w2 (by rw [← hgm]; exact hM2) (by omega) (by omega) (by omega))
  have HB2 : Hid (FrB w2 g c (.slice A b.size cap) nd 0 0 td) := Lib.hid (HB1.out.keep hB2 HB1.out.lt)
  have HBF2 := Lib.hid (HBF1.out.below hB2)
  have HO2 : Hid (Only [g] w w2) := Lib.hid (HO1.out.trans' (Only.of_below hB2 (Nat.le_refl _)) (by simp))
  have hgg : gm ≠ g := by omega
  have hgmw : w.heap.size ≤ gm := by omega
  have hg2 : gm < w2.heap.size := by have := hM2.lt; omega
  rw [hgm]
  clear hw2 hM2 hB2 HB1 HBF1 HO1 HMN hgm hz1 HW1
  go_wp2_with fail
  refine HT.out.mono ?_
  rintro e w3 ⟨rfl, hM3, hO3⟩
  simp only [Nat.zero_add] at hM3
  have HB3 : Hid (FrB w3 g c (.slice A b.size cap) nd 0 0 td) := Lib.hid (HB2.out.only hO3 (by simpa using Ne.symm hgg))
  have HBF3 := Lib.hid (HBF2.out.only2 hO3 (by intro j e hj; simp at hj; subst hj; have := HOWN.out j e; omega))
  have HO3 : Hid (Only [g] w w3) := Lib.hid (HO2.out.trans' hO3 (by simp; omega))
  have HM3 := Lib.hid hM3
  obtain ⟨p6, _, _, _, _⟩ := HB3.out.parts
  have hb3 : base ≤ w3.heap.size := by have := HO3.out.size; omega
  have hw3 : w.heap.size ≤ w3.heap.size := HO3.out.size
  have hg3 : g < w3.heap.size := HB3.out.lt
  clear hO3 hM3 HB2 HBF2 HO2 HT
  go_wp2_with (
    at_builtin
    refine wpList_append_bufO (by rfl) (.tmp 31) (.tmp 32) 104 9 (by rfl) base 5 i0 Tryz.underlying104 hi hz0 hz1' hz2 (by rfl) HBF3.out _ s.data.toList (by rfl) (src_str Tryz.underlying9 w3 s) hb3 (by rw [toList_size, toList_size]; omega) ?_
    intro A' n' cap' w4 hb4 hg4
    have HB4 : Hid (FrB w4 g c (.slice A b.size cap) nd 0 0 td) := Lib.hid (Blk.grB HB3.out hg4 HNE.out)
    have hM4 : Mtr w4 gm 9223372036854775807 s.size s.size (max 0 s.size) := Blk.grB HM3.out hg4 (fun e => by have := HOWN.out _ e; omega)
    have HM4 := Lib.hid hM4
    have HG4 := Lib.hid hg4
    have HBF4 : Hid (Buf w4 base 5 (.slice A' n' cap') (b ++ s).data.toList) := Lib.hid (by rw [toList_app]; exact hb4)
    obtain ⟨p6', _, _, _, _⟩ := HB4.out.parts
    obtain ⟨f6', _, _, _, _⟩ := HB4.out.froz
    have hg4w : g < w4.heap.size := HB4.out.lt
    clear hb4 hg4 hM4)
  obtain ⟨W5, hW5⟩ : ∃ W5, w4.setCell ⟨g, 6, none⟩ (.slice A' n' cap') = W5 := ⟨_, rfl⟩
  rw [hW5]
  have hOg : Only [g] w4 W5 := by rw [← hW5]; exact (Only.refl _ _).setCell (.inl (by simp)) _
  have HB5 : Hid (FrB W5 g c (.slice A' n' cap') nd 0 0 td) := Lib.hid (by rw [← hW5]; exact FrB.setBuf HB4.out _)
  have HNE5 : Hid ((Value.slice A' n' cap').ownBlock ≠ some g ∧ (Value.slice A' n' cap').ownBlock ≠ some gm ∧ ∀ k, (Value.slice A' n' cap').ownBlock = some k → (Value.slice A b.size cap).ownBlock = some k ∨ w.heap.size ≤ k) := Lib.hid ⟨HBF4.out.own_ne HB4.out (by decide), HBF4.out.own_ne HM4.out (by decide), fun k e => by
    rcases HG4.out.own with h | ⟨j, h, hj⟩
    · exact .inl (by rw [← h]; exact e)
    · rw [h] at e; injection e with e; exact .inr (by omega)⟩
  have HBF5 : Hid (Buf W5 base 5 (.slice A' n' cap') (b ++ s).data.toList) := Lib.hid (HBF4.out.only2 hOg (by intro j e hj; simp at hj; subst hj; exact HNE5.out.1 e))
  have hM5 : Mtr W5 gm 9223372036854775807 s.size s.size (max 0 s.size) := Blk.only HM4.out hOg (by simpa using hgg)
  have HO5 : Hid (Only (foot g (.slice A b.size cap)) w W5) := Lib.hid (((HO3.out.mono (by simp [foot])).trans' HG4.out.only (fun i hi => .inl (mem_foot.2 (.inr (own_toList.1 hi))))).trans' hOg (by simp [foot]))
  have hz5 : w4.heap.size = W5.heap.size := by rw [← hW5]; simp [World.setCell]
  have hw5 : w.heap.size ≤ W5.heap.size := HO5.out.size
  have HCT := Lib.hid (cut_c c g gm base (.slice A' n' cap') (b ++ s) nd 0 td s.size (9223372036854775807 - s.size) W5 hr hc (by rw [size_app]; omega) HB5.out HBF5.out (by omega) ⟨_, _, _, hM5, by omega, by omega, by omega⟩ hgg HNE5.out.2.1 (by omega) (HND.out.more s))
  rw [HX.out] at HCT
  simp only at HCT
  clear hW5 hOg HB4 HBF4 HB5 HBF5 hM5 HM4 HO3 p6 p6' f6' HM3 HB3 HBF3 HG4
  refine HCT.out.mono ?_
  rintro e w6 ⟨rv, bv', nd', rfl, hf6, hB6, hbf6, hM6, hO6, hown6, hnd6⟩
  obtain ⟨A6, n6, cap6, rfl, hn6, hnc6, hcm6⟩ := hf6.form'
  obtain ⟨a7, u7, q7, hM7, _⟩ := hM6
  have HTK := Lib.hid (taken_c gm a7 u7 (s.size + m) q7 w6 hM7)
  obtain ⟨_, _, _, p9, p10⟩ := FrB.parts hB6
  obtain ⟨_, _, _, f9, f10⟩ := FrB.froz hB6
  have hg6 := hB6.lt
  have hn6' : n6 ≤ 200000 := by rw [hn6.out]; omega
  have HF6 := Lib.hid hf6
  have HB6 := Lib.hid hB6
  have HBF6 := Lib.hid hbf6
  have HO6 := Lib.hid hO6
  have HOW6 := Lib.hid hown6
  have HND6 := Lib.hid hnd6
  have hz6 := hO6.size
  clear hf6 hB6 hbf6 hO6 hown6 hnd6 hM7 HCT
  go_wp2_with fail
  refine HTK.out.mono ?_
  rintro e w7 ⟨rfl, rfl⟩
  go_wp2_with fail
  go_quiet (fail)
  go_wp2
  obtain ⟨W8, hW8⟩ : ∃ W8, (w6.setCell ⟨g, 9, none⟩ (.int .i64 ((s.size : Int) + m))).setCell ⟨g, 10, none⟩ (.int .i64 ((td : Int) + n6)) = W8 := ⟨_, rfl⟩
  have hOg8 : Only [g] w6 W8 := by rw [← hW8]; exact ((Only.refl [g] w6).setCell (.inl (by simp)) _).setCell (.inl (by simp)) _
  have hB8 : FrB W8 g c bv' nd' er (s.size + m) (td + l.length) := by
    have e1 : ((s.size : Int) + m) = ((s.size + m : Nat) : Int) := by omega
    have e2 : ((td : Int) + n6) = ((td + l.length : Nat) : Int) := by rw [hn6.out]; omega
    rw [← hW8, e1, e2]
    exact FrB.setTold (FrB.setLaid HB6.out _) _
  have hne6 := HBF6.out.own_ne HB6.out (by decide)
  rw [hW8]
  clear hW8
  refine bodyPost_ret (v := .tuple #[.slice A6 n6 cap6, .int .i64 er]) (by simp [results, Tryz.results37, go_sem]) rfl ?_
  refine ⟨.slice A6 n6 cap6, bv', rfl, ?_, ⟨hge, nd', hB8.drewN nq, ?_, HND6.out⟩, ?_, ?_⟩
  · have h1 := (HF6.out.only hOg8 (by simp; omega)).lower (lo' := w.heap.size) (by omega)
    exact h1.below (Below.drewN' (Below.refl _ _) nq)
  · exact (HBF6.out.only2 hOg8 (by intro j e hj; simp at hj; subst hj; exact hne6 e)).below (Below.drewN' (Below.refl _ _) nq)
  · refine Only.drewN ((HO5.out.trans' HO6.out ?_).trans' hOg8 (by simp [foot])) nq
    intro i hi
    simp only [List.mem_cons, own_toList] at hi
    rcases hi with rfl | rfl | e
    · exact .inr hgmw
    · exact .inl (by simp [foot])
    · rcases HNE5.out.2.2 i e with h | h
      · exact .inl (mem_foot.2 (.inr h))
      · exact .inr h
  · intro k e
    rcases HOW6.out k e with h | h
    · exact HNE5.out.2.2 k h
    · exact .inr (by omega)
/-- Feed, broken or not. -/
theorem frFeed_c (base g : Nat) (bv : Value) (c : Cfg) (x : Fed) (s : ByteArray) (w : World) (hr : c.right = true) (hc : c.ok) (h : FrmS w base g bv c x) (hbase : base ≤ w.heap.size) (hs : x.buf.size + s.size ≤ 100000) (ht : x.told ≤ 1000000000) :
    Calls Tryz.prog 37 #[.pointer (some ⟨g, 0, none⟩), .string s] w fun e w' => ∃ rv bv', e = .returned (.tuple #[rv, .int .i64 (fed (wNext c) x s).2.2]) ∧ FrO w' w.heap.size rv (fed (wNext c) x s).2.1 ∧ FrmS w' base g bv' c (fed (wNext c) x s).1 ∧ Only (foot g bv) w w' ∧ (∀ k, bv'.ownBlock = some k → bv.ownBlock = some k ∨ w.heap.size ≤ k) := by
  by_cases h0 : x.fault = 0
  · exact frFeed_whole base g bv c x s w hr hc h hbase h0 hs ht
  · refine (frFeed_broken base g bv c x s w h h0).mono fun e w' ⟨h1, h2, h3⟩ => ⟨.slice none 0 0, bv, ?_, ?_, ?_, h3.mono (by simp [foot]), fun k hk => .inl hk⟩
    · rw [fed_broken h0]; exact h1
    · rw [fed_broken h0]; exact FrO.nil _ _
    · rw [fed_broken h0]; exact h2
end Go.Proofs.YtebllmpdlapefaaGreatDoor
