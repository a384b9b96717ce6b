/- sha.mix: a block mixed into the state. -/
import Derived.Test.YtebllmpdlapefaaGreatDoorKA16
namespace Go.Proofs.YtebllmpdlapefaaGreatDoor
set_option linter.unusedVariables false
set_option linter.unusedSimpArgs false
open Go.RowKit Go.Shelf
attribute [local go_sem] Oper.semAt_some

set_option maxRecDepth 100000 in
set_option maxHeartbeats 4000000 in
theorem mix_c (s : Sh) (hs : s.ok) (blk : ByteArray) (hb : blk.size = 64) (w : World) :
    Calls Tryz.prog 163 #[shAgg s, .string blk] w fun e w' => e = .returned (shAgg (shMix shK s blk)) ∧ Only [] w w' := by
  obtain ⟨R, hR⟩ : ∃ R, shMix shK s blk = R := ⟨_, rfl⟩
  have HR9 : Hid (R = shMid 8 s (shRounds shK blk 64 s)) := Lib.hid (by rw [← hR]; exact shMix_mid s blk)
  rw [hR]
  clear hR
  have HB : Hid (Blk (w.alloc (.cells #[.int .u32 s.a, .int .u32 s.b, .int .u32 s.c, .int .u32 s.d, .int .u32 s.e, .int .u32 s.f, .int .u32 s.g, .int .u32 s.h] 30)) w.heap.size 30 #[.int .u32 s.a, .int .u32 s.b, .int .u32 s.c, .int .u32 s.d, .int .u32 s.e, .int .u32 s.f, .int .u32 s.g, .int .u32 s.h]) := Lib.hid (Blk.new w _ _)
  unfold shAgg
  refine (callsIn_wide (n := 5)).1 ?_
  refine callsIn_of_wp_marks Tryz.func163 rfl trivial ?_ rfl
  simp only [Tryz.ntmps163, List.size_toArray, List.length_cons, List.length_nil, Nat.reduceAdd, Nat.reduceSub, Array.replicate_succ, Array.replicate_zero, List.push_toArray, List.append_toArray, List.nil_append, List.cons_append]
  gi_upto_region 2 with (fail)
  obtain ⟨W0, hW0⟩ : ∃ W0, ((w.alloc (.cells #[.int .u32 s.a, .int .u32 s.b, .int .u32 s.c, .int .u32 s.d, .int .u32 s.e, .int .u32 s.f, .int .u32 s.g, .int .u32 s.h] 30)).alloc (.cells #[.int .u32 0, .int .u32 0, .int .u32 0, .int .u32 0, .int .u32 0, .int .u32 0, .int .u32 0, .int .u32 0] 30)).alloc (.cells #[.func (.func 169) #[] #[]] 192) = W0 := ⟨_, rfl⟩
  have HB0 : Hid (Blk W0 w.heap.size 30 #[.int .u32 s.a, .int .u32 s.b, .int .u32 s.c, .int .u32 s.d, .int .u32 s.e, .int .u32 s.f, .int .u32 s.g, .int .u32 s.h]) := Lib.hid (by rw [← hW0]; exact (HB.out.alloc _).alloc _)
  have HR0 : Hid (Blk W0 (w.heap.size + 1) 30 #[.int .u32 0, .int .u32 0, .int .u32 0, .int .u32 0, .int .u32 0, .int .u32 0, .int .u32 0, .int .u32 0]) := Lib.hid (by
    rw [← hW0]
    refine Blk.alloc ?_ _
    have := Blk.new (w.alloc (.cells #[.int .u32 s.a, .int .u32 s.b, .int .u32 s.c, .int .u32 s.d, .int .u32 s.e, .int .u32 s.f, .int .u32 s.g, .int .u32 s.h] 30)) 30 #[.int .u32 0, .int .u32 0, .int .u32 0, .int .u32 0, .int .u32 0, .int .u32 0, .int .u32 0, .int .u32 0]
    rwa [World.size_alloc] at this)
  have HF0 : Hid (Blk W0 (w.heap.size + 2) 192 #[.func (.func 169) #[] #[]]) := Lib.hid (by
    rw [← hW0]
    have := Blk.new ((w.alloc (.cells #[.int .u32 s.a, .int .u32 s.b, .int .u32 s.c, .int .u32 s.d, .int .u32 s.e, .int .u32 s.f, .int .u32 s.g, .int .u32 s.h] 30)).alloc (.cells #[.int .u32 0, .int .u32 0, .int .u32 0, .int .u32 0, .int .u32 0, .int .u32 0, .int .u32 0, .int .u32 0] 30)) 192 #[.func (.func 169) #[] #[]]
    simp only [World.size_alloc] at this
    exact this)
  have HO0 : Hid (Only [] w W0) := Lib.hid (by rw [← hW0]; exact (((Only.refl [] w).alloc _).alloc _).alloc _)
  have HZ0 : Hid (W0.heap.size = w.heap.size + 3) := Lib.hid (by rw [← hW0]; simp)
  rw [hW0]
  clear hW0 HB
  refine wpIn_wide.2 ?_
  refine wp_region_inv (by kernel_rfl) (by kernel_rfl) (MixI s blk w.heap.size W0.drew) ?start ?step ?done
  case start => exact ⟨fun _ => undef, 0, fun _ => 0, rfl, MJ.start _ _ _ _ _⟩
  case step =>
    have hBk : Hid (Blk W0.drew w.heap.size 30 #[.int .u32 s.a, .int .u32 s.b, .int .u32 s.c, .int .u32 s.d, .int .u32 s.e, .int .u32 s.f, .int .u32 s.g, .int .u32 s.h]) := HB0
    have hlt0 : Hid (w.heap.size < W0.drew.heap.size) := Lib.hid (by have := HZ0.out; show w.heap.size < W0.heap.size; omega)
    rintro listed a w' i hi ⟨x, m, q, rfl, hJ⟩ hr
    obtain ⟨hun, o, ho, hall⟩ := mem_ready.1 hr
    clear hr
    have h32 : i = 0 ∨ i = 1 ∨ i = 2 ∨ i = 3 ∨ i = 4 ∨ i = 5 ∨ i = 6 ∨ i = 7 ∨ i = 8 ∨ i = 9 ∨ i = 10 ∨ i = 11 ∨ i = 12 ∨ i = 13 ∨ i = 14 ∨ i = 15 ∨ i = 16 ∨ i = 17 ∨ i = 18 ∨ i = 19 ∨ i = 20 ∨ i = 21 ∨ i = 22 ∨ i = 23 ∨ i = 24 ∨ i = 25 ∨ i = 26 ∨ i = 27 ∨ i = 28 ∨ i = 29 ∨ i = 30 ∨ i = 31 := by simp at hi; omega
    rcases h32 with rfl | rfl | rfl | rfl | rfl | rfl | rfl | rfl | rfl | rfl | rfl | rfl | rfl | rfl | rfl | rfl | rfl | rfl | rfl | rfl | rfl | rfl | rfl | rfl | rfl | rfl | rfl | rfl | rfl | rfl | rfl | rfl
    · refine wpOp_some rfl rfl ?_
      unfold mixFr
      go_simp
      exact ⟨upd x 22 _, m, q, rfl, hJ.addr 0 (by omega)⟩
    · obtain rfl := Option.some.inj ho
      have hx := hJ.ad 0 (by omega) (hall ⟨0, .data⟩ (by simp) rfl)
      simp only [Nat.reduceMul, Nat.reduceAdd] at hx
      have c0 := Blk.cell ((hJ.bl.block _ hlt0.out).trans hBk.out) 0
      refine wpOp_some rfl rfl ?_
      unfold mixFr
      simp at c0
      simp only [hx]
      go_simp
      refine ⟨_, m, q, ?_, hJ.load 0 (by omega)⟩
      simp [mixFr, upd, hx, u32v, Sh.list]
    · refine wpOp_some rfl rfl ?_
      unfold mixFr
      go_simp
      exact ⟨upd x 24 _, m, q, rfl, hJ.addr 1 (by omega)⟩
    · obtain rfl := Option.some.inj ho
      have hx := hJ.ad 1 (by omega) (hall ⟨2, .data⟩ (by simp) rfl)
      simp only [Nat.reduceMul, Nat.reduceAdd] at hx
      have c0 := Blk.cell ((hJ.bl.block _ hlt0.out).trans hBk.out) 1
      refine wpOp_some rfl rfl ?_
      unfold mixFr
      simp at c0
      simp only [hx]
      go_simp
      refine ⟨_, m, q, ?_, hJ.load 1 (by omega)⟩
      simp [mixFr, upd, hx, u32v, Sh.list]
    · refine wpOp_some rfl rfl ?_
      unfold mixFr
      go_simp
      exact ⟨upd x 26 _, m, q, rfl, hJ.addr 2 (by omega)⟩
    · obtain rfl := Option.some.inj ho
      have hx := hJ.ad 2 (by omega) (hall ⟨4, .data⟩ (by simp) rfl)
      simp only [Nat.reduceMul, Nat.reduceAdd] at hx
      have c0 := Blk.cell ((hJ.bl.block _ hlt0.out).trans hBk.out) 2
      refine wpOp_some rfl rfl ?_
      unfold mixFr
      simp at c0
      simp only [hx]
      go_simp
      refine ⟨_, m, q, ?_, hJ.load 2 (by omega)⟩
      simp [mixFr, upd, hx, u32v, Sh.list]
    · refine wpOp_some rfl rfl ?_
      unfold mixFr
      go_simp
      exact ⟨upd x 28 _, m, q, rfl, hJ.addr 3 (by omega)⟩
    · obtain rfl := Option.some.inj ho
      have hx := hJ.ad 3 (by omega) (hall ⟨6, .data⟩ (by simp) rfl)
      simp only [Nat.reduceMul, Nat.reduceAdd] at hx
      have c0 := Blk.cell ((hJ.bl.block _ hlt0.out).trans hBk.out) 3
      refine wpOp_some rfl rfl ?_
      unfold mixFr
      simp at c0
      simp only [hx]
      go_simp
      refine ⟨_, m, q, ?_, hJ.load 3 (by omega)⟩
      simp [mixFr, upd, hx, u32v, Sh.list]
    · refine wpOp_some rfl rfl ?_
      unfold mixFr
      go_simp
      exact ⟨upd x 30 _, m, q, rfl, hJ.addr 4 (by omega)⟩
    · obtain rfl := Option.some.inj ho
      have hx := hJ.ad 4 (by omega) (hall ⟨8, .data⟩ (by simp) rfl)
      simp only [Nat.reduceMul, Nat.reduceAdd] at hx
      have c0 := Blk.cell ((hJ.bl.block _ hlt0.out).trans hBk.out) 4
      refine wpOp_some rfl rfl ?_
      unfold mixFr
      simp at c0
      simp only [hx]
      go_simp
      refine ⟨_, m, q, ?_, hJ.load 4 (by omega)⟩
      simp [mixFr, upd, hx, u32v, Sh.list]
    · refine wpOp_some rfl rfl ?_
      unfold mixFr
      go_simp
      exact ⟨upd x 32 _, m, q, rfl, hJ.addr 5 (by omega)⟩
    · obtain rfl := Option.some.inj ho
      have hx := hJ.ad 5 (by omega) (hall ⟨10, .data⟩ (by simp) rfl)
      simp only [Nat.reduceMul, Nat.reduceAdd] at hx
      have c0 := Blk.cell ((hJ.bl.block _ hlt0.out).trans hBk.out) 5
      refine wpOp_some rfl rfl ?_
      unfold mixFr
      simp at c0
      simp only [hx]
      go_simp
      refine ⟨_, m, q, ?_, hJ.load 5 (by omega)⟩
      simp [mixFr, upd, hx, u32v, Sh.list]
    · refine wpOp_some rfl rfl ?_
      unfold mixFr
      go_simp
      exact ⟨upd x 34 _, m, q, rfl, hJ.addr 6 (by omega)⟩
    · obtain rfl := Option.some.inj ho
      have hx := hJ.ad 6 (by omega) (hall ⟨12, .data⟩ (by simp) rfl)
      simp only [Nat.reduceMul, Nat.reduceAdd] at hx
      have c0 := Blk.cell ((hJ.bl.block _ hlt0.out).trans hBk.out) 6
      refine wpOp_some rfl rfl ?_
      unfold mixFr
      simp at c0
      simp only [hx]
      go_simp
      refine ⟨_, m, q, ?_, hJ.load 6 (by omega)⟩
      simp [mixFr, upd, hx, u32v, Sh.list]
    · refine wpOp_some rfl rfl ?_
      unfold mixFr
      go_simp
      exact ⟨upd x 36 _, m, q, rfl, hJ.addr 7 (by omega)⟩
    · obtain rfl := Option.some.inj ho
      have hx := hJ.ad 7 (by omega) (hall ⟨14, .data⟩ (by simp) rfl)
      simp only [Nat.reduceMul, Nat.reduceAdd] at hx
      have c0 := Blk.cell ((hJ.bl.block _ hlt0.out).trans hBk.out) 7
      refine wpOp_some rfl rfl ?_
      unfold mixFr
      simp at c0
      simp only [hx]
      go_simp
      refine ⟨_, m, q, ?_, hJ.load 7 (by omega)⟩
      simp [mixFr, upd, hx, u32v, Sh.list]
    · refine wpOp_some rfl rfl ?_
      unfold mixFr
      go_simp
      exact ⟨upd x 6 _, m + 1, _, rfl, hJ.alloc 0 (by omega) (getD_both hun)⟩
    · refine wpOp_some rfl rfl ?_
      unfold mixFr
      go_simp
      exact ⟨upd x 7 _, m + 1, _, rfl, hJ.alloc 1 (by omega) (getD_both hun)⟩
    · refine wpOp_some rfl rfl ?_
      unfold mixFr
      go_simp
      exact ⟨upd x 8 _, m + 1, _, rfl, hJ.alloc 2 (by omega) (getD_both hun)⟩
    · refine wpOp_some rfl rfl ?_
      unfold mixFr
      go_simp
      exact ⟨upd x 9 _, m + 1, _, rfl, hJ.alloc 3 (by omega) (getD_both hun)⟩
    · refine wpOp_some rfl rfl ?_
      unfold mixFr
      go_simp
      exact ⟨upd x 10 _, m + 1, _, rfl, hJ.alloc 4 (by omega) (getD_both hun)⟩
    · refine wpOp_some rfl rfl ?_
      unfold mixFr
      go_simp
      exact ⟨upd x 11 _, m + 1, _, rfl, hJ.alloc 5 (by omega) (getD_both hun)⟩
    · refine wpOp_some rfl rfl ?_
      unfold mixFr
      go_simp
      exact ⟨upd x 12 _, m + 1, _, rfl, hJ.alloc 6 (by omega) (getD_both hun)⟩
    · refine wpOp_some rfl rfl ?_
      unfold mixFr
      go_simp
      exact ⟨upd x 13 _, m + 1, _, rfl, hJ.alloc 7 (by omega) (getD_both hun)⟩
    · obtain rfl := Option.some.inj ho
      have hl := hall ⟨16, .data⟩ (by simp) rfl
      obtain ⟨hx, hq, hbq⟩ := hJ.al 0 (by omega) hl
      have hv := hJ.ld 0 (by omega) (hall ⟨1, .data⟩ (by simp) rfl)
      have hs := Lib.hid (hJ.store 0 (by omega) hl)
      simp only [Nat.reduceMul, Nat.reduceAdd] at hx hv hbq
      replace hx : x 6 = .pointer (some ⟨W0.heap.size + q 0, 0, none⟩) := hx
      obtain ⟨v0, c0⟩ : ∃ v0, w'.cell? ⟨W0.heap.size + q 0, 0, none⟩ = some v0 := ⟨_, hbq.cell 0⟩
      have f0 : w'.frozen? ⟨W0.heap.size + q 0, 0, none⟩ = false := hbq.frozen 0
      have e0 : s.list.getD 0 0 = s.a := rfl
      rw [e0, u32v] at hv
      refine wpOp_some rfl rfl ?_
      unfold mixFr
      simp only [hx, hv]
      go_simp
      refine ⟨x, m, q, ?_, hs.out⟩
      simp [mixFr, hx, hv]
    · obtain rfl := Option.some.inj ho
      have hl := hall ⟨17, .data⟩ (by simp) rfl
      obtain ⟨hx, hq, hbq⟩ := hJ.al 1 (by omega) hl
      have hv := hJ.ld 1 (by omega) (hall ⟨3, .data⟩ (by simp) rfl)
      have hs := Lib.hid (hJ.store 1 (by omega) hl)
      simp only [Nat.reduceMul, Nat.reduceAdd] at hx hv hbq
      replace hx : x 7 = .pointer (some ⟨W0.heap.size + q 1, 0, none⟩) := hx
      obtain ⟨v0, c0⟩ : ∃ v0, w'.cell? ⟨W0.heap.size + q 1, 0, none⟩ = some v0 := ⟨_, hbq.cell 0⟩
      have f0 : w'.frozen? ⟨W0.heap.size + q 1, 0, none⟩ = false := hbq.frozen 0
      have e0 : s.list.getD 1 0 = s.b := rfl
      rw [e0, u32v] at hv
      refine wpOp_some rfl rfl ?_
      unfold mixFr
      simp only [hx, hv]
      go_simp
      refine ⟨x, m, q, ?_, hs.out⟩
      simp [mixFr, hx, hv]
    · obtain rfl := Option.some.inj ho
      have hl := hall ⟨18, .data⟩ (by simp) rfl
      obtain ⟨hx, hq, hbq⟩ := hJ.al 2 (by omega) hl
      have hv := hJ.ld 2 (by omega) (hall ⟨5, .data⟩ (by simp) rfl)
      have hs := Lib.hid (hJ.store 2 (by omega) hl)
      simp only [Nat.reduceMul, Nat.reduceAdd] at hx hv hbq
      replace hx : x 8 = .pointer (some ⟨W0.heap.size + q 2, 0, none⟩) := hx
      obtain ⟨v0, c0⟩ : ∃ v0, w'.cell? ⟨W0.heap.size + q 2, 0, none⟩ = some v0 := ⟨_, hbq.cell 0⟩
      have f0 : w'.frozen? ⟨W0.heap.size + q 2, 0, none⟩ = false := hbq.frozen 0
      have e0 : s.list.getD 2 0 = s.c := rfl
      rw [e0, u32v] at hv
      refine wpOp_some rfl rfl ?_
      unfold mixFr
      simp only [hx, hv]
      go_simp
      refine ⟨x, m, q, ?_, hs.out⟩
      simp [mixFr, hx, hv]
    · obtain rfl := Option.some.inj ho
      have hl := hall ⟨19, .data⟩ (by simp) rfl
      obtain ⟨hx, hq, hbq⟩ := hJ.al 3 (by omega) hl
      have hv := hJ.ld 3 (by omega) (hall ⟨7, .data⟩ (by simp) rfl)
      have hs := Lib.hid (hJ.store 3 (by omega) hl)
      simp only [Nat.reduceMul, Nat.reduceAdd] at hx hv hbq
      replace hx : x 9 = .pointer (some ⟨W0.heap.size + q 3, 0, none⟩) := hx
      obtain ⟨v0, c0⟩ : ∃ v0, w'.cell? ⟨W0.heap.size + q 3, 0, none⟩ = some v0 := ⟨_, hbq.cell 0⟩
      have f0 : w'.frozen? ⟨W0.heap.size + q 3, 0, none⟩ = false := hbq.frozen 0
      have e0 : s.list.getD 3 0 = s.d := rfl
      rw [e0, u32v] at hv
      refine wpOp_some rfl rfl ?_
      unfold mixFr
      simp only [hx, hv]
      go_simp
      refine ⟨x, m, q, ?_, hs.out⟩
      simp [mixFr, hx, hv]
    · obtain rfl := Option.some.inj ho
      have hl := hall ⟨20, .data⟩ (by simp) rfl
      obtain ⟨hx, hq, hbq⟩ := hJ.al 4 (by omega) hl
      have hv := hJ.ld 4 (by omega) (hall ⟨9, .data⟩ (by simp) rfl)
      have hs := Lib.hid (hJ.store 4 (by omega) hl)
      simp only [Nat.reduceMul, Nat.reduceAdd] at hx hv hbq
      replace hx : x 10 = .pointer (some ⟨W0.heap.size + q 4, 0, none⟩) := hx
      obtain ⟨v0, c0⟩ : ∃ v0, w'.cell? ⟨W0.heap.size + q 4, 0, none⟩ = some v0 := ⟨_, hbq.cell 0⟩
      have f0 : w'.frozen? ⟨W0.heap.size + q 4, 0, none⟩ = false := hbq.frozen 0
      have e0 : s.list.getD 4 0 = s.e := rfl
      rw [e0, u32v] at hv
      refine wpOp_some rfl rfl ?_
      unfold mixFr
      simp only [hx, hv]
      go_simp
      refine ⟨x, m, q, ?_, hs.out⟩
      simp [mixFr, hx, hv]
    · obtain rfl := Option.some.inj ho
      have hl := hall ⟨21, .data⟩ (by simp) rfl
      obtain ⟨hx, hq, hbq⟩ := hJ.al 5 (by omega) hl
      have hv := hJ.ld 5 (by omega) (hall ⟨11, .data⟩ (by simp) rfl)
      have hs := Lib.hid (hJ.store 5 (by omega) hl)
      simp only [Nat.reduceMul, Nat.reduceAdd] at hx hv hbq
      replace hx : x 11 = .pointer (some ⟨W0.heap.size + q 5, 0, none⟩) := hx
      obtain ⟨v0, c0⟩ : ∃ v0, w'.cell? ⟨W0.heap.size + q 5, 0, none⟩ = some v0 := ⟨_, hbq.cell 0⟩
      have f0 : w'.frozen? ⟨W0.heap.size + q 5, 0, none⟩ = false := hbq.frozen 0
      have e0 : s.list.getD 5 0 = s.f := rfl
      rw [e0, u32v] at hv
      refine wpOp_some rfl rfl ?_
      unfold mixFr
      simp only [hx, hv]
      go_simp
      refine ⟨x, m, q, ?_, hs.out⟩
      simp [mixFr, hx, hv]
    · obtain rfl := Option.some.inj ho
      have hl := hall ⟨22, .data⟩ (by simp) rfl
      obtain ⟨hx, hq, hbq⟩ := hJ.al 6 (by omega) hl
      have hv := hJ.ld 6 (by omega) (hall ⟨13, .data⟩ (by simp) rfl)
      have hs := Lib.hid (hJ.store 6 (by omega) hl)
      simp only [Nat.reduceMul, Nat.reduceAdd] at hx hv hbq
      replace hx : x 12 = .pointer (some ⟨W0.heap.size + q 6, 0, none⟩) := hx
      obtain ⟨v0, c0⟩ : ∃ v0, w'.cell? ⟨W0.heap.size + q 6, 0, none⟩ = some v0 := ⟨_, hbq.cell 0⟩
      have f0 : w'.frozen? ⟨W0.heap.size + q 6, 0, none⟩ = false := hbq.frozen 0
      have e0 : s.list.getD 6 0 = s.g := rfl
      rw [e0, u32v] at hv
      refine wpOp_some rfl rfl ?_
      unfold mixFr
      simp only [hx, hv]
      go_simp
      refine ⟨x, m, q, ?_, hs.out⟩
      simp [mixFr, hx, hv]
    · obtain rfl := Option.some.inj ho
      have hl := hall ⟨23, .data⟩ (by simp) rfl
      obtain ⟨hx, hq, hbq⟩ := hJ.al 7 (by omega) hl
      have hv := hJ.ld 7 (by omega) (hall ⟨15, .data⟩ (by simp) rfl)
      have hs := Lib.hid (hJ.store 7 (by omega) hl)
      simp only [Nat.reduceMul, Nat.reduceAdd] at hx hv hbq
      replace hx : x 13 = .pointer (some ⟨W0.heap.size + q 7, 0, none⟩) := hx
      obtain ⟨v0, c0⟩ : ∃ v0, w'.cell? ⟨W0.heap.size + q 7, 0, none⟩ = some v0 := ⟨_, hbq.cell 0⟩
      have f0 : w'.frozen? ⟨W0.heap.size + q 7, 0, none⟩ = false := hbq.frozen 0
      have e0 : s.list.getD 7 0 = s.h := rfl
      rw [e0, u32v] at hv
      refine wpOp_some rfl rfl ?_
      unfold mixFr
      simp only [hx, hv]
      go_simp
      refine ⟨x, m, q, ?_, hs.out⟩
      simp [mixFr, hx, hv]
  case done =>
    rintro listed a w1 hall ⟨x, m, q, rfl, hJ⟩
    obtain ⟨p, hp⟩ : ∃ p : Nat → Nat, p = fun j => W0.heap.size + q j := ⟨_, rfl⟩
    have hal : ∀ j, j < 8 → x (6 + j) = .pointer (some ⟨p j, 0, none⟩) ∧ Blk w1 (p j) 22 #[u32v (s.list.getD j 0)] ∧ W0.heap.size ≤ p j ∧ p j < w1.heap.size := by
      intro j hj
      obtain ⟨e1, e2, e3⟩ := hJ.al j hj (hall _ (by simp; omega))
      rw [if_pos (hall _ (by simp; omega))] at e3
      subst hp
      exact ⟨e1, e3, Nat.le_add_right _ _, e3.lt⟩
    have hne : ∀ i j, i < 8 → j < 8 → i ≠ j → p i ≠ p j := by
      intro i j hi hj hij e
      subst hp
      exact hJ.ne i j hi hj (hall _ (by simp; omega)) (hall _ (by simp; omega)) hij (by simpa using e)
    have had : ∀ j, j < 8 → x (22 + 2 * j) = .pointer (some ⟨w.heap.size, j, none⟩) := fun j hj => hJ.ad j hj (hall _ (by simp; omega))
    have hld : ∀ j, j < 8 → x (23 + 2 * j) = u32v (s.list.getD j 0) := fun j hj => hJ.ld j hj (hall _ (by simp; omega))
    have hM : MixAt w w.heap.size p s s w1 := ⟨fun j hj => (hal j hj).2.1, (hJ.bl.block _ (by have := HZ0.out; show _ < W0.heap.size; omega)).trans HB0.out, (hJ.bl.block _ (by have := HZ0.out; show _ < W0.heap.size; omega)).trans HR0.out, (hJ.bl.block _ (by have := HZ0.out; show _ < W0.heap.size; omega)).trans HF0.out,
      HO0.out.trans ⟨hJ.bl.os, hJ.bl.tape, hJ.bl.output, hJ.bl.size, fun k hk _ => hJ.bl.block k hk⟩⟩
    have hp0 : ∀ j, j < 8 → w.heap.size + 3 ≤ p j := fun j hj => by have := (hal j hj).2.2.1; have := HZ0.out; omega
    have hpl : ∀ j, j < 8 → p j < w1.heap.size := fun j hj => (hal j hj).2.2.2
    have x6 := (hal 0 (by omega)).1
    have x7 := (hal 1 (by omega)).1
    have x8 := (hal 2 (by omega)).1
    have x9 := (hal 3 (by omega)).1
    have x10 := (hal 4 (by omega)).1
    have x11 := (hal 5 (by omega)).1
    have x12 := (hal 6 (by omega)).1
    have x13 := (hal 7 (by omega)).1
    have x22 := had 0 (by omega)
    have x24 := had 1 (by omega)
    have x26 := had 2 (by omega)
    have x28 := had 3 (by omega)
    have x30 := had 4 (by omega)
    have x32 := had 5 (by omega)
    have x34 := had 6 (by omega)
    have x36 := had 7 (by omega)
    have x23 := hld 0 (by omega)
    have x25 := hld 1 (by omega)
    have x27 := hld 2 (by omega)
    have x29 := hld 3 (by omega)
    have x31 := hld 4 (by omega)
    have x33 := hld 5 (by omega)
    have x35 := hld 6 (by omega)
    have x37 := hld 7 (by omega)
    simp only [Nat.reduceMul, Nat.reduceAdd, Nat.add_zero, u32v, Sh.list, List.getD_cons_zero, List.getD_cons_succ] at x6 x7 x8 x9 x10 x11 x12 x13 x22 x24 x26 x28 x30 x32 x34 x36 x23 x25 x27 x29 x31 x33 x35 x37
    unfold mixFr
    simp only [x6, x7, x8, x9, x10, x11, x12, x13, x22, x24, x26, x28, x30, x32, x34, x36, x23, x25, x27, x29, x31, x33, x35, x37, shAgg]
    clear x6 x7 x8 x9 x10 x11 x12 x13 x22 x24 x26 x28 x30 x32 x34 x36 x23 x25 x27 x29 x31 x33 x35 x37 hal had hld hJ hp hall
    have HM := Lib.hid hM
    have HP := Lib.hid (And.intro hp0 (And.intro hpl hne))
    clear hM hp0 hpl hne
    gi_wp2_with fail
    refine ⟨trivial, (callsIn_wide.2 (spread_c blk _)).mono ?_⟩
    rintro e w2 ⟨rfl, rfl⟩
    gi_wp2_with fail
    obtain ⟨W2, hW2⟩ : ∃ W2, w1.alloc (.cells #[.string blk] 9) = W2 := ⟨_, rfl⟩
    have hz2 : W2.heap.size = w1.heap.size + 1 := by rw [← hW2]; simp
    have hbb2 : W2.cell? ⟨w1.heap.size, 0, none⟩ = some (.string blk) := by rw [← hW2]; exact (Blk.new w1 9 #[.string blk]).cell 0
    have HM2 : Hid (MixAt w w.heap.size p s s W2) := Lib.hid (HM.out.keep (B := w1.heap.size) (by rw [← hW2]; exact (Below.refl _ w1).alloc (Nat.le_refl _) _) HP.out.2.1 (by have := HM.out.fn.lt; omega) HM.out.only.size)
    rw [hW2]
    have hwz := HM.out.only.size
    have hfl := HM.out.fn.lt
    have hpl2 : ∀ j, j < 8 → p j < W2.heap.size := fun j hj => by have := HP.out.2.1 j hj; omega
    have HPL2 := Lib.hid hpl2
    clear hW2 hpl2
    refine rangeFunc_only rfl (by omega) (gf := 176) (lb := #[.pointer (some ⟨w1.heap.size, 0, none⟩)]) rfl trivial (enters_of Tryz.func176 (by kernel_rfl) rfl)
      (spread_seq _ blk hb W2 w1.heap.size (boxes p) hbb2 (by omega) (fun h => by obtain ⟨j, hj, e⟩ := boxes_mem h; have := HP.out.2.1 j hj; omega) (fun i hi => by obtain ⟨j, hj, e⟩ := boxes_mem hi; have := HPL2.out j hj; omega))
      (fun i hi => by obtain ⟨j, hj, e⟩ := boxes_mem hi; have := HPL2.out j hj; omega) (fun _ => rfl)
      (fun pre W => MixAt w w.heap.size p s (shRounds shK blk pre.length s) W ∧ w1.heap.size < W.heap.size) ?hI ⟨HM2.out, by show w1.heap.size < W2.heap.size; omega⟩
      (fun x => { tmps := #[.agg #[.int .u32 s.a, .int .u32 s.b, .int .u32 s.c, .int .u32 s.d, .int .u32 s.e, .int .u32 s.f, .int .u32 s.g, .int .u32 s.h], .string blk, .pointer (some ⟨w.heap.size, 0, none⟩), undef, .pointer (some ⟨w.heap.size + 1, 0, none⟩), .pointer (some ⟨w.heap.size + 1 + 1, 0, none⟩), .pointer (some ⟨p 0, 0, none⟩), .pointer (some ⟨p 1, 0, none⟩), .pointer (some ⟨p 2, 0, none⟩), .pointer (some ⟨p 3, 0, none⟩), .pointer (some ⟨p 4, 0, none⟩), .pointer (some ⟨p 5, 0, none⟩), .pointer (some ⟨p 6, 0, none⟩), .pointer (some ⟨p 7, 0, none⟩), .int .i64 x.1, .int .u32 x.2, undef, undef, undef, undef, undef, undef, .pointer (some ⟨w.heap.size, 0, none⟩), .int .u32 s.a, .pointer (some ⟨w.heap.size, 1, none⟩), .int .u32 s.b, .pointer (some ⟨w.heap.size, 2, none⟩), .int .u32 s.c, .pointer (some ⟨w.heap.size, 3, none⟩), .int .u32 s.d, .pointer (some ⟨w.heap.size, 4, none⟩), .int .u32 s.e, .pointer (some ⟨w.heap.size, 5, none⟩), .int .u32 s.f, .pointer (some ⟨w.heap.size, 6, none⟩), .int .u32 s.g, .pointer (some ⟨w.heap.size, 7, none⟩), .int .u32 s.h, .string blk, .func (.func 176) #[] #[.pointer (some ⟨w1.heap.size, 0, none⟩)], .int .i64 x.1, .int .u32 x.2, undef, undef, undef, undef, undef, undef, undef, undef, undef, undef, undef, undef, undef, undef, undef, undef, undef, undef, undef, undef, undef, undef, undef, undef, undef, undef, undef, undef, undef, undef, undef, undef, undef, undef, undef, undef, undef, undef, undef, undef, undef, undef, undef, undef, undef, undef, undef, undef, undef, undef, undef, undef, undef, undef, undef, undef, undef, undef, undef, undef, undef, undef, undef, undef, undef, undef, undef, undef], defers := [] }) ?assign ?body ?dn
    case hI =>
      rintro pre A B ⟨h, hl⟩ hb'
      have := hb'.size
      exact ⟨h.keep (B := W2.heap.size) hb' HPL2.out (by omega) (by omega), by omega⟩
    case assign =>
      intro l x W K hK
      simp only [encW]
      gi_wp2
      exact hK
    case body =>
      rintro l pre x W hl ⟨hMt, hsz⟩ hpre
      obtain ⟨hk, rfl⟩ := shWords_at hpre
      have HL : Hid ((pre ++ [(pre.length, wAt blk pre.length)]).length = pre.length + 1) := Lib.hid (by simp)
      obtain ⟨k, hkk⟩ : ∃ k, pre.length = k := ⟨_, rfl⟩
      have HKK := Lib.hid hkk
      rw [hkk] at hMt hk HL hpre ⊢
      have HST : Hid (shRounds shK blk (k + 1) s = shStep (shK.getD k 0) (wAt blk k) (shRounds shK blk k s)) := Lib.hid rfl
      have hto := shRounds_ok shK blk k hs
      obtain ⟨t, ht⟩ : ∃ t, shRounds shK blk k s = t := ⟨_, rfl⟩
      rw [ht] at hMt HST hto
      obtain ⟨ta, tb, tc, td, te, tf, tg, th⟩ := hto
      have c6 : W.cell? ⟨p 0, 0, none⟩ = some (.int .u32 t.a) := (hMt.box 0 (by omega)).cell 0
      have c7 : W.cell? ⟨p 1, 0, none⟩ = some (.int .u32 t.b) := (hMt.box 1 (by omega)).cell 0
      have c8 : W.cell? ⟨p 2, 0, none⟩ = some (.int .u32 t.c) := (hMt.box 2 (by omega)).cell 0
      have c9 : W.cell? ⟨p 3, 0, none⟩ = some (.int .u32 t.d) := (hMt.box 3 (by omega)).cell 0
      have c10 : W.cell? ⟨p 4, 0, none⟩ = some (.int .u32 t.e) := (hMt.box 4 (by omega)).cell 0
      have c11 : W.cell? ⟨p 5, 0, none⟩ = some (.int .u32 t.f) := (hMt.box 5 (by omega)).cell 0
      have c12 : W.cell? ⟨p 6, 0, none⟩ = some (.int .u32 t.g) := (hMt.box 6 (by omega)).cell 0
      have c13 : W.cell? ⟨p 7, 0, none⟩ = some (.int .u32 t.h) := (hMt.box 7 (by omega)).cell 0
      have f6 := (hMt.box 0 (by omega)).frozen 0
      have f7 := (hMt.box 1 (by omega)).frozen 0
      have f8 := (hMt.box 2 (by omega)).frozen 0
      have f9 := (hMt.box 3 (by omega)).frozen 0
      have f10 := (hMt.box 4 (by omega)).frozen 0
      have f11 := (hMt.box 5 (by omega)).frozen 0
      have f12 := (hMt.box 6 (by omega)).frozen 0
      have f13 := (hMt.box 7 (by omega)).frozen 0
      have cf : W.cell? ⟨w.heap.size + 1 + 1, 0, none⟩ = some (.func (.func 169) #[] #[]) := hMt.fn.cell 0
      have HMT := Lib.hid hMt
      have HCH := Lib.hid (choice_bits t.e t.f t.g te tf tg)
      have HVO := Lib.hid (vote_bits t.a t.b t.c ta tb tc)
      have HKC := Lib.hid (fun w => mix1_c k w hk)
      have HB1 := Lib.hid (fun w => big6_c t.e w te)
      have HB2 := Lib.hid (fun w => big2_c t.a w ta)
      have w64 := wAt_lt blk k
      have kk := shK_lt k
      have HTT := Lib.hid ht
      clear ht hMt hkk hpre
      generalize wAt blk k = wk at *
      generalize shK.getD k 0 = kc at *
      have hch := shCh_lt (f := t.f) (g := t.g) te
      have hvo := shMaj_lt (c := t.c) ta tb
      gi_wp2
      rw [HCH.out, HVO.out]
      have HSS : Hid (shStep kc wk t = ⟨(((t.h + Sg1 t.e + kc + wk + shCh t.e t.f t.g) % 4294967296) + ((Sg0 t.a + shMaj t.a t.b t.c) % 4294967296)) % 4294967296, t.a, t.b, t.c, (t.d + (t.h + Sg1 t.e + kc + wk + shCh t.e t.f t.g) % 4294967296) % 4294967296, t.e, t.f, t.g⟩) := Lib.hid rfl
      have s1 := Sg1_lt te
      have s0 := Sg0_lt ta
      clear HCH HVO
      generalize shCh t.e t.f t.g = cv at *
      generalize shMaj t.a t.b t.c = mv at *
      generalize Sg1 t.e = g1 at *
      generalize Sg0 t.a = g0 at *
      refine wpIn_region_quiet_roundW l (by kernel_rfl) (by kernel_rfl) (by kernel_rfl) ?_
      repeat (go_big_quiet_step (first | (with_reducible exact Calls.quiet_of_same' (HB1.out _)) | (with_reducible exact Calls.quiet_of (HKC.out _))))
      refine wpQuiet_nil ?_
      intro nq
      obtain ⟨pv, hpv⟩ : ∃ pv, (t.h + g1 + kc + wk + cv) % 4294967296 = pv := ⟨_, rfl⟩
      have HPV : Hid ((((t.h : Int) + g1 + kc + wk) % 4294967296 + cv) % 4294967296 = (pv : Int)) := Lib.hid (by omega)
      have hpl : pv < 4294967296 := by omega
      rw [hpv] at HSS
      clear hpv
      rw [HPV.out]
      clear HPV HKC HB1
      gi_wp2_with fail
      refine ⟨trivial, (CallsIn.inRound l (callsIn_wide.2 (HB2.out _))).mono ?_⟩
      rintro e w' ⟨rfl, rfl⟩
      have n01 : (p 0 = p 1) = False := eq_false (HP.out.2.2 0 1 (by omega) (by omega) (by omega))
      have n02 : (p 0 = p 2) = False := eq_false (HP.out.2.2 0 2 (by omega) (by omega) (by omega))
      have n03 : (p 0 = p 3) = False := eq_false (HP.out.2.2 0 3 (by omega) (by omega) (by omega))
      have n04 : (p 0 = p 4) = False := eq_false (HP.out.2.2 0 4 (by omega) (by omega) (by omega))
      have n05 : (p 0 = p 5) = False := eq_false (HP.out.2.2 0 5 (by omega) (by omega) (by omega))
      have n06 : (p 0 = p 6) = False := eq_false (HP.out.2.2 0 6 (by omega) (by omega) (by omega))
      have n07 : (p 0 = p 7) = False := eq_false (HP.out.2.2 0 7 (by omega) (by omega) (by omega))
      have n12 : (p 1 = p 2) = False := eq_false (HP.out.2.2 1 2 (by omega) (by omega) (by omega))
      have n13 : (p 1 = p 3) = False := eq_false (HP.out.2.2 1 3 (by omega) (by omega) (by omega))
      have n14 : (p 1 = p 4) = False := eq_false (HP.out.2.2 1 4 (by omega) (by omega) (by omega))
      have n15 : (p 1 = p 5) = False := eq_false (HP.out.2.2 1 5 (by omega) (by omega) (by omega))
      have n16 : (p 1 = p 6) = False := eq_false (HP.out.2.2 1 6 (by omega) (by omega) (by omega))
      have n17 : (p 1 = p 7) = False := eq_false (HP.out.2.2 1 7 (by omega) (by omega) (by omega))
      have n23 : (p 2 = p 3) = False := eq_false (HP.out.2.2 2 3 (by omega) (by omega) (by omega))
      have n24 : (p 2 = p 4) = False := eq_false (HP.out.2.2 2 4 (by omega) (by omega) (by omega))
      have n25 : (p 2 = p 5) = False := eq_false (HP.out.2.2 2 5 (by omega) (by omega) (by omega))
      have n26 : (p 2 = p 6) = False := eq_false (HP.out.2.2 2 6 (by omega) (by omega) (by omega))
      have n27 : (p 2 = p 7) = False := eq_false (HP.out.2.2 2 7 (by omega) (by omega) (by omega))
      have n34 : (p 3 = p 4) = False := eq_false (HP.out.2.2 3 4 (by omega) (by omega) (by omega))
      have n35 : (p 3 = p 5) = False := eq_false (HP.out.2.2 3 5 (by omega) (by omega) (by omega))
      have n36 : (p 3 = p 6) = False := eq_false (HP.out.2.2 3 6 (by omega) (by omega) (by omega))
      have n37 : (p 3 = p 7) = False := eq_false (HP.out.2.2 3 7 (by omega) (by omega) (by omega))
      have n45 : (p 4 = p 5) = False := eq_false (HP.out.2.2 4 5 (by omega) (by omega) (by omega))
      have n46 : (p 4 = p 6) = False := eq_false (HP.out.2.2 4 6 (by omega) (by omega) (by omega))
      have n47 : (p 4 = p 7) = False := eq_false (HP.out.2.2 4 7 (by omega) (by omega) (by omega))
      have n56 : (p 5 = p 6) = False := eq_false (HP.out.2.2 5 6 (by omega) (by omega) (by omega))
      have n57 : (p 5 = p 7) = False := eq_false (HP.out.2.2 5 7 (by omega) (by omega) (by omega))
      have n67 : (p 6 = p 7) = False := eq_false (HP.out.2.2 6 7 (by omega) (by omega) (by omega))
      obtain ⟨av, hav⟩ : ∃ av, (pv + (g0 + mv) % 4294967296) % 4294967296 = av := ⟨_, rfl⟩
      obtain ⟨ev, hev⟩ : ∃ ev, (t.d + pv) % 4294967296 = ev := ⟨_, rfl⟩
      have HAV : Hid (((pv : Int) + ((g0 : Int) + mv)) % 4294967296 = (av : Int)) := Lib.hid (by omega)
      have HEV : Hid (((t.d : Int) + pv) % 4294967296 = (ev : Int)) := Lib.hid (by omega)
      rw [hav, hev] at HSS
      clear hav hev
      gi_wp2
      rw [HAV.out, HEV.out, HKK.out, HST.out, HSS.out]
      have hq : MixAt w w.heap.size p s t (W.drewN nq) := HMT.out.keep (B := W.heap.size) ((Below.refl _ W).drewN' nq) (fun j hj => by have := HPL2.out j hj; omega) (by omega) (by omega)
      exact ⟨((Only.refl (boxes p) W).drewN nq).trans (putAll_only (W.drewN nq) p ⟨av, t.a, t.b, t.c, ev, t.e, t.f, t.g⟩), hq.put _ (fun j hj => by have := HP.out.1 j hj; omega) (fun j hj => by have := HP.out.1 j hj; omega) HP.out.2.2⟩
    case dn =>
      rintro D W hD ⟨hMt, hsz⟩ hK
      have h64 : (shWords blk 64).length = 64 := by simp [shWords]
      rw [h64] at hMt
      have HMX := HR9
      have hto := shRounds_ok shK blk 64 hs
      obtain ⟨t, ht⟩ : ∃ t, shRounds shK blk 64 s = t := ⟨_, rfl⟩
      rw [ht] at hMt HMX hto
      obtain ⟨ta, tb, tc, td, te, tf, tg, th⟩ := hto
      obtain ⟨sa, sb, sc, sd, se, sf, sg, sh⟩ := hs
      have c6 : W.cell? ⟨p 0, 0, none⟩ = some (.int .u32 t.a) := (hMt.box 0 (by omega)).cell 0
      have c7 : W.cell? ⟨p 1, 0, none⟩ = some (.int .u32 t.b) := (hMt.box 1 (by omega)).cell 0
      have c8 : W.cell? ⟨p 2, 0, none⟩ = some (.int .u32 t.c) := (hMt.box 2 (by omega)).cell 0
      have c9 : W.cell? ⟨p 3, 0, none⟩ = some (.int .u32 t.d) := (hMt.box 3 (by omega)).cell 0
      have c10 : W.cell? ⟨p 4, 0, none⟩ = some (.int .u32 t.e) := (hMt.box 4 (by omega)).cell 0
      have c11 : W.cell? ⟨p 5, 0, none⟩ = some (.int .u32 t.f) := (hMt.box 5 (by omega)).cell 0
      have c12 : W.cell? ⟨p 6, 0, none⟩ = some (.int .u32 t.g) := (hMt.box 6 (by omega)).cell 0
      have c13 : W.cell? ⟨p 7, 0, none⟩ = some (.int .u32 t.h) := (hMt.box 7 (by omega)).cell 0
      have HMT := Lib.hid hMt
      have HKD := Lib.hid hK
      have HDD : Hid (w.heap.size + 1 < D) := Lib.hid (by omega)
      clear hMt ht hK
      gi_wp2
      gi_loopw [98] (fun i wr => MixEnd w w.heap.size D s t i wr) (fun i _ => 8 - (intOf i).toNat)
      case atStart => exact ⟨0, by omega, rfl, HMT.out.sta, HMT.out.res, HMT.out.only, HKD.out⟩
      case round =>
        obtain ⟨k, hk, rfl, hst, hre, hon, hdd⟩ := hrel.ex
        have HRE := Lib.hid hre
        have HON := Lib.hid hon
        have HHD := Lib.hid hdd
        have hlt : w.heap.size < wr.heap.size := hst.lt
        by_cases hk8 : k < 8
        · clear hre hon hdd
          have h8 : k = 0 ∨ k = 1 ∨ k = 2 ∨ k = 3 ∨ k = 4 ∨ k = 5 ∨ k = 6 ∨ k = 7 := by omega
          rcases h8 with rfl | rfl | rfl | rfl | rfl | rfl | rfl | rfl
          · have q0 : wr.cell? ⟨w.heap.size, 0, none⟩ = some (.int .u32 s.a) := hst.cell 0
            have q1 := hst.frozen 0
            have hi : ∀ w', (Instr.index 30 (.agg #[.int .u32 t.a, .int .u32 t.b, .int .u32 t.c, .int .u32 t.d, .int .u32 t.e, .int .u32 t.f, .int .u32 t.g, .int .u32 t.h]) (.int .i64 0)).run Tryz.prog w' = .ok (.int .u32 t.a) w' := fun w' => index8 t w' 0 (.int .u32 t.a) rfl
            have HN := Lib.hid (hst.set 0 (.int .u32 ((s.a + t.a) % 4294967296 : Nat)))
            clear hst
            gi_wp2
            go_roundw
            case rel => exact MixEnd.next HN.out HRE.out HON.out HHD.out HDD.out (by omega) (by omega) rfl (by simp)
            case measure => simp [intOf]
          · have q0 : wr.cell? ⟨w.heap.size, 1, none⟩ = some (.int .u32 s.b) := hst.cell 1
            have q1 := hst.frozen 1
            have hi : ∀ w', (Instr.index 30 (.agg #[.int .u32 t.a, .int .u32 t.b, .int .u32 t.c, .int .u32 t.d, .int .u32 t.e, .int .u32 t.f, .int .u32 t.g, .int .u32 t.h]) (.int .i64 1)).run Tryz.prog w' = .ok (.int .u32 t.b) w' := fun w' => index8 t w' 1 (.int .u32 t.b) rfl
            have HN := Lib.hid (hst.set 1 (.int .u32 ((s.b + t.b) % 4294967296 : Nat)))
            clear hst
            gi_wp2
            go_roundw
            case rel => exact MixEnd.next HN.out HRE.out HON.out HHD.out HDD.out (by omega) (by omega) rfl (by simp)
            case measure => simp [intOf]
          · have q0 : wr.cell? ⟨w.heap.size, 2, none⟩ = some (.int .u32 s.c) := hst.cell 2
            have q1 := hst.frozen 2
            have hi : ∀ w', (Instr.index 30 (.agg #[.int .u32 t.a, .int .u32 t.b, .int .u32 t.c, .int .u32 t.d, .int .u32 t.e, .int .u32 t.f, .int .u32 t.g, .int .u32 t.h]) (.int .i64 2)).run Tryz.prog w' = .ok (.int .u32 t.c) w' := fun w' => index8 t w' 2 (.int .u32 t.c) rfl
            have HN := Lib.hid (hst.set 2 (.int .u32 ((s.c + t.c) % 4294967296 : Nat)))
            clear hst
            gi_wp2
            go_roundw
            case rel => exact MixEnd.next HN.out HRE.out HON.out HHD.out HDD.out (by omega) (by omega) rfl (by simp)
            case measure => simp [intOf]
          · have q0 : wr.cell? ⟨w.heap.size, 3, none⟩ = some (.int .u32 s.d) := hst.cell 3
            have q1 := hst.frozen 3
            have hi : ∀ w', (Instr.index 30 (.agg #[.int .u32 t.a, .int .u32 t.b, .int .u32 t.c, .int .u32 t.d, .int .u32 t.e, .int .u32 t.f, .int .u32 t.g, .int .u32 t.h]) (.int .i64 3)).run Tryz.prog w' = .ok (.int .u32 t.d) w' := fun w' => index8 t w' 3 (.int .u32 t.d) rfl
            have HN := Lib.hid (hst.set 3 (.int .u32 ((s.d + t.d) % 4294967296 : Nat)))
            clear hst
            gi_wp2
            go_roundw
            case rel => exact MixEnd.next HN.out HRE.out HON.out HHD.out HDD.out (by omega) (by omega) rfl (by simp)
            case measure => simp [intOf]
          · have q0 : wr.cell? ⟨w.heap.size, 4, none⟩ = some (.int .u32 s.e) := hst.cell 4
            have q1 := hst.frozen 4
            have hi : ∀ w', (Instr.index 30 (.agg #[.int .u32 t.a, .int .u32 t.b, .int .u32 t.c, .int .u32 t.d, .int .u32 t.e, .int .u32 t.f, .int .u32 t.g, .int .u32 t.h]) (.int .i64 4)).run Tryz.prog w' = .ok (.int .u32 t.e) w' := fun w' => index8 t w' 4 (.int .u32 t.e) rfl
            have HN := Lib.hid (hst.set 4 (.int .u32 ((s.e + t.e) % 4294967296 : Nat)))
            clear hst
            gi_wp2
            go_roundw
            case rel => exact MixEnd.next HN.out HRE.out HON.out HHD.out HDD.out (by omega) (by omega) rfl (by simp)
            case measure => simp [intOf]
          · have q0 : wr.cell? ⟨w.heap.size, 5, none⟩ = some (.int .u32 s.f) := hst.cell 5
            have q1 := hst.frozen 5
            have hi : ∀ w', (Instr.index 30 (.agg #[.int .u32 t.a, .int .u32 t.b, .int .u32 t.c, .int .u32 t.d, .int .u32 t.e, .int .u32 t.f, .int .u32 t.g, .int .u32 t.h]) (.int .i64 5)).run Tryz.prog w' = .ok (.int .u32 t.f) w' := fun w' => index8 t w' 5 (.int .u32 t.f) rfl
            have HN := Lib.hid (hst.set 5 (.int .u32 ((s.f + t.f) % 4294967296 : Nat)))
            clear hst
            gi_wp2
            go_roundw
            case rel => exact MixEnd.next HN.out HRE.out HON.out HHD.out HDD.out (by omega) (by omega) rfl (by simp)
            case measure => simp [intOf]
          · have q0 : wr.cell? ⟨w.heap.size, 6, none⟩ = some (.int .u32 s.g) := hst.cell 6
            have q1 := hst.frozen 6
            have hi : ∀ w', (Instr.index 30 (.agg #[.int .u32 t.a, .int .u32 t.b, .int .u32 t.c, .int .u32 t.d, .int .u32 t.e, .int .u32 t.f, .int .u32 t.g, .int .u32 t.h]) (.int .i64 6)).run Tryz.prog w' = .ok (.int .u32 t.g) w' := fun w' => index8 t w' 6 (.int .u32 t.g) rfl
            have HN := Lib.hid (hst.set 6 (.int .u32 ((s.g + t.g) % 4294967296 : Nat)))
            clear hst
            gi_wp2
            go_roundw
            case rel => exact MixEnd.next HN.out HRE.out HON.out HHD.out HDD.out (by omega) (by omega) rfl (by simp)
            case measure => simp [intOf]
          · have q0 : wr.cell? ⟨w.heap.size, 7, none⟩ = some (.int .u32 s.h) := hst.cell 7
            have q1 := hst.frozen 7
            have hi : ∀ w', (Instr.index 30 (.agg #[.int .u32 t.a, .int .u32 t.b, .int .u32 t.c, .int .u32 t.d, .int .u32 t.e, .int .u32 t.f, .int .u32 t.g, .int .u32 t.h]) (.int .i64 7)).run Tryz.prog w' = .ok (.int .u32 t.h) w' := fun w' => index8 t w' 7 (.int .u32 t.h) rfl
            have HN := Lib.hid (hst.set 7 (.int .u32 ((s.h + t.h) % 4294967296 : Nat)))
            clear hst
            gi_wp2
            go_roundw
            case rel => exact MixEnd.next HN.out HRE.out HON.out HHD.out HDD.out (by omega) (by omega) rfl (by simp)
            case measure => simp [intOf]
        · obtain rfl : k = 8 := by omega
          obtain ⟨u, hu⟩ : ∃ u, shMid 8 s t = u := ⟨_, rfl⟩
          rw [hu] at hst HMX
          clear hu
          have q0 : wr.cell? ⟨w.heap.size, 0, none⟩ = some (.int .u32 u.a) := hst.cell 0
          have q1 : wr.cell? ⟨w.heap.size, 1, none⟩ = some (.int .u32 u.b) := hst.cell 1
          have q2 : wr.cell? ⟨w.heap.size, 2, none⟩ = some (.int .u32 u.c) := hst.cell 2
          have q3 : wr.cell? ⟨w.heap.size, 3, none⟩ = some (.int .u32 u.d) := hst.cell 3
          have q4 : wr.cell? ⟨w.heap.size, 4, none⟩ = some (.int .u32 u.e) := hst.cell 4
          have q5 : wr.cell? ⟨w.heap.size, 5, none⟩ = some (.int .u32 u.f) := hst.cell 5
          have q6 : wr.cell? ⟨w.heap.size, 6, none⟩ = some (.int .u32 u.g) := hst.cell 6
          have q7 : wr.cell? ⟨w.heap.size, 7, none⟩ = some (.int .u32 u.h) := hst.cell 7
          have r0 := hre.cell 0
          have r1 := hre.cell 1
          have r2 := hre.cell 2
          have r3 := hre.cell 3
          have r4 := hre.cell 4
          have r5 := hre.cell 5
          have r6 := hre.cell 6
          have r7 := hre.cell 7
          simp at r0 r1 r2 r3 r4 r5 r6 r7
          have f0 := hre.frozen 0
          have f1 := hre.frozen 1
          have f2 := hre.frozen 2
          have f3 := hre.frozen 3
          have f4 := hre.frozen 4
          have f5 := hre.frozen 5
          have f6 := hre.frozen 6
          have f7 := hre.frozen 7
          clear hst hre hon hdd
          gi_wp2
          have hfin : (putRes wr (w.heap.size + 1) u).heap[D]? = some (.deferred (some [])) := (putRes_heap wr _ u D (by have := HDD.out; omega)).trans HHD.out
          have hblk := putRes_blk u HRE.out
          have honl := putRes_only u HON.out (show w.heap.size ≤ w.heap.size + 1 by omega)
          have hblk' := hblk.only (only_putObj _ D (.deferred none)) (by have := HDD.out; simp; omega)
          have honl' := honl.trans' (only_putObj _ D (.deferred none)) (fun i hi => .inr (by have := HDD.out; simp at hi; omega))
          unfold putRes at hfin hblk' honl'
          refine ⟨by simp, .inl ⟨_, _, rfl, run_takeDeferred hfin, ?_⟩⟩
          refine ⟨_, mixRet u (g := w.heap.size + 1) rfl hblk', ?_, honl'⟩
          rw [HMX.out]; rfl
end Go.Proofs.YtebllmpdlapefaaGreatDoor
