/- packed.Next, by a meter, and the document's. -/
/- packed.Next without a meter; plain.Put and packed.Put of what is too long. -/
import Derived.Test.YtebllmpdlapefaaGreatDoorKA29
import Derived.Test.YtebllmpdlapefaaGreatDoorKA30
import Derived.Test.YtebllmpdlapefaaGreatDoorKA31
namespace Go.Proofs.YtebllmpdlapefaaGreatDoor
set_option linter.unusedVariables false
set_option linter.unusedSimpArgs false
open Go.RowKit

/-- What is handed back. -/
def pkRet (x : Int × Nat × ByteArray × Nat × Nat) : Ending := .returned (.tuple #[.agg #[.int .u64 x.2.1, .string ByteArray.empty, .string x.2.2.1], .int .i64 x.2.2.2.1, .int .i64 x.1])
theorem pkRet_of {x : Int × Nat × ByteArray × Nat × Nat} {a : Int} {b : Nat} {c : ByteArray} {d m : Nat} {di : Int} (h : x = (a, b, c, d, m)) (hd : di = d) : Ending.returned (.tuple #[.agg #[.int .u64 b, .string ByteArray.empty, .string c], .int .i64 di, .int .i64 a]) = pkRet x := by
  subst h; subst hd; rfl
theorem plNext_err (most : Int) (s : ByteArray) (h : (plNext most s).1 ≠ 0) : plNext most s = ((plNext most s).1, 0, ByteArray.empty, 0) := by
  rw [plNext_eq] at h ⊢
  split
  · rfl
  · split
    · rfl
    · split
      · rfl
      · rename_i h1 h2 h3; rw [if_neg h1, if_neg h2, if_neg h3] at h; exact absurd rfl h
theorem plNext_ok (most : Int) (s : ByteArray) (h : (plNext most s).1 = 0) : (plNext most s).2.2.1.size ≤ s.size ∧ (plNext most s).2.2.2 ≤ s.size ∧ (plNext most s).2.1 < 18446744073709551616 := by
  rw [plNext_eq] at h ⊢
  split at h
  · rename_i h1; exact absurd h h1
  · split at h
    · simp at h
    · split at h
      · simp at h
      · rename_i h1 h2 h3
        rw [if_neg h1, if_neg h2, if_neg h3]
        simp only [ne_eq, Decidable.not_not] at h1 h3
        have hl := lebNext_ok _ h3
        have hz := size_cut s (plSize most s).2.1 ((plSize most s).2.1 + (plSize most s).1) (by omega)
        refine ⟨?_, by simp only; omega, hl.2.2.2⟩
        simp only
        rw [ByteArray.size_extract, hz]; omega
theorem sUnpack_errs (s : ByteArray) (most : Int) (h : (sUnpack s most).1 ≠ 0) (hx : (sSize s).2.2 = 0) (hm : ((sSize s).1 : Int) ≤ most) : (sUnpack s most).1 = 2 ∨ (sUnpack s most).1 = 3 := by
  unfold sUnpack at h ⊢
  rw [if_neg (by rw [hx]; simp), if_neg (by omega)] at h ⊢
  unfold sElems at h ⊢
  generalize (s.extract (sSize s).2.1 s.size) = b at *
  generalize b.size + 1 = f at *
  have : ∀ (f k : Nat) (out : List UInt8), (sAll b (sSize s).1 f k out).1 = 0 ∨ (sAll b (sSize s).1 f k out).1 = 2 ∨ (sAll b (sSize s).1 f k out).1 = 3 := by
    intro f
    induction f with
    | zero => intro k out; right; left; rfl
    | succ f ih =>
      intro k out
      unfold sAll
      split
      · split
        · exact ih _ _
        · rename_i hk hs
          simp only
          have : ∀ (size k b' : Nat) (out : List UInt8), (sStep b size k b' out).1 = 0 ∨ (sStep b size k b' out).1 = 2 ∨ (sStep b size k b' out).1 = 3 := by
            intro size k b' out
            unfold sStep
            split
            · right; left; rfl
            · split
              · right; right; rfl
              · split
                · split
                  · right; left; rfl
                  · left; rfl
                · left; rfl
          exact this _ _ _ _
      · split
        · right; left; rfl
        · left; rfl
  have := this f 0 []
  omega
theorem sSize_errs (s : ByteArray) (h : (sSize s).2.2 ≠ 0) : (sSize s).2.2 = 2 ∨ (sSize s).2.2 = 3 ∨ (sSize s).2.2 = 5 := by
  unfold sSize at h ⊢
  split
  · split
    · right; right; rfl
    · rename_i h1 h2; rw [if_pos h1, if_neg h2] at h; exact absurd h1 h
  · rename_i h1
    have := lebGo_err s 10 0 0 h1
    simp only
    unfold lebNext
    omega
theorem set3 {w : World} {g : Nat} {t : TypeId} {z0 z1 z2 : Value} (h : Blk w g t #[z0, z1, z2]) (v0 v1 v2 : Value) : Blk (((w.setCell ⟨g, 0, none⟩ v0).setCell ⟨g, 1, none⟩ v1).setCell ⟨g, 2, none⟩ v2) g t #[v0, v1, v2] := ((h.set 0 v0).set 1 v1).set 2 v2
theorem set3_at {w : World} {g : Nat} {t : TypeId} {z0 z1 z2 : Value} (h : Blk w g t #[z0, z1, z2]) (v0 v1 v2 : Value) : (((w.setCell ⟨g, 0, none⟩ v0).setCell ⟨g, 1, none⟩ v1).setCell ⟨g, 2, none⟩ v2).cell? ⟨g, 0, none⟩ = some v0 ∧ (((w.setCell ⟨g, 0, none⟩ v0).setCell ⟨g, 1, none⟩ v1).setCell ⟨g, 2, none⟩ v2).cell? ⟨g, 1, none⟩ = some v1 ∧ (((w.setCell ⟨g, 0, none⟩ v0).setCell ⟨g, 1, none⟩ v1).setCell ⟨g, 2, none⟩ v2).cell? ⟨g, 2, none⟩ = some v2 :=
  ⟨(set3 h v0 v1 v2).cell 0, (set3 h v0 v1 v2).cell 1, (set3 h v0 v1 v2).cell 2⟩
theorem set3_al {w : World} {g : Nat} {t : TypeId} {z0 z1 z2 : Value} (h : Blk w g t #[z0, z1, z2]) (o : Obj) (v0 v1 v2 : Value) : ((((w.setCell ⟨g, 0, none⟩ v0).setCell ⟨g, 1, none⟩ v1).setCell ⟨g, 2, none⟩ v2).alloc o).cell? ⟨g, 0, none⟩ = some v0 ∧ ((((w.setCell ⟨g, 0, none⟩ v0).setCell ⟨g, 1, none⟩ v1).setCell ⟨g, 2, none⟩ v2).alloc o).cell? ⟨g, 1, none⟩ = some v1 ∧ ((((w.setCell ⟨g, 0, none⟩ v0).setCell ⟨g, 1, none⟩ v1).setCell ⟨g, 2, none⟩ v2).alloc o).cell? ⟨g, 2, none⟩ = some v2 :=
  ⟨((set3 h v0 v1 v2).alloc o).cell 0, ((set3 h v0 v1 v2).alloc o).cell 1, ((set3 h v0 v1 v2).alloc o).cell 2⟩
set_option maxRecDepth 100000 in
set_option maxHeartbeats 2000000 in
/-- The frame itself isn't told, or its size, or it is above the cap: nothing is metered. -/
theorem packedNext_no (most unp : Int) (mg : Nat) (s : ByteArray) (w : World) (hs : s.size ≤ 9223372036854775807) (hm1 : -9223372036854775808 ≤ most) (hm2 : most ≤ 9223372036854775807)
    (hx : (plNext most s).1 ≠ 0 ∨ (sSize (plNext most s).2.2.1).2.2 ≠ 0 ∨ unp < (sSize (plNext most s).2.2.1).1) :
    Calls Tryz.prog 77 #[.int .i64 most, .int .i64 unp, .pointer (some ⟨mg, 0, none⟩), .string s] w fun e w' => e = pkRet (pkNext most unp s) ∧ Only [] w w' := by
  have HN := Lib.hid (fun w => plainNext_c most s w hs hm1 hm2)
  have HX := Lib.hid (pkNext_eq most unp s)
  have her := plNext_err most s
  have hok := plNext_ok most s
  generalize pkNext most unp s = X at *
  generalize plNext most s = y at *
  obtain ⟨er, id, body, sz⟩ := y
  dsimp only at *
  rcases beq0 er with ⟨h0, h1, h2⟩ | ⟨h0, h1, h2⟩
  · subst h0
    obtain ⟨hb1, hb2, hb3⟩ := hok rfl
    clear her hok
    have HU := Lib.hid (fun mg w => unpackM_err body unp mg w (by omega))
    have HV := Lib.hid (fun mg w => unpackM_most body unp mg w (by omega))
    have hes := sSize_errs body
    generalize sSize body = z at *
    obtain ⟨n, hd, es⟩ := z
    dsimp only at *
    rcases beq0 es with ⟨g0, g1, g2⟩ | ⟨g0, g1, g2⟩
    · subst g0
      have hun : unp < n := by omega
      have HE := Lib.hid (by have := HX.out; rw [if_neg (by simp), if_neg (by simp), if_pos hun] at this; exact this)
      have HV2 := Lib.hid (fun mg w => HV.out mg w rfl hun)
      have HT := Lib.hid (fun w => turned_c 5 w (by omega) (by omega))
      simp only [show ¬ ((5 : Int) = 2) from by omega, if_false] at HT
      clear HU HV HX hes hx
      go_enter Tryz.func77, Tryz.ntmps77
      go_wp2_with fail
      refine (HN.out _).mono ?_
      rintro e w1 ⟨rfl, hb1⟩
      have hF8 : Blk w1 w.heap.size 27 #[.int .u64 0, .string ⟨#[]⟩, .string ⟨#[]⟩] := (hb1.block w.heap.size (by simp)).trans (Blk.new w _ _)
      have hO1 : Only [] w w1 := ((Only.refl [] w).alloc _).trans' (Only.of_below hb1 (Nat.le_refl _)) (by simp)
      have hz1 : w.heap.size < w1.heap.size := by have := hb1.size; simp at this; omega
      clear hb1
      dsimp only
      have c0 := hF8.cell 0
      have c1 := hF8.cell 1
      have c2 := hF8.cell 2
      have f0 := hF8.frozen 0
      have f1 := hF8.frozen 1
      have f2 := hF8.frozen 2
      simp at c0 c1 c2
      go_wp2_with fail
      refine (HV2.out _ _).mono ?_
      rintro e w' ⟨rfl, rfl⟩
      go_wp2_with fail
      refine (HT.out _).mono ?_
      rintro e w3 ⟨rfl, hb3⟩
      have hF9 : Blk w3 w.heap.size 27 #[.int .u64 0, .string ⟨#[]⟩, .string ⟨#[]⟩] := (hb3.block w.heap.size (by simp; omega)).trans (hF8.alloc _)
      have hO3 : Only [] w w3 := (hO1.alloc _).trans' (Only.of_below hb3 (Nat.le_refl _)) (by simp)
      have c0 := hF9.cell 0
      have c1 := hF9.cell 1
      have c2 := hF9.cell 2
      have f0 := hF9.frozen 0
      have f1 := hF9.frozen 1
      have f2 := hF9.frozen 2
      simp at c0 c1 c2
      go_wp2
      refine bodyPost_ret (v := .tuple #[.agg #[.int .u64 0, .string ByteArray.empty, .string ByteArray.empty], .int .i64 0, .int .i64 5]) (by simp [results, Tryz.results77, go_sem, empB, set3_at hF9]) rfl ?_
      refine ⟨pkRet_of HE.out rfl, ?_⟩
      exact (by repeat (first | exact Only.refl _ _ | assumption | with_reducible refine Only.drewN ?_ _ | with_reducible refine Only.drew ?_ | with_reducible refine Only.alloc ?_ _ | ((with_reducible refine Only.put ?_ ?_ _); · (first | omega | (simp <;> omega)))))
    · have hT : ∃ t : Int, (if es = 5 then (5 : Int) else 3) = t ∧ ∀ w, Calls Tryz.prog 120 #[.int .i64 es] w fun e w' => e = .returned (.int .i64 t) ∧ Below w.heap.size w w' := by
        refine ⟨_, rfl, fun w => (turned_c es w (by omega) (by omega)).mono fun e w' ⟨he, hb⟩ => ⟨by rw [he]; rcases hes g0 with h | h | h <;> subst h <;> rfl, hb⟩⟩
      obtain ⟨t, ht, hT⟩ := hT
      have HT := Lib.hid hT
      have HE := Lib.hid (by have := HX.out; rw [if_neg (by simp), if_pos g0, ht] at this; exact this)
      have HU2 := Lib.hid (fun mg w => HU.out mg w g0)
      clear HU HV HX hes hx ht hT g0
      go_enter Tryz.func77, Tryz.ntmps77
      go_wp2_with fail
      refine (HN.out _).mono ?_
      rintro e w1 ⟨rfl, hb1⟩
      have hF8 : Blk w1 w.heap.size 27 #[.int .u64 0, .string ⟨#[]⟩, .string ⟨#[]⟩] := (hb1.block w.heap.size (by simp)).trans (Blk.new w _ _)
      have hO1 : Only [] w w1 := ((Only.refl [] w).alloc _).trans' (Only.of_below hb1 (Nat.le_refl _)) (by simp)
      have hz1 : w.heap.size < w1.heap.size := by have := hb1.size; simp at this; omega
      clear hb1
      dsimp only
      have c0 := hF8.cell 0
      have c1 := hF8.cell 1
      have c2 := hF8.cell 2
      have f0 := hF8.frozen 0
      have f1 := hF8.frozen 1
      have f2 := hF8.frozen 2
      simp at c0 c1 c2
      go_wp2_with fail
      refine (HU2.out _ _).mono ?_
      rintro e w' ⟨rfl, rfl⟩
      go_wp2_with fail
      refine (HT.out _).mono ?_
      rintro e w3 ⟨rfl, hb3⟩
      have hF9 : Blk w3 w.heap.size 27 #[.int .u64 0, .string ⟨#[]⟩, .string ⟨#[]⟩] := (hb3.block w.heap.size (by simp; omega)).trans (hF8.alloc _)
      have hO3 : Only [] w w3 := (hO1.alloc _).trans' (Only.of_below hb3 (Nat.le_refl _)) (by simp)
      have c0 := hF9.cell 0
      have c1 := hF9.cell 1
      have c2 := hF9.cell 2
      have f0 := hF9.frozen 0
      have f1 := hF9.frozen 1
      have f2 := hF9.frozen 2
      simp at c0 c1 c2
      go_wp2
      refine bodyPost_ret (v := .tuple #[.agg #[.int .u64 0, .string ByteArray.empty, .string ByteArray.empty], .int .i64 0, .int .i64 t]) (by simp [results, Tryz.results77, go_sem, empB, set3_at hF9]) rfl ?_
      refine ⟨pkRet_of HE.out rfl, ?_⟩
      exact (by repeat (first | exact Only.refl _ _ | assumption | with_reducible refine Only.drewN ?_ _ | with_reducible refine Only.drew ?_ | with_reducible refine Only.alloc ?_ _ | ((with_reducible refine Only.put ?_ ?_ _); · (first | omega | (simp <;> omega)))))
  · obtain ⟨_, rfl, rfl, rfl⟩ : er = er ∧ id = 0 ∧ body = ByteArray.empty ∧ sz = 0 := by have := her h0; simpa using this
    have HE := Lib.hid (by have := HX.out; rw [if_pos h0] at this; exact this)
    clear HX her hok h0 hx
    go_enter Tryz.func77, Tryz.ntmps77
    go_wp2_with fail
    refine (HN.out _).mono ?_
    rintro e w1 ⟨rfl, hb1⟩
    have hF8 : Blk w1 w.heap.size 27 #[.int .u64 0, .string ⟨#[]⟩, .string ⟨#[]⟩] := (hb1.block w.heap.size (by simp)).trans (Blk.new w _ _)
    have hO1 : Only [] w w1 := ((Only.refl [] w).alloc _).trans' (Only.of_below hb1 (Nat.le_refl _)) (by simp)
    have hz1 : w.heap.size < w1.heap.size := by have := hb1.size; simp at this; omega
    clear hb1
    dsimp only
    have c0 := hF8.cell 0
    have c1 := hF8.cell 1
    have c2 := hF8.cell 2
    have f0 := hF8.frozen 0
    have f1 := hF8.frozen 1
    have f2 := hF8.frozen 2
    simp at c0 c1 c2
    go_wp2
    refine bodyPost_ret (v := .tuple #[.agg #[.int .u64 0, .string ByteArray.empty, .string ByteArray.empty], .int .i64 0, .int .i64 er]) (by simp [results, Tryz.results77, go_sem, empB, set3_al hF8]) rfl ?_
    refine ⟨pkRet_of HE.out rfl, ?_⟩
    exact (by repeat (first | exact Only.refl _ _ | assumption | with_reducible refine Only.drewN ?_ _ | with_reducible refine Only.drew ?_ | with_reducible refine Only.alloc ?_ _ | ((with_reducible refine Only.put ?_ ?_ _); · (first | omega | (simp <;> omega)))))
set_option maxRecDepth 100000 in
set_option maxHeartbeats 2000000 in
/-- The meter has no room: nothing is metered. -/
theorem packedNext_over (most unp : Int) (mg a u t p : Nat) (s : ByteArray) (w : World) (hs : s.size ≤ 9223372036854775807) (hm1 : -9223372036854775808 ≤ most) (hm2 : most ≤ 9223372036854775807)
    (hM : Mtr w mg a u t p) (ha : a ≤ 9223372036854775807) (hu : u ≤ a) (hx : (plNext most s).1 = 0) (hy : (sSize (plNext most s).2.2.1).2.2 = 0) (hm : ((sSize (plNext most s).2.2.1).1 : Int) ≤ unp) (ho : a < u + (sSize (plNext most s).2.2.1).1) :
    Calls Tryz.prog 77 #[.int .i64 most, .int .i64 unp, .pointer (some ⟨mg, 0, none⟩), .string s] w fun e w' => e = pkRet (5, 0, ByteArray.empty, 0, 0) ∧ Only [] w w' := by
  have HN := Lib.hid (fun w => plainNext_c most s w hs hm1 hm2)
  have hok := plNext_ok most s hx
  generalize plNext most s = y at *
  obtain ⟨er, id, body, sz⟩ := y
  dsimp only at *
  subst hx
  obtain ⟨hb1, hb2, hb3⟩ := hok
  have HV := Lib.hid (fun w hM => unpackM_over body unp mg a u t p w (by omega) hM ha hu hy hm ho)
  have HT := Lib.hid (fun w => turned_c 5 w (by omega) (by omega))
  simp only [show ¬ ((5 : Int) = 2) from by omega, if_false] at HT
  clear hy hm ho
  go_enter Tryz.func77, Tryz.ntmps77
  go_wp2_with fail
  refine (HN.out _).mono ?_
  rintro e w1 ⟨rfl, hb1⟩
  have hF8 : Blk w1 w.heap.size 27 #[.int .u64 0, .string ⟨#[]⟩, .string ⟨#[]⟩] := (hb1.block w.heap.size (by simp)).trans (Blk.new w _ _)
  have hO1 : Only [] w w1 := ((Only.refl [] w).alloc _).trans' (Only.of_below hb1 (Nat.le_refl _)) (by simp)
  have hz1 : w.heap.size < w1.heap.size := by have := hb1.size; simp at this; omega
  clear hb1
  dsimp only
  have hM1 := hM.only hO1 (by simp)
  have c0 := hF8.cell 0
  have c1 := hF8.cell 1
  have c2 := hF8.cell 2
  have f0 := hF8.frozen 0
  have f1 := hF8.frozen 1
  have f2 := hF8.frozen 2
  simp at c0 c1 c2
  go_wp2_with fail
  refine (HV.out _ (hM1.alloc _)).mono ?_
  rintro e w2 ⟨rfl, ho2⟩
  have hz2 := ho2.size
  simp only [World.size_alloc] at hz2
  have hF2 := (hF8.alloc _).only ho2 (by simp)
  have hO2 : Only [] w w2 := (hO1.alloc _).trans ho2
  clear c0 c1 c2 f0 f1 f2
  go_wp2_with fail
  refine (HT.out _).mono ?_
  rintro e w3 ⟨rfl, hb3⟩
  have hO3 : Only [] w w3 := hO2.trans (Only.of_below hb3 (Nat.le_refl _))
  have hF9 : Blk w3 w.heap.size 27 #[.int .u64 0, .string ⟨#[]⟩, .string ⟨#[]⟩] := (hb3.block w.heap.size (by omega)).trans hF2
  have c0 := hF9.cell 0
  have c1 := hF9.cell 1
  have c2 := hF9.cell 2
  have f0 := hF9.frozen 0
  have f1 := hF9.frozen 1
  have f2 := hF9.frozen 2
  simp at c0 c1 c2
  go_wp2
  refine bodyPost_ret (v := .tuple #[.agg #[.int .u64 0, .string ByteArray.empty, .string ByteArray.empty], .int .i64 0, .int .i64 5]) (by simp [results, Tryz.results77, go_sem, empB, set3_at hF9]) rfl ?_
  refine ⟨rfl, ?_⟩
  exact (by repeat (first | exact Only.refl _ _ | assumption | with_reducible refine Only.drewN ?_ _ | with_reducible refine Only.drew ?_ | with_reducible refine Only.alloc ?_ _ | ((with_reducible refine Only.put ?_ ?_ _); · (first | omega | (simp <;> omega)))))
set_option maxRecDepth 100000 in
set_option maxHeartbeats 2000000 in
/-- It has room: just the size is metered. -/
theorem packedNext_ok (most unp : Int) (mg a u t p : Nat) (s : ByteArray) (w : World) (hs : s.size ≤ 9223372036854775807) (hm1 : -9223372036854775808 ≤ most) (hm2 : most ≤ 9223372036854775807)
    (hM : Mtr w mg a u t p) (ha : a ≤ 9223372036854775807) (hx : (plNext most s).1 = 0) (hy : (sSize (plNext most s).2.2.1).2.2 = 0) (hm : ((sSize (plNext most s).2.2.1).1 : Int) ≤ unp) (ho : u + (sSize (plNext most s).2.2.1).1 ≤ a) (ht : t + (sSize (plNext most s).2.2.1).1 ≤ 9223372036854775807) :
    Calls Tryz.prog 77 #[.int .i64 most, .int .i64 unp, .pointer (some ⟨mg, 0, none⟩), .string s] w fun e w' => e = pkRet (pkNext most unp s) ∧ (∃ q, Mtr w' mg a (u + (sSize (plNext most s).2.2.1).1) (t + (sSize (plNext most s).2.2.1).1) q) ∧ Only [mg] w w' := by
  have HN := Lib.hid (fun w => plainNext_c most s w hs hm1 hm2)
  have HX := Lib.hid (pkNext_eq most unp s)
  have hok := plNext_ok most s hx
  generalize pkNext most unp s = X at *
  generalize plNext most s = y at *
  obtain ⟨er, id, body, sz⟩ := y
  dsimp only at *
  subst hx
  obtain ⟨hb1, hb2, hb3⟩ := hok
  have hrr := fun h => sUnpack_errs body unp h hy hm
  have HV := Lib.hid (fun w hM => unpackM_ok body unp mg a u t p w (by omega) hM ha hy hm ho ht)
  have hX2 := HX.out
  rw [if_neg (by simp), if_neg (by rw [hy]; simp), if_neg (by omega)] at hX2
  generalize (sSize body).1 = n at *
  generalize sUnpack body unp = r at *
  obtain ⟨re, l⟩ := r
  dsimp only at *
  generalize (⟨l.toArray⟩ : ByteArray) = T at *
  have hmlt := hM.lt
  clear hy hm ho ht HX
  rcases beq0 re with ⟨r0, r1, r2⟩ | ⟨r0, r1, r2⟩
  · subst r0
    rw [if_neg (by simp)] at hX2
    have HE := Lib.hid hX2
    clear hX2 hrr
    go_enter Tryz.func77, Tryz.ntmps77
    go_wp2_with fail
    refine (HN.out _).mono ?_
    rintro e w1 ⟨rfl, hb1⟩
    have hF8 : Blk w1 w.heap.size 27 #[.int .u64 0, .string ⟨#[]⟩, .string ⟨#[]⟩] := (hb1.block w.heap.size (by simp)).trans (Blk.new w _ _)
    have hO1 : Only [] w w1 := ((Only.refl [] w).alloc _).trans' (Only.of_below hb1 (Nat.le_refl _)) (by simp)
    have hz1 : w.heap.size < w1.heap.size := by have := hb1.size; simp at this; omega
    clear hb1
    dsimp only
    have hM1 := hM.only hO1 (by simp)
    have c0 := hF8.cell 0
    have c1 := hF8.cell 1
    have c2 := hF8.cell 2
    have f0 := hF8.frozen 0
    have f1 := hF8.frozen 1
    have f2 := hF8.frozen 2
    simp at c0 c1 c2
    go_wp2_with fail
    refine (HV.out _ (hM1.alloc _)).mono ?_
    rintro e w2 ⟨rfl, hM2, ho2⟩
    have hz2 := ho2.size
    simp only [World.size_alloc] at hz2
    have hF2 := (hF8.alloc _).only ho2 (by simp; omega)
    have hF11 := (Blk.new w1 27 #[.int .u64 id, .string ⟨#[]⟩, .string body]).only ho2 (by simp; omega)
    have hO2 : Only [mg] w w2 := ((hO1.mono (by simp)).alloc _).trans ho2
    clear c0 c1 c2 f0 f1 f2
    have d0 := hF11.cell 2
    have d1 := hF11.frozen 2
    have hF11' := hF11.set 2 (.string T)
    have hF2' := hF2.far (p := ⟨w1.heap.size, 2, none⟩) (by simp; omega) (.string T)
    have e0 := hF11'.cell 0
    have e1 := hF11'.cell 1
    have e2 := hF11'.cell 2
    have c0 := hF2'.cell 0
    have c1 := hF2'.cell 1
    have c2 := hF2'.cell 2
    have f0 := hF2'.frozen 0
    have f1 := hF2'.frozen 1
    have f2 := hF2'.frozen 2
    simp at c0 c1 c2 d0 e0 e1 e2
    go_wp2
    refine bodyPost_ret (v := .tuple #[.agg #[.int .u64 id, .string ByteArray.empty, .string T], .int .i64 sz, .int .i64 0]) (by simp [results, Tryz.results77, go_sem, empB, set3_at hF2']) rfl ?_
    refine ⟨pkRet_of HE.out rfl, ⟨max p (u + n), ?_⟩, ?_⟩
    · exact (((hM2.far (p := ⟨w1.heap.size, 2, none⟩) (by simp; omega) _).far (by simp; omega) _).far (by simp; omega) _).far (by simp; omega) _
    · exact (by repeat (first | exact Only.refl _ _ | assumption | with_reducible refine Only.drewN ?_ _ | with_reducible refine Only.drew ?_ | with_reducible refine Only.alloc ?_ _ | ((with_reducible refine Only.put ?_ ?_ _); · (first | omega | (simp <;> omega)))))
  · rw [if_pos r0] at hX2
    have HE := Lib.hid hX2
    have HT : Hid (∀ w, Calls Tryz.prog 120 #[.int .i64 re] w fun e w' => e = .returned (.int .i64 3) ∧ Below w.heap.size w w') := Lib.hid (fun w => (turned_c re w (by have := hrr r0; omega) (by have := hrr r0; omega)).mono fun e w' ⟨he, hb⟩ => ⟨by rw [he]; rcases hrr r0 with h | h <;> subst h <;> rfl, hb⟩)
    clear hX2 hrr r0
    go_enter Tryz.func77, Tryz.ntmps77
    go_wp2_with fail
    refine (HN.out _).mono ?_
    rintro e w1 ⟨rfl, hb1⟩
    have hF8 : Blk w1 w.heap.size 27 #[.int .u64 0, .string ⟨#[]⟩, .string ⟨#[]⟩] := (hb1.block w.heap.size (by simp)).trans (Blk.new w _ _)
    have hO1 : Only [] w w1 := ((Only.refl [] w).alloc _).trans' (Only.of_below hb1 (Nat.le_refl _)) (by simp)
    have hz1 : w.heap.size < w1.heap.size := by have := hb1.size; simp at this; omega
    clear hb1
    dsimp only
    have hM1 := hM.only hO1 (by simp)
    have c0 := hF8.cell 0
    have c1 := hF8.cell 1
    have c2 := hF8.cell 2
    have f0 := hF8.frozen 0
    have f1 := hF8.frozen 1
    have f2 := hF8.frozen 2
    simp at c0 c1 c2
    go_wp2_with fail
    refine (HV.out _ (hM1.alloc _)).mono ?_
    rintro e w2 ⟨rfl, hM2, ho2⟩
    have hz2 := ho2.size
    simp only [World.size_alloc] at hz2
    have hF2 := (hF8.alloc _).only ho2 (by simp; omega)
    have hO2 : Only [mg] w w2 := ((hO1.mono (by simp)).alloc _).trans ho2
    clear c0 c1 c2 f0 f1 f2
    go_wp2_with fail
    refine (HT.out _).mono ?_
    rintro e w3 ⟨rfl, hb3⟩
    have hO3 : Only [mg] w w3 := hO2.trans (Only.of_below hb3 (Nat.le_refl _) |>.mono (by simp))
    have hM3 : Mtr w3 mg a _ _ _ := hM2.only (Only.of_below hb3 (Nat.le_refl _)) (by simp)
    have hF9 : Blk w3 w.heap.size 27 #[.int .u64 0, .string ⟨#[]⟩, .string ⟨#[]⟩] := (hb3.block w.heap.size (by omega)).trans hF2
    have c0 := hF9.cell 0
    have c1 := hF9.cell 1
    have c2 := hF9.cell 2
    have f0 := hF9.frozen 0
    have f1 := hF9.frozen 1
    have f2 := hF9.frozen 2
    simp at c0 c1 c2
    go_wp2
    refine bodyPost_ret (v := .tuple #[.agg #[.int .u64 0, .string ByteArray.empty, .string ByteArray.empty], .int .i64 0, .int .i64 3]) (by simp [results, Tryz.results77, go_sem, empB, set3_at hF9]) rfl ?_
    refine ⟨pkRet_of HE.out rfl, ⟨max p (u + n), ?_⟩, ?_⟩
    · exact ((hM3.far (by simp; omega) _).far (by simp; omega) _).far (by simp; omega) _
    · exact (by repeat (first | exact Only.refl _ _ | assumption | with_reducible refine Only.drewN ?_ _ | with_reducible refine Only.drew ?_ | with_reducible refine Only.alloc ?_ _ | ((with_reducible refine Only.put ?_ ?_ _); · (first | omega | (simp <;> omega)))))
def pkRef (x : Int × Nat × ByteArray × Nat × Nat) : Ending := .returned (.tuple #[.agg #[.int .u64 x.2.1, .string ByteArray.empty, .string x.2.2.1], .int .i64 x.2.2.2.1, .int .i64 x.2.2.2.2, .int .i64 x.1])
theorem pkRef_of {x : Int × Nat × ByteArray × Nat × Nat} {a : Int} {b : Nat} {c : ByteArray} {d m : Nat} (h : x = (a, b, c, d, m)) : Ending.returned (.tuple #[.agg #[.int .u64 b, .string ByteArray.empty, .string c], .int .i64 d, .int .i64 m, .int .i64 a]) = pkRef x := by
  subst h; rfl
set_option maxRecDepth 100000 in
set_option maxHeartbeats 2000000 in
theorem refPackedNext_c (most unp : Int) (s : ByteArray) (w : World) (hs : s.size ≤ 9223372036854775807) (hm1 : -9223372036854775808 ≤ most) (hm2 : most ≤ 9223372036854775807) :
    Calls Tryz.prog 54 #[.int .i64 most, .int .i64 unp, .string s] w fun e w' => e = pkRef (pkNext most unp s) ∧ Below w.heap.size w w' := by
  have HN := Lib.hid (fun w => refPlainNext_c most s w hs hm1 hm2)
  have HX := Lib.hid (pkNext_eq most unp s)
  have her := plNext_err most s
  have hok := plNext_ok most s
  generalize pkNext most unp s = X at *
  generalize plNext most s = y at *
  obtain ⟨er, id, body, sz⟩ := y
  dsimp only at *
  rcases beq0 er with ⟨h0, h1, h2⟩ | ⟨h0, h1, h2⟩
  · subst h0
    obtain ⟨hb1, hb2, hb3⟩ := hok rfl
    clear her hok
    have HU := Lib.hid (fun w => refSize_c body w (by omega))
    have HV := Lib.hid (fun w => refUnpack_c body unp w (by omega))
    have hes := sSize_errs body
    generalize sUnpack body unp = r at *
    generalize sSize body = z at *
    obtain ⟨n, hd, es⟩ := z
    obtain ⟨re, l⟩ := r
    dsimp only at *
    rcases beq0 es with ⟨g0, g1, g2⟩ | ⟨g0, g1, g2⟩
    · subst g0
      by_cases hun : unp < n
      · have HE := Lib.hid (by have := HX.out; rw [if_neg (by simp), if_neg (by simp), if_pos hun] at this; exact this)
        clear HX hes HV
        go_enter Tryz.func54, Tryz.ntmps54
        go_wp2_with fail
        refine (HN.out _).mono ?_
        rintro e w1 ⟨rfl, hb1⟩
        have hF8 : Blk w1 w.heap.size 27 #[.int .u64 0, .string ⟨#[]⟩, .string ⟨#[]⟩] := (hb1.block w.heap.size (by simp)).trans (Blk.new w _ _)
        have hO1 : Below w.heap.size w w1 := ((Below.refl _ _).alloc (Nat.le_refl _) _).trans (hb1.mono (by simp))
        have hz1 : w.heap.size < w1.heap.size := by have := hb1.size; simp at this; omega
        clear hb1
        dsimp only
        have c0 := hF8.cell 0
        have c1 := hF8.cell 1
        have c2 := hF8.cell 2
        have f0 := hF8.frozen 0
        have f1 := hF8.frozen 1
        have f2 := hF8.frozen 2
        simp at c0 c1 c2
        go_wp2_with fail
        refine (HU.out _).mono ?_
        rintro e w' ⟨rfl, rfl⟩
        go_wp2
        refine bodyPost_ret (v := .tuple #[.agg #[.int .u64 0, .string ByteArray.empty, .string ByteArray.empty], .int .i64 0, .int .i64 0, .int .i64 5]) (by simp [results, Tryz.results54, go_sem, empB, set3_al hF8]) rfl ?_
        refine ⟨pkRef_of HE.out, ?_⟩
        exact (((hO1.setCell (by simp) _).setCell (by simp) _).setCell (by simp) _).alloc (by simp; omega) _
      · have hX2 := HX.out
        rw [if_neg (by simp), if_neg (by simp), if_neg hun] at hX2
        generalize (⟨l.toArray⟩ : ByteArray) = T at *
        have d1 : decide (unp < (n : Int)) = false := decide_eq_false hun
        have hun' : (n : Int) ≤ unp := by omega
        clear HX hes
        rcases beq0 re with ⟨r0, r1, r2⟩ | ⟨r0, r1, r2⟩
        · subst r0
          rw [if_neg (by simp)] at hX2
          have HE := Lib.hid hX2
          clear hX2 hun
          go_enter Tryz.func54, Tryz.ntmps54
          go_wp2_with fail
          refine (HN.out _).mono ?_
          rintro e w1 ⟨rfl, hb1⟩
          have hF8 : Blk w1 w.heap.size 27 #[.int .u64 0, .string ⟨#[]⟩, .string ⟨#[]⟩] := (hb1.block w.heap.size (by simp)).trans (Blk.new w _ _)
          have hO1 : Below w.heap.size w w1 := ((Below.refl _ _).alloc (Nat.le_refl _) _).trans (hb1.mono (by simp))
          have hz1 : w.heap.size < w1.heap.size := by have := hb1.size; simp at this; omega
          clear hb1
          dsimp only
          have c0 := hF8.cell 0
          have c1 := hF8.cell 1
          have c2 := hF8.cell 2
          have f0 := hF8.frozen 0
          have f1 := hF8.frozen 1
          have f2 := hF8.frozen 2
          simp at c0 c1 c2
          go_wp2_with fail
          refine (HU.out _).mono ?_
          rintro e w' ⟨rfl, rfl⟩
          go_wp2_with fail
          refine (HV.out _).mono ?_
          rintro e w2 ⟨rfl, hb2⟩
          have hz2 := hb2.size
          simp only [World.size_alloc] at hz2
          have hF9 : Blk w2 w.heap.size 27 #[.int .u64 0, .string ⟨#[]⟩, .string ⟨#[]⟩] := (hb2.block w.heap.size (by simp; omega)).trans (hF8.alloc _)
          have hF11 : Blk w2 w1.heap.size 27 #[.int .u64 id, .string ⟨#[]⟩, .string body] := (hb2.block w1.heap.size (by simp)).trans (Blk.new w1 _ _)
          have hO2 : Below w.heap.size w w2 := (hO1.alloc (by omega) _).trans (hb2.mono (by simp; omega))
          clear c0 c1 c2 f0 f1 f2
          have c0 := hF9.cell 0
          have c1 := hF9.cell 1
          have c2 := hF9.cell 2
          have f0 := hF9.frozen 0
          have f1 := hF9.frozen 1
          have f2 := hF9.frozen 2
          have d0 := hF11.cell 0
          have d2 := hF11.cell 1
          have d3 := hF11.cell 2
          simp at c0 c1 c2 d0 d2 d3
          go_wp2
          refine bodyPost_ret (v := .tuple #[.agg #[.int .u64 id, .string ByteArray.empty, .string T], .int .i64 sz, .int .i64 n, .int .i64 0]) (by simp [results, Tryz.results54, go_sem, empB, set3_at hF9]) rfl ?_
          refine ⟨pkRef_of HE.out, ?_⟩
          exact ((hO2.setCell (by simp) _).setCell (by simp) _).setCell (by simp) _
        · rw [if_pos r0] at hX2
          have HE := Lib.hid hX2
          clear hX2 hun r0
          go_enter Tryz.func54, Tryz.ntmps54
          go_wp2_with fail
          refine (HN.out _).mono ?_
          rintro e w1 ⟨rfl, hb1⟩
          have hF8 : Blk w1 w.heap.size 27 #[.int .u64 0, .string ⟨#[]⟩, .string ⟨#[]⟩] := (hb1.block w.heap.size (by simp)).trans (Blk.new w _ _)
          have hO1 : Below w.heap.size w w1 := ((Below.refl _ _).alloc (Nat.le_refl _) _).trans (hb1.mono (by simp))
          have hz1 : w.heap.size < w1.heap.size := by have := hb1.size; simp at this; omega
          clear hb1
          dsimp only
          have c0 := hF8.cell 0
          have c1 := hF8.cell 1
          have c2 := hF8.cell 2
          have f0 := hF8.frozen 0
          have f1 := hF8.frozen 1
          have f2 := hF8.frozen 2
          simp at c0 c1 c2
          go_wp2_with fail
          refine (HU.out _).mono ?_
          rintro e w' ⟨rfl, rfl⟩
          go_wp2_with fail
          refine (HV.out _).mono ?_
          rintro e w2 ⟨rfl, hb2⟩
          have hz2 := hb2.size
          simp only [World.size_alloc] at hz2
          have hF9 : Blk w2 w.heap.size 27 #[.int .u64 0, .string ⟨#[]⟩, .string ⟨#[]⟩] := (hb2.block w.heap.size (by simp; omega)).trans (hF8.alloc _)
          have hO2 : Below w.heap.size w w2 := (hO1.alloc (by omega) _).trans (hb2.mono (by simp; omega))
          clear c0 c1 c2 f0 f1 f2
          have c0 := hF9.cell 0
          have c1 := hF9.cell 1
          have c2 := hF9.cell 2
          have f0 := hF9.frozen 0
          have f1 := hF9.frozen 1
          have f2 := hF9.frozen 2
          simp at c0 c1 c2
          go_wp2
          refine bodyPost_ret (v := .tuple #[.agg #[.int .u64 0, .string ByteArray.empty, .string ByteArray.empty], .int .i64 0, .int .i64 n, .int .i64 3]) (by simp [results, Tryz.results54, go_sem, empB, set3_at hF9]) rfl ?_
          refine ⟨pkRef_of HE.out, ?_⟩
          exact ((hO2.setCell (by simp) _).setCell (by simp) _).setCell (by simp) _
    · have hX2 := HX.out
      rw [if_neg (by simp), if_pos g0] at hX2
      have HG := Lib.hid (hes g0)
      clear HX hes HV
      by_cases h5 : es = 5
      · subst h5
        rw [if_pos rfl] at hX2
        have HE := Lib.hid hX2
        clear hX2 g0 g1 g2
        go_enter Tryz.func54, Tryz.ntmps54
        go_wp2_with fail
        refine (HN.out _).mono ?_
        rintro e w1 ⟨rfl, hb1⟩
        have hF8 : Blk w1 w.heap.size 27 #[.int .u64 0, .string ⟨#[]⟩, .string ⟨#[]⟩] := (hb1.block w.heap.size (by simp)).trans (Blk.new w _ _)
        have hO1 : Below w.heap.size w w1 := ((Below.refl _ _).alloc (Nat.le_refl _) _).trans (hb1.mono (by simp))
        have hz1 : w.heap.size < w1.heap.size := by have := hb1.size; simp at this; omega
        clear hb1
        dsimp only
        have c0 := hF8.cell 0
        have c1 := hF8.cell 1
        have c2 := hF8.cell 2
        have f0 := hF8.frozen 0
        have f1 := hF8.frozen 1
        have f2 := hF8.frozen 2
        simp at c0 c1 c2
        go_wp2_with fail
        refine (HU.out _).mono ?_
        rintro e w' ⟨rfl, rfl⟩
        go_wp2
        refine bodyPost_ret (v := .tuple #[.agg #[.int .u64 0, .string ByteArray.empty, .string ByteArray.empty], .int .i64 0, .int .i64 0, .int .i64 5]) (by simp [results, Tryz.results54, go_sem, empB, set3_al hF8]) rfl ?_
        refine ⟨pkRef_of HE.out, ?_⟩
        exact (((hO1.setCell (by simp) _).setCell (by simp) _).setCell (by simp) _).alloc (by simp; omega) _
      · rw [if_neg h5] at hX2
        have HE := Lib.hid hX2
        have g5 : (es == 5) = false := beq_eq_false_iff_ne.2 h5
        clear hX2 g0 h5
        go_enter Tryz.func54, Tryz.ntmps54
        go_wp2_with fail
        refine (HN.out _).mono ?_
        rintro e w1 ⟨rfl, hb1⟩
        have hF8 : Blk w1 w.heap.size 27 #[.int .u64 0, .string ⟨#[]⟩, .string ⟨#[]⟩] := (hb1.block w.heap.size (by simp)).trans (Blk.new w _ _)
        have hO1 : Below w.heap.size w w1 := ((Below.refl _ _).alloc (Nat.le_refl _) _).trans (hb1.mono (by simp))
        have hz1 : w.heap.size < w1.heap.size := by have := hb1.size; simp at this; omega
        clear hb1
        dsimp only
        have c0 := hF8.cell 0
        have c1 := hF8.cell 1
        have c2 := hF8.cell 2
        have f0 := hF8.frozen 0
        have f1 := hF8.frozen 1
        have f2 := hF8.frozen 2
        simp at c0 c1 c2
        go_wp2_with fail
        refine (HU.out _).mono ?_
        rintro e w' ⟨rfl, rfl⟩
        go_wp2
        refine bodyPost_ret (v := .tuple #[.agg #[.int .u64 0, .string ByteArray.empty, .string ByteArray.empty], .int .i64 0, .int .i64 0, .int .i64 3]) (by simp [results, Tryz.results54, go_sem, empB, set3_al hF8]) rfl ?_
        refine ⟨pkRef_of HE.out, ?_⟩
        exact (((hO1.setCell (by simp) _).setCell (by simp) _).setCell (by simp) _).alloc (by simp; omega) _
  · obtain ⟨_, rfl, rfl, rfl⟩ : er = er ∧ id = 0 ∧ body = ByteArray.empty ∧ sz = 0 := by have := her h0; simpa using this
    have HE := Lib.hid (by have := HX.out; rw [if_pos h0] at this; exact this)
    clear HX her hok h0
    go_enter Tryz.func54, Tryz.ntmps54
    go_wp2_with fail
    refine (HN.out _).mono ?_
    rintro e w1 ⟨rfl, hb1⟩
    have hF8 : Blk w1 w.heap.size 27 #[.int .u64 0, .string ⟨#[]⟩, .string ⟨#[]⟩] := (hb1.block w.heap.size (by simp)).trans (Blk.new w _ _)
    have hO1 : Below w.heap.size w w1 := ((Below.refl _ _).alloc (Nat.le_refl _) _).trans (hb1.mono (by simp))
    have hz1 : w.heap.size < w1.heap.size := by have := hb1.size; simp at this; omega
    clear hb1
    dsimp only
    have c0 := hF8.cell 0
    have c1 := hF8.cell 1
    have c2 := hF8.cell 2
    have f0 := hF8.frozen 0
    have f1 := hF8.frozen 1
    have f2 := hF8.frozen 2
    simp at c0 c1 c2
    go_wp2
    refine bodyPost_ret (v := .tuple #[.agg #[.int .u64 0, .string ByteArray.empty, .string ByteArray.empty], .int .i64 0, .int .i64 0, .int .i64 er]) (by simp [results, Tryz.results54, go_sem, empB, set3_al hF8]) rfl ?_
    refine ⟨pkRef_of HE.out, ?_⟩
    exact (((hO1.setCell (by simp) _).setCell (by simp) _).setCell (by simp) _).alloc (by simp; omega) _
end Go.Proofs.YtebllmpdlapefaaGreatDoor
namespace Go.Proofs.YtebllmpdlapefaaGreatDoor
set_option linter.unusedVariables false
set_option linter.unusedSimpArgs false
open Go.RowKit Go.Maps

theorem pk_of (most unp : Int) (s : ByteArray) (h0 : (plNext most s).1 = 0) :
    ((sUnpack (plNext most s).2.2.1 unp).1 = 0 → (pkNext most unp s).1 = 0 ∧ (pkNext most unp s).2.1 = (plNext most s).2.1 ∧ (pkNext most unp s).2.2.1 = ⟨(sUnpack (plNext most s).2.2.1 unp).2.toArray⟩ ∧ (pkNext most unp s).2.2.2.1 = (plNext most s).2.2.2) ∧
    ((sUnpack (plNext most s).2.2.1 unp).1 ≠ 0 → (pkNext most unp s).1 = (if (sUnpack (plNext most s).2.2.1 unp).1 = 2 then 3 else (sUnpack (plNext most s).2.2.1 unp).1) ∧ (pkNext most unp s).2.1 = 0 ∧ (pkNext most unp s).2.2.1 = ByteArray.empty ∧ (pkNext most unp s).2.2.2.1 = 0) := by
  rw [pkNext_eq, if_neg (by rw [h0]; simp)]
  have hes := sSize_errs (plNext most s).2.2.1
  have hue := fun h => sUnpack_errs (plNext most s).2.2.1 unp h
  generalize (plNext most s).2.2.1 = b at *
  have hz : sUnpack b unp = if (sSize b).2.2 ≠ 0 then ((sSize b).2.2, []) else if unp < (sSize b).1 then (5, []) else sElems (b.extract (sSize b).2.1 b.size) (sSize b).1 := rfl
  by_cases h1 : (sSize b).2.2 ≠ 0
  · rw [if_pos h1] at hz
    rw [if_pos h1, hz]
    refine ⟨fun h => absurd h h1, fun _ => ⟨?_, rfl, rfl, rfl⟩⟩
    rcases hes h1 with h | h | h <;> rw [h] <;> rfl
  · rw [if_neg h1] at hz
    rw [if_neg h1]
    have h1 := Decidable.not_not.1 h1
    by_cases h2 : unp < (sSize b).1
    · rw [if_pos h2] at hz
      rw [if_pos h2, hz]
      exact ⟨(fun h => by cases h), (fun _ => ⟨rfl, rfl, rfl, rfl⟩)⟩
    · rw [if_neg h2]
      by_cases h3 : (sUnpack b unp).1 ≠ 0
      · rw [if_pos h3]
        refine ⟨fun h => absurd h h3, fun _ => ⟨?_, rfl, rfl, rfl⟩⟩
        rcases hue h3 h1 (by omega) with h | h <;> rw [h] <;> rfl
      · rw [if_neg h3]
        exact ⟨fun _ => ⟨rfl, rfl, rfl, rfl⟩, fun h => absurd h h3⟩
theorem pkRet_eq {x : Int × Nat × ByteArray × Nat × Nat} {a : Int} {b : Nat} {c : ByteArray} {d : Nat} (h1 : x.1 = a) (h2 : x.2.1 = b) (h3 : x.2.2.1 = c) (h4 : x.2.2.2.1 = d) : Ending.returned (.tuple #[.agg #[.int .u64 b, .string ByteArray.empty, .string c], .int .i64 d, .int .i64 a]) = pkRet x := by
  subst h1; subst h2; subst h3; subst h4; rfl
set_option maxRecDepth 100000 in
set_option maxHeartbeats 2000000 in
theorem packedNext_nil (most unp : Int) (s : ByteArray) (w : World) (hs : s.size ≤ 9223372036854775807) (hm1 : -9223372036854775808 ≤ most) (hm2 : most ≤ 9223372036854775807) :
    Calls Tryz.prog 77 #[.int .i64 most, .int .i64 unp, .pointer none, .string s] w fun e w' => e = pkRet (pkNext most unp s) ∧ Below w.heap.size w w' := by
  have HN := Lib.hid (fun w => plainNext_c most s w hs hm1 hm2)
  have hpk := pk_of most unp s
  have hX := pkNext_eq most unp s
  have her := plNext_err most s
  have hok := plNext_ok most s
  generalize pkNext most unp s = X at *
  generalize plNext most s = y at *
  obtain ⟨er, id, body, sz⟩ := y
  dsimp only at *
  rcases beq0 er with ⟨h0, h1, h2⟩ | ⟨h0, h1, h2⟩
  · subst h0
    obtain ⟨hb1, hb2, hb3⟩ := hok rfl
    obtain ⟨hp1, hp2⟩ := hpk rfl
    clear her hok hX hpk
    have HV := Lib.hid (fun w => unpack_nil body unp w (by omega))
    have hue : (sUnpack body unp).1 ≠ 0 → 0 ≤ (sUnpack body unp).1 ∧ (sUnpack body unp).1 ≤ 12 := fun h => by
      have hz : sUnpack body unp = if (sSize body).2.2 ≠ 0 then ((sSize body).2.2, []) else if unp < (sSize body).1 then (5, []) else sElems (body.extract (sSize body).2.1 body.size) (sSize body).1 := rfl
      by_cases g1 : (sSize body).2.2 ≠ 0
      · rw [hz, if_pos g1]; have := sSize_errs body g1; simp only; omega
      · by_cases g2 : unp < (sSize body).1
        · rw [hz, if_neg g1, if_pos g2]; simp
        · have := sUnpack_errs body unp h (Decidable.not_not.1 g1) (by omega); omega
    generalize sUnpack body unp = r at *
    obtain ⟨re, l⟩ := r
    dsimp only at *
    generalize (⟨l.toArray⟩ : ByteArray) = T at *
    rcases beq0 re with ⟨r0, r1, r2⟩ | ⟨r0, r1, r2⟩
    · subst r0
      obtain ⟨e1, e2, e3, e4⟩ := hp1 rfl
      have HE := Lib.hid (pkRet_eq e1 e2 e3 e4)
      clear hp1 hp2 e1 e2 e3 e4 hue
      go_enter Tryz.func77, Tryz.ntmps77
      go_wp2_with fail
      refine (HN.out _).mono ?_
      rintro e w1 ⟨rfl, hb1⟩
      have hF8 : Blk w1 w.heap.size 27 #[.int .u64 0, .string ⟨#[]⟩, .string ⟨#[]⟩] := (hb1.block w.heap.size (by simp)).trans (Blk.new w _ _)
      have hO1 : Only [] w w1 := ((Only.refl [] w).alloc _).trans' (Only.of_below hb1 (Nat.le_refl _)) (by simp)
      have hz1 : w.heap.size < w1.heap.size := by have := hb1.size; simp at this; omega
      clear hb1
      dsimp only
      have c0 := hF8.cell 0
      have c1 := hF8.cell 1
      have c2 := hF8.cell 2
      have f0 := hF8.frozen 0
      have f1 := hF8.frozen 1
      have f2 := hF8.frozen 2
      simp at c0 c1 c2
      go_wp2_with fail
      refine (HV.out _).mono ?_
      rintro e w2 ⟨rfl, hb2⟩
      have hz2 := hb2.size
      simp only [World.size_alloc] at hz2
      have ho2 : Only [] (w1.alloc (.cells #[.int .u64 id, .string ⟨#[]⟩, .string body] 27)) w2 := Only.of_below hb2 (Nat.le_refl _)
      have hF2 := (hF8.alloc _).only ho2 (by simp)
      have hF11 := (Blk.new w1 27 #[.int .u64 id, .string ⟨#[]⟩, .string body]).only ho2 (by simp)
      have hO2 : Only [] w w2 := (hO1.alloc _).trans ho2
      clear c0 c1 c2 f0 f1 f2
      have d0 := hF11.cell 2
      have d1 := hF11.frozen 2
      have hF11' := hF11.set 2 (.string T)
      have hF2' := hF2.far (p := ⟨w1.heap.size, 2, none⟩) (by simp; omega) (.string T)
      have e0 := hF11'.cell 0
      have e1 := hF11'.cell 1
      have e2 := hF11'.cell 2
      have c0 := hF2'.cell 0
      have c1 := hF2'.cell 1
      have c2 := hF2'.cell 2
      have f0 := hF2'.frozen 0
      have f1 := hF2'.frozen 1
      have f2 := hF2'.frozen 2
      simp at c0 c1 c2 d0 e0 e1 e2
      have hbw : Below w.heap.size w w2 := hO2.below (Nat.le_refl _) (by simp)
      go_wp2
      refine bodyPost_ret (v := .tuple #[.agg #[.int .u64 id, .string ByteArray.empty, .string T], .int .i64 sz, .int .i64 0]) (by simp [results, Tryz.results77, go_sem, empB, set3_at hF2']) rfl ?_
      exact ⟨HE.out, (((hbw.setCell (by simp; omega) _).setCell (by simp) _).setCell (by simp) _).setCell (by simp) _⟩
    · obtain ⟨e1, e2, e3, e4⟩ := hp2 r0
      have HE := Lib.hid (pkRet_eq e1 e2 e3 e4)
      have HT := Lib.hid (fun w => turned_c re w (hue r0).1 (by have := (hue r0).2; omega))
      generalize (if re = 2 then (3 : Int) else re) = t at *
      clear hp1 hp2 e1 e2 e3 e4 hue r0
      go_enter Tryz.func77, Tryz.ntmps77
      go_wp2_with fail
      refine (HN.out _).mono ?_
      rintro e w1 ⟨rfl, hb1⟩
      have hF8 : Blk w1 w.heap.size 27 #[.int .u64 0, .string ⟨#[]⟩, .string ⟨#[]⟩] := (hb1.block w.heap.size (by simp)).trans (Blk.new w _ _)
      have hO1 : Only [] w w1 := ((Only.refl [] w).alloc _).trans' (Only.of_below hb1 (Nat.le_refl _)) (by simp)
      have hz1 : w.heap.size < w1.heap.size := by have := hb1.size; simp at this; omega
      clear hb1
      dsimp only
      have c0 := hF8.cell 0
      have c1 := hF8.cell 1
      have c2 := hF8.cell 2
      have f0 := hF8.frozen 0
      have f1 := hF8.frozen 1
      have f2 := hF8.frozen 2
      simp at c0 c1 c2
      go_wp2_with fail
      refine (HV.out _).mono ?_
      rintro e w2 ⟨rfl, hb2⟩
      have hz2 := hb2.size
      simp only [World.size_alloc] at hz2
      have hF2 := (hF8.alloc _).only (Only.of_below hb2 (Nat.le_refl _)) (by simp)
      have hO2 : Only [] w w2 := (hO1.alloc _).trans (Only.of_below hb2 (Nat.le_refl _))
      clear c0 c1 c2 f0 f1 f2
      go_wp2_with fail
      refine (HT.out _).mono ?_
      rintro e w3 ⟨rfl, hb3⟩
      have hO3 : Only [] w w3 := hO2.trans (Only.of_below hb3 (Nat.le_refl _))
      have hbw : Below w.heap.size w w3 := hO3.below (Nat.le_refl _) (by simp)
      have hF9 : Blk w3 w.heap.size 27 #[.int .u64 0, .string ⟨#[]⟩, .string ⟨#[]⟩] := (hb3.block w.heap.size (by omega)).trans hF2
      have c0 := hF9.cell 0
      have c1 := hF9.cell 1
      have c2 := hF9.cell 2
      have f0 := hF9.frozen 0
      have f1 := hF9.frozen 1
      have f2 := hF9.frozen 2
      simp at c0 c1 c2
      go_wp2
      refine bodyPost_ret (v := .tuple #[.agg #[.int .u64 0, .string ByteArray.empty, .string ByteArray.empty], .int .i64 0, .int .i64 t]) (by simp [results, Tryz.results77, go_sem, empB, set3_at hF9]) rfl ?_
      exact ⟨HE.out, ((hbw.setCell (by simp) _).setCell (by simp) _).setCell (by simp) _⟩
  · obtain ⟨_, rfl, rfl, rfl⟩ : er = er ∧ id = 0 ∧ body = ByteArray.empty ∧ sz = 0 := by have := her h0; simpa using this
    have HE := Lib.hid (by have := hX; rw [if_pos h0] at this; exact this)
    clear hX her hok h0 hpk
    go_enter Tryz.func77, Tryz.ntmps77
    go_wp2_with fail
    refine (HN.out _).mono ?_
    rintro e w1 ⟨rfl, hb1⟩
    have hF8 : Blk w1 w.heap.size 27 #[.int .u64 0, .string ⟨#[]⟩, .string ⟨#[]⟩] := (hb1.block w.heap.size (by simp)).trans (Blk.new w _ _)
    have hO1 : Only [] w w1 := ((Only.refl [] w).alloc _).trans' (Only.of_below hb1 (Nat.le_refl _)) (by simp)
    have hz1 : w.heap.size < w1.heap.size := by have := hb1.size; simp at this; omega
    clear hb1
    dsimp only
    have hbw : Below w.heap.size w w1 := hO1.below (Nat.le_refl _) (by simp)
    have c0 := hF8.cell 0
    have c1 := hF8.cell 1
    have c2 := hF8.cell 2
    have f0 := hF8.frozen 0
    have f1 := hF8.frozen 1
    have f2 := hF8.frozen 2
    simp at c0 c1 c2
    go_wp2
    refine bodyPost_ret (v := .tuple #[.agg #[.int .u64 0, .string ByteArray.empty, .string ByteArray.empty], .int .i64 0, .int .i64 er]) (by simp [results, Tryz.results77, go_sem, empB, set3_al hF8]) rfl ?_
    refine ⟨pkRet_of HE.out rfl, ?_⟩
    first
      | exact (((hbw.setCell (by simp) _).setCell (by simp) _).setCell (by simp) _).alloc (by have := hbw.size; simp; omega) _
      | exact ((hbw.setCell (by simp) _).setCell (by simp) _).setCell (by simp) _
set_option maxRecDepth 100000 in
set_option maxHeartbeats 1000000 in
theorem plainPut_over (id : Nat) (body : ByteArray) (w : World) (hid : id < 18446744073709551616) (hb : 65536 < (lebL id).length + body.size) (hs : body.size ≤ 1000000) :
    Calls Tryz.prog 70 #[.int .u64 id, .string body] w fun e w' => e = .returned (.tuple #[.string ByteArray.empty, .int .i64 5]) ∧ Below w.heap.size w w' := by
  have HS := Lib.hid (lebSize_c id w hid)
  have h1 := lebL_length 10 id (by omega) (by omega)
  generalize (lebL id).length = li at *
  have h2 : (65536 : Int) < (li : Int) + body.size := by omega
  go_enter Tryz.func70, Tryz.ntmps70
  go_wp2_with fail
  refine HS.out.mono ?_
  rintro e w' ⟨rfl, rfl⟩
  go_wp2
  go_ret2
  exact ⟨rfl, Below.refl _ _⟩
/-- packed.Put of any body that squeeze packs. -/
def pkPutS (id : Nat) (body : ByteArray) : ByteArray := if 65536 < (lebL id).length + (pack body.data.toList).length then ByteArray.empty else ⟨(plPut id (pack body.data.toList)).toArray⟩
def pkPutE (id : Nat) (body : ByteArray) : Int := if 65536 < (lebL id).length + (pack body.data.toList).length then 5 else 0
set_option maxRecDepth 100000 in
set_option maxHeartbeats 1000000 in
theorem packedPut_any (id : Nat) (body : ByteArray) (w : World) (hid : id < 18446744073709551616) (hb : body.size ≤ 65536) :
    Calls Tryz.prog 75 #[.int .u64 id, .string body] w fun e w' => e = .returned (.tuple #[.string (pkPutS id body), .int .i64 (pkPutE id body)]) ∧ Below w.heap.size w w' := by
  have HA := Lib.hid (fun w => pack_c body w hb)
  have h2 := pack_length body.data.toList (by rw [toList_size]; omega)
  rw [toList_size] at h2
  have hz : (⟨(pack body.data.toList).toArray⟩ : ByteArray).size = (pack body.data.toList).length := size_of _
  have HB : Hid (∀ w, Calls Tryz.prog 70 #[.int .u64 id, .string ⟨(pack body.data.toList).toArray⟩] w fun e w' => e = .returned (.tuple #[.string (pkPutS id body), .int .i64 (pkPutE id body)]) ∧ Below w.heap.size w w') := Lib.hid (fun w => by
    unfold pkPutS pkPutE
    by_cases h : 65536 < (lebL id).length + (pack body.data.toList).length
    · rw [if_pos h, if_pos h]
      exact plainPut_over id ⟨(pack body.data.toList).toArray⟩ w hid (by rw [hz]; exact h) (by rw [hz]; omega)
    · rw [if_neg h, if_neg h]
      exact plainPut_c id ⟨(pack body.data.toList).toArray⟩ w hid (by rw [hz]; omega))
  generalize (⟨(pack body.data.toList).toArray⟩ : ByteArray) = B at *
  generalize pkPutS id body = S at *
  generalize pkPutE id body = E at *
  clear h2 hz
  go_enter Tryz.func75, Tryz.ntmps75
  go_wp2_with fail
  refine (HA.out _).mono ?_
  rintro e w1 ⟨rfl, hb1⟩
  have hz := hb1.size
  go_wp2_with fail
  refine (HB.out _).mono ?_
  rintro e w2 ⟨rfl, hb2⟩
  go_wp2
  go_ret2
  exact ⟨rfl, hb1.trans (hb2.mono hz)⟩
end Go.Proofs.YtebllmpdlapefaaGreatDoor
