/- item.Read. -/
import Derived.Test.YtcidcjghglgkhaaItemRead2
namespace Go.Proofs.Ytcidcjghglgkhaa
set_option linter.unusedVariables false
set_option linter.unusedSimpArgs false
open Go.RowKit

/-- How Read ends. -/
def ReadEnd (w : World) (R : Option It) (e : Ending) (w' : World) : Prop :=
  Below w.heap.size w w' ∧ match R with
    | none => e = .returned (.tuple #[.agg #[.string ⟨#[]⟩, .bool false, .slice none 0 0], .int .i64 3])
    | some x => ∃ c0 c1 c2, e = .returned (.tuple #[.agg #[c0, c1, c2], .int .i64 0]) ∧ ItS w' (w.heap.size ≤ ·) x c0 c1 c2
theorem readIt_none {l : List UInt8} (h : pItem 16 1024 l = none) : readIt l = none := by rw [readIt_p, h]
theorem readIt_part {l : List UInt8} {x : It} {c : UInt8} {r : List UInt8} {n : Nat} (h : pItem 16 1024 l = some (x, c :: r, n)) : readIt l = none := by rw [readIt_p, h]
theorem readIt_whole {l : List UInt8} {x : It} {n : Nat} (h : pItem 16 1024 l = some (x, [], n)) : readIt l = some x := by rw [readIt_p, h]
set_option maxRecDepth 100000 in
set_option maxHeartbeats 800000 in
theorem read_c (s : ByteArray) (w : World) (hs : s.size ≤ 1099511627776) :
    Calls Try.prog 36 #[.string s] w fun e w' => ReadEnd w (readIt s.data.toList) e w' := by
  have hP : Psr ((w.alloc (.cells #[.string ⟨#[]⟩, .bool false, .slice none 0 0] 24)).alloc (.cells #[.string s, .int .i64 0, .int .i64 1024] 88)) (w.heap.size + 1) s 0 1024 := by
    have := Blk.new (w.alloc (.cells #[.string ⟨#[]⟩, .bool false, .slice none 0 0] 24)) 88 #[.string s, .int .i64 0, .int .i64 1024]
    simpa [Psr] using this
  have HC := Lib.hid (item_c 16 1 rfl (w.heap.size + 1) s 0 1024 _ hP (Nat.zero_le _) hs (Nat.le_refl _))
  clear hP
  obtain ⟨T, HT⟩ : ∃ T, Hid (pItem 16 1024 s.data.toList = T) := ⟨_, Lib.hid rfl⟩
  rw [List.drop_zero, HT.out] at HC
  obtain ⟨R, HR⟩ : ∃ R, Hid (readIt s.data.toList = R) := ⟨_, Lib.hid rfl⟩
  rw [HR.out]
  go_enter Try.func36, Try.ntmps36
  go_wp2_with fail
  refine HC.out.mono ?_
  rintro e w4 hend
  cases T with
  | none =>
    obtain ⟨ho, rfl⟩ := hend
    have HE : Hid (R = none) := Lib.hid (by rw [← HR.out, readIt_none HT.out])
    obtain ⟨r0, r1, r2, rf0, rf1, rf2⟩ := blk3 (((Blk.new w 24 #[.string ⟨#[]⟩, .bool false, .slice none 0 0]).alloc _).only ho (by simp))
    have hz := ho.size
    simp only [World.size_alloc] at hz
    have hlw : w.heap.size < w4.heap.size := by omega
    have HO4 : Hid (Only [] w w4) := Lib.hid ((((Only.refl [] w).alloc _).alloc _).trans' ho (by simp))
    clear ho
    go_wp2
    refine bodyPost_ret (v := .tuple #[.agg #[.string ⟨#[]⟩, .bool false, .slice none 0 0], .int .i64 3]) (by simp [results, Try.results36, go_sem, r0, r1, r2, World.cell?_alloc_lt, hlw]) rfl ?_
    rw [HE.out]
    exact ⟨(((Only.put (L := []) (by simp) (Only.put (L := []) (by simp) (Only.put (L := []) (by simp) HO4.out _) _) _)).alloc _).below (Nat.le_refl _) (by simp), rfl⟩
  | some z =>
    obtain ⟨x, r, n⟩ := z
    obtain ⟨ho, c0, c1, c2, rfl, hy, hps⟩ := hend
    have HE := Lib.hid (pItem_cut HT.out)
    obtain ⟨r0, r1, r2, rf0, rf1, rf2⟩ := blk3 (((Blk.new w 24 #[.string ⟨#[]⟩, .bool false, .slice none 0 0]).alloc _).only ho (by simp))
    have hz := ho.size
    simp only [World.size_alloc] at hz
    have hlw : w.heap.size < w4.heap.size := by omega
    have hlw1 : w.heap.size + 1 < w4.heap.size := by omega
    have HO4 : Hid (Only [] w w4) := Lib.hid ((((Only.refl [] w).alloc _).alloc _).trans' ho (by simp))
    have HY := Lib.hid hy
    obtain ⟨AA, ccap, rfl, rfl, rfl, _⟩ := hy.open_
    obtain ⟨g0, g1, g2, f0, f1, f2, hlg⟩ := hps.cells
    clear ho hy hps
    cases r with
    | cons c r =>
      have hlt : s.size - (r.length + 1) < s.size := by
        obtain ⟨k, k1, k2, k3, _⟩ := HE.out
        have := congrArg List.length k3
        rw [List.length_drop, toList_size, List.length_cons] at this
        rw [toList_size] at k2
        omega
      have HE : Hid (R = none) := Lib.hid (by rw [← HR.out, readIt_part HT.out])
      simp only [List.length_cons] at g1
      generalize s.size - (r.length + 1) = q at *
      go_wp2
      refine bodyPost_ret (v := .tuple #[.agg #[.string ⟨#[]⟩, .bool false, .slice none 0 0], .int .i64 3]) (by simp [results, Try.results36, go_sem, r0, r1, r2, World.cell?_alloc_lt, hlw]) rfl ?_
      rw [HE.out]
      exact ⟨(((Only.put (L := []) (by simp) (Only.put (L := []) (by simp) (Only.put (L := []) (by simp) HO4.out _) _) _)).alloc _).below (Nat.le_refl _) (by simp), rfl⟩
    | nil =>
      have HE : Hid (R = some x) := Lib.hid (by rw [← HR.out, readIt_whole HT.out])
      simp only [List.length_nil, Nat.sub_zero] at g1
      go_wp2
      refine bodyPost_ret (v := .tuple #[.agg #[.string x.text, .bool x.list, .slice AA x.sub.length ccap], .int .i64 0]) (by simp [results, Try.results36, go_sem, r0, r1, r2, World.cell?_alloc_lt, hlw]) rfl ?_
      rw [HE.out]
      refine ⟨(((Only.put (L := []) (by simp) (Only.put (L := []) (by simp) (Only.put (L := []) (by simp) HO4.out _) _) _)).alloc _).below (Nat.le_refl _) (by simp), _, _, _, rfl, ?_⟩
      refine HY.out.only (L := [w.heap.size]) (by repeat (first | exact Only.refl _ _ | assumption | with_reducible refine Only.drewN ?_ _ | with_reducible refine Only.drew ?_ | with_reducible refine Only.alloc ?_ _ | ((with_reducible refine Only.put ?_ ?_ _); · (first | omega | (simp <;> omega))))) ?_ ?_
      · intro k hk hs
        simp at hk hs
        omega
      · intro k _ hs
        simp at hs
        show w.heap.size ≤ k
        omega
end Go.Proofs.Ytcidcjghglgkhaa
