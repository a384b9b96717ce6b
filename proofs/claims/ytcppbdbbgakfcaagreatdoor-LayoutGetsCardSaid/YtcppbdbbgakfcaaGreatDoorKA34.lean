/- layout: a list of values is read: what it holds. -/
import Derived.Test.YtcppbdbbgakfcaaGreatDoorKA35
import Derived.Test.YtcppbdbbgakfcaaGreatDoorKA21
set_option linter.unusedVariables false
set_option linter.unusedSimpArgs false
namespace Go.Proofs.YtcppbdbbgakfcaaGreatDoor
open Go.RowKit
def RdS.pre (acc : List It) (R : RdS) : RdS := ⟨R.e, acc ++ R.xs, R.n, R.q⟩
theorem RdS.pre_nil (R : RdS) : R.pre [] = R := rfl
theorem RdS.pre_cons (acc : List It) (x : It) (R : RdS) : (R.cons x).pre acc = R.pre (acc ++ [x]) := by simp [RdS.pre, RdS.cons]
structure LiR (M : Int) (c : Nat) (s : ByteArray) (T : Nat → Ty) (th : Nat → Nat → Bool) (rest : Nat → Nat → List UInt8 → RdS) : Prop where
 done : ∀ i n r, c ≤ i → rest i n r = ⟨0, [], n, r⟩
 lack : ∀ i n k, i < c → k ≤ s.size → th i k = false → rest i n (s.data.toList.drop k) = ⟨0, [], n, s.data.toList.drop k⟩
 next : ∀ i n k, i < c → k ≤ s.size → th i k = true → rest i n (s.data.toList.drop k) = if ((T i).rd M n (s.data.toList.drop k)).e ≠ 0 then ⟨((T i).rd M n (s.data.toList.drop k)).e, [((T i).rd M n (s.data.toList.drop k)).x], ((T i).rd M n (s.data.toList.drop k)).n, ((T i).rd M n (s.data.toList.drop k)).q⟩ else (rest (i + 1) ((T i).rd M n (s.data.toList.drop k)).n ((T i).rd M n (s.data.toList.drop k)).q).cons ((T i).rd M n (s.data.toList.drop k)).x
theorem LiR.ofN (M : Int) (c : Nat) (s : ByteArray) (a : Ty) : LiR M c s (fun _ => a) (fun _ _ => true) (fun i n r => rdN (fun n r => a.rd M n r) (c - i) n r) where
 done i n r h := by rw [show c - i = 0 from by omega, rdN]
 lack i n k _ _ h := by cases h
 next i n k h _ _ := by rw [show c - i = (c - (i + 1)) + 1 from by omega, rdN]
theorem LiR.ofT (M : Int) (s : ByteArray) (l : List Ty) (ta : Int) (h0 : 0 ≤ ta) : LiR M l.length s (fun i => l[i]?.getD (.mk 0 0 [] 0)) (fun i k => decide ((i : Int) < (l.length : Int) - ta) || decide (k < s.size)) (fun i n r => rdT M (l.drop i) (((l.length : Int) - ta).toNat - i) n r) where
 done i n r h := by rw [List.drop_eq_nil_of_le h, rdT]
 lack i n k h hk hb := by
  rw [List.drop_eq_getElem_cons h, rdT]
  simp only [Bool.or_eq_false_iff, decide_eq_false_iff_not] at hb
  rw [if_pos ⟨by omega, List.drop_eq_nil_of_le (by rw [toList_size]; omega)⟩]
 next i n k h hk hb := by
  rw [List.drop_eq_getElem_cons h, rdT]
  simp only [Bool.or_eq_true, decide_eq_true_eq] at hb
  have hne : k < s.size → s.data.toList.drop k ≠ [] := fun hlt e => by
   have := congrArg List.length e
   rw [List.length_drop, toList_size] at this
   simp at this; omega
  rw [if_neg (by
   rintro ⟨h1, h2⟩
   rcases hb with hb | hb
   ·omega
   ·exact hne hb h2)]
  simp only [List.getElem?_eq_getElem h, Option.getD_some, Nat.sub_sub]
structure LiW (w : World) (g gl fb : Nat) (s : ByteArray) (k : Nat) (f m : Int) (acc : List It) (v : Value) (V : World) : Prop where
 rdg : Blk V w.heap.size 61 (rdgC g gl fb)
 res : Blk V (w.heap.size + 1) 27 #[.string ⟨#[]⟩, .bool false, .slice none 0 0]
 xb : Blk V (w.heap.size + 1 + 1) 27 #[.string ⟨#[]⟩, .bool true, v]
 its : Acc V (w.heap.size + 3) acc v
 st : LyR V g gl fb s k f m
 only : Only [g, gl] w V
 siz : w.heap.size + 3 ≤ V.heap.size
 glt : g < w.heap.size ∧ gl < w.heap.size
 fbl : fb < w.heap.size
theorem LiW.start {w : World} {g gl fb : Nat} {s : ByteArray} {k : Nat} {f m : Int} (h : LyR w g gl fb s k f m) : LiW w g gl fb s k f m [] (.slice none 0 0) (((w.alloc (.cells (rdgC g gl fb) 61)).alloc (.cells #[.string ⟨#[]⟩, .bool false, .slice none 0 0] 27)).alloc (.cells #[.string ⟨#[]⟩, .bool true, .slice none 0 0] 27)) where
 rdg := ((Blk.new w _ _).alloc _).alloc _
 res := Blk.alloc (Blk.at_ (by simp)) _
 xb := Blk.at_ (by simp)
 its := Acc.nil _ _
 st := h.below ((((Below.refl _ w).alloc (Nat.le_refl _) _).alloc (by simp) _).alloc (by simp; omega) _)
 only := (((Only.refl _ w).alloc _).alloc _).alloc _
 siz := by simp
 glt := ⟨h.rdr.lt, h.left.lt⟩
 fbl := h.box.lt
theorem LiW.below {w V V' : World} {g gl fb : Nat} {s : ByteArray} {k : Nat} {f m : Int} {acc : List It} {v : Value} (h : LiW w g gl fb s k f m acc v V) (hb : Below V.heap.size V V') : LiW w g gl fb s k f m acc v V' where
 rdg := (hb.block _ h.rdg.lt).trans h.rdg
 res := (hb.block _ h.res.lt).trans h.res
 xb := (hb.block _ h.xb.lt).trans h.xb
 its := h.its.below hb
 st := h.st.below hb
 only := h.only.trans ((Only.of_below hb (Nat.le_refl _)).mono (by simp))
 siz := Nat.le_trans h.siz hb.size
 glt := h.glt
 fbl := h.fbl
theorem LiW.turn {w V V' : World} {g gl fb : Nat} {s : ByteArray} {k k' : Nat} {f f' m m' : Int} {acc : List It} {v : Value} (h : LiW w g gl fb s k f m acc v V) (ho : Only [g, gl] V V') (hr : LyR V' g gl fb s k' f' m') : LiW w g gl fb s k' f' m' acc v V' where
 rdg := h.rdg.only ho (by have := h.glt; simp; omega)
 res := h.res.only ho (by have := h.glt; simp; omega)
 xb := h.xb.only ho (by have := h.glt; simp; omega)
 its := h.its.only ho (by have := h.glt; simp; omega)
 st := hr
 only := h.only.trans ho
 siz := Nat.le_trans h.siz ho.size
 glt := h.glt
 fbl := h.fbl
theorem LiW.more {w V V' : World} {g gl fb : Nat} {s : ByteArray} {k : Nat} {f m : Int} {acc acc' : List It} {v v' : Value} (h : LiW w g gl fb s k f m acc v V) (hg : V.grownBy V' v.ownBlock) (ha : Acc V' (w.heap.size + 3) acc' v') : LiW w g gl fb s k f m acc' v' (V'.setCell ⟨w.heap.size + 1 + 1, 2, none⟩ v') where
 rdg := (h.rdg.grown hg (fun e => by have := (h.its.ge _ e).1; omega)).far (p := ⟨w.heap.size + 1 + 1, 2, none⟩) (by simp; omega) _
 res := (h.res.grown hg (fun e => by have := (h.its.ge _ e).1; omega)).far (p := ⟨w.heap.size + 1 + 1, 2, none⟩) (by simp) _
 xb := (h.xb.grown hg (fun e => by have := (h.its.ge _ e).1; omega)).set 2 v'
 its := ha.only (L := [w.heap.size + 1 + 1]) ((Only.refl _ _).setCell (by simp) _) (by simp)
 st := ⟨Blk.far (show Blk V' g _ _ from Blk.grown h.st.rdr hg (fun e => by have := (h.its.ge _ e).1; have := h.glt; omega)) (p := ⟨w.heap.size + 1 + 1, 2, none⟩) (by have := h.glt; simp; omega) _,
  (h.st.left.grown hg (fun e => by have := (h.its.ge _ e).1; have := h.glt; omega)).far (p := ⟨w.heap.size + 1 + 1, 2, none⟩) (by have := h.glt; simp; omega) _,
  (h.st.box.grown hg (fun e => by have := (h.its.ge _ e).1; have := h.fbl; omega)).far (p := ⟨w.heap.size + 1 + 1, 2, none⟩) (by have := h.fbl; simp; omega) _⟩
 only := (h.only.grown hg (fun j hj => .inr (by have := (h.its.ge _ hj).1; omega))).setCell (by simp; omega) _
 siz := by have := h.siz; have := hg.size; simp [World.setCell]; omega
 glt := h.glt
 fbl := h.fbl
theorem LiW.cells {w V V' : World} {g gl fb : Nat} {s : ByteArray} {k : Nat} {f m : Int} {acc : List It} {v : Value} (h : LiW w g gl fb s k f m acc v V) (hg : V.grownBy V' v.ownBlock) : Blk V' w.heap.size 61 (rdgC g gl fb) ∧ Blk V' (w.heap.size + 1 + 1) 27 #[.string ⟨#[]⟩, .bool true, v] :=
 ⟨h.rdg.grown hg (fun e => by have := (h.its.ge _ e).1; omega), h.xb.grown hg (fun e => by have := (h.its.ge _ e).1; omega)⟩
theorem LiW.ends {w V : World} {g gl fb : Nat} {s : ByteArray} {k : Nat} {f m : Int} {acc : List It} {v : Value} (h : LiW w g gl fb s k f m acc v V) (u0 u1 : Value) :
 LyR (((V.setCell ⟨w.heap.size + 1, 0, none⟩ u0).setCell ⟨w.heap.size + 1, 1, none⟩ u1).setCell ⟨w.heap.size + 1, 2, none⟩ v) g gl fb s k f m ∧ Only [g, gl] w (((V.setCell ⟨w.heap.size + 1, 0, none⟩ u0).setCell ⟨w.heap.size + 1, 1, none⟩ u1).setCell ⟨w.heap.size + 1, 2, none⟩ v) ∧
 (V.setCell ⟨w.heap.size + 1, 0, none⟩ u0).cell? ⟨w.heap.size + 1, 0, none⟩ = some u0 ∧ ((V.setCell ⟨w.heap.size + 1, 0, none⟩ u0).setCell ⟨w.heap.size + 1, 1, none⟩ u1).cell? ⟨w.heap.size + 1, 1, none⟩ = some u1 ∧ (((V.setCell ⟨w.heap.size + 1, 0, none⟩ u0).setCell ⟨w.heap.size + 1, 1, none⟩ u1).setCell ⟨w.heap.size + 1, 2, none⟩ v).cell? ⟨w.heap.size + 1, 2, none⟩ = some v ∧
 Acc (((V.setCell ⟨w.heap.size + 1, 0, none⟩ u0).setCell ⟨w.heap.size + 1, 1, none⟩ u1).setCell ⟨w.heap.size + 1, 2, none⟩ v) (w.heap.size + 3) acc v :=
 ⟨h.st.set3 h.res u0 u1 v, ((h.only.setCell (by simp) _).setCell (by simp) _).setCell (by simp) _, by have := (h.res.set 0 u0).cell 0; simpa using this, by have := ((h.res.set 0 u0).set 1 u1).cell 1; simpa using this, by have := (((h.res.set 0 u0).set 1 u1).set 2 v).cell 2; simpa using this,
  h.its.only (L := [w.heap.size + 1]) ((((Only.refl _ V).setCell (by simp) _).setCell (by simp) _).setCell (by simp) _) (by simp)⟩
end Go.Proofs.YtcppbdbbgakfcaaGreatDoor
