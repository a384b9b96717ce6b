/- layout: a value is read: the heads. -/
import Derived.Test.YtnfpgadegpmhkaaGreatDoorKA17
import Derived.Test.YtnfpgadegpmhkaaGreatDoorKA3
import Derived.Test.YtnfpgadegpmhkaaGreatDoorKA18
import Derived.Test.YtnfpgadegpmhkaaGreatDoorKA6
import Derived.Test.YtnfpgadegpmhkaaGreatDoorKA2
import Derived.Test.YtnfpgadegpmhkaaGreatDoorKA9
set_option linter.unusedVariables false
set_option linter.unusedSimpArgs false
set_option maxRecDepth 100000
set_option maxHeartbeats 4000000
namespace Go.Proofs.YtnfpgadegpmhkaaGreatDoor
open Go.RowKit
def ValEnd (w : World) (g gl fb : Nat) (s : ByteArray) (M : Int) (R : RdY) (e : Ending) (w' : World) : Prop :=
 ∃ (X : It) (c0 c1 c2 : Value) (k' : Nat) (m' : Int), e = .returned (.agg #[c0, c1, c2]) ∧ ItS w' (w.heap.size ≤ ·) X c0 c1 c2 ∧ LyR w' g gl fb s k' R.e m' ∧ Only [g, gl] w w' ∧ k' ≤ s.size ∧ (R.e = 0 → X = R.x ∧ R.q = s.data.toList.drop k' ∧ m' = M - R.n)
theorem LyR.set3 {w : World} {g gl fb c : Nat} {s : ByteArray} {k : Nat} {f m : Int} {cs : Array Value} (h : LyR w g gl fb s k f m) (hc : Blk w c 28 cs) (u0 u1 u2 : Value) : LyR (((w.setCell ⟨c, 0, none⟩ u0).setCell ⟨c, 1, none⟩ u1).setCell ⟨c, 2, none⟩ u2) g gl fb s k f m :=
 have n1 := h.rdr.neL hc (by decide)
 have n2 := h.left.neL hc (by decide)
 have n3 := h.box.neL hc (by decide)
 ⟨((Blk.far (show Blk w g _ _ from h.rdr) (p := ⟨c, 0, none⟩) n1 _).far (p := ⟨c, 1, none⟩) n1 _).far (p := ⟨c, 2, none⟩) n1 _, ((h.left.far (p := ⟨c, 0, none⟩) n2 _).far (p := ⟨c, 1, none⟩) n2 _).far (p := ⟨c, 2, none⟩) n2 _, ((h.box.far (p := ⟨c, 0, none⟩) n3 _).far (p := ⟨c, 1, none⟩) n3 _).far (p := ⟨c, 2, none⟩) n3 _⟩
theorem LyR.less {w : World} {g gl fb : Nat} {s : ByteArray} {k : Nat} {f m : Int} (h : LyR w g gl fb s k f m) (u : Int) : LyR (w.setCell ⟨gl, 0, none⟩ (.int .i64 u)) g gl fb s k f u :=
 ⟨Blk.far (show Blk w g _ _ from h.rdr) (p := ⟨gl, 0, none⟩) h.apart.1.symm _, one_setCell h.left, h.box.far (p := ⟨gl, 0, none⟩) h.apart.2.2 _⟩
structure VaW (w : World) (g gl fb : Nat) (s : ByteArray) (k : Nat) (f m : Int) (tc : Array Value) (V : World) : Prop where
 rdg : Blk V w.heap.size 174 (rdgC g gl fb)
 ty : Blk V (w.heap.size + 1) 55 tc
 res : Blk V (w.heap.size + 1 + 1) 28 #[.string ⟨#[]⟩, .bool false, .slice none 0 0]
 st : LyR V g gl fb s k f m
 only : Only [g, gl] w V
 siz : w.heap.size + 3 ≤ V.heap.size
theorem VaW.start {w : World} {g gl fb : Nat} {s : ByteArray} {k : Nat} {f m : Int} {tc : Array Value} (h : LyR w g gl fb s k f m) : VaW w g gl fb s k f m tc (((w.alloc (.cells (rdgC g gl fb) 174)).alloc (.cells tc 55)).alloc (.cells #[.string ⟨#[]⟩, .bool false, .slice none 0 0] 28)) where
 rdg := ((Blk.new w _ _).alloc _).alloc _
 ty := Blk.alloc (Blk.at_ (by simp)) _
 res := Blk.at_ (by simp)
 st := h.below ((((Below.refl _ w).alloc (Nat.le_refl _) _).alloc (by simp) _).alloc (by simp; omega) _)
 only := (((Only.refl _ w).alloc _).alloc _).alloc _
 siz := by simp
theorem VaW.less {w V : World} {g gl fb : Nat} {s : ByteArray} {k : Nat} {f m : Int} {tc : Array Value} (h : VaW w g gl fb s k f m tc V) (u : Int) : VaW w g gl fb s k f u tc (V.setCell ⟨gl, 0, none⟩ (.int .i64 u)) where
 rdg := h.rdg.far (p := ⟨gl, 0, none⟩) (h.rdg.neL h.st.left (by decide)) _
 ty := h.ty.far (p := ⟨gl, 0, none⟩) (h.ty.neL h.st.left (by decide)) _
 res := h.res.far (p := ⟨gl, 0, none⟩) (h.res.neL h.st.left (by decide)) _
 st := h.st.less u
 only := h.only.setCell (by simp) _
 siz := by have := h.siz; simpa [World.setCell] using this
theorem VaW.turn {w V V' : World} {g gl fb : Nat} {s : ByteArray} {k k' : Nat} {f f' m : Int} {tc : Array Value} (h : VaW w g gl fb s k f m tc V) (ho : Only [g] V V') (hr : Rdr V' g s k' f') : VaW w g gl fb s k' f' m tc V' where
 rdg := h.rdg.only ho (by simp [h.rdg.neL h.st.rdr (by decide)])
 ty := h.ty.only ho (by simp [h.ty.neL h.st.rdr (by decide)])
 res := h.res.only ho (by simp [h.res.neL h.st.rdr (by decide)])
 st := h.st.turn ho hr
 only := h.only.trans (ho.mono (by simp))
 siz := Nat.le_trans h.siz ho.size
theorem VaW.below {w V V' : World} {g gl fb : Nat} {s : ByteArray} {k : Nat} {f m : Int} {tc : Array Value} (h : VaW w g gl fb s k f m tc V) (hb : Below V.heap.size V V') : VaW w g gl fb s k f m tc V' where
 rdg := (hb.block _ h.rdg.lt).trans h.rdg
 ty := (hb.block _ h.ty.lt).trans h.ty
 res := (hb.block _ h.res.lt).trans h.res
 st := h.st.below hb
 only := h.only.trans ((Only.of_below hb (Nat.le_refl _)).mono (by simp))
 siz := Nat.le_trans h.siz hb.size
theorem VaW.ends {w V : World} {g gl fb : Nat} {s : ByteArray} {k : Nat} {f m : Int} {tc : Array Value} (h : VaW w g gl fb s k f m tc V) (u0 u1 u2 : Value) :
 LyR (((V.setCell ⟨w.heap.size + 1 + 1, 0, none⟩ u0).setCell ⟨w.heap.size + 1 + 1, 1, none⟩ u1).setCell ⟨w.heap.size + 1 + 1, 2, none⟩ u2) g gl fb s k f m ∧ Only [g, gl] w (((V.setCell ⟨w.heap.size + 1 + 1, 0, none⟩ u0).setCell ⟨w.heap.size + 1 + 1, 1, none⟩ u1).setCell ⟨w.heap.size + 1 + 1, 2, none⟩ u2) ∧
 (V.setCell ⟨w.heap.size + 1 + 1, 0, none⟩ u0).cell? ⟨w.heap.size + 1 + 1, 0, none⟩ = some u0 ∧ ((V.setCell ⟨w.heap.size + 1 + 1, 0, none⟩ u0).setCell ⟨w.heap.size + 1 + 1, 1, none⟩ u1).cell? ⟨w.heap.size + 1 + 1, 1, none⟩ = some u1 ∧ (((V.setCell ⟨w.heap.size + 1 + 1, 0, none⟩ u0).setCell ⟨w.heap.size + 1 + 1, 1, none⟩ u1).setCell ⟨w.heap.size + 1 + 1, 2, none⟩ u2).cell? ⟨w.heap.size + 1 + 1, 2, none⟩ = some u2 :=
 ⟨h.st.set3 h.res u0 u1 u2, ((h.only.setCell (by simp; omega) _).setCell (by simp; omega) _).setCell (by simp; omega) _, by have := (h.res.set 0 u0).cell 0; simpa using this, by have := ((h.res.set 0 u0).set 1 u1).cell 1; simpa using this, by have := (((h.res.set 0 u0).set 1 u1).set 2 u2).cell 2; simpa using this⟩
theorem blk3f {w : World} {g : Nat} {t : TypeId} {a b c : Value} (h : Blk w g t #[a, b, c]) : w.cell? ⟨g, 0, none⟩ = some a ∧ w.cell? ⟨g, 1, none⟩ = some b ∧ w.cell? ⟨g, 2, none⟩ = some c ∧ w.frozen? ⟨g, 0, none⟩ = false ∧ w.frozen? ⟨g, 1, none⟩ = false ∧ w.frozen? ⟨g, 2, none⟩ = false := ⟨h.cell 0, h.cell 1, h.cell 2, h.frozen 0, h.frozen 1, h.frozen 2⟩
theorem value_many (k z ta : Int) (tl : List Ty) (A : Option Addr) (cap : Nat) (w : World) (g gl fb : Nat) (s : ByteArray) (kp n : Nat) (M : Int) (hS : LyR w g gl fb s kp 0 (M - n)) (hk : kp ≤ s.size) (hM : M ≤ n) :
 Calls Tryz.prog 118 #[rdgV g gl fb, .agg #[.int .i64 k, .int .i64 z, .slice A tl.length cap, .int .i64 ta]] w fun e w' => ValEnd w g gl fb s M (.bad 4 n (s.data.toList.drop kp)) e w' := by
 have hlt := hS.rdr.lt
 have d0 : decide (M - (n : Int) ≤ 0) = true := decide_eq_true (by omega)
 have HV0 := Lib.hid (VaW.start (tc := #[.int .i64 (k), .int .i64 z, .slice A tl.length cap, .int .i64 ta]) hS)
 generalize hW3 : (((w.alloc (.cells (rdgC g gl fb) 174)).alloc (.cells #[.int .i64 (k), .int .i64 z, .slice A tl.length cap, .int .i64 ta] 55)).alloc (.cells #[.string ⟨#[]⟩, .bool false, .slice none 0 0] 28)) = W3 at *
 unfold rdgC at hW3
 obtain ⟨p0, p1, p2, p3, p4, p5⟩ := blk6 (show Blk W3 w.heap.size 174 #[_, _, _, _, _, _] from HV0.out.rdg)
 obtain ⟨q0, q1, q2, q3, _⟩ := blk4 HV0.out.ty
 have l0 : W3.cell? ⟨gl, 0, none⟩ = some (.int .i64 (M - n)) := HV0.out.st.left.cell 0
 have l1 := HV0.out.st.left.frozen 0
 have HF := Lib.hid (fail_yes g s kp 4 W3 HV0.out.st.rdr)
 unfold rdgV
 clear hS
 go_enter Tryz.func118, Tryz.ntmps118
 go_wp2_with fail
 refine HF.out.mono ?_
 rintro e w1 ⟨rfl, hr, ho⟩
 have HV1 := Lib.hid (HV0.out.turn ho hr)
 clear hr ho
 obtain ⟨n0, n1, n2, m0, m1, m2⟩ := blk3f HV1.out.res
 obtain ⟨e1, e2, y0, y1, y2⟩ := HV1.out.ends (.string ⟨#[]⟩) (.bool false) (.slice none 0 0)
 have E1 := Lib.hid e1
 have E2 := Lib.hid e2
 clear e1 e2
 go_wp2
 have e1 := E1.out
 have e2 := E2.out
 refine bodyPost_ret (v := .agg #[.string ⟨#[]⟩, .bool false, .slice none 0 0]) (by simp [results, Tryz.results118, go_sem, y0, y1, y2]) rfl ?_
 exact ⟨noIt, _, _, _, kp, _, rfl, ItS.text false (by simp [ByteArray.size]), e1, e2, hk, fun h => absurd h (show ¬ (4 : Int) = 0 by decide)⟩
theorem cut_take (s : ByteArray) (k n : Nat) : (s.extract k (k + n)).data.toList = (s.data.toList.drop k).take n := by
 rw [toList_cut, List.drop_take, show k + n - k = n from by omega]
theorem value_one (zn : Nat) (A : Option Addr) (cap : Nat) (w : World) (g gl fb : Nat) (s : ByteArray) (kp n : Nat) (M : Int) (hS : LyR w g gl fb s kp 0 (M - n)) (hk : kp ≤ s.size) (hs : s.size ≤ 1099511627776) (hM : ¬ M ≤ n) (hM2 : M ≤ 1024) (hz : 1 ≤ zn) (hz8 : zn ≤ 8) :
 Calls Tryz.prog 118 #[rdgV g gl fb, .agg #[.int .i64 1, .int .i64 zn, .slice A ([] : List Ty).length cap, .int .i64 0]] w fun e w' => ValEnd w g gl fb s M ((Ty.mk 1 zn [] 0).rd M n (s.data.toList.drop kp)) e w' := by
 have hlt := hS.rdr.lt
 have d0 : decide (M - (n : Int) ≤ 0) = false := decide_eq_false (by omega)
 rw [rd_one hM, show ((zn : Int)).toNat = zn from rfl, List.length_drop, toList_size]
 obtain ⟨z, ta, tl, ez, et, el⟩ : ∃ (z ta : Int) (tl : List Ty), z = zn ∧ ta = 0 ∧ tl = [] := ⟨_, _, _, rfl, rfl, rfl⟩
 rw [← ez, ← et, ← el]
 have HV0 := Lib.hid (VaW.start (tc := #[.int .i64 (1), .int .i64 z, .slice A tl.length cap, .int .i64 ta]) hS)
 generalize hW3 : (((w.alloc (.cells (rdgC g gl fb) 174)).alloc (.cells #[.int .i64 (1), .int .i64 z, .slice A tl.length cap, .int .i64 ta] 55)).alloc (.cells #[.string ⟨#[]⟩, .bool false, .slice none 0 0] 28)) = W3 at *
 unfold rdgC at hW3
 obtain ⟨p0, p1, p2, p3, p4, p5⟩ := blk6 (show Blk W3 w.heap.size 174 #[_, _, _, _, _, _] from HV0.out.rdg)
 obtain ⟨q0, q1, q2, q3, _⟩ := blk4 HV0.out.ty
 have l0 : W3.cell? ⟨gl, 0, none⟩ = some (.int .i64 (M - n)) := HV0.out.st.left.cell 0
 have l1 := HV0.out.st.left.frozen 0
 subst ez et el
 simp only [List.length_nil] at hW3 HV0
 by_cases hsh : s.size < kp + zn
 ·rw [if_pos (by omega)]
  have HV4 := Lib.hid (HV0.out.less (M - n - 1))
  generalize hW4 : W3.setCell ⟨gl, 0, none⟩ (.int .i64 (M - n - 1)) = W4 at *
  clear q0 q1 q2 q3
  obtain ⟨p0, p1, p2, p3, p4, p5⟩ := blk6 (show Blk W4 w.heap.size 174 #[_, _, _, _, _, _] from HV4.out.rdg)
  obtain ⟨q0, q1, q2, q3, _⟩ := blk4 HV4.out.ty
  unfold rdgV
  clear hS
  go_enter Tryz.func118, Tryz.ntmps118
  go_wp2_with fail
  refine (take_short g s kp zn W4 HV4.out.st.rdr hk (by omega) hsh (by omega)).mono ?_
  rintro e w1 ⟨rfl, hr, ho⟩
  have HV5 := Lib.hid (HV4.out.turn ho hr)
  clear hr ho
  go_wp2_with fail
  refine (getLittle_none ⟨#[]⟩ w1 rfl).mono ?_
  rintro e w' ⟨rfl, rfl⟩
  go_wp2_with fail
  refine (number_c 0 w1 (by omega)).mono ?_
  rintro e w2 ⟨rfl, hb⟩
  have HV6 := Lib.hid (HV5.out.below hb)
  clear hb
  obtain ⟨n0, n1, n2, m0, m1, m2⟩ := blk3f HV6.out.res
  obtain ⟨e1, e2, y0, y1, y2⟩ := HV6.out.ends (.string ⟨(minL 0).toArray⟩) (.bool false) (.slice none 0 0)
  have E1 := Lib.hid e1
  have E2 := Lib.hid e2
  clear e1 e2
  go_wp2
  have e1 := E1.out
  have e2 := E2.out
  refine bodyPost_ret (v := .agg #[.string ⟨(minL 0).toArray⟩, .bool false, .slice none 0 0]) (by simp [results, Tryz.results118, go_sem, y0, y1, y2]) rfl ?_
  exact ⟨.mk ⟨(minL 0).toArray⟩ false [], _, _, _, kp, _, rfl, ItS.text false (by simp [minL_zero, ByteArray.size]), e1, e2, hk, fun h => absurd h (show ¬ (2 : Int) = 0 by decide)⟩
 ·rw [if_neg (by omega)]
  have hX := cut_take s kp zn
  have hXs : (s.extract kp (kp + zn)).size = zn := by rw [size_cut s kp (kp + zn) (by omega)]; omega
  have HG := Lib.hid (fun V => getLittle_c (s.extract kp (kp + zn)) V (by omega) (by omega))
  rw [hX] at HG
  have hm := leL_lt ((s.data.toList.drop kp).take zn)
  rw [← hX, toList_size, hXs] at hm
  have hp8 : 2 ^ (8 * zn) ≤ 18446744073709551616 := le_pow _ hz8
  rw [hX] at hm
  generalize leL ((s.data.toList.drop kp).take zn) = m at *
  have HN := Lib.hid (fun V => number_c m V (by omega))
  have hms := minL_length zn m hm
  have HMS : Hid ((⟨(minL m).toArray⟩ : ByteArray).size ≤ 9223372036854775807) := Lib.hid (by rw [size_of]; omega)
  have HDR : Hid ((s.data.toList.drop kp).drop zn = s.data.toList.drop (kp + zn)) := Lib.hid (by rw [List.drop_drop])
  generalize (⟨(minL m).toArray⟩ : ByteArray) = T at *
  clear hX hXs hm hms
  have HV4 := Lib.hid (HV0.out.less (M - n - 1))
  generalize hW4 : W3.setCell ⟨gl, 0, none⟩ (.int .i64 (M - n - 1)) = W4 at *
  clear q0 q1 q2 q3
  obtain ⟨p0, p1, p2, p3, p4, p5⟩ := blk6 (show Blk W4 w.heap.size 174 #[_, _, _, _, _, _] from HV4.out.rdg)
  obtain ⟨q0, q1, q2, q3, _⟩ := blk4 HV4.out.ty
  unfold rdgV
  clear hS
  go_enter Tryz.func118, Tryz.ntmps118
  go_wp2_with fail
  refine (take_yes g s kp zn W4 HV4.out.st.rdr (by omega) (by omega)).mono ?_
  rintro e w1 ⟨rfl, hr, ho⟩
  have HV5 := Lib.hid (HV4.out.turn ho hr)
  clear hr ho
  go_wp2_with fail
  refine (HG.out w1).mono ?_
  rintro e w' ⟨rfl, rfl⟩
  go_wp2_with fail
  refine (HN.out w1).mono ?_
  rintro e w2 ⟨rfl, hb⟩
  have HV6 := Lib.hid (HV5.out.below hb)
  clear hb
  obtain ⟨n0, n1, n2, m0, m1, m2⟩ := blk3f HV6.out.res
  obtain ⟨e1, e2, y0, y1, y2⟩ := HV6.out.ends (.string T) (.bool false) (.slice none 0 0)
  have E1 := Lib.hid e1
  have E2 := Lib.hid e2
  clear e1 e2
  go_wp2
  have e1 := E1.out
  have e2 := E2.out
  refine bodyPost_ret (v := .agg #[.string T, .bool false, .slice none 0 0]) (by simp [results, Tryz.results118, go_sem, y0, y1, y2]) rfl ?_
  exact ⟨.mk T false [], _, _, _, kp + zn, _, rfl, ItS.text false HMS.out, e1, e2, by omega, fun _ => ⟨rfl, HDR.out, by simp only; omega⟩⟩
theorem value_two (zn : Nat) (A : Option Addr) (cap : Nat) (w : World) (g gl fb : Nat) (s : ByteArray) (kp n : Nat) (M : Int) (hS : LyR w g gl fb s kp 0 (M - n)) (hk : kp ≤ s.size) (hs : s.size ≤ 1099511627776) (hM : ¬ M ≤ n) (hM2 : M ≤ 1024) (hz8 : zn ≤ 65536) :
 Calls Tryz.prog 118 #[rdgV g gl fb, .agg #[.int .i64 2, .int .i64 zn, .slice A ([] : List Ty).length cap, .int .i64 0]] w fun e w' => ValEnd w g gl fb s M ((Ty.mk 2 zn [] 0).rd M n (s.data.toList.drop kp)) e w' := by
 have hlt := hS.rdr.lt
 have d0 : decide (M - (n : Int) ≤ 0) = false := decide_eq_false (by omega)
 rw [rd_two hM, show ((zn : Int)).toNat = zn from rfl, List.length_drop, toList_size]
 obtain ⟨z, ta, tl, ez, et, el⟩ : ∃ (z ta : Int) (tl : List Ty), z = zn ∧ ta = 0 ∧ tl = [] := ⟨_, _, _, rfl, rfl, rfl⟩
 rw [← ez, ← et, ← el]
 have HV0 := Lib.hid (VaW.start (tc := #[.int .i64 (2), .int .i64 z, .slice A tl.length cap, .int .i64 ta]) hS)
 generalize hW3 : (((w.alloc (.cells (rdgC g gl fb) 174)).alloc (.cells #[.int .i64 (2), .int .i64 z, .slice A tl.length cap, .int .i64 ta] 55)).alloc (.cells #[.string ⟨#[]⟩, .bool false, .slice none 0 0] 28)) = W3 at *
 unfold rdgC at hW3
 obtain ⟨p0, p1, p2, p3, p4, p5⟩ := blk6 (show Blk W3 w.heap.size 174 #[_, _, _, _, _, _] from HV0.out.rdg)
 obtain ⟨q0, q1, q2, q3, _⟩ := blk4 HV0.out.ty
 have l0 : W3.cell? ⟨gl, 0, none⟩ = some (.int .i64 (M - n)) := HV0.out.st.left.cell 0
 have l1 := HV0.out.st.left.frozen 0
 subst ez et el
 simp only [List.length_nil] at hW3 HV0
 by_cases hsh : s.size < kp + zn
 ·rw [if_pos (by omega)]
  have HV4 := Lib.hid (HV0.out.less (M - n - 1))
  generalize hW4 : W3.setCell ⟨gl, 0, none⟩ (.int .i64 (M - n - 1)) = W4 at *
  clear q0 q1 q2 q3
  obtain ⟨p0, p1, p2, p3, p4, p5⟩ := blk6 (show Blk W4 w.heap.size 174 #[_, _, _, _, _, _] from HV4.out.rdg)
  obtain ⟨q0, q1, q2, q3, _⟩ := blk4 HV4.out.ty
  unfold rdgV
  clear hS
  go_enter Tryz.func118, Tryz.ntmps118
  go_wp2_with fail
  refine (take_short g s kp zn W4 HV4.out.st.rdr hk (by omega) hsh (by omega)).mono ?_
  rintro e w1 ⟨rfl, hr, ho⟩
  have HV5 := Lib.hid (HV4.out.turn ho hr)
  clear hr ho
  go_wp2_with fail
  refine (text_c ⟨#[]⟩ w1).mono ?_
  rintro e w2 ⟨rfl, hb⟩
  have HV6 := Lib.hid (HV5.out.below hb)
  clear hb
  obtain ⟨n0, n1, n2, m0, m1, m2⟩ := blk3f HV6.out.res
  obtain ⟨e1, e2, y0, y1, y2⟩ := HV6.out.ends (.string ⟨#[]⟩) (.bool false) (.slice none 0 0)
  have E1 := Lib.hid e1
  have E2 := Lib.hid e2
  clear e1 e2
  go_wp2
  have e1 := E1.out
  have e2 := E2.out
  refine bodyPost_ret (v := .agg #[.string ⟨#[]⟩, .bool false, .slice none 0 0]) (by simp [results, Tryz.results118, go_sem, y0, y1, y2]) rfl ?_
  exact ⟨noIt, _, _, _, kp, _, rfl, ItS.text false (by simp [ByteArray.size]), e1, e2, hk, fun h => absurd h (show ¬ (2 : Int) = 0 by decide)⟩
 ·rw [if_neg (by omega)]
  have hX := cut_take s kp zn
  have hXs : (s.extract kp (kp + zn)).size = zn := by rw [size_cut s kp (kp + zn) (by omega)]; omega
  have HX : Hid ((⟨((s.data.toList.drop kp).take zn).toArray⟩ : ByteArray) = s.extract kp (kp + zn)) := Lib.hid (bytes_ext (by rw [hX]))
  rw [HX.out]
  have HMS : Hid ((s.extract kp (kp + zn)).size ≤ 9223372036854775807) := Lib.hid (by omega)
  have HDR : Hid ((s.data.toList.drop kp).drop zn = s.data.toList.drop (kp + zn)) := Lib.hid (by rw [List.drop_drop])
  clear hX hXs
  have HV4 := Lib.hid (HV0.out.less (M - n - 1))
  generalize hW4 : W3.setCell ⟨gl, 0, none⟩ (.int .i64 (M - n - 1)) = W4 at *
  clear q0 q1 q2 q3
  obtain ⟨p0, p1, p2, p3, p4, p5⟩ := blk6 (show Blk W4 w.heap.size 174 #[_, _, _, _, _, _] from HV4.out.rdg)
  obtain ⟨q0, q1, q2, q3, _⟩ := blk4 HV4.out.ty
  unfold rdgV
  clear hS
  go_enter Tryz.func118, Tryz.ntmps118
  go_wp2_with fail
  refine (take_yes g s kp zn W4 HV4.out.st.rdr (by omega) (by omega)).mono ?_
  rintro e w1 ⟨rfl, hr, ho⟩
  have HV5 := Lib.hid (HV4.out.turn ho hr)
  clear hr ho HX
  generalize hT : s.extract kp (kp + zn) = T at *
  have HT := Lib.hid hT
  clear hT
  go_wp2_with fail
  refine (text_c T w1).mono ?_
  rintro e w2 ⟨rfl, hb⟩
  have HV6 := Lib.hid (HV5.out.below hb)
  clear hb
  obtain ⟨n0, n1, n2, m0, m1, m2⟩ := blk3f HV6.out.res
  obtain ⟨e1, e2, y0, y1, y2⟩ := HV6.out.ends (.string T) (.bool false) (.slice none 0 0)
  have E1 := Lib.hid e1
  have E2 := Lib.hid e2
  clear e1 e2
  go_wp2
  have e1 := E1.out
  have e2 := E2.out
  refine bodyPost_ret (v := .agg #[.string T, .bool false, .slice none 0 0]) (by simp [results, Tryz.results118, go_sem, y0, y1, y2]) rfl ?_
  exact ⟨.mk T false [], _, _, _, kp + zn, _, rfl, ItS.text false HMS.out, e1, e2, by omega, fun _ => ⟨by show It.mk T false [] = It.mk (s.extract kp (kp + zn)) false []; rw [HT.out], HDR.out, by simp only; omega⟩⟩
theorem LyR.drew {w : World} {g gl fb : Nat} {s : ByteArray} {k : Nat} {f m : Int} (h : LyR w g gl fb s k f m) : LyR w.drew g gl fb s k f m := ⟨h.rdr.drew, h.left.drew, h.box.drew⟩
theorem value_three (zn : Nat) (A : Option Addr) (cap : Nat) (w : World) (g gl fb : Nat) (s : ByteArray) (kp n : Nat) (M : Int) (hS : LyR w g gl fb s kp 0 (M - n)) (hk : kp ≤ s.size) (hs : s.size ≤ 1099511627776) (hM : ¬ M ≤ n) (hM2 : M ≤ 1024) (hz8 : zn ≤ 65536) (hL : LaidC w) (hg : 0 < g) (hgl : 0 < gl) :
 Calls Tryz.prog 118 #[rdgV g gl fb, .agg #[.int .i64 3, .int .i64 zn, .slice A ([] : List Ty).length cap, .int .i64 0]] w fun e w' => ValEnd w g gl fb s M ((Ty.mk 3 zn [] 0).rd M n (s.data.toList.drop kp)) e w' := by
 have hlt := hS.rdr.lt
 have d0 : decide (M - (n : Int) ≤ 0) = false := decide_eq_false (by omega)
 rw [rd_three hM]
 have HNC := Lib.hid (fun V (hV : LyR V g gl fb s kp 0 (M - n - 1)) (hl : LaidC V) => numberL_c g gl fb s kp zn _ V hV hk (by omega) hz8 hl (by omega))
 have hback := fun (h0 : (cpNext (s.data.toList.drop kp)).2.2 = 0) => (cpNext_back (s.data.toList.drop kp) (cpNext (s.data.toList.drop kp)).1 (cpNext (s.data.toList.drop kp)).2.1 (by rw [← h0])).2.1
 rw [List.length_drop, toList_size] at hback
 have HW := cpRd_ways (cpNext (s.data.toList.drop kp)) zn kp
 obtain ⟨z, ta, tl, ez, et, el⟩ : ∃ (z ta : Int) (tl : List Ty), z = zn ∧ ta = 0 ∧ tl = [] := ⟨_, _, _, rfl, rfl, rfl⟩
 rw [← et, ← el, ← ez]
 have HV0 := Lib.hid (VaW.start (tc := #[.int .i64 (3), .int .i64 z, .slice A tl.length cap, .int .i64 ta]) hS)
 generalize hW3 : (((w.alloc (.cells (rdgC g gl fb) 174)).alloc (.cells #[.int .i64 (3), .int .i64 z, .slice A tl.length cap, .int .i64 ta] 55)).alloc (.cells #[.string ⟨#[]⟩, .bool false, .slice none 0 0] 28)) = W3 at *
 unfold rdgC at hW3
 obtain ⟨p0, p1, p2, p3, p4, p5⟩ := blk6 (show Blk W3 w.heap.size 174 #[_, _, _, _, _, _] from HV0.out.rdg)
 obtain ⟨q0, q1, q2, q3, _⟩ := blk4 HV0.out.ty
 have l0 : W3.cell? ⟨gl, 0, none⟩ = some (.int .i64 (M - n)) := HV0.out.st.left.cell 0
 have l1 := HV0.out.st.left.frozen 0
 subst ez et el
 simp only [List.length_nil] at hW3 HV0
 have hlc4 := fun V (h : VaW w g gl fb s kp 0 (M - n - 1) #[.int .i64 3, .int .i64 zn, .slice A 0 cap, .int .i64 0] V) => hL.only h.only (by simp; omega)
 have HLC := Lib.hid hlc4
 clear hlc4 hL
 generalize cpNext (s.data.toList.drop kp) = N at *
 obtain ⟨Nm, Nz, Ne⟩ := N
 simp only at hback HW ⊢
 rcases HW with ⟨h1, hE, hNN, hK⟩ | ⟨h1, h2, hE, hNN, hK⟩ | ⟨h1, h2, hE, hNN, hK⟩
 ·rw [if_pos h1]
  rw [hE, hNN, hK] at HNC
  have HV4 := Lib.hid (HV0.out.less (M - n - 1))
  generalize hW4 : W3.setCell ⟨gl, 0, none⟩ (.int .i64 (M - n - 1)) = W4 at *
  clear q0 q1 q2 q3
  obtain ⟨p0, p1, p2, p3, p4, p5⟩ := blk6 (show Blk W4 w.heap.size 174 #[_, _, _, _, _, _] from HV4.out.rdg)
  obtain ⟨q0, q1, q2, q3, _⟩ := blk4 HV4.out.ty
  unfold rdgV
  clear hS
  go_enter Tryz.func118, Tryz.ntmps118
  go_wp2_with fail
  have hlc : LaidC W4.drew := HLC.out W4 HV4.out
  refine wp_region_last 9 (fun V => V.cell? ⟨w.heap.size, 0, none⟩ = some (.func (.func 112) #[.pointer (some ⟨g, 0, none⟩)] #[]) ∧ V.cell? ⟨w.heap.size, 4, none⟩ = some (.func (.func 116) #[] #[.pointer (some ⟨fb, 0, none⟩)]) ∧ V.cell? ⟨w.heap.size + 1, 1, none⟩ = some (.int .i64 zn)) (by kernel_rfl) (by kernel_rfl) ?_
  have hHeld : (fun V : World => V.cell? ⟨w.heap.size, 0, none⟩ = some (.func (.func 112) #[.pointer (some ⟨g, 0, none⟩)] #[]) ∧ V.cell? ⟨w.heap.size, 4, none⟩ = some (.func (.func 116) #[] #[.pointer (some ⟨fb, 0, none⟩)]) ∧ V.cell? ⟨w.heap.size + 1, 1, none⟩ = some (.int .i64 zn)) W4.drew := ⟨p0, p4, q1⟩
  refine GT.tk1 0 (v := .pointer (some ⟨w.heap.size, 0, none⟩)) hHeld ?_
  refine GT.tk1 1 (v := .func (.func 112) #[.pointer (some ⟨g, 0, none⟩)] #[]) hHeld ?_
  refine GT.tk1 2 (v := .pointer (some ⟨w.heap.size, 4, none⟩)) hHeld ?_
  refine GT.tk1 3 (v := .func (.func 116) #[] #[.pointer (some ⟨fb, 0, none⟩)]) hHeld ?_
  refine GT.tk1 4 (v := .pointer (some ⟨w.heap.size + 1, 1, none⟩)) hHeld ?_
  refine GT.tk1 5 (v := .int .i64 zn) hHeld ?_
  refine GT.st1 6 (fun K hK => ?_)
  go_simp
  refine (HNC.out W4.drew HV4.out.st.drew hlc).mono ?_
  rintro e w1 ⟨rfl, hr, ho⟩
  have HV5 := Lib.hid ((HV4.out.below (Below.refl _ _).drew).turn ho hr.rdr)
  have hH5 : (fun V : World => V.cell? ⟨w.heap.size, 0, none⟩ = some (.func (.func 112) #[.pointer (some ⟨g, 0, none⟩)] #[]) ∧ V.cell? ⟨w.heap.size, 4, none⟩ = some (.func (.func 116) #[] #[.pointer (some ⟨fb, 0, none⟩)]) ∧ V.cell? ⟨w.heap.size + 1, 1, none⟩ = some (.int .i64 zn)) w1 := ⟨HV5.out.rdg.cell 0, HV5.out.rdg.cell 4, HV5.out.ty.cell 1⟩
  clear hr ho
  go_wp2_with fail
  refine hK.out _ _ hH5 (fun hHeld => ?_)
  clear hK K
  try simp only [Act.put, List.setIfInBounds_toArray, List.set_cons_zero, List.set_cons_succ]
  refine GT.st1 7 (fun K hK => ?_)
  go_simp
  refine (take_fault g s kp Ne 0 w1 HV5.out.st.rdr (beq_eq_false_iff_ne.2 h1)).mono ?_
  rintro e w2 ⟨rfl, hr, ho⟩
  have HV6 := Lib.hid (HV5.out.turn ho hr)
  have hH6 : (fun V : World => V.cell? ⟨w.heap.size, 0, none⟩ = some (.func (.func 112) #[.pointer (some ⟨g, 0, none⟩)] #[]) ∧ V.cell? ⟨w.heap.size, 4, none⟩ = some (.func (.func 116) #[] #[.pointer (some ⟨fb, 0, none⟩)]) ∧ V.cell? ⟨w.heap.size + 1, 1, none⟩ = some (.int .i64 zn)) w2 := ⟨HV6.out.rdg.cell 0, HV6.out.rdg.cell 4, HV6.out.ty.cell 1⟩
  clear hr ho
  go_wp2_with fail
  refine hK.out _ _ hH6 (fun hHeld => ?_)
  clear hK K
  try simp only [Act.put, List.setIfInBounds_toArray, List.set_cons_zero, List.set_cons_succ]
  refine GT.st1 8 (fun K hK => ?_)
  go_simp
  refine (text_c ⟨#[]⟩ w2).mono ?_
  rintro e w3 ⟨rfl, hb⟩
  have HV7 := Lib.hid (HV6.out.below hb)
  have hH7 : (fun V : World => V.cell? ⟨w.heap.size, 0, none⟩ = some (.func (.func 112) #[.pointer (some ⟨g, 0, none⟩)] #[]) ∧ V.cell? ⟨w.heap.size, 4, none⟩ = some (.func (.func 116) #[] #[.pointer (some ⟨fb, 0, none⟩)]) ∧ V.cell? ⟨w.heap.size + 1, 1, none⟩ = some (.int .i64 zn)) w3 := ⟨HV7.out.rdg.cell 0, HV7.out.rdg.cell 4, HV7.out.ty.cell 1⟩
  clear hb
  go_wp2_with fail
  refine hK.out _ _ hH7 (fun hHeld => ?_)
  clear hK K
  try simp only [Act.put, List.setIfInBounds_toArray, List.set_cons_zero, List.set_cons_succ]
  obtain ⟨n0, n1, n2, m0, m1, m2⟩ := blk3f HV7.out.res
  obtain ⟨e1, e2, y0, y1, y2⟩ := HV7.out.ends (.string ⟨#[]⟩) (.bool false) (.slice none 0 0)
  have E1 := Lib.hid e1
  have E2 := Lib.hid e2
  clear e1 e2
  refine GT.la1 9 ?_
  go_simp
  go_wp2
  have e1 := E1.out
  have e2 := E2.out
  refine bodyPost_ret (v := .agg #[.string ⟨#[]⟩, .bool false, .slice none 0 0]) (by simp [results, Tryz.results118, go_sem, y0, y1, y2]) rfl ?_
  exact ⟨noIt, _, _, _, kp, _, rfl, ItS.text false (by simp [ByteArray.size]), e1, e2, hk, fun h => absurd h h1⟩
 ·rw [if_neg (by rw [h1]; simp), if_pos (by omega)]
  rw [hE, hNN, hK] at HNC
  have HV4 := Lib.hid (HV0.out.less (M - n - 1))
  generalize hW4 : W3.setCell ⟨gl, 0, none⟩ (.int .i64 (M - n - 1)) = W4 at *
  clear q0 q1 q2 q3
  obtain ⟨p0, p1, p2, p3, p4, p5⟩ := blk6 (show Blk W4 w.heap.size 174 #[_, _, _, _, _, _] from HV4.out.rdg)
  obtain ⟨q0, q1, q2, q3, _⟩ := blk4 HV4.out.ty
  unfold rdgV
  clear hS
  go_enter Tryz.func118, Tryz.ntmps118
  go_wp2_with fail
  have hlc : LaidC W4.drew := HLC.out W4 HV4.out
  refine wp_region_last 9 (fun V => V.cell? ⟨w.heap.size, 0, none⟩ = some (.func (.func 112) #[.pointer (some ⟨g, 0, none⟩)] #[]) ∧ V.cell? ⟨w.heap.size, 4, none⟩ = some (.func (.func 116) #[] #[.pointer (some ⟨fb, 0, none⟩)]) ∧ V.cell? ⟨w.heap.size + 1, 1, none⟩ = some (.int .i64 zn)) (by kernel_rfl) (by kernel_rfl) ?_
  have hHeld : (fun V : World => V.cell? ⟨w.heap.size, 0, none⟩ = some (.func (.func 112) #[.pointer (some ⟨g, 0, none⟩)] #[]) ∧ V.cell? ⟨w.heap.size, 4, none⟩ = some (.func (.func 116) #[] #[.pointer (some ⟨fb, 0, none⟩)]) ∧ V.cell? ⟨w.heap.size + 1, 1, none⟩ = some (.int .i64 zn)) W4.drew := ⟨p0, p4, q1⟩
  refine GT.tk1 0 (v := .pointer (some ⟨w.heap.size, 0, none⟩)) hHeld ?_
  refine GT.tk1 1 (v := .func (.func 112) #[.pointer (some ⟨g, 0, none⟩)] #[]) hHeld ?_
  refine GT.tk1 2 (v := .pointer (some ⟨w.heap.size, 4, none⟩)) hHeld ?_
  refine GT.tk1 3 (v := .func (.func 116) #[] #[.pointer (some ⟨fb, 0, none⟩)]) hHeld ?_
  refine GT.tk1 4 (v := .pointer (some ⟨w.heap.size + 1, 1, none⟩)) hHeld ?_
  refine GT.tk1 5 (v := .int .i64 zn) hHeld ?_
  refine GT.st1 6 (fun K hK => ?_)
  go_simp
  refine (HNC.out W4.drew HV4.out.st.drew hlc).mono ?_
  rintro e w1 ⟨rfl, hr, ho⟩
  have HV5 := Lib.hid ((HV4.out.below (Below.refl _ _).drew).turn ho hr.rdr)
  have hH5 : (fun V : World => V.cell? ⟨w.heap.size, 0, none⟩ = some (.func (.func 112) #[.pointer (some ⟨g, 0, none⟩)] #[]) ∧ V.cell? ⟨w.heap.size, 4, none⟩ = some (.func (.func 116) #[] #[.pointer (some ⟨fb, 0, none⟩)]) ∧ V.cell? ⟨w.heap.size + 1, 1, none⟩ = some (.int .i64 zn)) w1 := ⟨HV5.out.rdg.cell 0, HV5.out.rdg.cell 4, HV5.out.ty.cell 1⟩
  clear hr ho
  go_wp2_with fail
  refine hK.out _ _ hH5 (fun hHeld => ?_)
  clear hK K
  try simp only [Act.put, List.setIfInBounds_toArray, List.set_cons_zero, List.set_cons_succ]
  refine GT.st1 7 (fun K hK => ?_)
  go_simp
  refine (take_fault g s kp 5 0 w1 HV5.out.st.rdr (by decide)).mono ?_
  rintro e w2 ⟨rfl, hr, ho⟩
  have HV6 := Lib.hid (HV5.out.turn ho hr)
  have hH6 : (fun V : World => V.cell? ⟨w.heap.size, 0, none⟩ = some (.func (.func 112) #[.pointer (some ⟨g, 0, none⟩)] #[]) ∧ V.cell? ⟨w.heap.size, 4, none⟩ = some (.func (.func 116) #[] #[.pointer (some ⟨fb, 0, none⟩)]) ∧ V.cell? ⟨w.heap.size + 1, 1, none⟩ = some (.int .i64 zn)) w2 := ⟨HV6.out.rdg.cell 0, HV6.out.rdg.cell 4, HV6.out.ty.cell 1⟩
  clear hr ho
  go_wp2_with fail
  refine hK.out _ _ hH6 (fun hHeld => ?_)
  clear hK K
  try simp only [Act.put, List.setIfInBounds_toArray, List.set_cons_zero, List.set_cons_succ]
  refine GT.st1 8 (fun K hK => ?_)
  go_simp
  refine (text_c ⟨#[]⟩ w2).mono ?_
  rintro e w3 ⟨rfl, hb⟩
  have HV7 := Lib.hid (HV6.out.below hb)
  have hH7 : (fun V : World => V.cell? ⟨w.heap.size, 0, none⟩ = some (.func (.func 112) #[.pointer (some ⟨g, 0, none⟩)] #[]) ∧ V.cell? ⟨w.heap.size, 4, none⟩ = some (.func (.func 116) #[] #[.pointer (some ⟨fb, 0, none⟩)]) ∧ V.cell? ⟨w.heap.size + 1, 1, none⟩ = some (.int .i64 zn)) w3 := ⟨HV7.out.rdg.cell 0, HV7.out.rdg.cell 4, HV7.out.ty.cell 1⟩
  clear hb
  go_wp2_with fail
  refine hK.out _ _ hH7 (fun hHeld => ?_)
  clear hK K
  try simp only [Act.put, List.setIfInBounds_toArray, List.set_cons_zero, List.set_cons_succ]
  obtain ⟨n0, n1, n2, m0, m1, m2⟩ := blk3f HV7.out.res
  obtain ⟨e1, e2, y0, y1, y2⟩ := HV7.out.ends (.string ⟨#[]⟩) (.bool false) (.slice none 0 0)
  have E1 := Lib.hid e1
  have E2 := Lib.hid e2
  clear e1 e2
  refine GT.la1 9 ?_
  go_simp
  go_wp2
  have e1 := E1.out
  have e2 := E2.out
  refine bodyPost_ret (v := .agg #[.string ⟨#[]⟩, .bool false, .slice none 0 0]) (by simp [results, Tryz.results118, go_sem, y0, y1, y2]) rfl ?_
  exact ⟨noIt, _, _, _, kp, _, rfl, ItS.text false (by simp [ByteArray.size]), e1, e2, hk, fun h => absurd h (show ¬ (5 : Int) = 0 by decide)⟩
 ·rw [if_neg (by rw [h1]; simp), if_neg (by omega)]
  rw [hE, hNN, hK] at HNC
  have hb2 := hback h1
  rw [List.drop_drop, List.length_drop, toList_size]
  by_cases hsh : s.size < kp + Nz + Nm
  ·rw [if_pos (by omega)]
   have HV4 := Lib.hid (HV0.out.less (M - n - 1))
   generalize hW4 : W3.setCell ⟨gl, 0, none⟩ (.int .i64 (M - n - 1)) = W4 at *
   clear q0 q1 q2 q3
   obtain ⟨p0, p1, p2, p3, p4, p5⟩ := blk6 (show Blk W4 w.heap.size 174 #[_, _, _, _, _, _] from HV4.out.rdg)
   obtain ⟨q0, q1, q2, q3, _⟩ := blk4 HV4.out.ty
   unfold rdgV
   clear hS
   go_enter Tryz.func118, Tryz.ntmps118
   go_wp2_with fail
   have hlc : LaidC W4.drew := HLC.out W4 HV4.out
   refine wp_region_last 9 (fun V => V.cell? ⟨w.heap.size, 0, none⟩ = some (.func (.func 112) #[.pointer (some ⟨g, 0, none⟩)] #[]) ∧ V.cell? ⟨w.heap.size, 4, none⟩ = some (.func (.func 116) #[] #[.pointer (some ⟨fb, 0, none⟩)]) ∧ V.cell? ⟨w.heap.size + 1, 1, none⟩ = some (.int .i64 zn)) (by kernel_rfl) (by kernel_rfl) ?_
   have hHeld : (fun V : World => V.cell? ⟨w.heap.size, 0, none⟩ = some (.func (.func 112) #[.pointer (some ⟨g, 0, none⟩)] #[]) ∧ V.cell? ⟨w.heap.size, 4, none⟩ = some (.func (.func 116) #[] #[.pointer (some ⟨fb, 0, none⟩)]) ∧ V.cell? ⟨w.heap.size + 1, 1, none⟩ = some (.int .i64 zn)) W4.drew := ⟨p0, p4, q1⟩
   refine GT.tk1 0 (v := .pointer (some ⟨w.heap.size, 0, none⟩)) hHeld ?_
   refine GT.tk1 1 (v := .func (.func 112) #[.pointer (some ⟨g, 0, none⟩)] #[]) hHeld ?_
   refine GT.tk1 2 (v := .pointer (some ⟨w.heap.size, 4, none⟩)) hHeld ?_
   refine GT.tk1 3 (v := .func (.func 116) #[] #[.pointer (some ⟨fb, 0, none⟩)]) hHeld ?_
   refine GT.tk1 4 (v := .pointer (some ⟨w.heap.size + 1, 1, none⟩)) hHeld ?_
   refine GT.tk1 5 (v := .int .i64 zn) hHeld ?_
   refine GT.st1 6 (fun K hK => ?_)
   go_simp
   refine (HNC.out W4.drew HV4.out.st.drew hlc).mono ?_
   rintro e w1 ⟨rfl, hr, ho⟩
   have HV5 := Lib.hid ((HV4.out.below (Below.refl _ _).drew).turn ho hr.rdr)
   have hH5 : (fun V : World => V.cell? ⟨w.heap.size, 0, none⟩ = some (.func (.func 112) #[.pointer (some ⟨g, 0, none⟩)] #[]) ∧ V.cell? ⟨w.heap.size, 4, none⟩ = some (.func (.func 116) #[] #[.pointer (some ⟨fb, 0, none⟩)]) ∧ V.cell? ⟨w.heap.size + 1, 1, none⟩ = some (.int .i64 zn)) w1 := ⟨HV5.out.rdg.cell 0, HV5.out.rdg.cell 4, HV5.out.ty.cell 1⟩
   clear hr ho
   go_wp2_with fail
   refine hK.out _ _ hH5 (fun hHeld => ?_)
   clear hK K
   try simp only [Act.put, List.setIfInBounds_toArray, List.set_cons_zero, List.set_cons_succ]
   refine GT.st1 7 (fun K hK => ?_)
   go_simp
   refine (take_short g s (kp + Nz) Nm w1 HV5.out.st.rdr (by omega) (by omega) hsh (by omega)).mono ?_
   rintro e w2 ⟨rfl, hr, ho⟩
   have HV6 := Lib.hid (HV5.out.turn ho hr)
   have hH6 : (fun V : World => V.cell? ⟨w.heap.size, 0, none⟩ = some (.func (.func 112) #[.pointer (some ⟨g, 0, none⟩)] #[]) ∧ V.cell? ⟨w.heap.size, 4, none⟩ = some (.func (.func 116) #[] #[.pointer (some ⟨fb, 0, none⟩)]) ∧ V.cell? ⟨w.heap.size + 1, 1, none⟩ = some (.int .i64 zn)) w2 := ⟨HV6.out.rdg.cell 0, HV6.out.rdg.cell 4, HV6.out.ty.cell 1⟩
   clear hr ho
   go_wp2_with fail
   refine hK.out _ _ hH6 (fun hHeld => ?_)
   clear hK K
   try simp only [Act.put, List.setIfInBounds_toArray, List.set_cons_zero, List.set_cons_succ]
   refine GT.st1 8 (fun K hK => ?_)
   go_simp
   refine (text_c ⟨#[]⟩ w2).mono ?_
   rintro e w3 ⟨rfl, hb⟩
   have HV7 := Lib.hid (HV6.out.below hb)
   have hH7 : (fun V : World => V.cell? ⟨w.heap.size, 0, none⟩ = some (.func (.func 112) #[.pointer (some ⟨g, 0, none⟩)] #[]) ∧ V.cell? ⟨w.heap.size, 4, none⟩ = some (.func (.func 116) #[] #[.pointer (some ⟨fb, 0, none⟩)]) ∧ V.cell? ⟨w.heap.size + 1, 1, none⟩ = some (.int .i64 zn)) w3 := ⟨HV7.out.rdg.cell 0, HV7.out.rdg.cell 4, HV7.out.ty.cell 1⟩
   clear hb
   go_wp2_with fail
   refine hK.out _ _ hH7 (fun hHeld => ?_)
   clear hK K
   try simp only [Act.put, List.setIfInBounds_toArray, List.set_cons_zero, List.set_cons_succ]
   obtain ⟨n0, n1, n2, m0, m1, m2⟩ := blk3f HV7.out.res
   obtain ⟨e1, e2, y0, y1, y2⟩ := HV7.out.ends (.string ⟨#[]⟩) (.bool false) (.slice none 0 0)
   have E1 := Lib.hid e1
   have E2 := Lib.hid e2
   clear e1 e2
   refine GT.la1 9 ?_
   go_simp
   go_wp2
   have e1 := E1.out
   have e2 := E2.out
   refine bodyPost_ret (v := .agg #[.string ⟨#[]⟩, .bool false, .slice none 0 0]) (by simp [results, Tryz.results118, go_sem, y0, y1, y2]) rfl ?_
   exact ⟨noIt, _, _, _, kp + Nz, _, rfl, ItS.text false (by simp [ByteArray.size]), e1, e2, by omega, fun h => absurd h (show ¬ (2 : Int) = 0 by decide)⟩
  ·rw [if_neg (by omega)]
   have hX := cut_take s (kp + Nz) Nm
   have hXs : (s.extract (kp + Nz) (kp + Nz + Nm)).size = Nm := by rw [size_cut s (kp + Nz) (kp + Nz + Nm) (by omega)]; omega
   have HX : Hid ((⟨((s.data.toList.drop (kp + Nz)).take Nm).toArray⟩ : ByteArray) = s.extract (kp + Nz) (kp + Nz + Nm)) := Lib.hid (bytes_ext (by rw [hX]))
   rw [HX.out]
   have HMS : Hid ((s.extract (kp + Nz) (kp + Nz + Nm)).size ≤ 9223372036854775807) := Lib.hid (by omega)
   have HDR : Hid ((s.data.toList.drop (kp + Nz)).drop Nm = s.data.toList.drop (kp + Nz + Nm)) := Lib.hid (by rw [List.drop_drop])
   clear hX hXs
   have HV4 := Lib.hid (HV0.out.less (M - n - 1))
   generalize hW4 : W3.setCell ⟨gl, 0, none⟩ (.int .i64 (M - n - 1)) = W4 at *
   clear q0 q1 q2 q3
   obtain ⟨p0, p1, p2, p3, p4, p5⟩ := blk6 (show Blk W4 w.heap.size 174 #[_, _, _, _, _, _] from HV4.out.rdg)
   obtain ⟨q0, q1, q2, q3, _⟩ := blk4 HV4.out.ty
   unfold rdgV
   clear hS
   go_enter Tryz.func118, Tryz.ntmps118
   go_wp2_with fail
   have hlc : LaidC W4.drew := HLC.out W4 HV4.out
   refine wp_region_last 9 (fun V => V.cell? ⟨w.heap.size, 0, none⟩ = some (.func (.func 112) #[.pointer (some ⟨g, 0, none⟩)] #[]) ∧ V.cell? ⟨w.heap.size, 4, none⟩ = some (.func (.func 116) #[] #[.pointer (some ⟨fb, 0, none⟩)]) ∧ V.cell? ⟨w.heap.size + 1, 1, none⟩ = some (.int .i64 zn)) (by kernel_rfl) (by kernel_rfl) ?_
   have hHeld : (fun V : World => V.cell? ⟨w.heap.size, 0, none⟩ = some (.func (.func 112) #[.pointer (some ⟨g, 0, none⟩)] #[]) ∧ V.cell? ⟨w.heap.size, 4, none⟩ = some (.func (.func 116) #[] #[.pointer (some ⟨fb, 0, none⟩)]) ∧ V.cell? ⟨w.heap.size + 1, 1, none⟩ = some (.int .i64 zn)) W4.drew := ⟨p0, p4, q1⟩
   refine GT.tk1 0 (v := .pointer (some ⟨w.heap.size, 0, none⟩)) hHeld ?_
   refine GT.tk1 1 (v := .func (.func 112) #[.pointer (some ⟨g, 0, none⟩)] #[]) hHeld ?_
   refine GT.tk1 2 (v := .pointer (some ⟨w.heap.size, 4, none⟩)) hHeld ?_
   refine GT.tk1 3 (v := .func (.func 116) #[] #[.pointer (some ⟨fb, 0, none⟩)]) hHeld ?_
   refine GT.tk1 4 (v := .pointer (some ⟨w.heap.size + 1, 1, none⟩)) hHeld ?_
   refine GT.tk1 5 (v := .int .i64 zn) hHeld ?_
   refine GT.st1 6 (fun K hK => ?_)
   go_simp
   refine (HNC.out W4.drew HV4.out.st.drew hlc).mono ?_
   rintro e w1 ⟨rfl, hr, ho⟩
   have HV5 := Lib.hid ((HV4.out.below (Below.refl _ _).drew).turn ho hr.rdr)
   have hH5 : (fun V : World => V.cell? ⟨w.heap.size, 0, none⟩ = some (.func (.func 112) #[.pointer (some ⟨g, 0, none⟩)] #[]) ∧ V.cell? ⟨w.heap.size, 4, none⟩ = some (.func (.func 116) #[] #[.pointer (some ⟨fb, 0, none⟩)]) ∧ V.cell? ⟨w.heap.size + 1, 1, none⟩ = some (.int .i64 zn)) w1 := ⟨HV5.out.rdg.cell 0, HV5.out.rdg.cell 4, HV5.out.ty.cell 1⟩
   clear hr ho
   go_wp2_with fail
   refine hK.out _ _ hH5 (fun hHeld => ?_)
   clear hK K
   try simp only [Act.put, List.setIfInBounds_toArray, List.set_cons_zero, List.set_cons_succ]
   refine GT.st1 7 (fun K hK => ?_)
   go_simp
   refine (take_yes g s (kp + Nz) Nm w1 HV5.out.st.rdr (by omega) (by omega)).mono ?_
   rintro e w2 ⟨rfl, hr, ho⟩
   have HV6 := Lib.hid (HV5.out.turn ho hr)
   have hH6 : (fun V : World => V.cell? ⟨w.heap.size, 0, none⟩ = some (.func (.func 112) #[.pointer (some ⟨g, 0, none⟩)] #[]) ∧ V.cell? ⟨w.heap.size, 4, none⟩ = some (.func (.func 116) #[] #[.pointer (some ⟨fb, 0, none⟩)]) ∧ V.cell? ⟨w.heap.size + 1, 1, none⟩ = some (.int .i64 zn)) w2 := ⟨HV6.out.rdg.cell 0, HV6.out.rdg.cell 4, HV6.out.ty.cell 1⟩
   clear hr ho
   go_wp2_with fail
   refine hK.out _ _ hH6 (fun hHeld => ?_)
   clear hK K
   try simp only [Act.put, List.setIfInBounds_toArray, List.set_cons_zero, List.set_cons_succ]
   refine GT.st1 8 (fun K hK => ?_)
   go_simp
   refine (text_c (s.extract (kp + Nz) (kp + Nz + Nm)) w2).mono ?_
   rintro e w3 ⟨rfl, hb⟩
   have HV7 := Lib.hid (HV6.out.below hb)
   have hH7 : (fun V : World => V.cell? ⟨w.heap.size, 0, none⟩ = some (.func (.func 112) #[.pointer (some ⟨g, 0, none⟩)] #[]) ∧ V.cell? ⟨w.heap.size, 4, none⟩ = some (.func (.func 116) #[] #[.pointer (some ⟨fb, 0, none⟩)]) ∧ V.cell? ⟨w.heap.size + 1, 1, none⟩ = some (.int .i64 zn)) w3 := ⟨HV7.out.rdg.cell 0, HV7.out.rdg.cell 4, HV7.out.ty.cell 1⟩
   clear hb
   go_wp2_with fail
   refine hK.out _ _ hH7 (fun hHeld => ?_)
   clear hK K
   try simp only [Act.put, List.setIfInBounds_toArray, List.set_cons_zero, List.set_cons_succ]
   obtain ⟨n0, n1, n2, m0, m1, m2⟩ := blk3f HV7.out.res
   obtain ⟨e1, e2, y0, y1, y2⟩ := HV7.out.ends (.string (s.extract (kp + Nz) (kp + Nz + Nm))) (.bool false) (.slice none 0 0)
   have E1 := Lib.hid e1
   have E2 := Lib.hid e2
   clear e1 e2
   refine GT.la1 9 ?_
   go_simp
   go_wp2
   have e1 := E1.out
   have e2 := E2.out
   refine bodyPost_ret (v := .agg #[.string (s.extract (kp + Nz) (kp + Nz + Nm)), .bool false, .slice none 0 0]) (by simp [results, Tryz.results118, go_sem, y0, y1, y2]) rfl ?_
   exact ⟨.mk (s.extract (kp + Nz) (kp + Nz + Nm)) false [], _, _, _, kp + Nz + Nm, _, rfl, ItS.text false HMS.out, e1, e2, by omega, fun _ => ⟨rfl, HDR.out, by simp only; omega⟩⟩
def RdS.pre (acc : List It) (R : RdS) : RdS := ⟨R.e, acc ++ R.xs, R.n, R.q⟩
theorem RdS.pre_cons (acc : List It) (x : It) (R : RdS) : (R.cons x).pre acc = R.pre (acc ++ [x]) := by simp [RdS.pre, RdS.cons]
structure LiR (M : Int) (c : Nat) (s : ByteArray) (T : Nat → Ty) (th : Nat → Nat → Bool) (rest : Nat → Nat → List UInt8 → RdS) : Prop where
 done : ∀ i n r, c ≤ i → rest i n r = ⟨0, [], n, r⟩
 lack : ∀ i n k, i < c → k ≤ s.size → th i k = false → rest i n (s.data.toList.drop k) = ⟨0, [], n, s.data.toList.drop k⟩
 next : ∀ i n k, i < c → k ≤ s.size → th i k = true → rest i n (s.data.toList.drop k) = if ((T i).rd M n (s.data.toList.drop k)).e ≠ 0 then ⟨((T i).rd M n (s.data.toList.drop k)).e, [((T i).rd M n (s.data.toList.drop k)).x], ((T i).rd M n (s.data.toList.drop k)).n, ((T i).rd M n (s.data.toList.drop k)).q⟩ else (rest (i + 1) ((T i).rd M n (s.data.toList.drop k)).n ((T i).rd M n (s.data.toList.drop k)).q).cons ((T i).rd M n (s.data.toList.drop k)).x
theorem LiR.ofN (M : Int) (c : Nat) (s : ByteArray) (a : Ty) : LiR M c s (fun _ => a) (fun _ _ => true) (fun i n r => rdN (fun n r => a.rd M n r) (c - i) n r) where
 done i n r h := by rw [show c - i = 0 from by omega, rdN]
 lack i n k _ _ h := by cases h
 next i n k h _ _ := by rw [show c - i = (c - (i + 1)) + 1 from by omega, rdN]
theorem LiR.ofT (M : Int) (s : ByteArray) (l : List Ty) (ta : Int) (h0 : 0 ≤ ta) : LiR M l.length s (fun i => l[i]?.getD (.mk 0 0 [] 0)) (fun i k => decide ((i : Int) < (l.length : Int) - ta) || decide (k < s.size)) (fun i n r => rdT M (l.drop i) (((l.length : Int) - ta).toNat - i) n r) where
 done i n r h := by rw [List.drop_eq_nil_of_le h, rdT]
 lack i n k h hk hb := by
  rw [List.drop_eq_getElem_cons h, rdT]
  simp only [Bool.or_eq_false_iff, decide_eq_false_iff_not] at hb
  rw [if_pos ⟨by omega, List.drop_eq_nil_of_le (by rw [toList_size]; omega)⟩]
 next i n k h hk hb := by
  rw [List.drop_eq_getElem_cons h, rdT]
  simp only [Bool.or_eq_true, decide_eq_true_eq] at hb
  have hne : k < s.size → s.data.toList.drop k ≠ [] := fun hlt e => by
   have := congrArg List.length e
   rw [List.length_drop, toList_size] at this
   simp at this; omega
  rw [if_neg (by
   rintro ⟨h1, h2⟩
   rcases hb with hb | hb
   ·omega
   ·exact hne hb h2)]
  simp only [List.getElem?_eq_getElem h, Option.getD_some, Nat.sub_sub]
structure LiW (w : World) (g gl fb : Nat) (s : ByteArray) (k : Nat) (f m : Int) (acc : List It) (v : Value) (V : World) : Prop where
 rdg : Blk V w.heap.size 174 (rdgC g gl fb)
 res : Blk V (w.heap.size + 1) 28 #[.string ⟨#[]⟩, .bool false, .slice none 0 0]
 xb : Blk V (w.heap.size + 1 + 1) 28 #[.string ⟨#[]⟩, .bool true, v]
 its : Acc V (w.heap.size + 3) acc v
 st : LyR V g gl fb s k f m
 only : Only [g, gl] w V
 siz : w.heap.size + 3 ≤ V.heap.size
 glt : g < w.heap.size ∧ gl < w.heap.size
 fbl : fb < w.heap.size
theorem LiW.start {w : World} {g gl fb : Nat} {s : ByteArray} {k : Nat} {f m : Int} (h : LyR w g gl fb s k f m) : LiW w g gl fb s k f m [] (.slice none 0 0) (((w.alloc (.cells (rdgC g gl fb) 174)).alloc (.cells #[.string ⟨#[]⟩, .bool false, .slice none 0 0] 28)).alloc (.cells #[.string ⟨#[]⟩, .bool true, .slice none 0 0] 28)) where
 rdg := ((Blk.new w _ _).alloc _).alloc _
 res := Blk.alloc (Blk.at_ (by simp)) _
 xb := Blk.at_ (by simp)
 its := Acc.nil _ _
 st := h.below ((((Below.refl _ w).alloc (Nat.le_refl _) _).alloc (by simp) _).alloc (by simp; omega) _)
 only := (((Only.refl _ w).alloc _).alloc _).alloc _
 siz := by simp
 glt := ⟨h.rdr.lt, h.left.lt⟩
 fbl := h.box.lt
theorem LiW.below {w V V' : World} {g gl fb : Nat} {s : ByteArray} {k : Nat} {f m : Int} {acc : List It} {v : Value} (h : LiW w g gl fb s k f m acc v V) (hb : Below V.heap.size V V') : LiW w g gl fb s k f m acc v V' where
 rdg := (hb.block _ h.rdg.lt).trans h.rdg
 res := (hb.block _ h.res.lt).trans h.res
 xb := (hb.block _ h.xb.lt).trans h.xb
 its := h.its.below hb
 st := h.st.below hb
 only := h.only.trans ((Only.of_below hb (Nat.le_refl _)).mono (by simp))
 siz := Nat.le_trans h.siz hb.size
 glt := h.glt
 fbl := h.fbl
theorem LiW.turn {w V V' : World} {g gl fb : Nat} {s : ByteArray} {k k' : Nat} {f f' m m' : Int} {acc : List It} {v : Value} (h : LiW w g gl fb s k f m acc v V) (ho : Only [g, gl] V V') (hr : LyR V' g gl fb s k' f' m') : LiW w g gl fb s k' f' m' acc v V' where
 rdg := h.rdg.only ho (by have := h.glt; simp; omega)
 res := h.res.only ho (by have := h.glt; simp; omega)
 xb := h.xb.only ho (by have := h.glt; simp; omega)
 its := h.its.only ho (by have := h.glt; simp; omega)
 st := hr
 only := h.only.trans ho
 siz := Nat.le_trans h.siz ho.size
 glt := h.glt
 fbl := h.fbl
theorem LiW.more {w V V' : World} {g gl fb : Nat} {s : ByteArray} {k : Nat} {f m : Int} {acc acc' : List It} {v v' : Value} (h : LiW w g gl fb s k f m acc v V) (hg : V.grownBy V' v.ownBlock) (ha : Acc V' (w.heap.size + 3) acc' v') : LiW w g gl fb s k f m acc' v' (V'.setCell ⟨w.heap.size + 1 + 1, 2, none⟩ v') where
 rdg := (h.rdg.grown hg (fun e => by have := (h.its.ge _ e).1; omega)).far (p := ⟨w.heap.size + 1 + 1, 2, none⟩) (by simp; omega) _
 res := (h.res.grown hg (fun e => by have := (h.its.ge _ e).1; omega)).far (p := ⟨w.heap.size + 1 + 1, 2, none⟩) (by simp) _
 xb := (h.xb.grown hg (fun e => by have := (h.its.ge _ e).1; omega)).set 2 v'
 its := ha.only (L := [w.heap.size + 1 + 1]) ((Only.refl _ _).setCell (by simp) _) (by simp)
 st := ⟨Blk.far (show Blk V' g _ _ from Blk.grown h.st.rdr hg (fun e => by have := (h.its.ge _ e).1; have := h.glt; omega)) (p := ⟨w.heap.size + 1 + 1, 2, none⟩) (by have := h.glt; simp; omega) _,
  (h.st.left.grown hg (fun e => by have := (h.its.ge _ e).1; have := h.glt; omega)).far (p := ⟨w.heap.size + 1 + 1, 2, none⟩) (by have := h.glt; simp; omega) _,
  (h.st.box.grown hg (fun e => by have := (h.its.ge _ e).1; have := h.fbl; omega)).far (p := ⟨w.heap.size + 1 + 1, 2, none⟩) (by have := h.fbl; simp; omega) _⟩
 only := (h.only.grown hg (fun j hj => .inr (by have := (h.its.ge _ hj).1; omega))).setCell (by simp; omega) _
 siz := by have := h.siz; have := hg.size; simp [World.setCell]; omega
 glt := h.glt
 fbl := h.fbl
theorem LiW.cells {w V V' : World} {g gl fb : Nat} {s : ByteArray} {k : Nat} {f m : Int} {acc : List It} {v : Value} (h : LiW w g gl fb s k f m acc v V) (hg : V.grownBy V' v.ownBlock) : Blk V' w.heap.size 174 (rdgC g gl fb) ∧ Blk V' (w.heap.size + 1 + 1) 28 #[.string ⟨#[]⟩, .bool true, v] :=
 ⟨h.rdg.grown hg (fun e => by have := (h.its.ge _ e).1; omega), h.xb.grown hg (fun e => by have := (h.its.ge _ e).1; omega)⟩
theorem LiW.ends {w V : World} {g gl fb : Nat} {s : ByteArray} {k : Nat} {f m : Int} {acc : List It} {v : Value} (h : LiW w g gl fb s k f m acc v V) (u0 u1 : Value) :
 LyR (((V.setCell ⟨w.heap.size + 1, 0, none⟩ u0).setCell ⟨w.heap.size + 1, 1, none⟩ u1).setCell ⟨w.heap.size + 1, 2, none⟩ v) g gl fb s k f m ∧ Only [g, gl] w (((V.setCell ⟨w.heap.size + 1, 0, none⟩ u0).setCell ⟨w.heap.size + 1, 1, none⟩ u1).setCell ⟨w.heap.size + 1, 2, none⟩ v) ∧
 (V.setCell ⟨w.heap.size + 1, 0, none⟩ u0).cell? ⟨w.heap.size + 1, 0, none⟩ = some u0 ∧ ((V.setCell ⟨w.heap.size + 1, 0, none⟩ u0).setCell ⟨w.heap.size + 1, 1, none⟩ u1).cell? ⟨w.heap.size + 1, 1, none⟩ = some u1 ∧ (((V.setCell ⟨w.heap.size + 1, 0, none⟩ u0).setCell ⟨w.heap.size + 1, 1, none⟩ u1).setCell ⟨w.heap.size + 1, 2, none⟩ v).cell? ⟨w.heap.size + 1, 2, none⟩ = some v ∧
 Acc (((V.setCell ⟨w.heap.size + 1, 0, none⟩ u0).setCell ⟨w.heap.size + 1, 1, none⟩ u1).setCell ⟨w.heap.size + 1, 2, none⟩ v) (w.heap.size + 3) acc v :=
 ⟨h.st.set3 h.res u0 u1 v, ((h.only.setCell (by simp) _).setCell (by simp) _).setCell (by simp) _, by have := (h.res.set 0 u0).cell 0; simpa using this, by have := ((h.res.set 0 u0).set 1 u1).cell 1; simpa using this, by have := (((h.res.set 0 u0).set 1 u1).set 2 v).cell 2; simpa using this,
  h.its.only (L := [w.heap.size + 1]) ((((Only.refl _ V).setCell (by simp) _).setCell (by simp) _).setCell (by simp) _) (by simp)⟩
theorem list1_c (bt : Nat) (c : Nat) (T : Nat → Ty) (th : Nat → Nat → Bool) (rest : Nat → Nat → List UInt8 → RdS) (dA : Nat → Option Addr) (dn dc : Nat → Nat) (w : World) (g gl fb : Nat) (s : ByteArray) (k : Nat) (f m M : Int) (n0 : Nat) (hS : LyR w g gl fb s k f m) (hk : k ≤ s.size) (hs : s.size ≤ 1099511627776) (hc : c ≤ 1024) (E : Int) (R : RdS) (HR : LiR M c s T th rest)
 (hE0 : f = 0 → m = M - n0 ∧ R = rest 0 n0 (s.data.toList.drop k) ∧ E = R.e) (hE1 : f ≠ 0 → E = f)
 (HC : Hid (∀ i, i < c → ∀ V k' f' m', Only [g, gl] w V → LyR V g gl fb s k' f' m' → k' ≤ s.size → Calls Tryz.prog 159 #[.int .i64 i, .pointer (some ⟨bt, 0, none⟩)] V fun e w' => e = .returned (.tuple #[.agg #[.int .i64 (T i).kind, .int .i64 (T i).size, .slice (dA i) (dn i) (dc i), .int .i64 (T i).tail], .bool (th i k')]) ∧ Below V.heap.size V w'))
 (HV : Hid (∀ i, i < c → ∀ V k' (n' : Nat), Only [g, gl] w V → LyR V g gl fb s k' 0 (M - n') → k' ≤ s.size → Calls Tryz.prog 118 #[rdgV g gl fb, .agg #[.int .i64 (T i).kind, .int .i64 (T i).size, .slice (dA i) (dn i) (dc i), .int .i64 (T i).tail]] V fun e w' => ValEnd V g gl fb s M ((T i).rd M n' (s.data.toList.drop k')) e w')) :
 Calls Tryz.prog 158 #[rdgV g gl fb, .int .i64 c, .func (.func 159) #[] #[.pointer (some ⟨bt, 0, none⟩)]] w fun e w' => ValEnd w g gl fb s M ⟨E, .mk ⟨#[]⟩ true R.xs, R.n, R.q⟩ e w' := by
 have HW0 := Lib.hid (LiW.start hS)
 have HHR := Lib.hid HR
 have H0 : Hid ((f = 0 → ∃ nj : Nat, m = M - nj ∧ R = (rest 0 nj (s.data.toList.drop k)).pre [] ∧ E = R.e) ∧ (f ≠ 0 → E = f)) := Lib.hid ⟨fun h => by obtain ⟨h1, h2, h3⟩ := hE0 h; exact ⟨n0, h1, by rw [h2]; rfl, h3⟩, hE1⟩
 clear hS hE0 hE1 HR
 unfold rdgC at HW0
 unfold rdgV
 unfold rdgV at HV
 go_enter Tryz.func158, Tryz.ntmps158
 go_wp2_with fail
 go_loopw [13] (fun i wr => ∃ (j kj : Nat) (F mj : Int) (acc : List It) (v : Value), j ≤ c ∧ i = .int .i64 j ∧ Hid (LiW w g gl fb s kj F mj acc v wr) ∧ kj ≤ s.size ∧ acc.length ≤ j ∧ Hid ((F = 0 → ∃ nj : Nat, mj = M - nj ∧ R = (rest j nj (s.data.toList.drop kj)).pre acc ∧ E = R.e) ∧ (F ≠ 0 → E = F))) (fun i _ => c - (intOf i).toNat)
 case atStart => exact ⟨0, k, f, m, [], _, by omega, rfl, HW0, hk, by simp, H0⟩
 case round =>
  obtain ⟨j, kj, F, mj, acc, v, hj, rfl, HW, hkj, hacc, HI⟩ := hrel
  obtain ⟨A5, n5, cap5, rfl, hn5, hc5, hm5⟩ := HW.out.its.form'
  by_cases hlt : j < c
  ·have HCC := Lib.hid (HC.out j hlt wr kj F mj HW.out.only HW.out.st hkj)
   have HVV := Lib.hid (HV.out j hlt)
   obtain ⟨b, hb⟩ : ∃ b, th j kj = b := ⟨_, rfl⟩
   have HB := Lib.hid hb
   rw [hb] at HCC
   obtain ⟨nA, hnA⟩ : ∃ u, dn j = u := ⟨_, rfl⟩
   rw [hnA] at HCC HVV
   clear hb HC HV hnA
   by_cases hgo : b = true ∧ F = 0
   ·obtain ⟨rfl, rfl⟩ := hgo
    go_wp2_with fail
    refine HCC.out.mono ?_
    rintro e w1 ⟨rfl, hb⟩
    have HW1 := Lib.hid (HW.out.below hb)
    obtain ⟨r0, r1, r2, r3, r4, r5⟩ := blk6 (show Blk w1 w.heap.size 174 #[_, _, _, _, _, _] from HW1.out.rdg)
    have hz1 := HW1.out.siz
    have hlL : w.heap.size < w1.heap.size := by omega
    have HW := Lib.hid (HW1.out.below ((Below.refl _ w1).alloc (Nat.le_refl _) (.cells #[.int .i64 (T j).kind, .int .i64 (T j).size, .slice (dA j) nA (dc j), .int .i64 (T j).tail] 55)))
    clear hb
    go_wp2_with fail
    refine (fault_c g s kj 0 _ (HW1.out.st.rdr.alloc _)).mono ?_
    rintro e w' ⟨rfl, rfl⟩
    have HT := Lib.hid (Blk.new w1 55 #[.int .i64 (T j).kind, .int .i64 (T j).size, .slice (dA j) nA (dc j), .int .i64 (T j).tail])
    have HZ2 : Hid (w1.heap.size < (w1.alloc (.cells #[.int .i64 (T j).kind, .int .i64 (T j).size, .slice (dA j) nA (dc j), .int .i64 (T j).tail] 55)).heap.size) := Lib.hid (by simp)
    generalize hW2 : w1.alloc (.cells #[.int .i64 (T j).kind, .int .i64 (T j).size, .slice (dA j) nA (dc j), .int .i64 (T j).tail] 55) = W2 at *
    obtain ⟨nj, rfl, hR, hE⟩ := HI.out.1 (by simp)
    have HRE := Lib.hid (And.intro hR hE)
    have hgl := HW.out.glt
    have HG : Hid (w1.heap.size ∉ [g, gl]) := Lib.hid (by simp; omega)
    have HSS : Hid (∀ V, Blk V w.heap.size 174 (rdgC g gl fb) ∧ Blk V (w.heap.size + 1 + 1) 28 #[.string ⟨#[]⟩, .bool true, .slice A5 n5 cap5] → Blk V w1.heap.size 55 #[.int .i64 (T j).kind, .int .i64 (T j).size, .slice (dA j) nA (dc j), .int .i64 (T j).tail] → V.cell? ⟨w.heap.size, 0, none⟩ = some (.func (.func 112) #[.pointer (some ⟨g, 0, none⟩)] #[]) ∧ V.cell? ⟨w.heap.size, 1, none⟩ = some (.func (.func 113) #[.pointer (some ⟨g, 0, none⟩)] #[]) ∧ V.cell? ⟨w.heap.size, 2, none⟩ = some (.func (.func 114) #[.pointer (some ⟨g, 0, none⟩)] #[]) ∧ V.cell? ⟨w.heap.size, 3, none⟩ = some (.func (.func 115) #[.pointer (some ⟨g, 0, none⟩)] #[]) ∧ V.cell? ⟨w.heap.size, 4, none⟩ = some (.func (.func 116) #[] #[.pointer (some ⟨fb, 0, none⟩)]) ∧ V.cell? ⟨w.heap.size, 5, none⟩ = some (.pointer (some ⟨gl, 0, none⟩)) ∧ V.cell? ⟨w1.heap.size, 0, none⟩ = some (.int .i64 (T j).kind) ∧ V.cell? ⟨w1.heap.size, 1, none⟩ = some (.int .i64 (T j).size) ∧ V.cell? ⟨w1.heap.size, 2, none⟩ = some (.slice (dA j) nA (dc j)) ∧ V.cell? ⟨w1.heap.size, 3, none⟩ = some (.int .i64 (T j).tail) ∧ V.cell? ⟨w.heap.size + 1 + 1, 2, none⟩ = some (.slice A5 n5 cap5) ∧ V.frozen? ⟨w.heap.size + 1 + 1, 2, none⟩ = false) := Lib.hid (fun V h1 h2 => ⟨h1.1.cell 0, h1.1.cell 1, h1.1.cell 2, h1.1.cell 3, h1.1.cell 4, h1.1.cell 5, h2.cell 0, h2.cell 1, h2.cell 2, h2.cell 3, h1.2.cell 2, h1.2.frozen 2⟩)
    have HVJ := Lib.hid (HVV.out W2.drew kj nj HW.out.only.drew (show LyR W2.drew g gl fb s kj 0 (M - nj) from HW.out.st.drew) hkj)
    have HNX := Lib.hid (HHR.out.next j nj kj hlt hkj HB.out)
    obtain ⟨Rj, hRj⟩ : ∃ Rj, (T j).rd M nj (s.data.toList.drop kj) = Rj := ⟨_, rfl⟩
    rw [hRj] at HVJ HNX
    clear hR hE hgl hRj hz1 r0 r1 r2 r3 r4 r5
    go_wp2_with fail
    refine wp_region_last 8 (fun V => V.cell? ⟨w.heap.size, 0, none⟩ = some (.func (.func 112) #[.pointer (some ⟨g, 0, none⟩)] #[]) ∧ V.cell? ⟨w.heap.size, 1, none⟩ = some (.func (.func 113) #[.pointer (some ⟨g, 0, none⟩)] #[]) ∧ V.cell? ⟨w.heap.size, 2, none⟩ = some (.func (.func 114) #[.pointer (some ⟨g, 0, none⟩)] #[]) ∧ V.cell? ⟨w.heap.size, 3, none⟩ = some (.func (.func 115) #[.pointer (some ⟨g, 0, none⟩)] #[]) ∧ V.cell? ⟨w.heap.size, 4, none⟩ = some (.func (.func 116) #[] #[.pointer (some ⟨fb, 0, none⟩)]) ∧ V.cell? ⟨w.heap.size, 5, none⟩ = some (.pointer (some ⟨gl, 0, none⟩)) ∧ V.cell? ⟨w1.heap.size, 0, none⟩ = some (.int .i64 (T j).kind) ∧ V.cell? ⟨w1.heap.size, 1, none⟩ = some (.int .i64 (T j).size) ∧ V.cell? ⟨w1.heap.size, 2, none⟩ = some (.slice (dA j) nA (dc j)) ∧ V.cell? ⟨w1.heap.size, 3, none⟩ = some (.int .i64 (T j).tail) ∧ V.cell? ⟨w.heap.size + 1 + 1, 2, none⟩ = some (.slice A5 n5 cap5) ∧ V.frozen? ⟨w.heap.size + 1 + 1, 2, none⟩ = false) (by kernel_rfl) (by kernel_rfl) ?_
    have hHeld := HSS.out W2.drew ⟨HW.out.rdg.drew, HW.out.xb.drew⟩ HT.out.drew
    refine GT.tk1 0 hHeld ?_
    refine GT.tk1 1 hHeld ?_
    refine GT.tk1 2 hHeld ?_
    refine GT.tk1 3 hHeld ?_
    refine GT.st1 4 (fun K hK => ?_)
    go_simp
    refine HVJ.out.mono ?_
    rintro e w3 ⟨X, c0, c1, c2, k', m', rfl, hX, hly, ho, hk', hcond⟩
    have HW3 := Lib.hid ((HW.out.below (Below.refl _ W2).drew).turn ho hly)
    have HT3 := Lib.hid (HT.out.drew.only ho HG.out)
    have HCD := Lib.hid hcond
    have HX := Lib.hid hX
    have HO3 : Hid (W2.heap.size ≤ w3.heap.size) := Lib.hid ho.size
    obtain ⟨ax, bx, rfl, rfl, rfl, _⟩ := hX.open_
    clear hX hly ho hcond
    go_wp2_with fail
    refine hK.out _ _ (HSS.out w3 ⟨HW3.out.rdg, HW3.out.xb⟩ HT3.out) (fun hHeld => ?_)
    clear hK K
    try simp only [Act.put, List.setIfInBounds_toArray, List.set_cons_zero, List.set_cons_succ]
    refine GT.st1 5 (fun K hK => ?_)
    go_simp
    refine hK.out _ _ (HSS.out _ ⟨HW3.out.rdg.alloc _, HW3.out.xb.alloc _⟩ (HT3.out.alloc _)) (fun hHeld => ?_)
    clear hK K
    try simp only [Act.put, List.setIfInBounds_toArray, List.set_cons_zero, List.set_cons_succ]
    refine GT.st1 6 (fun K hK => ?_)
    have HYY : Hid (ItS (w3.alloc (.cells #[.string X.text, .bool X.list, .slice ax X.sub.length bx] 28)) (fun q => w.heap.size + 3 ≤ q ∧ (Value.slice A5 n5 cap5).ownBlock ≠ some q) X (.string X.text) (.bool X.list) (.slice ax X.sub.length bx)) := Lib.hid ((HX.out.below ((Below.refl _ w3).alloc (Nat.le_refl _) _)).weak (fun q _ hq => ⟨by have := HW.out.siz; simp at hq; omega, fun e => by have := (HW.out.its.ge _ e).2; simp at hq; omega⟩))
    have hl1000 : acc.length ≤ 1000000 := by omega
    have hlo3 : w.heap.size + 3 ≤ (w3.alloc (.cells #[.string X.text, .bool X.list, .slice ax X.sub.length bx] 28)).heap.size := by have := HW3.out.siz; simp; omega
    refine step_append_itemR (by rfl) (.tmp 31) (.tmp 35) (by rfl) (w.heap.size + 3) acc (by rfl) (HW3.out.its.below ((Below.refl _ w3).alloc (Nat.le_refl _) _)) X HYY.out _ (by rfl) (by simp) (by simp) (by simp) hl1000 hlo3 ?_
    intro g' n' cap' w5 hn' hacc5 hgr hlo5
    have HW4 := Lib.hid (HW3.out.below ((Below.refl _ w3).alloc (Nat.le_refl _) (.cells #[.string X.text, .bool X.list, .slice ax X.sub.length bx] 28)))
    have HT5 := Lib.hid ((HT3.out.alloc _).grown hgr (fun e => by have := (HW1.out.its.ge _ e).2; omega))
    have HW5 := Lib.hid (HW4.out.more hgr hacc5)
    refine hK.out _ _ (HSS.out w5 (HW4.out.cells hgr) HT5.out) (fun hHeld => ?_)
    clear hK K
    try simp only [Act.put, List.setIfInBounds_toArray, List.set_cons_zero, List.set_cons_succ]
    refine GT.tk1 7 hHeld ?_
    refine GT.la1 8 ?_
    obtain ⟨z0, z1, z2, z3, z4, z5, z6, z7, z8, z9, z10, z11⟩ := hHeld
    have hz5 := HW5.out.siz
    clear hacc5 hgr
    go_simp
    all_goals
     go_wp2
     go_roundw
     case rel =>
      refine ⟨j + 1, k', Rj.e, m', acc ++ [X], _, by omega, by go_num, HW5, hk', by simp; omega, Lib.hid ⟨fun h0 => ?_, fun h0 => ?_⟩⟩
      ·obtain ⟨g1, g2, g3⟩ := HCD.out h0
       have e1 := HNX.out
       rw [if_neg (by simp [h0])] at e1
       refine ⟨Rj.n, g3, ?_, HRE.out.2⟩
       rw [HRE.out.1, e1, RdS.pre_cons, g1, g2]
      ·have e1 := HNX.out
       rw [if_pos h0] at e1
       rw [HRE.out.2, HRE.out.1, e1]
       rfl
     case measure => simp [intOf]; omega
   ·have HEF : Hid (E = F ∧ (E = 0 → R.xs = acc ∧ R.q = s.data.toList.drop kj ∧ mj = M - R.n)) := Lib.hid (by
     by_cases hF : F = 0
     ·obtain ⟨nj, h1, h2, h3⟩ := HI.out.1 hF
      rw [HHR.out.lack _ _ _ hlt hkj (by cases b <;> simp_all [HB.out])] at h2
      subst h2
      exact ⟨by rw [h3, hF]; rfl, fun _ => ⟨by simp [RdS.pre], rfl, h1⟩⟩
     ·exact ⟨HI.out.2 hF, fun h => absurd ((HI.out.2 hF).symm.trans h) hF⟩)
    obtain rfl : F = E := HEF.out.1.symm
    cases b with
    | false =>
     go_wp2_with fail
     refine HCC.out.mono ?_
     rintro e w1 ⟨rfl, hb⟩
     have HW1 := Lib.hid (HW.out.below hb)
     obtain ⟨r0, r1, r2, r3, r4, r5⟩ := blk6 (show Blk w1 w.heap.size 174 #[_, _, _, _, _, _] from HW1.out.rdg)
     have hz1 := HW1.out.siz
     have hlL : w.heap.size < w1.heap.size := by omega
     have HW := Lib.hid (HW1.out.below ((Below.refl _ w1).alloc (Nat.le_refl _) (.cells #[.int .i64 (T j).kind, .int .i64 (T j).size, .slice (dA j) nA (dc j), .int .i64 (T j).tail] 55)))
     clear hb
     obtain ⟨n0, n1, n2, m0, m1, m2⟩ := blk3f HW.out.res
     obtain ⟨x0, x1, x2, _, _, _⟩ := blk3f HW.out.xb
     obtain ⟨e1, e2, y0, y1, y2, ha⟩ := HW.out.ends (.string ⟨#[]⟩) (.bool true)
     have E1 := Lib.hid e1
     have E2 := Lib.hid e2
     have HA := Lib.hid (ha.list (by omega))
     clear e1 e2 ha
     go_wp2
     have e1 := E1.out
     refine bodyPost_ret (v := .agg #[.string ⟨#[]⟩, .bool true, .slice A5 n5 cap5]) (by simp [results, Tryz.results158, go_sem, y0, y1, y2]) rfl ?_
     refine ⟨_, _, _, _, kj, mj, rfl, HA.out.weak (fun _ _ h => by omega), e1, E2.out, hkj, fun h => ?_⟩
     obtain ⟨h1, h2, h3⟩ := HEF.out.2 h
     exact ⟨by rw [h1], h2, h3⟩
    | true =>
     have hF : (F != 0) = true := bne_iff_ne.2 (fun h => hgo ⟨rfl, h⟩)
     go_wp2_with fail
     refine HCC.out.mono ?_
     rintro e w1 ⟨rfl, hb⟩
     have HW1 := Lib.hid (HW.out.below hb)
     obtain ⟨r0, r1, r2, r3, r4, r5⟩ := blk6 (show Blk w1 w.heap.size 174 #[_, _, _, _, _, _] from HW1.out.rdg)
     have hz1 := HW1.out.siz
     have hlL : w.heap.size < w1.heap.size := by omega
     have HW := Lib.hid (HW1.out.below ((Below.refl _ w1).alloc (Nat.le_refl _) (.cells #[.int .i64 (T j).kind, .int .i64 (T j).size, .slice (dA j) nA (dc j), .int .i64 (T j).tail] 55)))
     clear hb
     go_wp2_with fail
     refine (fault_c g s kj F _ (HW1.out.st.rdr.alloc _)).mono ?_
     rintro e w' ⟨rfl, rfl⟩
     obtain ⟨n0, n1, n2, m0, m1, m2⟩ := blk3f HW.out.res
     obtain ⟨x0, x1, x2, _, _, _⟩ := blk3f HW.out.xb
     obtain ⟨e1, e2, y0, y1, y2, ha⟩ := HW.out.ends (.string ⟨#[]⟩) (.bool true)
     have E1 := Lib.hid e1
     have E2 := Lib.hid e2
     have HA := Lib.hid (ha.list (by omega))
     clear e1 e2 ha
     go_wp2
     have e1 := E1.out
     refine bodyPost_ret (v := .agg #[.string ⟨#[]⟩, .bool true, .slice A5 n5 cap5]) (by simp [results, Tryz.results158, go_sem, y0, y1, y2]) rfl ?_
     refine ⟨_, _, _, _, kj, mj, rfl, HA.out.weak (fun _ _ h => by omega), e1, E2.out, hkj, fun h => ?_⟩
     obtain ⟨h1, h2, h3⟩ := HEF.out.2 h
     exact ⟨by rw [h1], h2, h3⟩
  ·have HEF : Hid (E = F ∧ (E = 0 → R.xs = acc ∧ R.q = s.data.toList.drop kj ∧ mj = M - R.n)) := Lib.hid (by
    by_cases hF : F = 0
    ·obtain ⟨nj, h1, h2, h3⟩ := HI.out.1 hF
     rw [HHR.out.done _ _ _ (by omega)] at h2
     subst h2
     exact ⟨by rw [h3, hF]; rfl, fun _ => ⟨by simp [RdS.pre], rfl, h1⟩⟩
    ·exact ⟨HI.out.2 hF, fun h => absurd ((HI.out.2 hF).symm.trans h) hF⟩)
   obtain rfl : F = E := HEF.out.1.symm
   obtain ⟨n0, n1, n2, m0, m1, m2⟩ := blk3f HW.out.res
   obtain ⟨x0, x1, x2, _, _, _⟩ := blk3f HW.out.xb
   obtain ⟨e1, e2, y0, y1, y2, ha⟩ := HW.out.ends (.string ⟨#[]⟩) (.bool true)
   have E1 := Lib.hid e1
   have E2 := Lib.hid e2
   have HA := Lib.hid (ha.list (by omega))
   clear e1 e2 ha
   go_wp2
   have e1 := E1.out
   refine bodyPost_ret (v := .agg #[.string ⟨#[]⟩, .bool true, .slice A5 n5 cap5]) (by simp [results, Tryz.results158, go_sem, y0, y1, y2]) rfl ?_
   refine ⟨_, _, _, _, kj, mj, rfl, HA.out.weak (fun _ _ h => by omega), e1, E2.out, hkj, fun h => ?_⟩
   obtain ⟨h1, h2, h3⟩ := HEF.out.2 h
   exact ⟨by rw [h1], h2, h3⟩
theorem list2_c (bt br : Nat) (c : Nat) (T : Nat → Ty) (th : Nat → Nat → Bool) (rest : Nat → Nat → List UInt8 → RdS) (dA : Nat → Option Addr) (dn dc : Nat → Nat) (w : World) (g gl fb : Nat) (s : ByteArray) (k : Nat) (f m M : Int) (n0 : Nat) (hS : LyR w g gl fb s k f m) (hk : k ≤ s.size) (hs : s.size ≤ 1099511627776) (hc : c ≤ 1024) (E : Int) (R : RdS) (HR : LiR M c s T th rest)
 (hE0 : f = 0 → m = M - n0 ∧ R = rest 0 n0 (s.data.toList.drop k) ∧ E = R.e) (hE1 : f ≠ 0 → E = f)
 (HC : Hid (∀ i, i < c → ∀ V k' f' m', Only [g, gl] w V → LyR V g gl fb s k' f' m' → k' ≤ s.size → Calls Tryz.prog 160 #[.int .i64 i, .pointer (some ⟨bt, 0, none⟩), .pointer (some ⟨br, 0, none⟩)] V fun e w' => e = .returned (.tuple #[.agg #[.int .i64 (T i).kind, .int .i64 (T i).size, .slice (dA i) (dn i) (dc i), .int .i64 (T i).tail], .bool (th i k')]) ∧ Below V.heap.size V w'))
 (HV : Hid (∀ i, i < c → ∀ V k' (n' : Nat), Only [g, gl] w V → LyR V g gl fb s k' 0 (M - n') → k' ≤ s.size → Calls Tryz.prog 118 #[rdgV g gl fb, .agg #[.int .i64 (T i).kind, .int .i64 (T i).size, .slice (dA i) (dn i) (dc i), .int .i64 (T i).tail]] V fun e w' => ValEnd V g gl fb s M ((T i).rd M n' (s.data.toList.drop k')) e w')) :
 Calls Tryz.prog 158 #[rdgV g gl fb, .int .i64 c, .func (.func 160) #[] #[.pointer (some ⟨bt, 0, none⟩), .pointer (some ⟨br, 0, none⟩)]] w fun e w' => ValEnd w g gl fb s M ⟨E, .mk ⟨#[]⟩ true R.xs, R.n, R.q⟩ e w' := by
 have HW0 := Lib.hid (LiW.start hS)
 have HHR := Lib.hid HR
 have H0 : Hid ((f = 0 → ∃ nj : Nat, m = M - nj ∧ R = (rest 0 nj (s.data.toList.drop k)).pre [] ∧ E = R.e) ∧ (f ≠ 0 → E = f)) := Lib.hid ⟨fun h => by obtain ⟨h1, h2, h3⟩ := hE0 h; exact ⟨n0, h1, by rw [h2]; rfl, h3⟩, hE1⟩
 clear hS hE0 hE1 HR
 unfold rdgC at HW0
 unfold rdgV
 unfold rdgV at HV
 go_enter Tryz.func158, Tryz.ntmps158
 go_wp2_with fail
 go_loopw [13] (fun i wr => ∃ (j kj : Nat) (F mj : Int) (acc : List It) (v : Value), j ≤ c ∧ i = .int .i64 j ∧ Hid (LiW w g gl fb s kj F mj acc v wr) ∧ kj ≤ s.size ∧ acc.length ≤ j ∧ Hid ((F = 0 → ∃ nj : Nat, mj = M - nj ∧ R = (rest j nj (s.data.toList.drop kj)).pre acc ∧ E = R.e) ∧ (F ≠ 0 → E = F))) (fun i _ => c - (intOf i).toNat)
 case atStart => exact ⟨0, k, f, m, [], _, by omega, rfl, HW0, hk, by simp, H0⟩
 case round =>
  obtain ⟨j, kj, F, mj, acc, v, hj, rfl, HW, hkj, hacc, HI⟩ := hrel
  obtain ⟨A5, n5, cap5, rfl, hn5, hc5, hm5⟩ := HW.out.its.form'
  by_cases hlt : j < c
  ·have HCC := Lib.hid (HC.out j hlt wr kj F mj HW.out.only HW.out.st hkj)
   have HVV := Lib.hid (HV.out j hlt)
   obtain ⟨b, hb⟩ : ∃ b, th j kj = b := ⟨_, rfl⟩
   have HB := Lib.hid hb
   rw [hb] at HCC
   obtain ⟨nA, hnA⟩ : ∃ u, dn j = u := ⟨_, rfl⟩
   rw [hnA] at HCC HVV
   clear hb HC HV hnA
   by_cases hgo : b = true ∧ F = 0
   ·obtain ⟨rfl, rfl⟩ := hgo
    go_wp2_with fail
    refine HCC.out.mono ?_
    rintro e w1 ⟨rfl, hb⟩
    have HW1 := Lib.hid (HW.out.below hb)
    obtain ⟨r0, r1, r2, r3, r4, r5⟩ := blk6 (show Blk w1 w.heap.size 174 #[_, _, _, _, _, _] from HW1.out.rdg)
    have hz1 := HW1.out.siz
    have hlL : w.heap.size < w1.heap.size := by omega
    have HW := Lib.hid (HW1.out.below ((Below.refl _ w1).alloc (Nat.le_refl _) (.cells #[.int .i64 (T j).kind, .int .i64 (T j).size, .slice (dA j) nA (dc j), .int .i64 (T j).tail] 55)))
    clear hb
    go_wp2_with fail
    refine (fault_c g s kj 0 _ (HW1.out.st.rdr.alloc _)).mono ?_
    rintro e w' ⟨rfl, rfl⟩
    have HT := Lib.hid (Blk.new w1 55 #[.int .i64 (T j).kind, .int .i64 (T j).size, .slice (dA j) nA (dc j), .int .i64 (T j).tail])
    have HZ2 : Hid (w1.heap.size < (w1.alloc (.cells #[.int .i64 (T j).kind, .int .i64 (T j).size, .slice (dA j) nA (dc j), .int .i64 (T j).tail] 55)).heap.size) := Lib.hid (by simp)
    generalize hW2 : w1.alloc (.cells #[.int .i64 (T j).kind, .int .i64 (T j).size, .slice (dA j) nA (dc j), .int .i64 (T j).tail] 55) = W2 at *
    obtain ⟨nj, rfl, hR, hE⟩ := HI.out.1 (by simp)
    have HRE := Lib.hid (And.intro hR hE)
    have hgl := HW.out.glt
    have HG : Hid (w1.heap.size ∉ [g, gl]) := Lib.hid (by simp; omega)
    have HSS : Hid (∀ V, Blk V w.heap.size 174 (rdgC g gl fb) ∧ Blk V (w.heap.size + 1 + 1) 28 #[.string ⟨#[]⟩, .bool true, .slice A5 n5 cap5] → Blk V w1.heap.size 55 #[.int .i64 (T j).kind, .int .i64 (T j).size, .slice (dA j) nA (dc j), .int .i64 (T j).tail] → V.cell? ⟨w.heap.size, 0, none⟩ = some (.func (.func 112) #[.pointer (some ⟨g, 0, none⟩)] #[]) ∧ V.cell? ⟨w.heap.size, 1, none⟩ = some (.func (.func 113) #[.pointer (some ⟨g, 0, none⟩)] #[]) ∧ V.cell? ⟨w.heap.size, 2, none⟩ = some (.func (.func 114) #[.pointer (some ⟨g, 0, none⟩)] #[]) ∧ V.cell? ⟨w.heap.size, 3, none⟩ = some (.func (.func 115) #[.pointer (some ⟨g, 0, none⟩)] #[]) ∧ V.cell? ⟨w.heap.size, 4, none⟩ = some (.func (.func 116) #[] #[.pointer (some ⟨fb, 0, none⟩)]) ∧ V.cell? ⟨w.heap.size, 5, none⟩ = some (.pointer (some ⟨gl, 0, none⟩)) ∧ V.cell? ⟨w1.heap.size, 0, none⟩ = some (.int .i64 (T j).kind) ∧ V.cell? ⟨w1.heap.size, 1, none⟩ = some (.int .i64 (T j).size) ∧ V.cell? ⟨w1.heap.size, 2, none⟩ = some (.slice (dA j) nA (dc j)) ∧ V.cell? ⟨w1.heap.size, 3, none⟩ = some (.int .i64 (T j).tail) ∧ V.cell? ⟨w.heap.size + 1 + 1, 2, none⟩ = some (.slice A5 n5 cap5) ∧ V.frozen? ⟨w.heap.size + 1 + 1, 2, none⟩ = false) := Lib.hid (fun V h1 h2 => ⟨h1.1.cell 0, h1.1.cell 1, h1.1.cell 2, h1.1.cell 3, h1.1.cell 4, h1.1.cell 5, h2.cell 0, h2.cell 1, h2.cell 2, h2.cell 3, h1.2.cell 2, h1.2.frozen 2⟩)
    have HVJ := Lib.hid (HVV.out W2.drew kj nj HW.out.only.drew (show LyR W2.drew g gl fb s kj 0 (M - nj) from HW.out.st.drew) hkj)
    have HNX := Lib.hid (HHR.out.next j nj kj hlt hkj HB.out)
    obtain ⟨Rj, hRj⟩ : ∃ Rj, (T j).rd M nj (s.data.toList.drop kj) = Rj := ⟨_, rfl⟩
    rw [hRj] at HVJ HNX
    clear hR hE hgl hRj hz1 r0 r1 r2 r3 r4 r5
    go_wp2_with fail
    refine wp_region_last 8 (fun V => V.cell? ⟨w.heap.size, 0, none⟩ = some (.func (.func 112) #[.pointer (some ⟨g, 0, none⟩)] #[]) ∧ V.cell? ⟨w.heap.size, 1, none⟩ = some (.func (.func 113) #[.pointer (some ⟨g, 0, none⟩)] #[]) ∧ V.cell? ⟨w.heap.size, 2, none⟩ = some (.func (.func 114) #[.pointer (some ⟨g, 0, none⟩)] #[]) ∧ V.cell? ⟨w.heap.size, 3, none⟩ = some (.func (.func 115) #[.pointer (some ⟨g, 0, none⟩)] #[]) ∧ V.cell? ⟨w.heap.size, 4, none⟩ = some (.func (.func 116) #[] #[.pointer (some ⟨fb, 0, none⟩)]) ∧ V.cell? ⟨w.heap.size, 5, none⟩ = some (.pointer (some ⟨gl, 0, none⟩)) ∧ V.cell? ⟨w1.heap.size, 0, none⟩ = some (.int .i64 (T j).kind) ∧ V.cell? ⟨w1.heap.size, 1, none⟩ = some (.int .i64 (T j).size) ∧ V.cell? ⟨w1.heap.size, 2, none⟩ = some (.slice (dA j) nA (dc j)) ∧ V.cell? ⟨w1.heap.size, 3, none⟩ = some (.int .i64 (T j).tail) ∧ V.cell? ⟨w.heap.size + 1 + 1, 2, none⟩ = some (.slice A5 n5 cap5) ∧ V.frozen? ⟨w.heap.size + 1 + 1, 2, none⟩ = false) (by kernel_rfl) (by kernel_rfl) ?_
    have hHeld := HSS.out W2.drew ⟨HW.out.rdg.drew, HW.out.xb.drew⟩ HT.out.drew
    refine GT.tk1 0 hHeld ?_
    refine GT.tk1 1 hHeld ?_
    refine GT.tk1 2 hHeld ?_
    refine GT.tk1 3 hHeld ?_
    refine GT.st1 4 (fun K hK => ?_)
    go_simp
    refine HVJ.out.mono ?_
    rintro e w3 ⟨X, c0, c1, c2, k', m', rfl, hX, hly, ho, hk', hcond⟩
    have HW3 := Lib.hid ((HW.out.below (Below.refl _ W2).drew).turn ho hly)
    have HT3 := Lib.hid (HT.out.drew.only ho HG.out)
    have HCD := Lib.hid hcond
    have HX := Lib.hid hX
    have HO3 : Hid (W2.heap.size ≤ w3.heap.size) := Lib.hid ho.size
    obtain ⟨ax, bx, rfl, rfl, rfl, _⟩ := hX.open_
    clear hX hly ho hcond
    go_wp2_with fail
    refine hK.out _ _ (HSS.out w3 ⟨HW3.out.rdg, HW3.out.xb⟩ HT3.out) (fun hHeld => ?_)
    clear hK K
    try simp only [Act.put, List.setIfInBounds_toArray, List.set_cons_zero, List.set_cons_succ]
    refine GT.st1 5 (fun K hK => ?_)
    go_simp
    refine hK.out _ _ (HSS.out _ ⟨HW3.out.rdg.alloc _, HW3.out.xb.alloc _⟩ (HT3.out.alloc _)) (fun hHeld => ?_)
    clear hK K
    try simp only [Act.put, List.setIfInBounds_toArray, List.set_cons_zero, List.set_cons_succ]
    refine GT.st1 6 (fun K hK => ?_)
    have HYY : Hid (ItS (w3.alloc (.cells #[.string X.text, .bool X.list, .slice ax X.sub.length bx] 28)) (fun q => w.heap.size + 3 ≤ q ∧ (Value.slice A5 n5 cap5).ownBlock ≠ some q) X (.string X.text) (.bool X.list) (.slice ax X.sub.length bx)) := Lib.hid ((HX.out.below ((Below.refl _ w3).alloc (Nat.le_refl _) _)).weak (fun q _ hq => ⟨by have := HW.out.siz; simp at hq; omega, fun e => by have := (HW.out.its.ge _ e).2; simp at hq; omega⟩))
    have hl1000 : acc.length ≤ 1000000 := by omega
    have hlo3 : w.heap.size + 3 ≤ (w3.alloc (.cells #[.string X.text, .bool X.list, .slice ax X.sub.length bx] 28)).heap.size := by have := HW3.out.siz; simp; omega
    refine step_append_itemR (by rfl) (.tmp 31) (.tmp 35) (by rfl) (w.heap.size + 3) acc (by rfl) (HW3.out.its.below ((Below.refl _ w3).alloc (Nat.le_refl _) _)) X HYY.out _ (by rfl) (by simp) (by simp) (by simp) hl1000 hlo3 ?_
    intro g' n' cap' w5 hn' hacc5 hgr hlo5
    have HW4 := Lib.hid (HW3.out.below ((Below.refl _ w3).alloc (Nat.le_refl _) (.cells #[.string X.text, .bool X.list, .slice ax X.sub.length bx] 28)))
    have HT5 := Lib.hid ((HT3.out.alloc _).grown hgr (fun e => by have := (HW1.out.its.ge _ e).2; omega))
    have HW5 := Lib.hid (HW4.out.more hgr hacc5)
    refine hK.out _ _ (HSS.out w5 (HW4.out.cells hgr) HT5.out) (fun hHeld => ?_)
    clear hK K
    try simp only [Act.put, List.setIfInBounds_toArray, List.set_cons_zero, List.set_cons_succ]
    refine GT.tk1 7 hHeld ?_
    refine GT.la1 8 ?_
    obtain ⟨z0, z1, z2, z3, z4, z5, z6, z7, z8, z9, z10, z11⟩ := hHeld
    have hz5 := HW5.out.siz
    clear hacc5 hgr
    go_simp
    all_goals
     go_wp2
     go_roundw
     case rel =>
      refine ⟨j + 1, k', Rj.e, m', acc ++ [X], _, by omega, by go_num, HW5, hk', by simp; omega, Lib.hid ⟨fun h0 => ?_, fun h0 => ?_⟩⟩
      ·obtain ⟨g1, g2, g3⟩ := HCD.out h0
       have e1 := HNX.out
       rw [if_neg (by simp [h0])] at e1
       refine ⟨Rj.n, g3, ?_, HRE.out.2⟩
       rw [HRE.out.1, e1, RdS.pre_cons, g1, g2]
      ·have e1 := HNX.out
       rw [if_pos h0] at e1
       rw [HRE.out.2, HRE.out.1, e1]
       rfl
     case measure => simp [intOf]; omega
   ·have HEF : Hid (E = F ∧ (E = 0 → R.xs = acc ∧ R.q = s.data.toList.drop kj ∧ mj = M - R.n)) := Lib.hid (by
     by_cases hF : F = 0
     ·obtain ⟨nj, h1, h2, h3⟩ := HI.out.1 hF
      rw [HHR.out.lack _ _ _ hlt hkj (by cases b <;> simp_all [HB.out])] at h2
      subst h2
      exact ⟨by rw [h3, hF]; rfl, fun _ => ⟨by simp [RdS.pre], rfl, h1⟩⟩
     ·exact ⟨HI.out.2 hF, fun h => absurd ((HI.out.2 hF).symm.trans h) hF⟩)
    obtain rfl : F = E := HEF.out.1.symm
    cases b with
    | false =>
     go_wp2_with fail
     refine HCC.out.mono ?_
     rintro e w1 ⟨rfl, hb⟩
     have HW1 := Lib.hid (HW.out.below hb)
     obtain ⟨r0, r1, r2, r3, r4, r5⟩ := blk6 (show Blk w1 w.heap.size 174 #[_, _, _, _, _, _] from HW1.out.rdg)
     have hz1 := HW1.out.siz
     have hlL : w.heap.size < w1.heap.size := by omega
     have HW := Lib.hid (HW1.out.below ((Below.refl _ w1).alloc (Nat.le_refl _) (.cells #[.int .i64 (T j).kind, .int .i64 (T j).size, .slice (dA j) nA (dc j), .int .i64 (T j).tail] 55)))
     clear hb
     obtain ⟨n0, n1, n2, m0, m1, m2⟩ := blk3f HW.out.res
     obtain ⟨x0, x1, x2, _, _, _⟩ := blk3f HW.out.xb
     obtain ⟨e1, e2, y0, y1, y2, ha⟩ := HW.out.ends (.string ⟨#[]⟩) (.bool true)
     have E1 := Lib.hid e1
     have E2 := Lib.hid e2
     have HA := Lib.hid (ha.list (by omega))
     clear e1 e2 ha
     go_wp2
     have e1 := E1.out
     refine bodyPost_ret (v := .agg #[.string ⟨#[]⟩, .bool true, .slice A5 n5 cap5]) (by simp [results, Tryz.results158, go_sem, y0, y1, y2]) rfl ?_
     refine ⟨_, _, _, _, kj, mj, rfl, HA.out.weak (fun _ _ h => by omega), e1, E2.out, hkj, fun h => ?_⟩
     obtain ⟨h1, h2, h3⟩ := HEF.out.2 h
     exact ⟨by rw [h1], h2, h3⟩
    | true =>
     have hF : (F != 0) = true := bne_iff_ne.2 (fun h => hgo ⟨rfl, h⟩)
     go_wp2_with fail
     refine HCC.out.mono ?_
     rintro e w1 ⟨rfl, hb⟩
     have HW1 := Lib.hid (HW.out.below hb)
     obtain ⟨r0, r1, r2, r3, r4, r5⟩ := blk6 (show Blk w1 w.heap.size 174 #[_, _, _, _, _, _] from HW1.out.rdg)
     have hz1 := HW1.out.siz
     have hlL : w.heap.size < w1.heap.size := by omega
     have HW := Lib.hid (HW1.out.below ((Below.refl _ w1).alloc (Nat.le_refl _) (.cells #[.int .i64 (T j).kind, .int .i64 (T j).size, .slice (dA j) nA (dc j), .int .i64 (T j).tail] 55)))
     clear hb
     go_wp2_with fail
     refine (fault_c g s kj F _ (HW1.out.st.rdr.alloc _)).mono ?_
     rintro e w' ⟨rfl, rfl⟩
     obtain ⟨n0, n1, n2, m0, m1, m2⟩ := blk3f HW.out.res
     obtain ⟨x0, x1, x2, _, _, _⟩ := blk3f HW.out.xb
     obtain ⟨e1, e2, y0, y1, y2, ha⟩ := HW.out.ends (.string ⟨#[]⟩) (.bool true)
     have E1 := Lib.hid e1
     have E2 := Lib.hid e2
     have HA := Lib.hid (ha.list (by omega))
     clear e1 e2 ha
     go_wp2
     have e1 := E1.out
     refine bodyPost_ret (v := .agg #[.string ⟨#[]⟩, .bool true, .slice A5 n5 cap5]) (by simp [results, Tryz.results158, go_sem, y0, y1, y2]) rfl ?_
     refine ⟨_, _, _, _, kj, mj, rfl, HA.out.weak (fun _ _ h => by omega), e1, E2.out, hkj, fun h => ?_⟩
     obtain ⟨h1, h2, h3⟩ := HEF.out.2 h
     exact ⟨by rw [h1], h2, h3⟩
  ·have HEF : Hid (E = F ∧ (E = 0 → R.xs = acc ∧ R.q = s.data.toList.drop kj ∧ mj = M - R.n)) := Lib.hid (by
    by_cases hF : F = 0
    ·obtain ⟨nj, h1, h2, h3⟩ := HI.out.1 hF
     rw [HHR.out.done _ _ _ (by omega)] at h2
     subst h2
     exact ⟨by rw [h3, hF]; rfl, fun _ => ⟨by simp [RdS.pre], rfl, h1⟩⟩
    ·exact ⟨HI.out.2 hF, fun h => absurd ((HI.out.2 hF).symm.trans h) hF⟩)
   obtain rfl : F = E := HEF.out.1.symm
   obtain ⟨n0, n1, n2, m0, m1, m2⟩ := blk3f HW.out.res
   obtain ⟨x0, x1, x2, _, _, _⟩ := blk3f HW.out.xb
   obtain ⟨e1, e2, y0, y1, y2, ha⟩ := HW.out.ends (.string ⟨#[]⟩) (.bool true)
   have E1 := Lib.hid e1
   have E2 := Lib.hid e2
   have HA := Lib.hid (ha.list (by omega))
   clear e1 e2 ha
   go_wp2
   have e1 := E1.out
   refine bodyPost_ret (v := .agg #[.string ⟨#[]⟩, .bool true, .slice A5 n5 cap5]) (by simp [results, Tryz.results158, go_sem, y0, y1, y2]) rfl ?_
   refine ⟨_, _, _, _, kj, mj, rfl, HA.out.weak (fun _ _ h => by omega), e1, E2.out, hkj, fun h => ?_⟩
   obtain ⟨h1, h2, h3⟩ := HEF.out.2 h
   exact ⟨by rw [h1], h2, h3⟩
theorem VaW.turn2 {w V V' : World} {g gl fb : Nat} {s : ByteArray} {k k' : Nat} {f f' m m' : Int} {tc : Array Value} (h : VaW w g gl fb s k f m tc V) (ho : Only [g, gl] V V') (hr : LyR V' g gl fb s k' f' m') : VaW w g gl fb s k' f' m' tc V' where
 rdg := h.rdg.only ho (by simp [h.rdg.neL h.st.rdr (by decide), h.rdg.neL h.st.left (by decide)])
 ty := h.ty.only ho (by simp [h.ty.neL h.st.rdr (by decide), h.ty.neL h.st.left (by decide)])
 res := h.res.only ho (by simp [h.res.neL h.st.rdr (by decide), h.res.neL h.st.left (by decide)])
 st := hr
 only := h.only.trans ho
 siz := Nat.le_trans h.siz ho.size
theorem ItS.set3 {w : World} {B b : Nat} {X : It} {c0 c1 c2 : Value} (h : ItS w (B ≤ ·) X c0 c1 c2) (hb : b < B) (u0 u1 u2 : Value) : ItS (((w.setCell ⟨b, 0, none⟩ u0).setCell ⟨b, 1, none⟩ u1).setCell ⟨b, 2, none⟩ u2) (B ≤ ·) X c0 c1 c2 :=
 h.only (L := [b]) ((((Only.refl _ w).setCell (by simp) _).setCell (by simp) _).setCell (by simp) _) (by simp; omega) (fun _ _ h => h)
theorem value_four (a : Ty) (zn : Nat) (B : Nat) (A : Option Addr) (cap : Nat) (w : World) (g gl fb : Nat) (s : ByteArray) (kp n : Nat) (M : Int) (hS : LyR w g gl fb s kp 0 (M - n)) (hk : kp ≤ s.size) (hs : s.size ≤ 1099511627776) (hM : ¬ M ≤ n) (hM2 : M ≤ 1024) (hz8 : zn ≤ 1024) (hL : LaidC w) (hg : 0 < g) (hgl : 0 < gl)
 (hT : TysIn w B [a] A 0) (hB : B ≤ w.heap.size) (hBg : B ≤ g) (hBl : B ≤ gl)
 (IH : Hid (∀ V c0 c1 c2 c3 kp (n : Nat), TyIn V B a c0 c1 c2 c3 → B ≤ V.heap.size → LyR V g gl fb s kp 0 (M - n) → kp ≤ s.size → LaidC V → Calls Tryz.prog 118 #[rdgV g gl fb, .agg #[c0, c1, c2, c3]] V fun e w' => ValEnd V g gl fb s M (a.rd M n (s.data.toList.drop kp)) e w')) :
 Calls Tryz.prog 118 #[rdgV g gl fb, .agg #[.int .i64 4, .int .i64 zn, .slice A [a].length cap, .int .i64 0]] w fun e w' => ValEnd w g gl fb s M ((Ty.mk 4 zn [a] 0).rd M n (s.data.toList.drop kp)) e w' := by
 have hlt := hS.rdr.lt
 have hlw := hS.left.lt
 have d0 : decide (M - (n : Int) ≤ 0) = false := decide_eq_false (by omega)
 rw [rd_four hM]
 have HNC := Lib.hid (fun V (hV : LyR V g gl fb s kp 0 (M - n - 1)) (hl : LaidC V) => numberL_c g gl fb s kp zn _ V hV hk (by omega) (by omega) hl (by omega))
 have hback := fun (h0 : (cpNext (s.data.toList.drop kp)).2.2 = 0) => (cpNext_back (s.data.toList.drop kp) (cpNext (s.data.toList.drop kp)).1 (cpNext (s.data.toList.drop kp)).2.1 (by rw [← h0])).2.1
 rw [List.length_drop, toList_size] at hback
 have HWY := cpRd_ways (cpNext (s.data.toList.drop kp)) zn kp
 obtain ⟨b, o, t0, t1, t2, t3, rfl, hbB, e0, e1, e2, e3, hta⟩ := hT.at_ 0 (by simp)
 simp only [Nat.zero_add, Nat.zero_mul, Nat.add_zero, List.getElem_cons_zero] at e0 e1 e2 e3 hta
 obtain ⟨dA, dc, rfl, rfl, rfl, rfl, _⟩ := hta.open_
 have HTA := Lib.hid hta
 have HE := Lib.hid (And.intro e0 (And.intro e1 (And.intro e2 e3)))
 have HLL := Lib.hid hL
 obtain ⟨z, ta, tl, ez, et, el⟩ : ∃ (z ta : Int) (tl : List Ty), z = zn ∧ ta = 0 ∧ tl = [a] := ⟨_, _, _, rfl, rfl, rfl⟩
 rw [← et, ← ez]
 obtain ⟨A, hA⟩ : ∃ A, (some (⟨b, o, none⟩ : Addr)) = A := ⟨_, rfl⟩
 rw [hA]
 have HAA := Lib.hid hA
 rw [show [a].length = tl.length from by rw [el]]
 clear hA hT hta e0 e1 e2 e3
 have HV0 := Lib.hid (VaW.start (tc := #[.int .i64 (4), .int .i64 z, .slice A tl.length cap, .int .i64 ta]) hS)
 generalize hW3 : (((w.alloc (.cells (rdgC g gl fb) 174)).alloc (.cells #[.int .i64 (4), .int .i64 z, .slice A tl.length cap, .int .i64 ta] 55)).alloc (.cells #[.string ⟨#[]⟩, .bool false, .slice none 0 0] 28)) = W3 at *
 unfold rdgC at hW3
 obtain ⟨p0, p1, p2, p3, p4, p5⟩ := blk6 (show Blk W3 w.heap.size 174 #[_, _, _, _, _, _] from HV0.out.rdg)
 obtain ⟨q0, q1, q2, q3, _⟩ := blk4 HV0.out.ty
 have l0 : W3.cell? ⟨gl, 0, none⟩ = some (.int .i64 (M - n)) := HV0.out.st.left.cell 0
 have l1 := HV0.out.st.left.frozen 0
 subst ez et
 have hlen : tl.length = 1 := by rw [el]; rfl
 rw [hlen] at hW3 HV0 ⊢
 clear el hlen
 have hlc4 := fun V (h : VaW w g gl fb s kp 0 (M - n - 1) #[.int .i64 4, .int .i64 zn, .slice A 1 cap, .int .i64 0] V) => hL.only h.only (by simp; omega)
 have HLC := Lib.hid hlc4
 clear hlc4 hL
 generalize cpNext (s.data.toList.drop kp) = N at *
 obtain ⟨Nm, Nz, Ne⟩ := N
 simp only at hback HWY ⊢
 rcases HWY with ⟨h1, hE, hNN, hK⟩ | ⟨h1, h2, hE, hNN, hK⟩ | ⟨h1, h2, hE, hNN, hK⟩
 ·rw [if_pos h1]
  rw [hE, hNN, hK] at HNC
  have HV4 := Lib.hid (HV0.out.less (M - n - 1))
  generalize hW4 : W3.setCell ⟨gl, 0, none⟩ (.int .i64 (M - n - 1)) = W4 at *
  clear q0 q1 q2 q3
  obtain ⟨p0, p1, p2, p3, p4, p5⟩ := blk6 (show Blk W4 w.heap.size 174 #[_, _, _, _, _, _] from HV4.out.rdg)
  obtain ⟨q0, q1, q2, q3, _⟩ := blk4 HV4.out.ty
  unfold rdgV
  clear hS
  go_enter Tryz.func118, Tryz.ntmps118
  go_wp2_with fail
  have hlc : LaidC W4 := HLC.out W4 HV4.out
  refine (HNC.out W4 HV4.out.st hlc).mono ?_
  rintro e w1 ⟨rfl, hr, ho⟩
  have HV5 := Lib.hid (HV4.out.turn ho hr.rdr)
  obtain ⟨p0, p1, p2, p3, p4, p5⟩ := blk6 (show Blk w1 w.heap.size 174 #[_, _, _, _, _, _] from HV5.out.rdg)
  clear hr ho
  go_wp2_with fail
  refine (list1_c (w.heap.size + 1) 0 (fun _ => a) (fun _ _ => true) (fun i n r => rdN (fun n r => a.rd M n r) (0 - i) n r) (fun _ => dA) (fun _ => a.sub.length) (fun _ => dc) w1 g gl fb s kp Ne _ M (n + 1) HV5.out.st hk hs (by omega) Ne ⟨0, [], 0, []⟩ (LiR.ofN M 0 s a) (fun h => absurd h h1) (fun _ => rfl) (Lib.hid fun i hi => by omega) (Lib.hid fun i hi => by omega)).mono ?_
  rintro e w2 ⟨X, c0, c1, c2, k', m', rfl, hX, hly, ho, hk', hcond⟩
  obtain ⟨ax, bx, rfl, rfl, rfl, _⟩ := hX.open_
  have HV6 := Lib.hid (HV5.out.turn2 ho hly)
  have HX := Lib.hid (hX.set3 (b := w.heap.size + 1 + 1) (by have := HV5.out.siz; omega) (.string X.text) (.bool X.list) (.slice ax X.sub.length bx))
  have HCD := Lib.hid hcond
  clear hX hly ho hcond
  obtain ⟨n0, n1, n2, m0, m1, m2⟩ := blk3f HV6.out.res
  obtain ⟨e1, e2, y0, y1, y2⟩ := HV6.out.ends (.string X.text) (.bool X.list) (.slice ax X.sub.length bx)
  have E1 := Lib.hid e1
  have E2 := Lib.hid e2
  clear e1 e2
  go_wp2
  have e1 := E1.out
  have e2 := E2.out
  refine bodyPost_ret (v := .agg #[.string X.text, .bool X.list, .slice ax X.sub.length bx]) (by simp [results, Tryz.results118, go_sem, y0, y1, y2]) rfl ?_
  exact ⟨X, _, _, _, k', m', rfl, HX.out.weak (fun _ _ h => by have := HV5.out.siz; omega), e1, e2, hk', fun h => absurd h h1⟩
 ·rw [if_neg (by rw [h1]; simp), if_pos (by omega)]
  rw [hE, hNN, hK] at HNC
  have HV4 := Lib.hid (HV0.out.less (M - n - 1))
  generalize hW4 : W3.setCell ⟨gl, 0, none⟩ (.int .i64 (M - n - 1)) = W4 at *
  clear q0 q1 q2 q3
  obtain ⟨p0, p1, p2, p3, p4, p5⟩ := blk6 (show Blk W4 w.heap.size 174 #[_, _, _, _, _, _] from HV4.out.rdg)
  obtain ⟨q0, q1, q2, q3, _⟩ := blk4 HV4.out.ty
  unfold rdgV
  clear hS
  go_enter Tryz.func118, Tryz.ntmps118
  go_wp2_with fail
  have hlc : LaidC W4 := HLC.out W4 HV4.out
  refine (HNC.out W4 HV4.out.st hlc).mono ?_
  rintro e w1 ⟨rfl, hr, ho⟩
  have HV5 := Lib.hid (HV4.out.turn ho hr.rdr)
  obtain ⟨p0, p1, p2, p3, p4, p5⟩ := blk6 (show Blk w1 w.heap.size 174 #[_, _, _, _, _, _] from HV5.out.rdg)
  clear hr ho
  go_wp2_with fail
  refine (list1_c (w.heap.size + 1) 0 (fun _ => a) (fun _ _ => true) (fun i n r => rdN (fun n r => a.rd M n r) (0 - i) n r) (fun _ => dA) (fun _ => a.sub.length) (fun _ => dc) w1 g gl fb s kp 5 _ M (n + 1) HV5.out.st hk hs (by omega) 5 ⟨0, [], 0, []⟩ (LiR.ofN M 0 s a) (fun h => absurd h (by decide)) (fun _ => rfl) (Lib.hid fun i hi => by omega) (Lib.hid fun i hi => by omega)).mono ?_
  rintro e w2 ⟨X, c0, c1, c2, k', m', rfl, hX, hly, ho, hk', hcond⟩
  obtain ⟨ax, bx, rfl, rfl, rfl, _⟩ := hX.open_
  have HV6 := Lib.hid (HV5.out.turn2 ho hly)
  have HX := Lib.hid (hX.set3 (b := w.heap.size + 1 + 1) (by have := HV5.out.siz; omega) (.string X.text) (.bool X.list) (.slice ax X.sub.length bx))
  have HCD := Lib.hid hcond
  clear hX hly ho hcond
  obtain ⟨n0, n1, n2, m0, m1, m2⟩ := blk3f HV6.out.res
  obtain ⟨e1, e2, y0, y1, y2⟩ := HV6.out.ends (.string X.text) (.bool X.list) (.slice ax X.sub.length bx)
  have E1 := Lib.hid e1
  have E2 := Lib.hid e2
  clear e1 e2
  go_wp2
  have e1 := E1.out
  have e2 := E2.out
  refine bodyPost_ret (v := .agg #[.string X.text, .bool X.list, .slice ax X.sub.length bx]) (by simp [results, Tryz.results118, go_sem, y0, y1, y2]) rfl ?_
  exact ⟨X, _, _, _, k', m', rfl, HX.out.weak (fun _ _ h => by have := HV5.out.siz; omega), e1, e2, hk', fun h => absurd h (show ¬ (5 : Int) = 0 by decide)⟩
 ·rw [if_neg (by rw [h1]; simp), if_neg (by omega)]
  rw [hE, hNN, hK] at HNC
  have hb2 := hback h1
  rw [List.drop_drop]
  show Calls _ _ _ _ fun e w' => ValEnd w g gl fb s M ⟨(rdN (fun n r => a.rd M n r) Nm (n + 1) (s.data.toList.drop (kp + Nz))).e, .mk ⟨#[]⟩ true (rdN (fun n r => a.rd M n r) Nm (n + 1) (s.data.toList.drop (kp + Nz))).xs, (rdN (fun n r => a.rd M n r) Nm (n + 1) (s.data.toList.drop (kp + Nz))).n, (rdN (fun n r => a.rd M n r) Nm (n + 1) (s.data.toList.drop (kp + Nz))).q⟩ e w'
  obtain ⟨R, hR⟩ : ∃ R, rdN (fun n r => a.rd M n r) Nm (n + 1) (s.data.toList.drop (kp + Nz)) = R := ⟨_, rfl⟩
  rw [hR]
  have HRR := Lib.hid hR
  clear hR
  have HV4 := Lib.hid (HV0.out.less (M - n - 1))
  generalize hW4 : W3.setCell ⟨gl, 0, none⟩ (.int .i64 (M - n - 1)) = W4 at *
  clear q0 q1 q2 q3
  obtain ⟨p0, p1, p2, p3, p4, p5⟩ := blk6 (show Blk W4 w.heap.size 174 #[_, _, _, _, _, _] from HV4.out.rdg)
  obtain ⟨q0, q1, q2, q3, _⟩ := blk4 HV4.out.ty
  unfold rdgV
  clear hS
  go_enter Tryz.func118, Tryz.ntmps118
  go_wp2_with fail
  have hlc : LaidC W4 := HLC.out W4 HV4.out
  refine (HNC.out W4 HV4.out.st hlc).mono ?_
  rintro e w1 ⟨rfl, hr, ho⟩
  have HV5 := Lib.hid (HV4.out.turn ho hr.rdr)
  obtain ⟨p0, p1, p2, p3, p4, p5⟩ := blk6 (show Blk w1 w.heap.size 174 #[_, _, _, _, _, _] from HV5.out.rdg)
  clear hr ho
  go_wp2_with fail
  have hty : Blk w1 (w.heap.size + 1) 55 #[.int .i64 4, .int .i64 zn, .slice (some ⟨b, o, none⟩) 1 cap, .int .i64 0] := by rw [HAA.out]; exact HV5.out.ty
  have hbl : ∀ V, Only [g, gl] w1 V → Only [g, gl] w V ∧ Below B w V := fun V h => ⟨HV5.out.only.trans h, (HV5.out.only.trans h).below hB (by simp; omega)⟩
  refine (list1_c (w.heap.size + 1) Nm (fun _ => a) (fun _ _ => true) (fun i n r => rdN (fun n r => a.rd M n r) (Nm - i) n r) (fun _ => dA) (fun _ => a.sub.length) (fun _ => dc) w1 g gl fb s (kp + Nz) 0 _ M (n + 1) HV5.out.st (by omega) hs (by omega) R.e R (LiR.ofN M Nm s a) (fun _ => ⟨by omega, by rw [← HRR.out]; simp, rfl⟩) (fun h => absurd rfl h) (Lib.hid fun i hi V k' f' m' hoV hV hk' => by
   obtain ⟨h1, h2⟩ := hbl V hoV
   obtain ⟨e0, e1, e2, e3⟩ := HE.out
   exact of1_cl i (w.heap.size + 1) b o 1 cap 4 zn 0 _ _ _ _ V (hty.only hoV (by simp; omega)) (by omega) (by omega) ((h2.cell hbB).trans e0) ((h2.cell hbB).trans e1) ((h2.cell hbB).trans e2) ((h2.cell hbB).trans e3) (by have := h2.size; omega) _ _ _ _ _ _ rfl rfl rfl rfl) (Lib.hid fun i hi V k' n' hoV hV hk' => by
   obtain ⟨h1, h2⟩ := hbl V hoV
   exact IH.out V _ _ _ _ k' n' (HTA.out.below h2) (by have := h2.size; omega) hV hk' (HLL.out.only h1 (by simp; omega)))).mono ?_
  rintro e w2 ⟨X, c0, c1, c2, k', m', rfl, hX, hly, ho, hk', hcond⟩
  obtain ⟨ax, bx, rfl, rfl, rfl, _⟩ := hX.open_
  have HV6 := Lib.hid (HV5.out.turn2 ho hly)
  have HX := Lib.hid (hX.set3 (b := w.heap.size + 1 + 1) (by have := HV5.out.siz; omega) (.string X.text) (.bool X.list) (.slice ax X.sub.length bx))
  have HCD := Lib.hid hcond
  clear hX hly ho hcond
  obtain ⟨n0, n1, n2, m0, m1, m2⟩ := blk3f HV6.out.res
  obtain ⟨e1, e2, y0, y1, y2⟩ := HV6.out.ends (.string X.text) (.bool X.list) (.slice ax X.sub.length bx)
  have E1 := Lib.hid e1
  have E2 := Lib.hid e2
  clear e1 e2
  go_wp2
  have e1 := E1.out
  have e2 := E2.out
  refine bodyPost_ret (v := .agg #[.string X.text, .bool X.list, .slice ax X.sub.length bx]) (by simp [results, Tryz.results118, go_sem, y0, y1, y2]) rfl ?_
  exact ⟨X, _, _, _, k', m', rfl, HX.out.weak (fun _ _ h => by have := HV5.out.siz; omega), e1, e2, hk', HCD.out⟩
theorem tys_cells {w : World} {B : Nat} {l : List Ty} {A : Option Addr} (h : TysIn w B l A 0) : ∃ p : Nat → Option Addr × Nat, ∀ i (hi : i < l.length), ∃ b o, A = some ⟨b, o, none⟩ ∧ b < B ∧ w.cell? ⟨b, o + i * 4, none⟩ = some (.int .i64 (l[i]).kind) ∧ w.cell? ⟨b, o + i * 4 + 1, none⟩ = some (.int .i64 (l[i]).size) ∧ w.cell? ⟨b, o + i * 4 + 2, none⟩ = some (.slice (p i).1 (l[i]).sub.length (p i).2) ∧ w.cell? ⟨b, o + i * 4 + 3, none⟩ = some (.int .i64 (l[i]).tail) ∧ TyIn w B l[i] (.int .i64 (l[i]).kind) (.int .i64 (l[i]).size) (.slice (p i).1 (l[i]).sub.length (p i).2) (.int .i64 (l[i]).tail) := by
 have key : ∀ i, ∃ p : Option Addr × Nat, ∀ (hi : i < l.length), ∃ b o, A = some ⟨b, o, none⟩ ∧ b < B ∧ w.cell? ⟨b, o + i * 4, none⟩ = some (.int .i64 (l[i]).kind) ∧ w.cell? ⟨b, o + i * 4 + 1, none⟩ = some (.int .i64 (l[i]).size) ∧ w.cell? ⟨b, o + i * 4 + 2, none⟩ = some (.slice p.1 (l[i]).sub.length p.2) ∧ w.cell? ⟨b, o + i * 4 + 3, none⟩ = some (.int .i64 (l[i]).tail) ∧ TyIn w B l[i] (.int .i64 (l[i]).kind) (.int .i64 (l[i]).size) (.slice p.1 (l[i]).sub.length p.2) (.int .i64 (l[i]).tail) := fun i => by
  by_cases hi : i < l.length
  ·obtain ⟨b, o, c0, c1, c2, c3, h1, h2, h3, h4, h5, h6, h7⟩ := h.at_ i hi
   obtain ⟨A', cap, rfl, rfl, rfl, rfl, _⟩ := h7.open_
   simp only [Nat.zero_add] at h3 h4 h5 h6
   exact ⟨(A', cap), fun _ => ⟨b, o, h1, h2, h3, h4, h5, h6, h7⟩⟩
  ·exact ⟨(none, 0), fun h => absurd h hi⟩
 exact ⟨fun i => Classical.choose (key i), fun i hi => Classical.choose_spec (key i) hi⟩
theorem tyD_at {l : List Ty} {i : Nat} (h : i < l.length) : l[i]?.getD (.mk 0 0 [] 0) = l[i] := by simp [h]
theorem value_five (l : List Ty) (ta : Int) (B : Nat) (A : Option Addr) (cap : Nat) (w : World) (g gl fb : Nat) (s : ByteArray) (kp n : Nat) (M : Int) (hS : LyR w g gl fb s kp 0 (M - n)) (hk : kp ≤ s.size) (hs : s.size ≤ 1099511627776) (hM : ¬ M ≤ n) (hM2 : M ≤ 1024) (hl : l.length ≤ 16) (hta : 0 ≤ ta) (hta2 : ta ≤ l.length) (hL : LaidC w) (hg : 0 < g) (hgl : 0 < gl)
 (hT : TysIn w B l A 0) (hB : B ≤ w.heap.size) (hBg : B ≤ g) (hBl : B ≤ gl)
 (IH : Hid (∀ a ∈ l, ∀ V c0 c1 c2 c3 kp (n : Nat), TyIn V B a c0 c1 c2 c3 → B ≤ V.heap.size → LyR V g gl fb s kp 0 (M - n) → kp ≤ s.size → LaidC V → Calls Tryz.prog 118 #[rdgV g gl fb, .agg #[c0, c1, c2, c3]] V fun e w' => ValEnd V g gl fb s M (a.rd M n (s.data.toList.drop kp)) e w')) :
 Calls Tryz.prog 118 #[rdgV g gl fb, .agg #[.int .i64 5, .int .i64 0, .slice A l.length cap, .int .i64 ta]] w fun e w' => ValEnd w g gl fb s M ((Ty.mk 5 0 l ta).rd M n (s.data.toList.drop kp)) e w' := by
 have hlt := hS.rdr.lt
 have hlw := hS.left.lt
 have d0 : decide (M - (n : Int) ≤ 0) = false := decide_eq_false (by omega)
 rw [rd_five hM]
 obtain ⟨p, hp⟩ := tys_cells hT
 have HP := Lib.hid hp
 have HLL := Lib.hid hL
 show Calls _ _ _ _ fun e w' => ValEnd w g gl fb s M ⟨(rdT M l ((l.length : Int) - ta).toNat (n + 1) (s.data.toList.drop kp)).e, .mk ⟨#[]⟩ true (rdT M l ((l.length : Int) - ta).toNat (n + 1) (s.data.toList.drop kp)).xs, (rdT M l ((l.length : Int) - ta).toNat (n + 1) (s.data.toList.drop kp)).n, (rdT M l ((l.length : Int) - ta).toNat (n + 1) (s.data.toList.drop kp)).q⟩ e w'
 obtain ⟨R, hR⟩ : ∃ R, rdT M l ((l.length : Int) - ta).toNat (n + 1) (s.data.toList.drop kp) = R := ⟨_, rfl⟩
 rw [hR]
 have HRR := Lib.hid hR
 clear hR hp hT
 obtain ⟨z, tl, ez, el⟩ : ∃ (z : Int) (tl : List Ty), z = 0 ∧ tl = l := ⟨_, _, rfl, rfl⟩
 rw [← ez]
 rw [show l.length = tl.length from by rw [el]]
 have HV0 := Lib.hid (VaW.start (tc := #[.int .i64 (5), .int .i64 z, .slice A tl.length cap, .int .i64 ta]) hS)
 generalize hW3 : (((w.alloc (.cells (rdgC g gl fb) 174)).alloc (.cells #[.int .i64 (5), .int .i64 z, .slice A tl.length cap, .int .i64 ta] 55)).alloc (.cells #[.string ⟨#[]⟩, .bool false, .slice none 0 0] 28)) = W3 at *
 unfold rdgC at hW3
 obtain ⟨p0, p1, p2, p3, p4, p5⟩ := blk6 (show Blk W3 w.heap.size 174 #[_, _, _, _, _, _] from HV0.out.rdg)
 obtain ⟨q0, q1, q2, q3, _⟩ := blk4 HV0.out.ty
 have l0 : W3.cell? ⟨gl, 0, none⟩ = some (.int .i64 (M - n)) := HV0.out.st.left.cell 0
 have l1 := HV0.out.st.left.frozen 0
 subst ez
 obtain ⟨nl, hnl⟩ : ∃ nl, tl.length = nl := ⟨_, rfl⟩
 have HNL : Hid (l.length = nl) := Lib.hid (by rw [← hnl, el])
 rw [hnl] at hW3 HV0 ⊢
 clear hnl el hL
 have HV4 := Lib.hid (HV0.out.less (M - n - 1))
 generalize hW4 : W3.setCell ⟨gl, 0, none⟩ (.int .i64 (M - n - 1)) = W4 at *
 clear q0 q1 q2 q3
 obtain ⟨p0, p1, p2, p3, p4, p5⟩ := blk6 (show Blk W4 w.heap.size 174 #[_, _, _, _, _, _] from HV4.out.rdg)
 obtain ⟨q0, q1, q2, q3, _⟩ := blk4 HV4.out.ty
 unfold rdgV
 clear hS
 go_enter Tryz.func118, Tryz.ntmps118
 go_wp2_with fail
 have hty := HV4.out.ty
 have hbl : ∀ V, Only [g, gl] W4 V → Only [g, gl] w V ∧ Below B w V := fun V h => ⟨HV4.out.only.trans h, (HV4.out.only.trans h).below hB (by simp; omega)⟩
 refine (list2_c (w.heap.size + 1) w.heap.size nl (fun i => l[i]?.getD (.mk 0 0 [] 0)) (fun i k => decide ((i : Int) < (l.length : Int) - ta) || decide (k < s.size)) (fun i n r => rdT M (l.drop i) (((l.length : Int) - ta).toNat - i) n r) (fun i => (p i).1) (fun i => (l[i]?.getD (.mk 0 0 [] 0)).sub.length) (fun i => (p i).2) W4 g gl fb s kp 0 _ M (n + 1) HV4.out.st hk hs (by have := HNL.out; omega) R.e R (by rw [← HNL.out]; exact LiR.ofT M s l ta hta) (fun _ => ⟨by omega, by rw [← HRR.out]; simp, rfl⟩) (fun h => absurd rfl h) (Lib.hid fun i hi V k' f' m' hoV hV hk' => by
  obtain ⟨h1, h2⟩ := hbl V hoV
  have hi' : i < l.length := by rw [HNL.out]; exact hi
  rw [tyD_at hi']
  obtain ⟨b, o, hA, hbB, e0, e1, e2, e3, _⟩ := HP.out i hi'
  rw [hA] at hty
  have := h2.size
  rw [HNL.out]
  exact of2_cl i (w.heap.size + 1) w.heap.size g gl fb b o nl cap s k' m' 5 0 ta _ _ _ _ V (hty.only hoV (by simp; omega)) (HV4.out.rdg.only hoV (by simp; omega)) f' hV hk' (by omega) hi (by have := HNL.out; omega) hta (by have := HNL.out; omega) ((h2.cell hbB).trans e0) ((h2.cell hbB).trans e1) ((h2.cell hbB).trans e2) ((h2.cell hbB).trans e3) (by omega) _ _ _ _ _ _ rfl rfl rfl rfl) (Lib.hid fun i hi V k' n' hoV hV hk' => by
  obtain ⟨h1, h2⟩ := hbl V hoV
  have hi' : i < l.length := by rw [HNL.out]; exact hi
  rw [tyD_at hi']
  obtain ⟨b, o, hA, hbB, e0, e1, e2, e3, hti⟩ := HP.out i hi'
  exact IH.out _ (List.getElem_mem hi') V _ _ _ _ k' n' (hti.below h2) (by have := h2.size; omega) hV hk' (HLL.out.only h1 (by simp; omega)))).mono ?_
 have HV5 := HV4
 rintro e w2 ⟨X, c0, c1, c2, k', m', rfl, hX, hly, ho, hk', hcond⟩
 obtain ⟨ax, bx, rfl, rfl, rfl, _⟩ := hX.open_
 have HV6 := Lib.hid (HV5.out.turn2 ho hly)
 have HX := Lib.hid (hX.set3 (b := w.heap.size + 1 + 1) (by have := HV5.out.siz; omega) (.string X.text) (.bool X.list) (.slice ax X.sub.length bx))
 have HCD := Lib.hid hcond
 clear hX hly ho hcond
 obtain ⟨n0, n1, n2, m0, m1, m2⟩ := blk3f HV6.out.res
 obtain ⟨e1, e2, y0, y1, y2⟩ := HV6.out.ends (.string X.text) (.bool X.list) (.slice ax X.sub.length bx)
 have E1 := Lib.hid e1
 have E2 := Lib.hid e2
 clear e1 e2
 go_wp2
 have e1 := E1.out
 have e2 := E2.out
 refine bodyPost_ret (v := .agg #[.string X.text, .bool X.list, .slice ax X.sub.length bx]) (by simp [results, Tryz.results118, go_sem, y0, y1, y2]) rfl ?_
 exact ⟨X, _, _, _, k', m', rfl, HX.out.weak (fun _ _ h => by have := HV5.out.siz; omega), e1, e2, hk', HCD.out⟩
theorem value_c : ∀ (x : Ty) (B : Nat) (w : World) (c0 c1 c2 c3 : Value) (g gl fb : Nat) (s : ByteArray) (kp n : Nat) (M : Int), TyIn w B x c0 c1 c2 c3 → B ≤ w.heap.size → B ≤ g → B ≤ gl → x.right = true → LyR w g gl fb s kp 0 (M - n) → kp ≤ s.size → s.size ≤ 1099511627776 → M ≤ 1024 → LaidC w → 0 < g → 0 < gl →
 Calls Tryz.prog 118 #[rdgV g gl fb, .agg #[c0, c1, c2, c3]] w fun e w' => ValEnd w g gl fb s M (x.rd M n (s.data.toList.drop kp)) e w' := by
 intro x
 induction x using Ty.ind with
 | h ki z l ta ih =>
  intro B w c0 c1 c2 c3 g gl fb s kp n M h hB hBg hBl hr hS hk hs hM2 hL hg hgl
  obtain ⟨rfl, rfl, rfl, _, _, _, hll, A, cap, rfl, hcap, hcm, hsub⟩ := h
  obtain ⟨hok, hrl⟩ := right_ok hr
  by_cases hM : M ≤ n
  ·rw [rd_many hM]
   exact value_many ki z ta l A cap w g gl fb s kp n M hS hk hM
  rcases ok_ways hok with ⟨rfl, h3, hn0, rfl⟩ | ⟨rfl, h3, h4, hn0, rfl⟩ | ⟨rfl, h3, h4, hn0, rfl⟩ | ⟨rfl, h3, h4, hn0, rfl⟩ | ⟨rfl, rfl, h4, h5, h6⟩
  ·obtain rfl : l = [] := List.eq_nil_of_length_eq_zero hn0
   obtain ⟨zn, rfl⟩ : ∃ zn : Nat, z = zn := ⟨z.toNat, by omega⟩
   exact value_one zn A cap w g gl fb s kp n M hS hk hs hM hM2 (by omega) (by omega)
  ·obtain rfl : l = [] := List.eq_nil_of_length_eq_zero hn0
   obtain ⟨zn, rfl⟩ : ∃ zn : Nat, z = zn := ⟨z.toNat, by omega⟩
   exact value_two zn A cap w g gl fb s kp n M hS hk hs hM hM2 (by omega)
  ·obtain rfl : l = [] := List.eq_nil_of_length_eq_zero hn0
   obtain ⟨zn, rfl⟩ : ∃ zn : Nat, z = zn := ⟨z.toNat, by omega⟩
   exact value_three zn A cap w g gl fb s kp n M hS hk hs hM hM2 (by omega) hL hg hgl
  ·obtain ⟨a, rfl⟩ := List.length_eq_one_iff.1 hn0
   obtain ⟨zn, rfl⟩ : ∃ zn : Nat, z = zn := ⟨z.toNat, by omega⟩
   have hra : a.right = true := by simpa [rightT] using hrl
   exact value_four a zn B A cap w g gl fb s kp n M hS hk hs hM hM2 (by omega) hL hg hgl hsub hB hBg hBl (Lib.hid fun V d0 d1 d2 d3 kp n hV hB2 hS2 hk2 hL2 => ih a (by simp) B V d0 d1 d2 d3 g gl fb s kp n M hV hB2 hBg hBl hra hS2 hk2 hs hM2 hL2 hg hgl)
  ·exact value_five l ta B A cap w g gl fb s kp n M hS hk hs hM hM2 (by omega) (by omega) (by omega) hL hg hgl hsub hB hBg hBl (Lib.hid fun a ha V d0 d1 d2 d3 kp n hV hB2 hS2 hk2 hL2 => by
    obtain ⟨j, hj, rfl⟩ := List.getElem_of_mem ha
    exact ih _ ha B V d0 d1 d2 d3 g gl fb s kp n M hV hB2 hBg hBl (rightT_at hrl j hj) hS2 hk2 hs hM2 hL2 hg hgl)
end Go.Proofs.YtnfpgadegpmhkaaGreatDoor
