/- layout: what a value is read by: the state, the closures. -/
import Derived.Test.YtnfpgadegpmhkaaGreatDoorKA16
import Derived.Test.YtnfpgadegpmhkaaGreatDoorKA3
import Derived.Test.YtnfpgadegpmhkaaGreatDoorKA6
import Derived.Test.YtnfpgadegpmhkaaGreatDoorKA15
import Derived.Test.YtnfpgadegpmhkaaGreatDoorKA9
set_option linter.unusedVariables false
set_option linter.unusedSimpArgs false
set_option maxRecDepth 100000
set_option maxHeartbeats 1000000
namespace Go.Proofs.YtnfpgadegpmhkaaGreatDoor
open Go.RowKit
structure LyR (w : World) (g gl fb : Nat) (s : ByteArray) (k : Nat) (f m : Int) : Prop where
 rdr : Rdr w g s k f
 left : Blk w gl 3 #[.int .i64 m]
 box : Blk w fb 167 #[.pointer (some ⟨g, 0, none⟩)]
theorem Blk.neL {w : World} {g g' : Nat} {t t' : TypeId} {cs cs' : Array Value} (h : Blk w g t cs) (h' : Blk w g' t' cs') (hne : t ≠ t') : g ≠ g' := by
 rintro rfl
 unfold Blk at h h'
 rw [h] at h'
 injection h' with h'
 injection h' with _ ht
 exact hne ht
theorem LyR.apart {w : World} {g gl fb : Nat} {s : ByteArray} {k : Nat} {f m : Int} (h : LyR w g gl fb s k f m) : gl ≠ g ∧ fb ≠ g ∧ fb ≠ gl := ⟨h.left.neL h.rdr (by decide), h.box.neL h.rdr (by decide), h.box.neL h.left (by decide)⟩
theorem LyR.below {w w' : World} {g gl fb : Nat} {s : ByteArray} {k : Nat} {f m : Int} (h : LyR w g gl fb s k f m) (hb : Below w.heap.size w w') : LyR w' g gl fb s k f m :=
 ⟨(hb.block _ h.rdr.lt).trans h.rdr, (hb.block _ h.left.lt).trans h.left, (hb.block _ h.box.lt).trans h.box⟩
theorem LyR.turn {w w' : World} {g gl fb : Nat} {s : ByteArray} {k k' : Nat} {f f' m : Int} (h : LyR w g gl fb s k f m) (ho : Only [g] w w') (hr : Rdr w' g s k' f') : LyR w' g gl fb s k' f' m :=
 ⟨hr, h.left.only ho (by simp [h.apart.1]), h.box.only ho (by simp [h.apart.2.1])⟩
def rdgV (g gl fb : Nat) : Value := .agg #[.func (.func 112) #[.pointer (some ⟨g, 0, none⟩)] #[], .func (.func 113) #[.pointer (some ⟨g, 0, none⟩)] #[], .func (.func 114) #[.pointer (some ⟨g, 0, none⟩)] #[], .func (.func 115) #[.pointer (some ⟨g, 0, none⟩)] #[], .func (.func 116) #[] #[.pointer (some ⟨fb, 0, none⟩)], .pointer (some ⟨gl, 0, none⟩)]
theorem cpRdN_le (N : Nat × Nat × Int) (z : Nat) : cpRdN N z ≤ z := by
 rcases cpRd_ways N z 0 with ⟨_, _, h, _⟩ | ⟨_, _, _, h, _⟩ | ⟨_, h1, _, h, _⟩ <;> omega
theorem numberL_c (g gl fb : Nat) (s : ByteArray) (k z : Nat) (m : Int) (w : World) (h : LyR w g gl fb s k 0 m) (hk : k ≤ s.size) (hs : s.size ≤ 9223372036854775807) (hz : z ≤ 65536) (hL : LaidC w) (hg : g ≠ 0) :
 Calls Tryz.prog 116 #[.int .i64 z, .pointer (some ⟨fb, 0, none⟩)] w fun e w' => e = .returned (.int .i64 (cpRdN (cpNext (s.data.toList.drop k)) z)) ∧ LyR w' g gl fb s (cpRdK (cpNext (s.data.toList.drop k)) z k) (cpRdE (cpNext (s.data.toList.drop k)) z) m ∧ Only [g] w w' := by
 have q0 : w.cell? ⟨fb, 0, none⟩ = some (.pointer (some ⟨g, 0, none⟩)) := h.box.cell 0
 have HR := Lib.hid (cpRead_c g s k z w h.rdr hk hs (by omega) hL hg)
 have hle := cpRdN_le (cpNext (s.data.toList.drop k)) z
 have HH := Lib.hid h
 generalize cpRdN (cpNext (s.data.toList.drop k)) z = N at *
 generalize cpRdK (cpNext (s.data.toList.drop k)) z k = K at *
 generalize cpRdE (cpNext (s.data.toList.drop k)) z = E at *
 have e1 : IntKind.u64.wrap (z : Int) = z := IntWalk.u64_in _ (by omega)
 clear h
 go_enter Tryz.func116, Tryz.ntmps116
 go_wp2_with fail
 refine HR.out.mono ?_
 rintro e w1 ⟨rfl, hr, ho⟩
 have HT := Lib.hid (HH.out.turn ho hr)
 have HO := Lib.hid ho
 clear hr ho
 go_wp2
 go_ret
 exact ⟨by go_num, HT.out, HO.out⟩
theorem of1_cl (i : Int) (bt b o n cap : Nat) (k z ta : Int) (f0 f1 f2 f3 : Value) (w : World) (h : Blk w bt 55 #[.int .i64 k, .int .i64 z, .slice (some ⟨b, o, none⟩) n cap, .int .i64 ta]) (hn : 0 < n) (hn2 : n ≤ 9223372036854775807)
 (h0 : w.cell? ⟨b, o, none⟩ = some f0) (h1 : w.cell? ⟨b, o + 1, none⟩ = some f1) (h2 : w.cell? ⟨b, o + 2, none⟩ = some f2) (h3 : w.cell? ⟨b, o + 3, none⟩ = some f3) (ho : b < w.heap.size)
 (k' z' ta' : Int) (A' : Option Addr) (n' cap' : Nat) (e0 : f0 = .int .i64 k') (e1 : f1 = .int .i64 z') (e2 : f2 = .slice A' n' cap') (e3 : f3 = .int .i64 ta') :
 Calls Tryz.prog 159 #[.int .i64 i, .pointer (some ⟨bt, 0, none⟩)] w fun e w' => e = .returned (.tuple #[.agg #[f0, f1, f2, f3], .bool true]) ∧ Below w.heap.size w w' := by
 have q2 : w.cell? ⟨bt, 2, none⟩ = some (.slice (some ⟨b, o, none⟩) n cap) := h.cell 2
 have hlt := h.lt
 subst e0 e1 e2 e3
 have hV : Below w.heap.size w (w.alloc (.cells #[.int .i64 0, .int .i64 0, .slice none 0 0, .int .i64 0] 55)) := blw
 clear h
 go_enter Tryz.func159, Tryz.ntmps159
 go_wp2
 refine bodyPost_ret (v := .tuple #[.agg #[.int .i64 k', .int .i64 z', .slice A' n' cap', .int .i64 ta'], .bool true]) (by simp [results, Tryz.results159, go_sem]) rfl ⟨rfl, blw⟩
theorem blk6 {w : World} {g : Nat} {t : TypeId} {a b c d e f : Value} (h : Blk w g t #[a, b, c, d, e, f]) : w.cell? ⟨g, 0, none⟩ = some a ∧ w.cell? ⟨g, 1, none⟩ = some b ∧ w.cell? ⟨g, 2, none⟩ = some c ∧ w.cell? ⟨g, 3, none⟩ = some d ∧ w.cell? ⟨g, 4, none⟩ = some e ∧ w.cell? ⟨g, 5, none⟩ = some f := ⟨h.cell 0, h.cell 1, h.cell 2, h.cell 3, h.cell 4, h.cell 5⟩
def rdgC (g gl fb : Nat) : Array Value := #[.func (.func 112) #[.pointer (some ⟨g, 0, none⟩)] #[], .func (.func 113) #[.pointer (some ⟨g, 0, none⟩)] #[], .func (.func 114) #[.pointer (some ⟨g, 0, none⟩)] #[], .func (.func 115) #[.pointer (some ⟨g, 0, none⟩)] #[], .func (.func 116) #[] #[.pointer (some ⟨fb, 0, none⟩)], .pointer (some ⟨gl, 0, none⟩)]
theorem set4_far {w : World} {g : Nat} {p : Addr} (hp : p.block ≠ g) (a b c d : Value) : ((((w.drew.setCell ⟨g, 0, none⟩ a).setCell ⟨g, 1, none⟩ b).setCell ⟨g, 2, none⟩ c).setCell ⟨g, 3, none⟩ d).cell? p = w.cell? p :=
 World.cell?_of_block (by
  rw [Below.heap_setCell _ _ _ _ hp, Below.heap_setCell _ _ _ _ hp, Below.heap_setCell _ _ _ _ hp, Below.heap_setCell _ _ _ _ hp]; rfl)
theorem set4_farN {w : World} {g : Nat} {p : Addr} (hp : p.block ≠ g) (m : Nat) (a b c d : Value) : (((((w.drewN m).setCell ⟨g, 0, none⟩ a).setCell ⟨g, 1, none⟩ b).setCell ⟨g, 2, none⟩ c).setCell ⟨g, 3, none⟩ d).cell? p = w.cell? p :=
 World.cell?_of_block (by
  rw [Below.heap_setCell _ _ _ _ hp, Below.heap_setCell _ _ _ _ hp, Below.heap_setCell _ _ _ _ hp, Below.heap_setCell _ _ _ _ hp]; rfl)
theorem of2_cl (i : Nat) (bt br g gl fb b o n cap : Nat) (s : ByteArray) (kp : Nat) (m : Int) (k z ta : Int) (f0 f1 f2 f3 : Value) (w : World) (h : Blk w bt 55 #[.int .i64 k, .int .i64 z, .slice (some ⟨b, o, none⟩) n cap, .int .i64 ta]) (hr : Blk w br 174 (rdgC g gl fb)) (fl : Int) (hly : LyR w g gl fb s kp fl m) (hkp : kp ≤ s.size) (hs : s.size ≤ 9223372036854775807) (hn : i < n) (hn2 : n ≤ 9223372036854775807) (hta : 0 ≤ ta) (hta2 : ta ≤ n)
 (h0 : w.cell? ⟨b, o + i * 4, none⟩ = some f0) (h1 : w.cell? ⟨b, o + i * 4 + 1, none⟩ = some f1) (h2 : w.cell? ⟨b, o + i * 4 + 2, none⟩ = some f2) (h3 : w.cell? ⟨b, o + i * 4 + 3, none⟩ = some f3) (ho : b < w.heap.size)
 (k' z' ta' : Int) (A' : Option Addr) (n' cap' : Nat) (e0 : f0 = .int .i64 k') (e1 : f1 = .int .i64 z') (e2 : f2 = .slice A' n' cap') (e3 : f3 = .int .i64 ta') :
 Calls Tryz.prog 160 #[.int .i64 i, .pointer (some ⟨bt, 0, none⟩), .pointer (some ⟨br, 0, none⟩)] w fun e w' => e = .returned (.tuple #[.agg #[f0, f1, f2, f3], .bool (decide ((i : Int) < (n : Int) - ta) || decide (kp < s.size))]) ∧ Below w.heap.size w w' := by
 have hV : Below w.heap.size w (w.alloc (.cells #[.int .i64 0, .int .i64 0, .slice none 0 0, .int .i64 0] 55)) := blw
 have hV2 := fun V (hb : Below w.heap.size w V) => left_c g s kp fl V ((hb.block _ hly.rdr.lt).trans hly.rdr) hkp hs
 have HV2 := Lib.hid hV2
 have q2 := (hV.cell (p := ⟨bt, 2, none⟩) h.lt).trans (show w.cell? ⟨bt, 2, none⟩ = some (.slice (some ⟨b, o, none⟩) n cap) from h.cell 2)
 have q3 := (hV.cell (p := ⟨bt, 3, none⟩) h.lt).trans (show w.cell? ⟨bt, 3, none⟩ = some (.int .i64 ta) from h.cell 3)
 have hrl := hr.lt
 have hbtl := h.lt
 obtain ⟨r0, r1, r2, r3, r4, r5⟩ := blk6 (show Blk w br 174 #[_, _, _, _, _, _] from hr)
 have R3 := (hV.cell (p := ⟨br, 3, none⟩) hrl).trans r3
 have H0 := (hV.cell (p := ⟨b, _, none⟩) ho).trans h0
 have H1 := (hV.cell (p := ⟨b, _, none⟩) ho).trans h1
 have H2 := (hV.cell (p := ⟨b, _, none⟩) ho).trans h2
 have H3 := (hV.cell (p := ⟨b, _, none⟩) ho).trans h3
 subst e0 e1 e2 e3
 have hnew := Blk.new w 55 #[.int .i64 0, .int .i64 0, .slice none 0 0, .int .i64 0]
 have HNW := Lib.hid hnew
 have HV := Lib.hid hV
 generalize hW1 : w.alloc (.cells #[.int .i64 0, .int .i64 0, .slice none 0 0, .int .i64 0] 55) = W1 at *
 clear h hr hly r0 r1 r2 r3 r4 r5 h0 h1 h2 h3 hV hV2 hnew
 by_cases hlt : (i : Int) < (n : Int) - ta
 ·have d1 : decide ((i : Int) < (n : Int) - ta) = true := decide_eq_true hlt
  rw [d1, Bool.true_or]
  go_enter Tryz.func160, Tryz.ntmps160
  go_wp2_with fail
  have ew : IntKind.i64.wrap ((n : Int) - ta) = (n : Int) - ta := IntWalk.i64_in _ (by omega)
  refine wp_region_last 20 (fun V => V.cell? ⟨bt, 2, none⟩ = some (.slice (some ⟨b, o, none⟩) n cap) ∧ V.cell? ⟨bt, 3, none⟩ = some (.int .i64 ta) ∧ V.cell? ⟨b, o + i * 4, none⟩ = some (.int .i64 k') ∧ V.cell? ⟨b, o + i * 4 + 1, none⟩ = some (.int .i64 z') ∧ V.cell? ⟨b, o + i * 4 + 2, none⟩ = some (.slice A' n' cap') ∧ V.cell? ⟨b, o + i * 4 + 3, none⟩ = some (.int .i64 ta')) (by kernel_rfl) (by kernel_rfl) ?_
  have hHeld : (fun V : World => V.cell? ⟨bt, 2, none⟩ = some (.slice (some ⟨b, o, none⟩) n cap) ∧ V.cell? ⟨bt, 3, none⟩ = some (.int .i64 ta) ∧ V.cell? ⟨b, o + i * 4, none⟩ = some (.int .i64 k') ∧ V.cell? ⟨b, o + i * 4 + 1, none⟩ = some (.int .i64 z') ∧ V.cell? ⟨b, o + i * 4 + 2, none⟩ = some (.slice A' n' cap') ∧ V.cell? ⟨b, o + i * 4 + 3, none⟩ = some (.int .i64 ta')) W1.drew := ⟨q2, q3, H0, H1, H2, H3⟩
  refine GT.tk1 0 hHeld ?_
  refine GT.tk1 1 hHeld ?_
  refine GT.tk1 2 hHeld ?_
  refine GT.tk1 3 hHeld ?_
  refine GT.tk1 4 hHeld ?_
  refine GT.tk1 5 hHeld ?_
  refine GT.tk1 6 hHeld ?_
  refine GT.tk1 7 hHeld ?_
  refine GT.tk1 8 hHeld ?_
  refine GT.tk1 9 hHeld ?_
  refine GT.tk1 10 hHeld ?_
  refine GT.tk1 11 (v := .int .i64 ((n : Int) - ta)) hHeld ?_
  refine GT.tk1 12 (v := .bool true) hHeld ?_
  refine GT.tk1 13 (v := .bool true) hHeld ?_
  refine GT.tk1 14 (v := undef) hHeld ?_
  refine GT.tk1 15 (v := undef) hHeld ?_
  refine GT.tk1 16 (v := undef) hHeld ?_
  refine GT.tk1 17 (v := undef) hHeld ?_
  refine GT.tk1 18 hHeld ?_
  obtain ⟨n0, n1, n2, n3, m0, m1, m2, m3⟩ := blk4 HNW.out
  refine GT.st1 19 (fun K hK => ?_)
  go_simp
  refine hK.out _ _ ⟨(set4_far (by simp; omega) _ _ _ _).trans q2, (set4_far (by simp; omega) _ _ _ _).trans q3, (set4_far (by simp; omega) _ _ _ _).trans H0, (set4_far (by simp; omega) _ _ _ _).trans H1, (set4_far (by simp; omega) _ _ _ _).trans H2, (set4_far (by simp; omega) _ _ _ _).trans H3⟩ (fun hHeld => ?_)
  clear hK K
  try simp only [Act.put, List.setIfInBounds_toArray, List.set_cons_zero, List.set_cons_succ]
  refine GT.la1 20 ?_
  go_simp
  go_wp2
  have hX := ((((HNW.out.set 0 (.int .i64 k')).set 1 (.int .i64 z')).set 2 (.slice A' n' cap')).set 3 (.int .i64 ta')).drew
  have hBX : Below w.heap.size w ((((W1.setCell ⟨w.heap.size, 0, none⟩ (.int .i64 k')).setCell ⟨w.heap.size, 1, none⟩ (.int .i64 z')).setCell ⟨w.heap.size, 2, none⟩ (.slice A' n' cap')).setCell ⟨w.heap.size, 3, none⟩ (.int .i64 ta')).drew := ((((HV.out.setCell (by simp) _).setCell (by simp) _).setCell (by simp) _).setCell (by simp) _).drew
  obtain ⟨x0, x1, x2, x3, _⟩ := blk4 (show Blk _ _ _ #[.int .i64 k', .int .i64 z', .slice A' n' cap', .int .i64 ta'] from hX)
  refine bodyPost_ret (v := .tuple #[.agg #[.int .i64 k', .int .i64 z', .slice A' n' cap', .int .i64 ta'], .bool true]) (by simp [results, Tryz.results160, go_sem, x0, x1, x2, x3]) rfl ⟨rfl, hBX⟩
 ·have d1 : decide ((i : Int) < (n : Int) - ta) = false := decide_eq_false hlt
  rw [d1, Bool.false_or]
  have ew : IntKind.i64.wrap ((n : Int) - ta) = (n : Int) - ta := IntWalk.i64_in _ (by omega)
  by_cases hk : kp < s.size
  ·have d3 : decide (kp < s.size) = true := decide_eq_true hk
   have dd : decide ((0 : Int) < (s.size : Int) - kp) = true := decide_eq_true (by omega)
   rw [d3]
   go_enter Tryz.func160, Tryz.ntmps160
   go_wp2_with fail
   refine wp_region_last 20 (fun V => V.cell? ⟨bt, 2, none⟩ = some (.slice (some ⟨b, o, none⟩) n cap) ∧ V.cell? ⟨bt, 3, none⟩ = some (.int .i64 ta) ∧ V.cell? ⟨b, o + i * 4, none⟩ = some (.int .i64 k') ∧ V.cell? ⟨b, o + i * 4 + 1, none⟩ = some (.int .i64 z') ∧ V.cell? ⟨b, o + i * 4 + 2, none⟩ = some (.slice A' n' cap') ∧ V.cell? ⟨b, o + i * 4 + 3, none⟩ = some (.int .i64 ta') ∧ V.cell? ⟨br, 3, none⟩ = some (.func (.func 115) #[.pointer (some ⟨g, 0, none⟩)] #[])) (by kernel_rfl) (by kernel_rfl) ?_
   have hHeld : (fun V : World => V.cell? ⟨bt, 2, none⟩ = some (.slice (some ⟨b, o, none⟩) n cap) ∧ V.cell? ⟨bt, 3, none⟩ = some (.int .i64 ta) ∧ V.cell? ⟨b, o + i * 4, none⟩ = some (.int .i64 k') ∧ V.cell? ⟨b, o + i * 4 + 1, none⟩ = some (.int .i64 z') ∧ V.cell? ⟨b, o + i * 4 + 2, none⟩ = some (.slice A' n' cap') ∧ V.cell? ⟨b, o + i * 4 + 3, none⟩ = some (.int .i64 ta') ∧ V.cell? ⟨br, 3, none⟩ = some (.func (.func 115) #[.pointer (some ⟨g, 0, none⟩)] #[])) W1.drew := ⟨q2, q3, H0, H1, H2, H3, R3⟩
   refine GT.tk1 0 hHeld ?_
   refine GT.tk1 1 hHeld ?_
   refine GT.tk1 2 hHeld ?_
   refine GT.tk1 3 hHeld ?_
   refine GT.tk1 4 hHeld ?_
   refine GT.tk1 5 hHeld ?_
   refine GT.tk1 6 hHeld ?_
   refine GT.tk1 7 hHeld ?_
   refine GT.tk1 8 hHeld ?_
   refine GT.tk1 9 hHeld ?_
   refine GT.tk1 10 hHeld ?_
   refine GT.tk1 11 (v := .int .i64 ((n : Int) - ta)) hHeld ?_
   refine GT.tk1 12 (v := .bool false) hHeld ?_
   refine GT.tk1 13 (v := .bool false) hHeld ?_
   refine GT.tk1 14 (v := .pointer (some ⟨br, 3, none⟩)) hHeld ?_
   refine GT.tk1 15 (v := .func (.func 115) #[.pointer (some ⟨g, 0, none⟩)] #[]) hHeld ?_
   refine GT.st1 16 (fun K hK => ?_)
   go_simp
   refine (HV2.out W1.drew HV.out.drew).mono ?_
   rintro e w2 ⟨rfl, nq, rfl⟩
   go_wp2_with fail
   refine hK.out _ _ ⟨q2, q3, H0, H1, H2, H3, R3⟩ (fun hHeld => ?_)
   clear hK K
   try simp only [Act.put, List.setIfInBounds_toArray, List.set_cons_zero, List.set_cons_succ]
   refine GT.tk1 17 (v := .bool true) hHeld ?_
   refine GT.tk1 18 (v := .bool true) hHeld ?_
   obtain ⟨n0, n1, n2, n3, m0, m1, m2, m3⟩ := blk4 HNW.out
   refine GT.st1 19 (fun K hK => ?_)
   go_simp
   refine hK.out _ _ ⟨(set4_farN (by simp; omega) _ _ _ _ _).trans q2, (set4_farN (by simp; omega) _ _ _ _ _).trans q3, (set4_farN (by simp; omega) _ _ _ _ _).trans H0, (set4_farN (by simp; omega) _ _ _ _ _).trans H1, (set4_farN (by simp; omega) _ _ _ _ _).trans H2, (set4_farN (by simp; omega) _ _ _ _ _).trans H3, (set4_farN (by simp; omega) _ _ _ _ _).trans R3⟩ (fun hHeld => ?_)
   clear hK K
   try simp only [Act.put, List.setIfInBounds_toArray, List.set_cons_zero, List.set_cons_succ]
   refine GT.la1 20 ?_
   go_simp
   go_wp2
   have hY0 := (HNW.out.drewN (1 + nq)).set 0 (.int .i64 k')
   have hY1 := hY0.set 1 (.int .i64 z')
   have hY2 := hY1.set 2 (.slice A' n' cap')
   have hY3 := hY2.set 3 (.int .i64 ta')
   have y0 := hY0.cell 0
   have y1 := hY1.cell 1
   have y2 := hY2.cell 2
   have y3 := hY3.cell 3
   simp at y0 y1 y2 y3
   have hBX : Below w.heap.size w (((((W1.drewN (1 + nq)).setCell ⟨w.heap.size, 0, none⟩ (.int .i64 k')).setCell ⟨w.heap.size, 1, none⟩ (.int .i64 z')).setCell ⟨w.heap.size, 2, none⟩ (.slice A' n' cap')).setCell ⟨w.heap.size, 3, none⟩ (.int .i64 ta')) := (((((HV.out.drewN' _).setCell (by simp) _).setCell (by simp) _).setCell (by simp) _).setCell (by simp) _)
   refine bodyPost_ret (v := .tuple #[.agg #[.int .i64 k', .int .i64 z', .slice A' n' cap', .int .i64 ta'], .bool true]) (by simp [results, Tryz.results160, go_sem, y0, y1, y2, y3]) rfl ⟨rfl, hBX⟩
  ·have d3 : decide (kp < s.size) = false := decide_eq_false hk
   have dd : decide ((0 : Int) < (s.size : Int) - kp) = false := decide_eq_false (by omega)
   rw [d3]
   go_enter Tryz.func160, Tryz.ntmps160
   go_wp2_with fail
   refine wp_region_last 20 (fun V => V.cell? ⟨bt, 2, none⟩ = some (.slice (some ⟨b, o, none⟩) n cap) ∧ V.cell? ⟨bt, 3, none⟩ = some (.int .i64 ta) ∧ V.cell? ⟨b, o + i * 4, none⟩ = some (.int .i64 k') ∧ V.cell? ⟨b, o + i * 4 + 1, none⟩ = some (.int .i64 z') ∧ V.cell? ⟨b, o + i * 4 + 2, none⟩ = some (.slice A' n' cap') ∧ V.cell? ⟨b, o + i * 4 + 3, none⟩ = some (.int .i64 ta') ∧ V.cell? ⟨br, 3, none⟩ = some (.func (.func 115) #[.pointer (some ⟨g, 0, none⟩)] #[])) (by kernel_rfl) (by kernel_rfl) ?_
   have hHeld : (fun V : World => V.cell? ⟨bt, 2, none⟩ = some (.slice (some ⟨b, o, none⟩) n cap) ∧ V.cell? ⟨bt, 3, none⟩ = some (.int .i64 ta) ∧ V.cell? ⟨b, o + i * 4, none⟩ = some (.int .i64 k') ∧ V.cell? ⟨b, o + i * 4 + 1, none⟩ = some (.int .i64 z') ∧ V.cell? ⟨b, o + i * 4 + 2, none⟩ = some (.slice A' n' cap') ∧ V.cell? ⟨b, o + i * 4 + 3, none⟩ = some (.int .i64 ta') ∧ V.cell? ⟨br, 3, none⟩ = some (.func (.func 115) #[.pointer (some ⟨g, 0, none⟩)] #[])) W1.drew := ⟨q2, q3, H0, H1, H2, H3, R3⟩
   refine GT.tk1 0 hHeld ?_
   refine GT.tk1 1 hHeld ?_
   refine GT.tk1 2 hHeld ?_
   refine GT.tk1 3 hHeld ?_
   refine GT.tk1 4 hHeld ?_
   refine GT.tk1 5 hHeld ?_
   refine GT.tk1 6 hHeld ?_
   refine GT.tk1 7 hHeld ?_
   refine GT.tk1 8 hHeld ?_
   refine GT.tk1 9 hHeld ?_
   refine GT.tk1 10 hHeld ?_
   refine GT.tk1 11 (v := .int .i64 ((n : Int) - ta)) hHeld ?_
   refine GT.tk1 12 (v := .bool false) hHeld ?_
   refine GT.tk1 13 (v := .bool false) hHeld ?_
   refine GT.tk1 14 (v := .pointer (some ⟨br, 3, none⟩)) hHeld ?_
   refine GT.tk1 15 (v := .func (.func 115) #[.pointer (some ⟨g, 0, none⟩)] #[]) hHeld ?_
   refine GT.st1 16 (fun K hK => ?_)
   go_simp
   refine (HV2.out W1.drew HV.out.drew).mono ?_
   rintro e w2 ⟨rfl, nq, rfl⟩
   go_wp2_with fail
   refine hK.out _ _ ⟨q2, q3, H0, H1, H2, H3, R3⟩ (fun hHeld => ?_)
   clear hK K
   try simp only [Act.put, List.setIfInBounds_toArray, List.set_cons_zero, List.set_cons_succ]
   refine GT.tk1 17 (v := .bool false) hHeld ?_
   refine GT.tk1 18 (v := .bool false) hHeld ?_
   obtain ⟨n0, n1, n2, n3, m0, m1, m2, m3⟩ := blk4 HNW.out
   refine GT.st1 19 (fun K hK => ?_)
   go_simp
   refine hK.out _ _ ⟨(set4_farN (by simp; omega) _ _ _ _ _).trans q2, (set4_farN (by simp; omega) _ _ _ _ _).trans q3, (set4_farN (by simp; omega) _ _ _ _ _).trans H0, (set4_farN (by simp; omega) _ _ _ _ _).trans H1, (set4_farN (by simp; omega) _ _ _ _ _).trans H2, (set4_farN (by simp; omega) _ _ _ _ _).trans H3, (set4_farN (by simp; omega) _ _ _ _ _).trans R3⟩ (fun hHeld => ?_)
   clear hK K
   try simp only [Act.put, List.setIfInBounds_toArray, List.set_cons_zero, List.set_cons_succ]
   refine GT.la1 20 ?_
   go_simp
   go_wp2
   have hY0 := (HNW.out.drewN (1 + nq)).set 0 (.int .i64 k')
   have hY1 := hY0.set 1 (.int .i64 z')
   have hY2 := hY1.set 2 (.slice A' n' cap')
   have hY3 := hY2.set 3 (.int .i64 ta')
   have y0 := hY0.cell 0
   have y1 := hY1.cell 1
   have y2 := hY2.cell 2
   have y3 := hY3.cell 3
   simp at y0 y1 y2 y3
   have hBX : Below w.heap.size w (((((W1.drewN (1 + nq)).setCell ⟨w.heap.size, 0, none⟩ (.int .i64 k')).setCell ⟨w.heap.size, 1, none⟩ (.int .i64 z')).setCell ⟨w.heap.size, 2, none⟩ (.slice A' n' cap')).setCell ⟨w.heap.size, 3, none⟩ (.int .i64 ta')) := (((((HV.out.drewN' _).setCell (by simp) _).setCell (by simp) _).setCell (by simp) _).setCell (by simp) _)
   refine bodyPost_ret (v := .tuple #[.agg #[.int .i64 k', .int .i64 z', .slice A' n' cap', .int .i64 ta'], .bool false]) (by simp [results, Tryz.results160, go_sem, y0, y1, y2, y3]) rfl ⟨rfl, hBX⟩
end Go.Proofs.YtnfpgadegpmhkaaGreatDoor
