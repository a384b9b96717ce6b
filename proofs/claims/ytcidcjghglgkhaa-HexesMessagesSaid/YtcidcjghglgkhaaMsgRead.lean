/- Messages of lines: strings.Cut at a blank, hexes.Message and the document's; hatchwayref24.Same. -/
import Derived.Test.YtcidcjghglgkhaaMsg
import Derived.Shelf.Strings.Search1
import Derived.StillTailTactics
namespace Go.Proofs.Ytcidcjghglgkhaa
set_option linter.unusedVariables false
set_option linter.unusedSimpArgs false
open Go.RowKit

/-- The place of the first blank, or the length. -/
def spAt : List UInt8 → Nat
  | [] => 0
  | c :: l => if c = 32 then 0 else spAt l + 1
theorem spAt_le : ∀ l, spAt l ≤ l.length
  | [] => Nat.le_refl _
  | c :: l => by have := spAt_le l; unfold spAt; split <;> simp <;> omega
theorem spAt_index : ∀ l : List UInt8, Lib.indexByte l 32 = if spAt l < l.length then (spAt l : Int) else -1
  | [] => rfl
  | c :: l => by
    have ih := spAt_index l
    have hle := spAt_le l
    unfold Lib.indexByte spAt
    by_cases hc : c = 32
    · subst hc; simp
    · have hc' : (c == 32) = false := beq_eq_false_iff_ne.2 hc
      rw [hc', if_neg hc]
      by_cases hl : spAt l < l.length
      · rw [if_pos hl] at ih
        have h1 : (Lib.indexByte l 32 == -1) = false := beq_eq_false_iff_ne.2 (by omega)
        have h2 : spAt l + 1 < (c :: l).length := by rw [List.length_cons]; omega
        rw [h1, if_pos h2, ih]
        simp
      · rw [if_neg hl] at ih
        have h1 : (Lib.indexByte l 32 == -1) = true := by rw [ih]; rfl
        have h2 : ¬ spAt l + 1 < (c :: l).length := by rw [List.length_cons]; omega
        rw [h1, if_neg h2]
        simp
theorem spAt_stop {l : List UInt8} {k : Nat} (h : ∀ j (hj : j < l.length), j < k → l[j] ≠ 32) (hk : k < l.length) (h32 : l[k] = 32) : spAt l = k := by
  induction l generalizing k with
  | nil => simp at hk
  | cons c l ih =>
    unfold spAt
    cases k with
    | zero => simp at h32; rw [if_pos h32]
    | succ k =>
      have h0 := h 0 (by simp) (by omega)
      simp at h0
      rw [if_neg h0, ih (k := k) (fun j hj hjk => by have := h (j + 1) (by simp; omega) (by omega); simpa using this) (by simpa using hk) (by simpa using h32)]
theorem spAt_none {l : List UInt8} (h : ∀ j (hj : j < l.length), l[j] ≠ 32) : spAt l = l.length := by
  induction l with
  | nil => rfl
  | cons c l ih =>
    have h0 := h 0 (by simp)
    simp at h0
    unfold spAt
    rw [if_neg h0, ih (fun j hj => by have := h (j + 1) (by simp; omega); simpa using this)]
    simp
/-- The message whose line it is. -/
def msgOf (s : ByteArray) : Option (ByteArray × It) :=
  if spAt s.data.toList < s.size ∧ nmMay (s.extract 0 (spAt s.data.toList)) = true then (readIt (s.extract (spAt s.data.toList + 1) s.size).data.toList).map fun x => (s.extract 0 (spAt s.data.toList), x) else none
def idxRen2 : Go.Shelf.Ren := ⟨fun x => if x = 217 then 79 else if x = 266 then 91 else x, fun x => if x = 3 then 3 else if x = 5 then 5 else if x = 9 then 9 else x, fun x => x⟩
theorem lays217 : Go.Proofs.Lays.n217 Try.prog idxRen2 where
  mixed := by kernel_rfl
  f217 := by kernel_rfl
  f266 := by kernel_rfl
  t3 := by kernel_rfl
  a3 := fun _ => by kernel_rfl
  z3 := fun _ => by kernel_rfl
  v3 := fun _ => by kernel_rfl
  t5 := by kernel_rfl
  a5 := fun _ => by kernel_rfl
  z5 := fun _ => by kernel_rfl
  v5 := fun _ => by kernel_rfl
  t9 := by kernel_rfl
  a9 := fun _ => by kernel_rfl
  z9 := fun _ => by kernel_rfl
  v9 := fun _ => by kernel_rfl
theorem idxSp_c (s : ByteArray) (w : World) : Calls Try.prog 79 #[.string s, .int .u8 32] w fun e w' => e = .returned (.int .i64 (Lib.indexByte s.data.toList 32)) ∧ w = w' := by
  have h : Calls Try.prog 79 #[.string s, .int .u8 32] w fun e w' => e = .returned (.int .i64 (Lib.indexByte s.data.toList (32 : Int).toNat.toUInt8)) ∧ w' = w := Any.stringslite_IndexByte lays217 s 32 w
  exact h.mono fun e w' ⟨he, hw⟩ => ⟨he, hw.symm⟩
set_option maxRecDepth 100000 in
set_option maxHeartbeats 800000 in
theorem index1_c (s : ByteArray) (w : World) (hs : s.size ≤ 9223372036854775807) : Calls Try.prog 97 #[.string s, .string ⟨#[32]⟩] w fun e w' => e = .returned (.int .i64 (Lib.indexByte s.data.toList 32)) ∧ w = w' := by
  have HI := Lib.hid (fun w => idxSp_c s w)
  obtain ⟨D, HD⟩ : ∃ D, Hid (Lib.indexByte s.data.toList 32 = D) := ⟨_, Lib.hid rfl⟩
  rw [HD.out] at HI ⊢
  have hg : ∀ hp, (⟨#[32]⟩ : ByteArray)[0]'hp = 32 := fun _ => rfl
  rcases Bool.eq_false_or_eq_true ([32] == s.toList) with q1 | q1
  · have HE : Hid (D = 0) := Lib.hid (by
      have e : s.data.toList = [32] := by rw [← Lib.toList_data]; exact (beq_iff_eq.1 q1).symm
      rw [← HD.out, e]; rfl)
    go_enter Try.func97, Try.ntmps97
    go_wp2
    go_ret
    exact ⟨by rw [HE.out]; rfl, rfl⟩
  · go_enter Try.func97, Try.ntmps97
    go_wp2_with (go_at_call 79; refine (HI.out _).mono ?_; rintro e w' ⟨rfl, rfl⟩)
    go_ret
    exact ⟨rfl, rfl⟩
/-- How strings.Cut at a blank ends. -/
def cutEnd (s : ByteArray) : Ending :=
  if spAt s.data.toList < s.size then .returned (.tuple #[.string (s.extract 0 (spAt s.data.toList)), .string (s.extract (spAt s.data.toList + 1) s.size), .bool true]) else .returned (.tuple #[.string s, .string ⟨#[]⟩, .bool false])
set_option maxRecDepth 100000 in
set_option maxHeartbeats 800000 in
theorem cutLite_c (s : ByteArray) (w : World) (hs : s.size ≤ 1099511627776) : Calls Try.prog 86 #[.string s, .string ⟨#[32]⟩] w fun e w' => e = cutEnd s ∧ ∃ n, w' = w.drewN n := by
  have HI := Lib.hid (fun w => index1_c s w (by omega))
  rw [spAt_index, toList_size] at HI
  have hle := spAt_le s.data.toList
  rw [toList_size] at hle
  unfold cutEnd
  generalize spAt s.data.toList = k at *
  by_cases hk : k < s.size
  · rw [if_pos hk] at HI ⊢
    go_enter Try.func86, Try.ntmps86
    go_wp2_with fail
    refine (HI.out _).mono ?_
    rintro e w' ⟨rfl, rfl⟩
    have hsz : (⟨#[32]⟩ : ByteArray).size = 1 := rfl
    have e1 : IntKind.i64.wrap ((k : Int) + 1) = (k : Int) + 1 := IntWalk.i64_in _ (by omega)
    have e2 : ((k : Int) + 1).toNat = k + 1 := by omega
    have e3 : (0 : Int) ≤ (k : Int) + 1 := by omega
    have e4 : (k : Int) + 1 ≤ s.size := by omega
    go_wp2_with fail
    go_quiet (fail)
    clear e1 e2 e3 e4
    go_wp2
    go_ret3
    exact ⟨rfl, _, rfl⟩
  · rw [if_neg hk] at HI ⊢
    go_enter Try.func86, Try.ntmps86
    go_wp2_with fail
    refine (HI.out _).mono ?_
    rintro e w' ⟨rfl, rfl⟩
    go_wp2
    go_ret3
    exact ⟨rfl, 0, rfl⟩
set_option maxRecDepth 100000 in
theorem strCut_c (s : ByteArray) (w : World) (hs : s.size ≤ 1099511627776) : Calls Try.prog 73 #[.string s, .string ⟨#[32]⟩] w fun e w' => e = cutEnd s ∧ ∃ n, w' = w.drewN n := by
  have HI := Lib.hid (fun w => cutLite_c s w hs)
  unfold cutEnd at HI ⊢
  generalize spAt s.data.toList = k at *
  by_cases hk : k < s.size
  · rw [if_pos hk] at HI ⊢
    go_enter Try.func73, Try.ntmps73
    go_wp2_with fail
    refine (HI.out _).mono ?_
    rintro e w' ⟨rfl, n, rfl⟩
    go_wp2
    go_ret3
    exact ⟨rfl, _, rfl⟩
  · rw [if_neg hk] at HI ⊢
    go_enter Try.func73, Try.ntmps73
    go_wp2_with fail
    refine (HI.out _).mono ?_
    rintro e w' ⟨rfl, n, rfl⟩
    go_wp2
    go_ret3
    exact ⟨rfl, _, rfl⟩
/-- How Message ends. -/
def MsgEnd (w : World) (R : Option (ByteArray × It)) (e : Ending) (w' : World) : Prop :=
  Below w.heap.size w w' ∧ match R with
    | none => e = .returned (.tuple #[.agg #[.string ⟨#[]⟩, .string ⟨#[]⟩, .bool false, .slice none 0 0], .int .i64 3])
    | some (n, x) => ∃ c0 c1 c2, e = .returned (.tuple #[.agg #[.string n, c0, c1, c2], .int .i64 0]) ∧ ItS w' (w.heap.size ≤ ·) x c0 c1 c2
theorem cell4 {w : World} {g : Nat} {t : TypeId} {a b c d a' b' c' d' : Value} (h : Blk w g t #[a, b, c, d]) : Blk ((((w.setCell ⟨g, 0, none⟩ a').setCell ⟨g, 1, none⟩ b').setCell ⟨g, 2, none⟩ c').setCell ⟨g, 3, none⟩ d') g t #[a', b', c', d'] := by
  have := (((h.set 0 a').set 1 b').set 2 c').set 3 d'
  exact this
theorem msgRet {R : Ending → World → Prop} {tmps : Array Value} {V : World} {g : Nat} (a b c d : Value) (e : Int) (hp : tmps.getD 2 undef = .pointer (some ⟨g, 0, none⟩)) (he : tmps.getD 3 undef = .int .i64 e) (hB : Blk V g 65 #[a, b, c, d])
    (hR : R (.returned (.tuple #[.agg #[a, b, c, d], .int .i64 e])) V) : bodyPost Try.prog Try.f44 R .ret { tmps := tmps, defers := [] } V := by
  obtain ⟨r0, r1, r2, r3⟩ := blk4 hB
  simp only [Array.getD_eq_getD_getElem?] at hp he
  exact bodyPost_ret (v := .tuple #[.agg #[a, b, c, d], .int .i64 e]) (by simp [results, Try.results44, go_sem, hp, he, r0, r1, r2, r3]) rfl hR
theorem msgRetR {R : Ending → World → Prop} {tmps : Array Value} {V : World} {g : Nat} (a b c d : Value) (e : Int) (hp : tmps.getD 2 undef = .pointer (some ⟨g, 0, none⟩)) (he : tmps.getD 3 undef = .int .i64 e) (hB : Blk V g 65 #[a, b, c, d])
    (hR : R (.returned (.tuple #[.agg #[a, b, c, d], .int .i64 e])) V) : bodyPost Try.prog Try.f46 R .ret { tmps := tmps, defers := [] } V := by
  obtain ⟨r0, r1, r2, r3⟩ := blk4 hB
  simp only [Array.getD_eq_getD_getElem?] at hp he
  exact bodyPost_ret (v := .tuple #[.agg #[a, b, c, d], .int .i64 e]) (by simp [results, Try.results46, go_sem, hp, he, r0, r1, r2, r3]) rfl hR
set_option maxRecDepth 100000 in
set_option maxHeartbeats 1600000 in
theorem message_c (s : ByteArray) (w : World) (hs : s.size ≤ 100000) :
    Calls Try.prog 44 #[.string s] w fun e w' => MsgEnd w (msgOf s) e w' := by
  have HC := Lib.hid (strCut_c s (w.alloc (.cells #[.string ⟨#[]⟩, .string ⟨#[]⟩, .bool false, .slice none 0 0] 65)) (by omega))
  have hle := spAt_le s.data.toList
  rw [toList_size] at hle
  unfold cutEnd at HC
  unfold msgOf
  generalize spAt s.data.toList = k at *
  have hb0 : Below w.heap.size w (w.alloc (.cells #[.string ⟨#[]⟩, .string ⟨#[]⟩, .bool false, .slice none 0 0] 65)) := (Below.refl _ w).alloc (Nat.le_refl _) _
  have HK0 := Lib.hid (Blk.new w 65 #[.string ⟨#[]⟩, .string ⟨#[]⟩, .bool false, .slice none 0 0])
  have HB0 := Lib.hid hb0
  clear hb0
  by_cases hk : k < s.size
  · rw [if_pos hk] at HC
    obtain ⟨N, HN⟩ : ∃ N, Hid (s.extract 0 k = N) := ⟨_, Lib.hid rfl⟩
    obtain ⟨T, HT⟩ : ∃ T, Hid (s.extract (k + 1) s.size = T) := ⟨_, Lib.hid rfl⟩
    have hNs : N.size ≤ 100000 := by rw [← HN.out, size_cut s 0 k (by omega)]; omega
    have hTs : T.size ≤ 100000 := by rw [← HT.out, size_cut s (k + 1) s.size (by omega)]; omega
    rw [HN.out, HT.out] at HC ⊢
    have HM := Lib.hid (fun w => cmdMay_c N w (by omega))
    have HR := Lib.hid (fun w => read_c T w (by omega))
    clear HN HT
    cases hm : nmMay N with
    | false =>
      rw [hm] at HM
      rw [if_neg (by simp)]
      go_enter Try.func44, Try.ntmps44
      go_wp2_with fail
      refine HC.out.mono ?_
      rintro e w' ⟨rfl, n, rfl⟩
      go_wp2_with fail
      refine (HM.out _).mono ?_
      rintro e w' ⟨rfl, rfl⟩
      go_wp2
      refine msgRet _ _ _ _ _ (g := w.heap.size) rfl rfl (cell4 (HK0.out.drewN n)) ⟨?_, rfl⟩
      exact (((((HB0.out.drewN' n)).setCell (p := ⟨w.heap.size, 0, none⟩) (by simp) _).setCell (p := ⟨w.heap.size, 1, none⟩) (by simp) _).setCell (p := ⟨w.heap.size, 2, none⟩) (by simp) _).setCell (p := ⟨w.heap.size, 3, none⟩) (by simp) _
    | true =>
      rw [hm] at HM
      rw [if_pos ⟨hk, rfl⟩]
      clear hm
      go_enter Try.func44, Try.ntmps44
      go_wp2_with fail
      refine HC.out.mono ?_
      rintro e w' ⟨rfl, n, rfl⟩
      have HKQ := Lib.hid (HK0.out.drewN n)
      have HBQ := Lib.hid (HB0.out.drewN' n)
      have hzq : ((w.alloc (.cells #[.string ⟨#[]⟩, .string ⟨#[]⟩, .bool false, .slice none 0 0] 65)).drewN n).heap.size = w.heap.size + 1 := by show (w.alloc _).heap.size = _; simp
      generalize (w.alloc (.cells #[.string ⟨#[]⟩, .string ⟨#[]⟩, .bool false, .slice none 0 0] 65)).drewN n = wq at *
      clear HC HB0 HK0
      have HZQ := Lib.hid hzq
      clear hzq
      go_wp2_with fail
      refine (HM.out _).mono ?_
      rintro e w' ⟨rfl, rfl⟩
      go_wp2_with fail
      refine (HR.out _).mono ?_
      rintro e w3 ⟨hb3, hend⟩
      have hz3 : w.heap.size + 1 ≤ w3.heap.size := by have := hb3.size; have := HZQ.out; omega
      have HK3 : Hid (Blk w3 w.heap.size 65 #[.string ⟨#[]⟩, .string ⟨#[]⟩, .bool false, .slice none 0 0]) := Lib.hid (HKQ.out.keep hb3 HKQ.out.lt)
      have HB3 : Hid (Below w.heap.size w w3) := Lib.hid (HBQ.out.trans (hb3.mono HBQ.out.size))
      have hlw : w.heap.size < w3.heap.size := by omega
      obtain ⟨g0, g1, g2, g3⟩ := blk4 HK3.out
      have f0 := HK3.out.frozen 0
      have f1 := HK3.out.frozen 1
      have f2 := HK3.out.frozen 2
      have f3 := HK3.out.frozen 3
      clear hb3
      cases hR : readIt T.data.toList with
      | none =>
        rw [hR] at hend
        have hend : e = _ := hend
        subst hend
        have HRR := Lib.hid hR
        clear hR
        go_wp2
        rw [HRR.out, Option.map_none]
        refine msgRet _ _ _ _ _ (g := w.heap.size) rfl rfl ((cell4 HK3.out).alloc _) ⟨?_, rfl⟩
        exact ((((HB3.out.setCell (p := ⟨w.heap.size, 0, none⟩) (by simp) _).setCell (p := ⟨w.heap.size, 1, none⟩) (by simp) _).setCell (p := ⟨w.heap.size, 2, none⟩) (by simp) _).setCell (p := ⟨w.heap.size, 3, none⟩) (by simp) _).alloc (by simp [World.setCell]; omega) _
      | some x =>
        rw [hR] at hend
        obtain ⟨c0, c1, c2, rfl, hx⟩ := hend
        have HX := Lib.hid hx
        obtain ⟨A, cap, rfl, rfl, rfl, _⟩ := hx.open_
        have HRR := Lib.hid hR
        clear hx hR
        go_wp2
        rw [HRR.out, Option.map_some]
        refine msgRet _ _ _ _ _ (g := w.heap.size) rfl rfl ((cell4 HK3.out).alloc _) ⟨?_, _, _, _, rfl, ?_⟩
        · exact ((((HB3.out.setCell (p := ⟨w.heap.size, 0, none⟩) (by simp) _).setCell (p := ⟨w.heap.size, 1, none⟩) (by simp) _).setCell (p := ⟨w.heap.size, 2, none⟩) (by simp) _).setCell (p := ⟨w.heap.size, 3, none⟩) (by simp) _).alloc (by simp [World.setCell]; omega) _
        · refine HX.out.only (L := [w.heap.size]) (by repeat (first | exact Only.refl _ _ | assumption | with_reducible refine Only.drewN ?_ _ | with_reducible refine Only.drew ?_ | with_reducible refine Only.alloc ?_ _ | ((with_reducible refine Only.put ?_ ?_ _); · (first | omega | (simp <;> omega))))) ?_ ?_
          · intro k hk hs
            have := HZQ.out
            simp at hk hs
            omega
          · intro k _ hs
            have := HZQ.out
            have hs : wq.heap.size ≤ k := hs
            show w.heap.size ≤ k
            omega
  · rw [if_neg hk] at HC
    rw [if_neg (fun h => hk h.1)]
    go_enter Try.func44, Try.ntmps44
    go_wp2_with fail
    refine HC.out.mono ?_
    rintro e w' ⟨rfl, n, rfl⟩
    go_wp2
    refine msgRet _ _ _ _ _ (g := w.heap.size) rfl rfl (cell4 (HK0.out.drewN n)) ⟨?_, rfl⟩
    exact (((((HB0.out.drewN' n)).setCell (p := ⟨w.heap.size, 0, none⟩) (by simp) _).setCell (p := ⟨w.heap.size, 1, none⟩) (by simp) _).setCell (p := ⟨w.heap.size, 2, none⟩) (by simp) _).setCell (p := ⟨w.heap.size, 3, none⟩) (by simp) _
set_option maxRecDepth 100000 in
set_option maxHeartbeats 1600000 in
theorem refMessage_c (s : ByteArray) (w : World) (hs : s.size ≤ 100000) :
    Calls Try.prog 46 #[.string s] w fun e w' => MsgEnd w (msgOf s) e w' := by
  have hle := spAt_le s.data.toList
  rw [toList_size] at hle
  obtain ⟨R, HR0⟩ : ∃ R, Hid (msgOf s = R) := ⟨_, Lib.hid rfl⟩
  rw [HR0.out]
  obtain ⟨S, HS⟩ : ∃ S, Hid (S = s.data.toList) := ⟨_, Lib.hid rfl⟩
  have HSL : Hid (S.length = s.size) := Lib.hid (by rw [HS.out, toList_size])
  obtain ⟨wq, hwq⟩ : ∃ wq, w.alloc (.cells #[.string ⟨#[]⟩, .string ⟨#[]⟩, .bool false, .slice none 0 0] 65) = wq := ⟨_, rfl⟩
  have HKQ : Hid (Blk wq w.heap.size 65 #[.string ⟨#[]⟩, .string ⟨#[]⟩, .bool false, .slice none 0 0]) := Lib.hid (by rw [← hwq]; exact Blk.new w _ _)
  have HBQ : Hid (Below w.heap.size w wq) := Lib.hid (by rw [← hwq]; exact (Below.refl _ w).alloc (Nat.le_refl _) _)
  have HZQ : Hid (wq.heap.size = w.heap.size + 1) := Lib.hid (by rw [← hwq]; simp)
  have HWQ := Lib.hid hwq
  clear hwq hle
  go_enter Try.func46, Try.ntmps46
  go_wp2_with fail
  rw [HWQ.out]
  go_loop [4] (fun i => ∃ k : Nat, k ≤ s.size ∧ i = .int .i64 k ∧ Hid (∀ j (hj : j < S.length), j < k → S[j] ≠ 32)) (fun i => s.size - (intOf i).toNat)
  case atStart => exact ⟨0, by omega, rfl, Lib.hid (by omega)⟩
  case round =>
    obtain ⟨k, hk, rfl, Hk⟩ := hrel
    have HG0 := Lib.hid (blk4 HKQ.out)
    by_cases hlt : k < s.size
    · have hkS : k < S.length := by rw [HSL.out]; exact hlt
      have hSk : S[k] = s[k] := by simp only [HS.out]; rfl
      by_cases h32 : s[k].toNat = 32
      · have hc : s[k] = 32 := UInt8.toNat_inj.1 h32
        have hsp : spAt s.data.toList = k := by rw [← HS.out]; exact spAt_stop Hk.out hkS (by rw [hSk, hc])
        have e32 : ((s[k].toNat : Int) != 32) = false := by rw [h32]; rfl
        have ekk : ((k : Int) == (s.size : Int)) = false := beq_eq_false_iff_ne.2 (by omega)
        have ekk2 : (k == s.size) = false := beq_eq_false_iff_ne.2 (by omega)
        have HR1 : Hid (R = if nmMay (s.extract 0 k) = true then (readIt (s.extract (k + 1) s.size).data.toList).map fun x => (s.extract 0 k, x) else none) := Lib.hid (by
          rw [← HR0.out, msgOf, hsp]
          simp [hlt])
        obtain ⟨N, hN⟩ : ∃ N, s.extract 0 k = N := ⟨_, rfl⟩
        obtain ⟨T, hT⟩ : ∃ T, s.extract (k + 1) s.size = T := ⟨_, rfl⟩
        have hNs : N.size ≤ 100000 := by rw [← hN, size_cut s 0 k (by omega)]; omega
        have hTs : T.size ≤ 100000 := by rw [← hT, size_cut s (k + 1) s.size (by omega)]; omega
        rw [hN, hT] at HR1
        have HM := Lib.hid (fun w => refMayN_c N w (by omega))
        have HRD := Lib.hid (fun w => refRead_c T w (by omega))
        clear hc hsp hkS hSk
        cases hm : nmMay N with
        | false =>
          rw [hm] at HM HR1
          clear hm
          have HRN : Hid (R = none) := Lib.hid (by rw [HR1.out]; rfl)
          obtain ⟨g0, g1, g2, g3⟩ := HG0.out
          have f0 := HKQ.out.frozen 0
          have f1 := HKQ.out.frozen 1
          have f2 := HKQ.out.frozen 2
          have f3 := HKQ.out.frozen 3
          go_wp2_with fail
          refine (HM.out _).mono ?_
          rintro e w' ⟨rfl, rfl⟩
          go_wp2
          rw [HRN.out]
          refine msgRetR _ _ _ _ _ (g := w.heap.size) rfl rfl (cell4 HKQ.out) ⟨?_, rfl⟩
          exact ((((HBQ.out).setCell (p := ⟨w.heap.size, 0, none⟩) (by simp) _).setCell (p := ⟨w.heap.size, 1, none⟩) (by simp) _).setCell (p := ⟨w.heap.size, 2, none⟩) (by simp) _).setCell (p := ⟨w.heap.size, 3, none⟩) (by simp) _
        | true =>
          rw [hm] at HM HR1
          clear hm
          have HRN : Hid (R = (readIt T.data.toList).map fun x => (N, x)) := Lib.hid (by rw [HR1.out]; rfl)
          go_wp2_with fail
          refine (HM.out _).mono ?_
          rintro e w' ⟨rfl, rfl⟩
          go_wp2_with fail
          refine (HRD.out _).mono ?_
          rintro e w3 ⟨hb3, hend⟩
          have hz3 : w.heap.size + 1 ≤ w3.heap.size := by have := hb3.size; have := HZQ.out; omega
          have HK3 : Hid (Blk w3 w.heap.size 65 #[.string ⟨#[]⟩, .string ⟨#[]⟩, .bool false, .slice none 0 0]) := Lib.hid (HKQ.out.keep hb3 HKQ.out.lt)
          have HB3 : Hid (Below w.heap.size w w3) := Lib.hid (HBQ.out.trans (hb3.mono HBQ.out.size))
          have hlw : w.heap.size < w3.heap.size := by omega
          obtain ⟨g0, g1, g2, g3⟩ := blk4 HK3.out
          have f0 := HK3.out.frozen 0
          have f1 := HK3.out.frozen 1
          have f2 := HK3.out.frozen 2
          have f3 := HK3.out.frozen 3
          clear hb3
          cases hR : readIt T.data.toList with
          | none =>
            rw [hR] at hend
            have hend : e = _ := hend
            subst hend
            rw [hR] at HRN
            clear hR
            go_wp2
            rw [HRN.out, Option.map_none]
            refine msgRetR _ _ _ _ _ (g := w.heap.size) rfl rfl ((cell4 HK3.out).alloc _) ⟨?_, rfl⟩
            exact ((((HB3.out.setCell (p := ⟨w.heap.size, 0, none⟩) (by simp) _).setCell (p := ⟨w.heap.size, 1, none⟩) (by simp) _).setCell (p := ⟨w.heap.size, 2, none⟩) (by simp) _).setCell (p := ⟨w.heap.size, 3, none⟩) (by simp) _).alloc (by simp [World.setCell]; omega) _
          | some x =>
            rw [hR] at hend HRN
            obtain ⟨c0, c1, c2, rfl, hx⟩ := hend
            have HX := Lib.hid hx
            obtain ⟨A, cap, rfl, rfl, rfl, _⟩ := hx.open_
            clear hx hR
            go_wp2
            obtain ⟨w4, hw4⟩ : ∃ w4, w3.alloc (.cells #[.string x.text, .bool x.list, .slice A x.sub.length cap] 24) = w4 := ⟨_, rfl⟩
            have HK4 : Hid (Blk w4 w.heap.size 65 #[.string ⟨#[]⟩, .string ⟨#[]⟩, .bool false, .slice none 0 0]) := Lib.hid (by rw [← hw4]; exact HK3.out.alloc _)
            obtain ⟨i0, i1, i2, _⟩ := blk3 (Blk.new w3 24 #[.string x.text, .bool x.list, .slice A x.sub.length cap])
            have HB4 : Hid (Below w.heap.size w w4) := Lib.hid (by rw [← hw4]; exact HB3.out.alloc (by omega) _)
            have HX4 : Hid (ItS w4 (fun k => wq.heap.size ≤ k) x (.string x.text) (.bool x.list) (.slice A x.sub.length cap)) := Lib.hid (by rw [← hw4]; exact HX.out.below ((Below.refl _ _).alloc (Nat.le_refl _) _))
            have hz4 : w.heap.size + 2 ≤ w4.heap.size := by rw [← hw4]; simp; omega
            rw [hw4] at i0 i1 i2
            rw [hw4]
            clear hw4 g0 g1 g2 g3 f0 f1 f2 f3
            obtain ⟨g0, g1, g2, g3⟩ := blk4 HK4.out
            have f0 := HK4.out.frozen 0
            have f1 := HK4.out.frozen 1
            have f2 := HK4.out.frozen 2
            have f3 := HK4.out.frozen 3
            go_still_tail 5, (by kernel_rfl)
            change wpList _ _ _ _ _ w4.drew
            go_wp2
            rw [HRN.out, Option.map_some]
            refine msgRetR _ _ _ _ _ (g := w.heap.size) rfl rfl (cell4 HK4.out.drew) ⟨?_, _, _, _, rfl, ?_⟩
            · exact ((((HB4.out.drew.setCell (p := ⟨w.heap.size, 0, none⟩) (by simp) _).setCell (p := ⟨w.heap.size, 1, none⟩) (by simp) _).setCell (p := ⟨w.heap.size, 2, none⟩) (by simp) _).setCell (p := ⟨w.heap.size, 3, none⟩) (by simp) _)
            · refine HX4.out.only (L := [w.heap.size]) (by repeat (first | exact Only.refl _ _ | assumption | with_reducible refine Only.drewN ?_ _ | with_reducible refine Only.drew ?_ | with_reducible refine Only.alloc ?_ _ | ((with_reducible refine Only.put ?_ ?_ _); · (first | omega | (simp <;> omega))))) ?_ ?_
              · intro k hk hs
                have := HZQ.out
                simp at hk hs
                omega
              · intro k _ hs
                have := HZQ.out
                have hs : wq.heap.size ≤ k := hs
                show w.heap.size ≤ k
                omega
      · have hc : s[k] ≠ 32 := fun e => h32 (by rw [e]; rfl)
        have e32 : ((s[k].toNat : Int) != 32) = true := bne_iff_ne.2 (by omega)
        have HK' : Hid (∀ j (hj : j < S.length), j < k + 1 → S[j] ≠ 32) := Lib.hid (fun j hj hjk => by
          by_cases h : j = k
          · subst h; rw [hSk]; exact hc
          · exact Hk.out j hj (by omega))
        clear hc hkS hSk
        go_wp2
        go_round
        case rel => exact ⟨k + 1, by omega, by go_num, HK'⟩
        case measure => simp [intOf]; omega
    · obtain rfl : k = s.size := by omega
      have HRN : Hid (R = none) := Lib.hid (by
        have hsp : spAt s.data.toList = s.size := by rw [← HS.out, ← HSL.out]; exact spAt_none (fun j hj => Hk.out j hj (by rw [← HSL.out]; exact hj))
        rw [← HR0.out, msgOf, hsp, if_neg (by omega)])
      have ekk : ((s.size : Int) == (s.size : Int)) = true := by simp
      obtain ⟨g0, g1, g2, g3⟩ := HG0.out
      have f0 := HKQ.out.frozen 0
      have f1 := HKQ.out.frozen 1
      have f2 := HKQ.out.frozen 2
      have f3 := HKQ.out.frozen 3
      go_wp2
      rw [HRN.out]
      refine msgRetR _ _ _ _ _ (g := w.heap.size) rfl rfl (cell4 HKQ.out) ⟨?_, rfl⟩
      exact ((((HBQ.out).setCell (p := ⟨w.heap.size, 0, none⟩) (by simp) _).setCell (p := ⟨w.heap.size, 1, none⟩) (by simp) _).setCell (p := ⟨w.heap.size, 2, none⟩) (by simp) _).setCell (p := ⟨w.heap.size, 3, none⟩) (by simp) _
end Go.Proofs.Ytcidcjghglgkhaa
