/- package item: the parser's small steps (pass, digit, text). -/
import Derived.Test.YtcidcjghglgkhaaItemS
import Derived.Test.YtcidcjghglgkhaaItemShow
namespace Go.Proofs.Ytcidcjghglgkhaa
set_option linter.unusedVariables false
set_option linter.unusedSimpArgs false
open Go.RowKit

/-- Block g is the parser: the line s, the place at, so many items left. -/
def Psr (w : World) (g : Nat) (s : ByteArray) (at_ left : Nat) : Prop := Blk w g 88 #[.string s, .int .i64 at_, .int .i64 left]
theorem Psr.cells {w : World} {g : Nat} {s : ByteArray} {at_ left : Nat} (h : Psr w g s at_ left) : w.cell? ⟨g, 0, none⟩ = some (.string s) ∧ w.cell? ⟨g, 1, none⟩ = some (.int .i64 at_) ∧ w.cell? ⟨g, 2, none⟩ = some (.int .i64 left) ∧ w.frozen? ⟨g, 0, none⟩ = false ∧ w.frozen? ⟨g, 1, none⟩ = false ∧ w.frozen? ⟨g, 2, none⟩ = false ∧ g < w.heap.size := by
  obtain ⟨a, b, c, d, e, f⟩ := blk3 h
  exact ⟨a, b, c, d, e, f, Blk.lt h⟩
theorem Psr.to {w : World} {g : Nat} {s : ByteArray} {at_ left : Nat} {n : Int} {at2 : Nat} (h : Psr w g s at_ left) (hn : n = at2) : Psr (w.setCell ⟨g, 1, none⟩ (.int .i64 n)) g s at2 left := by
  subst hn
  exact Blk.store h rfl
theorem Psr.less {w : World} {g : Nat} {s : ByteArray} {at_ left : Nat} {n : Int} {left2 : Nat} (h : Psr w g s at_ left) (hn : n = left2) : Psr (w.setCell ⟨g, 2, none⟩ (.int .i64 n)) g s at_ left2 := by
  subst hn
  exact Blk.store h rfl
set_option maxHeartbeats 400000 in
theorem digit_yes (b : UInt8) (n : Nat) (w : World) (h : hxv b = some n) : Calls Try.prog 92 #[.int .u8 b.toNat] w fun e w' => e = .returned (.tuple #[.int .u8 n, .bool true]) ∧ w = w' := by
  have hb := b.toNat_lt
  unfold hxv at h
  split at h
  · rename_i hc
    injection h with h
    have h1 : (b.toNat : Int) - 48 = n := by omega
    have H1 := Lib.hid h1
    obtain ⟨hc1, hc2⟩ := hc
    clear h h1
    generalize b.toNat = x at *
    go_enter Try.func92, Try.ntmps92
    go_wp2
    go_ret2
    exact ⟨by rw [← H1.out]; rfl, rfl⟩
  · rename_i hc
    split at h
    · rename_i hd
      injection h with h
      have h1 : (b.toNat : Int) - 97 + 10 = n := by omega
      have H1 := Lib.hid h1
      obtain ⟨hc1, hc2⟩ := hd
      clear h h1
      have hg : ¬ b.toNat ≤ 57 := by omega
      generalize b.toNat = x at *
      go_enter Try.func92, Try.ntmps92
      go_wp2
      go_ret2
      exact ⟨by rw [← H1.out]; rfl, rfl⟩
    · cases h
set_option maxHeartbeats 400000 in
theorem digit_no (b : UInt8) (w : World) (h : hxv b = none) : Calls Try.prog 92 #[.int .u8 b.toNat] w fun e w' => e = .returned (.tuple #[.int .u8 0, .bool false]) ∧ w = w' := by
  have hb := b.toNat_lt
  unfold hxv at h
  split at h
  · cases h
  · rename_i hc
    split at h
    · cases h
    · rename_i hd
      clear h
      generalize b.toNat = x at *
      by_cases h1 : x < 48
      · clear hc hd
        go_enter Try.func92, Try.ntmps92
        go_wp2
        go_ret2
        exact ⟨rfl, rfl⟩
      · by_cases h2 : x < 97
        · have h3 : 57 < x := by omega
          clear hc hd
          go_enter Try.func92, Try.ntmps92
          go_wp2
          go_ret2
          exact ⟨rfl, rfl⟩
        · have h3 : 102 < x := by omega
          clear hc hd
          go_enter Try.func92, Try.ntmps92
          go_wp2
          go_ret2
          exact ⟨rfl, rfl⟩
set_option maxHeartbeats 400000 in
theorem pass_yes (g : Nat) (s : ByteArray) (at_ left : Nat) (b : Nat) (w : World) (h : Psr w g s at_ left) (hat : at_ < s.size) (hs : s.size ≤ 1099511627776) (hb : s[at_].toNat = b) :
    Calls Try.prog 80 #[.pointer (some ⟨g, 0, none⟩), .int .u8 b] w fun e w' => e = .returned (.bool true) ∧ Psr w' g s (at_ + 1) left ∧ Only [g] w w' := by
  obtain ⟨g0, g1, g2, f0, f1, f2, hl⟩ := h.cells
  have HP := Lib.hid h
  subst hb
  clear h
  have i1 : (at_ : Int) < (s.size : Int) := by omega
  go_enter Try.func80, Try.ntmps80
  go_wp2_with fail
  go_quiet (fail)
  go_wp2
  go_ret
  exact ⟨rfl, (show Psr (w.drewN _) g s at_ left from HP.out).to (by go_num), (by repeat (first | exact Only.refl _ _ | assumption | with_reducible refine Only.drewN ?_ _ | with_reducible refine Only.drew ?_ | with_reducible refine Only.alloc ?_ _ | ((with_reducible refine Only.put ?_ ?_ _); · (first | omega | (simp <;> omega)))))⟩
set_option maxHeartbeats 400000 in
theorem pass_no (g : Nat) (s : ByteArray) (at_ left : Nat) (b : Nat) (w : World) (h : Psr w g s at_ left) (hs : s.size ≤ 1099511627776) (hb : ∀ hat : at_ < s.size, s[at_].toNat ≠ b) :
    Calls Try.prog 80 #[.pointer (some ⟨g, 0, none⟩), .int .u8 b] w fun e w' => e = .returned (.bool false) ∧ ∃ n, w' = w.drewN n := by
  obtain ⟨g0, g1, g2, f0, f1, f2, hl⟩ := h.cells
  clear h
  by_cases hat : at_ < s.size
  · have i1 : (at_ : Int) < (s.size : Int) := by omega
    have i2 : ((s[at_].toNat : Int) == (b : Int)) = false := beq_eq_false_iff_ne.2 (by have := hb hat; omega)
    have i3 : (s[at_].toNat == b) = false := beq_eq_false_iff_ne.2 (hb hat)
    clear hb
    go_enter Try.func80, Try.ntmps80
    go_wp2_with fail
    go_quiet (fail)
    go_wp2
    go_ret
    exact ⟨rfl, _, rfl⟩
  · have i1 : decide ((at_ : Int) < (s.size : Int)) = false := by simp; omega
    have i2 : decide (at_ < s.size) = false := by simp; omega
    clear hb
    go_enter Try.func80, Try.ntmps80
    go_wp2_with fail
    go_quiet (fail)
    go_wp2
    go_ret
    exact ⟨rfl, _, rfl⟩

/-- A contract that leaves the world, inside a quiet region. -/
theorem q1 {P : Program} {f : FuncId} {args : Array Value} {w : World} {n : Nat} {v : Value} (h : Calls P f args (w.drewN n) fun e w' => e = .returned v ∧ w.drewN n = w') :
    Calls P f args (w.drewN n) fun e w'' => e = .returned v ∧ ∃ m, w'' = w.drewN m := h.mono fun _ _ ⟨he, hw⟩ => ⟨he, n, hw.symm⟩
set_option maxRecDepth 100000 in
theorem or16F : ∀ a b : Fin 16, a.val * 16 ||| b.val = 16 * a.val + b.val := by decide +kernel
theorem or16_cells (a b : Nat) (ha : a < 16) (hb : b < 16) : (#[Value.int .u8 (bits .or .u8 ((a : Int) * 16) (b : Int))] : Array Value).toList = cb [UInt8.ofNat (16 * a + b)] := by
  have h1 := u8_or_nat (a * 16) b (by omega) (by omega)
  have h2 := or16F ⟨a, ha⟩ ⟨b, hb⟩
  simp only at h2
  rw [h2] at h1
  rw [show ((a : Int) * 16) = ((a * 16 : Nat) : Int) from by omega, h1]
  simp [cb]
  omega
/-- How text ends. -/
def TextEnd (g : Nat) (s : ByteArray) (left : Nat) (w : World) (R : Option (List UInt8 × List UInt8)) (e : Ending) (w' : World) : Prop :=
  Only [g] w w' ∧ match R with
    | none => e = .returned (.tuple #[.string ⟨#[]⟩, .bool false])
    | some (t, r) => e = .returned (.tuple #[.string ⟨t.toArray⟩, .bool true]) ∧ Psr w' g s (s.size - r.length) left
theorem Only.keptOn {L : List Nat} {w w1 w2 : World} (h : Only L w w1) (hb : Below w.heap.size w1 w2) : Only L w w2 :=
  ⟨hb.os.trans h.os, hb.tape.trans h.tape, hb.output.trans h.output, Nat.le_trans h.size hb.size, fun k hk hn => (hb.block k hk).trans (h.block k hk hn)⟩
theorem dropL (s : ByteArray) (k : Nat) (h : k ≤ s.size) : s.size - (s.data.toList.drop k).length = k := by rw [List.length_drop, toList_size]; omega
/-- What has been read of the digits, and what is still to come. -/
def TxRel (s : ByteArray) (at_ p : Nat) (l : List UInt8) : Prop := hxHead (s.data.toList.drop at_) = (l ++ (hxHead (s.data.toList.drop p)).1, (hxHead (s.data.toList.drop p)).2) ∧ l.length ≤ p
theorem TxRel.start (s : ByteArray) (at_ : Nat) : TxRel s at_ at_ [] := ⟨by simp, by simp⟩
theorem drop2 (s : ByteArray) (p : Nat) (h : p + 1 < s.size) : s.data.toList.drop p = s[p] :: s[p + 1] :: s.data.toList.drop (p + 2) := by
  rw [drop_cons s p (by omega), drop_cons s (p + 1) h]
theorem TxRel.next {s : ByteArray} {at_ p : Nat} {l : List UInt8} (h : TxRel s at_ p l) (hp : p + 1 < s.size) {a b : Nat} (ha : hxv s[p] = some a) (hb : hxv s[p + 1] = some b) : TxRel s at_ (p + 2) (l ++ [UInt8.ofNat (16 * a + b)]) := by
  obtain ⟨h1, h2⟩ := h
  rw [drop2 s p hp] at h1
  simp only [hxHead, ha, hb] at h1
  exact ⟨by rw [h1]; simp, by simp; omega⟩
theorem TxRel.done {s : ByteArray} {at_ p : Nat} {l : List UInt8} (h : TxRel s at_ p l) (hp : p ≤ s.size) (hn : ∀ hlt : p < s.size, hxv s[p] = none) (hd : ∀ x, s.data.toList.drop at_ ≠ 45 :: x) : pText (s.data.toList.drop at_) = if l = [] then none else some (l, s.data.toList.drop p) := by
  obtain ⟨h1, h2⟩ := h
  by_cases hlt : p < s.size
  · have e : hxHead (s.data.toList.drop p) = ([], s.data.toList.drop p) := by
      rw [drop_cons s p hlt]
      have := hn hlt
      cases h3 : s.data.toList.drop (p + 1) with
      | nil => rfl
      | cons b r => simp [hxHead, this]
    rw [e] at h1
    simp only [List.append_nil] at h1
    exact pText_end h1 hd (by rw [drop_cons s p hlt]; simp [hexAhead, hn hlt])
  · have e : s.data.toList.drop p = [] := List.drop_eq_nil_of_le (by simp; omega)
    rw [e] at h1 ⊢
    simp only [hxHead, List.append_nil] at h1
    exact pText_end h1 hd rfl
theorem TxRel.bad {s : ByteArray} {at_ p : Nat} {l : List UInt8} (h : TxRel s at_ p l) (hlt : p < s.size) {a : Nat} (ha : hxv s[p] = some a) (hn : ∀ hp : p + 1 < s.size, hxv s[p + 1] = none) (hd : ∀ x, s.data.toList.drop at_ ≠ 45 :: x) : pText (s.data.toList.drop at_) = none := by
  obtain ⟨h1, h2⟩ := h
  have e : hxHead (s.data.toList.drop p) = ([], s.data.toList.drop p) := by
    rw [drop_cons s p hlt]
    by_cases hp : p + 1 < s.size
    · rw [drop_cons s (p + 1) hp]
      simp [hxHead, ha, hn hp]
    · rw [List.drop_eq_nil_of_le (by simp; omega)]; rfl
  rw [e] at h1
  simp only [List.append_nil] at h1
  exact pText_bad h1 hd (by rw [drop_cons s p hlt]; simp [hexAhead, ha])
set_option maxRecDepth 100000 in
set_option maxHeartbeats 1600000 in
theorem text_c2 (g : Nat) (s : ByteArray) (at_ left : Nat) (w : World) (h : Psr w g s at_ left) (hat : at_ ≤ s.size) (hs : s.size ≤ 1099511627776) :
    Calls Try.prog 81 #[.pointer (some ⟨g, 0, none⟩)] w fun e w' => TextEnd g s left w (pText (s.data.toList.drop at_)) e w' := by
  have HP := Lib.hid h
  by_cases hd : ∃ hlt : at_ < s.size, s[at_].toNat = 45
  · obtain ⟨hlt, h45⟩ := hd
    have HC := Lib.hid (pass_yes g s at_ left 45 w h hlt hs h45)
    have HR : Hid (pText (s.data.toList.drop at_) = some ([], s.data.toList.drop (at_ + 1))) := Lib.hid (by
      rw [drop_cons s at_ hlt, show s[at_] = 45 from UInt8.toNat_inj.1 h45, pText_dash])
    have HD := Lib.hid (dropL s (at_ + 1) (by omega))
    generalize pText (s.data.toList.drop at_) = R at *
    clear h h45
    go_enter Try.func81, Try.ntmps81
    go_wp2_with fail
    refine HC.out.mono ?_
    rintro e w1 ⟨rfl, hp, ho⟩
    have HP1 := Lib.hid hp
    clear hp
    go_wp2
    go_ret2
    rw [HR.out]
    exact ⟨ho, rfl, by rw [HD.out]; exact HP1.out⟩
  · have hne : ∀ hlt : at_ < s.size, s[at_].toNat ≠ 45 := fun hlt e => hd ⟨hlt, e⟩
    have HC := Lib.hid (pass_no g s at_ left 45 w h hs hne)
    have HD : Hid (∀ x, s.data.toList.drop at_ ≠ 45 :: x) := Lib.hid (by
      intro x e
      by_cases hlt : at_ < s.size
      · rw [drop_cons s at_ hlt] at e
        injection e with e
        exact hne hlt (by rw [e]; rfl)
      · rw [List.drop_eq_nil_of_le (by simp; omega)] at e; cases e)
    have hl := Blk.lt h
    obtain ⟨i0, hi, hz0, hz1, hz2⟩ := info_parts info_byte
    clear hne hd h
    go_enter Try.func81, Try.ntmps81
    go_wp2_with fail
    refine HC.out.mono ?_
    rintro e w1 ⟨rfl, n1, rfl⟩
    go_wp2_with fail
    go_loopw [4, 5, 6, 7] (fun b _ _ _ wr => ∃ (p : Nat) (l : List UInt8), p ≤ s.size ∧ Hid (TxRel s at_ p l) ∧ l.length ≤ s.size ∧ Psr wr g s p left ∧ Buf wr w.heap.size 5 b l ∧ Only [g] w wr) (fun _ _ _ _ wr => match wr.cell? ⟨g, 1, none⟩ with | some (.int _ n) => s.size - n.toNat | _ => 0)
    case atStart => exact ⟨at_, [], hat, Lib.hid (TxRel.start s at_), by simp, HP.out, Buf.nil _ _ _, (by repeat (first | exact Only.refl _ _ | assumption | with_reducible refine Only.drewN ?_ _ | with_reducible refine Only.drew ?_ | with_reducible refine Only.alloc ?_ _ | ((with_reducible refine Only.put ?_ ?_ _); · (first | omega | (simp <;> omega)))))⟩
    case round =>
      obtain ⟨p, l, hp, hrel, hll, hps, hbuf, hon⟩ := hrel
      obtain ⟨g0, g1, g2, f0, f1, f2, hlg⟩ := hps.cells
      have G1 := Lib.hid g1
      have HPS := Lib.hid hps
      have HBF := Lib.hid hbuf
      have hsz := hon.size
      obtain ⟨A2, n2, cap2, rfl, hn2, hc3, hc4⟩ := hbuf.form'
      clear hps hbuf
      by_cases hlt : p < s.size
      · have i1 : (p : Int) < (s.size : Int) := by omega
        cases hv : hxv s[p] with
        | none =>
          have HE : Hid (pText (s.data.toList.drop at_) = if l = [] then none else some (l, s.data.toList.drop p)) := Lib.hid (hrel.out.done hp (fun _ => hv) HD.out)
          have HDG := Lib.hid (fun w => digit_no s[p] w hv)
          clear hv
          go_wp2_with fail
          go_quiet (fail)
          obtain ⟨w5, HWQ⟩ : ∃ wq, Hid (wr.drewN nq = wq) := ⟨_, Lib.hid rfl⟩
          rw [HWQ.out]
          have HPS : Hid (Psr w5 g s p left) := Lib.hid (by rw [← HWQ.out]; exact HPS.out)
          have HBF : Hid (Buf w5 w.heap.size 5 (.slice A2 n2 cap2) l) := Lib.hid (by rw [← HWQ.out]; exact HBF.out)
          have hon : Only [g] w w5 := by rw [← HWQ.out]; exact hon.drewN _
          have hsz := hon.size
          clear HWQ g0 g1 g2 f0 f1 f2
          obtain ⟨g0, g1, g2, f0, f1, f2, hlg⟩ := HPS.out.cells
          go_wp2_with fail
          go_quiet ((go_at_call 92; exact q1 (HDG.out _)))
          obtain ⟨w6, HWQ⟩ : ∃ wq, Hid (w5.drewN nq = wq) := ⟨_, Lib.hid rfl⟩
          rw [HWQ.out]
          have HPS : Hid (Psr w6 g s p left) := Lib.hid (by rw [← HWQ.out]; exact HPS.out)
          have HBF : Hid (Buf w6 w.heap.size 5 (.slice A2 n2 cap2) l) := Lib.hid (by rw [← HWQ.out]; exact HBF.out)
          have hon : Only [g] w w6 := by rw [← HWQ.out]; exact hon.drewN _
          have hsz := hon.size
          clear HWQ g0 g1 g2 f0 f1 f2
          obtain ⟨g0, g1, g2, f0, f1, f2, hlg⟩ := HPS.out.cells
          have hst := HBF.out.str' (P := Try.prog) Try.underlying80 Try.underlying5 Try.underlying9
          cases l with
          | nil =>
            obtain rfl : n2 = 0 := hn2.out
            go_wp2
            go_ret2
            rw [HE.out]
            exact ⟨hon, rfl⟩
          | cons c cs =>
            have HDL := Lib.hid (dropL s p hp)
            have hpos : 0 < n2 := by rw [hn2.out]; simp
            have HE2 : Hid (pText (s.data.toList.drop at_) = some (c :: cs, s.data.toList.drop p)) := Lib.hid (by rw [HE.out]; simp)
            generalize c :: cs = l at *
            clear HE
            go_wp2
            go_ret2
            rw [HE2.out]
            exact ⟨hon, rfl, by rw [HDL.out]; exact HPS.out⟩
        | some a =>
          have HDG := Lib.hid (fun w => digit_yes s[p] a w hv)
          have ha16 := (hxv_some hv).1
          by_cases hp1 : p + 1 < s.size
          · have j1 : ((p : Int) + 1) < (s.size : Int) := by omega
            have j2 : ((p : Int) + 1 == (s.size : Int)) = false := beq_eq_false_iff_ne.2 (by omega)
            have j3 : (p + 1 == s.size) = false := beq_eq_false_iff_ne.2 (by omega)
            have j4 : IntKind.i64.wrap ((p : Int) + 1) = (p : Int) + 1 := IntWalk.i64_in _ (by omega)
            have j5 : ((p : Int) + 1).toNat = p + 1 := by omega
            have j6 : (0 : Int) ≤ (p : Int) + 1 := by omega
            cases hv2 : hxv s[p + 1] with
            | none =>
              have HE : Hid (pText (s.data.toList.drop at_) = none) := Lib.hid (hrel.out.bad hlt hv (fun _ => hv2) HD.out)
              have HDG2 := Lib.hid (fun w => digit_no s[p + 1] w hv2)
              clear hv hv2
              go_wp2_with fail
              go_quiet (fail)
              obtain ⟨w5, HWQ⟩ : ∃ wq, Hid (wr.drewN nq = wq) := ⟨_, Lib.hid rfl⟩
              rw [HWQ.out]
              have HPS : Hid (Psr w5 g s p left) := Lib.hid (by rw [← HWQ.out]; exact HPS.out)
              have HBF : Hid (Buf w5 w.heap.size 5 (.slice A2 n2 cap2) l) := Lib.hid (by rw [← HWQ.out]; exact HBF.out)
              have hon : Only [g] w w5 := by rw [← HWQ.out]; exact hon.drewN _
              have hsz := hon.size
              clear HWQ g0 g1 g2 f0 f1 f2
              obtain ⟨g0, g1, g2, f0, f1, f2, hlg⟩ := HPS.out.cells
              go_wp2_with fail
              go_quiet ((go_at_call 92; exact q1 (HDG.out _)))
              obtain ⟨w6, HWQ⟩ : ∃ wq, Hid (w5.drewN nq = wq) := ⟨_, Lib.hid rfl⟩
              rw [HWQ.out]
              have HPS : Hid (Psr w6 g s p left) := Lib.hid (by rw [← HWQ.out]; exact HPS.out)
              have HBF : Hid (Buf w6 w.heap.size 5 (.slice A2 n2 cap2) l) := Lib.hid (by rw [← HWQ.out]; exact HBF.out)
              have hon : Only [g] w w6 := by rw [← HWQ.out]; exact hon.drewN _
              have hsz := hon.size
              clear HWQ g0 g1 g2 f0 f1 f2
              obtain ⟨g0, g1, g2, f0, f1, f2, hlg⟩ := HPS.out.cells
              go_wp2_with fail
              go_quiet (fail)
              obtain ⟨w7, HWQ⟩ : ∃ wq, Hid (w6.drewN nq = wq) := ⟨_, Lib.hid rfl⟩
              rw [HWQ.out]
              have HPS : Hid (Psr w7 g s p left) := Lib.hid (by rw [← HWQ.out]; exact HPS.out)
              have HBF : Hid (Buf w7 w.heap.size 5 (.slice A2 n2 cap2) l) := Lib.hid (by rw [← HWQ.out]; exact HBF.out)
              have hon : Only [g] w w7 := by rw [← HWQ.out]; exact hon.drewN _
              have hsz := hon.size
              clear HWQ g0 g1 g2 f0 f1 f2
              obtain ⟨g0, g1, g2, f0, f1, f2, hlg⟩ := HPS.out.cells
              go_wp2_with fail
              go_quiet ((go_at_call 92; exact q1 (HDG2.out _)))
              obtain ⟨w8, HWQ⟩ : ∃ wq, Hid (w7.drewN nq = wq) := ⟨_, Lib.hid rfl⟩
              rw [HWQ.out]
              have HPS : Hid (Psr w8 g s p left) := Lib.hid (by rw [← HWQ.out]; exact HPS.out)
              have HBF : Hid (Buf w8 w.heap.size 5 (.slice A2 n2 cap2) l) := Lib.hid (by rw [← HWQ.out]; exact HBF.out)
              have hon : Only [g] w w8 := by rw [← HWQ.out]; exact hon.drewN _
              have hsz := hon.size
              clear HWQ g0 g1 g2 f0 f1 f2
              obtain ⟨g0, g1, g2, f0, f1, f2, hlg⟩ := HPS.out.cells
              clear j4
              go_wp2
              go_ret2
              rw [HE.out]
              exact ⟨hon, rfl⟩
            | some b =>
              have HN := Lib.hid (hrel.out.next hp1 hv hv2)
              have HOC := Lib.hid (or16_cells a b (hxv_some hv).1 (hxv_some hv2).1)
              generalize UInt8.ofNat (16 * a + b) = cc at *
              have HDG2 := Lib.hid (fun w => digit_yes s[p + 1] b w hv2)
              have hb16 := (hxv_some hv2).1
              clear hv hv2
              go_wp2_with fail
              go_quiet (fail)
              obtain ⟨w5, HWQ⟩ : ∃ wq, Hid (wr.drewN nq = wq) := ⟨_, Lib.hid rfl⟩
              rw [HWQ.out]
              have HPS : Hid (Psr w5 g s p left) := Lib.hid (by rw [← HWQ.out]; exact HPS.out)
              have HBF : Hid (Buf w5 w.heap.size 5 (.slice A2 n2 cap2) l) := Lib.hid (by rw [← HWQ.out]; exact HBF.out)
              have hon : Only [g] w w5 := by rw [← HWQ.out]; exact hon.drewN _
              have hsz := hon.size
              clear HWQ g0 g1 g2 f0 f1 f2
              obtain ⟨g0, g1, g2, f0, f1, f2, hlg⟩ := HPS.out.cells
              go_wp2_with fail
              go_quiet ((go_at_call 92; exact q1 (HDG.out _)))
              obtain ⟨w6, HWQ⟩ : ∃ wq, Hid (w5.drewN nq = wq) := ⟨_, Lib.hid rfl⟩
              rw [HWQ.out]
              have HPS : Hid (Psr w6 g s p left) := Lib.hid (by rw [← HWQ.out]; exact HPS.out)
              have HBF : Hid (Buf w6 w.heap.size 5 (.slice A2 n2 cap2) l) := Lib.hid (by rw [← HWQ.out]; exact HBF.out)
              have hon : Only [g] w w6 := by rw [← HWQ.out]; exact hon.drewN _
              have hsz := hon.size
              clear HWQ g0 g1 g2 f0 f1 f2
              obtain ⟨g0, g1, g2, f0, f1, f2, hlg⟩ := HPS.out.cells
              go_wp2_with fail
              go_quiet (fail)
              obtain ⟨w7, HWQ⟩ : ∃ wq, Hid (w6.drewN nq = wq) := ⟨_, Lib.hid rfl⟩
              rw [HWQ.out]
              have HPS : Hid (Psr w7 g s p left) := Lib.hid (by rw [← HWQ.out]; exact HPS.out)
              have HBF : Hid (Buf w7 w.heap.size 5 (.slice A2 n2 cap2) l) := Lib.hid (by rw [← HWQ.out]; exact HBF.out)
              have hon : Only [g] w w7 := by rw [← HWQ.out]; exact hon.drewN _
              have hsz := hon.size
              clear HWQ g0 g1 g2 f0 f1 f2
              obtain ⟨g0, g1, g2, f0, f1, f2, hlg⟩ := HPS.out.cells
              go_wp2_with fail
              go_quiet ((go_at_call 92; exact q1 (HDG2.out _)))
              obtain ⟨w8, HWQ⟩ : ∃ wq, Hid (w7.drewN nq = wq) := ⟨_, Lib.hid rfl⟩
              rw [HWQ.out]
              have HPS : Hid (Psr w8 g s p left) := Lib.hid (by rw [← HWQ.out]; exact HPS.out)
              have HBF : Hid (Buf w8 w.heap.size 5 (.slice A2 n2 cap2) l) := Lib.hid (by rw [← HWQ.out]; exact HBF.out)
              have hon : Only [g] w w8 := by rw [← HWQ.out]; exact hon.drewN _
              have hsz := hon.size
              clear HWQ g0 g1 g2 f0 f1 f2
              obtain ⟨g0, g1, g2, f0, f1, f2, hlg⟩ := HPS.out.cells
              clear j4
              go_wp2_with (at_builtin; refine wpList_append_buf (by rfl) (.tmp 62) (.tmp 67) 80 80 (by rfl) w.heap.size 5 i0 Try.underlying80 hi hz0 hz1 hz2 (by rfl) (HBF.out.alloc _) _ [cc] (by rfl) (src_lit Try.underlying80 _ 5 _ [cc] 1 _ (by rfl) HOC.out) (by simp only [World.size_alloc]; omega) (by simp only [List.length_cons, List.length_nil]; omega) ?_)
              intro A3 n3 cap3 w9 hb9 hk9
              have hps9 : Psr w9 g s p left := Blk.kept (Blk.alloc HPS.out _) hk9 (by decide)
              have hon9 : Only [g] w w9 := (hon.alloc _).keptOn hk9.below
              clear g0 g1 g2 f0 f1 f2 hlg
              obtain ⟨g0, g1, g2, f0, f1, f2, hlg⟩ := hps9.cells
              have HP9 := Lib.hid hps9
              have HB9 := Lib.hid hb9
              clear hk9 hb9 hps9
              go_wp2
              go_roundw
              case rel =>
                refine ⟨p + 2, _, by omega, HN, ?_, HP9.out.to (by go_num), HB9.out.only ((Only.refl [g] w9).setCell (p := ⟨g, 1, none⟩) (by simp) _) (by simp; omega), hon9.setCell (by simp) _⟩
                have h9 := HN.out.2
                omega
              case measure =>
                have e1 := (HP9.out.to (n := (p : Int) + 2) (at2 := p + 2) (by go_num)).cells.2.1
                rw [G1.out, e1]
                simp
                omega
          · have j1 : ((p : Int) + 1 == (s.size : Int)) = true := by simp; omega
            have j3 : (p + 1 == s.size) = true := by simp; omega
            have HE : Hid (pText (s.data.toList.drop at_) = none) := Lib.hid (hrel.out.bad hlt hv (fun h => absurd h hp1) HD.out)
            have j4 : IntKind.i64.wrap ((p : Int) + 1) = (p : Int) + 1 := IntWalk.i64_in _ (by omega)
            clear hv
            go_wp2_with fail
            go_quiet (fail)
            obtain ⟨w5, HWQ⟩ : ∃ wq, Hid (wr.drewN nq = wq) := ⟨_, Lib.hid rfl⟩
            rw [HWQ.out]
            have HPS : Hid (Psr w5 g s p left) := Lib.hid (by rw [← HWQ.out]; exact HPS.out)
            have HBF : Hid (Buf w5 w.heap.size 5 (.slice A2 n2 cap2) l) := Lib.hid (by rw [← HWQ.out]; exact HBF.out)
            have hon : Only [g] w w5 := by rw [← HWQ.out]; exact hon.drewN _
            have hsz := hon.size
            clear HWQ g0 g1 g2 f0 f1 f2
            obtain ⟨g0, g1, g2, f0, f1, f2, hlg⟩ := HPS.out.cells
            go_wp2_with fail
            go_quiet ((go_at_call 92; exact q1 (HDG.out _)))
            obtain ⟨w6, HWQ⟩ : ∃ wq, Hid (w5.drewN nq = wq) := ⟨_, Lib.hid rfl⟩
            rw [HWQ.out]
            have HPS : Hid (Psr w6 g s p left) := Lib.hid (by rw [← HWQ.out]; exact HPS.out)
            have HBF : Hid (Buf w6 w.heap.size 5 (.slice A2 n2 cap2) l) := Lib.hid (by rw [← HWQ.out]; exact HBF.out)
            have hon : Only [g] w w6 := by rw [← HWQ.out]; exact hon.drewN _
            have hsz := hon.size
            clear HWQ g0 g1 g2 f0 f1 f2
            obtain ⟨g0, g1, g2, f0, f1, f2, hlg⟩ := HPS.out.cells
            go_wp2_with fail
            go_quiet (fail)
            obtain ⟨w7, HWQ⟩ : ∃ wq, Hid (w6.drewN nq = wq) := ⟨_, Lib.hid rfl⟩
            rw [HWQ.out]
            have HPS : Hid (Psr w7 g s p left) := Lib.hid (by rw [← HWQ.out]; exact HPS.out)
            have HBF : Hid (Buf w7 w.heap.size 5 (.slice A2 n2 cap2) l) := Lib.hid (by rw [← HWQ.out]; exact HBF.out)
            have hon : Only [g] w w7 := by rw [← HWQ.out]; exact hon.drewN _
            have hsz := hon.size
            clear HWQ g0 g1 g2 f0 f1 f2
            obtain ⟨g0, g1, g2, f0, f1, f2, hlg⟩ := HPS.out.cells
            clear j4
            go_wp2
            go_ret2
            rw [HE.out]
            exact ⟨hon, rfl⟩
      · have i1 : decide ((p : Int) < (s.size : Int)) = false := by simp; omega
        have i2 : decide (p < s.size) = false := by simp; omega
        have HE : Hid (pText (s.data.toList.drop at_) = if l = [] then none else some (l, s.data.toList.drop p)) := Lib.hid (hrel.out.done hp (fun h => absurd h hlt) HD.out)
        go_wp2_with fail
        go_quiet (fail)
        obtain ⟨w6, HWQ⟩ : ∃ wq, Hid (wr.drewN nq = wq) := ⟨_, Lib.hid rfl⟩
        rw [HWQ.out]
        have HPS : Hid (Psr w6 g s p left) := Lib.hid (by rw [← HWQ.out]; exact HPS.out)
        have HBF : Hid (Buf w6 w.heap.size 5 (.slice A2 n2 cap2) l) := Lib.hid (by rw [← HWQ.out]; exact HBF.out)
        have hon : Only [g] w w6 := by rw [← HWQ.out]; exact hon.drewN _
        have hsz := hon.size
        clear HWQ g0 g1 g2 f0 f1 f2
        obtain ⟨g0, g1, g2, f0, f1, f2, hlg⟩ := HPS.out.cells
        have hst := HBF.out.str' (P := Try.prog) Try.underlying80 Try.underlying5 Try.underlying9
        cases l with
        | nil =>
          obtain rfl : n2 = 0 := hn2.out
          go_wp2
          go_ret2
          rw [HE.out]
          exact ⟨hon, rfl⟩
        | cons c cs =>
          have HDL := Lib.hid (dropL s p hp)
          have hpos : 0 < n2 := by rw [hn2.out]; simp
          have HE2 : Hid (pText (s.data.toList.drop at_) = some (c :: cs, s.data.toList.drop p)) := Lib.hid (by rw [HE.out]; simp)
          generalize c :: cs = l at *
          clear HE
          go_wp2
          go_ret2
          rw [HE2.out]
          exact ⟨hon, rfl, by rw [HDL.out]; exact HPS.out⟩
end Go.Proofs.Ytcidcjghglgkhaa
