/- package item: the parser's item, and Read. -/
import Derived.Test.YtcidcjghglgkhaaItemRead
namespace Go.Proofs.Ytcidcjghglgkhaa
set_option linter.unusedVariables false
set_option linter.unusedSimpArgs false
open Go.RowKit

/-- How item ends. -/
def ItemEnd (g : Nat) (s : ByteArray) (w : World) (R : Option (It × List UInt8 × Nat)) (e : Ending) (w' : World) : Prop :=
  Only [g] w w' ∧ match R with
    | none => e = .returned (.tuple #[.agg #[.string ⟨#[]⟩, .bool false, .slice none 0 0], .bool false])
    | some (x, r, l') => ∃ c0 c1 c2, e = .returned (.tuple #[.agg #[c0, c1, c2], .bool true]) ∧ ItS w' (w.heap.size ≤ ·) x c0 c1 c2 ∧ Psr w' g s (s.size - r.length) l'
theorem pItem_nil (f left : Nat) : pItem f left [] = none := by cases f <;> simp [pItem]
theorem pItem_zero (f : Nat) (l : List UInt8) : pItem f 0 l = none := by
  cases f with
  | zero => simp [pItem]
  | succ f => cases l <;> simp [pItem]
theorem loop_nil (p : Nat → List UInt8 → Option (It × List UInt8 × Nat)) (n lf : Nat) (acc : List It) : pLoop p n lf [] acc = none := by cases n <;> simp [pLoop]
theorem loop_end (p : Nat → List UInt8 → Option (It × List UInt8 × Nat)) (n lf : Nat) (r : List UInt8) (acc : List It) (hn : 0 < n) : pLoop p n lf (41 :: r) acc = some (.mk ⟨#[]⟩ true acc, r, lf) := by
  cases n with
  | zero => omega
  | succ n => simp [pLoop]
theorem loop_first (p : Nat → List UInt8 → Option (It × List UInt8 × Nat)) (n lf : Nat) (c : UInt8) (r : List UInt8) (hc : c ≠ 41) : pLoop p (n + 1) lf (c :: r) [] = (match p lf (c :: r) with | none => none | some (y, r', l') => pLoop p n l' r' [y]) := by
  simp only [pLoop, if_neg hc, if_true, List.nil_append]
  cases p lf (c :: r) with
  | none => rfl
  | some z => rfl
theorem loop_more (p : Nat → List UInt8 → Option (It × List UInt8 × Nat)) (n lf : Nat) (r : List UInt8) (acc : List It) (ha : acc ≠ []) : pLoop p (n + 1) lf (32 :: r) acc = (match p lf r with | none => none | some (y, r', l') => pLoop p n l' r' (acc ++ [y])) := by
  simp only [pLoop, if_neg ha, if_neg (show ¬ (32 : UInt8) = 41 by decide), if_true]
  cases p lf r with
  | none => rfl
  | some z => rfl
theorem loop_bad (p : Nat → List UInt8 → Option (It × List UInt8 × Nat)) (n lf : Nat) (c : UInt8) (r : List UInt8) (acc : List It) (ha : acc ≠ []) (hc : c ≠ 41) (h32 : c ≠ 32) : pLoop p n lf (c :: r) acc = none := by
  cases n with
  | zero => simp [pLoop]
  | succ n => simp [pLoop, ha, hc, h32]
/-- What the loop over a list's items will come to: R. -/
def LoopRel (f : Nat) (s : ByteArray) (R : Option (It × List UInt8 × Nat)) (p lf : Nat) (acc : List It) : Prop := ∃ n, pLoop (pItem f) n lf (s.data.toList.drop p) acc = R ∧ (s.data.toList.drop p).length < n
def LoopAt (f : Nat) (s : ByteArray) (R : Option (It × List UInt8 × Nat)) (q lf : Nat) (acc : List It) : Prop := ∃ n, (match pItem f lf (s.data.toList.drop q) with | none => none | some (y, r', l') => pLoop (pItem f) n l' r' (acc ++ [y])) = R ∧ (s.data.toList.drop q).length ≤ n
theorem LoopRel.stop {f : Nat} {s : ByteArray} {R : Option (It × List UInt8 × Nat)} {p lf : Nat} {acc : List It} (h : LoopRel f s R p lf acc) (hp : s.size ≤ p) : R = none := by
  obtain ⟨n, h1, _⟩ := h
  rw [List.drop_eq_nil_of_le (by simpa using hp), loop_nil] at h1
  exact h1.symm
theorem LoopRel.ends {f : Nat} {s : ByteArray} {R : Option (It × List UInt8 × Nat)} {p lf : Nat} {acc : List It} (h : LoopRel f s R p lf acc) (hp : p < s.size) (h41 : s[p].toNat = 41) : R = some (.mk ⟨#[]⟩ true acc, s.data.toList.drop (p + 1), lf) := by
  obtain ⟨n, h1, h2⟩ := h
  rw [drop_cons s p hp, show s[p] = 41 from UInt8.toNat_inj.1 h41, loop_end _ _ _ _ _ (by omega)] at h1
  exact h1.symm
theorem LoopRel.first {f : Nat} {s : ByteArray} {R : Option (It × List UInt8 × Nat)} {p lf : Nat} (h : LoopRel f s R p lf []) (hn : ∀ hp : p < s.size, s[p].toNat ≠ 41) : LoopAt f s R p lf [] := by
  obtain ⟨n, h1, h2⟩ := h
  match n, h1, h2 with
  | n + 1, h1, h2 =>
    refine ⟨n, ?_, by omega⟩
    by_cases hp : p < s.size
    · rw [drop_cons s p hp, loop_first _ _ _ _ _ (fun e => hn hp (by rw [e]; rfl))] at h1
      rw [drop_cons s p hp]
      simpa using h1
    · rw [List.drop_eq_nil_of_le (by simp; omega), loop_nil] at h1
      rw [List.drop_eq_nil_of_le (by simp; omega), pItem_nil]
      exact h1
theorem LoopRel.more {f : Nat} {s : ByteArray} {R : Option (It × List UInt8 × Nat)} {p lf : Nat} {acc : List It} (h : LoopRel f s R p lf acc) (hp : p < s.size) (h32 : s[p].toNat = 32) (ha : acc ≠ []) : LoopAt f s R (p + 1) lf acc := by
  obtain ⟨n, h1, h2⟩ := h
  match n, h1, h2 with
  | n + 1, h1, h2 =>
    rw [drop_cons s p hp] at h2
    refine ⟨n, ?_, by simp at h2 ⊢; omega⟩
    rw [drop_cons s p hp, show s[p] = 32 from UInt8.toNat_inj.1 h32, loop_more _ _ _ _ _ ha] at h1
    exact h1
theorem LoopRel.bad {f : Nat} {s : ByteArray} {R : Option (It × List UInt8 × Nat)} {p lf : Nat} {acc : List It} (h : LoopRel f s R p lf acc) (h1 : ∀ hp : p < s.size, s[p].toNat ≠ 41 ∧ s[p].toNat ≠ 32) (ha : acc ≠ []) : R = none := by
  by_cases hp : p < s.size
  · obtain ⟨n, h2, _⟩ := h
    rw [drop_cons s p hp, loop_bad _ _ _ _ _ _ ha (fun e => (h1 hp).1 (by rw [e]; rfl)) (fun e => (h1 hp).2 (by rw [e]; rfl))] at h2
    exact h2.symm
  · exact h.stop (by omega)
theorem LoopAt.none {f : Nat} {s : ByteArray} {R : Option (It × List UInt8 × Nat)} {q lf : Nat} {acc : List It} (h : LoopAt f s R q lf acc) (hn : pItem f lf (s.data.toList.drop q) = none) : R = none := by
  obtain ⟨n, h1, _⟩ := h
  rw [hn] at h1
  exact h1.symm
theorem LoopAt.some {f : Nat} {s : ByteArray} {R : Option (It × List UInt8 × Nat)} {q lf : Nat} {acc : List It} {y : It} {r : List UInt8} {l2 : Nat} (h : LoopAt f s R q lf acc) (hq : q ≤ s.size) (hn : pItem f lf (s.data.toList.drop q) = some (y, r, l2)) :
    LoopRel f s R (s.size - r.length) l2 (acc ++ [y]) ∧ q < s.size - r.length ∧ s.size - r.length ≤ s.size ∧ l2 + 1 ≤ lf := by
  obtain ⟨n, h1, h2⟩ := h
  obtain ⟨k, k1, k2, k3, k4⟩ := pItem_cut hn
  rw [hn] at h1
  have hlen : (s.data.toList.drop q).length = s.size - q := by simp
  rw [hlen] at h2 k2
  have e1 : s.data.toList.drop (s.size - r.length) = r := by
    rw [k3, List.drop_drop, List.length_drop, toList_size]
    congr 1
    omega
  have e2 : r.length = s.size - q - k := by rw [k3, List.length_drop, hlen]
  exact ⟨⟨n, by rw [e1]; exact h1, by rw [e1]; omega⟩, by omega, by omega, k4⟩
theorem pass_no2 (g : Nat) (s : ByteArray) (at_ left : Nat) (b : Nat) (w : World) (h : Psr w g s at_ left) (hs : s.size ≤ 1099511627776) (hb : ∀ hat : at_ < s.size, s[at_].toNat ≠ b) :
    Calls Try.prog 80 #[.pointer (some ⟨g, 0, none⟩), .int .u8 b] w fun e w' => e = .returned (.bool false) ∧ Psr w' g s at_ left ∧ Only [] w w' :=
  (pass_no g s at_ left b w h hs hb).mono fun e w' ⟨he, n, hw⟩ => ⟨he, by rw [hw]; exact h, by rw [hw]; exact (Only.refl _ _).drewN _⟩
set_option maxRecDepth 100000 in
set_option maxHeartbeats 3200000 in
theorem item_c : ∀ (f level : Nat), level + f = 17 → ∀ (g : Nat) (s : ByteArray) (at_ left : Nat) (w : World), Psr w g s at_ left → at_ ≤ s.size → s.size ≤ 1099511627776 → left ≤ 1024 →
    Calls Try.prog 64 #[.pointer (some ⟨g, 0, none⟩), .int .i64 level] w fun e w' => ItemEnd g s w (pItem f left (s.data.toList.drop at_)) e w' := by
  intro f
  induction f with
  | zero =>
    intro level hlv g s at_ left w hps hat hs hleft
    obtain ⟨g0, g1, g2, f0, f1, f2, hlg⟩ := hps.cells
    have HR : Hid (pItem 0 left (s.data.toList.drop at_) = none) := Lib.hid (by simp [pItem])
    generalize pItem 0 left (s.data.toList.drop at_) = R at *
    go_enter Try.func64, Try.ntmps64
    go_wp2
    refine bodyPost_ret (v := .tuple #[.agg #[.string ⟨#[]⟩, .bool false, .slice none 0 0], .bool false]) (by simp [results, Try.results64, go_sem]) rfl ?_
    rw [HR.out]
    exact ⟨(by repeat (first | exact Only.refl _ _ | assumption | with_reducible refine Only.drewN ?_ _ | with_reducible refine Only.drew ?_ | with_reducible refine Only.alloc ?_ _ | ((with_reducible refine Only.put ?_ ?_ _); · (first | omega | (simp <;> omega))))), rfl⟩
  | succ f ih =>
    intro level hlv g s at_ left w hps hat hs hleft
    obtain ⟨g0, g1, g2, f0, f1, f2, hlg⟩ := hps.cells
    have HPS := Lib.hid hps
    have IH := Lib.hid (fun g s at_ left w => ih (level + 1) (by omega) g s at_ left w)
    have hl16 : level ≤ 16 := by omega
    clear ih hps hlv
    obtain ⟨R, HR⟩ : ∃ R, Hid (pItem (f + 1) left (s.data.toList.drop at_) = R) := ⟨_, Lib.hid rfl⟩
    rw [HR.out]
    by_cases hl0 : left = 0
    · have HR1 : Hid (R = none) := Lib.hid (by rw [← HR.out, hl0, pItem_zero])
      have q0 : ((left : Int) == 0) = true := by simp [hl0]
      clear hl0 HR
      go_enter Try.func64, Try.ntmps64
      go_wp2
      refine bodyPost_ret (v := .tuple #[.agg #[.string ⟨#[]⟩, .bool false, .slice none 0 0], .bool false]) (by simp [results, Try.results64, go_sem]) rfl ?_
      rw [HR1.out]
      exact ⟨(by repeat (first | exact Only.refl _ _ | assumption | with_reducible refine Only.drewN ?_ _ | with_reducible refine Only.drew ?_ | with_reducible refine Only.alloc ?_ _ | ((with_reducible refine Only.put ?_ ?_ _); · (first | omega | (simp <;> omega))))), rfl⟩
    · have q0 : ((left : Int) == 0) = false := beq_eq_false_iff_ne.2 (by omega)
      have HL0 := Lib.hid hl0
      have hl1 : 1 ≤ left := by omega
      clear hl0
      have hW : Psr ((w.setCell ⟨g, 2, none⟩ (.int .i64 ((left : Int) - 1))).alloc (.cells #[.string ⟨#[]⟩, .bool false, .slice none 0 0] 24)) g s at_ (left - 1) := Blk.alloc (Psr.less HPS.out (by omega)) _
      have hbx : Blk ((w.setCell ⟨g, 2, none⟩ (.int .i64 ((left : Int) - 1))).alloc (.cells #[.string ⟨#[]⟩, .bool false, .slice none 0 0] 24)) w.heap.size 24 #[.string ⟨#[]⟩, .bool false, .slice none 0 0] := by
        have := Blk.new (w.setCell ⟨g, 2, none⟩ (.int .i64 ((left : Int) - 1))) 24 #[.string ⟨#[]⟩, .bool false, .slice none 0 0]
        simpa using this
      have hon1 : Only [g] w ((w.setCell ⟨g, 2, none⟩ (.int .i64 ((left : Int) - 1))).alloc (.cells #[.string ⟨#[]⟩, .bool false, .slice none 0 0] 24)) := ((Only.refl _ _).setCell (by simp) _).alloc _
      have HW := Lib.hid hW
      have HBX := Lib.hid hbx
      have HON := Lib.hid hon1
      clear hW hbx hon1
      by_cases h40 : ∃ hlt : at_ < s.size, s[at_].toNat = 40
      · obtain ⟨hlt, h40⟩ := h40
        have HC := Lib.hid (pass_yes g s at_ (left - 1) 40 _ HW.out hlt hs h40)
        have HREL : Hid (LoopRel f s R (at_ + 1) (left - 1) []) := Lib.hid ⟨_, by
          have h1 := HR.out
          rw [drop_cons s at_ hlt, show s[at_] = 40 from UInt8.toNat_inj.1 h40] at h1
          unfold pItem at h1
          rw [if_neg HL0.out, if_pos rfl] at h1
          exact h1, by omega⟩
        clear h40 HR
        go_enter Try.func64, Try.ntmps64
        go_wp2_with fail
        refine HC.out.mono ?_
        rintro e w1 ⟨rfl, hp1, ho1⟩
        have hon2 : Only [g] w w1 := HON.out.trans ho1
        have hbx1 := Blk.only HBX.out ho1 (by simp; omega)
        have hz1 := hbx1.lt
        have HP1 := Lib.hid hp1
        have HO := Lib.hid hon2
        have HBX1 := Lib.hid hbx1
        clear hp1 ho1 hon2 hbx1
        go_wp2_with fail
        go_loopw [10] (fun _ wr => ∃ (p lf : Nat) (acc : List It) (vv : Value), p ≤ s.size ∧ Hid (LoopRel f s R p lf acc) ∧ acc.length + lf ≤ 1024 ∧ Psr wr g s p lf ∧ Blk wr w.heap.size 24 #[.string ⟨#[]⟩, .bool false, .slice none 0 0] ∧ Blk wr w1.heap.size 24 #[.string ⟨#[]⟩, .bool true, vv] ∧ Acc wr (w1.heap.size + 1) acc vv ∧ Only [g] w wr ∧ w1.heap.size + 1 ≤ wr.heap.size) (fun _ wr => match wr.cell? ⟨g, 1, none⟩ with | some (.int _ n) => s.size - n.toNat | _ => 0)
        case atStart => exact ⟨at_ + 1, left - 1, [], .slice none 0 0, by omega, HREL, by simp; omega, Blk.alloc HP1.out _, HBX1.out.alloc _, Blk.new _ _ _, Acc.nil _ _, HO.out.alloc _, by simp⟩
        case round =>
          clear g0 g1 g2 f0 f1 f2
          obtain ⟨p, lf, acc, vv, hp, hrel, hlf, hps, hbr, hbx, hacc, hon, hrz⟩ := hrel
          obtain ⟨g0, g1, g2, f0, f1, f2, hlgr⟩ := hps.cells
          have G1 := Lib.hid g1
          have HPS := Lib.hid hps
          have HBR := Lib.hid hbr
          have HBX := Lib.hid hbx
          have HACC := Lib.hid hacc
          have HON := Lib.hid hon
          obtain ⟨A2, n2, cap2, rfl, hn2, hc3, hc4⟩ := hacc.form'
          clear hps hbr hbx hacc hon HP1 HBX1 HO HREL HC HW
          by_cases h41 : ∃ hlt : p < s.size, s[p].toNat = 41
          · obtain ⟨hlt, h41⟩ := h41
            have HC := Lib.hid (pass_yes g s p lf 41 wr HPS.out hlt hs h41)
            have HE := Lib.hid (hrel.out.ends hlt h41)
            have HD := Lib.hid (dropL s (p + 1) (by omega))
            clear h41
            go_wp2_with fail
            refine HC.out.mono ?_
            rintro e w2 ⟨rfl, hp2, ho2⟩
            obtain ⟨r0, r1, r2, rf0, rf1, rf2⟩ := blk3 (HBR.out.only ho2 (by simp; omega))
            obtain ⟨b0, b1, b2, bf0, bf1, bf2⟩ := blk3 (HBX.out.only ho2 (by simp; omega))
            have HA2 := Lib.hid (HACC.out.only ho2 (by simp; omega))
            have HO2 := Lib.hid (HON.out.trans ho2)
            have hz2 := ho2.size
            have HP2 := Lib.hid hp2
            clear hp2 ho2
            go_wp2
            refine bodyPost_ret (v := .tuple #[.agg #[.string ⟨#[]⟩, .bool true, .slice A2 n2 cap2], .bool true]) (by simp [results, Try.results64, go_sem, r0, r1, r2]) rfl ?_
            rw [HE.out]
            have h2 := HO2.out
            refine ⟨(by repeat (first | exact Only.refl _ _ | assumption | with_reducible refine Only.drewN ?_ _ | with_reducible refine Only.drew ?_ | with_reducible refine Only.alloc ?_ _ | ((with_reducible refine Only.put ?_ ?_ _); · (first | omega | (simp <;> omega))))), _, _, _, rfl, ?_, ?_⟩
            · have ha3 : Acc _ (w1.heap.size + 1) acc (.slice A2 n2 cap2) := HA2.out.only (L := [w.heap.size]) (w' := ((w2.setCell ⟨w.heap.size, 0, none⟩ (.string ⟨#[]⟩)).setCell ⟨w.heap.size, 1, none⟩ (.bool true)).setCell ⟨w.heap.size, 2, none⟩ (.slice A2 n2 cap2)) ((((Only.refl _ _).setCell (by simp) _).setCell (by simp) _).setCell (by simp) _) (by simp; omega)
              exact (ha3.list (by omega)).weak fun k _ hk => by
                show w.heap.size ≤ k
                have hk : w1.heap.size + 1 ≤ k := hk
                omega
            · rw [HD.out]
              exact ((HP2.out.far (by simp; omega) _).far (by simp; omega) _).far (by simp; omega) _
          · have hne : ∀ hlt : p < s.size, s[p].toNat ≠ 41 := fun hlt e => h41 ⟨hlt, e⟩
            have HC := Lib.hid (pass_no2 g s p lf 41 wr HPS.out hs hne)
            clear h41
            by_cases ha : acc = []
            · subst ha
              have HAT := Lib.hid (hrel.out.first hne)
              obtain rfl : n2 = 0 := hn2.out
              clear hne
              go_wp2_with fail
              refine HC.out.mono ?_
              rintro e wq ⟨rfl, hp2, ho2⟩
              have HPQ := Lib.hid hp2
              have HBQ := Lib.hid (HBR.out.only ho2 (by simp))
              have HXQ := Lib.hid (HBX.out.only ho2 (by simp))
              have HAQ := Lib.hid (HACC.out.only ho2 (by simp))
              have HOQ := Lib.hid (HON.out.trans (ho2.mono (by simp)))
              have hzq : w1.heap.size + 1 ≤ wq.heap.size := by have := ho2.size; omega
              have hq := hp
              have hpq : p ≤ p := Nat.le_refl _
              clear hp2 ho2 HPS HBR HBX HACC HON HC
              have HI := Lib.hid (IH.out g s p lf wq HPQ.out hq hs (by omega))
              obtain ⟨b0, b1, b2, bf0, bf1, bf2⟩ := blk3 HXQ.out
              have E9 : Hid ((level : Int) + 1 = ((level + 1 : Nat) : Int)) := Lib.hid (by omega)
              go_wp2_with fail
              rw [E9.out]
              refine HI.out.mono ?_
              rintro e w4 hend
              obtain ⟨T, HT⟩ : ∃ T, Hid (pItem f lf (s.data.toList.drop p) = T) := ⟨_, Lib.hid rfl⟩
              rw [HT.out] at hend
              cases T with
              | none =>
                obtain ⟨ho, rfl⟩ := hend
                have HE := Lib.hid (HAT.out.none HT.out)
                obtain ⟨r0, r1, r2, rf0, rf1, rf2⟩ := blk3 (HBQ.out.only ho (by simp; omega))
                have HO4 := Lib.hid (HOQ.out.trans ho)
                have hz4 := ho.size
                have hlw : w.heap.size < w4.heap.size := by omega
                clear ho
                go_wp2
                refine bodyPost_ret (v := .tuple #[.agg #[.string ⟨#[]⟩, .bool false, .slice none 0 0], .bool false]) (by simp [results, Try.results64, go_sem, r0, r1, r2, World.cell?_alloc_lt, hlw]) rfl ?_
                rw [HE.out]
                have h9 := HO4.out
                exact ⟨(by repeat (first | exact Only.refl _ _ | assumption | with_reducible refine Only.drewN ?_ _ | with_reducible refine Only.drew ?_ | with_reducible refine Only.alloc ?_ _ | ((with_reducible refine Only.put ?_ ?_ _); · (first | omega | (simp <;> omega))))), rfl⟩
              | some z =>
                obtain ⟨y, r, l2⟩ := z
                obtain ⟨ho, c0, c1, c2, rfl, hy, hps4⟩ := hend
                obtain ⟨HN, hn1, hn2', hn3⟩ := HAT.out.some hq HT.out
                have HREL := Lib.hid HN
                have HX4 := Lib.hid (HXQ.out.only ho (by simp; omega))
                have HB4 := Lib.hid (HBQ.out.only ho (by simp; omega))
                have HA4 := Lib.hid (HAQ.out.only ho (by simp; omega))
                have HO4 := Lib.hid (HOQ.out.trans ho)
                have HP4 := Lib.hid hps4
                have hge := HAQ.out.ge
                have HY : Hid (∀ o o', ItS ((w4.alloc o).alloc o') (fun k => w1.heap.size + 1 ≤ k ∧ (Value.slice A2 0 cap2).ownBlock ≠ some k) y c0 c1 c2) := Lib.hid (by
                  intro o o'
                  refine ItS.keep ?_ ?_ y hy
                  · intro k hk hS
                    have hS : wq.heap.size ≤ k := hS
                    exact ⟨by omega, fun e => by have := (hge k e).2; omega⟩
                  · intro q hq _
                    rw [World.cell?_alloc_lt _ _ _ (by rw [World.size_alloc]; omega), World.cell?_alloc_lt _ _ _ hq])
                have hz4 := ho.size
                have hlw : w.heap.size < w4.heap.size := by omega
                have hlw1 : w1.heap.size < w4.heap.size := by omega
                have HGE := Lib.hid hge
                obtain ⟨AA, ccap, rfl, rfl, rfl, _⟩ := hy.open_
                clear b0 b1 b2 bf0 bf1 bf2 ho hy hps4 HN hge
                obtain ⟨b0, b1, b2, bf0, bf1, bf2⟩ := blk3 HX4.out
                go_wp2_with (at_builtin; refine wpList_append_item (by rfl) (.tmp 64) (.tmp 66) (by rfl) (w1.heap.size + 1) [] (by rfl) ((HA4.out.below ((Below.refl _ _).alloc (Nat.le_refl _) _)).below ((Below.refl _ _).alloc (Nat.le_refl _) _)) y (HY.out _ _) _ (by rfl) (by simp) (by simp) (by simp) (by first | omega | simp) (by simp only [World.size_alloc]; omega) ?_)
                intro g' n' cap' w5 hn' hacc5 hgr hlo
                have hno : ∀ k, k < w1.heap.size + 1 → (Value.slice A2 0 cap2).ownBlock ≠ some k := fun k hk e => by
                  have := (HGE.out k e).1
                  omega
                have HX5 := Lib.hid (((HX4.out.alloc _).alloc _).grown hgr (hno _ (by omega)))
                have HB5 := Lib.hid (((HB4.out.alloc _).alloc _).grown hgr (hno _ (by omega)))
                have HP5 := Lib.hid (((Blk.alloc HP4.out _).alloc _).grown hgr (hno _ (by omega)))
                have HO5 : Hid (Only [g] w w5) := Lib.hid (((HO4.out.alloc _).alloc _).grown hgr fun k hk => .inr (by have := (HGE.out k hk).1; omega))
                have hz5 := hgr.size
                simp only [World.size_alloc] at hz5
                have HA5 := Lib.hid hacc5
                clear b0 b1 b2 bf0 bf1 bf2 hgr hacc5 hno
                obtain ⟨b0, b1, b2, bf0, bf1, bf2⟩ := blk3 HX5.out
                go_wp2
                go_roundw
                case rel =>
                  refine ⟨s.size - r.length, l2, [] ++ [y], .slice (some ⟨g', 0, none⟩) n' cap', hn2', HREL, ?_, HP5.out.far (by simp; omega) _, HB5.out.far (by simp; omega) _, HX5.out.store rfl, ?_, ?_, ?_⟩
                  · simp only [List.length_append, List.length_cons, List.length_nil] at hlf ⊢; omega
                  · exact HA5.out.only ((Only.refl [w1.heap.size] w5).setCell (p := ⟨w1.heap.size, 2, none⟩) (by simp) _) (by simp)
                  · exact HO5.out.setCell (p := ⟨w1.heap.size, 2, none⟩) (by simp; omega) _
                  · simp [World.setCell]; omega
                case measure =>
                  have e1 := (show Psr (w5.setCell ⟨w1.heap.size, 2, none⟩ (.slice (some ⟨g', 0, none⟩) n' cap')) g s (s.size - r.length) l2 from HP5.out.far (by simp; omega) _).cells.2.1
                  rw [G1.out, e1]
                  simp
                  omega
            · have hn0 : 0 < n2 := by
                rw [hn2.out]
                cases acc with
                | nil => exact absurd rfl ha
                | cons a b => simp
              by_cases h32 : ∃ hlt : p < s.size, s[p].toNat = 32
              · obtain ⟨hlt, h32⟩ := h32
                have HAT := Lib.hid (hrel.out.more hlt h32 ha)
                have H32 := Lib.hid h32
                clear hne ha h32
                go_wp2_with fail
                refine HC.out.mono ?_
                rintro e w2 ⟨rfl, hp2, ho2⟩
                have HC2 := Lib.hid (pass_yes g s p lf 32 w2 hp2 hlt hs H32.out)
                have HB2 := Lib.hid (HBR.out.only ho2 (by simp))
                have HX2 := Lib.hid (HBX.out.only ho2 (by simp))
                have HA2 := Lib.hid (HACC.out.only ho2 (by simp))
                have HO2 := Lib.hid (HON.out.trans (ho2.mono (by simp)))
                have hz2 : w1.heap.size + 1 ≤ w2.heap.size := by have := ho2.size; omega
                obtain ⟨b0, b1, b2, bf0, bf1, bf2⟩ := blk3 HX2.out
                clear hp2 ho2 HPS HBR HBX HACC HON HC
                go_wp2_with fail
                refine HC2.out.mono ?_
                rintro e wq ⟨rfl, hp2, ho2⟩
                have HPQ := Lib.hid hp2
                have HBQ := Lib.hid (HB2.out.only ho2 (by simp; omega))
                have HXQ := Lib.hid (HX2.out.only ho2 (by simp; omega))
                have HAQ := Lib.hid (HA2.out.only ho2 (by simp; omega))
                have HOQ := Lib.hid (HO2.out.trans ho2)
                have hzq : w1.heap.size + 1 ≤ wq.heap.size := by have := ho2.size; omega
                have hq : p + 1 ≤ s.size := by omega
                have hpq : p ≤ p + 1 := by omega
                clear hp2 ho2 HB2 HX2 HA2 HO2 HC2 b0 b1 b2 bf0 bf1 bf2
                have HI := Lib.hid (IH.out g s (p + 1) lf wq HPQ.out hq hs (by omega))
                obtain ⟨b0, b1, b2, bf0, bf1, bf2⟩ := blk3 HXQ.out
                have E9 : Hid ((level : Int) + 1 = ((level + 1 : Nat) : Int)) := Lib.hid (by omega)
                go_wp2_with fail
                rw [E9.out]
                refine HI.out.mono ?_
                rintro e w4 hend
                obtain ⟨T, HT⟩ : ∃ T, Hid (pItem f lf (s.data.toList.drop (p + 1)) = T) := ⟨_, Lib.hid rfl⟩
                rw [HT.out] at hend
                cases T with
                | none =>
                  obtain ⟨ho, rfl⟩ := hend
                  have HE := Lib.hid (HAT.out.none HT.out)
                  obtain ⟨r0, r1, r2, rf0, rf1, rf2⟩ := blk3 (HBQ.out.only ho (by simp; omega))
                  have HO4 := Lib.hid (HOQ.out.trans ho)
                  have hz4 := ho.size
                  have hlw : w.heap.size < w4.heap.size := by omega
                  clear ho
                  go_wp2
                  refine bodyPost_ret (v := .tuple #[.agg #[.string ⟨#[]⟩, .bool false, .slice none 0 0], .bool false]) (by simp [results, Try.results64, go_sem, r0, r1, r2, World.cell?_alloc_lt, hlw]) rfl ?_
                  rw [HE.out]
                  have h9 := HO4.out
                  exact ⟨(by repeat (first | exact Only.refl _ _ | assumption | with_reducible refine Only.drewN ?_ _ | with_reducible refine Only.drew ?_ | with_reducible refine Only.alloc ?_ _ | ((with_reducible refine Only.put ?_ ?_ _); · (first | omega | (simp <;> omega))))), rfl⟩
                | some z =>
                  obtain ⟨y, r, l2⟩ := z
                  obtain ⟨ho, c0, c1, c2, rfl, hy, hps4⟩ := hend
                  obtain ⟨HN, hn1, hn2', hn3⟩ := HAT.out.some hq HT.out
                  have HREL := Lib.hid HN
                  have HX4 := Lib.hid (HXQ.out.only ho (by simp; omega))
                  have HB4 := Lib.hid (HBQ.out.only ho (by simp; omega))
                  have HA4 := Lib.hid (HAQ.out.only ho (by simp; omega))
                  have HO4 := Lib.hid (HOQ.out.trans ho)
                  have HP4 := Lib.hid hps4
                  have hge := HAQ.out.ge
                  have HY : Hid (∀ o o', ItS ((w4.alloc o).alloc o') (fun k => w1.heap.size + 1 ≤ k ∧ (Value.slice A2 n2 cap2).ownBlock ≠ some k) y c0 c1 c2) := Lib.hid (by
                    intro o o'
                    refine ItS.keep ?_ ?_ y hy
                    · intro k hk hS
                      have hS : wq.heap.size ≤ k := hS
                      exact ⟨by omega, fun e => by have := (hge k e).2; omega⟩
                    · intro q hq _
                      rw [World.cell?_alloc_lt _ _ _ (by rw [World.size_alloc]; omega), World.cell?_alloc_lt _ _ _ hq])
                  have hz4 := ho.size
                  have hlw : w.heap.size < w4.heap.size := by omega
                  have hlw1 : w1.heap.size < w4.heap.size := by omega
                  have HGE := Lib.hid hge
                  obtain ⟨AA, ccap, rfl, rfl, rfl, _⟩ := hy.open_
                  clear b0 b1 b2 bf0 bf1 bf2 ho hy hps4 HN hge
                  obtain ⟨b0, b1, b2, bf0, bf1, bf2⟩ := blk3 HX4.out
                  go_wp2_with (at_builtin; refine wpList_append_item (by rfl) (.tmp 64) (.tmp 66) (by rfl) (w1.heap.size + 1) acc (by rfl) ((HA4.out.below ((Below.refl _ _).alloc (Nat.le_refl _) _)).below ((Below.refl _ _).alloc (Nat.le_refl _) _)) y (HY.out _ _) _ (by rfl) (by simp) (by simp) (by simp) (by first | omega | simp) (by simp only [World.size_alloc]; omega) ?_)
                  intro g' n' cap' w5 hn' hacc5 hgr hlo
                  have hno : ∀ k, k < w1.heap.size + 1 → (Value.slice A2 n2 cap2).ownBlock ≠ some k := fun k hk e => by
                    have := (HGE.out k e).1
                    omega
                  have HX5 := Lib.hid (((HX4.out.alloc _).alloc _).grown hgr (hno _ (by omega)))
                  have HB5 := Lib.hid (((HB4.out.alloc _).alloc _).grown hgr (hno _ (by omega)))
                  have HP5 := Lib.hid (((Blk.alloc HP4.out _).alloc _).grown hgr (hno _ (by omega)))
                  have HO5 : Hid (Only [g] w w5) := Lib.hid (((HO4.out.alloc _).alloc _).grown hgr fun k hk => .inr (by have := (HGE.out k hk).1; omega))
                  have hz5 := hgr.size
                  simp only [World.size_alloc] at hz5
                  have HA5 := Lib.hid hacc5
                  clear b0 b1 b2 bf0 bf1 bf2 hgr hacc5 hno
                  obtain ⟨b0, b1, b2, bf0, bf1, bf2⟩ := blk3 HX5.out
                  go_wp2
                  go_roundw
                  case rel =>
                    refine ⟨s.size - r.length, l2, acc ++ [y], .slice (some ⟨g', 0, none⟩) n' cap', hn2', HREL, ?_, HP5.out.far (by simp; omega) _, HB5.out.far (by simp; omega) _, HX5.out.store rfl, ?_, ?_, ?_⟩
                    · simp only [List.length_append, List.length_cons, List.length_nil] at hlf ⊢; omega
                    · exact HA5.out.only ((Only.refl [w1.heap.size] w5).setCell (p := ⟨w1.heap.size, 2, none⟩) (by simp) _) (by simp)
                    · exact HO5.out.setCell (p := ⟨w1.heap.size, 2, none⟩) (by simp; omega) _
                    · simp [World.setCell]; omega
                  case measure =>
                    have e1 := (show Psr (w5.setCell ⟨w1.heap.size, 2, none⟩ (.slice (some ⟨g', 0, none⟩) n' cap')) g s (s.size - r.length) l2 from HP5.out.far (by simp; omega) _).cells.2.1
                    rw [G1.out, e1]
                    simp
                    omega
              · have hne2 : ∀ hlt : p < s.size, s[p].toNat ≠ 32 := fun hlt e => h32 ⟨hlt, e⟩
                have HE := Lib.hid (hrel.out.bad (fun hlt => ⟨hne hlt, hne2 hlt⟩) ha)
                have HN2 := Lib.hid hne2
                clear hne ha h32 hne2
                go_wp2_with fail
                refine HC.out.mono ?_
                rintro e w2 ⟨rfl, hp2, ho2⟩
                have HC2 := Lib.hid (pass_no2 g s p lf 32 w2 hp2 hs HN2.out)
                have HB2 := Lib.hid (HBR.out.only ho2 (by simp))
                obtain ⟨b0, b1, b2, bf0, bf1, bf2⟩ := blk3 (HBX.out.only ho2 (by simp))
                have HO2 := Lib.hid (HON.out.trans (ho2.mono (by simp)))
                clear hp2 ho2 HPS HBR HBX HACC HON HC
                go_wp2_with fail
                refine HC2.out.mono ?_
                rintro e w3 ⟨rfl, hp3, ho3⟩
                obtain ⟨r0, r1, r2, rf0, rf1, rf2⟩ := blk3 (HB2.out.only ho3 (by simp))
                have HO3 := Lib.hid (HO2.out.trans (ho3.mono (by simp)))
                clear hp3 ho3
                go_wp2
                refine bodyPost_ret (v := .tuple #[.agg #[.string ⟨#[]⟩, .bool false, .slice none 0 0], .bool false]) (by simp [results, Try.results64, go_sem, r0, r1, r2, r2]) rfl ?_
                rw [HE.out]
                have h9 := HO3.out
                exact ⟨(by repeat (first | exact Only.refl _ _ | assumption | with_reducible refine Only.drewN ?_ _ | with_reducible refine Only.drew ?_ | with_reducible refine Only.alloc ?_ _ | ((with_reducible refine Only.put ?_ ?_ _); · (first | omega | (simp <;> omega))))), rfl⟩
      · have hne : ∀ hlt : at_ < s.size, s[at_].toNat ≠ 40 := fun hlt e => h40 ⟨hlt, e⟩
        have HC := Lib.hid (pass_no2 g s at_ (left - 1) 40 _ HW.out hs hne)
        have HR1 : Hid (R = textItem (left - 1) (pText (s.data.toList.drop at_))) := Lib.hid (by
          rw [← HR.out]
          by_cases hlt : at_ < s.size
          · rw [drop_cons s at_ hlt, pItem_text f left _ _ HL0.out (fun e => hne hlt (by rw [e]; rfl))]
          · rw [List.drop_eq_nil_of_le (by simp; omega), pItem_nil]; rfl)
        have HSZ : Hid (∀ t r, pText (s.data.toList.drop at_) = some (t, r) → t.length ≤ s.size) := Lib.hid (fun t r h => by
          have := pText_len h
          rw [List.length_drop, toList_size] at this
          omega)
        clear hne h40 HR
        go_enter Try.func64, Try.ntmps64
        go_wp2_with fail
        refine HC.out.mono ?_
        rintro e w1 ⟨rfl, hp1, ho1⟩
        have hon2 : Only [g] w w1 := HON.out.trans (ho1.mono (by simp))
        have hbx1 := Blk.only HBX.out ho1 (by simp)
        have HT := Lib.hid (text_c2 g s at_ (left - 1) w1 hp1 hat hs)
        have hz1 := hbx1.lt
        have HO := Lib.hid hon2
        have HBX1 := Lib.hid hbx1
        clear hp1 ho1 hon2 hbx1
        go_wp2_with fail
        refine HT.out.mono ?_
        rintro e w2 hend
        obtain ⟨T, HTT⟩ : ∃ T, Hid (pText (s.data.toList.drop at_) = T) := ⟨_, Lib.hid rfl⟩
        rw [HTT.out] at HR1 hend HSZ
        cases T with
        | none =>
          obtain ⟨ho, rfl⟩ := hend
          have hbk := HBX1.out.only ho (by simp; omega)
          obtain ⟨r0, r1, r2, rf0, rf1, rf2⟩ := blk3 hbk
          have HO2 := Lib.hid (HO.out.trans ho)
          clear ho hbk
          go_wp2
          refine bodyPost_ret (v := .tuple #[.agg #[.string ⟨#[]⟩, .bool false, .slice none 0 0], .bool false]) (by simp [results, Try.results64, go_sem, r0, r1, r2]) rfl ?_
          rw [HR1.out]
          refine ⟨?_, rfl⟩
          have := HO2.out
          exact (by repeat (first | exact Only.refl _ _ | assumption | with_reducible refine Only.drewN ?_ _ | with_reducible refine Only.drew ?_ | with_reducible refine Only.alloc ?_ _ | ((with_reducible refine Only.put ?_ ?_ _); · (first | omega | (simp <;> omega)))))
        | some tr =>
          obtain ⟨t, r⟩ := tr
          obtain ⟨ho, rfl, hps2⟩ := hend
          have hbk := HBX1.out.only ho (by simp; omega)
          obtain ⟨r0, r1, r2, rf0, rf1, rf2⟩ := blk3 hbk
          have hT := HSZ.out t r rfl
          rw [← size_of] at hT
          obtain ⟨X, HX⟩ : ∃ X, Hid ((⟨t.toArray⟩ : ByteArray) = X) := ⟨_, Lib.hid rfl⟩
          rw [HX.out] at hT ⊢
          have HP2 := Lib.hid hps2
          have HO2 := Lib.hid (HO.out.trans ho)
          clear ho hbk hps2
          go_wp2
          refine bodyPost_ret (v := .tuple #[.agg #[.string X, .bool false, .slice none 0 0], .bool true]) (by simp [results, Try.results64, go_sem, r0, r1, r2]) rfl ?_
          rw [HR1.out]
          have h2 := HO2.out
          refine ⟨(by repeat (first | exact Only.refl _ _ | assumption | with_reducible refine Only.drewN ?_ _ | with_reducible refine Only.drew ?_ | with_reducible refine Only.alloc ?_ _ | ((with_reducible refine Only.put ?_ ?_ _); · (first | omega | (simp <;> omega))))), _, _, _, rfl, ?_, ?_⟩
          · rw [HX.out]; exact ItS.text false (by omega)
          · exact ((HP2.out.far (by simp; omega) _).far (by simp; omega) _).far (by simp; omega) _
end Go.Proofs.Ytcidcjghglgkhaa
