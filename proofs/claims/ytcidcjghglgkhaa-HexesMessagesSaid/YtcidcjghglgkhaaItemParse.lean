/- The document's digit and parse. -/
import Derived.Test.YtcidcjghglgkhaaItemRead2
import Derived.Test.YtcidcjghglgkhaaItemRef2
namespace Go.Proofs.Ytcidcjghglgkhaa
set_option linter.unusedVariables false
set_option linter.unusedSimpArgs false
open Go.RowKit

/-- The value of a digit, or -1. -/
def dv (b : UInt8) : Int := match hxv b with | some n => n | none => -1
theorem dv_some {b : UInt8} {n : Nat} (h : hxv b = some n) : dv b = n := by simp [dv, h]
theorem dv_none {b : UInt8} (h : hxv b = none) : dv b = -1 := by simp [dv, h]
theorem dig_nat (k : Nat) (h : k < 16) (hp) : (⟨#[48, 49, 50, 51, 52, 53, 54, 55, 56, 57, 97, 98, 99, 100, 101, 102]⟩ : ByteArray)[k]'hp = hxd k := by
  have := dig_get (k : Int) k rfl h (by simpa using hp)
  simpa using this
set_option maxHeartbeats 400000 in
theorem refDigit_c (b : UInt8) (w : World) : Calls Try.prog 82 #[.int .u8 b.toNat] w fun e w' => e = .returned (.int .i64 (dv b)) ∧ w = w' := by
  obtain ⟨D, HD⟩ : ∃ D, Hid (dv b = D) := ⟨_, Lib.hid rfl⟩
  rw [HD.out]
  go_enter Try.func82, Try.ntmps82
  go_wp2_with fail
  go_loop [3] (fun i => ∃ k : Nat, k ≤ 16 ∧ i = .int .i64 k ∧ Hid (∀ j, j < k → hxd j ≠ b)) (fun i => 16 - (intOf i).toNat)
  case atStart => exact ⟨0, by omega, rfl, Lib.hid (by omega)⟩
  case round =>
    obtain ⟨k, hk, rfl, hn⟩ := hrel
    by_cases hlt : k < 16
    · have hd := dig_nat k hlt
      have hb := (hxd k).toNat_lt
      by_cases he : hxd k = b
      · have HE : Hid (D = k) := Lib.hid (by
          have := hxv_hxd ⟨k, hlt⟩
          rw [← HD.out, ← he]; exact dv_some this)
        have e1 : (((hxd k).toNat : Int) == (b.toNat : Int)) = true := by simp [he]
        have e2 : ((hxd k).toNat == b.toNat) = true := by simp [he]
        have HK := Lib.hid he
        clear he
        go_wp2
        go_ret
        exact ⟨by rw [HE.out]; rfl, rfl⟩
      · have hne : (hxd k).toNat ≠ b.toNat := fun e => he (UInt8.toNat_inj.1 e)
        have e1 : (((hxd k).toNat : Int) == (b.toNat : Int)) = false := beq_eq_false_iff_ne.2 (by omega)
        have e2 : ((hxd k).toNat == b.toNat) = false := beq_eq_false_iff_ne.2 hne
        have HN : Hid (∀ j, j < k + 1 → hxd j ≠ b) := Lib.hid (fun j hj => by
          by_cases h : j = k
          · rw [h]; exact he
          · exact hn.out j (by omega))
        clear he hne
        go_wp2
        go_round
        case rel => exact ⟨k + 1, by omega, by go_num, HN⟩
        case measure => simp [intOf]; omega
    · have HE : Hid (D = -1) := Lib.hid (by
        rw [← HD.out]
        apply dv_none
        cases hv : hxv b with
        | none => rfl
        | some n =>
          obtain ⟨h1, h2⟩ := hxv_some hv
          exact absurd h2 (hn.out n (by omega)))
      go_wp2
      go_ret
      exact ⟨by rw [HE.out]; rfl, rfl⟩

theorem wrap16 (a b : Nat) (ha : a < 16) (hb : b < 16) : (#[Value.int .u8 (IntKind.u8.wrap (16 * (a : Int) + b))] : Array Value).toList = cb [UInt8.ofNat (16 * a + b)] := by
  have h1 : IntKind.u8.wrap (16 * (a : Int) + b) = ((16 * a + b : Nat) : Int) := by
    simp [IntKind.wrap, IntKind.signed, IntKind.bits]
    omega
  rw [h1]
  simp [cb]
  omega
/-- How parse ends. -/
def ParseEnd (s : ByteArray) (w : World) (R : Option (It × List UInt8)) (e : Ending) (w' : World) : Prop :=
  Below w.heap.size w w' ∧ match R with
    | none => e = .returned (.tuple #[.agg #[.string ⟨#[]⟩, .bool false, .slice none 0 0], .int .i64 (-1)])
    | some (x, r) => ∃ c0 c1 c2, e = .returned (.tuple #[.agg #[c0, c1, c2], .int .i64 (s.size - r.length : Nat)]) ∧ ItS w' (w.heap.size ≤ ·) x c0 c1 c2
theorem rItem_nil (f : Nat) : rItem f [] = none := by cases f <;> simp [rItem]
theorem rItem_text {f : Nat} {l : List UInt8} {t r : List UInt8} (h : hxHead l = (t, r)) (h45 : ∀ x, l ≠ 45 :: x) (h40 : ∀ x, l ≠ 40 :: x) : rItem (f + 1) l = if t = [] then none else some (.mk ⟨t.toArray⟩ false [], r) := by
  match l, h, h45, h40 with
  | [], h, _, _ => simp [hxHead] at h; simp [rItem, h.1]
  | c :: x, h, h45, h40 =>
    have h1 : c ≠ 45 := fun e => h45 x (by rw [e])
    have h2 : c ≠ 40 := fun e => h40 x (by rw [e])
    simp only [rItem, if_neg h1, if_neg h2, h]
    match t with
    | [] => rfl
    | b :: bs => rfl
theorem TxRel.endR {s : ByteArray} {at_ p : Nat} {l : List UInt8} (h : TxRel s at_ p l) (hn : ∀ hp : p + 1 < s.size, hxv s[p] = none ∨ hxv s[p + 1] = none) : hxHead (s.data.toList.drop at_) = (l, s.data.toList.drop p) := by
  obtain ⟨h1, _⟩ := h
  have e : hxHead (s.data.toList.drop p) = ([], s.data.toList.drop p) := by
    by_cases hp : p + 1 < s.size
    · rw [drop2 s p hp]
      rcases hn hp with h | h
      · simp [hxHead, h]
      · cases h3 : hxv s[p] <;> simp [hxHead, h3, h]
    · by_cases hp2 : p < s.size
      · rw [drop_cons s p hp2, List.drop_eq_nil_of_le (by simp; omega)]; rfl
      · rw [List.drop_eq_nil_of_le (by simp; omega)]; rfl
  rw [e] at h1
  simpa using h1
/-- The loop over a list's items. -/
def RLoop (f : Nat) (s : ByteArray) (R : Option (It × List UInt8)) (p : Nat) (acc : List It) : Prop := ∃ n, rLoop (rItem f) n (s.data.toList.drop p) acc = R ∧ (s.data.toList.drop p).length < n
def RAt (f : Nat) (s : ByteArray) (R : Option (It × List UInt8)) (q : Nat) (acc : List It) : Prop := ∃ n, (match rItem f (s.data.toList.drop q) with | none => none | some (y, r') => rLoop (rItem f) n r' (acc ++ [y])) = R ∧ (s.data.toList.drop q).length ≤ n
theorem RLoop.stop {f : Nat} {s : ByteArray} {R : Option (It × List UInt8)} {p : Nat} {acc : List It} (h : RLoop f s R p acc) (hp : s.size ≤ p) : R = none := by
  obtain ⟨n, h1, _⟩ := h
  rw [List.drop_eq_nil_of_le (by simpa using hp)] at h1
  cases n <;> simp [rLoop] at h1 <;> exact h1.symm
theorem RLoop.ends {f : Nat} {s : ByteArray} {R : Option (It × List UInt8)} {p : Nat} {acc : List It} (h : RLoop f s R p acc) (hp : p < s.size) (h41 : s[p].toNat = 41) : R = some (.mk ⟨#[]⟩ true acc, s.data.toList.drop (p + 1)) := by
  obtain ⟨n, h1, h2⟩ := h
  rw [drop_cons s p hp, show s[p] = 41 from UInt8.toNat_inj.1 h41] at h1
  cases n with
  | zero => omega
  | succ n => simp [rLoop] at h1; exact h1.symm
theorem RLoop.first {f : Nat} {s : ByteArray} {R : Option (It × List UInt8)} {p : Nat} (h : RLoop f s R p []) (hp : p < s.size) (hn : s[p].toNat ≠ 41) : RAt f s R p [] := by
  obtain ⟨n, h1, h2⟩ := h
  match n, h1, h2 with
  | n + 1, h1, h2 =>
    refine ⟨n, ?_, by omega⟩
    have hc : s[p] ≠ 41 := fun e => hn (by rw [e]; rfl)
    rw [drop_cons s p hp] at h1 ⊢
    simp only [rLoop, if_neg hc, if_true] at h1
    rw [← h1]
    cases rItem f (s[p] :: s.data.toList.drop (p + 1)) with
    | none => rfl
    | some z => rfl
theorem RLoop.more {f : Nat} {s : ByteArray} {R : Option (It × List UInt8)} {p : Nat} {acc : List It} (h : RLoop f s R p acc) (hp : p < s.size) (h32 : s[p].toNat = 32) (ha : acc ≠ []) : RAt f s R (p + 1) acc := by
  obtain ⟨n, h1, h2⟩ := h
  match n, h1, h2 with
  | n + 1, h1, h2 =>
    rw [drop_cons s p hp] at h2
    refine ⟨n, ?_, by simp at h2 ⊢; omega⟩
    rw [drop_cons s p hp, show s[p] = 32 from UInt8.toNat_inj.1 h32] at h1
    simp only [rLoop, if_neg ha, if_neg (show ¬ (32 : UInt8) = 41 by decide), if_true] at h1
    rw [← h1]
    cases rItem f (s.data.toList.drop (p + 1)) with
    | none => rfl
    | some z => rfl
theorem RLoop.bad {f : Nat} {s : ByteArray} {R : Option (It × List UInt8)} {p : Nat} {acc : List It} (h : RLoop f s R p acc) (hp : p < s.size) (h1 : s[p].toNat ≠ 41) (h2 : s[p].toNat ≠ 32) (ha : acc ≠ []) : R = none := by
  obtain ⟨n, h3, _⟩ := h
  have c1 : s[p] ≠ 41 := fun e => h1 (by rw [e]; rfl)
  have c2 : s[p] ≠ 32 := fun e => h2 (by rw [e]; rfl)
  rw [drop_cons s p hp] at h3
  cases n with
  | zero => simp [rLoop] at h3; exact h3.symm
  | succ n => simp [rLoop, c1, c2, ha] at h3; exact h3.symm
theorem RAt.none {f : Nat} {s : ByteArray} {R : Option (It × List UInt8)} {q : Nat} {acc : List It} (h : RAt f s R q acc) (hn : rItem f (s.data.toList.drop q) = none) : R = none := by
  obtain ⟨n, h1, _⟩ := h
  rw [hn] at h1
  exact h1.symm
theorem RAt.some {f : Nat} {s : ByteArray} {R : Option (It × List UInt8)} {q : Nat} {acc : List It} {y : It} {r : List UInt8} (h : RAt f s R q acc) (hq : q ≤ s.size) (hn : rItem f (s.data.toList.drop q) = some (y, r)) :
    RLoop f s R (s.size - r.length) (acc ++ [y]) ∧ q < s.size - r.length ∧ s.size - r.length ≤ s.size := by
  obtain ⟨n, h1, h2⟩ := h
  have k1 := rItem_len _ _ _ _ hn
  have k2 := rItem_show _ _ _ _ hn
  rw [hn] at h1
  have hlen : (s.data.toList.drop q).length = s.size - q := by simp
  rw [hlen] at h2 k1
  have e1 : s.data.toList.drop (s.size - r.length) = r := by
    have h3 : r = (s.data.toList.drop q).drop y.show.length := by rw [k2, List.drop_left]
    have h4 := congrArg List.length k2
    rw [hlen, List.length_append] at h4
    rw [List.drop_drop] at h3
    rw [h3, List.length_drop, toList_size]
    congr 1
    omega
  exact ⟨⟨n, by rw [e1]; exact h1, by rw [e1]; omega⟩, by omega, by omega⟩
set_option maxRecDepth 100000 in
set_option maxHeartbeats 3200000 in
theorem parse_c : ∀ (f deep : Nat), deep + f = 17 → ∀ (s : ByteArray) (at_ : Nat) (w : World), at_ ≤ s.size → s.size ≤ 100000 →
    Calls Try.prog 65 #[.string s, .int .i64 at_, .int .i64 deep] w fun e w' => ParseEnd s w (rItem f (s.data.toList.drop at_)) e w' := by
  intro f
  induction f with
  | zero =>
    intro deep hdp s at_ w hat hs
    have HE : Hid (rItem 0 (s.data.toList.drop at_) = none) := Lib.hid (by simp [rItem])
    generalize rItem 0 (s.data.toList.drop at_) = R at *
    have hd16 : 16 < deep := by omega
    clear hdp
    by_cases hlt : at_ < s.size
    · go_enter Try.func65, Try.ntmps65
      go_wp2
      refine bodyPost_ret (v := .tuple #[.agg #[.string ⟨#[]⟩, .bool false, .slice none 0 0], .int .i64 (-1)]) (by simp [results, Try.results65, go_sem, HE]) rfl ?_
      rw [HE.out]
      exact ⟨(by repeat (first | exact Below.refl _ _ | assumption | with_reducible refine Below.drewN' ?_ _ | with_reducible refine Below.drew ?_ | ((with_reducible refine Below.alloc' ?_ ?_ _); · (first | omega | (simp <;> omega))))), rfl⟩
    · go_enter Try.func65, Try.ntmps65
      go_wp2
      refine bodyPost_ret (v := .tuple #[.agg #[.string ⟨#[]⟩, .bool false, .slice none 0 0], .int .i64 (-1)]) (by simp [results, Try.results65, go_sem, HE]) rfl ?_
      rw [HE.out]
      exact ⟨(by repeat (first | exact Below.refl _ _ | assumption | with_reducible refine Below.drewN' ?_ _ | with_reducible refine Below.drew ?_ | ((with_reducible refine Below.alloc' ?_ ?_ _); · (first | omega | (simp <;> omega))))), rfl⟩
  | succ f ih =>
    intro deep hdp s at_ w hat hs
    have IH := Lib.hid (fun s at_ w => ih (deep + 1) (by omega) s at_ w)
    have hd16 : deep ≤ 16 := by omega
    clear ih hdp
    obtain ⟨R, HR⟩ : ∃ R, Hid (rItem (f + 1) (s.data.toList.drop at_) = R) := ⟨_, Lib.hid rfl⟩
    rw [HR.out]
    by_cases hlt : at_ < s.size
    · have d1 : decide (s.size ≤ at_) = false := by simp; omega
      have d2 : decide ((16 : Int) < (deep : Int)) = false := by simp; omega
      by_cases h45 : s[at_].toNat = 45
      · have HE : Hid (R = some (.mk ⟨#[]⟩ false [], s.data.toList.drop (at_ + 1))) := Lib.hid (by
          rw [← HR.out, drop_cons s at_ hlt, show s[at_] = 45 from UInt8.toNat_inj.1 h45]; simp [rItem])
        have HD := Lib.hid (dropL s (at_ + 1) (by omega))
        have e1 : ((s[at_].toNat : Int) == 45) = true := by simp [h45]
        clear h45 HR
        go_enter Try.func65, Try.ntmps65
        go_wp2
        refine bodyPost_ret (v := .tuple #[.agg #[.string ⟨#[]⟩, .bool false, .slice none 0 0], .int .i64 ((at_ : Int) + 1)]) (by simp [results, Try.results65, go_sem]) rfl ?_
        rw [HE.out]
        exact ⟨(by repeat (first | exact Below.refl _ _ | assumption | with_reducible refine Below.drewN' ?_ _ | with_reducible refine Below.drew ?_ | ((with_reducible refine Below.alloc' ?_ ?_ _); · (first | omega | (simp <;> omega))))), _, _, _, by rw [HD.out]; go_num, ItS.text false (by simp [ByteArray.size])⟩
      · have e1 : ((s[at_].toNat : Int) == 45) = false := beq_eq_false_iff_ne.2 (by omega)
        by_cases h40 : s[at_].toNat = 40
        · have e2 : ((s[at_].toNat : Int) != 40) = false := by simp; omega
          have HREL : Hid (RLoop f s R (at_ + 1) []) := Lib.hid ⟨_, by
            have h1 := HR.out
            rw [drop_cons s at_ hlt, show s[at_] = 40 from UInt8.toNat_inj.1 h40] at h1
            simp only [rItem, if_neg (show ¬ (40 : UInt8) = 45 by decide), if_true] at h1
            exact h1, by omega⟩
          clear h45 h40 HR
          go_enter Try.func65, Try.ntmps65
          go_wp2_with fail
          go_loopw [1] (fun i wr => ∃ (p : Nat) (acc : List It) (vv : Value), p ≤ s.size ∧ i = .int .i64 p ∧ Hid (RLoop f s R p acc) ∧ acc.length ≤ p ∧ Blk wr w.heap.size 24 #[.string ⟨#[]⟩, .bool false, .slice none 0 0] ∧ Blk wr (w.heap.size + 1) 24 #[.string ⟨#[]⟩, .bool true, vv] ∧ Acc wr (w.heap.size + 2) acc vv ∧ Below w.heap.size w wr ∧ w.heap.size + 2 ≤ wr.heap.size) (fun i _ => s.size - (intOf i).toNat)
          case atStart =>
            have hb1 := Blk.new (w.alloc (.cells #[.string ⟨#[]⟩, .bool false, .slice none 0 0] 24)) 24 #[.string ⟨#[]⟩, .bool true, .slice none 0 0]
            exact ⟨at_ + 1, [], .slice none 0 0, by omega, by go_num, HREL, by simp, (Blk.new _ _ _).alloc _, by simpa using hb1, Acc.nil _ _, (by repeat (first | exact Below.refl _ _ | assumption | with_reducible refine Below.drewN' ?_ _ | with_reducible refine Below.drew ?_ | ((with_reducible refine Below.alloc' ?_ ?_ _); · (first | omega | (simp <;> omega))))), by simp⟩
          case round =>
            obtain ⟨p, acc, vv, hp, rfl, hrel, hlen, hbr, hbx, hacc, hbel, hrz⟩ := hrel
            have HBR := Lib.hid hbr
            have HBX := Lib.hid hbx
            have HACC := Lib.hid hacc
            have HB := Lib.hid hbel
            obtain ⟨A2, n2, cap2, rfl, hn2, hc3, hc4⟩ := hacc.form'
            obtain ⟨r0, r1, r2, rf0, rf1, rf2⟩ := blk3 hbr
            obtain ⟨b0, b1, b2, bf0, bf1, bf2⟩ := blk3 hbx
            clear hbr hbx hacc hbel HREL
            by_cases hlp : p < s.size
            · by_cases h41 : s[p].toNat = 41
              · have e3 : ((s[p].toNat : Int) != 41) = false := by simp; omega
                have HE := Lib.hid (hrel.out.ends hlp h41)
                have HD := Lib.hid (dropL s (p + 1) (by omega))
                clear h41
                go_wp2
                refine bodyPost_ret (v := .tuple #[.agg #[.string ⟨#[]⟩, .bool true, .slice A2 n2 cap2], .int .i64 ((p : Int) + 1)]) (by simp [results, Try.results65, go_sem, r0, r1, r2]) rfl ?_
                rw [HE.out]
                refine ⟨((HB.out.setCell (by simp) _).setCell (by simp) _).setCell (by simp) _, _, _, _, by rw [HD.out]; go_num, ?_⟩
                have ha3 : Acc _ (w.heap.size + 2) acc (.slice A2 n2 cap2) := HACC.out.only (L := [w.heap.size]) (w' := ((wr.setCell ⟨w.heap.size, 0, none⟩ (.string ⟨#[]⟩)).setCell ⟨w.heap.size, 1, none⟩ (.bool true)).setCell ⟨w.heap.size, 2, none⟩ (.slice A2 n2 cap2)) ((((Only.refl _ _).setCell (by simp) _).setCell (by simp) _).setCell (by simp) _) (by simp)
                exact (ha3.list (by omega)).weak fun k _ hk => by
                  show w.heap.size ≤ k
                  have hk : w.heap.size + 2 ≤ k := hk
                  omega
              · have e3 : ((s[p].toNat : Int) != 41) = true := by simp; omega
                by_cases ha : acc = []
                · subst ha
                  have HAT := Lib.hid (hrel.out.first hlp h41)
                  obtain rfl : n2 = 0 := hn2.out
                  clear h41
                  have hq := hp
                  have HI := Lib.hid (IH.out s (p) wr hq hs)
                  have E9 : Hid ((deep : Int) + 1 = ((deep + 1 : Nat) : Int)) := Lib.hid (by omega)
                  have E8 : Hid ((p : Int) + 1 = ((p + 1 : Nat) : Int)) := Lib.hid (by omega)
                  go_wp2_with fail
                  rw [E9.out]
                  first | refine HI.out.mono ?_ | (rw [E8.out]; refine HI.out.mono ?_)
                  rintro e w4 hend
                  obtain ⟨T, HT⟩ : ∃ T, Hid (rItem f (s.data.toList.drop (p)) = T) := ⟨_, Lib.hid rfl⟩
                  rw [HT.out] at hend
                  cases T with
                  | none =>
                    obtain ⟨hb4, rfl⟩ := hend
                    have HE := Lib.hid (HAT.out.none HT.out)
                    have hz4 := hb4.size
                    have hlw : w.heap.size < w4.heap.size := by omega
                    have HB4 := Lib.hid (HB.out.trans (hb4.mono (by omega)))
                    clear r0 r1 r2 rf0 rf1 rf2 b0 b1 b2 bf0 bf1 bf2
                    obtain ⟨r0, r1, r2, rf0, rf1, rf2⟩ := blk3 (HBR.out.keep hb4 (by omega))
                    clear hb4
                    go_wp2
                    refine bodyPost_ret (v := .tuple #[.agg #[.string ⟨#[]⟩, .bool false, .slice none 0 0], .int .i64 (-1)]) (by simp [results, Try.results65, go_sem, r0, r1, r2, World.cell?_alloc_lt, hlw]) rfl ?_
                    rw [HE.out]
                    refine ⟨?_, rfl⟩
                    exact ((((HB4.out.setCell (by simp) _).setCell (by simp) _).setCell (by simp) _).alloc (by simp [World.setCell]; omega) _)
                  | some z =>
                    obtain ⟨y, r⟩ := z
                    obtain ⟨hb4, c0, c1, c2, rfl, hy⟩ := hend
                    obtain ⟨HN, hn1, hn2'⟩ := HAT.out.some hq HT.out
                    have HREL := Lib.hid HN
                    have hz4 := hb4.size
                    have HX4 := Lib.hid (HBX.out.keep hb4 (by omega))
                    have HR4 := Lib.hid (HBR.out.keep hb4 (by omega))
                    have HA4 := Lib.hid (HACC.out.below hb4)
                    have HB4 := Lib.hid (HB.out.trans (hb4.mono (by omega)))
                    have hge := HACC.out.ge
                    have HY : Hid (∀ o o', ItS ((w4.alloc o).alloc o') (fun k => w.heap.size + 2 ≤ k ∧ (Value.slice A2 0 cap2).ownBlock ≠ some k) y c0 c1 c2) := Lib.hid (by
                      intro o o'
                      refine ItS.keep ?_ ?_ y hy
                      · intro k hk hS
                        have hS : wr.heap.size ≤ k := hS
                        exact ⟨by omega, fun e => by have := (hge k e).2; omega⟩
                      · intro q hq _
                        rw [World.cell?_alloc_lt _ _ _ (by rw [World.size_alloc]; omega), World.cell?_alloc_lt _ _ _ hq])
                    have hlw : w.heap.size < w4.heap.size := by omega
                    have hlw1 : w.heap.size + 1 < w4.heap.size := by omega
                    have HGE := Lib.hid hge
                    obtain ⟨AA, ccap, rfl, rfl, rfl, _⟩ := hy.open_
                    clear r0 r1 r2 rf0 rf1 rf2 b0 b1 b2 bf0 bf1 bf2 hy HN hge hb4
                    obtain ⟨b0, b1, b2, bf0, bf1, bf2⟩ := blk3 HX4.out
                    have hqn : ¬ ((s.size - r.length : Nat) : Int) < 0 := by omega
                    have hqd : s.size - r.length ≤ s.size := by omega
                    generalize s.size - r.length = pq at *
                    go_wp2_with (at_builtin; refine wpList_append_item (by rfl) (.tmp 113) (.tmp 115) (by rfl) (w.heap.size + 2) [] (by rfl) ((HA4.out.below ((Below.refl _ _).alloc (Nat.le_refl _) _)).below ((Below.refl _ _).alloc (Nat.le_refl _) _)) y (HY.out _ _) _ (by rfl) (by simp) (by simp) (by simp) (by first | omega | simp) (by simp only [World.size_alloc]; omega) ?_)
                    intro g' n' cap' w5 hn' hacc5 hgr hlo
                    have hno : ∀ k, k < w.heap.size + 2 → (Value.slice A2 0 cap2).ownBlock ≠ some k := fun k hk e => by
                      have := (HGE.out k e).1
                      omega
                    have HX5 := Lib.hid (((HX4.out.alloc _).alloc _).grown hgr (hno _ (by omega)))
                    have HR5 := Lib.hid (((HR4.out.alloc _).alloc _).grown hgr (hno _ (by omega)))
                    have HB5 : Hid (Below w.heap.size w w5) := Lib.hid (((HB4.out.alloc (by omega) _).alloc (by simp; omega) _).grown hgr (by simp; omega) (fun k hk => by have := (HGE.out k hk).1; omega))
                    have hz5 := hgr.size
                    simp only [World.size_alloc] at hz5
                    have HA5 := Lib.hid hacc5
                    clear b0 b1 b2 bf0 bf1 bf2 hgr hacc5 hno
                    obtain ⟨b0, b1, b2, bf0, bf1, bf2⟩ := blk3 HX5.out
                    go_wp2
                    go_roundw
                    case rel =>
                      have key : ∃ (p : Nat) (acc : List It) (vv : Value), p ≤ s.size ∧ Value.int .i64 (pq : Int) = .int .i64 p ∧ Hid (RLoop f s R p acc) ∧ acc.length ≤ p ∧ Blk (w5.setCell ⟨w.heap.size + 1, 2, none⟩ (.slice (some ⟨g', 0, none⟩) n' cap')) w.heap.size 24 #[.string ⟨#[]⟩, .bool false, .slice none 0 0] ∧ Blk (w5.setCell ⟨w.heap.size + 1, 2, none⟩ (.slice (some ⟨g', 0, none⟩) n' cap')) (w.heap.size + 1) 24 #[.string ⟨#[]⟩, .bool true, vv] ∧ Acc (w5.setCell ⟨w.heap.size + 1, 2, none⟩ (.slice (some ⟨g', 0, none⟩) n' cap')) (w.heap.size + 2) acc vv ∧ Below w.heap.size w (w5.setCell ⟨w.heap.size + 1, 2, none⟩ (.slice (some ⟨g', 0, none⟩) n' cap')) ∧ w.heap.size + 2 ≤ (w5.setCell ⟨w.heap.size + 1, 2, none⟩ (.slice (some ⟨g', 0, none⟩) n' cap')).heap.size := by
                        refine ⟨pq, [] ++ [y], .slice (some ⟨g', 0, none⟩) n' cap', hn2', rfl, HREL, ?_, HR5.out.far (by simp) _, HX5.out.store rfl, ?_, HB5.out.setCell (by simp) _, ?_⟩
                        · simp only [List.length_append, List.length_cons, List.length_nil] at hlen ⊢; omega
                        · exact HA5.out.only ((Only.refl [w.heap.size + 1] w5).setCell (p := ⟨w.heap.size + 1, 2, none⟩) (by simp) _) (by simp)
                        · simp [World.setCell]; omega
                      first | exact key | ((repeat apply Exists.intro); exact ⟨key, rfl⟩)
                    case measure => simp [intOf]; omega
                · have hn0 : 0 < n2 := by
                    rw [hn2.out]
                    cases acc with
                    | nil => exact absurd rfl ha
                    | cons a b => simp
                  by_cases h32 : s[p].toNat = 32
                  · have e4 : ((s[p].toNat : Int) != 32) = false := by simp; omega
                    have HAT := Lib.hid (hrel.out.more hlp h32 ha)
                    clear h41 ha h32
                    have hq : p + 1 ≤ s.size := by omega
                    have HI := Lib.hid (IH.out s ((p + 1)) wr hq hs)
                    have E9 : Hid ((deep : Int) + 1 = ((deep + 1 : Nat) : Int)) := Lib.hid (by omega)
                    have E8 : Hid ((p : Int) + 1 = ((p + 1 : Nat) : Int)) := Lib.hid (by omega)
                    go_wp2_with fail
                    rw [E9.out]
                    first | refine HI.out.mono ?_ | (rw [E8.out]; refine HI.out.mono ?_)
                    rintro e w4 hend
                    obtain ⟨T, HT⟩ : ∃ T, Hid (rItem f (s.data.toList.drop ((p + 1))) = T) := ⟨_, Lib.hid rfl⟩
                    rw [HT.out] at hend
                    cases T with
                    | none =>
                      obtain ⟨hb4, rfl⟩ := hend
                      have HE := Lib.hid (HAT.out.none HT.out)
                      have hz4 := hb4.size
                      have hlw : w.heap.size < w4.heap.size := by omega
                      have HB4 := Lib.hid (HB.out.trans (hb4.mono (by omega)))
                      clear r0 r1 r2 rf0 rf1 rf2 b0 b1 b2 bf0 bf1 bf2
                      obtain ⟨r0, r1, r2, rf0, rf1, rf2⟩ := blk3 (HBR.out.keep hb4 (by omega))
                      clear hb4
                      go_wp2
                      refine bodyPost_ret (v := .tuple #[.agg #[.string ⟨#[]⟩, .bool false, .slice none 0 0], .int .i64 (-1)]) (by simp [results, Try.results65, go_sem, r0, r1, r2, World.cell?_alloc_lt, hlw]) rfl ?_
                      rw [HE.out]
                      refine ⟨?_, rfl⟩
                      exact ((((HB4.out.setCell (by simp) _).setCell (by simp) _).setCell (by simp) _).alloc (by simp [World.setCell]; omega) _)
                    | some z =>
                      obtain ⟨y, r⟩ := z
                      obtain ⟨hb4, c0, c1, c2, rfl, hy⟩ := hend
                      obtain ⟨HN, hn1, hn2'⟩ := HAT.out.some hq HT.out
                      have HREL := Lib.hid HN
                      have hz4 := hb4.size
                      have HX4 := Lib.hid (HBX.out.keep hb4 (by omega))
                      have HR4 := Lib.hid (HBR.out.keep hb4 (by omega))
                      have HA4 := Lib.hid (HACC.out.below hb4)
                      have HB4 := Lib.hid (HB.out.trans (hb4.mono (by omega)))
                      have hge := HACC.out.ge
                      have HY : Hid (∀ o o', ItS ((w4.alloc o).alloc o') (fun k => w.heap.size + 2 ≤ k ∧ (Value.slice A2 n2 cap2).ownBlock ≠ some k) y c0 c1 c2) := Lib.hid (by
                        intro o o'
                        refine ItS.keep ?_ ?_ y hy
                        · intro k hk hS
                          have hS : wr.heap.size ≤ k := hS
                          exact ⟨by omega, fun e => by have := (hge k e).2; omega⟩
                        · intro q hq _
                          rw [World.cell?_alloc_lt _ _ _ (by rw [World.size_alloc]; omega), World.cell?_alloc_lt _ _ _ hq])
                      have hlw : w.heap.size < w4.heap.size := by omega
                      have hlw1 : w.heap.size + 1 < w4.heap.size := by omega
                      have HGE := Lib.hid hge
                      obtain ⟨AA, ccap, rfl, rfl, rfl, _⟩ := hy.open_
                      clear r0 r1 r2 rf0 rf1 rf2 b0 b1 b2 bf0 bf1 bf2 hy HN hge hb4
                      obtain ⟨b0, b1, b2, bf0, bf1, bf2⟩ := blk3 HX4.out
                      have hqn : ¬ ((s.size - r.length : Nat) : Int) < 0 := by omega
                      have hqd : s.size - r.length ≤ s.size := by omega
                      generalize s.size - r.length = pq at *
                      go_wp2_with (at_builtin; refine wpList_append_item (by rfl) (.tmp 113) (.tmp 115) (by rfl) (w.heap.size + 2) acc (by rfl) ((HA4.out.below ((Below.refl _ _).alloc (Nat.le_refl _) _)).below ((Below.refl _ _).alloc (Nat.le_refl _) _)) y (HY.out _ _) _ (by rfl) (by simp) (by simp) (by simp) (by first | omega | simp) (by simp only [World.size_alloc]; omega) ?_)
                      intro g' n' cap' w5 hn' hacc5 hgr hlo
                      have hno : ∀ k, k < w.heap.size + 2 → (Value.slice A2 n2 cap2).ownBlock ≠ some k := fun k hk e => by
                        have := (HGE.out k e).1
                        omega
                      have HX5 := Lib.hid (((HX4.out.alloc _).alloc _).grown hgr (hno _ (by omega)))
                      have HR5 := Lib.hid (((HR4.out.alloc _).alloc _).grown hgr (hno _ (by omega)))
                      have HB5 : Hid (Below w.heap.size w w5) := Lib.hid (((HB4.out.alloc (by omega) _).alloc (by simp; omega) _).grown hgr (by simp; omega) (fun k hk => by have := (HGE.out k hk).1; omega))
                      have hz5 := hgr.size
                      simp only [World.size_alloc] at hz5
                      have HA5 := Lib.hid hacc5
                      clear b0 b1 b2 bf0 bf1 bf2 hgr hacc5 hno
                      obtain ⟨b0, b1, b2, bf0, bf1, bf2⟩ := blk3 HX5.out
                      go_wp2
                      go_roundw
                      case rel =>
                        have key : ∃ (p : Nat) (acc : List It) (vv : Value), p ≤ s.size ∧ Value.int .i64 (pq : Int) = .int .i64 p ∧ Hid (RLoop f s R p acc) ∧ acc.length ≤ p ∧ Blk (w5.setCell ⟨w.heap.size + 1, 2, none⟩ (.slice (some ⟨g', 0, none⟩) n' cap')) w.heap.size 24 #[.string ⟨#[]⟩, .bool false, .slice none 0 0] ∧ Blk (w5.setCell ⟨w.heap.size + 1, 2, none⟩ (.slice (some ⟨g', 0, none⟩) n' cap')) (w.heap.size + 1) 24 #[.string ⟨#[]⟩, .bool true, vv] ∧ Acc (w5.setCell ⟨w.heap.size + 1, 2, none⟩ (.slice (some ⟨g', 0, none⟩) n' cap')) (w.heap.size + 2) acc vv ∧ Below w.heap.size w (w5.setCell ⟨w.heap.size + 1, 2, none⟩ (.slice (some ⟨g', 0, none⟩) n' cap')) ∧ w.heap.size + 2 ≤ (w5.setCell ⟨w.heap.size + 1, 2, none⟩ (.slice (some ⟨g', 0, none⟩) n' cap')).heap.size := by
                          refine ⟨pq, acc ++ [y], .slice (some ⟨g', 0, none⟩) n' cap', hn2', rfl, HREL, ?_, HR5.out.far (by simp) _, HX5.out.store rfl, ?_, HB5.out.setCell (by simp) _, ?_⟩
                          · simp only [List.length_append, List.length_cons, List.length_nil] at hlen ⊢; omega
                          · exact HA5.out.only ((Only.refl [w.heap.size + 1] w5).setCell (p := ⟨w.heap.size + 1, 2, none⟩) (by simp) _) (by simp)
                          · simp [World.setCell]; omega
                        first | exact key | ((repeat apply Exists.intro); exact ⟨key, rfl⟩)
                      case measure => simp [intOf]; omega
                  · have e4 : ((s[p].toNat : Int) != 32) = true := by simp; omega
                    have HE := Lib.hid (hrel.out.bad hlp h41 h32 ha)
                    clear h41 ha h32
                    go_wp2
                    refine bodyPost_ret (v := .tuple #[.agg #[.string ⟨#[]⟩, .bool false, .slice none 0 0], .int .i64 (-1)]) (by simp [results, Try.results65, go_sem, r0, r1, r2]) rfl ?_
                    rw [HE.out]
                    exact ⟨((HB.out.setCell (by simp) _).setCell (by simp) _).setCell (by simp) _, rfl⟩
            · have HE := Lib.hid (hrel.out.stop (by omega))
              go_wp2
              refine bodyPost_ret (v := .tuple #[.agg #[.string ⟨#[]⟩, .bool false, .slice none 0 0], .int .i64 (-1)]) (by simp [results, Try.results65, go_sem, r0, r1, r2]) rfl ?_
              rw [HE.out]
              exact ⟨((HB.out.setCell (by simp) _).setCell (by simp) _).setCell (by simp) _, rfl⟩
        · have e2 : ((s[at_].toNat : Int) != 40) = true := by simp; omega
          have H45 : Hid (∀ x, s.data.toList.drop at_ ≠ 45 :: x) := Lib.hid (by
            intro x e
            rw [drop_cons s at_ hlt] at e
            injection e with e
            exact h45 (by rw [e]; rfl))
          have H40 : Hid (∀ x, s.data.toList.drop at_ ≠ 40 :: x) := Lib.hid (by
            intro x e
            rw [drop_cons s at_ hlt] at e
            injection e with e
            exact h40 (by rw [e]; rfl))
          obtain ⟨i0, hi, hz0, hz1, hz2⟩ := info_parts info_byte
          clear h45 h40
          go_enter Try.func65, Try.ntmps65
          go_wp2_with fail
          go_loopw [8, 1] (fun b i wr => ∃ (p : Nat) (l : List UInt8), p ≤ s.size ∧ i = .int .i64 p ∧ Hid (TxRel s at_ p l) ∧ Buf wr w.heap.size 5 b l ∧ Kept 5 w.heap.size (w.alloc (.cells #[.string ⟨#[]⟩, .bool false, .slice none 0 0] 24)) wr) (fun _ i _ => s.size - (intOf i).toNat)
          case atStart => exact ⟨at_, [], hat, rfl, Lib.hid (TxRel.start s at_), Buf.nil _ _ _, Kept.refl _ _ _⟩
          case round =>
            obtain ⟨p, l, hp, rfl, hrel, hbuf, hkept⟩ := hrel
            have HBF := Lib.hid hbuf
            have HK := Lib.hid hkept
            have hsz := hkept.size
            simp only [World.size_alloc] at hsz
            have hll := hrel.out.2
            obtain ⟨A2, n2, cap2, rfl, hn2, hc3, hc4⟩ := hbuf.form'
            clear hbuf hkept
            have hst := HBF.out.str' (P := Try.prog) Try.underlying80 Try.underlying5 Try.underlying9
            by_cases hp1 : p + 1 < s.size
            · cases hv : hxv s[p] with
              | none =>
                have HE : Hid (hxHead (s.data.toList.drop at_) = (l, s.data.toList.drop p)) := Lib.hid (hrel.out.endR (fun _ => .inl hv))
                have hd1 := dv_none hv
                clear hv
                cases l with
                | nil =>
                  obtain rfl : n2 = 0 := hn2.out
                  have HE : Hid (R = none) := Lib.hid (by rw [← HR.out, rItem_text HE.out H45.out H40.out]; simp)
                  obtain ⟨r0, r1, r2, rf0, rf1, rf2⟩ := blk3 ((Blk.new w 24 #[.string ⟨#[]⟩, .bool false, .slice none 0 0]).kept HK.out (by decide))
                  have HB := Lib.hid (((Below.refl w.heap.size w).alloc (Nat.le_refl _) (.cells #[.string ⟨#[]⟩, .bool false, .slice none 0 0] 24)).trans HK.out.below)
                  go_wp2_with (go_at_call 82; refine (refDigit_c _ _).mono ?_; rintro e w' ⟨rfl, rfl⟩)
                  refine bodyPost_ret (v := .tuple #[.agg #[.string ⟨#[]⟩, .bool false, .slice none 0 0], .int .i64 (-1)]) (by simp [results, Try.results65, go_sem, r0, r1, r2]) rfl ?_
                  rw [HE.out]
                  exact ⟨((HB.out.setCell (by simp) _).setCell (by simp) _).setCell (by simp) _, rfl⟩
                | cons c cs =>
                  have hpos : 0 < n2 := by rw [hn2.out]; simp
                  have e0 : ((n2 : Int) == 0) = false := beq_eq_false_iff_ne.2 (by omega)
                  have e0' : (n2 == 0) = false := beq_eq_false_iff_ne.2 (by omega)
                  have HE : Hid (R = some (.mk ⟨(c :: cs).toArray⟩ false [], s.data.toList.drop p)) := Lib.hid (by rw [← HR.out, rItem_text HE.out H45.out H40.out]; simp)
                  have hX : (⟨(c :: cs).toArray⟩ : ByteArray).size ≤ 100000 := by rw [size_of]; omega
                  generalize c :: cs = l at *
                  obtain ⟨X, HX⟩ : ∃ X, Hid ((⟨l.toArray⟩ : ByteArray) = X) := ⟨_, Lib.hid rfl⟩
                  rw [HX.out] at hst hX HE
                  have HDL := Lib.hid (dropL s p hp)
                  obtain ⟨r0, r1, r2, rf0, rf1, rf2⟩ := blk3 ((Blk.new w 24 #[.string ⟨#[]⟩, .bool false, .slice none 0 0]).kept HK.out (by decide))
                  have HB := Lib.hid (((Below.refl w.heap.size w).alloc (Nat.le_refl _) (.cells #[.string ⟨#[]⟩, .bool false, .slice none 0 0] 24)).trans HK.out.below)
                  go_wp2_with (go_at_call 82; refine (refDigit_c _ _).mono ?_; rintro e w' ⟨rfl, rfl⟩)
                  refine bodyPost_ret (v := .tuple #[.agg #[.string X, .bool false, .slice none 0 0], .int .i64 p]) (by simp [results, Try.results65, go_sem, r0, r1, r2]) rfl ?_
                  rw [HE.out]
                  exact ⟨((HB.out.setCell (by simp) _).setCell (by simp) _).setCell (by simp) _, _, _, _, by rw [HDL.out], ItS.text false (by omega)⟩
              | some a =>
                have hd1 := dv_some hv
                cases hv2 : hxv s[p + 1] with
                | none =>
                  have HE : Hid (hxHead (s.data.toList.drop at_) = (l, s.data.toList.drop p)) := Lib.hid (hrel.out.endR (fun _ => .inr hv2))
                  have hd2 := dv_none hv2
                  clear hv hv2
                  cases l with
                  | nil =>
                    obtain rfl : n2 = 0 := hn2.out
                    have HE : Hid (R = none) := Lib.hid (by rw [← HR.out, rItem_text HE.out H45.out H40.out]; simp)
                    obtain ⟨r0, r1, r2, rf0, rf1, rf2⟩ := blk3 ((Blk.new w 24 #[.string ⟨#[]⟩, .bool false, .slice none 0 0]).kept HK.out (by decide))
                    have HB := Lib.hid (((Below.refl w.heap.size w).alloc (Nat.le_refl _) (.cells #[.string ⟨#[]⟩, .bool false, .slice none 0 0] 24)).trans HK.out.below)
                    go_wp2_with (go_at_call 82; refine (refDigit_c _ _).mono ?_; rintro e w' ⟨rfl, rfl⟩)
                    refine bodyPost_ret (v := .tuple #[.agg #[.string ⟨#[]⟩, .bool false, .slice none 0 0], .int .i64 (-1)]) (by simp [results, Try.results65, go_sem, r0, r1, r2]) rfl ?_
                    rw [HE.out]
                    exact ⟨((HB.out.setCell (by simp) _).setCell (by simp) _).setCell (by simp) _, rfl⟩
                  | cons c cs =>
                    have hpos : 0 < n2 := by rw [hn2.out]; simp
                    have e0 : ((n2 : Int) == 0) = false := beq_eq_false_iff_ne.2 (by omega)
                    have e0' : (n2 == 0) = false := beq_eq_false_iff_ne.2 (by omega)
                    have HE : Hid (R = some (.mk ⟨(c :: cs).toArray⟩ false [], s.data.toList.drop p)) := Lib.hid (by rw [← HR.out, rItem_text HE.out H45.out H40.out]; simp)
                    have hX : (⟨(c :: cs).toArray⟩ : ByteArray).size ≤ 100000 := by rw [size_of]; omega
                    generalize c :: cs = l at *
                    obtain ⟨X, HX⟩ : ∃ X, Hid ((⟨l.toArray⟩ : ByteArray) = X) := ⟨_, Lib.hid rfl⟩
                    rw [HX.out] at hst hX HE
                    have HDL := Lib.hid (dropL s p hp)
                    obtain ⟨r0, r1, r2, rf0, rf1, rf2⟩ := blk3 ((Blk.new w 24 #[.string ⟨#[]⟩, .bool false, .slice none 0 0]).kept HK.out (by decide))
                    have HB := Lib.hid (((Below.refl w.heap.size w).alloc (Nat.le_refl _) (.cells #[.string ⟨#[]⟩, .bool false, .slice none 0 0] 24)).trans HK.out.below)
                    go_wp2_with (go_at_call 82; refine (refDigit_c _ _).mono ?_; rintro e w' ⟨rfl, rfl⟩)
                    refine bodyPost_ret (v := .tuple #[.agg #[.string X, .bool false, .slice none 0 0], .int .i64 p]) (by simp [results, Try.results65, go_sem, r0, r1, r2]) rfl ?_
                    rw [HE.out]
                    exact ⟨((HB.out.setCell (by simp) _).setCell (by simp) _).setCell (by simp) _, _, _, _, by rw [HDL.out], ItS.text false (by omega)⟩
                | some b =>
                  have hd2 := dv_some hv2
                  have HN := Lib.hid (hrel.out.next hp1 hv hv2)
                  have ha16 := (hxv_some hv).1
                  have hb16 := (hxv_some hv2).1
                  have HOC : Hid ((#[Value.int .u8 (IntKind.u8.wrap (16 * (a : Int) + b))] : Array Value).toList = cb [UInt8.ofNat (16 * a + b)]) := Lib.hid (wrap16 a b (hxv_some hv).1 (hxv_some hv2).1)
                  generalize UInt8.ofNat (16 * a + b) = cc at *
                  clear hv hv2 hst
                  go_wp2_with (go_at_call 82; refine (refDigit_c _ _).mono ?_; rintro e w' ⟨rfl, rfl⟩)
                  have j0 : (p : Int) < (s.size : Int) := by omega
                  have j1 : (p : Int) + 1 < (s.size : Int) := by omega
                  have j4 : IntKind.i64.wrap ((p : Int) + 1) = (p : Int) + 1 := IntWalk.i64_in _ (by omega)
                  have j5 : ((p : Int) + 1).toNat = p + 1 := by omega
                  have j6 : (0 : Int) ≤ (p : Int) + 1 := by omega
                  have j7 : IntKind.i64.wrap (16 * (a : Int)) = 16 * (a : Int) := IntWalk.i64_in _ (by omega)
                  have j8 : IntKind.i64.wrap (16 * (a : Int) + b) = 16 * (a : Int) + b := IntWalk.i64_in _ (by omega)
                  go_region_law (first | (refine step_append_buf (by rfl) (.tmp 52) (.tmp 65) 80 80 (by rfl) w.heap.size 5 i0 Try.underlying80 hi hz0 hz1 hz2 (by rfl) (HBF.out.alloc _).drew _ [cc] (by rfl) (src_litD Try.underlying80 _ 5 _ [cc] 1 _ (by rfl) HOC.out) (by simp; omega) (by simp; omega) ?_; intro A3 n3 cap3 w3 hb3 hk3) | (go_simp; go_at_call 82; refine (refDigit_c _ _).mono ?_; rintro e w' ⟨rfl, rfl⟩))
                  all_goals
                    have HB3 := Lib.hid hb3
                    have HK3 : Hid (Kept 5 w.heap.size (w.alloc (.cells #[.string ⟨#[]⟩, .bool false, .slice none 0 0] 24)) w3) := Lib.hid (((HK.out.alloc (by omega) _).drew).trans hk3)
                    clear hb3 hk3 j4 j7 j8
                    go_wp2
                    go_roundw
                    case rel => exact ⟨p + 2, _, by omega, by go_num, HN, HB3.out, HK3.out⟩
                    case measure => simp [intOf]; omega
            · have HE : Hid (hxHead (s.data.toList.drop at_) = (l, s.data.toList.drop p)) := Lib.hid (hrel.out.endR (fun h => absurd h hp1))
              have j1 : decide ((p : Int) + 1 < (s.size : Int)) = false := by simp; omega
              cases l with
              | nil =>
                obtain rfl : n2 = 0 := hn2.out
                have HE : Hid (R = none) := Lib.hid (by rw [← HR.out, rItem_text HE.out H45.out H40.out]; simp)
                obtain ⟨r0, r1, r2, rf0, rf1, rf2⟩ := blk3 ((Blk.new w 24 #[.string ⟨#[]⟩, .bool false, .slice none 0 0]).kept HK.out (by decide))
                have HB := Lib.hid (((Below.refl w.heap.size w).alloc (Nat.le_refl _) (.cells #[.string ⟨#[]⟩, .bool false, .slice none 0 0] 24)).trans HK.out.below)
                go_wp2_with fail
                refine bodyPost_ret (v := .tuple #[.agg #[.string ⟨#[]⟩, .bool false, .slice none 0 0], .int .i64 (-1)]) (by simp [results, Try.results65, go_sem, r0, r1, r2]) rfl ?_
                rw [HE.out]
                exact ⟨((HB.out.setCell (by simp) _).setCell (by simp) _).setCell (by simp) _, rfl⟩
              | cons c cs =>
                have hpos : 0 < n2 := by rw [hn2.out]; simp
                have e0 : ((n2 : Int) == 0) = false := beq_eq_false_iff_ne.2 (by omega)
                have e0' : (n2 == 0) = false := beq_eq_false_iff_ne.2 (by omega)
                have HE : Hid (R = some (.mk ⟨(c :: cs).toArray⟩ false [], s.data.toList.drop p)) := Lib.hid (by rw [← HR.out, rItem_text HE.out H45.out H40.out]; simp)
                have hX : (⟨(c :: cs).toArray⟩ : ByteArray).size ≤ 100000 := by rw [size_of]; omega
                generalize c :: cs = l at *
                obtain ⟨X, HX⟩ : ∃ X, Hid ((⟨l.toArray⟩ : ByteArray) = X) := ⟨_, Lib.hid rfl⟩
                rw [HX.out] at hst hX HE
                have HDL := Lib.hid (dropL s p hp)
                obtain ⟨r0, r1, r2, rf0, rf1, rf2⟩ := blk3 ((Blk.new w 24 #[.string ⟨#[]⟩, .bool false, .slice none 0 0]).kept HK.out (by decide))
                have HB := Lib.hid (((Below.refl w.heap.size w).alloc (Nat.le_refl _) (.cells #[.string ⟨#[]⟩, .bool false, .slice none 0 0] 24)).trans HK.out.below)
                go_wp2_with fail
                refine bodyPost_ret (v := .tuple #[.agg #[.string X, .bool false, .slice none 0 0], .int .i64 p]) (by simp [results, Try.results65, go_sem, r0, r1, r2]) rfl ?_
                rw [HE.out]
                exact ⟨((HB.out.setCell (by simp) _).setCell (by simp) _).setCell (by simp) _, _, _, _, by rw [HDL.out], ItS.text false (by omega)⟩
    · have HE : Hid (R = none) := Lib.hid (by rw [← HR.out, List.drop_eq_nil_of_le (by simp; omega), rItem_nil])
      clear HR
      go_enter Try.func65, Try.ntmps65
      go_wp2
      refine bodyPost_ret (v := .tuple #[.agg #[.string ⟨#[]⟩, .bool false, .slice none 0 0], .int .i64 (-1)]) (by simp [results, Try.results65, go_sem, HE]) rfl ?_
      rw [HE.out]
      exact ⟨(by repeat (first | exact Below.refl _ _ | assumption | with_reducible refine Below.drewN' ?_ _ | with_reducible refine Below.drew ?_ | ((with_reducible refine Below.alloc' ?_ ?_ _); · (first | omega | (simp <;> omega))))), rfl⟩
end Go.Proofs.Ytcidcjghglgkhaa
