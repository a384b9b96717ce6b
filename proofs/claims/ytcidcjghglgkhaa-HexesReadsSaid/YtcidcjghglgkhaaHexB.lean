/- hexes.Bytes; the document's digit, Hex, value, Bytes. -/
import Derived.Test.YtcidcjghglgkhaaHexP
import Derived.Shelf.Small.Strs
namespace Go.Proofs.Ytcidcjghglgkhaa
set_option linter.unusedVariables false
set_option linter.unusedSimpArgs false
open Go.RowKit

def idxRen : Go.Shelf.Ren := ⟨fun x => if x = 137 then 60 else if x = 217 then 79 else if x = 266 then 91 else x, fun x => if x = 3 then 3 else if x = 5 then 5 else if x = 9 then 9 else x, fun x => x⟩
theorem lays137 : Go.Proofs.Lays.n137 Try.prog idxRen where
  mixed := by kernel_rfl
  f137 := by kernel_rfl
  f217 := by kernel_rfl
  f266 := by kernel_rfl
  t3 := by kernel_rfl
  a3 := fun _ => by kernel_rfl
  z3 := fun _ => by kernel_rfl
  v3 := fun _ => by kernel_rfl
  t5 := by kernel_rfl
  a5 := fun _ => by kernel_rfl
  z5 := fun _ => by kernel_rfl
  v5 := fun _ => by kernel_rfl
  t9 := by kernel_rfl
  a9 := fun _ => by kernel_rfl
  z9 := fun _ => by kernel_rfl
  v9 := fun _ => by kernel_rfl
set_option maxRecDepth 100000 in
theorem idx_digF : ∀ n : Fin 256, Lib.indexByte [48, 49, 50, 51, 52, 53, 54, 55, 56, 57, 97, 98, 99, 100, 101, 102] (UInt8.ofNat n.val) = dv (UInt8.ofNat n.val) := by decide +kernel
theorem idx_c (b : UInt8) (w : World) : Calls Try.prog 60 #[.string ⟨#[48, 49, 50, 51, 52, 53, 54, 55, 56, 57, 97, 98, 99, 100, 101, 102]⟩, .int .u8 b.toNat] w fun e w' => e = .returned (.int .i64 (dv b)) ∧ w = w' := by
  have h : Calls Try.prog 60 #[.string ⟨#[48, 49, 50, 51, 52, 53, 54, 55, 56, 57, 97, 98, 99, 100, 101, 102]⟩, .int .u8 b.toNat] w fun e w' => e = .returned (.int .i64 (Lib.indexByte [48, 49, 50, 51, 52, 53, 54, 55, 56, 57, 97, 98, 99, 100, 101, 102] (b.toNat : Int).toNat.toUInt8)) ∧ w' = w := Any.strings_IndexByte lays137 ⟨#[48, 49, 50, 51, 52, 53, 54, 55, 56, 57, 97, 98, 99, 100, 101, 102]⟩ b.toNat w
  refine h.mono fun e w' ⟨he, hw⟩ => ⟨?_, hw.symm⟩
  have := idx_digF ⟨b.toNat, b.toNat_lt⟩
  simp only [Int.toNat_natCast] at he
  rw [he]
  congr 2
  simpa using this
/-- How Bytes ends. -/
def bytEnd : Option (List UInt8) → Ending
  | some r => .returned (.tuple #[.string ⟨r.toArray⟩, .int .i64 0])
  | none => .returned (.tuple #[.string ⟨#[]⟩, .int .i64 3])
theorem dv_ways (b : UInt8) : (∃ n : Nat, hxv b = some n ∧ dv b = n ∧ n < 16) ∨ (hxv b = none ∧ dv b = -1) := by
  cases h : hxv b with
  | none => exact .inr ⟨rfl, dv_none h⟩
  | some n => exact .inl ⟨n, rfl, dv_some h, (hxv_some h).1⟩
set_option maxRecDepth 100000 in
theorem or16iF : ∀ a b : Fin 16, bits .or .i64 ((a.val : Int) * 16) (b.val : Int) = ((16 * a.val + b.val : Nat) : Int) := by decide +kernel
theorem or16i (a b : Nat) (ha : a < 16) (hb : b < 16) : bits .or .i64 ((a : Int) * 16) (b : Int) = ((16 * a + b : Nat) : Int) := or16iF ⟨a, ha⟩ ⟨b, hb⟩
theorem cells16 (a b : Nat) (ha : a < 16) (hb : b < 16) : (#[Value.int .u8 ((16 * a + b : Nat) : Int)] : Array Value).toList = cb [UInt8.ofNat (16 * a + b)] := by
  simp [cb]; omega
theorem byt_at (S : List UInt8) (q : Nat) (s : ByteArray) (hS : S = s.data.toList) (h : q + 1 < s.size) : S.drop q = s[q] :: s[q + 1] :: S.drop (q + 2) := by
  subst hS
  rw [drop_cons s q (by omega), drop_cons s (q + 1) h]
theorem byt_step {S l : List UInt8} {a b : UInt8} {h l' : Nat} {r : List UInt8} (hS : bytesL S = (bytesL (a :: b :: r)).map (l ++ ·)) (ha : hxv a = some h) (hb : hxv b = some l') : bytesL S = (bytesL r).map ((l ++ [UInt8.ofNat (16 * h + l')]) ++ ·) := by
  have e : bytesL (a :: b :: r) = (bytesL r).map (UInt8.ofNat (16 * h + l') :: ·) := by simp only [bytesL, ha, hb]
  rw [hS, e]
  generalize UInt8.ofNat (16 * h + l') = x
  cases bytesL r <;> simp
set_option maxRecDepth 100000 in
set_option maxHeartbeats 1600000 in
theorem bytes_c (s : ByteArray) (w : World) (hs : s.size ≤ 1099511627776) :
    Calls Try.prog 32 #[.string s] w fun e w' => e = bytEnd (bytesL s.data.toList) ∧ Below w.heap.size w w' := by
  obtain ⟨i0, hi, hz0, hz1, hz2⟩ := info_parts info_byte
  obtain ⟨S, HS⟩ : ∃ S, Hid (S = s.data.toList) := ⟨_, Lib.hid rfl⟩
  rw [← HS.out]
  have HL : Hid (S.length = s.size) := Lib.hid (by rw [HS.out, toList_size])
  by_cases hodd : s.size % 2 = 0
  · have HO := Lib.hid hodd
    have o1 : ((s.size : Int) % 2 != 0) = false := by rw [show (s.size : Int) % 2 = 0 from by omega]; rfl
    have o2 : (s.size % 2 != 0) = false := by simp [hodd]
    clear hodd
    go_enter Try.func32, Try.ntmps32
    go_wp2_with (at_make; refine wpList_make_own _ rfl _ _ 80 rfl w.heap.size 5 i0 (.int .u8 0) 1 Try.underlying80 hi hz0 hz1 .i64 .i64 _ (s.size / 2) rfl rfl (by omega) (by rw [hz2]; omega) (by simp only [maxLen]; omega) (by omega) ?_; intro w1 hown1 hgrow1)
    have HB1 : Hid (Buf w1 w.heap.size 5 (.slice (some ⟨w.heap.size, 0, none⟩) 0 (s.size / 2)) []) := Lib.hid (Buf.own hown1)
    have HK1 : Hid (Kept 5 w.heap.size w w1) := Lib.hid (Kept.of_none hgrow1 (Nat.le_refl _))
    clear hown1 hgrow1 o1 o2
    go_loopw [4, 5] (fun b i wr => ∃ q : Nat, q ≤ s.size ∧ Hid (q % 2 = 0) ∧ i = .int .i64 q ∧ ∃ l, Hid (bytesL S = (bytesL (S.drop q)).map (l ++ ·)) ∧ l.length ≤ q ∧ ShInv w.heap.size w wr b l) (fun _ i _ => s.size - (intOf i).toNat)
    case atStart => exact ⟨0, by omega, Lib.hid rfl, rfl, [], Lib.hid (by simp), by simp, HB1.out, HK1.out⟩
    case round =>
      obtain ⟨q, hq, Hq, rfl, l, Hl, hll, hbuf, hkept⟩ := hrel
      have hwz := hkept.size
      have HK := Lib.hid hkept
      clear hkept
      obtain ⟨A2, n2, cap2, rfl, hn2, hc3, hc4⟩ := hbuf.form'
      by_cases hlt : q < s.size
      · have hlt2 : q + 1 < s.size := by have := HO.out; have := Hq.out; omega
        have HC1 := Lib.hid (fun w => idx_c s[q] w)
        have HC2 := Lib.hid (fun w => idx_c s[q + 1] w)
        have HAT := Lib.hid (byt_at S q s HS.out hlt2)
        obtain ⟨c1, hc1⟩ : ∃ c, s[q] = c := ⟨_, rfl⟩
        obtain ⟨c2, hc2⟩ : ∃ c, s[q + 1] = c := ⟨_, rfl⟩
        rw [hc1] at HC1 HAT
        rw [hc2] at HC2 HAT
        rcases dv_ways c1 with ⟨n1, hx1, hv1, hn1⟩ | ⟨hx1, hv1⟩
        · rcases dv_ways c2 with ⟨n2', hx2, hv2, hn2'⟩ | ⟨hx2, hv2⟩
          · rw [hv1] at HC1
            rw [hv2] at HC2
            have HST : Hid (bytesL S = (bytesL (S.drop (q + 2))).map ((l ++ [UInt8.ofNat (16 * n1 + n2')]) ++ ·)) := Lib.hid (byt_step (by rw [Hl.out, HAT.out]) hx1 hx2)
            have HCL := Lib.hid (cells16 n1 n2' hn1 hn2')
            have ho := or16i n1 n2' hn1 hn2'
            have e1 : IntKind.u8.wrap ((16 * n1 + n2' : Nat) : Int) = ((16 * n1 + n2' : Nat) : Int) := by simp [IntKind.wrap, IntKind.signed, IntKind.bits]; omega
            have hb16 : 16 * n1 + n2' < 256 := by omega
            clear hx1 hv1 hx2 hv2
            generalize 16 * n1 + n2' = B at *
            go_wp2_with fail
            refine (HC1.out _).mono ?_
            rintro e w' ⟨rfl, rfl⟩
            go_wp2_with fail
            refine (HC2.out _).mono ?_
            rintro e w' ⟨rfl, rfl⟩
            have d1 : decide ((n1 : Int) < 0) = false := decide_eq_false (by omega)
            have d2 : decide ((n2' : Int) < 0) = false := decide_eq_false (by omega)
            go_wp2_with (at_builtin; refine wpList_append_buf (by rfl) (.tmp 37) (.tmp 43) 80 80 (by rfl) w.heap.size 5 i0 Try.underlying80 hi hz0 hz1 hz2 (by rfl) (hbuf.alloc _) _ [UInt8.ofNat B] (by rfl) (src_lit Try.underlying80 _ 5 _ [UInt8.ofNat B] 1 _ (by rfl) HCL.out) (by simp only [World.size_alloc]; omega) (by simp; omega) ?_; intro A3 n3 cap3 w3 hb3 hk3; have HB4 := Lib.hid hb3; have HK4 := Lib.hid ((HK.out.alloc (by omega) _).trans hk3); clear hb3 hk3 hbuf)
            go_roundw
            case rel => exact ⟨q + 2, by omega, Lib.hid (by have := Hq.out; omega), by go_num, _, HST, by simp; omega, HB4.out, HK4.out⟩
            case measure => simp [intOf]; omega
          · rw [hv1] at HC1
            rw [hv2] at HC2
            have HN : Hid (bytesL S = none) := Lib.hid (by rw [Hl.out, HAT.out, bytesL_none _ (.inr hx2)]; rfl)
            have d1 : decide ((n1 : Int) < 0) = false := decide_eq_false (by omega)
            clear hx1 hv1 hx2 hv2 HAT
            go_wp2_with fail
            refine (HC1.out _).mono ?_
            rintro e w' ⟨rfl, rfl⟩
            go_wp2_with fail
            refine (HC2.out _).mono ?_
            rintro e w' ⟨rfl, rfl⟩
            go_wp2
            go_ret2
            exact ⟨by rw [HN.out]; rfl, HK.out.below⟩
        · rw [hv1] at HC1
          have HN : Hid (bytesL S = none) := Lib.hid (by rw [Hl.out, HAT.out, bytesL_none _ (.inl hx1)]; rfl)
          clear hx1 hv1 HAT
          go_wp2_with fail
          refine (HC1.out _).mono ?_
          rintro e w' ⟨rfl, rfl⟩
          go_wp2_with fail
          refine (HC2.out _).mono ?_
          rintro e w' ⟨rfl, rfl⟩
          go_wp2
          go_ret2
          exact ⟨by rw [HN.out]; rfl, HK.out.below⟩
      · have HT : Hid (bytesL S = some l) := Lib.hid (by rw [Hl.out, List.drop_eq_nil_of_le (by rw [HL.out]; omega)]; simp [bytesL])
        have hst := hbuf.str' (P := Try.prog) Try.underlying80 Try.underlying5 Try.underlying9
        obtain ⟨X, HX⟩ : ∃ X, Hid ((⟨l.toArray⟩ : ByteArray) = X) := ⟨_, Lib.hid rfl⟩
        rw [HX.out] at hst
        clear hbuf
        go_wp2
        go_ret2
        exact ⟨by rw [HT.out, bytEnd, HX.out]; rfl, HK.out.below⟩
  · have o1 : ((s.size : Int) % 2 != 0) = true := by rw [show (s.size : Int) % 2 = 1 from by omega]; rfl
    have HN : Hid (bytesL S = none) := Lib.hid (bytesL_odd S (by rw [HL.out]; exact hodd))
    clear hodd
    go_enter Try.func32, Try.ntmps32
    go_wp2
    go_ret2
    exact ⟨by rw [HN.out]; rfl, Below.refl _ _⟩
end Go.Proofs.Ytcidcjghglgkhaa
