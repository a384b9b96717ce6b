/- hexes.Read: slices.Equal of bytes, the closure that reads a line, Read. -/
import Derived.Test.YtcidcjghglgkhaaHexB
import Derived.Test.YtcidcjghglgkhaaHexDump
namespace Go.Proofs.Ytcidcjghglgkhaa
set_option linter.unusedVariables false
set_option linter.unusedSimpArgs false
open Go.RowKit Go.Shelf

set_option maxRecDepth 100000 in
set_option maxHeartbeats 1000000 in
/-- slices.Equal of bytes that lie anywhere. -/
theorem equalB_c (g o c g' o' c' : Nat) (p r : List UInt8) (w : World) (hp : RdAt w g o p) (hr : RdAt w g' o' r) (hl : p.length ≤ 1000000) (hl' : r.length ≤ 1000000) (hc : p.length ≤ c) (hc' : r.length ≤ c') (hd : c ≤ 9223372036854775807) (hd' : c' ≤ 9223372036854775807) :
    Calls Try.prog 71 #[.slice (some ⟨g, o, none⟩) p.length c, .slice (some ⟨g', o', none⟩) r.length c'] w fun e w' => e = .returned (.bool (decide (p = r))) ∧ Below w.heap.size w w' := by
  have HP := Lib.hid hp.2
  have HR := Lib.hid hr.2
  have hgw := hp.1
  have hgw' := hr.1
  clear hp hr
  obtain ⟨n, hn⟩ : ∃ n, p.length = n := ⟨_, rfl⟩
  obtain ⟨n', hn'⟩ : ∃ n, r.length = n := ⟨_, rfl⟩
  have HN := Lib.hid hn
  have HN' := Lib.hid hn'
  rw [hn] at hl hc ⊢
  rw [hn'] at hl' hc' ⊢
  obtain ⟨D, HD⟩ : ∃ D, Hid (decide (p = r) = D) := ⟨_, Lib.hid rfl⟩
  rw [HD.out]
  clear hn hn'
  by_cases hne : n = n'
  · subst hne
    have e1 : ((n : Int) != (n : Int)) = false := by simp
    go_enter Try.func71, Try.ntmps71
    go_wp2_with fail
    go_loopw [13] (fun i wr => ∃ k : Nat, k ≤ n ∧ i = .int .i64 k ∧ Hid (∀ j (h1 : j < p.length) (h2 : j < r.length), j < k → p[j] = r[j]) ∧ Below w.heap.size w wr) (fun i _ => n - (intOf i).toNat)
    case atStart => exact ⟨0, by omega, rfl, Lib.hid (by omega), Below.refl _ _⟩
    case round =>
      obtain ⟨k, hk, rfl, He, hb⟩ := hrel
      by_cases hlt : k < n
      · have h1 : k < p.length := by rw [HN.out]; exact hlt
        have h2 : k < r.length := by rw [HN'.out]; exact hlt
        have c1 := (hb.cell (p := ⟨g, o + k, none⟩) hgw).trans (HP.out k h1)
        have c2 := (hb.cell (p := ⟨g', o' + k, none⟩) hgw').trans (HR.out k h2)
        by_cases hq : p[k] = r[k]
        · have HE : Hid (∀ j (h1 : j < p.length) (h2 : j < r.length), j < k + 1 → p[j] = r[j]) := Lib.hid (fun j q1 q2 q3 => by
            by_cases h : j = k
            · subst h; exact hq
            · exact He.out j q1 q2 (by omega))
          rw [hq] at c1
          obtain ⟨x, hx⟩ : ∃ x, r[k].toNat = x := ⟨_, rfl⟩
          rw [hx] at c1 c2
          have e2 : ((x : Int) != (x : Int)) = false := by simp
          clear hq hx h1 h2
          go_wp2_with fail
          go_quiet (fail)
          go_wp2
          go_roundw
          case rel => exact ⟨k + 1, by omega, by go_num, HE, hb.drewN' _⟩
          case measure => simp [intOf]; omega
        · have HF : Hid (D = false) := Lib.hid (by
            rw [← HD.out]
            exact decide_eq_false (fun e => hq (by subst e; rfl)))
          have hx : p[k].toNat ≠ r[k].toNat := fun e => hq (UInt8.toNat_inj.1 e)
          obtain ⟨x, hx1⟩ : ∃ x, p[k].toNat = x := ⟨_, rfl⟩
          obtain ⟨y, hx2⟩ : ∃ x, r[k].toNat = x := ⟨_, rfl⟩
          rw [hx1, hx2] at hx
          rw [hx1] at c1
          rw [hx2] at c2
          have e2 : ((x : Int) != (y : Int)) = true := bne_iff_ne.2 (by omega)
          have e3 : (x != y) = true := bne_iff_ne.2 hx
          clear hq hx1 hx2 h1 h2
          go_wp2_with fail
          go_quiet (fail)
          go_wp2
          go_ret
          exact ⟨by rw [HF.out]; rfl, hb.drewN' _⟩
      · have HF : Hid (D = true) := Lib.hid (by
          rw [← HD.out]
          exact decide_eq_true (List.ext_getElem (by rw [HN.out, HN'.out]) (fun j q1 q2 => He.out j q1 q2 (by rw [HN.out] at q1; omega))))
        go_wp2
        go_ret
        exact ⟨by rw [HF.out]; rfl, hb⟩
  · have HF : Hid (D = false) := Lib.hid (by
      rw [← HD.out]
      exact decide_eq_false (fun e => hne (by have := HN.out; have := HN'.out; subst e; omega)))
    have e1 : ((n : Int) != (n' : Int)) = true := bne_iff_ne.2 (by omega)
    have e3 : (n != n') = true := bne_iff_ne.2 hne
    go_enter Try.func71, Try.ntmps71
    go_wp2
    go_ret
    exact ⟨by rw [HF.out]; rfl, Below.refl _ _⟩
/-- How the closure ends. -/
def ReadsEnd (base b : Nat) (out : List UInt8) (w : World) (R : Option (List UInt8)) (e : Ending) (w' : World) : Prop :=
  KeptB 5 base b w w' ∧ match R with
    | some bs => e = .returned (.bool true) ∧ ∃ v, Blk w' b 80 #[v] ∧ Buf w' base 5 v (out ++ bs)
    | none => e = .returned (.bool false)
theorem lnOf_short {a : Nat} {p : List UInt8} (h : p.length < 15) : lnOf a p = none := by
  unfold lnOf; rw [if_neg (by omega)]
theorem lnOf_ragged {a : Nat} {p : List UInt8} (h : p.length ≠ 11 + 4 * ((p.length - 11) / 4)) : lnOf a p = none := by
  unfold lnOf; rw [if_neg (by omega)]
theorem lnOf_no {a n : Nat} {p : List UInt8} (hn : p.length = 11 + 4 * n) (h : gat n (p.drop 8) = none) : lnOf a p = none := by
  unfold lnOf
  have : (p.length - 11) / 4 = n := by omega
  rw [this, h]
  split <;> rfl
theorem lnOf_yes {a n : Nat} {p l : List UInt8} (hn : p.length = 11 + 4 * n) (h1 : 1 ≤ n) (h : gat n (p.drop 8) = some l) : lnOf a p = if lineL a l = p then some l else none := by
  unfold lnOf
  have : (p.length - 11) / 4 = n := by omega
  rw [this, h, if_pos ⟨h1, hn⟩]
theorem drop3 (p : List UInt8) (k : Nat) (h : k + 2 < p.length) : p.drop k = p[k] :: p[k + 1] :: p[k + 2] :: p.drop (k + 3) := by
  rw [List.drop_eq_getElem_cons (by omega), List.drop_eq_getElem_cons (by omega), List.drop_eq_getElem_cons (by omega)]
theorem Buf.addr {w : World} {base : Nat} {E : TypeId} {A : Option Addr} {n cap : Nat} {l : List UInt8} (h : Buf w base E (.slice A n cap) l) (hl : l.length ≠ 0) : ∃ g, A = some ⟨g, 0, none⟩ := by
  obtain ⟨A', cap', h1, h2, h3, h4⟩ := h
  injection h1 with hA hn hc
  rcases h4 with ⟨h4, h5⟩ | ⟨g, cur, fr, hA', _⟩
  · omega
  · exact ⟨g, by rw [hA, hA']⟩
theorem Buf.rdAt {w : World} {base : Nat} {E : TypeId} {g n cap : Nat} {a l : List UInt8} (h : Buf w base E (.slice (some ⟨g, 0, none⟩) n cap) (a ++ l)) : RdAt w g a.length l :=
  ⟨(by obtain ⟨cur, fr, hb, _⟩ := h.block; exact (Array.getElem?_eq_some_iff.1 hb).1), fun j hj => by
    have := (h.at_ (k := a.length + j) (by rw [List.length_append]; omega)).1
    rw [List.getD_eq_getElem?_getD, List.getElem?_append_right (by omega), Nat.add_sub_cancel_left, List.getElem?_eq_getElem hj] at this
    exact this⟩
theorem tdiv15 : ∀ m : Fin 15, Int.tdiv ((m.val : Int) - 11) 4 < 1 := by decide +kernel
set_option maxRecDepth 100000 in
set_option maxHeartbeats 3200000 in
theorem reads_c (b base g o cp : Nat) (p out : List UInt8) (v : Value) (w : World) (hblk : Blk w b 80 #[v]) (hbuf : Buf w base 5 v out) (hbb : b < base) (hr : RdAt w g o p) (hg : g < base) (hgb : g ≠ b) (hbw : base ≤ w.heap.size)
    (hol : out.length ≤ 1000000) (hp : p.length ≤ 1000) (hcp : p.length ≤ cp) (hcp2 : cp ≤ 9223372036854775807) :
    Calls Try.prog 70 #[.slice (some ⟨g, o, none⟩) p.length cp, .pointer (some ⟨b, 0, none⟩)] w (ReadsEnd base b out w (lnOf out.length p)) := by
  obtain ⟨i0, hi, hz0, hz1, hz2⟩ := info_parts info_byte
  obtain ⟨m, hm⟩ : ∃ m, p.length = m := ⟨_, rfl⟩
  have HM := Lib.hid hm
  obtain ⟨R, HR⟩ : ∃ R, Hid (lnOf out.length p = R) := ⟨_, Lib.hid rfl⟩
  rw [hm] at hp hcp ⊢
  rw [HR.out]
  clear hm
  by_cases h15 : m < 15
  · obtain rfl : R = none := by rw [← HR.out]; exact lnOf_short (by rw [HM.out]; exact h15)
    clear hbuf hblk hr
    have ht := tdiv15 ⟨m, h15⟩
    simp only at ht
    have hd := decide_eq_true ht
    go_enter Try.func70, Try.ntmps70
    go_wp2
    go_ret
    exact ⟨KeptB.refl _ _ _ _, rfl⟩
  · obtain ⟨n, hn⟩ : ∃ n : Nat, (m - 11) / 4 = n := ⟨_, rfl⟩
    have hni : ((m : Int) - 11) / 4 = (n : Int) := by omega
    have hn1 : 1 ≤ n := by omega
    have hn2 : n ≤ 250 := by omega
    have hd : decide ((n : Int) < 1) = false := decide_eq_false (by omega)
    by_cases hrag : m = 11 + 4 * n
    · have HRAG := Lib.hid hrag
      have e1 : ((m : Int) != 11 + 4 * (n : Int)) = false := by rw [show (m : Int) = 11 + 4 * (n : Int) from by omega]; simp
      obtain ⟨A1, n1, cap1, rfl, hn1', hc1, hc2⟩ := hbuf.form'
      have hn1le : n1 ≤ 1000000 := by rw [hn1'.out]; exact hol
      have c0 : w.cell? ⟨b, 0, none⟩ = some (.slice A1 n1 cap1) := hblk.cell 0
      have HBK := Lib.hid hblk
      have HBF := Lib.hid hbuf
      have HRD := Lib.hid hr
      have hblt := hblk.lt
      have hglt := hr.1
      clear hblk hbuf hr hrag
      go_enter Try.func70, Try.ntmps70
      go_wp2_with fail
      simp only [hni]
      clear e1 c0 hni hn
      go_loopw [27] (fun i wr => ∃ k : Nat, k ≤ n ∧ i = .int .i64 k ∧ ∃ v l, Hid (gat n (p.drop 8) = (gat (n - k) (p.drop (8 + 3 * k))).map (l ++ ·)) ∧ Hid (l.length = k) ∧ Blk wr b 80 #[v] ∧ Buf wr base 5 v (out ++ l) ∧ KeptB 5 base b w wr) (fun i _ => n - (intOf i).toNat)
      case atStart => exact ⟨0, by omega, rfl, _, [], Lib.hid (by simp), Lib.hid rfl, HBK.out, by rw [List.append_nil]; exact HBF.out, KeptB.refl _ _ _ _⟩
      case round =>
        obtain ⟨k, hk, rfl, v, l, Hg, Hll, hblk, hbuf, hkept⟩ := hrel
        have hwz := hkept.size
        obtain ⟨A2, n2, cap2, rfl, hn2', hc3, hc4⟩ := hbuf.form'
        have hn2le : n2 ≤ 1000250 := by rw [hn2'.out, List.length_append, Hll.out]; omega
        have c1 : wr.cell? ⟨b, 0, none⟩ = some (.slice A2 n2 cap2) := hblk.cell 0
        by_cases hlt : k < n
        · have hpl : 8 + 3 * k + 2 < p.length := by rw [HM.out, HRAG.out]; omega
          have HD3 := Lib.hid (drop3 p (8 + 3 * k) hpl)
          obtain ⟨x0, hx0⟩ : ∃ x, p[8 + 3 * k] = x := ⟨_, rfl⟩
          rw [hx0] at HD3
          clear hx0
          obtain ⟨x, hx⟩ : ∃ x, p[8 + 3 * k + 1] = x := ⟨_, rfl⟩
          obtain ⟨y, hy⟩ : ∃ y, p[8 + 3 * k + 2] = y := ⟨_, rfl⟩
          have hrd : RdAt wr g o p := ⟨Nat.lt_of_lt_of_le hglt hwz, fun j hj => (World.cell?_of_block (hkept.block g hg hgb)).trans (HRD.out.2 j hj)⟩
          have d1 := hrd.2 _ (by omega : 8 + 3 * k + 1 < p.length)
          have d2 := hrd.2 _ (by omega : 8 + 3 * k + 2 < p.length)
          rw [hx] at HD3 d1
          rw [hy] at HD3 d2
          clear hx hy
          have hst : (convert 80 9 (.slice (some ⟨g, o + (8 + 3 * k + 1), none⟩) 2 (cp - (8 + 3 * k + 1)))).run Try.prog wr = .ok (.string ⟨#[x, y]⟩) wr := run_str wr _ _ 5 Try.underlying80 Try.underlying5 Try.underlying9 ⟨g, o + (8 + 3 * k + 1), none⟩ _ [x, y] (by
            intro j u hj
            match j, hj with
            | 0, hj => simp [cb] at hj; subst hj; simpa [Addr.add] using d1
            | 1, hj => simp [cb] at hj; subst hj; simpa [Addr.add, Nat.add_assoc] using d2
            | j + 2, hj => simp [cb] at hj)
          have HBY := Lib.hid (fun w => bytes_c ⟨#[x, y]⟩ w (by simp [ByteArray.size]))
          rw [show (⟨#[x, y]⟩ : ByteArray).data.toList = [x, y] from rfl] at HBY
          have HKE := Lib.hid hkept
          have HBK2 := Lib.hid hblk
          have HBF2 := Lib.hid hbuf
          obtain ⟨X, HX⟩ : ∃ X, Hid ((⟨#[x, y]⟩ : ByteArray) = X) := ⟨_, Lib.hid rfl⟩
          rw [HX.out] at hst HBY
          have hbd : 8 + 3 * k + 1 + 2 ≤ cp := by have := HRAG.out; omega
          clear hkept hblk hbuf hrd d1 d2 hpl HX c1
          by_cases hxy : ∃ a c, hxv x = some a ∧ hxv y = some c
          · obtain ⟨a, c, hxa, hyc⟩ := hxy
            rw [bytesL_two hxa hyc, bytEnd] at HBY
            have HG : Hid (gat n (p.drop 8) = (gat (n - (k + 1)) (p.drop (8 + 3 * (k + 1)))).map ((l ++ [UInt8.ofNat (16 * a + c)]) ++ ·)) := Lib.hid (by
              obtain ⟨d, hd'⟩ : ∃ d, n - k = d + 1 := ⟨n - k - 1, by omega⟩
              rw [Hg.out, hd', HD3.out, show n - (k + 1) = d from by omega, show 8 + 3 * (k + 1) = 8 + 3 * k + 3 from by omega]
              simp only [gat, hxa, hyc]
              generalize UInt8.ofNat (16 * a + c) = z
              cases gat d (p.drop (8 + 3 * k + 3)) <;> simp)
            generalize UInt8.ofNat (16 * a + c) = z at *
            obtain ⟨Z, HZ⟩ : ∃ Z, Hid ((⟨[z].toArray⟩ : ByteArray) = Z) := ⟨_, Lib.hid rfl⟩
            rw [HZ.out] at HBY
            have HZL : Hid (Z.data.toList = [z]) := Lib.hid (by rw [← HZ.out])
            have hZs : Z.size = 1 := by rw [← HZ.out]; rfl
            clear HZ HD3 hxa hyc
            go_wp2_with fail
            refine (HBY.out _).mono ?_
            rintro e w3 ⟨rfl, hb3⟩
            have hz3 := hb3.size
            have hblk3 : Blk w3 b 80 #[.slice A2 n2 cap2] := HBK2.out.keep hb3 HBK2.out.lt
            have c3 : w3.cell? ⟨b, 0, none⟩ = some (.slice A2 n2 cap2) := hblk3.cell 0
            have HBK3 := Lib.hid hblk3
            have HBF3 : Hid (Buf w3 base 5 (.slice A2 n2 cap2) (out ++ l)) := Lib.hid (HBF2.out.below hb3)
            have HKE3 : Hid (KeptB 5 base b w w3) := Lib.hid (HKE.out.trans ((Kept.of_below hb3 (Nat.le_refl _) (by omega)).b b))
            have hlo : (out ++ l).length ≤ 1000250 := by rw [List.length_append, Hll.out]; omega
            clear hb3 hblk3
            go_wp2_with (at_builtin; refine wpList_append_buf (by rfl) (.tmp 46) (.tmp 47) 80 9 (by rfl) base 5 i0 Try.underlying80 hi hz0 hz1 hz2 (by rfl) HBF3.out _ Z.data.toList (by rfl) (src_str Try.underlying9 _ Z) (by omega) (by rw [toList_size, hZs]; omega) ?_; intro A4 n4 cap4 w4 hb4 hk4; have hblk4 := HBK3.out.kept hk4 (by decide); have f4 := hblk4.frozen 0; have d4 : w4.cell? ⟨b, 0, none⟩ = some (.slice A2 n2 cap2) := hblk4.cell 0; have HF4 : Hid (Blk (w4.setCell ⟨b, 0, none⟩ (.slice A4 n4 cap4)) b 80 #[.slice A4 n4 cap4]) := Lib.hid (hblk4.set 0 _); have HB4 : Hid (Buf (w4.setCell ⟨b, 0, none⟩ (.slice A4 n4 cap4)) base 5 (.slice A4 n4 cap4) (out ++ (l ++ [z]))) := Lib.hid (by rw [HZL.out, List.append_assoc] at hb4; exact hb4.setB hbb 0 _); have HK4 : Hid (KeptB 5 base b w (w4.setCell ⟨b, 0, none⟩ (.slice A4 n4 cap4))) := Lib.hid ((HKE3.out.trans (hk4.b b)).trans (KeptB.setCell _ _ _ _ _ _)); clear hb4 hk4 hblk4)
            go_roundw
            case rel => exact ⟨k + 1, by omega, by go_num, .slice A4 n4 cap4, l ++ [z], HG, Lib.hid (by rw [List.length_append, Hll.out]; rfl), HF4.out, HB4.out, HK4.out⟩
            case measure => simp [intOf]; omega
          · have hno : hxv x = none ∨ hxv y = none := by
              cases h1 : hxv x with
              | none => exact .inl rfl
              | some a => cases h2 : hxv y with
                | none => exact .inr rfl
                | some c => exact absurd ⟨a, c, h1, h2⟩ hxy
            have hgn : gat n (p.drop 8) = none := by
              obtain ⟨d, hd'⟩ : ∃ d, n - k = d + 1 := ⟨n - k - 1, by omega⟩
              rw [Hg.out, hd', HD3.out, gat_none _ _ hno]; rfl
            obtain rfl : R = none := by rw [← HR.out]; exact lnOf_no (by rw [HM.out, HRAG.out]) hgn
            rw [bytesL_none [] hno, bytEnd] at HBY
            clear hxy hno hgn HD3
            go_wp2_with fail
            refine (HBY.out _).mono ?_
            rintro e w3 ⟨rfl, hb3⟩
            have HKE3 : Hid (KeptB 5 base b w w3) := Lib.hid (HKE.out.trans ((Kept.of_below hb3 (Nat.le_refl _) (by omega)).b b))
            clear hb3
            go_wp2
            go_ret
            exact ⟨HKE3.out, rfl⟩
        · obtain rfl : k = n := by omega
          have hgl : gat k (p.drop 8) = some l := by rw [Hg.out, Nat.sub_self]; simp [gat]
          have HRI : Hid (R = if lineL out.length l = p then some l else none) := Lib.hid (by rw [← HR.out]; exact lnOf_yes (by rw [HM.out, HRAG.out]) hn1 hgl)
          have hlen2 : n2 = n1 + k := by rw [hn2'.out, List.length_append, Hll.out, hn1'.out]
          obtain ⟨gb, hgb'⟩ : ∃ gb, A2 = some ⟨gb, 0, none⟩ := hbuf.addr (by rw [List.length_append, Hll.out]; omega)
          subst hgb'
          subst hlen2
          have HRL := hbuf.rdAt
          rw [← hn1'.out] at HRL HRI
          have hk2 : k ≤ cap2 - n1 := by omega
          have HLN := line_c n1 gb n1 (cap2 - n1) l wr (by omega) HRL (by rw [Hll.out]; omega) (by rw [Hll.out]; exact hk2) (by omega)
          rw [Hll.out] at HLN
          have hrd : RdAt wr g o p := ⟨Nat.lt_of_lt_of_le hglt hwz, fun j hj => (World.cell?_of_block (hkept.block g hg hgb)).trans (HRD.out.2 j hj)⟩
          have HL5 := Lib.hid HLN
          have HRD5 := Lib.hid hrd
          have HKE := Lib.hid hkept
          have HBK2 := Lib.hid hblk
          have HBF2 := Lib.hid hbuf
          have hkc : ¬ cap2 - n1 = 0 := by omega
          have hkd : ¬ cap2 = n1 := by omega
          have hke : n1 < cap2 := by omega
          have hnk : n1 + k - n1 = k := by omega
          clear HLN hrd hkept hblk hbuf HRL hgl Hg
          go_wp2_with fail
          refine HL5.out.mono ?_
          rintro e w5 ⟨A5, n5, c5, rfl, hb5, hk5⟩
          have hz5 := hk5.size
          obtain ⟨g5, hg5⟩ := hb5.addr (by rw [lineL_length]; omega)
          subst hg5
          obtain ⟨hn5, hn5c, hc5⟩ := hb5.len
          have hRA : RdAt w5 g5 0 (lineL n1 l) := Buf.rdAt (a := []) (by simpa using hb5)
          have hRB : RdAt w5 g o p := HRD5.out.below hk5.below HRD5.out.1
          have HEQ := equalB_c g5 0 c5 g o cp _ p w5 hRA hRB (by rw [lineL_length, Hll.out]; omega) (by rw [HM.out]; omega) (by omega) (by rw [HM.out]; exact hcp) hc5 hcp2
          rw [HM.out, ← hn5] at HEQ
          have HEQ2 := Lib.hid HEQ
          have HBK5 : Hid (Blk w5 b 80 #[.slice (some ⟨gb, 0, none⟩) (n1 + k) cap2]) := Lib.hid (HBK2.out.keep hk5.below HBK2.out.lt)
          have HBF5 : Hid (Buf w5 base 5 (.slice (some ⟨gb, 0, none⟩) (n1 + k) cap2) (out ++ l)) := Lib.hid (HBF2.out.below hk5.below)
          have HKE5 : Hid (KeptB 5 base b w w5) := Lib.hid (HKE.out.trans ((hk5.mono (by omega)).b b))
          clear HEQ hRA hRB hb5 hk5 hn5
          go_wp2_with fail
          refine HEQ2.out.mono ?_
          rintro e w6 ⟨rfl, hb6⟩
          have HKE6 : Hid (KeptB 5 base b w w6) := Lib.hid (HKE5.out.trans ((Kept.of_below hb6 (Nat.le_refl _) (by omega)).b b))
          have HBK6 : Hid (Blk w6 b 80 #[.slice (some ⟨gb, 0, none⟩) (n1 + k) cap2]) := Lib.hid (HBK5.out.keep hb6 HBK5.out.lt)
          have HBF6 : Hid (Buf w6 base 5 (.slice (some ⟨gb, 0, none⟩) (n1 + k) cap2) (out ++ l)) := Lib.hid (HBF5.out.below hb6)
          clear hb6
          by_cases hfin : lineL n1 l = p
          · obtain rfl : R = some l := by rw [HRI.out, if_pos hfin]
            have e9 : decide (lineL n1 l = p) = true := decide_eq_true hfin
            rw [e9]
            clear e9 hfin
            go_wp2
            go_ret
            exact ⟨HKE6.out, rfl, _, HBK6.out, HBF6.out⟩
          · obtain rfl : R = none := by rw [HRI.out, if_neg hfin]
            have e9 : decide (lineL n1 l = p) = false := decide_eq_false hfin
            rw [e9]
            clear e9 hfin
            go_wp2
            go_ret
            exact ⟨HKE6.out, rfl⟩
    · obtain rfl : R = none := by rw [← HR.out]; exact lnOf_ragged (by rw [HM.out, hn]; exact hrag)
      have e1 : ((m : Int) != 11 + 4 * (n : Int)) = true := bne_iff_ne.2 (by omega)
      clear hbuf hblk hr
      go_enter Try.func70, Try.ntmps70
      go_wp2
      go_ret
      exact ⟨KeptB.refl _ _ _ _, rfl⟩
end Go.Proofs.Ytcidcjghglgkhaa
