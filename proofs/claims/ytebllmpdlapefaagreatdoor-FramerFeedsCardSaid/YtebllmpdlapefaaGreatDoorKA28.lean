/- squeeze.Pack tells 'pack'. -/
import Derived.Test.YtebllmpdlapefaaGreatDoorKA4
namespace Go.Proofs.YtebllmpdlapefaaGreatDoor
set_option linter.unusedVariables false
set_option linter.unusedSimpArgs false
open Go.RowKit Go.Maps

/-- What lies in memory at a round's head: the bytes, the map. -/
structure PW (s : ByteArray) (w : World) (g0 B mB cnt : Nat) (D : DataW Unit) (wr : World) : Prop where
  below : Below w.heap.size w wr
  cells : ∀ k, k < s.size → wr.cell? ⟨g0, k, none⟩ = some (.int .u8 (s.data.toList.getD k 0).toNat)
  hgB : g0 < B
  hBm : B ≤ mB
  hwB : w.heap.size ≤ B
  map : wr.ownsMap Tryz.prog 164 (plainElem Tryz.prog 3) mB cnt D
theorem PW.lt {s : ByteArray} {w : World} {g0 B mB cnt : Nat} {D : DataW Unit} {wr : World} (h : PW s w g0 B mB cnt D wr) : mB < wr.heap.size := h.map.lt
theorem PW.kept {s : ByteArray} {w : World} {g0 B mB cnt : Nat} {D : DataW Unit} {wr w' : World} (h : PW s w g0 B mB cnt D wr) (hk : Kept 5 B wr w') : PW s w g0 B mB cnt D w' := by
  refine ⟨h.below.trans (hk.below.mono h.hwB), fun k hk' => (hk.below.cell (p := ⟨g0, k, none⟩) h.hgB).trans (h.cells k hk'), h.hgB, h.hBm, h.hwB, ?_⟩
  obtain ⟨es, clock, hb, F, hs, hD⟩ := h.map
  exact ⟨es, clock, hk.other mB _ hb (by intro cs fr e; cases e), F, hs, hD⟩
theorem PW.later {s : ByteArray} {w : World} {g0 B mB cnt : Nat} {D : DataW Unit} {wr w' : World} (h : PW s w g0 B mB cnt D wr) (hk : Below wr.heap.size wr w') : PW s w g0 B mB cnt D w' :=
  h.kept (Kept.of_below hk (Nat.le_refl _) (by have := h.lt; have := h.hBm; omega))
theorem PW.upd {s : ByteArray} {w : World} {g0 B mB cnt cnt' : Nat} {D D' : DataW Unit} {wr w' : World} (h : PW s w g0 B mB cnt D wr) (hm : w'.ownsMap Tryz.prog 164 (plainElem Tryz.prog 3) mB cnt' D') (hg : wr.grownBy w' (some mB)) : PW s w g0 B mB cnt' D' w' := by
  have hlt := h.lt
  have hb := h.hgB
  have hbm := h.hBm
  have hwB := h.hwB
  refine ⟨h.below.trans ⟨hg.os, hg.tape, hg.output, hg.size, fun k hk => hg.block k (by omega) (by simp; omega)⟩, fun k hk => (World.cell?_of_block (a := ⟨g0, k, none⟩) (hg.block g0 (by omega) (by simp; omega))).trans (h.cells k hk), hb, hbm, hwB, hm⟩
theorem PW.buf {s : ByteArray} {w : World} {g0 B mB cnt : Nat} {D : DataW Unit} {wr w' : World} {v : Value} {l : List UInt8} (h : PW s w g0 B mB cnt D wr) (hb : Buf wr B 5 v l) (hg : wr.grownBy w' (some mB)) : Buf w' B 5 v l := by
  obtain ⟨es, clock, hm, _⟩ := h.map
  obtain ⟨A, cap, h1, h2, h3, h4⟩ := hb
  refine ⟨A, cap, h1, h2, h3, ?_⟩
  rcases h4 with h4 | ⟨g, cur, fr, hA, hgb, hh, r⟩
  · exact .inl h4
  · refine .inr ⟨g, cur, fr, hA, hgb, (hg.block g (Array.getElem?_eq_some_iff.1 hh).1 ?_).trans hh, r⟩
    intro e
    injection e with e
    subst e
    rw [hm] at hh
    cases hh
theorem PW.four {s : ByteArray} {w : World} {g0 B mB cnt i : Nat} {D : DataW Unit} {wr : World} (h : PW s w g0 B mB cnt D wr) (hi : i + 4 ≤ s.size) : ∃ c0 c1 c2 c3 : Nat, wr.cell? ⟨g0, i, none⟩ = some (.int .u8 c0) ∧ wr.cell? ⟨g0, i + 1, none⟩ = some (.int .u8 c1) ∧ wr.cell? ⟨g0, i + 2, none⟩ = some (.int .u8 c2) ∧ wr.cell? ⟨g0, i + 3, none⟩ = some (.int .u8 c3) ∧
    keyOf Tryz.prog 164 (.agg #[.int .u8 c0, .int .u8 c1, .int .u8 c2, .int .u8 c3]) = some (gl s.data.toList i) :=
  ⟨_, _, _, _, h.cells i (by omega), h.cells (i + 1) (by omega), h.cells (i + 2) (by omega), h.cells (i + 3) (by omega), gl_key s.data.toList i⟩

/-- What stands at the head of a round. -/
def PAt (s : ByteArray) (w : World) (g0 B mB : Nat) (v5 v7 v8 : Value) (wr : World) : Prop :=
  ∃ (i p f cnt : Nat) (A : Option Addr) (n cap : Nat) (l : List UInt8) (D : DataW Unit), v5 = .slice A n cap ∧ v7 = .int .i64 p ∧ v8 = .int .i64 i ∧ p ≤ i ∧ i ≤ s.size ∧ cnt ≤ i ∧ s.size - i < f ∧
    Buf wr B 5 (.slice A n cap) l ∧ l ++ pk s.data.toList f p i = pack s.data.toList ∧ PW s w g0 B mB cnt D wr ∧ MI s.data.toList D i
/-- And of the inner loop's. -/
def PIn (s : ByteArray) (w : World) (g0 B mB i sz : Nat) (A : Option Addr) (n cap : Nat) (l : List UInt8) (v8 v65 : Value) (wr : World) : Prop :=
  ∃ (c cnt : Nat) (D : DataW Unit), v65 = .int .i64 c ∧ v8 = .int .i64 ((i + c : Nat) : Int) ∧ c ≤ sz ∧ cnt ≤ i + c ∧ Buf wr B 5 (.slice A n cap) l ∧ PW s w g0 B mB cnt D wr ∧ MI s.data.toList D (i + c)

theorem pk_none {L l X : List UInt8} {f p i : Nat} (h : l ++ pk L f p i = X) (hf : L.length - i < f) (hi : i < L.length) (hn : fnd L i i = none) : l ++ pk L (f - 1) p (i + 1) = X := by
  obtain ⟨g, rfl⟩ : ∃ g, f = g + 1 := ⟨f - 1, by omega⟩
  unfold pk at h
  rw [if_pos hi, hn] at h
  exact h
theorem pk_some {L l X a : List UInt8} {f p i j n : Nat} (h : l ++ pk L f p i = X) (hf : L.length - i < f) (hi : i < L.length) (hn : fnd L i i = some j) (ha : a = (L.take i).drop p) (hm : mt L j i 64 = n) : ((l ++ litE a) ++ cpyE n (i - j)) ++ pk L (f - 1) (i + n) (i + n) = X := by
  obtain ⟨g, rfl⟩ : ∃ g, f = g + 1 := ⟨f - 1, by omega⟩
  unfold pk at h
  rw [if_pos hi, hn] at h
  subst hm; subst ha
  rw [← h]; simp
theorem pk_end {L l X a : List UInt8} {f p i : Nat} (h : l ++ pk L f p i = X) (hf : L.length - i < f) (hi : ¬ i < L.length) (ha : a = L.drop p) : l ++ litE a = X := by
  obtain ⟨g, rfl⟩ : ∃ g, f = g + 1 := ⟨f - 1, by omega⟩
  unfold pk at h
  rw [if_neg hi] at h
  subst ha
  exact h
theorem pk_bd {L l : List UInt8} {f p i : Nat} (h : l ++ pk L f p i = pack L) (hL : L.length ≤ 65536) : l.length ≤ 70000 := by
  have h1 := pack_length L hL
  have := congrArg List.length h
  rw [List.length_append] at this
  omega

theorem apCpy_i (base : Nat) (v : Value) (l : List UInt8) (n d : Nat) (di : Int) (w : World) (h : Buf w base 5 v l) (hb : base ≤ w.heap.size) (hl : l.length ≤ 1000000) (h4 : 4 ≤ n) (hn : n ≤ 64) (hd : d < 65536) (hdi : di = d) :
    Calls Tryz.prog 140 #[v, .int .i64 n, .int .i64 di] w (ApEnd base w (l ++ cpyE n d)) := by
  subst hdi; exact apCpy_c base v l n d w h hb hl h4 hn hd
theorem at_int {a b : Int} (h : (DataW.lit (.int .i64 a) : DataW Unit) = .lit (.int .i64 b)) : a = b := by
  injection h with h
  injection h
theorem run_arrayAt (w : World) (a : Addr) (c : Nat) : (Instr.arrayAt 164 (.slice (some a) 4 c)).run Tryz.prog w = .ok (.pointer (some a)) w := by
  simp [Instr.arrayAt, run_underlying Tryz.underlying164]
set_option maxRecDepth 100000 in
set_option maxHeartbeats 2000000 in
theorem pack_over (s : ByteArray) (w : World) (hs : 65536 < s.size) (hs2 : s.size ≤ 9223372036854775807) :
    Calls Tryz.prog 118 #[.string s] w fun e w' => e = .returned (.tuple #[.string ByteArray.empty, .int .i64 5]) ∧ w = w' := by
  go_enter Tryz.func118, Tryz.ntmps118
  go_wp2
  go_ret2
  exact ⟨rfl, rfl⟩
set_option maxRecDepth 100000 in
set_option maxHeartbeats 4000000 in
theorem pack_c (s : ByteArray) (w : World) (hs : s.size ≤ 65536) :
    Calls Tryz.prog 118 #[.string s] w fun e w' => e = .returned (.tuple #[.string ⟨(pack s.data.toList).toArray⟩, .int .i64 0]) ∧ Below w.heap.size w w' := by
  have kc := fun (w : World) (s : ByteArray) => Lib.run_convert_string_bytes (P := Tryz.prog) w 9 104 5 s Tryz.underlying9 Tryz.underlying104 Tryz.underlying5
  have hmm := @run_makeMap Tryz.prog
  have kA := run_arrayAt
  have H1 := Lib.hid (fun w => lebPut_c s.size w (by omega))
  go_enter Tryz.func118, Tryz.ntmps118
  go_wp2_with fail
  refine (H1.out _).mono ?_
  rintro e w1 ⟨rfl, hb1⟩
  have hz1 := hb1.size
  rw [Lib.bytesWorld_size] at hz1
  have hcells : ∀ k, k < s.size → w1.cell? ⟨w.heap.size, k, none⟩ = some (.int .u8 (s.data.toList.getD k 0).toNat) := fun k hk => (hb1.cell (p := ⟨w.heap.size, k, none⟩) (by rw [Lib.bytesWorld_size]; simp)).trans (Lib.bytesWorld_cell w _ s k hk)
  have hbel1 : Below w.heap.size w w1 := (Lib.bytesWorld_below w 5 s).trans (hb1.mono (by rw [Lib.bytesWorld_size]; omega))
  have hT : (⟨(lebL s.size).toArray⟩ : ByteArray).size = (lebL s.size).length := size_of _
  have hTl := lebL_length 3 s.size (by omega) (by omega)
  have hBuf := Buf.conv w1 w1.heap.size 5 ⟨(lebL s.size).toArray⟩ (Nat.le_refl _) (by omega)
  have hcap : s.size ≤ grownCap w s.size 0 5 := grownCap_ge _ _ _ _
  have hcap2 : grownCap w s.size 0 5 ≤ 9223372036854775807 := by simpa [maxLen] using grownCap_le_maxLen w s.size 0 5 (by simp [maxLen]; omega)
  rw [hT] at hBuf
  have hpw0 : PW s w w.heap.size w1.heap.size (Lib.bytesWorld w1 5 ⟨(lebL s.size).toArray⟩).heap.size 0 (.map []) ((Lib.bytesWorld w1 5 ⟨(lebL s.size).toArray⟩).alloc (.map #[] 0)) := by
    have hbw := Lib.bytesWorld_below w1 5 ⟨(lebL s.size).toArray⟩
    refine ⟨(hbel1.trans (hbw.mono (by omega))).alloc (by rw [Lib.bytesWorld_size]; omega) _, fun k hk => ?_, by omega, by rw [Lib.bytesWorld_size]; omega, by omega, World.ownsMap_made _ _ _ _⟩
    rw [World.cell?_alloc_lt _ _ _ (by rw [Lib.bytesWorld_size]; simp; omega), hbw.cell (p := ⟨w.heap.size, k, none⟩) (by simp; omega)]
    exact hcells k hk
  have hbuf0 := hBuf.alloc (.map #[] 0)
  have HB0 := Lib.hid hbuf0
  have HP0 := Lib.hid hpw0
  clear hpw0 hbuf0 hBuf hcells hT hb1 hbel1
  go_wp2
  generalize grownCap w s.size 0 5 = cap0 at *
  generalize (Lib.bytesWorld w1 5 ⟨(lebL s.size).toArray⟩).heap.size = mB at *
  generalize (Lib.bytesWorld w1 5 ⟨(lebL s.size).toArray⟩).alloc (.map #[] 0) = w2 at *
  generalize grownCap w1 (lebL s.size).length 0 5 = cap1 at *
  go_loopw [5, 7, 8] (fun v5 v7 v8 wr => PAt s w w.heap.size w1.heap.size mB v5 v7 v8 wr) (fun _ _ v8 _ => s.size - (intOf v8).toNat)
  case atStart => exact ⟨0, 0, s.size + 1, 0, _, _, _, _, _, rfl, rfl, rfl, by omega, by omega, by omega, by omega, HB0.out, by simp [pack, toList_size], HP0.out, MI.start _⟩
  case round =>
    obtain ⟨i, p, f, cnt, A, n, cap, l, D, rfl, rfl, rfl, hpi, hi, hcnt, hf, hbuf, hl, hpw, hmi⟩ := hrel
    have HMI := Lib.hid hmi
    have HL := Lib.hid hl
    have hlt0 := hpw.lt
    have hBm := hpw.hBm
    have hl7 := pk_bd hl (by simpa using hs)
    have HF := Lib.hid hf
    clear hmi hl
    by_cases hlt : i < s.size
    · obtain ⟨wo, hwo⟩ : ∃ wo : World, wo = wr := ⟨_, rfl⟩
      subst hwo
      by_cases h4 : i + 4 ≤ s.size
      · have hfl := fnd_last s.data.toList i (by simpa using h4) i (Nat.le_refl _)
        have hmi2 := HMI.out.2 i (by simpa using h4)
        obtain ⟨c0, c1, c2, c3, q0, q1, q2, q3, hkey⟩ := hpw.four h4
        have hne0 : ¬ cap0 = i := by omega
        have HK0 := Lib.hid hkey
        have hown0 := hpw.map
        clear hkey
        cases hlg : lastG s.data.toList i i with
        | none =>
          have hhas := hmi2.2 hlg
          rw [hlg] at hfl
          have HFN := Lib.hid hfl
          clear hmi2 hlg hfl
          go_wp2_with (at_lookup; refine wpList_lookup_own_ok_int _ rfl _ _ 162 rfl 164 3 .i64 keyLaw Tryz.underlying162 Tryz.underlying3 (zeroInt _) mB cnt _ rfl hown0 _ _ rfl HK0.out ?_; intro cj hat hwc)
          clear hat hwc q0 q1 q2 q3 hown0
          -- the inner loop: every place that is passed is laid into the map
          go_loopw [8, 65] (fun v8 v65 wr => PIn s w w.heap.size w1.heap.size mB i 1 A n cap l v8 v65 wr) (fun _ v65 _ => 1 - (intOf v65).toNat)
          case atStart => exact ⟨0, cnt, D, rfl, rfl, by omega, by omega, hbuf, hpw, HMI.out⟩
          case round =>
            obtain ⟨c, cnt', D', rfl, rfl, hc, hcnt', hbuf', hpw', hmi'⟩ := hrel
            have HMI' := Lib.hid hmi'
            have hlt' := hpw'.lt
            clear hmi'
            by_cases hcs : c < 1
            · by_cases h4' : i + c + 4 ≤ s.size
              · obtain ⟨c0, c1, c2, c3, q0, q1, q2, q3, hkey⟩ := hpw'.four h4'
                have hne' : ¬ cap0 = i + c := by omega
                have HK := Lib.hid hkey
                have hown := hpw'.map
                clear hkey
                go_wp2_with (at_mapUpdate; refine wpList_mapUpdate_own _ rfl _ _ _ 162 rfl 164 3 keyLaw Tryz.underlying162 _ mB cnt' _ rfl hown (by unfold maxLen; omega) _ _ _ rfl rfl HK.out _ [] (plainElem_int Tryz.underlying3 (WalkArith.wf_i64 (by omega))) ?_; intro w5 hown5 hgrow5)
                go_roundw
                case rel => exact ⟨c + 1, cnt' + 1, _, by go_num, by go_num, by omega, by omega, hpw'.buf hbuf' hgrow5, hpw'.upd hown5 hgrow5, HMI'.out.put (by simpa using h4')⟩
                case measure => simp [intOf]; omega
              · omega
            · go_wp2
              go_roundw
              case rel => exact ⟨i + 1, p, f - 1, cnt', A, n, cap, l, D', rfl, rfl, by go_num, by omega, by omega, by omega, by have := HF.out; omega, hbuf', pk_none HL.out (by simpa using HF.out) (by simpa using hlt) HFN.out, hpw', by rw [show i + 1 = i + c from by omega]; exact HMI'.out⟩
              case measure => simp [intOf]; omega
        | some j =>
          have hji := lastG_lt _ _ _ _ hlg
          obtain ⟨hhas, hat0⟩ := hmi2.1 j hlg
          have HAT := Lib.hid hat0
          rw [hlg] at hfl
          have HFN := Lib.hid hfl
          have hm4 := (fnd_some _ _ _ _ hfl).2
          have hmm := mt_le s.data.toList 64 j i
          have hmi3 := hmm.2 (by simpa using hi)
          rw [toList_size] at hmi3
          have hm64 := hmm.1
          have HMT := Lib.hid (fun w => match_b s j i w hji hi hs)
          generalize hmt : mt s.data.toList j i 64 = m at *
          have HM2 := Lib.hid hmt
          have hxz : (s.extract p i).size ≤ 65536 := by rw [size_cut _ _ _ hi]; omega
          have HNEXT := Lib.hid (pk_some HL.out (by simpa using HF.out) (by simpa using hlt) HFN.out (toList_cut s p i) HM2.out)
          have hxl : (l ++ litE (s.extract p i).data.toList).length ≤ 200000 := by
            have := litE_length (s.extract p i).data.toList (by rw [toList_size]; exact hxz)
            rw [toList_size] at this
            have h3 : (if (s.extract p i).size = 0 then 0 else if (s.extract p i).size ≤ 60 then 1 else if (s.extract p i).size ≤ 256 then 2 else 3) ≤ 3 := by split <;> (try split) <;> (try split) <;> omega
            rw [List.length_append]; omega
          clear hmi2 hlg hfl hat0 hmm hmt
          go_wp2_with (at_lookup; refine wpList_lookup_own_ok_int _ rfl _ _ 162 rfl 164 3 .i64 keyLaw Tryz.underlying162 Tryz.underlying3 (zeroInt _) mB cnt _ rfl hown0 _ _ rfl HK0.out ?_; intro cj hat hwc; obtain rfl := at_int (hat.symm.trans HAT.out); clear hat hwc)
          refine (apLit_c w1.heap.size _ l (s.extract p i) _ hbuf (by omega) (by omega) hxz).mono ?_
          rintro e w3 ⟨A1, n1, c1', rfl, hb1, hk1⟩
          have hz3 := hk1.size
          have hpw3 := hpw.kept hk1
          go_wp2_with fail
          refine (HMT.out _).mono ?_
          rintro e w4 ⟨rfl, hb4⟩
          have hz4 := hb4.size
          have hpw4 := hpw3.later hb4
          have hb1' := hb1.below hb4
          go_wp2_with fail
          refine (apCpy_i w1.heap.size _ _ m (i - j) ((i : Int) - j) _ hb1' (by omega) (by omega) hm4 hm64 (by omega) (by omega)).mono ?_
          rintro e w5 ⟨A2, n2, c2, rfl, hb2, hk2⟩
          have hpw5 := hpw4.kept hk2
          clear hb1 hb1' hpw3 hpw4 hpw hbuf q0 q1 q2 q3 hown0 hk1 hk2 hb4
          go_wp2
          -- the inner loop: every place that is passed is laid into the map
          go_loopw [8, 65] (fun v8 v65 wr => PIn s w w.heap.size w1.heap.size mB i m A2 n2 c2 _ v8 v65 wr) (fun _ v65 _ => m - (intOf v65).toNat)
          case atStart => exact ⟨0, cnt, D, rfl, rfl, by omega, by omega, hb2, hpw5, HMI.out⟩
          case round =>
            obtain ⟨c, cnt', D', rfl, rfl, hc, hcnt', hbuf', hpw', hmi'⟩ := hrel
            have HMI' := Lib.hid hmi'
            have hlt' := hpw'.lt
            clear hmi'
            by_cases hcs : c < m
            · by_cases h4' : i + c + 4 ≤ s.size
              · obtain ⟨c0, c1, c2, c3, q0, q1, q2, q3, hkey⟩ := hpw'.four h4'
                have hne' : ¬ cap0 = i + c := by omega
                have HK := Lib.hid hkey
                have hown := hpw'.map
                clear hkey
                go_wp2_with (at_mapUpdate; refine wpList_mapUpdate_own _ rfl _ _ _ 162 rfl 164 3 keyLaw Tryz.underlying162 _ mB cnt' _ rfl hown (by unfold maxLen; omega) _ _ _ rfl rfl HK.out _ [] (plainElem_int Tryz.underlying3 (WalkArith.wf_i64 (by omega))) ?_; intro w5 hown5 hgrow5)
                go_roundw
                case rel => exact ⟨c + 1, cnt' + 1, _, by go_num, by go_num, by omega, by omega, hpw'.buf hbuf' hgrow5, hpw'.upd hown5 hgrow5, HMI'.out.put (by simpa using h4')⟩
                case measure => simp [intOf]; omega
              · go_wp2
                go_roundw
                case rel => exact ⟨c + 1, cnt', D', by go_num, by go_num, by omega, by omega, hbuf', hpw', HMI'.out.skip (by simpa using h4')⟩
                case measure => simp [intOf]; omega
            · go_wp2
              go_roundw
              case rel => exact ⟨i + m, i + m, f - 1, cnt', A2, n2, c2, _, D', rfl, by go_num, by go_num, by omega, by omega, by omega, by have := HF.out; omega, hbuf', HNEXT.out, hpw', by rw [show i + m = i + c from by omega]; exact HMI'.out⟩
              case measure => simp [intOf]; omega
      · have HFN := Lib.hid (fnd_none_short s.data.toList i (by simpa using hi) (by simpa using h4) i (Nat.le_refl _))
        go_wp2
        go_loopw [8, 65] (fun v8 v65 wr => PIn s w w.heap.size w1.heap.size mB i 1 A n cap l v8 v65 wr) (fun _ v65 _ => 1 - (intOf v65).toNat)
        case atStart => exact ⟨0, cnt, D, rfl, rfl, by omega, by omega, hbuf, hpw, HMI.out⟩
        case round =>
          obtain ⟨c, cnt', D', rfl, rfl, hc, hcnt', hbuf', hpw', hmi'⟩ := hrel
          have HMI' := Lib.hid hmi'
          have hlt' := hpw'.lt
          have h4' : ¬ i + c + 4 ≤ s.size := by omega
          clear hmi'
          by_cases hcs : c < 1
          · go_wp2
            go_roundw
            case rel => exact ⟨c + 1, cnt', D', by go_num, by go_num, by omega, by omega, hbuf', hpw', HMI'.out.skip (by simpa using h4')⟩
            case measure => simp [intOf]; omega
          · go_wp2
            go_roundw
            case rel => exact ⟨i + 1, p, f - 1, cnt', A, n, cap, l, D', rfl, rfl, by go_num, by omega, by omega, by omega, by have := HF.out; omega, hbuf', pk_none HL.out (by simpa using HF.out) (by simpa using hlt) HFN.out, hpw', by rw [show i + 1 = i + c from by omega]; exact HMI'.out⟩
            case measure => simp [intOf]; omega
    · have HE := Lib.hid (pk_end HL.out (by simpa using HF.out) (by simpa using hlt) (show (s.extract p s.size).data.toList = s.data.toList.drop p by rw [toList_cut, take_all]))
      have hez : (s.extract p s.size).size ≤ 65536 := by rw [size_cut _ _ _ (Nat.le_refl _)]; omega
      go_wp2_with fail
      refine (apLit_c w1.heap.size _ l (s.extract p s.size) _ hbuf (by omega) (by omega) hez).mono ?_
      rintro e w3 ⟨A1, n1, c1, rfl, hb1, hk1⟩
      rw [HE.out] at hb1
      have hstr := hb1.str' (P := Tryz.prog) Tryz.underlying104 Tryz.underlying5 Tryz.underlying9
      have HB := Lib.hid ((hpw.kept hk1).below)
      clear hb1 hk1
      go_wp2
      go_ret2
      exact ⟨rfl, HB.out⟩
end Go.Proofs.YtebllmpdlapefaaGreatDoor
