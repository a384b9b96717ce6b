/- The document's Zero. -/
import Derived.Test.YtmcdgmepheibkaaDoorTypedZ3
import Derived.Test.YtmcdgmepheibkaaDoorBuf
import Derived.Deep.DeepFit
namespace Go.Proofs.YtmcdgmepheibkaaDoor
set_option linter.unusedVariables false
set_option linter.unusedSimpArgs false
open Go.RowKit

theorem info_byteZ : (Tryd.prog.info? 5).map (fun i => (i.zero, i.size, i.bytes)) = some (some (.int .u8 0), 1, 1) := by kernel_rfl
set_option maxRecDepth 100000 in
set_option maxHeartbeats 3200000 in
theorem refZero_c : ∀ (x : Ty) (B : Nat) (w : World) (c0 c1 c2 c3 : Value), TyIn w B x c0 c1 c2 c3 → B ≤ w.heap.size → x.right = true →
    Calls Tryd.prog 21 #[.agg #[c0, c1, c2, c3]] w fun e w' => ZEnd w x.zero e w' := by
  intro x
  induction x using Ty.ind with
  | h ki s l ta ih =>
    intro B w c0 c1 c2 c3 h hB hr
    obtain ⟨rfl, rfl, rfl, hki, hsi, hta, hs, A, cap, rfl, hcap, hcm, hsub⟩ := h
    have IH := Lib.hid ih
    have HS := Lib.hid hsub
    have HKI := Lib.hid hki
    have HSI := Lib.hid hsi
    have HTA := Lib.hid hta
    unfold okI at hki hsi hta
    obtain ⟨hki1, hki2⟩ := hki
    obtain ⟨hsi1, hsi2⟩ := hsi
    obtain ⟨hta1, hta2⟩ := hta
    clear ih hsub
    obtain ⟨hta3, hta4, hway⟩ := tail_ok hr
    obtain ⟨hok, hrt⟩ := right_ok hr
    have hzz : (Ty.mk ki s l ta).zero = if ki = 2 then .mk (noughts s.toNat) false [] else if ki = 4 then .mk ⟨#[]⟩ true [] else if ki = 5 then .mk ⟨#[]⟩ true (zeroL l ((l.length : Int) - ta).toNat) else .mk ⟨#[]⟩ false [] := by rw [Ty.zero]
    have HZZ := Lib.hid hzz
    have HRT := Lib.hid hrt
    clear HKI HSI HTA hr hzz hrt hway
    generalize (Ty.mk ki s l ta).zero = R at *
    rcases ok_ways hok with ⟨rfl, h3, hn, rfl⟩ | ⟨rfl, h3, h4, hn, rfl⟩ | ⟨rfl, h3, h4, hn, rfl⟩ | ⟨rfl, h3, h4, hn, rfl⟩ | ⟨rfl, rfl, h4, h5, h6⟩
    · have HX : Hid (R = .mk ⟨#[]⟩ false []) := Lib.hid HZZ.out
      clear hok IH HS hn HZZ
      go_enter Tryd.func21, Tryd.ntmps21
      go_wp2
      refine bodyPost_ret (v := .agg #[.string ⟨#[]⟩, .bool false, .slice none 0 0]) (by simp [results, Tryd.results21, go_sem]) rfl ?_
      rw [HX.out]
      exact ⟨⟨_, _, _, rfl, ItS.text false (by simp [ByteArray.size])⟩, (by repeat (first | exact Below.refl _ _ | assumption | with_reducible refine Below.drewN' ?_ _ | with_reducible refine Below.drew ?_ | ((with_reducible refine Below.alloc' ?_ ?_ _); · (first | omega | (simp <;> omega)))))⟩
    · obtain ⟨n, rfl⟩ : ∃ n : Nat, s = (n : Int) := ⟨s.toNat, by omega⟩
      have HX : Hid (R = .mk ⟨(List.replicate n 0).toArray⟩ false []) := Lib.hid (by rw [HZZ.out, if_pos rfl, Int.toNat_natCast]; rfl)
      have hTs : (⟨(List.replicate n 0).toArray⟩ : ByteArray).size ≤ 65536 := by rw [size_of]; simp; omega
      obtain ⟨i0, hi, hz0, hz1, hz2⟩ := info_parts info_byteZ
      clear hok IH HS hn HZZ
      go_enter Tryd.func21, Tryd.ntmps21
      go_wp2_with (at_make; refine wpList_make_full _ rfl _ _ 83 rfl (w.heap.size + 2) 5 i0 (.int .u8 0) 1 Tryd.underlying83 hi hz0 hz1 .i64 .i64 _ _ n rfl rfl (by omega) (by omega) (by rw [hz2]; omega) (by simp only [maxLen]; omega) (by simp) ?_; intro w1 hown1 hgrow1)
      simp only [World.size_alloc] at hown1
      have hb1 : Buf w1 (w.heap.size + 2) 5 (.slice (some ⟨w.heap.size + 1 + 1, 0, none⟩) n n) (List.replicate n 0) := by
        rw [made_bytes] at hown1
        exact Buf.own (l := List.replicate n 0) (by simpa using hown1)
      have hst := hb1.str' (P := Tryd.prog) Tryd.underlying83 Tryd.underlying5 Tryd.underlying9
      have n2 := Blk.new (w.alloc (.cells #[.int .i64 2, .int .i64 n, .slice A l.length cap, .int .i64 0] 24)) 27 #[.string ⟨#[]⟩, .bool false, .slice none 0 0]
      rw [World.size_alloc] at n2
      obtain ⟨r0, r1, r2, rf0, rf1, rf2⟩ := blk3 (n2.grown hgrow1 (by simp))
      have HBW : Hid (Below w.heap.size w w1) := Lib.hid ((((Below.refl w.heap.size w).alloc (Nat.le_refl _) _).alloc (by simp) _).grown hgrow1 (by simp; omega) (by simp))
      generalize (⟨(List.replicate n 0).toArray⟩ : ByteArray) = T at *
      clear hown1 hgrow1 hb1 n2
      go_wp2
      first | rw [hst] | erw [hst]
      go_wp2
      refine bodyPost_ret (v := .agg #[.string T, .bool false, .slice none 0 0]) (by simp [results, Tryd.results21, go_sem, r0, r1, r2]) rfl ?_
      rw [HX.out]
      exact ⟨⟨_, _, _, rfl, ItS.text false (by omega)⟩, ((HBW.out.setCell (by simp) _).setCell (by simp) _).setCell (by simp) _⟩
    · have HX : Hid (R = .mk ⟨#[]⟩ false []) := Lib.hid HZZ.out
      clear hok IH HS hn HZZ
      go_enter Tryd.func21, Tryd.ntmps21
      go_wp2
      refine bodyPost_ret (v := .agg #[.string ⟨#[]⟩, .bool false, .slice none 0 0]) (by simp [results, Tryd.results21, go_sem]) rfl ?_
      rw [HX.out]
      exact ⟨⟨_, _, _, rfl, ItS.text false (by simp [ByteArray.size])⟩, (by repeat (first | exact Below.refl _ _ | assumption | with_reducible refine Below.drewN' ?_ _ | with_reducible refine Below.drew ?_ | ((with_reducible refine Below.alloc' ?_ ?_ _); · (first | omega | (simp <;> omega)))))⟩
    · have HX : Hid (R = .mk ⟨#[]⟩ true []) := Lib.hid HZZ.out
      clear hok IH HS hn HZZ
      go_enter Tryd.func21, Tryd.ntmps21
      go_wp2
      refine bodyPost_ret (v := .agg #[.string ⟨#[]⟩, .bool true, .slice none 0 0]) (by simp [results, Tryd.results21, go_sem]) rfl ?_
      rw [HX.out]
      exact ⟨⟨_, _, _, rfl, ItS.text true (by simp [ByteArray.size])⟩, (by repeat (first | exact Below.refl _ _ | assumption | with_reducible refine Below.drewN' ?_ _ | with_reducible refine Below.drew ?_ | ((with_reducible refine Below.alloc' ?_ ?_ _); · (first | omega | (simp <;> omega)))))⟩
    · obtain ⟨m, hm⟩ : ∃ m : Nat, ((l.length : Int) - ta).toNat = m := ⟨_, rfl⟩
      have HX : Hid (R = .mk ⟨#[]⟩ true (zeroL l m)) := Lib.hid (by rw [← hm]; exact HZZ.out)
      have hm2 : (m : Int) = (l.length : Int) - ta := by omega
      have HM2 := Lib.hid hm2
      have hm16 : m ≤ 16 := by omega
      have hml : m ≤ l.length := by omega
      clear hok HZZ hm
      go_enter Tryd.func21, Tryd.ntmps21
      go_wp2_with fail
      go_loopw [4] (fun i wr => ∃ (kk : Nat) (vv : Value), kk ≤ m ∧ i = .int .i64 kk ∧ Blk wr (w.heap.size + 2) 27 #[.string ⟨#[]⟩, .bool true, vv] ∧ Acc wr (w.heap.size + 3) (zeroL l kk) vv ∧ Blk wr (w.heap.size + 1) 27 #[.string ⟨#[]⟩, .bool false, .slice none 0 0] ∧ Blk wr w.heap.size 24 #[.int .i64 5, .int .i64 0, .slice A l.length cap, .int .i64 ta] ∧ Below w.heap.size w wr ∧ w.heap.size + 3 ≤ wr.heap.size) (fun i _ => m - (intOf i).toNat)
      case atStart =>
        have n1 := Blk.new w 24 #[.int .i64 5, .int .i64 0, .slice A l.length cap, .int .i64 ta]
        have n2 := Blk.new (w.alloc (.cells #[.int .i64 5, .int .i64 0, .slice A l.length cap, .int .i64 ta] 24)) 27 #[.string ⟨#[]⟩, .bool false, .slice none 0 0]
        have n3 := Blk.new ((w.alloc (.cells #[.int .i64 5, .int .i64 0, .slice A l.length cap, .int .i64 ta] 24)).alloc (.cells #[.string ⟨#[]⟩, .bool false, .slice none 0 0] 27)) 27 #[.string ⟨#[]⟩, .bool true, .slice none 0 0]
        rw [World.size_alloc] at n2
        rw [World.size_alloc, World.size_alloc] at n3
        exact ⟨0, .slice none 0 0, by omega, rfl, n3, by rw [zeroL_none]; exact Acc.nil _ _, n2.alloc _, (n1.alloc _).alloc _, (by repeat (first | exact Below.refl _ _ | assumption | with_reducible refine Below.drewN' ?_ _ | with_reducible refine Below.drew ?_ | ((with_reducible refine Below.alloc' ?_ ?_ _); · (first | omega | (simp <;> omega))))), by simp⟩
      case round =>
        obtain ⟨kk, vv, hkk, rfl, hbx, hacc, hbr, hbt, hb, hrz⟩ := hrel
        have HBX := Lib.hid hbx
        have HACC := Lib.hid hacc
        have HBR := Lib.hid hbr
        have HBT := Lib.hid hbt
        have HB := Lib.hid hb
        have hlen : (zeroL l kk).length = kk := zeroL_len (by omega)
        obtain ⟨A2, n2, cap2, rfl, hn2, hc3, hc4⟩ := hacc.form'
        obtain ⟨x0, x1, x2, xf0, xf1, xf2⟩ := blk3 hbx
        obtain ⟨r0, r1, r2, rf0, rf1, rf2⟩ := blk3 hbr
        obtain ⟨t0, t1, t2, t3, _⟩ := blk4 hbt
        have hbz := hb.size
        have hwr : IntKind.i64.wrap ((l.length : Int) - ta) = (l.length : Int) - ta := IntWalk.i64_in _ (by omega)
        by_cases hlt : kk < m
        · have hll : kk < l.length := by omega
          have hcond : decide ((kk : Int) < (l.length : Int) - ta) = true := decide_eq_true (by omega)
          obtain ⟨b, o, d0, d1, d2, d3, rfl, hbB, e0, e1, e2, e3, hi⟩ := HS.out.at_ kk hll
          simp only [Nat.zero_add] at e0 e1 e2 e3
          have hbB2 : Below B w wr := hb.mono hB
          obtain ⟨A4, cap4, rfl, rfl, rfl, rfl, _⟩ := hi.open_
          have HU : Hid (∀ V, Below wr.heap.size wr V → Below B w V ∧ wr.heap.size ≤ V.heap.size) := Lib.hid (fun V hV => ⟨hbB2.trans (hV.mono (by omega)), hV.size⟩)
          have HKP : Hid (∀ V, Below wr.heap.size wr V → V.cell? ⟨w.heap.size + 2, 0, none⟩ = some (.string ⟨#[]⟩) ∧ V.cell? ⟨w.heap.size + 2, 1, none⟩ = some (.bool true) ∧ V.cell? ⟨w.heap.size + 2, 2, none⟩ = some (.slice A2 n2 cap2) ∧ V.frozen? ⟨w.heap.size + 2, 2, none⟩ = false ∧
              V.cell? ⟨w.heap.size, 2, none⟩ = some (.slice (some ⟨b, o, none⟩) l.length cap) ∧
              V.cell? ⟨b, o + kk * 4, none⟩ = some (.int .i64 l[kk].kind) ∧ V.cell? ⟨b, o + kk * 4 + 1, none⟩ = some (.int .i64 l[kk].size) ∧ V.cell? ⟨b, o + kk * 4 + 2, none⟩ = some (.slice A4 l[kk].sub.length cap4) ∧ V.cell? ⟨b, o + kk * 4 + 3, none⟩ = some (.int .i64 l[kk].tail) ∧ w.heap.size + 2 < V.heap.size ∧ b < V.heap.size) := Lib.hid (fun V hV => by
            obtain ⟨h1, h2⟩ := HU.out V hV
            have k1 := HBX.out.keep hV (by omega)
            have k2 := HBT.out.keep hV (by omega)
            exact ⟨k1.cell 0, k1.cell 1, k1.cell 2, k1.frozen 2, k2.cell 2, (h1.cell (p := ⟨b, _, none⟩) hbB).trans e0, (h1.cell (p := ⟨b, _, none⟩) hbB).trans e1, (h1.cell (p := ⟨b, _, none⟩) hbB).trans e2, (h1.cell (p := ⟨b, _, none⟩) hbB).trans e3, by omega, by omega⟩)
          have HCZ : Hid (∀ V, Below wr.heap.size wr V → Calls Tryd.prog 21 #[.agg #[.int .i64 l[kk].kind, .int .i64 l[kk].size, .slice A4 l[kk].sub.length cap4, .int .i64 l[kk].tail]] V fun e w' => (∃ c0 c1 c2, e = .returned (.agg #[c0, c1, c2]) ∧ ItS w' (wr.heap.size ≤ ·) l[kk].zero c0 c1 c2) ∧ Below wr.heap.size wr w') := Lib.hid (fun V hV => by
            obtain ⟨h1, h2⟩ := HU.out V hV
            refine (IH.out _ (List.getElem_mem hll) B V _ _ _ _ (hi.below h1) (by omega) (rightT_at HRT.out kk hll)).mono ?_
            rintro e w' ⟨⟨c0, c1, c2, rfl, hit⟩, hx⟩
            refine ⟨⟨c0, c1, c2, rfl, hit.weak fun k _ hk => ?_⟩, hV.trans (hx.mono (by omega))⟩
            have hk : V.heap.size ≤ k := hk
            show wr.heap.size ≤ k
            omega)
          have HN : Hid (zeroL l (kk + 1) = zeroL l kk ++ [l[kk].zero]) := Lib.hid (zeroL_succ hll)
          have HLN := Lib.hid hlen
          have HNO : Hid ((Value.slice A2 n2 cap2).ownBlock ≠ some (w.heap.size + 2)) := Lib.hid (fun e => by have := (HACC.out.ge _ e).1; omega)
          have HHZ := Lib.hid (And.intro hbz hrz)
          have hv0 : Below wr.heap.size wr wr := Below.refl _ _
          clear hbx hacc hbr hbt hb hi hbB2 hlen
          go_wp2_with fail
          clear x0 x1 x2 xf2 t2 e0 e1 e2 e3
          obtain ⟨x0, x1, x2, xf2, t2, e0, e1, e2, e3, hlx, hlb⟩ := HKP.out wr hv0
          have j0 : (kk : Int) < (l.length : Int) := by omega
          go_region_law (first
            | (refine step_append_item (by rfl) (.tmp 31) (.tmp 38) (by rfl) (w.heap.size + 3) (zeroL l kk) (by rfl) (HAC4.out _) l[kk].zero (HYS.out _) _ (by rfl) (by simp) (by simp) (by simp) (by have := HLN.out; omega) (by simp; omega) ?_; intro g' n' cap' w5 hn' hacc5 hgr hlo5; have HX5 := Lib.hid (((HBX.out.keep HV4.out (by omega)).alloc _).grown hgr HNO.out); obtain ⟨z0, z1, z2, zf0, zf1, zf2⟩ := blk3 HX5.out; have HG5 := Lib.hid hgr; have HA5 := Lib.hid hacc5; clear hgr hacc5)
            | (go_simp; go_at_call 21; refine (HCZ.out _ (by first | exact hv0 | exact hv0.drew | assumption)).mono ?_; rintro e w4 ⟨⟨y0, y1, y2, rfl, hit⟩, hv⟩; obtain ⟨x0', x1', x2', xf2', t2', e0', e1', e2', e3', hlx', hlb'⟩ := HKP.out w4 hv; have HAC4 := Lib.hid (fun o => (HACC.out.keep (fun k hk hk2 => (hv.block k hk2)) : Acc w4 (w.heap.size + 3) (zeroL l kk) (.slice A2 n2 cap2)).below ((Below.refl _ _).alloc (Nat.le_refl _) o)); have HIT := Lib.hid hit; obtain ⟨AA, ccap, rfl, rfl, rfl, _⟩ := hit.open_; have HYS := Lib.hid (fun o => ItS.keep (S' := fun k => w.heap.size + 3 ≤ k ∧ (Value.slice A2 n2 cap2).ownBlock ≠ some k) (w' := w4.alloc o) (fun k _ hS => ⟨by have hS : wr.heap.size ≤ k := hS; omega, fun e => by have hS : wr.heap.size ≤ k := hS; have := (HACC.out.ge k e).2; omega⟩) (fun q hq _ => World.cell?_alloc_lt _ _ _ hq) _ HIT.out); have hvz := hv.size; have HV4 := Lib.hid hv; clear hit hv))
          all_goals
            have hHZ := HHZ.out
            have hge := HACC.out.ge
            have HBF : Hid (Below w.heap.size w w5) := Lib.hid (((HB.out.trans (HV4.out.mono (by omega))).alloc (by omega) _).grown HG5.out (by simp; omega) (fun k hk => by have := (hge k hk).1; omega))
            have HRF : Hid (Blk w5 (w.heap.size + 1) 27 #[.string ⟨#[]⟩, .bool false, .slice none 0 0]) := Lib.hid (((HBR.out.keep HV4.out (by omega)).alloc _).grown HG5.out (fun e => by have := (hge _ e).1; omega))
            have HTF : Hid (Blk w5 w.heap.size 24 #[.int .i64 5, .int .i64 0, .slice (some ⟨b, o, none⟩) l.length cap, .int .i64 ta]) := Lib.hid (((HBT.out.keep HV4.out (by omega)).alloc _).grown HG5.out (fun e => by have := (hge _ e).1; omega))
            have hz5 := HG5.out.size
            simp only [World.size_alloc] at hz5
            have HZ5 : Hid (w.heap.size + 3 ≤ w5.heap.size) := Lib.hid (by omega)
            clear hHZ hge hz5
            go_wp2
            go_roundw
            case rel =>
              have hzz := HZ5.out
              have key : ∃ (k2 : Nat) (vv : Value), k2 ≤ m ∧ Value.int .i64 ((kk : Int) + 1) = .int .i64 k2 ∧ Blk (w5.setCell ⟨w.heap.size + 2, 2, none⟩ (.slice (some ⟨g', 0, none⟩) n' cap')) (w.heap.size + 2) 27 #[.string ⟨#[]⟩, .bool true, vv] ∧ Acc (w5.setCell ⟨w.heap.size + 2, 2, none⟩ (.slice (some ⟨g', 0, none⟩) n' cap')) (w.heap.size + 3) (zeroL l k2) vv ∧ Blk (w5.setCell ⟨w.heap.size + 2, 2, none⟩ (.slice (some ⟨g', 0, none⟩) n' cap')) (w.heap.size + 1) 27 #[.string ⟨#[]⟩, .bool false, .slice none 0 0] ∧ Blk (w5.setCell ⟨w.heap.size + 2, 2, none⟩ (.slice (some ⟨g', 0, none⟩) n' cap')) w.heap.size 24 #[.int .i64 5, .int .i64 0, .slice (some ⟨b, o, none⟩) l.length cap, .int .i64 ta] ∧ Below w.heap.size w (w5.setCell ⟨w.heap.size + 2, 2, none⟩ (.slice (some ⟨g', 0, none⟩) n' cap')) ∧ w.heap.size + 3 ≤ (w5.setCell ⟨w.heap.size + 2, 2, none⟩ (.slice (some ⟨g', 0, none⟩) n' cap')).heap.size := by
                refine ⟨kk + 1, .slice (some ⟨g', 0, none⟩) n' cap', by omega, by go_num, HX5.out.store rfl, ?_, HRF.out.far (by simp) _, HTF.out.far (by simp) _, HBF.out.setCell (by simp) _, by simp [World.setCell]; omega⟩
                rw [HN.out]
                exact HA5.out.only ((Only.refl [w.heap.size + 2] w5).setCell (p := ⟨w.heap.size + 2, 2, none⟩) (by simp) _) (by simp)
              first | exact key | ((repeat apply Exists.intro); exact ⟨key, rfl⟩)
            case measure => simp [intOf]; omega
        · have hkm : kk = m := by omega
          have hcond : decide ((kk : Int) < (l.length : Int) - ta) = false := decide_eq_false (by omega)
          have HE : Hid (R = .mk ⟨#[]⟩ true (zeroL l kk)) := Lib.hid (by rw [HX.out, hkm])
          go_wp2
          refine bodyPost_ret (v := .agg #[.string ⟨#[]⟩, .bool true, .slice A2 n2 cap2]) (by simp [results, Tryd.results21, go_sem, r0, r1, r2]) rfl ?_
          rw [HE.out]
          refine ⟨⟨_, _, _, rfl, ?_⟩, ((HB.out.setCell (by simp) _).setCell (by simp) _).setCell (by simp) _⟩
          have ha3 : Acc _ (w.heap.size + 3) (zeroL l kk) (.slice A2 n2 cap2) := HACC.out.only (L := [w.heap.size + 1]) (w' := ((wr.setCell ⟨w.heap.size + 1, 0, none⟩ (.string ⟨#[]⟩)).setCell ⟨w.heap.size + 1, 1, none⟩ (.bool true)).setCell ⟨w.heap.size + 1, 2, none⟩ (.slice A2 n2 cap2)) ((((Only.refl _ _).setCell (by simp) _).setCell (by simp) _).setCell (by simp) _) (by simp)
          exact (ha3.list (by omega)).weak fun k _ hk => by
            have hk : w.heap.size + 3 ≤ k := hk
            show w.heap.size ≤ k
            omega
end Go.Proofs.YtmcdgmepheibkaaDoor
