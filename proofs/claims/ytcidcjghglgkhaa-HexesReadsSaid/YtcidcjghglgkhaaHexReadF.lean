/- hexes.Read. -/
import Derived.Test.YtcidcjghglgkhaaHexRead
namespace Go.Proofs.Ytcidcjghglgkhaa
set_option linter.unusedVariables false
set_option linter.unusedSimpArgs false
open Go.RowKit Go.Shelf
attribute [local go_sem] Oper.semAt_some

/-- What the pieces so far have told. -/
def rdStep (t : List UInt8) (st : Option (List UInt8)) (j : Nat) : Option (List UInt8) := st.bind fun out => (lnOf out.length (piece t 75 j)).map (out ++ ·)
def rdF (t : List UInt8) (pre : List Nat) : Option (List UInt8) := pre.foldl (rdStep t) (some [])
theorem rdF_snoc (t : List UInt8) (pre : List Nat) (j : Nat) : rdF t (pre ++ [j]) = rdStep t (rdF t pre) j := by simp [rdF]
theorem rdF_len (t : List UInt8) (pre : List Nat) : ∀ st out, pre.foldl (rdStep t) st = some out → ∃ o, st = some o ∧ out.length ≤ o.length + 16 * pre.length := by
  induction pre with
  | nil => intro st out h; exact ⟨out, h, by omega⟩
  | cons j pre ih =>
    intro st out h
    obtain ⟨o, h1, h2⟩ := ih _ _ h
    cases st with
    | none => simp [rdStep] at h1
    | some s =>
      refine ⟨s, rfl, ?_⟩
      simp only [rdStep, Option.bind_some] at h1
      obtain ⟨bs, hb, rfl⟩ := Option.map_eq_some_iff.1 h1
      have h3 := congrArg List.length (lnOf_some hb).1
      rw [lineL_length] at h3
      have h4 : (piece t 75 j).length ≤ 75 := by simp [piece]; omega
      rw [List.length_append] at h2
      rw [List.length_cons]
      omega
theorem rdF_bound {t : List UInt8} {pre : List Nat} {out : List UInt8} (h : rdF t pre = some out) : out.length ≤ 16 * pre.length := by
  obtain ⟨o, h1, h2⟩ := rdF_len t pre _ _ h
  injection h1 with h1
  subst h1
  simpa using h2
theorem rdF_at (t : List UInt8) (k : Nat) (h : k ≤ nCh t.length 75) : rdL 0 t = (rdF t (List.range k)).bind fun out => (rdL out.length (t.drop (75 * k))).map (out ++ ·) := by
  induction k with
  | zero => simp [rdF]
  | succ k ih =>
    have hk := (nCh_lt t.length 75 k (by omega)).1 (by omega)
    rw [ih (by omega), List.range_succ, rdF_snoc]
    cases rdF t (List.range k) with
    | none => rfl
    | some out =>
      simp only [Option.bind_some, rdStep]
      have hne : t.drop (75 * k) ≠ [] := fun e => by have := congrArg List.length e; rw [List.length_drop, List.length_nil] at this; omega
      have hp : piece t 75 k = (t.drop (75 * k)).take 75 := by rw [piece, Nat.mul_comm k 75]
      rw [hp]
      cases hl : lnOf out.length ((t.drop (75 * k)).take 75) with
      | none => rw [rdL_none hne hl]; rfl
      | some bs =>
        rw [rdL_some hne hl, List.drop_drop, show 75 * (k + 1) = 75 * k + 75 from by omega]
        simp only [Option.map_some, Option.bind_some, List.length_append]
        cases rdL (out.length + bs.length) (t.drop (75 * k + 75)) <;> simp
theorem rdF_none (t : List UInt8) (k : Nat) (h : k ≤ nCh t.length 75) (hn : rdF t (List.range k) = none) : rdL 0 t = none := by rw [rdF_at t k h, hn]; rfl
theorem rdF_all (t : List UInt8) : rdL 0 t = rdF t (List.range (nCh t.length 75)) := by
  rw [rdF_at t _ (Nat.le_refl _)]
  have hn := nCh_lt t.length 75 (nCh t.length 75) (by omega)
  cases rdF t (List.range (nCh t.length 75)) with
  | none => rfl
  | some out => rw [Option.bind_some, List.drop_eq_nil_of_le (by omega), rdL_nil]; simp
/-- Between two rounds of Read. -/
structure RdBase (l : List UInt8) (w : World) (W : World) : Prop where
  fn : Blk W (w.heap.size + 3) 106 #[.func (.func 70) #[] #[.pointer (some ⟨w.heap.size + 2, 0, none⟩)]]
  row : RdAt W (w.heap.size + 4) 0 l
  below : Below w.heap.size w W
  size : w.heap.size + 7 ≤ W.heap.size
structure RdInv (l : List UInt8) (w : World) (pre : List Nat) (W : World) : Prop where
  base : RdBase l w W
  out : ∃ out v, rdF l pre = some out ∧ Blk W (w.heap.size + 2) 80 #[v] ∧ Buf W (w.heap.size + 7) 5 v out
  r0 : ∃ v, Blk W w.heap.size 9 #[.string v]
  r1 : ∃ v, Blk W (w.heap.size + 1) 39 #[.int .i64 v]
/-- A round has left. -/
structure RdOut (l : List UInt8) (w : World) (c : Code) (pre : List Nat) (W : World) : Prop where
  ret : c = .ret
  no : rdF l pre = none
  r0 : Blk W w.heap.size 9 #[.string ⟨#[]⟩]
  r1 : Blk W (w.heap.size + 1) 39 #[.int .i64 3]
  below : Below w.heap.size w W
  size : w.heap.size + 7 ≤ W.heap.size
theorem grown_below {B : Nat} {W W' : World} {row : Option Nat} (hg : W.grownBy W' row) (hB : B ≤ W.heap.size) (hr : ∀ r, row = some r → B ≤ r) : Below B W W' :=
  ⟨hg.os, hg.tape, hg.output, hg.size, fun k hk => hg.block k (by omega) (fun e => by have := hr k e.symm; omega)⟩
theorem RdInv.grown {l : List UInt8} {w W W' : World} {pre : List Nat} {row : Option Nat} (h : RdInv l w pre W) (hg : W.grownBy W' row) (hr : ∀ r, row = some r → w.heap.size + 7 ≤ r ∧ ∃ o : Obj, W.heap[r]? = some o ∧ o.isCells = false) : RdInv l w pre W' := by
  have hs := h.base.size
  have hB := grown_below hg hs (fun r e => (hr r e).1)
  obtain ⟨out, v, h1, h2, h3⟩ := h.out
  obtain ⟨v0, h4⟩ := h.r0
  obtain ⟨v1, h5⟩ := h.r1
  exact ⟨⟨h.base.fn.keep hB (by omega), h.base.row.below hB (by omega), h.base.below.trans (hB.mono (by omega)), Nat.le_trans hs hg.size⟩, ⟨out, v, h1, h2.keep hB (by omega), h3.grown hg (fun r e => (hr r e).2)⟩, ⟨v0, h4.keep hB (by omega)⟩, ⟨v1, h5.keep hB (by omega)⟩⟩
theorem RdOut.grown {l : List UInt8} {w W W' : World} {c : Code} {pre : List Nat} {row : Option Nat} (h : RdOut l w c pre W) (hg : W.grownBy W' row) (hr : ∀ r, row = some r → w.heap.size + 7 ≤ r) : RdOut l w c pre W' := by
  have hs := h.size
  have hB := grown_below hg hs hr
  exact ⟨h.ret, h.no, h.r0.keep hB (by omega), h.r1.keep hB (by omega), h.below.trans (hB.mono (by omega)), Nat.le_trans hs hg.size⟩
set_option maxRecDepth 100000 in
set_option maxHeartbeats 1600000 in
theorem read27_c (s : ByteArray) (w : World) (hs : s.size ≤ 50000) :
    Calls Try.prog 39 #[.string s] w fun e w' => e = bytEnd (rdL 0 s.data.toList) ∧ Below w.heap.size w w' := by
  refine (callsIn_wide (n := 5)).1 ?_
  refine callsIn_of_wp_marks Try.func39 rfl trivial ?_ rfl
  simp only [Try.ntmps39, List.size_toArray, List.length_cons, List.length_nil, Nat.reduceAdd, Nat.reduceSub, Array.replicate_succ, Array.replicate_zero, List.push_toArray, List.append_toArray, List.nil_append, List.cons_append]
  have kc := fun (w : World) (s : ByteArray) => Lib.run_convert_string_bytes (P := Try.prog) w 9 80 5 s Try.underlying9 Try.underlying80 Try.underlying5
  gi_wp2_with fail
  obtain ⟨wf, hwf⟩ : ∃ wf, (((w.alloc (.cells #[.string ⟨#[]⟩] 9)).alloc (.cells #[.int .i64 0] 39)).alloc (.cells #[.slice none 0 0] 80)).alloc (.cells #[.func (.func 70) #[] #[.pointer (some ⟨w.heap.size + 1 + 1, 0, none⟩)]] 106) = wf := ⟨_, rfl⟩
  have hzf : wf.heap.size = w.heap.size + 4 := by rw [← hwf]; simp
  have hbf : Below w.heap.size w wf := by rw [← hwf]; exact ((((Below.refl _ w).alloc (Nat.le_refl _) _).alloc (by simp) _).alloc (by simp; omega) _).alloc (by simp; omega) _
  have k0 : Blk wf w.heap.size 9 #[.string ⟨#[]⟩] := by rw [← hwf]; exact (((Blk.new w _ _).alloc _).alloc _).alloc _
  have k1 : Blk wf (w.heap.size + 1) 39 #[.int .i64 0] := by
    rw [← hwf]
    have := Blk.new (w.alloc (.cells #[.string ⟨#[]⟩] 9)) 39 #[.int .i64 0]
    rw [World.size_alloc] at this
    exact (this.alloc _).alloc _
  have k2 : Blk wf (w.heap.size + 2) 80 #[.slice none 0 0] := by
    rw [← hwf]
    have := Blk.new ((w.alloc (.cells #[.string ⟨#[]⟩] 9)).alloc (.cells #[.int .i64 0] 39)) 80 #[.slice none 0 0]
    rw [World.size_alloc, World.size_alloc] at this
    exact this.alloc _
  have k3 : Blk wf (w.heap.size + 3) 106 #[.func (.func 70) #[] #[.pointer (some ⟨w.heap.size + 2, 0, none⟩)]] := by
    rw [← hwf]
    have := Blk.new (((w.alloc (.cells #[.string ⟨#[]⟩] 9)).alloc (.cells #[.int .i64 0] 39)).alloc (.cells #[.slice none 0 0] 80)) 106 #[.func (.func 70) #[] #[.pointer (some ⟨w.heap.size + 1 + 1, 0, none⟩)]]
    rw [World.size_alloc, World.size_alloc, World.size_alloc] at this
    exact this
  rw [hwf]
  obtain ⟨cap, hcap⟩ : ∃ cap, grownCap wf s.size 0 5 = cap := ⟨_, rfl⟩
  have hbuf0 := Buf.conv wf 0 5 s (Nat.zero_le _) (by omega)
  have hz0 : (Lib.bytesWorld wf 5 s).heap.size = w.heap.size + 5 := by rw [Lib.bytesWorld_size, hzf]
  have hbw := Lib.bytesWorld_below wf 5 s
  rw [hcap] at hbuf0 ⊢
  rw [hzf] at hbuf0
  clear hwf hcap
  generalize Lib.bytesWorld wf 5 s = w1 at *
  refine ⟨trivial, (callsIn_wide.2 (chunk_c _ 75 w1 (by omega) (by omega) _ _ _ rfl)).mono ?_⟩
  rintro e w2 ⟨rfl, rfl⟩
  rw [hz0]
  gi_wp2_with fail
  obtain ⟨W0, hW0⟩ : ∃ W0, (w1.alloc (.cells #[.slice (some ⟨w.heap.size + 1 + 1 + 1 + 1, 0, none⟩) s.size cap] 80)).alloc (.cells #[.int .i64 75] 3) = W0 := ⟨_, rfl⟩
  have hzW : W0.heap.size = w.heap.size + 7 := by rw [← hW0]; simp [hz0]
  have hB0 : Blk W0 (w.heap.size + 5) 80 #[.slice (some ⟨w.heap.size + 4, 0, none⟩) s.size cap] := by
    rw [← hW0, ← hz0]; exact (Blk.new w1 _ _).alloc _
  have hB1 : Blk W0 (w.heap.size + 5 + 1) 3 #[.int .i64 (75 : Nat)] := by
    rw [← hW0, ← hz0]; have := Blk.new (w1.alloc (.cells #[.slice (some ⟨w.heap.size + 1 + 1 + 1 + 1, 0, none⟩) s.size cap] 80)) 3 #[.int .i64 75]; simpa using this
  have hw1 : Below w1.heap.size w1 W0 := by rw [← hW0]; exact (((Below.refl _ w1).alloc (Nat.le_refl _) _).alloc (by simp) _)
  have hfW : Below wf.heap.size wf W0 := hbw.trans (hw1.mono (by omega))
  rw [hW0]
  refine wpIn_rangeFunc_ownF rfl (by omega) (gf := 83) (lb := #[.pointer (some ⟨w.heap.size + 5, 0, none⟩), .pointer (some ⟨w.heap.size + 5 + 1, 0, none⟩)]) rfl trivial (enters_of Try.func83 (by kernel_rfl) rfl)
    (chunk_stops _ (w.heap.size + 5) (w.heap.size + 4) s.size cap 75 W0 (by omega) (by omega) (by omega) (by have := hbuf0.len; omega) (by have := hbuf0.len; omega) hB0 hB1) (fun h k => h.trans k) ?kb (Below.refl _ _) (fun _ => rfl) (RdInv s.data.toList w) (RdOut s.data.toList w) ?hI ?hIx ?h0 ?a1 ?assign ?body ?done ?stop
  case kb => exact fun W l o o' hl h _ _ => KeepB.below (belowK_b (n₀ := W0.heap.size) (Nat.le_refl _) W l o o' hl h ‹_› ‹_›) (by omega)
  case hI => exact fun pre W W' row hs hg hr => hs.grown hg (fun r e => by have := hr r e; rw [hzW] at this; exact this)
  case hIx => exact fun c pre W W' row hs hg hr => hs.grown hg (fun r e => by have := (hr r e).1; rw [hzW] at this; exact this)
  case h0 =>
    refine ⟨⟨k3.keep hfW (by omega), ⟨by omega, fun j hj => ?_⟩, hbf.trans (hfW.mono (by omega)), by omega⟩, ⟨[], _, rfl, k2.keep hfW (by omega), Buf.nil _ _ _⟩, ⟨_, k0.keep hfW (by omega)⟩, ⟨_, k1.keep hfW (by omega)⟩⟩
    have := (hbuf0.at_ (k := j) hj).1
    rw [List.getD_eq_getElem?_getD, List.getElem?_eq_getElem hj] at this
    rw [Nat.zero_add]
    exact (hw1.cell (p := ⟨w.heap.size + 4, j, none⟩) (by simp; omega)).trans this
  case a1 => exact fun x => { tmps := #[.string s, undef, .pointer (some ⟨w.heap.size, 0, none⟩), .pointer (some ⟨w.heap.size + 1, 0, none⟩), .pointer (some ⟨w.heap.size + 1 + 1, 0, none⟩), .pointer (some ⟨w.heap.size + 1 + 1 + 1, 0, none⟩), .slice (some ⟨w.heap.size + 4, x * 75, none⟩) (lenCh s.size 75 x) (lenCh s.size 75 x), .func (.func 70) #[] #[.pointer (some ⟨w.heap.size + 1 + 1, 0, none⟩)], .string s, .slice (some ⟨w.heap.size + 1 + 1 + 1 + 1, 0, none⟩) s.size cap, .func (.func 83) #[] #[.pointer (some ⟨w.heap.size + 5, 0, none⟩), .pointer (some ⟨w.heap.size + 5 + 1, 0, none⟩)], .slice (some ⟨w.heap.size + 4, x * 75, none⟩) (lenCh s.size 75 x) (lenCh s.size 75 x), undef, undef, undef, undef, undef, undef], defers := [] }
  case assign =>
    intro l x W K hK
    simp only [encCh]
    gi_wp2
    exact hK
  case stop =>
    rintro D c pre W hD ⟨k, hk, rfl⟩ hX hK
    obtain rfl := hX.ret
    have HN : Hid (rdL 0 s.data.toList = none) := Lib.hid (rdF_none _ k (by rw [toList_size]; exact hk) hX.no)
    have hDd : w.heap.size + 7 ≤ D := by omega
    have hb9 := belowK_b (w := W0) (n₀ := w.heap.size + 7) (by omega) W D _ (.deferred none) hD hK rfl rfl
    have b0 : _ = some (Value.string ⟨#[]⟩) := (hX.r0.keep hb9 (by omega)).cell 0
    have b1 : _ = some (Value.int .i64 3) := (hX.r1.keep hb9 (by omega)).cell 0
    gi_wp2
    refine ⟨by simp, .inl ⟨_, _, rfl, run_takeDeferred hK, ?_⟩⟩
    refine ⟨.tuple #[.string ⟨#[]⟩, .int .i64 3], ?_, ?_, ?_⟩
    · clear hK hb9 hX
      generalize W.putObj D (.deferred none) = U at *
      simp [results, Try.results39, go_sem, b0, b1]
    · rw [HN.out]; rfl
    · exact hX.below.trans (hb9.mono (by omega))
  case body =>
    intro l pre x W hI hlen
    have hn := nCh_le s.size 75 (by omega)
    have hpl : (piece s.data.toList 75 x).length = lenCh s.size 75 x := by rw [piece_length, toList_size]
    have hl75 : lenCh s.size 75 x ≤ 75 := by unfold lenCh; omega
    obtain ⟨hBs, ⟨out, v, hout, hblk, hbuf⟩, ⟨v0, hr0⟩, ⟨v1, hr1⟩⟩ := hI
    have hob := rdF_bound hout
    have c3 : W.cell? ⟨w.heap.size + 3, 0, none⟩ = some (.func (.func 70) #[] #[.pointer (some ⟨w.heap.size + 2, 0, none⟩)]) := hBs.fn.cell 0
    have hsz := hBs.size
    have hR := reads_c (w.heap.size + 2) (w.heap.size + 7) (w.heap.size + 4) (x * 75) (lenCh s.size 75 x) (piece s.data.toList 75 x) out v W hblk hbuf (by omega) (hBs.row.piece 75 x) (by omega) (by omega) hsz (by omega) (by omega) (by omega) (by omega)
    rw [hpl] at hR
    have HR := Lib.hid hR
    have HBs := Lib.hid hBs
    clear hR hBs
    have HSN : Hid (rdF s.data.toList (pre ++ [x]) = (lnOf out.length (piece s.data.toList 75 x)).map (out ++ ·)) := Lib.hid (by rw [rdF_snoc, hout]; rfl)
    have HBK := Lib.hid hblk
    have HR0 := Lib.hid hr0
    have HR1 := Lib.hid hr1
    clear hout hblk hbuf hr0 hr1
    gi_wp2_with fail
    refine ⟨trivial, (CallsIn.inRound l (callsIn_wide.2 HR.out)).mono ?_⟩
    rintro e W1 ⟨hk1, he⟩
    have hz1 := hk1.size
    have hbl : Below w.heap.size W W1 := hk1.below (by omega) (by omega)
    have HKO : Hid (KeepsOthers W W1) := Lib.hid (hk1.others ⟨_, _, _, HBK.out⟩)
    have HKP : Hid (KeepB (w.heap.size + 5) W W1) := Lib.hid ⟨hk1.block _ (by omega) (by omega), hk1.block _ (by omega) (by omega)⟩
    have HBL : Hid (Below w.heap.size w W1) := Lib.hid (HBs.out.below.trans hbl)
    have HB0 : Hid (Blk W1 w.heap.size 9 #[.string v0]) := Lib.hid (hk1.blk HR0.out (by omega) (by decide))
    have HB1 : Hid (Blk W1 (w.heap.size + 1) 39 #[.int .i64 v1]) := Lib.hid (hk1.blk HR1.out (by omega) (by decide))
    cases hL : lnOf out.length (piece s.data.toList 75 x) with
    | some bs =>
      rw [hL] at he HSN
      obtain ⟨rfl, v', hblk', hbuf'⟩ := he
      have HF : Hid (RdInv s.data.toList w (pre ++ [x]) W1) := Lib.hid ⟨⟨hk1.blk HBs.out.fn (by omega) (by decide), ⟨by omega, fun j hj => (World.cell?_of_block (hk1.block (w.heap.size + 4) (by omega) (by omega))).trans (HBs.out.row.2 j hj)⟩, HBL.out, by omega⟩, ⟨_, v', HSN.out, hblk', hbuf'⟩, ⟨_, HB0.out⟩, ⟨_, HB1.out⟩⟩
      clear hk1 hbl hblk' hbuf' hL
      gi_wp2
      exact ⟨HKO.out, HKP.out, HF.out⟩
    | none =>
      rw [hL] at he HSN
      have he : e = .returned (.bool false) := he
      subst he
      have f0 := HB0.out.frozen 0
      have f1 := HB1.out.frozen 0
      have d0 : W1.cell? ⟨w.heap.size, 0, none⟩ = some (.string v0) := HB0.out.cell 0
      have d1 : W1.cell? ⟨w.heap.size + 1, 0, none⟩ = some (.int .i64 v1) := HB1.out.cell 0
      have HF : Hid (RdOut s.data.toList w .ret (pre ++ [x]) ((W1.setCell ⟨w.heap.size, 0, none⟩ (.string ⟨#[]⟩)).setCell ⟨w.heap.size + 1, 0, none⟩ (.int .i64 3))) := Lib.hid ⟨rfl, HSN.out, (HB0.out.set 0 _).far (by simp) _, (HB1.out.far (by simp) _).set 0 _, (HBL.out.setCell (p := ⟨w.heap.size, 0, none⟩) (by simp) _).setCell (p := ⟨w.heap.size + 1, 0, none⟩) (by simp) _, by simp [World.setCell]; omega⟩
      clear hk1 hbl hL
      gi_wp2
      exact ⟨(HKO.out.trans (KeepsOthers.setCell _ _ _)).trans (KeepsOthers.setCell _ _ _), HF.out⟩
  case done =>
    rintro D ys W hD rfl hI hK
    obtain ⟨hBs, ⟨out, v, hout, hblk, hbuf⟩, ⟨v0, hr0⟩, ⟨v1, hr1⟩⟩ := hI
    have HN : Hid (rdL 0 s.data.toList = some out) := Lib.hid (by rw [rdF_all, toList_size]; exact hout)
    obtain ⟨A, n, c, rfl, hn, hnc, hcm⟩ := hbuf.form'
    have hst := hbuf.str' (P := Try.prog) Try.underlying80 Try.underlying5 Try.underlying9
    obtain ⟨X, HX⟩ : ∃ X, Hid ((⟨out.toArray⟩ : ByteArray) = X) := ⟨_, Lib.hid rfl⟩
    rw [HX.out] at hst
    have c2 : W.cell? ⟨w.heap.size + 2, 0, none⟩ = some (.slice A n c) := hblk.cell 0
    have f0 := hr0.frozen 0
    have f1 := hr1.frozen 0
    have d0 : W.cell? ⟨w.heap.size, 0, none⟩ = some (.string v0) := hr0.cell 0
    have d1 : W.cell? ⟨w.heap.size + 1, 0, none⟩ = some (.int .i64 v1) := hr1.cell 0
    have HR0 := Lib.hid hr0
    have HR1 := Lib.hid hr1
    have HBs := Lib.hid hBs
    clear hbuf hblk hout hr0 hr1 hBs
    gi_wp2
    obtain ⟨V, hV⟩ : ∃ V, (W.setCell ⟨w.heap.size, 0, none⟩ (.string X)).setCell ⟨w.heap.size + 1, 0, none⟩ (.int .i64 0) = V := ⟨_, rfl⟩
    have g0 : Blk V w.heap.size 9 #[.string X] := by rw [← hV]; exact (HR0.out.set 0 _).far (by simp) _
    have g1 : Blk V (w.heap.size + 1) 39 #[.int .i64 0] := by rw [← hV]; exact (HR1.out.far (by simp) _).set 0 _
    have hKV : V.heap[D]? = some (.deferred (some [])) := by rw [← hV]; exact (KeepsOthers.setCell _ _ _).same D _ ((KeepsOthers.setCell _ _ _).same D _ hK rfl) rfl
    have hBV : Below w.heap.size w V := by rw [← hV]; exact (HBs.out.below.setCell (p := ⟨w.heap.size, 0, none⟩) (by simp) _).setCell (p := ⟨w.heap.size + 1, 0, none⟩) (by simp) _
    have hzV : w.heap.size + 7 ≤ V.heap.size := by have := HBs.out.size; rw [← hV]; simp [World.setCell]; omega
    rw [hV]
    have hb9 := belowK_b (w := W0) (n₀ := w.heap.size + 7) (by omega) V D _ (.deferred none) hD hKV rfl rfl
    have b0 : _ = some (Value.string X) := (g0.keep hb9 (by omega)).cell 0
    have b1 : _ = some (Value.int .i64 0) := (g1.keep hb9 (by omega)).cell 0
    refine ⟨by simp, .inl ⟨_, _, rfl, run_takeDeferred hKV, ?_⟩⟩
    refine ⟨.tuple #[.string X, .int .i64 0], ?_, ?_, ?_⟩
    · clear hKV hb9 hK
      generalize V.putObj D (.deferred none) = U at *
      simp [results, Try.results39, go_sem, b0, b1]
    · rw [HN.out, bytEnd, HX.out]
    · exact hBV.trans (hb9.mono (by omega))
end Go.Proofs.Ytcidcjghglgkhaa
