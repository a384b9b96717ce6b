/- hatchwaylaw13.CommandTurned: a name's bytes with one of them turned are another name's, or none; cut or longer they are none. -/
import Derived.Test.YthbechmkjhkipaaDoorCommandPuts
import Derived.Test.YthbechmkjhkipaaDoorWords2
import Derived.OpenShut
namespace Go.Proofs.YthbechmkjhkipaaDoor
set_option linter.unusedVariables false
set_option linter.unusedSimpArgs false
open Go.RowKit

/-- The bytes with the one at k set. -/
def setB (p : ByteArray) (k : Nat) (b : UInt8) : ByteArray := ⟨(p.data.toList.set k b).toArray⟩
theorem setB_size (p : ByteArray) (k : Nat) (b : UInt8) : (setB p k b).size = p.size := by rw [setB, size_of]; simp
theorem setB_ne (p : ByteArray) (k : Nat) (b : UInt8) (h : k < p.size) (hb : b ≠ p[k]) : setB p k b ≠ p := by
  intro e
  have h1 := congrArg (fun q : ByteArray => q.data.toList[k]?) e
  simp only [setB] at h1
  rw [byte_at p k h] at h1
  simp [h] at h1
  exact hb h1
/-- What the walk leaves of 'b[k] + 1 + by%255', as a byte. -/
def turnB (b by_ : Nat) : UInt8 := ub ((b + 1) % 256 + by_ % 255 : Nat)
theorem turnB_val (b by_ : Nat) (hb : b < 256) : ((b : Int) + 1 + (by_ : Int) % 255) % 256 = ((turnB b by_).toNat : Int) := by
  simp [turnB, ub]
  omega
theorem turnB_ne (b : UInt8) (by_ : Nat) : turnB b.toNat by_ ≠ b := by
  intro e
  have h := congrArg UInt8.toNat e
  have hb := b.toNat_lt
  simp only [turnB, ub, Int.toNat_natCast] at h
  simp at h
  omega
/-- Facts of the world behind '[]byte(p)'. -/
theorem bw_str (w : World) (p : ByteArray) (cap k : Nat) (hk : k ≤ p.size) :
    (convert 28 9 (.slice (some ⟨w.heap.size, 0, none⟩) k cap)).run Tryd.prog (Lib.bytesWorld w 5 p) = .ok (.string (p.extract 0 k)) (Lib.bytesWorld w 5 p) := by
  have hl : (p.data.toList.take k).length = k := length_take p k hk
  have := run_str (P := Tryd.prog) (Lib.bytesWorld w 5 p) 28 9 5 Tryd.underlying28 Tryd.underlying5 Tryd.underlying9 ⟨w.heap.size, 0, none⟩ cap (p.data.toList.take k) (fun j u hu => by
    refine bw_cells w 5 p j u ?_
    rw [cb_take] at hu
    rw [List.getElem?_take] at hu
    split at hu
    · exact hu
    · cases hu)
  rw [hl] at this
  have e2 : (⟨(p.data.toList.take k).toArray⟩ : ByteArray) = p.extract 0 k := bytes_ext (by rw [toList_cut]; simp)
  rw [e2] at this
  exact this
theorem bw_frozen (w : World) (p : ByteArray) (k : Nat) (hk : k < p.size) : (Lib.bytesWorld w 5 p).frozen? ⟨w.heap.size, k, none⟩ = false := by
  have h := Lib.bytesWorld_at_new w 5 p
  simp [World.frozen?, h, Lib.bytesCells]
  omega
theorem bw_set (w : World) (p : ByteArray) (cap k : Nat) (b : UInt8) (hk : k < p.size) :
    (convert 28 9 (.slice (some ⟨w.heap.size, 0, none⟩) p.size cap)).run Tryd.prog ((Lib.bytesWorld w 5 p).setCell ⟨w.heap.size, k, none⟩ (.int .u8 b.toNat)) = .ok (.string (setB p k b)) ((Lib.bytesWorld w 5 p).setCell ⟨w.heap.size, k, none⟩ (.int .u8 b.toNat)) := by
  have := run_str (P := Tryd.prog) ((Lib.bytesWorld w 5 p).setCell ⟨w.heap.size, k, none⟩ (.int .u8 b.toNat)) 28 9 5 Tryd.underlying28 Tryd.underlying5 Tryd.underlying9 ⟨w.heap.size, 0, none⟩ cap (p.data.toList.set k b) (fun j u hu => by
    have e1 : (⟨w.heap.size, 0, none⟩ : Addr).add j = ⟨w.heap.size, j, none⟩ := by unfold Addr.add; split <;> simp_all
    rw [cb_at] at hu
    rw [e1]
    by_cases hj : j = k
    · subst hj
      rw [List.getElem?_set_self (by simpa using hk)] at hu
      injection hu with hu
      subst hu
      exact World.cell?_setCell_same _ _ _ (Lib.bytesWorld_cell w 5 p j hk)
    · rw [List.getElem?_set_ne (by omega)] at hu
      rw [World.cell?_setCell_other _ _ _ _ (by intro e; injection e; omega)]
      have := bw_cells w 5 p j u (by rw [cb_at]; exact hu)
      rwa [e1] at this)
  rw [List.length_set, toList_size] at this
  exact this
/-- What the turned bytes tell. -/
theorem turned_get (s : ByteArray) (k : Nat) (b : UInt8) (hm : nmMay s = true) (hk : k < (nmPad s).size) (hb : b ≠ (nmPad s).data.toList.getD k 0) :
    nmGet (setB (nmPad s) k b) = (3, ByteArray.empty) ∨ ∃ t, nmGet (setB (nmPad s) k b) = (0, t) ∧ t ≠ s := by
  rcases nmGet_cases (setB (nmPad s) k b) with h | ⟨t, h⟩
  · exact .inl h
  · refine .inr ⟨t, h, fun e => ?_⟩
    subst e
    exact setB_ne _ k b hk (by rw [List.getD_eq_getElem?_getD, byte_at _ k hk] at hb; simpa using hb) (nmPad_get _ _ h).1.symm
set_option maxRecDepth 100000 in
set_option maxHeartbeats 1000000 in
theorem commandTurned_w (s : ByteArray) (at_ by_ : Nat) (w : World) (hs : s.size ≤ 9223372036854775807) (ha : at_ < 256) (hby : by_ < 256) :
    Calls Tryd.prog 5 #[.string s, .int .u8 at_, .int .u8 by_] w fun e w' => e = .returned (.bool true) ∧ Below w.heap.size w w' := by
  by_cases h0 : 200 < s.size
  · go_enter Tryd.func5, Tryd.ntmps5
    go_wp2_with fail
    refine (cmdAlive w).mono ?_
    rintro e w1 ⟨rfl, hb⟩
    go_wp2
    go_ret
    exact ⟨rfl, hb⟩
  · have HR := Lib.hid (fun w => refMayN_c s w hs)
    rcases Bool.eq_false_or_eq_true (nmMay s) with h | h
    · have hz12 := nmPad_size s (nmMay_size h).2
      have HQ := Lib.hid (fun w => refPutN_c s w (nmMay_size h).2)
      rw [h] at HR
      obtain ⟨k, hk⟩ : ∃ k, at_ % 12 = k := ⟨_, rfl⟩
      have hk12 : k < 12 := by omega
      have ek : ((at_ : Nat) : Int) % 12 = (k : Int) := by omega
      clear hk
      generalize hc : (nmPad s).data.toList.getD k 0 = c
      have hc256 := c.toNat_lt
      have HT := Lib.hid (turned_get s k (turnB c.toNat by_) h (by omega) (by rw [hc]; exact turnB_ne _ _))
      have ev := turnB_val c.toNat by_ hc256
      have HC := Lib.hid (fun w : World => hc ▸ Lib.bytesWorld_cell w 5 (nmPad s) k (by omega))
      have HF := Lib.hid (fun w : World => bw_frozen w (nmPad s) k (by omega))
      have K1 := Lib.hid (fun (w : World) (cap : Nat) => bw_str w (nmPad s) cap k (by omega))
      have K2 := Lib.hid (fun (w : World) (cap : Nat) => bw_str w (nmPad s) cap 12 (by omega))
      have K3 := Lib.hid (fun (w : World) (cap : Nat) => bw_set w (nmPad s) cap k (turnB c.toNat by_) (by omega))
      rw [show (nmPad s).extract 0 12 = nmPad s by rw [← hz12]; exact cut_all _] at K2
      rw [hz12] at K3
      have HG1 := Lib.hid (fun w => cmdGet_c ((nmPad s).extract 0 k) w (by rw [size_cut _ _ _ (by omega)]; omega))
      have HG2 := Lib.hid (fun w => cmdGet_c (nmPad s ++ ⟨#[0]⟩) w (by rw [size_app, hz12]; decide))
      have HG3 := Lib.hid (fun w => cmdGet_c (setB (nmPad s) k (turnB c.toNat by_)) w (by rw [setB_size]; omega))
      rw [nmGet_short _ (by rw [size_cut _ _ _ (by omega)]; omega)] at HG1
      rw [nmGet_short _ (by rw [size_app, hz12]; decide)] at HG2
      generalize setB (nmPad s) k (turnB c.toNat by_) = q at *
      generalize turnB c.toNat by_ = d at *
      generalize c.toNat = cn at *
      generalize nmPad s = p at *
      have kc := fun (w : World) (s : ByteArray) => Lib.run_convert_string_bytes (P := Tryd.prog) w 9 28 5 s Tryd.underlying9 Tryd.underlying28 Tryd.underlying5
      clear h hc c
      go_enter Tryd.func5, Tryd.ntmps5
      go_wp2_with fail
      refine (cmdAlive w).mono ?_
      rintro e w1 ⟨rfl, hb⟩
      go_wp2_with fail
      refine (HR.out _).mono ?_
      rintro e w' ⟨rfl, rfl⟩
      go_wp2_with fail
      refine (HQ.out _).mono ?_
      rintro e w' ⟨rfl, rfl⟩
      have hcap := grownCap_ge w1 12 0 5
      have c1 := HC.out w1
      have f1 := HF.out w1
      have k1 := fun cap => K1.out w1 cap
      have k2 := fun cap => K2.out w1 cap
      have k3 := fun cap => K3.out w1 cap
      have hb2 := bw_below hb hb.size 5 p
      have hb3 := hb2.setCell (p := ⟨w1.heap.size, k, none⟩) hb.size (.int .u8 d.toNat)
      go_wp2_with fail
      refine (HG1.out _).mono ?_
      rintro e w' ⟨rfl, rfl⟩
      go_wp2_with fail
      refine (HG2.out _).mono ?_
      rintro e w' ⟨rfl, rfl⟩
      go_wp2_with fail
      refine (HG3.out _).mono ?_
      rintro e w' ⟨rfl, rfl⟩
      rcases HT.out with e0 | ⟨t, e0, hne⟩
      · rw [e0]
        clear e0
        go_wp2
        go_ret
        exact ⟨rfl, hb3⟩
      · rw [e0]
        clear e0
        rcases str_ways t s with ⟨e1, _⟩ | ⟨_, e1, e2⟩
        · exact absurd e1 hne
        · clear hne
          go_wp2
          go_ret
          exact ⟨rfl, hb3⟩
    · rw [h] at HR
      clear h
      go_enter Tryd.func5, Tryd.ntmps5
      go_wp2_with fail
      refine (cmdAlive w).mono ?_
      rintro e w1 ⟨rfl, hb⟩
      go_wp2_with fail
      refine (HR.out _).mono ?_
      rintro e w' ⟨rfl, rfl⟩
      go_wp2
      go_ret
      exact ⟨rfl, hb⟩
theorem commandTurned_row (s : ByteArray) (a b : Int) (w : World) (hs : s.size ≤ maxLen) (ha : (Lit.int .u8 a).wf = true) (hb : (Lit.int .u8 b).wf = true) :
    Calls Tryd.prog 5 #[.string s, .int .u8 a, .int .u8 b] w fun e w' => e = .returned (.bool true) ∧ Below w.heap.size w w' := by
  have h1 := bounds_u8 ha
  have h2 := bounds_u8 hb
  obtain ⟨x, rfl⟩ : ∃ x : Nat, a = (x : Int) := ⟨a.toNat, by omega⟩
  obtain ⟨y, rfl⟩ : ∃ y : Nat, b = (y : Int) := ⟨b.toNat, by omega⟩
  exact commandTurned_w s x y w (by simpa [maxLen] using hs) (by omega) (by omega)
end Go.Proofs.YthbechmkjhkipaaDoor
