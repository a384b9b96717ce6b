/- plain.Put, packed.Put, turned, and the document's. -/
import Derived.Test.YtebllmpdlapefaaGreatDoorKA26
import Derived.Test.YtebllmpdlapefaaGreatDoorKA27
import Derived.Test.YtebllmpdlapefaaGreatDoorKA28
namespace Go.Proofs.YtebllmpdlapefaaGreatDoor
set_option linter.unusedVariables false
set_option linter.unusedSimpArgs false
open Go.RowKit Go.Maps

theorem plPut_str (id : Nat) (body : ByteArray) : (⟨(lebL ((lebL id).length + body.size)).toArray⟩ ++ ⟨(lebL id).toArray⟩ ++ body : ByteArray) = ⟨(plPut id body.data.toList).toArray⟩ := by
  apply bytes_ext
  rw [toList_app, toList_app, plPut, List.length_append, toList_size]; simp
theorem plPut_str2 (id : Nat) (body : ByteArray) : (⟨(lebL ((lebL id).length + body.size)).toArray⟩ ++ (⟨(lebL id).toArray⟩ ++ body) : ByteArray) = ⟨(plPut id body.data.toList).toArray⟩ := by
  apply bytes_ext
  rw [toList_app, toList_app, plPut, List.length_append, toList_size]
set_option maxRecDepth 100000 in
set_option maxHeartbeats 1000000 in
theorem plainPut_c (id : Nat) (body : ByteArray) (w : World) (hid : id < 18446744073709551616) (hb : (lebL id).length + body.size ≤ 65536) :
    Calls Tryz.prog 70 #[.int .u64 id, .string body] w fun e w' => e = .returned (.tuple #[.string ⟨(plPut id body.data.toList).toArray⟩, .int .i64 0]) ∧ Below w.heap.size w w' := by
  have HS := Lib.hid (lebSize_c id w hid)
  have HA := Lib.hid (fun w => lebPut_c ((lebL id).length + body.size) w (by omega))
  have HB := Lib.hid (fun w => lebPut_c id w hid)
  have HR := Lib.hid (plPut_str id body)
  have h1 := lebL_length 10 id (by omega) (by omega)
  have h2 := lebL_length 10 ((lebL id).length + body.size) (by omega) (by omega)
  rw [← size_of] at h2
  have h3 : (⟨(lebL id).toArray⟩ : ByteArray).size ≤ 10 := by rw [size_of]; exact h1
  rw [show (((lebL id).length + body.size : Nat) : Int) = ((lebL id).length : Int) + body.size from by omega] at HA
  generalize (⟨(lebL id).toArray⟩ : ByteArray) = TI at *
  generalize (⟨(lebL ((lebL id).length + body.size)).toArray⟩ : ByteArray) = TL at *
  generalize (lebL id).length = li at *
  go_enter Tryz.func70, Tryz.ntmps70
  go_wp2_with fail
  refine HS.out.mono ?_
  rintro e w' ⟨rfl, rfl⟩
  go_wp2_with fail
  refine (HA.out _).mono ?_
  rintro e w1 ⟨rfl, hb1⟩
  have hz := hb1.size
  go_wp2_with fail
  refine (HB.out _).mono ?_
  rintro e w2 ⟨rfl, hb2⟩
  go_wp2
  go_ret2
  exact ⟨by rw [← HR.out]; rfl, hb1.trans (hb2.mono hz)⟩
set_option maxRecDepth 100000 in
set_option maxHeartbeats 1000000 in
theorem refPlainPut_c (id : Nat) (body : ByteArray) (w : World) (hid : id < 18446744073709551616) (hb : (lebL id).length + body.size ≤ 65536) :
    Calls Tryz.prog 48 #[.int .u64 id, .string body] w fun e w' => e = .returned (.tuple #[.string ⟨(plPut id body.data.toList).toArray⟩, .bool true]) ∧ Below w.heap.size w w' := by
  have HA := Lib.hid (fun w => refLebPut_c 9 ((lebL id).length + body.size) w (by omega) (by omega))
  have HB := Lib.hid (fun w => refLebPut_c 9 id w (by omega) hid)
  have HR := Lib.hid (plPut_str2 id body)
  have h1 := lebL_length 10 id (by omega) (by omega)
  have h2 := lebL_length 10 ((lebL id).length + body.size) (by omega) (by omega)
  rw [← size_of] at h2
  have h3 : (⟨(lebL id).toArray⟩ : ByteArray).size = (lebL id).length := size_of _
  have h4 : ((⟨(lebL id).toArray⟩ : ByteArray) ++ body).size = (lebL id).length + body.size := by rw [size_app, h3]
  have h5 : (⟨(lebL id).toArray⟩ : ByteArray).size ≤ 10 := by omega
  have H4 := Lib.hid h4
  generalize (⟨(lebL ((lebL id).length + body.size)).toArray⟩ : ByteArray) = TL at *
  rw [← h4] at HA
  generalize (⟨(lebL id).toArray⟩ : ByteArray) = TI at *
  have h6 : (TI ++ body).size ≤ 65536 := by omega
  have d1 : decide (((TI ++ body).size : Int) ≤ 65536) = true := decide_eq_true (by omega)
  generalize hIN : TI ++ body = IN at *
  clear h3 h4
  go_enter Tryz.func48, Tryz.ntmps48
  go_wp2_with fail
  refine (HB.out _).mono ?_
  rintro e w1 ⟨rfl, hb1⟩
  have hz := hb1.size
  go_wp2_with fail
  refine (HA.out _).mono ?_
  rintro e w2 ⟨rfl, hb2⟩
  go_wp2
  go_ret2
  exact ⟨by rw [← HR.out]; rfl, hb1.trans (hb2.mono hz)⟩
set_option maxRecDepth 100000 in
set_option maxHeartbeats 1000000 in
theorem packedPut_c (id : Nat) (body : ByteArray) (w : World) (hid : id < 18446744073709551616) (hb : body.size ≤ 10000) :
    Calls Tryz.prog 75 #[.int .u64 id, .string body] w fun e w' => e = .returned (.tuple #[.string ⟨(plPut id (pack body.data.toList)).toArray⟩, .int .i64 0]) ∧ Below w.heap.size w w' := by
  have h1 := lebL_length 10 id (by omega) (by omega)
  have h2 := pack_length body.data.toList (by rw [toList_size]; omega)
  rw [toList_size] at h2
  have HA := Lib.hid (fun w => pack_c body w (by omega))
  have HB := Lib.hid (fun w => plainPut_c id ⟨(pack body.data.toList).toArray⟩ w hid (by rw [size_of]; omega))
  simp only at HB
  generalize (⟨(plPut id (pack body.data.toList)).toArray⟩ : ByteArray) = R at *
  generalize (⟨(pack body.data.toList).toArray⟩ : ByteArray) = T at *
  go_enter Tryz.func75, Tryz.ntmps75
  go_wp2_with fail
  refine (HA.out _).mono ?_
  rintro e w1 ⟨rfl, hb1⟩
  have hz := hb1.size
  go_wp2_with fail
  refine (HB.out _).mono ?_
  rintro e w2 ⟨rfl, hb2⟩
  go_wp2
  go_ret2
  exact ⟨rfl, hb1.trans (hb2.mono hz)⟩
set_option maxRecDepth 100000 in
theorem packedPut_over (id : Nat) (body : ByteArray) (w : World) (hb : 65536 < body.size) (hb2 : body.size ≤ 9223372036854775807) :
    Calls Tryz.prog 75 #[.int .u64 id, .string body] w fun e w' => e = .returned (.tuple #[.string ByteArray.empty, .int .i64 5]) ∧ w = w' := by
  have HA := Lib.hid (fun w => pack_over body w hb hb2)
  go_enter Tryz.func75, Tryz.ntmps75
  go_wp2_with fail
  refine (HA.out _).mono ?_
  rintro e w' ⟨rfl, rfl⟩
  go_wp2
  go_ret2
  exact ⟨rfl, rfl⟩
set_option maxRecDepth 100000 in
theorem refPackedPut_c (id : Nat) (body : ByteArray) (w : World) (hid : id < 18446744073709551616) (hb : body.size ≤ 10000) :
    Calls Tryz.prog 49 #[.int .u64 id, .string body] w fun e w' => e = .returned (.tuple #[.string ⟨(plPut id (pack body.data.toList)).toArray⟩, .bool true]) ∧ Below w.heap.size w w' := by
  have h1 := lebL_length 10 id (by omega) (by omega)
  have h2 := pack_length body.data.toList (by rw [toList_size]; omega)
  rw [toList_size] at h2
  have HA := Lib.hid (fun w => refPack_c body w (by omega))
  have HB := Lib.hid (fun w => refPlainPut_c id ⟨(pack body.data.toList).toArray⟩ w hid (by rw [size_of]; omega))
  simp only at HB
  generalize (⟨(plPut id (pack body.data.toList)).toArray⟩ : ByteArray) = R at *
  generalize (⟨(pack body.data.toList).toArray⟩ : ByteArray) = T at *
  go_enter Tryz.func49, Tryz.ntmps49
  go_wp2_with fail
  refine (HA.out _).mono ?_
  rintro e w1 ⟨rfl, hb1⟩
  have hz := hb1.size
  go_wp2_with fail
  refine (HB.out _).mono ?_
  rintro e w2 ⟨rfl, hb2⟩
  go_wp2
  go_ret2
  exact ⟨rfl, hb1.trans (hb2.mono hz)⟩

theorem zeroErr (w : World) : (zeroValue 34).run Tryz.prog w = .ok (.int .i64 0) w := by kernel_rfl
set_option maxRecDepth 100000 in
set_option maxHeartbeats 1000000 in
theorem turned_c (e0 : Int) (w : World) (h1 : 0 ≤ e0) (h2 : e0 ≤ 100) :
    Calls Tryz.prog 120 #[.int .i64 e0] w fun e w' => e = .returned (.int .i64 (if e0 = 2 then 3 else e0)) ∧ Below w.heap.size w w' := by
  have hmm := @run_makeMap Tryz.prog
  obtain ⟨w2, hrun, hown2, hgrow⟩ := (World.ownsMap_made (H := Unit) w Tryz.prog 34 (plainElem Tryz.prog 34)).update (int_keyed Tryz.underlying34) Tryz.underlying169 (by decide) (keyOf_int_mk Tryz.underlying34 (a := 2) (by decide)) (plainElem_int Tryz.underlying34 (a := 3) (by decide))
  have hb : Below w.heap.size w w2 := ((Below.refl w.heap.size w).alloc (Nat.le_refl _) _).grown hgrow (by simp) (by simp)
  have hkey := keyOf_int_mk (P := Tryz.prog) Tryz.underlying34 (a := e0) (WalkArith.wf_i64 (by omega))
  have HB := Lib.hid hb
  have HK := Lib.hid hkey
  clear hb hkey hgrow
  by_cases h : e0 = 2
  · subst h
    have hhas : Maps.has ((DataW.map [] : DataW Unit).put (.int .i64 2) (.lit (.int .i64 3))) (.int .i64 2) = true := rfl
    have hat0 : ((DataW.map [] : DataW Unit).put (.int .i64 2) (.lit (.int .i64 3))).atKey (.int .i64 2) (.lit (.int .i64 0)) = .lit (.int .i64 3) := rfl
    have HAT := Lib.hid hat0
    generalize (DataW.map [] : DataW Unit).put (.int .i64 2) (.lit (.int .i64 3)) = D at *
    clear hat0
    go_enter Tryz.func120, Tryz.ntmps120
    go_wp2_with (at_lookup; refine wpList_lookup_own_ok_int _ rfl _ _ 169 rfl 34 34 .i64 (int_keyed Tryz.underlying34) Tryz.underlying169 Tryz.underlying34 (zeroErr _) w.heap.size 1 D rfl hown2 _ _ rfl HK.out ?_; intro cj hat hwc; obtain rfl := at_int (hat.symm.trans HAT.out); clear hat hwc)
    go_ret
    exact ⟨rfl, HB.out⟩
  · have hhas : Maps.has ((DataW.map [] : DataW Unit).put (.int .i64 2) (.lit (.int .i64 3))) (.int .i64 e0) = false := by
      rw [Maps.has_put_other (by intro e; injection e; omega)]; rfl
    generalize (DataW.map [] : DataW Unit).put (.int .i64 2) (.lit (.int .i64 3)) = D at *
    rw [if_neg h]
    clear h
    go_enter Tryz.func120, Tryz.ntmps120
    go_wp2_with (at_lookup; refine wpList_lookup_own_ok_int _ rfl _ _ 169 rfl 34 34 .i64 (int_keyed Tryz.underlying34) Tryz.underlying169 Tryz.underlying34 (zeroErr _) w.heap.size 1 D rfl hown2 _ _ rfl HK.out ?_; intro cj hat hwc; clear hat hwc)
    go_ret
    exact ⟨rfl, HB.out⟩
end Go.Proofs.YtebllmpdlapefaaGreatDoor
