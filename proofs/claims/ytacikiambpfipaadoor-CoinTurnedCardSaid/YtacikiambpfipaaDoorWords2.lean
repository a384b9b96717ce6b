/- string([]byte{..}) of a literal of one to five bytes. Own text; no program in sight. -/
import Derived.Test.YtacikiambpfipaaDoorWords
namespace Go.Proofs.YtacikiambpfipaaDoor
set_option linter.unusedVariables false
set_option linter.unusedSimpArgs false
open Go.RowKit

/-- A byte out of a number. -/
def ub (n : Int) : UInt8 := UInt8.ofNat n.toNat
theorem ub_toNat (n : Nat) (h : n < 256) : (ub n).toNat = n := by
  simp [ub]; omega
theorem run_str_new {P : Program} {src dst e : TypeId} (hs : P.underlying src = some (.slice e)) (he : P.underlying e = some (.int .u8)) (hd : P.underlying dst = some .string) (w : World) (xs : List Int) (cap : Nat) :
    (convert src dst (.slice (some ⟨w.heap.size, 0, none⟩) xs.length cap)).run P (w.alloc (.cells (xs.map (Value.int .u8)).toArray e)) = .ok (.string ⟨(xs.map ub).toArray⟩) (w.alloc (.cells (xs.map (Value.int .u8)).toArray e)) := by
  rw [run_convert_bytes_string _ src dst e _ xs.length cap hs he hd]
  have hl := run_loadCells_list (P := P) (w := w.alloc (.cells (xs.map (Value.int .u8)).toArray e)) ⟨w.heap.size, 0, none⟩ (xs.map (Value.int .u8)) (by
    intro j v hj
    have := World.news_of_block (heap_alloc_new w (.cells (xs.map (Value.int .u8)).toArray e)) j v (by simpa using hj)
    exact this)
  rw [List.length_map] at hl
  rw [run_bytesToString _ _ _ cap xs hl]
  have h : ∀ (l : List Int) (s : ByteArray), l.foldl (fun r n => r.push (UInt8.ofNat n.toNat)) s = ⟨(s.data.toList ++ l.map ub).toArray⟩ := by
    intro l
    induction l with
    | nil => intro s; cases s; simp
    | cons b t ih =>
      intro s
      rw [List.foldl_cons, ih]
      congr 1
      simp [ByteArray.push, ub]
  rw [h]
  simp
section
variable {P : Program} {src dst e : TypeId} (hs : P.underlying src = some (.slice e)) (he : P.underlying e = some (.int .u8)) (hd : P.underlying dst = some .string)
include hs he hd
theorem run_str1 (w : World) (a : Int) : (convert src dst (.slice (some ⟨w.heap.size, 0, none⟩) 1 1)).run P (w.alloc (.cells #[.int .u8 a] e)) = .ok (.string ⟨#[ub a]⟩) (w.alloc (.cells #[.int .u8 a] e)) := run_str_new hs he hd w [a] 1
theorem run_str2 (w : World) (a b : Int) : (convert src dst (.slice (some ⟨w.heap.size, 0, none⟩) 2 2)).run P (w.alloc (.cells #[.int .u8 a, .int .u8 b] e)) = .ok (.string ⟨#[ub a, ub b]⟩) (w.alloc (.cells #[.int .u8 a, .int .u8 b] e)) := run_str_new hs he hd w [a, b] 2
theorem run_str3 (w : World) (a b c : Int) : (convert src dst (.slice (some ⟨w.heap.size, 0, none⟩) 3 3)).run P (w.alloc (.cells #[.int .u8 a, .int .u8 b, .int .u8 c] e)) = .ok (.string ⟨#[ub a, ub b, ub c]⟩) (w.alloc (.cells #[.int .u8 a, .int .u8 b, .int .u8 c] e)) := run_str_new hs he hd w [a, b, c] 3
theorem run_str1_1 (w : World) (o1 : Obj) (a : Int) : (convert src dst (.slice (some ⟨w.heap.size + 1, 0, none⟩) 1 1)).run P ((w.alloc o1).alloc (.cells #[.int .u8 a] e)) = .ok (.string ⟨#[ub a]⟩) ((w.alloc o1).alloc (.cells #[.int .u8 a] e)) := by
  have := run_str1 hs he hd (w.alloc o1) a
  simp only [World.size_alloc] at this
  exact this
theorem run_str1_2 (w : World) (o1 o2 : Obj) (a : Int) : (convert src dst (.slice (some ⟨w.heap.size + 1 + 1, 0, none⟩) 1 1)).run P (((w.alloc o1).alloc o2).alloc (.cells #[.int .u8 a] e)) = .ok (.string ⟨#[ub a]⟩) (((w.alloc o1).alloc o2).alloc (.cells #[.int .u8 a] e)) := by
  have := run_str1 hs he hd ((w.alloc o1).alloc o2) a
  simp only [World.size_alloc] at this
  exact this
theorem run_str1_3 (w : World) (o1 o2 o3 : Obj) (a : Int) : (convert src dst (.slice (some ⟨w.heap.size + 1 + 1 + 1, 0, none⟩) 1 1)).run P ((((w.alloc o1).alloc o2).alloc o3).alloc (.cells #[.int .u8 a] e)) = .ok (.string ⟨#[ub a]⟩) ((((w.alloc o1).alloc o2).alloc o3).alloc (.cells #[.int .u8 a] e)) := by
  have := run_str1 hs he hd (((w.alloc o1).alloc o2).alloc o3) a
  simp only [World.size_alloc] at this
  exact this
theorem run_str2_1 (w : World) (o1 : Obj) (a b : Int) : (convert src dst (.slice (some ⟨w.heap.size + 1, 0, none⟩) 2 2)).run P ((w.alloc o1).alloc (.cells #[.int .u8 a, .int .u8 b] e)) = .ok (.string ⟨#[ub a, ub b]⟩) ((w.alloc o1).alloc (.cells #[.int .u8 a, .int .u8 b] e)) := by
  have := run_str2 hs he hd (w.alloc o1) a b
  simp only [World.size_alloc] at this
  exact this
theorem run_str2_2 (w : World) (o1 o2 : Obj) (a b : Int) : (convert src dst (.slice (some ⟨w.heap.size + 1 + 1, 0, none⟩) 2 2)).run P (((w.alloc o1).alloc o2).alloc (.cells #[.int .u8 a, .int .u8 b] e)) = .ok (.string ⟨#[ub a, ub b]⟩) (((w.alloc o1).alloc o2).alloc (.cells #[.int .u8 a, .int .u8 b] e)) := by
  have := run_str2 hs he hd ((w.alloc o1).alloc o2) a b
  simp only [World.size_alloc] at this
  exact this
theorem run_str2_3 (w : World) (o1 o2 o3 : Obj) (a b : Int) : (convert src dst (.slice (some ⟨w.heap.size + 1 + 1 + 1, 0, none⟩) 2 2)).run P ((((w.alloc o1).alloc o2).alloc o3).alloc (.cells #[.int .u8 a, .int .u8 b] e)) = .ok (.string ⟨#[ub a, ub b]⟩) ((((w.alloc o1).alloc o2).alloc o3).alloc (.cells #[.int .u8 a, .int .u8 b] e)) := by
  have := run_str2 hs he hd (((w.alloc o1).alloc o2).alloc o3) a b
  simp only [World.size_alloc] at this
  exact this
theorem run_str3_1 (w : World) (o1 : Obj) (a b c : Int) : (convert src dst (.slice (some ⟨w.heap.size + 1, 0, none⟩) 3 3)).run P ((w.alloc o1).alloc (.cells #[.int .u8 a, .int .u8 b, .int .u8 c] e)) = .ok (.string ⟨#[ub a, ub b, ub c]⟩) ((w.alloc o1).alloc (.cells #[.int .u8 a, .int .u8 b, .int .u8 c] e)) := by
  have := run_str3 hs he hd (w.alloc o1) a b c
  simp only [World.size_alloc] at this
  exact this
theorem run_str3_2 (w : World) (o1 o2 : Obj) (a b c : Int) : (convert src dst (.slice (some ⟨w.heap.size + 1 + 1, 0, none⟩) 3 3)).run P (((w.alloc o1).alloc o2).alloc (.cells #[.int .u8 a, .int .u8 b, .int .u8 c] e)) = .ok (.string ⟨#[ub a, ub b, ub c]⟩) (((w.alloc o1).alloc o2).alloc (.cells #[.int .u8 a, .int .u8 b, .int .u8 c] e)) := by
  have := run_str3 hs he hd ((w.alloc o1).alloc o2) a b c
  simp only [World.size_alloc] at this
  exact this
theorem run_str3_3 (w : World) (o1 o2 o3 : Obj) (a b c : Int) : (convert src dst (.slice (some ⟨w.heap.size + 1 + 1 + 1, 0, none⟩) 3 3)).run P ((((w.alloc o1).alloc o2).alloc o3).alloc (.cells #[.int .u8 a, .int .u8 b, .int .u8 c] e)) = .ok (.string ⟨#[ub a, ub b, ub c]⟩) ((((w.alloc o1).alloc o2).alloc o3).alloc (.cells #[.int .u8 a, .int .u8 b, .int .u8 c] e)) := by
  have := run_str3 hs he hd (((w.alloc o1).alloc o2).alloc o3) a b c
  simp only [World.size_alloc] at this
  exact this
end
end Go.Proofs.YtacikiambpfipaaDoor
