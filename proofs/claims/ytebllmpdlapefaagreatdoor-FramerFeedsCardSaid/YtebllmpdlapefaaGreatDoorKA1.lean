/- Words for memory: a block that is known whole ('Blk'), a world that has turned at some blocks alone ('Only'), a slice that reads as a list ('Reads'). Own text; no program in sight. -/
/- string([]byte{..}) of a literal of one to five bytes. Own text; no program in sight. -/
/- []byte(s): the world behind it, in my words. Own text; no program in sight. -/
/- Texts and the lists of their bytes: small plain laws. No program in sight. -/
/- A slice of bytes that the call has made, nil or not, from 'make', '[]byte(s)' or append: 'Buf'; appended to from whatever source. Own text; no program in sight. -/
/- Appending to a Buf inside a region that draws its order; small words for literals. Own text; no program in sight. -/
/- An append onto a Buf: which block has turned ('grownBy'), where the new value lies. Own text; no program in sight. -/
/- Numbers out of bytes: the plain functions and their laws. No program in sight. -/
/- The number with which bytes begin, seven bits a byte: the plain function, and its laws. No program in sight. -/
/- What a block's elements lay: the plain functions and their laws. No program in sight. -/
/- What a block of one literal unpacks to; what a block of a literal and a copy unpacks to. No program in sight. -/
/- A literal and a copy of all of it: what is laid comes round. No program in sight. -/
/- Packing, greedily: the plain function; what it packs is unpacked again, and isn't longer than the bound. No program in sight. -/
/- Plain frames, and packed ones: plain functions and laws. No program in sight. -/
/- Beginnings of plain and packed frames, and what is put back as it was: plain laws. No program in sight. -/
/- SHA-256, as plain functions of numbers. No program in sight. -/
/- The roots of SHA-256, by digits of base 65536, as plain functions. No program in sight. -/
/- SHA-256 of a text, and the checksum that is a digest's digest, as plain functions. No program in sight. -/
/- Names in twelve bytes: plain laws. No program in sight. -/
/- Digits of base 256: plain. No program in sight. -/
/- Frames with a magic number, a name and a checksum, as plain functions. -/
/- Frames of any format: plain functions and laws. No program in sight. -/
/- A config, or a frame, that came in as an argument. -/
import Derived.WalkKit
import Derived.Maps.AppendAt
import Derived.Deep.AppendLies
import Derived.Deep.Draws
import Derived.Lib.Hide
import Derived.Lib.ConvBytes
import Derived.Lib.AtoiErrMem
import Derived.Below
import Derived.Laws.Strings
import Derived.Deep.AppendSrc
import Derived.Deep.Upon
import Derived.Deep.RegionLaw
import Derived.Maps.Range
import Derived.Test.YtebllmpdlapefaaGreatDoorProg
import Derived.ProofKit
import Derived.OpenShut
import Derived.ShutString
namespace Go.Proofs.YtebllmpdlapefaaGreatDoor
set_option linter.unusedVariables false
set_option linter.unusedSimpArgs false
open Go.RowKit

/-- Block g is the cells cs of element type t; none of them is frozen. -/
def Blk (w : World) (g : Nat) (t : TypeId) (cs : Array Value) : Prop := w.heap[g]? = some (.cells cs t (0, 0))

theorem Blk.lt {w : World} {g : Nat} {t : TypeId} {cs : Array Value} (h : Blk w g t cs) : g < w.heap.size := lt_of_block h
theorem Blk.cell {w : World} {g : Nat} {t : TypeId} {cs : Array Value} (h : Blk w g t cs) (i : Nat) : w.cell? ⟨g, i, none⟩ = cs[i]? := by
  unfold Blk at h; simp [World.cell?, h]
theorem Blk.frozen {w : World} {g : Nat} {t : TypeId} {cs : Array Value} (h : Blk w g t cs) (i : Nat) : w.frozen? ⟨g, i, none⟩ = false := by
  unfold Blk at h; simp [World.frozen?, h]
theorem Blk.new (w : World) (t : TypeId) (cs : Array Value) : Blk (w.alloc (.cells cs t)) w.heap.size t cs := heap_alloc_new w _
theorem Blk.drew {w : World} {g : Nat} {t : TypeId} {cs : Array Value} (h : Blk w g t cs) : Blk w.drew g t cs := h
theorem Blk.drewN {w : World} {g : Nat} {t : TypeId} {cs : Array Value} (h : Blk w g t cs) (n : Nat) : Blk (w.drewN n) g t cs := h
theorem Blk.alloc {w : World} {g : Nat} {t : TypeId} {cs : Array Value} (h : Blk w g t cs) (o : Obj) : Blk (w.alloc o) g t cs := (Below.heap_alloc w o g h.lt).trans h
theorem Blk.set {w : World} {g : Nat} {t : TypeId} {cs : Array Value} (h : Blk w g t cs) (i : Nat) (u : Value) : Blk (w.setCell ⟨g, i, none⟩ u) g t (cs.setIfInBounds i u) := by
  unfold Blk at h ⊢; simp [World.setCell, Array.getElem?_modify, h]
theorem Blk.far {w : World} {g : Nat} {t : TypeId} {cs : Array Value} (h : Blk w g t cs) {p : Addr} (hp : g ≠ p.block) (u : Value) : Blk (w.setCell p u) g t cs := (Below.heap_setCell w p u g hp).trans h

theorem Blk.beside {w : World} {g : Nat} {t : TypeId} {cs : Array Value} {p : Addr} (hp : g ≠ p.block) (h : Blk w g t cs) (u : Value) : Blk (w.setCell p u) g t cs := h.far hp u
theorem Blk.store {w : World} {g : Nat} {t : TypeId} {cs cs' : Array Value} {i : Nat} {u : Value} (h : Blk w g t cs) (e : cs.setIfInBounds i u = cs') : Blk (w.setCell ⟨g, i, none⟩ u) g t cs' := e ▸ h.set i u

/-- From w to w' only blocks of the list L, and new ones, have turned. -/
structure Only (L : List Nat) (w w' : World) : Prop where
  os : w'.os = w.os
  tape : w'.tape = w.tape
  output : w'.output = w.output
  size : w.heap.size ≤ w'.heap.size
  block : ∀ k, k < w.heap.size → k ∉ L → w'.heap[k]? = w.heap[k]?

theorem Only.refl (L : List Nat) (w : World) : Only L w w := ⟨rfl, rfl, rfl, Nat.le_refl _, fun _ _ _ => rfl⟩
theorem Only.trans' {L M : List Nat} {a b c : World} (h : Only L a b) (k : Only M b c) (hm : ∀ i, i ∈ M → i ∈ L ∨ a.heap.size ≤ i) : Only L a c :=
  ⟨k.os.trans h.os, k.tape.trans h.tape, k.output.trans h.output, Nat.le_trans h.size k.size, fun i hi hn =>
    (k.block i (Nat.lt_of_lt_of_le hi h.size) (fun hM => by rcases hm i hM with h1 | h1; exact hn h1; omega)).trans (h.block i hi hn)⟩
theorem Only.trans {L : List Nat} {a b c : World} (h : Only L a b) (k : Only L b c) : Only L a c := h.trans' k fun _ hi => .inl hi
theorem Only.mono {L M : List Nat} {w w' : World} (h : Only L w w') (hm : ∀ i, i ∈ L → i ∈ M) : Only M w w' := ⟨h.os, h.tape, h.output, h.size, fun k hk hn => h.block k hk (fun hL => hn (hm k hL))⟩
theorem Only.drew {L : List Nat} {a w : World} (h : Only L a w) : Only L a w.drew := ⟨h.os, h.tape, h.output, h.size, h.block⟩
theorem Only.drewN {L : List Nat} {a w : World} (h : Only L a w) (n : Nat) : Only L a (w.drewN n) := ⟨h.os, h.tape, h.output, h.size, h.block⟩
theorem Only.alloc {L : List Nat} {a w : World} (h : Only L a w) (o : Obj) : Only L a (w.alloc o) :=
  ⟨h.os, h.tape, h.output, Nat.le_trans h.size (by simp), fun k hk hn => (Below.heap_alloc w o k (Nat.lt_of_lt_of_le hk h.size)).trans (h.block k hk hn)⟩
theorem Only.setCell {L : List Nat} {a w : World} (h : Only L a w) {p : Addr} (hp : p.block ∈ L ∨ a.heap.size ≤ p.block) (u : Value) : Only L a (w.setCell p u) :=
  ⟨h.os, h.tape, h.output, by simpa [World.setCell] using h.size, fun k hk hn => (Below.heap_setCell w p u k (by
    rintro rfl
    rcases hp with hp | hp
    · exact hn hp
    · omega)).trans (h.block k hk hn)⟩
theorem Only.put {L : List Nat} {a w : World} {p : Addr} (hp : p.block ∈ L ∨ a.heap.size ≤ p.block) (h : Only L a w) (u : Value) : Only L a (w.setCell p u) := h.setCell hp u
theorem Only.of_grown {w w' : World} {row : Option Nat} (h : w.grownBy w' row) : Only row.toList w w' :=
  ⟨h.os, h.tape, h.output, h.size, fun k hk hn => h.block k hk (fun e => hn (by simp [← e]))⟩
theorem Only.grown {L : List Nat} {a w w' : World} {row : Option Nat} (h : Only L a w) (hg : w.grownBy w' row) (hr : ∀ k, row = some k → k ∈ L ∨ a.heap.size ≤ k) : Only L a w' :=
  h.trans' (Only.of_grown hg) fun i hi => hr i (by simpa using hi)
theorem Only.of_below {B : Nat} {w w' : World} (h : Below B w w') (hB : w.heap.size ≤ B) : Only [] w w' := ⟨h.os, h.tape, h.output, h.size, fun k hk _ => h.block k (by omega)⟩
theorem Only.below {L : List Nat} {w w' : World} (h : Only L w w') {B : Nat} (hB : B ≤ w.heap.size) (hL : ∀ i, i ∈ L → B ≤ i) : Below B w w' :=
  ⟨h.os, h.tape, h.output, h.size, fun k hk => h.block k (by omega) (fun hi => by have := hL k hi; omega)⟩
theorem Only.cell {L : List Nat} {w w' : World} (h : Only L w w') {p : Addr} (hp : p.block < w.heap.size) (hn : p.block ∉ L) : w'.cell? p = w.cell? p := World.cell?_of_block (h.block _ hp hn)
theorem Only.frozen {L : List Nat} {w w' : World} (h : Only L w w') {p : Addr} (hp : p.block < w.heap.size) (hn : p.block ∉ L) : w'.frozen? p = w.frozen? p := World.frozen?_of_block (h.block _ hp hn)
theorem Blk.only {L : List Nat} {w w' : World} {g : Nat} {t : TypeId} {cs : Array Value} (h : Blk w g t cs) (ho : Only L w w') (hn : g ∉ L) : Blk w' g t cs := (ho.block g h.lt hn).trans h
theorem Only.own {L : List Nat} {w w' : World} (h : Only L w w') {base : Nat} {e : TypeId} {size : Nat} {v : Value} {n : Nat} {xs : List Value} (ho : w.ownsRow base e size v n xs)
    (hn : ∀ g, v.ownBlock = some g → g ∉ L) : w'.ownsRow base e size v n xs := by
  obtain ⟨h1, h2⟩ := ho
  refine ⟨h1, ?_⟩
  rcases h2 with h2 | ⟨g, cap, cur, hv, hg, hh, r⟩
  · exact Or.inl h2
  · subst hv
    exact Or.inr ⟨g, cap, cur, rfl, hg, (h.block g (lt_of_block hh) (hn g rfl)).trans hh, r⟩

/-- Bytes as cells. -/
def cb (l : List UInt8) : List Value := l.map fun b => .int .u8 b.toNat
theorem cb_length (l : List UInt8) : (cb l).length = l.length := List.length_map ..
theorem cb_append (l m : List UInt8) : cb (l ++ m) = cb l ++ cb m := List.map_append ..
theorem cb_at (l : List UInt8) (j : Nat) : (cb l)[j]? = (l[j]?).map fun b => .int .u8 b.toNat := List.getElem?_map ..
theorem cb_one (l : List UInt8) : ∀ u ∈ cb l, u.oneCell' = true := by
  intro u hu
  simp only [cb, List.mem_map] at hu
  obtain ⟨b, _, rfl⟩ := hu
  rfl
theorem cb_drop (l : List UInt8) (k : Nat) : cb (l.drop k) = (cb l).drop k := by simp [cb]
theorem cb_take (l : List UInt8) (k : Nat) : cb (l.take k) = (cb l).take k := by simp [cb]
/-- A value that owns a row, and a block of another element type. -/
theorem own_ne {w : World} {base : Nat} {e t : TypeId} {size n cap g h : Nat} {xs : List Value} {cs : Array Value} (ho : w.ownsRow base e size (.slice (some ⟨h, 0, none⟩) n cap) n xs) (hg : Blk w g t cs) (hne : e ≠ t) : h ≠ g := by
  rintro rfl
  rcases ho.2 with ⟨h1, _⟩ | ⟨g', cap', cur, hv, _, hh, _⟩
  · cases h1
  · injection hv with hv
    injection hv with hv
    injection hv with hv
    subst hv
    unfold Blk at hg
    rw [hh] at hg
    injection hg with hg
    injection hg with _ ht
    exact hne ht
theorem own_bd {w : World} {base : Nat} {e : TypeId} {size n cap h : Nat} {xs : List Value} (ho : w.ownsRow base e size (.slice (some ⟨h, 0, none⟩) n cap) n xs) : n ≤ cap ∧ cap ≤ 9223372036854775807 ∧ base ≤ h ∧ h < w.heap.size := by
  rcases ho.2 with ⟨h1, _⟩ | ⟨g', cap', cur, hv, hb, hh, hn, hm, _⟩
  · cases h1
  · injection hv with hv hv2 hv3
    injection hv with hv
    injection hv with hv
    subst hv; subst hv3
    exact ⟨hn, by simpa [maxLen] using hm, hb, lt_of_block hh⟩

theorem own_form {w : World} {base : Nat} {e : TypeId} {size n : Nat} {v : Value} {xs : List Value} (ho : w.ownsRow base e size v n xs) (hv : v ≠ .slice none 0 0) : ∃ h cap, v = .slice (some ⟨h, 0, none⟩) n cap := by
  rcases ho.2 with ⟨h1, _⟩ | ⟨g', cap', cur, hv, _⟩
  · exact absurd h1 hv
  · exact ⟨g', cap', hv⟩

theorem push_bytes (l : List UInt8) (s : ByteArray) : (l.map fun b => (b.toNat : Int)).foldl (fun r n => r.push (UInt8.ofNat n.toNat)) s = ⟨(s.data.toList ++ l).toArray⟩ := by
  induction l generalizing s with
  | nil => cases s; simp
  | cons b t ih =>
    rw [List.map_cons, List.foldl_cons, ih]
    congr 1
    simp [ByteArray.push]
/-- string(b) of bytes that lie at an address. -/
theorem run_str {P : Program} (w : World) (src dst e : TypeId) (hs : P.underlying src = some (.slice e)) (he : P.underlying e = some (.int .u8)) (hd : P.underlying dst = some .string) (a : Addr) (cap : Nat) (l : List UInt8)
    (h : ∀ j u, (cb l)[j]? = some u → w.cell? (a.add j) = some u) : (convert src dst (.slice (some a) l.length cap)).run P w = .ok (.string ⟨l.toArray⟩) w := by
  rw [run_convert_bytes_string w src dst e (some a) l.length cap hs he hd]
  have e1 : cb l = (l.map fun b => (b.toNat : Int)).map (Value.int .u8) := by simp [cb]
  have hl := run_loadCells_list (P := P) (w := w) a (cb l) h
  rw [cb_length, e1] at hl
  rw [run_bytesToString w a l.length cap _ hl, push_bytes]
  simp
theorem run_str_own {P : Program} {w : World} {src dst e : TypeId} (hs : P.underlying src = some (.slice e)) (he : P.underlying e = some (.int .u8)) (hd : P.underlying dst = some .string) {base h cap : Nat} {l : List UInt8}
    (ho : w.ownsRow base e 1 (.slice (some ⟨h, 0, none⟩) l.length cap) l.length (cb l)) : (convert src dst (.slice (some ⟨h, 0, none⟩) l.length cap)).run P w = .ok (.string ⟨l.toArray⟩) w :=
  run_str w src dst e hs he hd _ cap l (ho.cells rfl)

theorem _root_.Go.RowKit.Below.alloc' {B : Nat} {a w : World} (hB : B ≤ w.heap.size) (h : Below B a w) (o : Obj) : Below B a (w.alloc o) := h.alloc hB o
theorem _root_.Go.RowKit.Below.drewN' {B : Nat} {a w : World} (h : Below B a w) (n : Nat) : Below B a (w.drewN n) := ⟨h.os, h.tape, h.output, h.size, h.block⟩
theorem _root_.Go.World.ownsRow.drewN' {w : World} {base : Nat} {e : TypeId} {size : Nat} {v : Value} {n : Nat} {xs : List Value} (h : w.ownsRow base e size v n xs) (k : Nat) : (w.drewN k).ownsRow base e size v n xs := h

theorem cell3 {w : World} {g i : Nat} {v : Value} (hlt : g < w.heap.size) (h : w.cell? ⟨g, i, none⟩ = some v) (o1 o2 o3 : Obj) : (((w.alloc o1).alloc o2).alloc o3).cell? ⟨g, i, none⟩ = some v := by
  rw [World.cell?_alloc_lt _ _ _ (by simp; omega), World.cell?_alloc_lt _ _ _ (by simp; omega), World.cell?_alloc_lt _ _ _ (by simpa using hlt)]; exact h
theorem frozen3 {w : World} {g i : Nat} (hlt : g < w.heap.size) (h : w.frozen? ⟨g, i, none⟩ = false) (o1 o2 o3 : Obj) : (((w.alloc o1).alloc o2).alloc o3).frozen? ⟨g, i, none⟩ = false := by
  rw [(((((Only.refl [] w).alloc o1).alloc o2).alloc o3)).frozen hlt (by simp)]; exact h
theorem ret_str {a b : ByteArray} (h : b = a) : Ending.returned (.string a) = .returned (.string b) := by rw [h]
def strOf : Value → Nat
  | .string y => y.size
  | _ => 0
@[simp] theorem strOf_string (y : ByteArray) : strOf (.string y) = y.size := rfl
theorem ret_bool {a b : Bool} (h : b = a) : Ending.returned (.bool a) = .returned (.bool b) := by rw [h]

theorem ret_int {k : IntKind} {a b : Int} (h : a = b) : Ending.returned (.int k a) = .returned (.int k b) := by rw [h]
end Go.Proofs.YtebllmpdlapefaaGreatDoor
namespace Go.Proofs.YtebllmpdlapefaaGreatDoor
set_option linter.unusedVariables false
set_option linter.unusedSimpArgs false
open Go.RowKit

/-- A byte out of a number. -/
def ub (n : Int) : UInt8 := UInt8.ofNat n.toNat
theorem ub_toNat (n : Nat) (h : n < 256) : (ub n).toNat = n := by
  simp [ub]; omega
theorem run_str_new {P : Program} {src dst e : TypeId} (hs : P.underlying src = some (.slice e)) (he : P.underlying e = some (.int .u8)) (hd : P.underlying dst = some .string) (w : World) (xs : List Int) (cap : Nat) :
    (convert src dst (.slice (some ⟨w.heap.size, 0, none⟩) xs.length cap)).run P (w.alloc (.cells (xs.map (Value.int .u8)).toArray e)) = .ok (.string ⟨(xs.map ub).toArray⟩) (w.alloc (.cells (xs.map (Value.int .u8)).toArray e)) := by
  rw [run_convert_bytes_string _ src dst e _ xs.length cap hs he hd]
  have hl := run_loadCells_list (P := P) (w := w.alloc (.cells (xs.map (Value.int .u8)).toArray e)) ⟨w.heap.size, 0, none⟩ (xs.map (Value.int .u8)) (by
    intro j v hj
    have := World.news_of_block (heap_alloc_new w (.cells (xs.map (Value.int .u8)).toArray e)) j v (by simpa using hj)
    exact this)
  rw [List.length_map] at hl
  rw [run_bytesToString _ _ _ cap xs hl]
  have h : ∀ (l : List Int) (s : ByteArray), l.foldl (fun r n => r.push (UInt8.ofNat n.toNat)) s = ⟨(s.data.toList ++ l.map ub).toArray⟩ := by
    intro l
    induction l with
    | nil => intro s; cases s; simp
    | cons b t ih =>
      intro s
      rw [List.foldl_cons, ih]
      congr 1
      simp [ByteArray.push, ub]
  rw [h]
  simp
section
variable {P : Program} {src dst e : TypeId} (hs : P.underlying src = some (.slice e)) (he : P.underlying e = some (.int .u8)) (hd : P.underlying dst = some .string)
include hs he hd
theorem run_str1 (w : World) (a : Int) : (convert src dst (.slice (some ⟨w.heap.size, 0, none⟩) 1 1)).run P (w.alloc (.cells #[.int .u8 a] e)) = .ok (.string ⟨#[ub a]⟩) (w.alloc (.cells #[.int .u8 a] e)) := run_str_new hs he hd w [a] 1
theorem run_str2 (w : World) (a b : Int) : (convert src dst (.slice (some ⟨w.heap.size, 0, none⟩) 2 2)).run P (w.alloc (.cells #[.int .u8 a, .int .u8 b] e)) = .ok (.string ⟨#[ub a, ub b]⟩) (w.alloc (.cells #[.int .u8 a, .int .u8 b] e)) := run_str_new hs he hd w [a, b] 2
theorem run_str3 (w : World) (a b c : Int) : (convert src dst (.slice (some ⟨w.heap.size, 0, none⟩) 3 3)).run P (w.alloc (.cells #[.int .u8 a, .int .u8 b, .int .u8 c] e)) = .ok (.string ⟨#[ub a, ub b, ub c]⟩) (w.alloc (.cells #[.int .u8 a, .int .u8 b, .int .u8 c] e)) := run_str_new hs he hd w [a, b, c] 3
theorem run_str1_1 (w : World) (o1 : Obj) (a : Int) : (convert src dst (.slice (some ⟨w.heap.size + 1, 0, none⟩) 1 1)).run P ((w.alloc o1).alloc (.cells #[.int .u8 a] e)) = .ok (.string ⟨#[ub a]⟩) ((w.alloc o1).alloc (.cells #[.int .u8 a] e)) := by
  have := run_str1 hs he hd (w.alloc o1) a
  simp only [World.size_alloc] at this
  exact this
theorem run_str1_2 (w : World) (o1 o2 : Obj) (a : Int) : (convert src dst (.slice (some ⟨w.heap.size + 1 + 1, 0, none⟩) 1 1)).run P (((w.alloc o1).alloc o2).alloc (.cells #[.int .u8 a] e)) = .ok (.string ⟨#[ub a]⟩) (((w.alloc o1).alloc o2).alloc (.cells #[.int .u8 a] e)) := by
  have := run_str1 hs he hd ((w.alloc o1).alloc o2) a
  simp only [World.size_alloc] at this
  exact this
theorem run_str1_3 (w : World) (o1 o2 o3 : Obj) (a : Int) : (convert src dst (.slice (some ⟨w.heap.size + 1 + 1 + 1, 0, none⟩) 1 1)).run P ((((w.alloc o1).alloc o2).alloc o3).alloc (.cells #[.int .u8 a] e)) = .ok (.string ⟨#[ub a]⟩) ((((w.alloc o1).alloc o2).alloc o3).alloc (.cells #[.int .u8 a] e)) := by
  have := run_str1 hs he hd (((w.alloc o1).alloc o2).alloc o3) a
  simp only [World.size_alloc] at this
  exact this
theorem run_str2_1 (w : World) (o1 : Obj) (a b : Int) : (convert src dst (.slice (some ⟨w.heap.size + 1, 0, none⟩) 2 2)).run P ((w.alloc o1).alloc (.cells #[.int .u8 a, .int .u8 b] e)) = .ok (.string ⟨#[ub a, ub b]⟩) ((w.alloc o1).alloc (.cells #[.int .u8 a, .int .u8 b] e)) := by
  have := run_str2 hs he hd (w.alloc o1) a b
  simp only [World.size_alloc] at this
  exact this
theorem run_str2_2 (w : World) (o1 o2 : Obj) (a b : Int) : (convert src dst (.slice (some ⟨w.heap.size + 1 + 1, 0, none⟩) 2 2)).run P (((w.alloc o1).alloc o2).alloc (.cells #[.int .u8 a, .int .u8 b] e)) = .ok (.string ⟨#[ub a, ub b]⟩) (((w.alloc o1).alloc o2).alloc (.cells #[.int .u8 a, .int .u8 b] e)) := by
  have := run_str2 hs he hd ((w.alloc o1).alloc o2) a b
  simp only [World.size_alloc] at this
  exact this
theorem run_str2_3 (w : World) (o1 o2 o3 : Obj) (a b : Int) : (convert src dst (.slice (some ⟨w.heap.size + 1 + 1 + 1, 0, none⟩) 2 2)).run P ((((w.alloc o1).alloc o2).alloc o3).alloc (.cells #[.int .u8 a, .int .u8 b] e)) = .ok (.string ⟨#[ub a, ub b]⟩) ((((w.alloc o1).alloc o2).alloc o3).alloc (.cells #[.int .u8 a, .int .u8 b] e)) := by
  have := run_str2 hs he hd (((w.alloc o1).alloc o2).alloc o3) a b
  simp only [World.size_alloc] at this
  exact this
theorem run_str3_1 (w : World) (o1 : Obj) (a b c : Int) : (convert src dst (.slice (some ⟨w.heap.size + 1, 0, none⟩) 3 3)).run P ((w.alloc o1).alloc (.cells #[.int .u8 a, .int .u8 b, .int .u8 c] e)) = .ok (.string ⟨#[ub a, ub b, ub c]⟩) ((w.alloc o1).alloc (.cells #[.int .u8 a, .int .u8 b, .int .u8 c] e)) := by
  have := run_str3 hs he hd (w.alloc o1) a b c
  simp only [World.size_alloc] at this
  exact this
theorem run_str3_2 (w : World) (o1 o2 : Obj) (a b c : Int) : (convert src dst (.slice (some ⟨w.heap.size + 1 + 1, 0, none⟩) 3 3)).run P (((w.alloc o1).alloc o2).alloc (.cells #[.int .u8 a, .int .u8 b, .int .u8 c] e)) = .ok (.string ⟨#[ub a, ub b, ub c]⟩) (((w.alloc o1).alloc o2).alloc (.cells #[.int .u8 a, .int .u8 b, .int .u8 c] e)) := by
  have := run_str3 hs he hd ((w.alloc o1).alloc o2) a b c
  simp only [World.size_alloc] at this
  exact this
theorem run_str3_3 (w : World) (o1 o2 o3 : Obj) (a b c : Int) : (convert src dst (.slice (some ⟨w.heap.size + 1 + 1 + 1, 0, none⟩) 3 3)).run P ((((w.alloc o1).alloc o2).alloc o3).alloc (.cells #[.int .u8 a, .int .u8 b, .int .u8 c] e)) = .ok (.string ⟨#[ub a, ub b, ub c]⟩) ((((w.alloc o1).alloc o2).alloc o3).alloc (.cells #[.int .u8 a, .int .u8 b, .int .u8 c] e)) := by
  have := run_str3 hs he hd (((w.alloc o1).alloc o2).alloc o3) a b c
  simp only [World.size_alloc] at this
  exact this
end
end Go.Proofs.YtebllmpdlapefaaGreatDoor
namespace Go.Proofs.YtebllmpdlapefaaGreatDoor
set_option linter.unusedVariables false
set_option linter.unusedSimpArgs false
open Go.RowKit

theorem bw_only (w : World) (e : TypeId) (s : ByteArray) : Only [] w (Lib.bytesWorld w e s) := Only.of_below (Lib.bytesWorld_below w e s) (Nat.le_refl _)
theorem bw_below {B : Nat} {a w : World} (h : Below B a w) (hB : B ≤ w.heap.size) (e : TypeId) (s : ByteArray) : Below B a (Lib.bytesWorld w e s) := h.trans ((Lib.bytesWorld_below w e s).mono hB)
theorem bw_own {w : World} {base : Nat} {t : TypeId} {size : Nat} {v : Value} {n : Nat} {xs : List Value} (h : w.ownsRow base t size v n xs) (e : TypeId) (s : ByteArray) : (Lib.bytesWorld w e s).ownsRow base t size v n xs :=
  (bw_only w e s).own h (by simp)
theorem bw_cells (w : World) (e : TypeId) (s : ByteArray) : ∀ j u, (cb s.data.toList)[j]? = some u → (Lib.bytesWorld w e s).cell? ((⟨w.heap.size, 0, none⟩ : Addr).add j) = some u := by
  intro j u hu
  have hj : j < s.size := by
    have := (List.getElem?_eq_some_iff.1 hu).1
    rw [cb_length] at this; simpa using this
  have e1 : (⟨w.heap.size, 0, none⟩ : Addr).add j = ⟨w.heap.size, j, none⟩ := by
    unfold Addr.add; split <;> simp_all
  rw [e1, Lib.bytesWorld_cell w e s j hj, ← hu, cb_at, List.getElem?_eq_getElem (by simpa using hj)]
  simp [List.getD, List.getElem?_eq_getElem (show j < s.data.toList.length by simpa using hj)]
theorem own_some {w : World} {base : Nat} {e : TypeId} {size n cap : Nat} {A : Option Addr} {xs : List Value} (ho : w.ownsRow base e size (.slice A n cap) n xs) (hn : 0 < n) : ∃ h, A = some ⟨h, 0, none⟩ := by
  obtain ⟨h, c, hv, _⟩ := ho.form hn
  injection hv with hv
  exact ⟨h, hv⟩
theorem own_byte {w : World} {base : Nat} {e : TypeId} {h cap j : Nat} {l : List UInt8} (ho : w.ownsRow base e 1 (.slice (some ⟨h, 0, none⟩) l.length cap) l.length (cb l)) (hj : j < l.length) : w.cell? ⟨h, j, none⟩ = some (.int .u8 (l.getD j 0).toNat) := by
  rw [ho.cellAt j (by omega), cb_at, List.getElem?_eq_getElem hj, List.getD_eq_getElem?_getD, List.getElem?_eq_getElem hj]; rfl
/-- string(b) of bytes that a value owns, nil or not. -/
theorem run_str_any {P : Program} {w : World} {src dst e : TypeId} (hs : P.underlying src = some (.slice e)) (he : P.underlying e = some (.int .u8)) (hd : P.underlying dst = some .string) {base cap : Nat} {A : Option Addr} {l : List UInt8}
    (ho : w.ownsRow base e 1 (.slice A l.length cap) l.length (cb l)) : (convert src dst (.slice A l.length cap)).run P w = .ok (.string ⟨l.toArray⟩) w := by
  rcases ho.2 with ⟨h1, h2⟩ | ⟨g', cap', cur, hv, _⟩
  · injection h1 with h1 h3 h4
    subst h1
    have hl : l = [] := List.eq_nil_of_length_eq_zero h2
    subst hl
    subst h4
    rw [run_convert_bytes_string w src dst e none _ 0 hs he hd]
    rfl
  · injection hv with hv
    subst hv
    exact run_str_own hs he hd ho
end Go.Proofs.YtebllmpdlapefaaGreatDoor
namespace Go.Proofs.YtebllmpdlapefaaGreatDoor
set_option linter.unusedVariables false
set_option linter.unusedSimpArgs false

theorem bytes_ext {a b : ByteArray} (h : a.data.toList = b.data.toList) : a = b := by
  cases a; cases b; simp at h; simpa using h
theorem bytes_of (s : ByteArray) : (⟨s.data.toList.toArray⟩ : ByteArray) = s := bytes_ext (by simp)
theorem toList_size (s : ByteArray) : s.data.toList.length = s.size := by simp
theorem size_of (l : List UInt8) : (⟨l.toArray⟩ : ByteArray).size = l.length := by simp [ByteArray.size]
theorem toList_app (a b : ByteArray) : (a ++ b).data.toList = a.data.toList ++ b.data.toList := by
  rw [ByteArray.data_append]; simp
theorem toList_cut (s : ByteArray) (i j : Nat) : (s.extract i j).data.toList = (s.data.toList.take j).drop i := by
  rw [ByteArray.data_extract, Array.toList_extract, List.extract_eq_take_drop, List.drop_take]
theorem cut_one (s : ByteArray) (k : Nat) (h : k < s.size) : (s.extract k (k + 1)).data.toList = [s[k]] := by
  rw [toList_cut, List.take_succ_eq_append_getElem (by simpa using h), List.drop_append_of_le_length (by simp; omega), List.drop_eq_nil_of_le (by simp; omega)]; rfl
theorem size_cut (s : ByteArray) (i j : Nat) (hj : j ≤ s.size) : (s.extract i j).size = j - i := by
  rw [ByteArray.size_extract, Nat.min_eq_left hj]
theorem size_app (a b : ByteArray) : (a ++ b).size = a.size + b.size := ByteArray.size_append
theorem take_snoc (s : ByteArray) (k : Nat) (h : k < s.size) : s.data.toList.take (k + 1) = s.data.toList.take k ++ [s[k]] := by
  rw [List.take_succ_eq_append_getElem (by simpa using h)]; rfl
theorem drop_cons (s : ByteArray) (k : Nat) (h : k < s.size) : s.data.toList.drop k = s[k] :: s.data.toList.drop (k + 1) := by
  rw [List.drop_eq_getElem_cons (by simpa using h)]; rfl
theorem length_take (s : ByteArray) (k : Nat) (h : k ≤ s.size) : (s.data.toList.take k).length = k := by
  rw [List.length_take, Nat.min_eq_left (by simpa using h)]
theorem take_all (s : ByteArray) : s.data.toList.take s.size = s.data.toList := List.take_of_length_le (by simp)
theorem byte_at (s : ByteArray) (k : Nat) (h : k < s.size) : s.data.toList[k]? = some s[k] := by
  rw [List.getElem?_eq_getElem (by simpa using h)]; rfl
/-- A text that is the bytes of its whole cut. -/
theorem cut_all (s : ByteArray) : s.extract 0 s.size = s := bytes_ext (by rw [toList_cut, take_all]; simp)
theorem cut_cut (s : ByteArray) (i a b : Nat) (hb : i + b ≤ s.size) : (s.extract i s.size).extract a b = s.extract (i + a) (i + b) := by
  apply bytes_ext
  rw [toList_cut, toList_cut, toList_cut, take_all, List.take_drop, List.drop_drop]
theorem get_cut (s : ByteArray) (i k : Nat) (h : i + k < s.size) (h' : k < (s.extract i s.size).size) : (s.extract i s.size)[k] = s[i + k] := by
  have h1 := byte_at (s.extract i s.size) k h'
  rw [toList_cut, take_all, List.getElem?_drop, byte_at s (i + k) h] at h1
  injection h1 with h1; exact h1.symm
theorem empty_ways (t : ByteArray) : (t.size = 0 ∧ t = ⟨#[]⟩) ∨ (t.size ≠ 0 ∧ t.toList.isEmpty = false ∧ (!t.toList.isEmpty) = true) := by
  by_cases h : t.size = 0
  · exact .inl ⟨h, bytes_ext (List.eq_nil_of_length_eq_zero (by simpa using h))⟩
  · refine .inr ⟨h, ?_, ?_⟩ <;> rw [ByteArray.toList_eq] <;> cases h2 : t.data.toList with
    | nil => exact absurd (by rw [← toList_size, h2]; rfl) h
    | cons a b => rfl
theorem beq0 (e : Int) : (e = 0 ∧ (e == 0) = true ∧ (e != 0) = false) ∨ (e ≠ 0 ∧ (e == 0) = false ∧ (e != 0) = true) := by
  by_cases h : e = 0
  · exact .inl ⟨h, by simp [h], by simp [h]⟩
  · exact .inr ⟨h, by simp [h], by simp [h]⟩
theorem str_ways (a b : ByteArray) : (a = b ∧ (a.toList == b.toList) = true ∧ (a.toList != b.toList) = false) ∨ (a ≠ b ∧ (a.toList == b.toList) = false ∧ (a.toList != b.toList) = true) := by
  by_cases h : a = b
  · subst h; exact .inl ⟨rfl, by simp, by simp⟩
  · have h2 : a.toList ≠ b.toList := by
      intro e
      rw [ByteArray.toList_eq, ByteArray.toList_eq] at e
      exact h (bytes_ext e)
    exact .inr ⟨h, by simp [h2], by simp [h2]⟩
end Go.Proofs.YtebllmpdlapefaaGreatDoor
namespace Go.Proofs.YtebllmpdlapefaaGreatDoor
set_option linter.unusedVariables false
set_option linter.unusedSimpArgs false
open Go.RowKit

/-- From w to w' what lies below base stands, and so does every block that is no row of cells of type E. -/
structure Kept (E : TypeId) (base : Nat) (w w' : World) : Prop where
  below : Below base w w'
  other : ∀ (k : Nat) (o : Obj), w.heap[k]? = some o → (∀ cs fr, o ≠ Obj.cells cs E fr) → w'.heap[k]? = some o
theorem Kept.refl (E : TypeId) (base : Nat) (w : World) : Kept E base w w := ⟨Below.refl _ _, fun _ _ h _ => h⟩
theorem Kept.trans {E : TypeId} {base : Nat} {a b c : World} (h : Kept E base a b) (k : Kept E base b c) : Kept E base a c :=
  ⟨h.below.trans k.below, fun i o hi ho => k.other i o (h.other i o hi ho) ho⟩
theorem Kept.of_below {E : TypeId} {base B : Nat} {a b : World} (h : Below B a b) (hB : a.heap.size ≤ B) (hb : base ≤ a.heap.size) : Kept E base a b :=
  ⟨h.mono (by omega), fun i o hi _ => (h.block i (by
    have := (Array.getElem?_eq_some_iff.1 hi).1
    omega)).trans hi⟩
theorem Kept.alloc {E : TypeId} {base : Nat} {a w : World} (h : Kept E base a w) (hb : base ≤ w.heap.size) (o : Obj) : Kept E base a (w.alloc o) :=
  h.trans (Kept.of_below ((Below.refl w.heap.size w).alloc (Nat.le_refl _) o) (Nat.le_refl _) hb)
theorem Kept.drew {E : TypeId} {base : Nat} {a w : World} (h : Kept E base a w) : Kept E base a w.drew := ⟨h.below.drew, h.other⟩
theorem Kept.size {E : TypeId} {base : Nat} {a w : World} (h : Kept E base a w) : a.heap.size ≤ w.heap.size := h.below.size
theorem Kept.mono {E : TypeId} {base base' : Nat} {a w : World} (h : Kept E base a w) (hb : base' ≤ base) : Kept E base' a w := ⟨h.below.mono hb, h.other⟩

/-- The value v is a slice of the bytes l, in a row of the call's own (from block base on), or nil. -/
def Buf (w : World) (base : Nat) (E : TypeId) (v : Value) (l : List UInt8) : Prop :=
  ∃ A cap, v = .slice A l.length cap ∧ l.length ≤ cap ∧ cap ≤ 9223372036854775807 ∧
    ((A = none ∧ cap = 0) ∨ ∃ g cur fr, A = some ⟨g, 0, none⟩ ∧ base ≤ g ∧ w.heap[g]? = some (.cells cur E fr) ∧ cur.size = cap ∧ cur.toList.take l.length = cb l ∧ (fr.2 = 0 ∨ cap ≤ fr.1))
theorem Buf.nil (w : World) (base : Nat) (E : TypeId) : Buf w base E (.slice none 0 0) [] := ⟨none, 0, rfl, by simp, by simp, .inl ⟨rfl, rfl⟩⟩
theorem Buf.form {w : World} {base : Nat} {E : TypeId} {v : Value} {l : List UInt8} (h : Buf w base E v l) : ∃ A cap, v = .slice A l.length cap ∧ l.length ≤ cap ∧ cap ≤ 9223372036854775807 := by
  obtain ⟨A, cap, h1, h2, h3, _⟩ := h
  exact ⟨A, cap, h1, h2, h3⟩
/-- Every block stands but perhaps those of cells below base: a Buf stands where its block does. -/
theorem Buf.of_heap {w w' : World} {base : Nat} {E : TypeId} {v : Value} {l : List UInt8} (h : Buf w base E v l) (hk : ∀ k, base ≤ k → k < w.heap.size → w'.heap[k]? = w.heap[k]?) : Buf w' base E v l := by
  obtain ⟨A, cap, h1, h2, h3, h4⟩ := h
  refine ⟨A, cap, h1, h2, h3, ?_⟩
  rcases h4 with h4 | ⟨g, cur, fr, hA, hg, hh, r⟩
  · exact .inl h4
  · exact .inr ⟨g, cur, fr, hA, hg, (hk g hg (Array.getElem?_eq_some_iff.1 hh).1).trans hh, r⟩
theorem Buf.below {w w' : World} {base : Nat} {E : TypeId} {v : Value} {l : List UInt8} (h : Buf w base E v l) (hb : Below w.heap.size w w') : Buf w' base E v l := h.of_heap fun k _ hk => hb.block k hk
theorem Buf.alloc {w : World} {base : Nat} {E : TypeId} {v : Value} {l : List UInt8} (h : Buf w base E v l) (o : Obj) : Buf (w.alloc o) base E v l := h.below ((Below.refl _ _).alloc (Nat.le_refl _) o)
theorem Buf.drew {w : World} {base : Nat} {E : TypeId} {v : Value} {l : List UInt8} (h : Buf w base E v l) : Buf w.drew base E v l := h
theorem Buf.mono {w : World} {base base' : Nat} {E : TypeId} {v : Value} {l : List UInt8} (h : Buf w base E v l) (hb : base' ≤ base) : Buf w base' E v l := by
  obtain ⟨A, cap, h1, h2, h3, h4⟩ := h
  refine ⟨A, cap, h1, h2, h3, ?_⟩
  rcases h4 with h4 | ⟨g, cur, fr, hA, hg, r⟩
  · exact .inl h4
  · exact .inr ⟨g, cur, fr, hA, by omega, r⟩
/-- Only its own block, and others below base, turned. -/
theorem Buf.only {w w' : World} {base : Nat} {E : TypeId} {v : Value} {l : List UInt8} {L : List Nat} (h : Buf w base E v l) (ho : Only L w w') (hL : ∀ g, g ∈ L → g < base ∨ ∃ cs t fr, w.heap[g]? = some (.cells cs t fr) ∧ t ≠ E) : Buf w' base E v l := by
  obtain ⟨A, cap, h1, h2, h3, h4⟩ := h
  refine ⟨A, cap, h1, h2, h3, ?_⟩
  rcases h4 with h4 | ⟨g, cur, fr, hA, hg, hh, r⟩
  · exact .inl h4
  · refine .inr ⟨g, cur, fr, hA, hg, (ho.block g (Array.getElem?_eq_some_iff.1 hh).1 fun hgL => ?_).trans hh, r⟩
    rcases hL g hgL with h5 | ⟨cs, t, fr', h5, h6⟩
    · omega
    · rw [hh] at h5; injection h5 with h5; injection h5 with _ h7; exact h6 h7.symm
theorem Buf.own {w : World} {base : Nat} {E : TypeId} {v : Value} {l : List UInt8} (h : w.ownsRow base E 1 v l.length (cb l)) : Buf w base E v l := by
  obtain ⟨h1, h2⟩ := h
  rcases h2 with ⟨h2, h3⟩ | ⟨g, cap, cur, hv, hg, hh, hn, hm, hs, ht⟩
  · refine ⟨none, 0, by rw [h2, h3], by omega, by simp, .inl ⟨rfl, rfl⟩⟩
  · exact ⟨some ⟨g, 0, none⟩, cap, hv, hn, by simpa [maxLen] using hm, .inr ⟨g, cur, (0, 0), rfl, hg, hh, by simpa using hs, by simpa using ht, .inl rfl⟩⟩
theorem frozen_at {w : World} {g i : Nat} {cur : Array Value} {E : TypeId} {fr : Nat × Nat} (hh : w.heap[g]? = some (.cells cur E fr)) (hfr : fr.2 = 0 ∨ i < fr.1) : w.frozen? ⟨g, i, none⟩ = false := by
  obtain ⟨lo, hi⟩ := fr
  simp [World.frozen?, hh]
  simp at hfr
  omega
theorem Buf.cells {w : World} {base : Nat} {E : TypeId} {A : Option Addr} {cap : Nat} {l : List UInt8} (h : Buf w base E (.slice A l.length cap) l) : ∀ a, A = some a → ∀ j u, (cb l)[j]? = some u → w.cell? (a.add j) = some u := by
  obtain ⟨A', cap', h1, h2, h3, h4⟩ := h
  injection h1 with hA _ hc
  subst hA; subst hc
  intro a ha j u hu
  rcases h4 with ⟨h4, _⟩ | ⟨g, cur, fr, hA, hg, hh, hs, ht, hfr⟩
  · rw [h4] at ha; cases ha
  · rw [hA] at ha
    injection ha with ha
    subst ha
    have e1 : (⟨g, 0, none⟩ : Addr).add j = ⟨g, j, none⟩ := by unfold Addr.add; split <;> simp_all
    have hj : j < l.length := by have := (List.getElem?_eq_some_iff.1 hu).1; rwa [cb_length] at this
    rw [e1]
    simp only [World.cell?, hh]
    rw [← ht, List.getElem?_take_of_lt hj] at hu
    simpa using hu
/-- string(b). -/
theorem Buf.str {P : Program} {w : World} {src dst e : TypeId} (hs : P.underlying src = some (.slice e)) (he : P.underlying e = some (.int .u8)) (hd : P.underlying dst = some .string) {base cap : Nat} {E : TypeId} {A : Option Addr} {l : List UInt8}
    (h : Buf w base E (.slice A l.length cap) l) : (convert src dst (.slice A l.length cap)).run P w = .ok (.string ⟨l.toArray⟩) w := by
  cases A with
  | none =>
    obtain ⟨A', cap', h1, h2, h3, h4⟩ := h
    injection h1 with hA _ hc
    subst hA; subst hc
    rcases h4 with ⟨_, h4⟩ | ⟨g, cur, fr, hA, _⟩
    · subst h4
      have hl : l = [] := List.eq_nil_of_length_eq_zero (by omega)
      subst hl
      rw [run_convert_bytes_string w src dst e none _ 0 hs he hd]
      rfl
    · cases hA
  | some a => exact run_str w src dst e hs he hd a cap l (h.cells a rfl)
theorem Buf.len {w : World} {base : Nat} {E : TypeId} {A : Option Addr} {n cap : Nat} {l : List UInt8} (h : Buf w base E (.slice A n cap) l) : n = l.length ∧ n ≤ cap ∧ cap ≤ 9223372036854775807 := by
  obtain ⟨A', cap', h1, h2, h3, _⟩ := h
  injection h1 with hA hn hc
  subst hc; subst hn
  exact ⟨rfl, h2, h3⟩
theorem Buf.str' {P : Program} {w : World} {src dst e : TypeId} (hs : P.underlying src = some (.slice e)) (he : P.underlying e = some (.int .u8)) (hd : P.underlying dst = some .string) {base n cap : Nat} {E : TypeId} {A : Option Addr} {l : List UInt8}
    (h : Buf w base E (.slice A n cap) l) : (convert src dst (.slice A n cap)).run P w = .ok (.string ⟨l.toArray⟩) w := by
  obtain ⟨hn, _⟩ := h.len
  subst hn
  exact h.str hs he hd
/-- []byte(s). -/
theorem Buf.conv (w : World) (base : Nat) (E : TypeId) (s : ByteArray) (hb : base ≤ w.heap.size) (hs : s.size ≤ 9223372036854775807) : Buf (Lib.bytesWorld w E s) base E (.slice (some ⟨w.heap.size, 0, none⟩) s.size (grownCap w s.size 0 E)) s.data.toList := by
  have h1 := grownCap_ge w s.size 0 E
  have h2 := grownCap_le_maxLen w s.size 0 E (by simpa [maxLen] using hs)
  have hz : (Lib.bytesCells w E s).size = grownCap w s.size 0 E := by simp [Lib.bytesCells]; omega
  refine ⟨_, _, by rw [toList_size], by rw [toList_size]; exact h1, by simpa [maxLen] using h2, .inr ⟨w.heap.size, Lib.bytesCells w E s, _, rfl, hb, Lib.bytesWorld_at_new w E s, hz, ?_, .inr (by rw [hz]; exact Nat.le_refl _)⟩⟩
  simp [Lib.bytesCells, cb]
theorem setCell_heap {w : World} {g o : Nat} {cur : Array Value} {E : TypeId} {fr : Nat × Nat} (v : Value) (h : w.heap[g]? = some (.cells cur E fr)) : (w.setCell ⟨g, o, none⟩ v).heap[g]? = some (.cells (cur.setIfInBounds o v) E fr) := by
  simp [World.setCell, Array.getElem?_modify, h]
theorem setCells_heap {g : Nat} {E : TypeId} {fr : Nat × Nat} : ∀ (vs : List Value) (o : Nat) (w : World) (cur : Array Value), w.heap[g]? = some (.cells cur E fr) → o + vs.length ≤ cur.size →
    ∃ cur', (w.setCells g o vs).heap[g]? = some (.cells cur' E fr) ∧ cur'.size = cur.size ∧ cur'.toList.take (o + vs.length) = cur.toList.take o ++ vs
  | [], o, w, cur, h, _ => ⟨cur, h, rfl, by simp⟩
  | v :: vs, o, w, cur, h, hl => by
    simp only [List.length_cons] at hl
    obtain ⟨cur', h1, h2, h3⟩ := setCells_heap vs (o + 1) (w.setCell ⟨g, o, none⟩ v) (cur.setIfInBounds o v) (setCell_heap v h) (by simp; omega)
    refine ⟨cur', h1, by simpa using h2, ?_⟩
    rw [List.length_cons, show o + (vs.length + 1) = o + 1 + vs.length from by omega, h3]
    have e : (cur.setIfInBounds o v).toList.take (o + 1) = cur.toList.take o ++ [v] := by
      rw [Array.toList_setIfInBounds, List.take_succ_eq_append_getElem (by simp; omega), List.getElem_set_self, List.take_set_of_le (Nat.le_refl _)]
    rw [e, List.append_assoc]; rfl
theorem setCells_size (w : World) (g o : Nat) (vs : List Value) : (w.setCells g o vs).heap.size = w.heap.size := by
  induction vs generalizing w o with
  | nil => rfl
  | cons v vs ih => rw [World.setCells, ih]; simp [World.setCell]
theorem setCells_tape (w : World) (g o : Nat) (vs : List Value) : (w.setCells g o vs).tape = w.tape := by
  induction vs generalizing w o with
  | nil => rfl
  | cons v vs ih => rw [World.setCells, ih]; rfl
theorem setCells_kept {w : World} {base g o : Nat} {E : TypeId} {cur : Array Value} {fr : Nat × Nat} (hh : w.heap[g]? = some (.cells cur E fr)) (hg : base ≤ g) (vs : List Value) : Kept E base w (w.setCells g o vs) := by
  have hblk : ∀ k, k ≠ g → (w.setCells g o vs).heap[k]? = w.heap[k]? := by
    intro k hk
    by_cases hlt : k < w.heap.size
    · exact World.heap_setCells_other w g o vs hlt hk
    · rw [Array.getElem?_eq_none (by rw [setCells_size]; omega), Array.getElem?_eq_none (by omega)]
  refine ⟨⟨World.os_setCells w g o vs, setCells_tape w g o vs, World.output_setCells w g o vs, by rw [setCells_size]; exact Nat.le_refl _, fun k hk => hblk k (by omega)⟩, fun k ob hk hne => ?_⟩
  rw [hblk k (by rintro rfl; rw [hh] at hk; injection hk with hk; exact hne _ _ hk.symm)]
  exact hk
theorem Buf.at_ {w : World} {base : Nat} {E : TypeId} {g n cap k : Nat} {l : List UInt8} (h : Buf w base E (.slice (some ⟨g, 0, none⟩) n cap) l) (hk : k < l.length) : w.cell? ⟨g, k, none⟩ = some (.int .u8 (l.getD k 0).toNat) ∧ w.frozen? ⟨g, k, none⟩ = false ∧ base ≤ g ∧ g < w.heap.size := by
  obtain ⟨A', cap', h1, h2, h3, h4⟩ := h
  injection h1 with hA hn hc
  subst hA; subst hc; subst hn
  rcases h4 with ⟨h4, _⟩ | ⟨g', cur, fr, hA, hg, hh, hs, ht, hfr⟩
  · cases h4
  · injection hA with hA
    injection hA with hA
    subst hA
    refine ⟨?_, frozen_at hh (by rcases hfr with h | h; exact .inl h; exact .inr (by omega)), hg, (Array.getElem?_eq_some_iff.1 hh).1⟩
    have hb : (cb l)[k]? = some (.int .u8 (l.getD k 0).toNat) := by rw [cb_at, List.getElem?_eq_getElem hk, List.getD_eq_getElem?_getD, List.getElem?_eq_getElem hk]; rfl
    rw [← ht, List.getElem?_take_of_lt hk] at hb
    simp only [World.cell?, hh]
    simpa using hb
theorem Buf.set {w : World} {base : Nat} {E : TypeId} {g n cap k : Nat} {l : List UInt8} (h : Buf w base E (.slice (some ⟨g, 0, none⟩) n cap) l) (hk : k < l.length) (b : UInt8) : Buf (w.setCell ⟨g, k, none⟩ (.int .u8 b.toNat)) base E (.slice (some ⟨g, 0, none⟩) n cap) (l.set k b) := by
  obtain ⟨A', cap', h1, h2, h3, h4⟩ := h
  injection h1 with hA hn hc
  subst hA; subst hc; subst hn
  rcases h4 with ⟨h4, _⟩ | ⟨g', cur, fr, hA, hg, hh, hs, ht, hfr⟩
  · cases h4
  · injection hA with hA
    injection hA with hA
    subst hA
    refine ⟨_, cap, by rw [List.length_set], by rw [List.length_set]; exact h2, h3, .inr ⟨g, _, fr, rfl, hg, setCell_heap _ hh, by simpa using hs, ?_, hfr⟩⟩
    rw [List.length_set, Array.toList_setIfInBounds, List.take_set, ht]
    simp [cb, List.map_set]
theorem Kept.store {E : TypeId} {base g k : Nat} {a w : World} {cur : Array Value} {fr : Nat × Nat} (h : Kept E base a w) (hh : w.heap[g]? = some (.cells cur E fr)) (hg : base ≤ g) (v : Value) : Kept E base a (w.setCell ⟨g, k, none⟩ v) :=
  h.trans (setCells_kept (o := k) hh hg [v])
theorem Buf.block {w : World} {base : Nat} {E : TypeId} {g n cap : Nat} {l : List UInt8} (h : Buf w base E (.slice (some ⟨g, 0, none⟩) n cap) l) : ∃ cur fr, w.heap[g]? = some (.cells cur E fr) ∧ base ≤ g := by
  obtain ⟨A', cap', h1, h2, h3, h4⟩ := h
  injection h1 with hA _ hc
  subst hA
  rcases h4 with ⟨h4, _⟩ | ⟨g', cur, fr, hA, hg, hh, hs, ht, hfr⟩
  · cases h4
  · injection hA with hA
    injection hA with hA
    subst hA
    exact ⟨cur, fr, hh, hg⟩
theorem made_bytes (n : Nat) : (madeCells (Value.int .u8 0).cells (n * 1)).toList = cb (List.replicate n 0) := by
  have h1 : (Value.int .u8 0).cells = #[.int .u8 0] := rfl
  rw [h1, Nat.mul_one]
  apply List.ext_getElem
  · simp [madeCells, cb]
  · intro i h2 h3
    simp [madeCells, cb, Nat.mod_one]
/-- One append, from whatever source. -/
theorem Buf.append {P : Program} {w : World} {base : Nat} {E : TypeId} {v : Value} {l : List UInt8} (h : Buf w base E v l) (t tx ty : TypeId) (i : TypeInfo) (ht : P.underlying t = some (.slice E)) (hi : P.info? E = some i) (hz : i.zero = some (.int .u8 0)) (h1 : i.size = 1) (hby : i.bytes = 1)
    (xv : Value) (m : List UInt8) (hs : Src P 1 tx xv m.length (cb m) w) (hb : base ≤ w.heap.size) (hlen : l.length + m.length ≤ 140737488355328) :
    ∃ v' w', (Builtin.append_ #[t, tx] ty #[v, xv]).run P w = .ok v' w' ∧ Buf w' base E v' (l ++ m) ∧ Kept E base w w' := by
  obtain ⟨A, cap, rfl, hlc, hcm, h4⟩ := h
  have hs' : Src P i.size tx xv m.length (cb m) w := by rw [h1]; exact hs
  by_cases hroom : l.length + m.length ≤ cap
  · rcases h4 with ⟨hA, hc0⟩ | ⟨g, cur, fr, hA, hg, hh, hsz, htk, hfr⟩
    · subst hA; subst hc0
      have hl0 : l = [] := List.eq_nil_of_length_eq_zero (by omega)
      have hm0 : m = [] := List.eq_nil_of_length_eq_zero (by omega)
      subst hl0; subst hm0
      exact ⟨_, w, Go.run_append_nothing w t tx ty E i ht hi none 0 0 (Nat.le_refl _) xv hs', Buf.nil w base E, Kept.refl E base w⟩
    · subst hA
      have hrun := run_append_room_src (P := P) w t tx ty E i ht hi g 0 l.length cap xv m.length (cb m) hs' hroom
        (by
          intro j hj
          rw [cb_length] at hj
          have : 0 + l.length * i.size + j < cur.size := by rw [h1, hsz]; omega
          simp only [World.cell?, hh]
          rw [Array.getElem?_eq_getElem this]; rfl)
        (by
          intro j hj
          rw [cb_length] at hj
          exact frozen_at hh (by rw [h1]; rcases hfr with h | h; exact .inl h; exact .inr (by omega)))
      rw [h1, Nat.mul_one, Nat.zero_add] at hrun
      obtain ⟨cur', c1, c2, c3⟩ := setCells_heap (cb m) l.length w cur hh (by rw [cb_length]; omega)
      refine ⟨_, _, hrun, ⟨_, cap, by rw [List.length_append], by rw [List.length_append]; exact hroom, hcm, .inr ⟨g, cur', fr, rfl, hg, c1, by omega, ?_, hfr⟩⟩, setCells_kept hh hg _⟩
      rw [List.length_append, cb_append]
      rw [cb_length, htk] at c3
      exact c3
  · have hold : (Builtin.firstCells i.size l.length (.slice A l.length cap)).run P w.drew = .ok (cb l).toArray w.drew := by
      rcases h4 with ⟨hA, hc0⟩ | ⟨g, cur, fr, hA, hg, hh, hsz, htk, hfr⟩
      · subst hA; subst hc0
        have hl0 : l = [] := List.eq_nil_of_length_eq_zero (by omega)
        subst hl0
        exact run_firstCells_none w.drew i.size 0 0 0
      · have hc := Buf.cells (w := w) (base := base) (E := E) (A := A) (cap := cap) (l := l) ⟨A, cap, rfl, hlc, hcm, .inr ⟨g, cur, fr, hA, hg, hh, hsz, htk, hfr⟩⟩ ⟨g, 0, none⟩ hA
        subst hA
        exact run_firstCells_some w.drew i.size l.length _ l.length cap (cb l) (by rw [cb_length, h1, Nat.mul_one]) hc
    have hfit : Builtin.nextslicecap (l.length + m.length) cap * i.bytes ≤ 281474976710656 := by
      rw [hby]
      exact growslice_fits (by omega) (by omega)
    have hrun := run_append_grow_src (P := P) w t tx ty E i (.int .u8 0) ht hi hz A l.length cap (cb l) hold xv m.length (cb m) hs' (by omega) (by omega) hfit
    have g1 := grownCap_ge w (l.length + m.length) cap E
    have g2 := grownCap_le_maxLen w (l.length + m.length) cap E (by simp [maxLen]; omega)
    refine ⟨_, _, hrun, ⟨_, _, by rw [List.length_append], by rw [List.length_append]; exact g1, by simpa [maxLen] using g2, .inr ⟨w.heap.size, _, (0, 0), rfl, hb, heap_alloc_new w.drew _, ?_, ?_, .inl rfl⟩⟩, ((Kept.refl E base w).drew.alloc (by simpa using hb) _)⟩
    · simp only [Array.size_append, List.size_toArray, List.length_append, cb_length, size_zeroCells]
      have : (Value.int .u8 0).cells.size = 1 := rfl
      rw [this]; omega
    · rw [Array.toList_append, List.length_append, List.take_append_of_le_length (by simp [cb_length]), cb_append]
      exact List.take_of_length_le (by simp [cb_length])
theorem Kept.of_none {E : TypeId} {base : Nat} {w w' : World} (h : w.grownBy w' none) (hb : base ≤ w.heap.size) : Kept E base w w' :=
  ⟨⟨h.os, h.tape, h.output, h.size, fun k hk => h.block k (by omega) (by simp)⟩, fun k o hk _ => (h.block k (Array.getElem?_eq_some_iff.1 hk).1 (by simp)).trans hk⟩
/-- The law at the operation. -/
theorem wpList_append_buf {P : Program} {w : World} {ops : Array Oper} {rest : List Oper} {o : Oper} {a : Act} {Q : Exit → Act → World → Prop} (hgd : o.guard = none) (s x : Operand) (t tx : TypeId)
    (ho : o.op = .call { callee := .builtin .append, args := #[s, x], argTypes := #[t, tx] }) (base : Nat) (E : TypeId) (i : TypeInfo) (ht : P.underlying t = some (.slice E)) (hi : P.info? E = some i) (hz : i.zero = some (.int .u8 0)) (h1 : i.size = 1) (hby : i.bytes = 1)
    {v : Value} {l : List UInt8} (hv : a.eval s = v) (h : Buf w base E v l) (xv : Value) (m : List UInt8) (hx : a.eval x = xv) (hs : Src P 1 tx xv m.length (cb m) w) (hb : base ≤ w.heap.size) (hlen : l.length + m.length ≤ 140737488355328)
    (hK : ∀ (A' : Option Addr) (n' cap' : Nat) w', Buf w' base E (.slice A' n' cap') (l ++ m) → Kept E base w w' → wpList P ops Q rest (a.put o.dst (.slice A' n' cap')) w') : wpList P ops Q (o :: rest) a w := by
  refine wpList_plain hgd fun K hK' => ?_
  obtain ⟨v', w', hrun, r1, r2⟩ := h.append (P := P) t tx o.type i ht hi hz h1 hby xv m hs hb hlen
  obtain ⟨A', cap', hv', _⟩ := r1.form
  unfold Oper.wp
  simp [execOp, ho, resolve, invoke, builtin, hv, hx, hrun, Result.andThen]
  subst hv'
  exact hK' _ _ (hK _ _ _ w' r1 r2)
/-- A literal's bytes, just laid. -/
theorem src_new {P : Program} {tx e' : TypeId} (hk : P.underlying tx = some (.slice e')) (w : World) (E : TypeId) (cs : Array Value) (m : List UInt8) (c : Nat) (hcs : cs.toList = cb m) : Src P 1 tx (.slice (some ⟨w.heap.size, 0, none⟩) m.length c) m.length (cb m) (w.alloc (.cells cs E)) :=
  Src.ofSlice _ hk _ _ _ _ (by rw [cb_length, Nat.mul_one]) (fun j u hu => World.news_of_block (heap_alloc_new w (.cells cs E)) j u (by rw [← hcs] at hu; simpa using hu)) (cb_one m)
theorem src_str {P : Program} {tx : TypeId} (hk : P.underlying tx = some .string) (w : World) (s : ByteArray) : Src P 1 tx (.string s) s.data.toList.length (cb s.data.toList) w := by
  have := Src.ofString (P := P) w hk s
  rw [toList_size]; exact this
theorem src_buf {P : Program} {tx e' : TypeId} (hk : P.underlying tx = some (.slice e')) {w : World} {base : Nat} {E : TypeId} {v : Value} {m : List UInt8} (h : Buf w base E v m) : Src P 1 tx v m.length (cb m) w := by
  obtain ⟨A, cap, rfl, h2, h3⟩ := h.form
  cases A with
  | none =>
    obtain ⟨A', cap', h1, _, _, h4⟩ := h
    injection h1 with hA _ hc
    subst hA; subst hc
    rcases h4 with ⟨_, h4⟩ | ⟨g, cur, fr, hA, _⟩
    · subst h4
      have hl : m = [] := List.eq_nil_of_length_eq_zero (by omega)
      subst hl
      exact Src.ofNil w hk 0
    · cases hA
  | some ad => exact Src.ofSlice w hk ad _ _ _ (by rw [cb_length, Nat.mul_one]) (h.cells ad rfl) (cb_one m)
theorem cb_ub1 {a : Int} {x : Nat} (h : a = x) (hx : x < 256) : (#[Value.int .u8 a] : Array Value).toList = cb [ub x] := by
  subst h; simp [cb, ub_toNat x hx]
theorem cb_ub2 {a b : Int} {x y : Nat} (h : a = x) (hx : x < 256) (h' : b = y) (hy : y < 256) : (#[Value.int .u8 a, .int .u8 b] : Array Value).toList = cb [ub x, ub y] := by
  subst h; subst h'; simp [cb, ub_toNat x hx, ub_toNat y hy]
end Go.Proofs.YtebllmpdlapefaaGreatDoor
namespace Go.Proofs.YtebllmpdlapefaaGreatDoor
set_option linter.unusedVariables false
set_option linter.unusedSimpArgs false
open Go.RowKit

theorem wp_append_buf {P : Program} {w : World} {o : Oper} {a : Act} {K : Act → World → Prop} {Q : Exit → Act → World → Prop} (s x : Operand) (t tx : TypeId)
    (ho : o.op = .call { callee := .builtin .append, args := #[s, x], argTypes := #[t, tx] }) (base : Nat) (E : TypeId) (i : TypeInfo) (ht : P.underlying t = some (.slice E)) (hi : P.info? E = some i) (hz : i.zero = some (.int .u8 0)) (h1 : i.size = 1) (hby : i.bytes = 1)
    {v : Value} {l : List UInt8} (hv : a.eval s = v) (h : Buf w base E v l) (xv : Value) (m : List UInt8) (hx : a.eval x = xv) (hs : Src P 1 tx xv m.length (cb m) w) (hb : base ≤ w.heap.size) (hlen : l.length + m.length ≤ 140737488355328)
    (hK : ∀ (A' : Option Addr) (n' cap' : Nat) w', Buf w' base E (.slice A' n' cap') (l ++ m) → Kept E base w w' → K (a.put o.dst (.slice A' n' cap')) w') : Oper.wp P o a w K Q := by
  obtain ⟨v', w', hrun, r1, r2⟩ := h.append (P := P) t tx o.type i ht hi hz h1 hby xv m hs hb hlen
  obtain ⟨A', cap', hv', _⟩ := r1.form
  unfold Oper.wp
  simp [execOp, ho, resolve, invoke, builtin, hv, hx, hrun, Result.andThen]
  subst hv'
  exact hK _ _ _ w' r1 r2
/-- At a step of a region that draws its order. -/
theorem step_append_buf {P : Program} {w : World} {ops : Array Oper} {o : Oper} {a : Act} {K : Act → World → Prop} {Q : Exit → Act → World → Prop} {E' : Prop} (hgd : o.guard = none) (s x : Operand) (t tx : TypeId)
    (ho : o.op = .call { callee := .builtin .append, args := #[s, x], argTypes := #[t, tx] }) (base : Nat) (E : TypeId) (i : TypeInfo) (ht : P.underlying t = some (.slice E)) (hi : P.info? E = some i) (hz : i.zero = some (.int .u8 0)) (h1 : i.size = 1) (hby : i.bytes = 1)
    {v : Value} {l : List UInt8} (hv : a.eval s = v) (h : Buf w base E v l) (xv : Value) (m : List UInt8) (hx : a.eval x = xv) (hs : Src P 1 tx xv m.length (cb m) w) (hb : base ≤ w.heap.size) (hlen : l.length + m.length ≤ 140737488355328)
    (hK : ∀ (A' : Option Addr) (n' cap' : Nat) w', Buf w' base E (.slice A' n' cap') (l ++ m) → Kept E base w w' → K (a.put o.dst (.slice A' n' cap')) w') :
    if Region.wanted o (yielded ops a.tmps) = true then Oper.wp P o a w K Q else E' := by
  have hw : Region.wanted o (yielded ops a.tmps) = true := by simp [Region.wanted, hgd]
  rw [if_pos hw]
  exact wp_append_buf s x t tx ho base E i ht hi hz h1 hby hv h xv m hx hs hb hlen hK
theorem src_lit {P : Program} {tx e' : TypeId} (hk : P.underlying tx = some (.slice e')) (w : World) (E : TypeId) (cs : Array Value) (m : List UInt8) (c g : Nat) (hg : g = w.heap.size) (hcs : cs.toList = cb m) : Src P 1 tx (.slice (some ⟨g, 0, none⟩) m.length c) m.length (cb m) (w.alloc (.cells cs E)) := by
  subst hg; exact src_new hk w E cs m c hcs
theorem src_litD {P : Program} {tx e' : TypeId} (hk : P.underlying tx = some (.slice e')) (w : World) (E : TypeId) (cs : Array Value) (m : List UInt8) (c g : Nat) (hg : g = w.heap.size) (hcs : cs.toList = cb m) : Src P 1 tx (.slice (some ⟨g, 0, none⟩) m.length c) m.length (cb m) (w.alloc (.cells cs E)).drew := by
  subst hg
  exact Src.ofSlice _ hk _ _ _ _ (by rw [cb_length, Nat.mul_one]) (fun j u hu => show (w.alloc (.cells cs E)).cell? _ = _ from World.news_of_block (heap_alloc_new w (.cells cs E)) j u (by rw [← hcs] at hu; simpa using hu)) (cb_one m)
theorem Buf.form' {w : World} {base : Nat} {E : TypeId} {v : Value} {l : List UInt8} (h : Buf w base E v l) : ∃ A n cap, v = .slice A n cap ∧ Hid (n = l.length) ∧ n ≤ cap ∧ cap ≤ 9223372036854775807 := by
  obtain ⟨A, cap, h1, h2, h3⟩ := h.form
  exact ⟨A, _, cap, h1, Lib.hid rfl, h2, h3⟩
theorem Blk.kept {E : TypeId} {base g : Nat} {w w' : World} {t : TypeId} {cs : Array Value} (h : Blk w g t cs) (hk : Kept E base w w') (hne : t ≠ E) : Blk w' g t cs := hk.other g _ h (by
  intro c f e; injection e with _ e2; exact hne e2)
theorem Blk.keep {w w' : World} {g B : Nat} {t : TypeId} {cs : Array Value} (h : Blk w g t cs) (hb : Below B w w') (hg : g < B) : Blk w' g t cs := (hb.block g hg).trans h
theorem blk3 {w : World} {g : Nat} {t : TypeId} {a b c : Value} (h : Blk w g t #[a, b, c]) : w.cell? ⟨g, 0, none⟩ = some a ∧ w.cell? ⟨g, 1, none⟩ = some b ∧ w.cell? ⟨g, 2, none⟩ = some c ∧ w.frozen? ⟨g, 0, none⟩ = false ∧ w.frozen? ⟨g, 1, none⟩ = false ∧ w.frozen? ⟨g, 2, none⟩ = false :=
  ⟨h.cell 0, h.cell 1, h.cell 2, h.frozen 0, h.frozen 1, h.frozen 2⟩
end Go.Proofs.YtebllmpdlapefaaGreatDoor
namespace Go.Proofs.YtebllmpdlapefaaGreatDoor
set_option linter.unusedVariables false
set_option linter.unusedSimpArgs false
open Go.RowKit

/-- Only v's own block, and new ones, have turned; v' lies where v does, or in a new one. -/
structure GrB (w w' : World) (v v' : Value) : Prop where
  grown : w.grownBy w' v.ownBlock
  own : v'.ownBlock = v.ownBlock ∨ ∃ g, v'.ownBlock = some g ∧ w.heap.size ≤ g
theorem GrB.refl (w : World) (v : Value) : GrB w w v v := ⟨World.grownBy.refl _ _, .inl rfl⟩
theorem GrB.size {w w' : World} {v v' : Value} (h : GrB w w' v v') : w.heap.size ≤ w'.heap.size := h.grown.size
theorem GrB.trans {a b c : World} {v v' v'' : Value} (h : GrB a b v v') (k : GrB b c v' v'') : GrB a c v v'' := by
  refine ⟨h.grown.andThen k.grown fun j hj => ?_, ?_⟩
  · rcases h.own with e | ⟨g, e, hg⟩
    · exact .inr (by rw [← e, hj])
    · rw [e] at hj; injection hj with hj; exact .inl (by omega)
  · rcases k.own with e | ⟨g, e, hg⟩
    · rcases h.own with e2 | ⟨g2, e2, hg2⟩
      · exact .inl (e.trans e2)
      · exact .inr ⟨g2, e.trans e2, hg2⟩
    · exact .inr ⟨g, e, by have := h.size; omega⟩
theorem grownBy_none {a b : World} (h : Below a.heap.size a b) : a.grownBy b none := ⟨h.os, h.tape, h.output, h.size, fun k hk _ => h.block k hk⟩
theorem grownBy_any {a b : World} (h : a.grownBy b none) (r : Option Nat) : a.grownBy b r := ⟨h.os, h.tape, h.output, h.size, fun k hk _ => h.block k hk (by simp)⟩
/-- What is made ahead, or drawn, turns nothing. -/
theorem GrB.ahead {a b c : World} {v v' : Value} (h : Below a.heap.size a b) (k : GrB b c v v') : GrB a c v v' := (show GrB a b v v from ⟨grownBy_any (grownBy_none h) _, .inl rfl⟩).trans k
theorem GrB.behind {a b c : World} {v v' : Value} (h : GrB a b v v') (k : Below b.heap.size b c) : GrB a c v v' := h.trans (show GrB b c v' v' from ⟨grownBy_any (grownBy_none k) _, .inl rfl⟩)
theorem GrB.below {B : Nat} {a b c : World} {v v' : Value} (h : Below B a b) (k : GrB b c v v') (hB : B ≤ b.heap.size) (hv : ∀ g, v.ownBlock = some g → B ≤ g) : Below B a c := h.grown k.grown hB hv
theorem GrB.block {a b : World} {v v' : Value} (h : GrB a b v v') {k : Nat} (hk : k < a.heap.size) (hne : v.ownBlock ≠ some k) : b.heap[k]? = a.heap[k]? := h.grown.block k hk (fun e => hne e.symm)
theorem Buf.ge {w : World} {base : Nat} {E : TypeId} {v : Value} {l : List UInt8} (h : Buf w base E v l) : ∀ g, v.ownBlock = some g → base ≤ g ∧ g < w.heap.size ∧ ∃ cur fr, w.heap[g]? = some (.cells cur E fr) := by
  obtain ⟨A, cap, rfl, h2, h3, h4⟩ := h
  intro g hg
  rcases h4 with ⟨hA, _⟩ | ⟨g', cur, fr, hA, hb, hh, _⟩
  · subst hA; cases hg
  · subst hA
    have : g' = g := by simpa [Value.ownBlock] using hg
    subst this
    exact ⟨hb, lt_of_block hh, cur, fr, hh⟩
theorem Buf.own_ne {w : World} {base : Nat} {E t : TypeId} {v : Value} {l : List UInt8} {g : Nat} {cs : Array Value} {fr : Nat × Nat} (h : Buf w base E v l) (hh : w.heap[g]? = some (.cells cs t fr)) (hne : t ≠ E) : v.ownBlock ≠ some g := by
  intro e
  obtain ⟨_, _, cur, fr', h'⟩ := h.ge g e
  rw [hh] at h'
  injection h' with h'
  injection h' with _ h'
  exact hne h'
/-- It stands where its own block does. -/
theorem Buf.keep {w w' : World} {base : Nat} {E : TypeId} {v : Value} {l : List UInt8} (h : Buf w base E v l) (hk : ∀ k, k < w.heap.size → v.ownBlock = some k → w'.heap[k]? = w.heap[k]?) : Buf w' base E v l := by
  obtain ⟨A, cap, rfl, h2, h3, h4⟩ := h
  refine ⟨A, cap, rfl, h2, h3, ?_⟩
  rcases h4 with h4 | ⟨g, cur, fr, hA, hg, hh, r⟩
  · exact .inl h4
  · exact .inr ⟨g, cur, fr, hA, hg, (hk g (lt_of_block hh) (by subst hA; rfl)).trans hh, r⟩
theorem Blk.grB {w w' : World} {g : Nat} {t : TypeId} {cs : Array Value} {v v' : Value} (h : Blk w g t cs) (hg : GrB w w' v v') (hn : v.ownBlock ≠ some g) : Blk w' g t cs := (hg.block h.lt hn).trans h
/-- One append, from whatever source. -/
theorem Buf.appendO {P : Program} {w : World} {base : Nat} {E : TypeId} {v : Value} {l : List UInt8} (h : Buf w base E v l) (t tx ty : TypeId) (i : TypeInfo) (ht : P.underlying t = some (.slice E)) (hi : P.info? E = some i) (hz : i.zero = some (.int .u8 0)) (h1 : i.size = 1) (hby : i.bytes = 1)
    (xv : Value) (m : List UInt8) (hs : Src P 1 tx xv m.length (cb m) w) (hb : base ≤ w.heap.size) (hlen : l.length + m.length ≤ 140737488355328) :
    ∃ v' w', (Builtin.append_ #[t, tx] ty #[v, xv]).run P w = .ok v' w' ∧ Buf w' base E v' (l ++ m) ∧ GrB w w' v v' := by
  obtain ⟨A, cap, rfl, hlc, hcm, h4⟩ := h
  have hs' : Src P i.size tx xv m.length (cb m) w := by rw [h1]; exact hs
  by_cases hroom : l.length + m.length ≤ cap
  · rcases h4 with ⟨hA, hc0⟩ | ⟨g, cur, fr, hA, hg, hh, hsz, htk, hfr⟩
    · subst hA; subst hc0
      have hl0 : l = [] := List.eq_nil_of_length_eq_zero (by omega)
      have hm0 : m = [] := List.eq_nil_of_length_eq_zero (by omega)
      subst hl0; subst hm0
      exact ⟨_, w, Go.run_append_nothing w t tx ty E i ht hi none 0 0 (Nat.le_refl _) xv hs', Buf.nil w base E, GrB.refl _ _⟩
    · subst hA
      have hrun := run_append_room_src (P := P) w t tx ty E i ht hi g 0 l.length cap xv m.length (cb m) hs' hroom
        (by
          intro j hj
          rw [cb_length] at hj
          have : 0 + l.length * i.size + j < cur.size := by rw [h1, hsz]; omega
          simp only [World.cell?, hh]
          rw [Array.getElem?_eq_getElem this]; rfl)
        (by
          intro j hj
          rw [cb_length] at hj
          exact frozen_at hh (by rw [h1]; rcases hfr with h | h; exact .inl h; exact .inr (by omega)))
      rw [h1, Nat.mul_one, Nat.zero_add] at hrun
      obtain ⟨cur', c1, c2, c3⟩ := setCells_heap (cb m) l.length w cur hh (by rw [cb_length]; omega)
      refine ⟨_, _, hrun, ⟨_, cap, by rw [List.length_append], by rw [List.length_append]; exact hroom, hcm, .inr ⟨g, cur', fr, rfl, hg, c1, by omega, ?_, hfr⟩⟩, ⟨World.os_setCells _ _ _ _, setCells_tape _ _ _ _, World.output_setCells _ _ _ _, by rw [setCells_size]; exact Nat.le_refl _, fun k hk hne => World.heap_setCells_other w g l.length (cb m) hk (fun e => hne (by subst e; rfl))⟩, .inl rfl⟩
      rw [List.length_append, cb_append]
      rw [cb_length, htk] at c3
      exact c3
  · have hold : (Builtin.firstCells i.size l.length (.slice A l.length cap)).run P w.drew = .ok (cb l).toArray w.drew := by
      rcases h4 with ⟨hA, hc0⟩ | ⟨g, cur, fr, hA, hg, hh, hsz, htk, hfr⟩
      · subst hA; subst hc0
        have hl0 : l = [] := List.eq_nil_of_length_eq_zero (by omega)
        subst hl0
        exact run_firstCells_none w.drew i.size 0 0 0
      · have hc := Buf.cells (w := w) (base := base) (E := E) (A := A) (cap := cap) (l := l) ⟨A, cap, rfl, hlc, hcm, .inr ⟨g, cur, fr, hA, hg, hh, hsz, htk, hfr⟩⟩ ⟨g, 0, none⟩ hA
        subst hA
        exact run_firstCells_some w.drew i.size l.length _ l.length cap (cb l) (by rw [cb_length, h1, Nat.mul_one]) hc
    have hfit : Builtin.nextslicecap (l.length + m.length) cap * i.bytes ≤ 281474976710656 := by
      rw [hby]
      exact growslice_fits (by omega) (by omega)
    have hrun := run_append_grow_src (P := P) w t tx ty E i (.int .u8 0) ht hi hz A l.length cap (cb l) hold xv m.length (cb m) hs' (by omega) (by omega) hfit
    have g1 := grownCap_ge w (l.length + m.length) cap E
    have g2 := grownCap_le_maxLen w (l.length + m.length) cap E (by simp [maxLen]; omega)
    refine ⟨_, _, hrun, ⟨_, _, by rw [List.length_append], by rw [List.length_append]; exact g1, by simpa [maxLen] using g2, .inr ⟨w.heap.size, _, (0, 0), rfl, hb, heap_alloc_new w.drew _, ?_, ?_, .inl rfl⟩⟩, grownBy_any (grownBy_none ((Below.refl w.heap.size w).drew.alloc (by simp) _)) _, .inr ⟨w.heap.size, rfl, Nat.le_refl _⟩⟩
    · simp only [Array.size_append, List.size_toArray, List.length_append, cb_length, size_zeroCells]
      have : (Value.int .u8 0).cells.size = 1 := rfl
      rw [this]; omega
    · rw [Array.toList_append, List.length_append, List.take_append_of_le_length (by simp [cb_length]), cb_append]
      exact List.take_of_length_le (by simp [cb_length])
theorem wp_append_bufO {P : Program} {w : World} {o : Oper} {a : Act} {K : Act → World → Prop} {Q : Exit → Act → World → Prop} (s x : Operand) (t tx : TypeId)
    (ho : o.op = .call { callee := .builtin .append, args := #[s, x], argTypes := #[t, tx] }) (base : Nat) (E : TypeId) (i : TypeInfo) (ht : P.underlying t = some (.slice E)) (hi : P.info? E = some i) (hz : i.zero = some (.int .u8 0)) (h1 : i.size = 1) (hby : i.bytes = 1)
    {v : Value} {l : List UInt8} (hv : a.eval s = v) (h : Buf w base E v l) (xv : Value) (m : List UInt8) (hx : a.eval x = xv) (hs : Src P 1 tx xv m.length (cb m) w) (hb : base ≤ w.heap.size) (hlen : l.length + m.length ≤ 140737488355328)
    (hK : ∀ (A' : Option Addr) (n' cap' : Nat) w', Buf w' base E (.slice A' n' cap') (l ++ m) → GrB w w' v (.slice A' n' cap') → K (a.put o.dst (.slice A' n' cap')) w') : Oper.wp P o a w K Q := by
  obtain ⟨v', w', hrun, r1, r2⟩ := h.appendO (P := P) t tx o.type i ht hi hz h1 hby xv m hs hb hlen
  obtain ⟨A', cap', hv', _⟩ := r1.form
  unfold Oper.wp
  simp [execOp, ho, resolve, invoke, builtin, hv, hx, hrun, Result.andThen]
  subst hv'
  exact hK _ _ _ w' r1 r2
theorem wpList_append_bufO {P : Program} {w : World} {ops : Array Oper} {rest : List Oper} {o : Oper} {a : Act} {Q : Exit → Act → World → Prop} (hgd : o.guard = none) (s x : Operand) (t tx : TypeId)
    (ho : o.op = .call { callee := .builtin .append, args := #[s, x], argTypes := #[t, tx] }) (base : Nat) (E : TypeId) (i : TypeInfo) (ht : P.underlying t = some (.slice E)) (hi : P.info? E = some i) (hz : i.zero = some (.int .u8 0)) (h1 : i.size = 1) (hby : i.bytes = 1)
    {v : Value} {l : List UInt8} (hv : a.eval s = v) (h : Buf w base E v l) (xv : Value) (m : List UInt8) (hx : a.eval x = xv) (hs : Src P 1 tx xv m.length (cb m) w) (hb : base ≤ w.heap.size) (hlen : l.length + m.length ≤ 140737488355328)
    (hK : ∀ (A' : Option Addr) (n' cap' : Nat) w', Buf w' base E (.slice A' n' cap') (l ++ m) → GrB w w' v (.slice A' n' cap') → wpList P ops Q rest (a.put o.dst (.slice A' n' cap')) w') : wpList P ops Q (o :: rest) a w :=
  wpList_plain hgd fun _ hK' => wp_append_bufO s x t tx ho base E i ht hi hz h1 hby hv h xv m hx hs hb hlen fun A' n' cap' w' r1 r2 => hK' _ _ (hK A' n' cap' w' r1 r2)
theorem step_append_bufO {P : Program} {w : World} {ops : Array Oper} {o : Oper} {a : Act} {K : Act → World → Prop} {Q : Exit → Act → World → Prop} {E' : Prop} (hgd : o.guard = none) (s x : Operand) (t tx : TypeId)
    (ho : o.op = .call { callee := .builtin .append, args := #[s, x], argTypes := #[t, tx] }) (base : Nat) (E : TypeId) (i : TypeInfo) (ht : P.underlying t = some (.slice E)) (hi : P.info? E = some i) (hz : i.zero = some (.int .u8 0)) (h1 : i.size = 1) (hby : i.bytes = 1)
    {v : Value} {l : List UInt8} (hv : a.eval s = v) (h : Buf w base E v l) (xv : Value) (m : List UInt8) (hx : a.eval x = xv) (hs : Src P 1 tx xv m.length (cb m) w) (hb : base ≤ w.heap.size) (hlen : l.length + m.length ≤ 140737488355328)
    (hK : ∀ (A' : Option Addr) (n' cap' : Nat) w', Buf w' base E (.slice A' n' cap') (l ++ m) → GrB w w' v (.slice A' n' cap') → K (a.put o.dst (.slice A' n' cap')) w') :
    if Region.wanted o (yielded ops a.tmps) = true then Oper.wp P o a w K Q else E' := by
  have hw : Region.wanted o (yielded ops a.tmps) = true := by simp [Region.wanted, hgd]
  rw [if_pos hw]
  exact wp_append_bufO s x t tx ho base E i ht hi hz h1 hby hv h xv m hx hs hb hlen hK
end Go.Proofs.YtebllmpdlapefaaGreatDoor
namespace Go.Proofs.YtebllmpdlapefaaGreatDoor
set_option linter.unusedVariables false
set_option linter.unusedSimpArgs false

/-- The number whose bytes these are, the lowest first. -/
def leL : List UInt8 → Nat
  | [] => 0
  | b :: t => b.toNat + 256 * leL t
theorem leL_lt (l : List UInt8) : leL l < 2 ^ (8 * l.length) := by
  induction l with
  | nil => simp [leL]
  | cons b t ih =>
    have := b.toNat_lt
    rw [List.length_cons, show 8 * (t.length + 1) = 8 + 8 * t.length from by omega, Nat.pow_add]
    simp only [leL]
    omega
theorem leL_append (l t : List UInt8) : leL (l ++ t) = leL l + 2 ^ (8 * l.length) * leL t := by
  induction l with
  | nil => simp [leL]
  | cons b r ih =>
    rw [List.cons_append, leL, leL, ih, List.length_cons, show 8 * (r.length + 1) = 8 + 8 * r.length from by omega, Nat.pow_add, Nat.mul_add, Nat.mul_assoc]
    omega
theorem leL_snoc (l : List UInt8) (b : UInt8) : leL (l ++ [b]) = leL l + b.toNat * 2 ^ (8 * l.length) := by
  rw [leL_append]; simp [leL, Nat.mul_comm]
/-- The number whose bytes these are, the highest first. -/
def beL (l : List UInt8) : Nat := leL l.reverse
theorem beL_snoc (l : List UInt8) (b : UInt8) : beL (l ++ [b]) = 256 * beL l + b.toNat := by
  simp [beL, leL]; omega
theorem beL_lt (l : List UInt8) : beL l < 2 ^ (8 * l.length) := by
  have := leL_lt l.reverse; simpa [beL] using this

theorem le_or (n b i : Nat) (hn : n < 2 ^ (8 * i)) : n ||| b * 2 ^ (8 * i) = n + b * 2 ^ (8 * i) := by
  rw [Nat.or_comm, Nat.mul_comm, ← Nat.two_pow_add_eq_or_of_lt hn]; omega
theorem le_pow (i : Nat) (hi : i ≤ 8) : 2 ^ (8 * i) ≤ 18446744073709551616 := by
  have : 2 ^ (8 * i) ≤ 2 ^ 64 := Nat.pow_le_pow_right (by omega) (by omega)
  simpa using this
theorem le_step (n b i : Nat) (hb : b < 256) (hn : n < 2 ^ (8 * i)) : n + b * 2 ^ (8 * i) < 2 ^ (8 * (i + 1)) := by
  have h2 : 2 ^ (8 * (i + 1)) = 256 * 2 ^ (8 * i) := by rw [show 8 * (i + 1) = 8 + 8 * i from by omega, Nat.pow_add]
  have h3 : b * 2 ^ (8 * i) ≤ 255 * 2 ^ (8 * i) := Nat.mul_le_mul_right _ (by omega)
  omega
end Go.Proofs.YtebllmpdlapefaaGreatDoor
namespace Go.Proofs.YtebllmpdlapefaaGreatDoor
set_option linter.unusedVariables false
set_option linter.unusedSimpArgs false

/-- From byte i on, n so far: the number, how many bytes it has, the error. -/
def lebGo (s : ByteArray) : Nat → Nat → Nat → Nat × Nat × Int
  | 0, _, _ => (0, 0, 2)
  | f + 1, i, n => if h : i < s.size then
      if (i = 9 ∧ 1 < s[i].toNat) ∨ (0 < i ∧ s[i].toNat = 0) then (0, 0, 3)
      else if s[i].toNat < 128 then (n + s[i].toNat % 128 * 2 ^ (7 * i), i + 1, 0)
      else lebGo s f (i + 1) (n + s[i].toNat % 128 * 2 ^ (7 * i))
    else (0, 0, 2)
def lebNext (s : ByteArray) : Nat × Nat × Int := lebGo s 10 0 0

theorem lebGo_end (s : ByteArray) (f i n : Nat) (h : ¬ i < s.size) : lebGo s f i n = (0, 0, 2) := by
  cases f <;> simp [lebGo, h]
theorem lebGo_bad (s : ByteArray) (f i n : Nat) (h : i < s.size) (hb : (i = 9 ∧ 1 < s[i].toNat) ∨ (0 < i ∧ s[i].toNat = 0)) : lebGo s (f + 1) i n = (0, 0, 3) := by
  rw [lebGo, dif_pos h, if_pos hb]
theorem lebGo_last (s : ByteArray) (f i n : Nat) (h : i < s.size) (hb : ¬ ((i = 9 ∧ 1 < s[i].toNat) ∨ (0 < i ∧ s[i].toNat = 0))) (hl : s[i].toNat < 128) :
    lebGo s (f + 1) i n = (n + s[i].toNat % 128 * 2 ^ (7 * i), i + 1, 0) := by
  rw [lebGo, dif_pos h, if_neg hb, if_pos hl]
theorem lebGo_more (s : ByteArray) (f i n : Nat) (h : i < s.size) (hb : ¬ ((i = 9 ∧ 1 < s[i].toNat) ∨ (0 < i ∧ s[i].toNat = 0))) (hl : ¬ s[i].toNat < 128) :
    lebGo s (f + 1) i n = lebGo s f (i + 1) (n + s[i].toNat % 128 * 2 ^ (7 * i)) := by
  rw [lebGo, dif_pos h, if_neg hb, if_neg hl]

/-- What is added keeps below the next power. -/
theorem leb_step (n b i : Nat) (hn : n < 2 ^ (7 * i)) : n + b % 128 * 2 ^ (7 * i) < 2 ^ (7 * (i + 1)) := by
  have h1 : b % 128 ≤ 127 := by omega
  have h2 : 2 ^ (7 * (i + 1)) = 128 * 2 ^ (7 * i) := by rw [show 7 * (i + 1) = 7 + 7 * i from by omega, Nat.pow_add]
  have h3 : b % 128 * 2 ^ (7 * i) ≤ 127 * 2 ^ (7 * i) := Nat.mul_le_mul_right _ h1
  omega
theorem leb_pow (i : Nat) (hi : i ≤ 9) : 2 ^ (7 * i) ≤ 9223372036854775808 := by
  have : 2 ^ (7 * i) ≤ 2 ^ 63 := Nat.pow_le_pow_right (by omega) (by omega)
  simpa using this
theorem leb_last (n b i : Nat) (hi : i ≤ 9) (hn : n < 2 ^ (7 * i)) (hb : ¬ ((i = 9 ∧ 1 < b) ∨ (0 < i ∧ b = 0))) : n + b % 128 * 2 ^ (7 * i) < 18446744073709551616 := by
  rcases Nat.lt_or_ge i 9 with h | h
  · have h1 := leb_step n b i hn
    have h2 := leb_pow (i + 1) (by omega)
    omega
  · obtain rfl : i = 9 := by omega
    have h2 : b % 128 ≤ 1 := by omega
    have h3 : b % 128 * 2 ^ (7 * 9) ≤ 1 * 2 ^ (7 * 9) := Nat.mul_le_mul_right _ h2
    omega
/-- The or of what stands so far and of the shifted digit is their sum. -/
theorem leb_or (n b i : Nat) (hn : n < 2 ^ (7 * i)) : n ||| (b % 128) * 2 ^ (7 * i) = n + b % 128 * 2 ^ (7 * i) := by
  rw [Nat.or_comm, Nat.mul_comm, ← Nat.two_pow_add_eq_or_of_lt hn]; omega

/-- A number that is told has at most ten bytes, that are there, and is below 2^64. -/
theorem lebGo_ok (s : ByteArray) (f i n : Nat) (hi : i + f = 10) (hn : n < 2 ^ (7 * i)) (h : (lebGo s f i n).2.2 = 0) :
    i < (lebGo s f i n).2.1 ∧ (lebGo s f i n).2.1 ≤ 10 ∧ (lebGo s f i n).2.1 ≤ s.size ∧ (lebGo s f i n).1 < 18446744073709551616 := by
  induction f generalizing i n with
  | zero => simp [lebGo] at h
  | succ f ih =>
    by_cases hs : i < s.size
    · by_cases hb : (i = 9 ∧ 1 < s[i].toNat) ∨ (0 < i ∧ s[i].toNat = 0)
      · rw [lebGo_bad s f i n hs hb] at h; simp at h
      · by_cases hl : s[i].toNat < 128
        · rw [lebGo_last s f i n hs hb hl]
          exact ⟨by simp, by simp; omega, by simp; omega, leb_last n _ i (by omega) hn hb⟩
        · rw [lebGo_more s f i n hs hb hl] at h ⊢
          have := ih (i + 1) _ (by omega) (leb_step n _ i hn) h
          omega
    · rw [lebGo_end s _ i n hs] at h; simp at h
theorem lebNext_ok (s : ByteArray) (h : (lebNext s).2.2 = 0) : 0 < (lebNext s).2.1 ∧ (lebNext s).2.1 ≤ 10 ∧ (lebNext s).2.1 ≤ s.size ∧ (lebNext s).1 < 18446744073709551616 :=
  lebGo_ok s 10 0 0 rfl (by simp) h
theorem lebGo_err (s : ByteArray) (f i n : Nat) (h : (lebGo s f i n).2.2 ≠ 0) : (lebGo s f i n).1 = 0 ∧ (lebGo s f i n).2.1 = 0 ∧ ((lebGo s f i n).2.2 = 2 ∨ (lebGo s f i n).2.2 = 3) := by
  induction f generalizing i n with
  | zero => simp [lebGo]
  | succ f ih =>
    by_cases hs : i < s.size
    · by_cases hb : (i = 9 ∧ 1 < s[i].toNat) ∨ (0 < i ∧ s[i].toNat = 0)
      · rw [lebGo_bad s f i n hs hb]; simp
      · by_cases hl : s[i].toNat < 128
        · rw [lebGo_last s f i n hs hb hl] at h; simp at h
        · rw [lebGo_more s f i n hs hb hl] at h ⊢
          exact ih _ _ h
    · rw [lebGo_end s _ i n hs]; simp
end Go.Proofs.YtebllmpdlapefaaGreatDoor
namespace Go.Proofs.YtebllmpdlapefaaGreatDoor
set_option linter.unusedVariables false
set_option linter.unusedSimpArgs false

/-- A copy of n bytes from so many back, byte by byte. -/
def cpy (out : List UInt8) (back : Nat) : Nat → List UInt8
  | 0 => out
  | n + 1 => cpy (out ++ [out.getD (out.length - back) 0]) back n
theorem cpy_length (out : List UInt8) (back n : Nat) : (cpy out back n).length = out.length + n := by
  induction n generalizing out with
  | zero => rfl
  | succ n ih => rw [cpy, ih]; simp; omega
theorem cpy_add (out : List UInt8) (back m n : Nat) : cpy out back (m + n) = cpy (cpy out back m) back n := by
  induction m generalizing out with
  | zero => simp [cpy]
  | succ m ih => rw [show m + 1 + n = (m + n) + 1 from by omega, cpy, cpy, ih]
theorem cpy_snoc (out : List UInt8) (back n : Nat) : cpy out back (n + 1) = cpy out back n ++ [(cpy out back n).getD ((cpy out back n).length - back) 0] := by
  rw [cpy_add]; rfl
theorem cpy_chunk (out : List UInt8) (back m : Nat) (hm : m ≤ back) (hb : back ≤ out.length) : cpy out back m = out ++ (out.drop (out.length - back)).take m := by
  induction m with
  | zero => simp [cpy]
  | succ m ih =>
    rw [cpy_snoc, ih (by omega)]
    have hl : (out ++ (out.drop (out.length - back)).take m).length = out.length + m := by simp; omega
    rw [hl, List.append_assoc]
    congr 1
    rw [List.take_succ_eq_append_getElem (by simp; omega)]
    congr 1
    rw [List.getD_eq_getElem?_getD, List.getElem?_append_left (by omega), List.getElem_drop, List.getElem?_eq_getElem (by omega)]
    simp
    congr 1
    omega

/-- How many bytes an element's head has, from its first byte. -/
def sHead (b : Nat) : Nat := if b % 4 = 0 then (if 60 ≤ b / 4 then b / 4 - 58 else 1) else if b % 4 = 1 then 2 else if b % 4 = 2 then 3 else 5
theorem sHead_pos (b : Nat) (hb : b < 256) : 1 ≤ sHead b ∧ sHead b ≤ 5 := by
  unfold sHead; split <;> (try split) <;> (try split) <;> omega
/-- How many bytes it lays, from its first byte and the number behind it. -/
def sCount (b l : Nat) : Nat := if b % 4 = 0 then (if 60 ≤ b / 4 then l + 1 else b / 4 + 1) else if b % 4 = 1 then 4 + b / 4 % 8 else b / 4 + 1
/-- From how far back. -/
def sBack (b l : Nat) : Nat := if b % 4 = 1 then b / 4 / 8 * 256 + l else l
/-- The number behind the first byte of the element at k. -/
def sNum (s : ByteArray) (k b : Nat) : Nat := leL (s.extract (k + 1) (k + sHead b)).data.toList

/-- The element at k: an error, or the place behind it and what is laid then. -/
def sStep (s : ByteArray) (size k b : Nat) (out : List UInt8) : Int × Nat × List UInt8 :=
  if s.size < k + sHead b then (2, k, out)
  else if (b % 4 ≠ 0 ∧ (sBack b (sNum s k b) = 0 ∨ out.length < sBack b (sNum s k b))) ∨ size - out.length < sCount b (sNum s k b) then (3, k, out)
  else if b % 4 = 0 then
    if s.size < k + sHead b + sCount b (sNum s k b) then (2, k, out)
    else (0, k + sHead b + sCount b (sNum s k b), out ++ (s.extract (k + sHead b) (k + sHead b + sCount b (sNum s k b))).data.toList)
  else (0, k + sHead b, cpy out (sBack b (sNum s k b)) (sCount b (sNum s k b)))

/-- All elements from k on. -/
def sAll (s : ByteArray) (size : Nat) : Nat → Nat → List UInt8 → Int × List UInt8
  | 0, _, _ => (2, [])
  | f + 1, k, out => if h : k < s.size then
      if (sStep s size k s[k].toNat out).1 = 0 then sAll s size f (sStep s size k s[k].toNat out).2.1 (sStep s size k s[k].toNat out).2.2
      else ((sStep s size k s[k].toNat out).1, [])
    else if out.length < size then (2, []) else (0, out)
/-- What elements lay, of so many bytes. -/
def sElems (s : ByteArray) (size : Nat) : Int × List UInt8 := sAll s size (s.size + 1) 0 []
/-- How many bytes a block has unpacked, how many bytes that number has, the error. -/
def sSize (s : ByteArray) : Nat × Nat × Int :=
  if (lebNext s).2.2 = 0 then (if 4294967295 < (lebNext s).1 then (0, 0, 5) else lebNext s) else (0, 0, (lebNext s).2.2)
/-- What a block unpacks to, by a cap: an error, or bytes. -/
def sUnpack (s : ByteArray) (most : Int) : Int × List UInt8 :=
  if (sSize s).2.2 ≠ 0 then ((sSize s).2.2, [])
  else if most < (sSize s).1 then (5, [])
  else sElems (s.extract (sSize s).2.1 s.size) (sSize s).1

theorem sStep_ok {s : ByteArray} {size k b : Nat} {out : List UInt8} (hb : b < 256) (hk : k < s.size) (ho : out.length ≤ size) (h : (sStep s size k b out).1 = 0) :
    k < (sStep s size k b out).2.1 ∧ (sStep s size k b out).2.1 ≤ s.size ∧ (sStep s size k b out).2.2.length ≤ size := by
  have hp := sHead_pos b hb
  unfold sStep at h ⊢
  split at h <;> rename_i h1
  · simp at h
  · split at h <;> rename_i h2
    · simp at h
    · split at h <;> rename_i h3
      · split at h <;> rename_i h4
        · simp at h
        · rw [if_neg h1, if_neg h2, if_pos h3, if_neg h4]
          refine ⟨by simp; omega, by simp; omega, ?_⟩
          rw [List.length_append, toList_size, size_cut _ _ _ (by omega)]
          omega
      · rw [if_neg h1, if_neg h2, if_neg h3]
        refine ⟨by simp; omega, by simp; omega, ?_⟩
        rw [cpy_length]; omega
theorem sAll_next {s : ByteArray} {size f k : Nat} {out : List UInt8} {x : Int × List UInt8} (hk : k < s.size) (hx : sAll s size (f + 1) k out = x) (h : (sStep s size k s[k].toNat out).1 = 0) :
    sAll s size f (sStep s size k s[k].toNat out).2.1 (sStep s size k s[k].toNat out).2.2 = x := by
  rw [← hx, sAll, dif_pos hk, if_pos h]
theorem sAll_err {s : ByteArray} {size f k : Nat} {out : List UInt8} {x : Int × List UInt8} (hk : k < s.size) (hx : sAll s size (f + 1) k out = x) (h : (sStep s size k s[k].toNat out).1 ≠ 0) :
    x = ((sStep s size k s[k].toNat out).1, []) := by
  rw [← hx, sAll, dif_pos hk, if_neg h]
theorem sAll_end {s : ByteArray} {size f k : Nat} {out : List UInt8} {x : Int × List UInt8} (hk : ¬ k < s.size) (hx : sAll s size (f + 1) k out = x) : x = if out.length < size then (2, []) else (0, out) := by
  rw [← hx, sAll, dif_neg hk]
end Go.Proofs.YtebllmpdlapefaaGreatDoor
namespace Go.Proofs.YtebllmpdlapefaaGreatDoor
set_option linter.unusedVariables false
set_option linter.unusedSimpArgs false

theorem lebNext_one (s : ByteArray) (h : 0 < s.size) (hb : s[0].toNat < 128) : lebNext s = (s[0].toNat, 1, 0) := by
  unfold lebNext
  rw [lebGo_last s 9 0 0 h (by omega) hb]
  simp; omega
theorem lebNext_two (s : ByteArray) (h : 1 < s.size) (hb : ¬ s[0].toNat < 128) (hc : s[1].toNat < 128) (hz : s[1].toNat ≠ 0) : lebNext s = (s[0].toNat % 128 + s[1].toNat * 128, 2, 0) := by
  unfold lebNext
  rw [lebGo_more s 9 0 0 (by omega) (by omega) hb, lebGo_last s 8 1 _ h (by omega) hc]
  simp; omega
theorem sSize_one (s : ByteArray) (h : 0 < s.size) (hb : s[0].toNat < 128) : sSize s = (s[0].toNat, 1, 0) := by
  unfold sSize; rw [lebNext_one s h hb, if_pos rfl, if_neg (by simp; omega)]
theorem sSize_two (s : ByteArray) (h : 1 < s.size) (hb : ¬ s[0].toNat < 128) (hc : s[1].toNat < 128) (hz : s[1].toNat ≠ 0) : sSize s = (s[0].toNat % 128 + s[1].toNat * 128, 2, 0) := by
  unfold sSize; rw [lebNext_two s h hb hc hz, if_pos rfl, if_neg (by simp; omega)]
/-- One literal, and nothing behind it. -/
theorem sElems_lit (body : ByteArray) (b hd len : Nat) (h0 : 0 < body.size) (hb : body[0].toNat = b) (hk : b % 4 = 0) (hh : sHead b = hd) (hc : sCount b (sNum body 0 b) = len) (hz : body.size = hd + len) :
    sElems body len = (0, (body.extract hd (hd + len)).data.toList) := by
  have hst : sStep body len 0 b [] = (0, hd + len, (body.extract hd (hd + len)).data.toList) := by
    unfold sStep
    rw [hc, hh, if_neg (by omega), if_neg (by simp; omega), if_pos hk, if_neg (by omega)]
    simp
  have hb' : b < 256 := hb ▸ body[0].toNat_lt
  have hp := sHead_pos b hb'
  unfold sElems
  obtain ⟨f, hf⟩ : ∃ f, body.size = f + 1 := ⟨body.size - 1, by omega⟩
  rw [hf, sAll, dif_pos h0, hb, hst, if_pos rfl, sAll, dif_neg (by simp; omega)]
  rw [if_neg (by rw [toList_size, size_cut _ _ _ (by omega)]; omega)]
theorem get_of {s : ByteArray} {k : Nat} {b : UInt8} (hl : s.data.toList[k]? = some b) : ∃ h : k < s.size, s[k] = b := by
  have h : k < s.size := by
    have := (List.getElem?_eq_some_iff.1 hl).1
    simpa using this
  refine ⟨h, ?_⟩
  rw [byte_at s k h] at hl
  injection hl
/-- A size below 16384, as snap lays it. -/
def szL (n : Nat) : List UInt8 := if n < 128 then [ub n] else [ub (n % 128 + 128 : Nat), ub (n / 128 : Nat)]
theorem sSize_of (s : ByteArray) (n : Nat) (t : List UInt8) (hn : n < 16384) (hs : s.data.toList = szL n ++ t) : sSize s = (n, (szL n).length, 0) := by
  unfold szL at hs ⊢
  by_cases h : n < 128
  · rw [if_pos h] at hs ⊢
    obtain ⟨h0, hb⟩ := get_of (s := s) (k := 0) (b := ub n) (by rw [hs]; rfl)
    have he : s[0].toNat = n := by rw [hb, ub_toNat n (by omega)]
    rw [sSize_one s h0 (by omega), he]; rfl
  · rw [if_neg h] at hs ⊢
    obtain ⟨h0, hb⟩ := get_of (s := s) (k := 0) (b := ub (n % 128 + 128 : Nat)) (by rw [hs]; rfl)
    obtain ⟨h1, hc⟩ := get_of (s := s) (k := 1) (b := ub (n / 128 : Nat)) (by rw [hs]; rfl)
    have he : s[0].toNat = n % 128 + 128 := by rw [hb, ub_toNat _ (by omega)]
    have hf : s[1].toNat = n / 128 := by rw [hc, ub_toNat _ (by omega)]
    rw [sSize_two s h1 (by omega) (by omega) (by omega), he, hf]
    simp; omega
theorem cut_tail (s : ByteArray) (a t : List UInt8) (h : s.data.toList = a ++ t) : (s.extract a.length s.size).data.toList = t := by
  rw [toList_cut, take_all, h]; simp
theorem sUnpack_of (s : ByteArray) (n : Nat) (t : List UInt8) (most : Int) (hn : n < 16384) (hm : (n : Int) ≤ most) (hs : s.data.toList = szL n ++ t) : sUnpack s most = sElems ⟨t.toArray⟩ n := by
  unfold sUnpack
  rw [sSize_of s n t hn hs, if_neg (by simp), if_neg (by simp; omega)]
  congr 1
  apply bytes_ext
  rw [cut_tail s (szL n) t hs]
theorem leL_zeros (n : UInt8) (k : Nat) : leL (n :: List.replicate k 0) = n.toNat := by
  have h : ∀ k, leL (List.replicate k 0) = 0 := by
    intro k
    induction k with
    | zero => rfl
    | succ k ih => rw [List.replicate_succ, leL, ih]; rfl
  rw [leL, h]; omega
/-- A literal's head: of one byte, or of 1 + k more. -/
def litL (n k : Nat) : List UInt8 := if k = 0 then [ub (4 * (n - 1) : Nat)] else ub (4 * (59 + k) : Nat) :: ub (n - 1 : Nat) :: List.replicate (k - 1) 0
theorem litL_length (n k : Nat) : (litL n k).length = k + 1 := by
  unfold litL; split <;> simp <;> omega
theorem sElems_plain (n k : Nat) (l : List UInt8) (hl : l.length = n) (h1 : 1 ≤ n) (h2 : n ≤ 250) (hk : k ≤ 4) (hk0 : k = 0 → n ≤ 60) : sElems ⟨(litL n k ++ l).toArray⟩ n = (0, l) := by
  have hsz : (⟨(litL n k ++ l).toArray⟩ : ByteArray).size = k + 1 + n := by rw [size_of, List.length_append, litL_length, hl]
  have hcut : ((⟨(litL n k ++ l).toArray⟩ : ByteArray).extract (k + 1) (k + 1 + n)).data.toList = l := by
    rw [toList_cut, show k + 1 + n = (⟨(litL n k ++ l).toArray⟩ : ByteArray).size from hsz.symm, take_all, ← litL_length n k]; simp
  by_cases h0 : k = 0
  · subst h0
    obtain ⟨hlt, hb⟩ := get_of (s := ⟨(litL n 0 ++ l).toArray⟩) (k := 0) (b := ub (4 * (n - 1) : Nat)) (by simp [litL])
    have he : (⟨(litL n 0 ++ l).toArray⟩ : ByteArray)[0].toNat = 4 * (n - 1) := by rw [hb, ub_toNat _ (by have := hk0 rfl; omega)]
    have := hk0 rfl
    rw [sElems_lit _ (4 * (n - 1)) 1 n hlt he (by omega) (by unfold sHead; rw [if_pos (by omega), if_neg (by omega)]) (by unfold sCount; rw [if_pos (by omega), if_neg (by omega)]; omega) (by rw [hsz])]
    simp only [Nat.zero_add] at hcut
    rw [hcut]
  · obtain ⟨hlt, hb⟩ := get_of (s := ⟨(litL n k ++ l).toArray⟩) (k := 0) (b := ub (4 * (59 + k) : Nat)) (by simp [litL, h0])
    have he : (⟨(litL n k ++ l).toArray⟩ : ByteArray)[0].toNat = 4 * (59 + k) := by rw [hb, ub_toNat _ (by omega)]
    have hh : sHead (4 * (59 + k)) = k + 1 := by unfold sHead; rw [if_pos (by omega), if_pos (by omega)]; omega
    have hnum : sNum ⟨(litL n k ++ l).toArray⟩ 0 (4 * (59 + k)) = n - 1 := by
      unfold sNum
      rw [hh, toList_cut]
      have : (List.take (0 + (k + 1)) (litL n k ++ l)) = litL n k := by
        rw [Nat.zero_add, ← litL_length n k]; simp
      show leL (List.drop (0 + 1) (List.take (0 + (k + 1)) (litL n k ++ l))) = _
      rw [this]
      simp only [litL, h0, if_false, Nat.zero_add, List.drop_succ_cons, List.drop_zero]
      rw [leL_zeros, ub_toNat _ (by omega)]
    rw [sElems_lit _ (4 * (59 + k)) (k + 1) n hlt he (by omega) hh (by rw [hnum]; unfold sCount; rw [if_pos (by omega), if_pos (by omega)]; omega) hsz, hcut]
/-- THE LAW: any bytes within one literal unpack to themselves. -/
theorem plain_law (b : ByteArray) (n k : Nat) (l : List UInt8) (hl : l.length = n) (h1 : 1 ≤ n) (h2 : n ≤ 250) (hk : k ≤ 4) (hk0 : k = 0 → n ≤ 60) (hb : b.data.toList = szL n ++ (litL n k ++ l)) : sUnpack b 250 = (0, l) := by
  rw [sUnpack_of b n _ 250 (by omega) (by omega) hb, sElems_plain n k l hl h1 h2 hk hk0]
theorem blk_list {S H s : ByteArray} {n k : Nat} (hS : S.data.toList = szL n) (hH : H.data.toList = litL n k) : (S ++ H ++ s).data.toList = szL n ++ (litL n k ++ s.data.toList) := by
  rw [toList_app, toList_app, hS, hH, List.append_assoc]
theorem sz_one {n : Nat} (h : n < 128) : (⟨#[ub n]⟩ : ByteArray).data.toList = szL n := by rw [szL, if_pos h]
theorem sz_two {n : Nat} (h : ¬ n < 128) (h2 : n < 256) : (⟨#[ub ((n : Int) % 128 + 128), ub 1]⟩ : ByteArray).data.toList = szL n := by
  rw [szL, if_neg h, show n / 128 = 1 from by omega, show ((n % 128 + 128 : Nat) : Int) = (n : Int) % 128 + 128 from by omega]; rfl
theorem lit_one {n : Nat} (h : 1 ≤ n) : (⟨#[ub (4 * ((n : Int) - 1))]⟩ : ByteArray).data.toList = litL n 0 := by
  rw [litL, if_pos rfl, show ((4 * (n - 1) : Nat) : Int) = 4 * ((n : Int) - 1) from by omega]
theorem lit_start1 {n : Nat} (h : 1 ≤ n) : (⟨#[ub 240, ub ((n : Int) - 1)]⟩ : ByteArray).data.toList = litL n 1 := by
  rw [litL, if_neg (by omega), show ((n - 1 : Nat) : Int) = (n : Int) - 1 from by omega]; rfl
/-- A long head, j bytes of it laid. -/
theorem lit_start {n k : Nat} (h : 1 ≤ n) : (⟨#[ub (4 * (59 + (k : Int))), ub ((n : Int) - 1)]⟩ : ByteArray).data.toList = ub (4 * (59 + k) : Nat) :: ub (n - 1 : Nat) :: List.replicate (1 - 1) 0 := by
  rw [show ((4 * (59 + k) : Nat) : Int) = 4 * (59 + (k : Int)) from by omega, show ((n - 1 : Nat) : Int) = (n : Int) - 1 from by omega]; rfl
theorem lit_more {x : ByteArray} {a b : UInt8} {j : Nat} (hj : 1 ≤ j) (h : x.data.toList = a :: b :: List.replicate (j - 1) 0) : (x ++ ⟨#[0]⟩).data.toList = a :: b :: List.replicate (j + 1 - 1) 0 := by
  rw [toList_app, h, show j + 1 - 1 = (j - 1) + 1 from by omega, List.replicate_succ']; rfl
theorem lit_done {x : ByteArray} {n k : Nat} (hk : k ≠ 0) (h : x.data.toList = ub (4 * (59 + k) : Nat) :: ub (n - 1 : Nat) :: List.replicate (k - 1) 0) : x.data.toList = litL n k := by
  rw [h, litL, if_neg hk]
end Go.Proofs.YtebllmpdlapefaaGreatDoor
namespace Go.Proofs.YtebllmpdlapefaaGreatDoor
set_option linter.unusedVariables false
set_option linter.unusedSimpArgs false

theorem cpy_period (s : List UInt8) (h0 : 0 < s.length) (n : Nat) : ∀ i, i < s.length + n → (cpy s s.length n)[i]? = s[i % s.length]? := by
  induction n with
  | zero => intro i hi; rw [cpy, Nat.mod_eq_of_lt (by omega)]
  | succ n ih =>
    intro i hi
    rw [cpy_snoc]
    have hl := cpy_length s s.length n
    by_cases h : i < s.length + n
    · rw [List.getElem?_append_left (by omega)]; exact ih i h
    · obtain rfl : i = s.length + n := by omega
      rw [List.getElem?_append_right (by omega), hl, Nat.sub_self, show s.length + n - s.length = n from by omega, List.getD_eq_getElem?_getD, ih n (by omega), Nat.add_mod_left]
      have hm : n % s.length < s.length := Nat.mod_lt _ h0
      rw [List.getElem?_eq_getElem hm]; rfl
theorem sAll_step {s : ByteArray} {size f k b k' : Nat} {out out' : List UInt8} (h : k < s.size) (hb : s[k].toNat = b) (hs : sStep s size k b out = (0, k', out')) : sAll s size (f + 1) k out = sAll s size f k' out' := by
  rw [sAll, dif_pos h, hb, hs, if_pos rfl]
/-- THE LAW: the bytes, and n more of them. -/
theorem runs_law (b : ByteArray) (s : List UInt8) (n : Nat) (h1 : 1 ≤ s.length) (h2 : s.length ≤ 60) (hn1 : 1 ≤ n) (hn2 : n ≤ 64) (ht : s.length + n < 128)
    (hb : b.data.toList = szL (s.length + n) ++ (ub (4 * (s.length - 1) : Nat) :: (s ++ [ub (4 * (n - 1) + 2 : Nat), ub (s.length : Nat), 0]))) : sUnpack b 200 = (0, cpy s s.length n) := by
  rw [sUnpack_of b (s.length + n) _ 200 (by omega) (by omega) hb]
  generalize hL : ub (4 * (s.length - 1) : Nat) :: (s ++ [ub (4 * (n - 1) + 2 : Nat), ub (s.length : Nat), 0]) = L
  generalize hbody : (⟨L.toArray⟩ : ByteArray) = body
  have hlist : body.data.toList = L := by rw [← hbody]
  have hsz : body.size = s.length + 4 := by rw [← toList_size, hlist, ← hL]; simp
  obtain ⟨g0, e0⟩ := get_of (s := body) (k := 0) (b := ub (4 * (s.length - 1) : Nat)) (by rw [hlist, ← hL]; rfl)
  obtain ⟨g1, e1⟩ := get_of (s := body) (k := s.length + 1) (b := ub (4 * (n - 1) + 2 : Nat)) (by rw [hlist, ← hL, List.getElem?_cons_succ, List.getElem?_append_right (by omega), Nat.sub_self]; rfl)
  have e0' : body[0].toNat = 4 * (s.length - 1) := by rw [e0, ub_toNat _ (by omega)]
  have e1' : body[s.length + 1].toNat = 4 * (n - 1) + 2 := by rw [e1, ub_toNat _ (by omega)]
  have hh0 : sHead (4 * (s.length - 1)) = 1 := by unfold sHead; rw [if_pos (by omega), if_neg (by omega)]
  have hc0 : ∀ x, sCount (4 * (s.length - 1)) x = s.length := by intro x; unfold sCount; rw [if_pos (by omega), if_neg (by omega)]; omega
  have hcut : (body.extract 1 (1 + s.length)).data.toList = s := by
    rw [toList_cut, hlist, ← hL, Nat.add_comm 1, List.take_succ_cons, List.drop_succ_cons, List.drop_zero, List.take_append_of_le_length (Nat.le_refl _), List.take_length]
  have st0 : sStep body (s.length + n) 0 (4 * (s.length - 1)) [] = (0, s.length + 1, s) := by
    unfold sStep
    rw [hc0, hh0, if_neg (by omega), if_neg (by simp <;> omega), if_pos (by omega), if_neg (by omega), Nat.zero_add, hcut, Nat.add_comm 1]; rfl
  have hh1 : sHead (4 * (n - 1) + 2) = 3 := by unfold sHead; rw [if_neg (by omega), if_neg (by omega), if_pos (by omega)]
  have hc1 : ∀ x, sCount (4 * (n - 1) + 2) x = n := by intro x; unfold sCount; rw [if_neg (by omega), if_neg (by omega)]; omega
  have hnum : sNum body (s.length + 1) (4 * (n - 1) + 2) = s.length := by
    unfold sNum
    rw [hh1, toList_cut, hlist, ← hL, show s.length + 1 + 3 = (s.length + 3) + 1 from by omega, List.take_succ_cons, List.drop_succ_cons, List.take_of_length_le (by simp)]
    rw [show s.length + 1 = s.length + 1 from rfl, List.drop_append, List.drop_eq_nil_of_le (by omega), show s.length + 1 - s.length = 1 from by omega]
    show leL [ub (s.length : Nat), 0] = s.length
    simp only [leL, ub_toNat s.length (by omega)]
    rfl
  have hbk : sBack (4 * (n - 1) + 2) s.length = s.length := by unfold sBack; rw [if_neg (by omega)]
  have st1 : sStep body (s.length + n) (s.length + 1) (4 * (n - 1) + 2) s = (0, s.length + 4, cpy s s.length n) := by
    unfold sStep
    rw [hnum, hc1, hbk, hh1, if_neg (by omega), if_neg (by omega), if_neg (by omega)]
  unfold sElems
  rw [hsz, show s.length + 4 + 1 = (s.length + 3) + 1 + 1 from by omega, sAll_step g0 e0' st0, sAll_step g1 e1' st1]
  obtain ⟨f, hf⟩ : ∃ f, s.length + 3 = f + 1 := ⟨s.length + 2, by omega⟩
  rw [hf, sAll, dif_neg (by omega), if_neg (by rw [cpy_length]; omega)]
end Go.Proofs.YtebllmpdlapefaaGreatDoor
namespace Go.Proofs.YtebllmpdlapefaaGreatDoor
set_option linter.unusedVariables false
set_option linter.unusedSimpArgs false

/-- The bytes of a number, seven bits each. -/
def lebL (n : Nat) : List UInt8 := if n < 128 then [ub n] else ub (n % 128 + 128 : Nat) :: lebL (n / 128)
termination_by n
theorem lebL_small {n : Nat} (h : n < 128) : lebL n = [ub n] := by rw [lebL, if_pos h]
theorem lebL_more {n : Nat} (h : ¬ n < 128) : lebL n = ub (n % 128 + 128 : Nat) :: lebL (n / 128) := by rw [lebL, if_neg h]
theorem lebL_pos (n : Nat) : 1 ≤ (lebL n).length := by
  by_cases h : n < 128
  · simp [lebL_small h]
  · simp [lebL_more h]
theorem lebL_length (k : Nat) : ∀ n, n < 128 ^ k → 1 ≤ k → (lebL n).length ≤ k := by
  induction k with
  | zero => intro n _ h; omega
  | succ k ih =>
    intro n hn _
    by_cases h : n < 128
    · simp [lebL_small h]
    · rw [lebL_more h, List.length_cons]
      rcases Nat.eq_zero_or_pos k with h0 | h0
      · subst h0; simp at hn; omega
      · have := ih (n / 128) (by rw [Nat.pow_succ] at hn; exact Nat.div_lt_of_lt_mul (by rw [Nat.mul_comm]; exact hn)) h0
        omega
theorem ub_mod (n : Nat) : (ub n).toNat = n % 256 := by simp [ub]
/-- A number that was put is told again. -/
theorem lebGo_put (n : Nat) : ∀ (s : ByteArray) (pre rest : List UInt8) (i m : Nat), s.data.toList = pre ++ (lebL n ++ rest) → pre.length = i → i ≤ 9 → n < 2 ^ (64 - 7 * i) → (i = 0 ∨ 0 < n) →
    lebGo s (10 - i) i m = (m + n * 2 ^ (7 * i), i + (lebL n).length, 0) := by
  induction n using Nat.strongRecOn with
  | ind n ih =>
    intro s pre rest i m hs hp hi hn h0
    rw [show 10 - i = (9 - i) + 1 from by omega]
    have hi9 : i = 9 → n ≤ 1 := by
      intro h; subst h
      have : (2 : Nat) ^ (64 - 7 * 9) = 2 := by decide
      omega
    by_cases h : n < 128
    · rw [lebL_small h] at hs ⊢
      obtain ⟨g, e⟩ := get_of (s := s) (k := i) (b := ub n) (by rw [hs, List.getElem?_append_right (by omega), hp]; simp)
      have e' : s[i].toNat = n := by rw [e, ub_toNat n (by omega)]
      rw [lebGo_last s _ i m g (by rw [e']; omega) (by rw [e']; exact h), e', Nat.mod_eq_of_lt h]
      simp
    · rw [lebL_more h] at hs ⊢
      obtain ⟨g, e⟩ := get_of (s := s) (k := i) (b := ub (n % 128 + 128 : Nat)) (by rw [hs, List.getElem?_append_right (by omega), hp]; simp)
      have e' : s[i].toNat = n % 128 + 128 := by rw [e, ub_toNat _ (by omega)]
      rw [lebGo_more s _ i m g (by rw [e']; omega) (by rw [e']; omega), e']
      have h7 : 7 * i + 7 ≤ 64 := by
        rcases Nat.lt_or_ge i 9 with h9 | h9
        · omega
        · have := hi9 (by omega); omega
      have hpw : 2 ^ (64 - 7 * i) = 2 ^ (64 - 7 * (i + 1)) * 128 := by
        rw [show 64 - 7 * i = (64 - 7 * (i + 1)) + 7 from by omega, Nat.pow_add]
      have hd : n / 128 < 2 ^ (64 - 7 * (i + 1)) := Nat.div_lt_of_lt_mul (by rw [Nat.mul_comm, ← hpw]; exact hn)
      have hi8 : i ≤ 8 := by
        rcases Nat.lt_or_ge i 9 with h9 | h9
        · omega
        · have := hi9 (by omega); omega
      have := ih (n / 128) (by omega) s (pre ++ [ub (n % 128 + 128 : Nat)]) rest (i + 1) (m + (n % 128 + 128) % 128 * 2 ^ (7 * i)) (by rw [hs]; simp) (by simp; omega) (by omega) hd (Or.inr (by omega))
      rw [show 9 - i = 10 - (i + 1) from by omega, this]
      have hq : n = n / 128 * 128 + n % 128 := by omega
      have h2 : 2 ^ (7 * (i + 1)) = 128 * 2 ^ (7 * i) := by rw [show 7 * (i + 1) = 7 + 7 * i from by omega, Nat.pow_add]
      have e3 : m + (n % 128 + 128) % 128 * 2 ^ (7 * i) + n / 128 * 2 ^ (7 * (i + 1)) = m + n * 2 ^ (7 * i) := by
        rw [h2, show (n % 128 + 128) % 128 = n % 128 from by omega, ← Nat.mul_assoc, Nat.add_assoc, ← Nat.add_mul, show n % 128 + n / 128 * 128 = n from by omega]
      rw [e3]
      exact Prod.ext rfl (Prod.ext (by simp only [List.length_cons]; omega) rfl)
theorem lebNext_put (n : Nat) (s : ByteArray) (rest : List UInt8) (hs : s.data.toList = lebL n ++ rest) (hn : n < 18446744073709551616) : lebNext s = (n, (lebL n).length, 0) := by
  have := lebGo_put n s [] rest 0 0 (by simpa using hs) rfl (by omega) (by simpa using hn) (Or.inl rfl)
  simpa [lebNext] using this

/-- For how many bytes two places match, the first of them ahead. -/
def mt (L : List UInt8) (j i : Nat) : Nat → Nat
  | 0 => 0
  | f + 1 => if i < L.length ∧ L[j]? = L[i]? then mt L (j + 1) (i + 1) f + 1 else 0
/-- The nearest place ahead with a match of four. -/
def fnd (L : List UInt8) (i : Nat) : Nat → Option Nat
  | 0 => none
  | j + 1 => if 4 ≤ mt L j i 64 then some j else fnd L i j
def litE (l : List UInt8) : List UInt8 :=
  if l.length = 0 then [] else if l.length ≤ 60 then ub (4 * (l.length - 1) : Nat) :: l
  else if l.length ≤ 256 then 240 :: ub (l.length - 1 : Nat) :: l
  else 244 :: ub ((l.length - 1) % 256 : Nat) :: ub ((l.length - 1) / 256 : Nat) :: l
def cpyE (n d : Nat) : List UInt8 :=
  if n ≤ 11 ∧ d < 2048 then [ub (1 + 4 * (n - 4) + 32 * (d / 256) : Nat), ub (d % 256 : Nat)]
  else [ub (2 + 4 * (n - 1) : Nat), ub (d % 256 : Nat), ub (d / 256 : Nat)]
/-- The elements from place i on, of which what stands from p on is pending. -/
def pk (L : List UInt8) : Nat → Nat → Nat → List UInt8
  | 0, _, _ => []
  | f + 1, p, i => if i < L.length then
      (match fnd L i i with
      | none => pk L f p (i + 1)
      | some j => litE ((L.take i).drop p) ++ (cpyE (mt L j i 64) (i - j) ++ pk L f (i + mt L j i 64) (i + mt L j i 64)))
    else litE (L.drop p)
def pack (L : List UInt8) : List UInt8 := lebL L.length ++ pk L (L.length + 1) 0 0

theorem mt_le (L : List UInt8) (f : Nat) : ∀ j i, mt L j i f ≤ f ∧ (i ≤ L.length → i + mt L j i f ≤ L.length) := by
  induction f with
  | zero => intro j i; simp [mt]
  | succ f ih =>
    intro j i
    have := ih (j + 1) (i + 1)
    unfold mt
    split <;> omega
theorem mt_at (L : List UInt8) (f : Nat) : ∀ j i n, n < mt L j i f → L[j + n]? = L[i + n]? := by
  induction f with
  | zero => intro j i n h; simp [mt] at h
  | succ f ih =>
    intro j i n h
    unfold mt at h
    split at h
    · rename_i hc
      cases n with
      | zero => exact hc.2
      | succ n =>
        have := ih (j + 1) (i + 1) n (by omega)
        rw [show j + (n + 1) = j + 1 + n from by omega, show i + (n + 1) = i + 1 + n from by omega]; exact this
    · omega
theorem fnd_some (L : List UInt8) (i : Nat) : ∀ k j, fnd L i k = some j → j < k ∧ 4 ≤ mt L j i 64 := by
  intro k
  induction k with
  | zero => intro j h; simp [fnd] at h
  | succ k ih =>
    intro j h
    unfold fnd at h
    split at h
    · rename_i hc
      injection h with h
      subst h
      exact ⟨by omega, hc⟩
    · have := ih j h
      omega
/-- What a copy lays is what stands there. -/
theorem cpy_mt (L : List UInt8) (j i : Nat) (hj : j < i) (hi : i ≤ L.length) : ∀ n, n ≤ mt L j i 64 → cpy (L.take i) (i - j) n = L.take (i + n) := by
  intro n
  induction n with
  | zero => intro _; rfl
  | succ n ih =>
    intro hn
    have hl := (mt_le L 64 j i).2 hi
    rw [cpy_snoc, ih (by omega)]
    have h1 : (L.take (i + n)).length = i + n := by rw [List.length_take]; omega
    have h2 := mt_at L 64 j i n (by omega)
    rw [h1, show i + n - (i - j) = j + n from by omega, show i + (n + 1) = (i + n) + 1 from by omega, List.take_succ_eq_append_getElem (by omega)]
    congr 1
    rw [List.getD_eq_getElem?_getD, List.getElem?_take_of_lt (by omega), h2, List.getElem?_eq_getElem (by omega)]
    rfl

theorem litE_length (l : List UInt8) (h : l.length ≤ 65536) : l.length ≤ (litE l).length ∧ (litE l).length ≤ l.length + (if l.length = 0 then 0 else if l.length ≤ 60 then 1 else if l.length ≤ 256 then 2 else 3) := by
  unfold litE
  split
  · rename_i h0; simp [h0]
  · split
    · simp
    · split <;> simp <;> omega
theorem cpyE_length (n d : Nat) : 2 ≤ (cpyE n d).length ∧ (cpyE n d).length ≤ 3 := by
  unfold cpyE; split <;> simp
/-- THE BOUND. -/
theorem pk_length (L : List UInt8) (hL : L.length ≤ 65536) (f : Nat) : ∀ p i, p ≤ i → i ≤ L.length → 32 * (pk L f p i).length ≤ 33 * (L.length - p) + 96 := by
  induction f with
  | zero => intro p i _ _; simp [pk]
  | succ f ih =>
    intro p i hp hi
    unfold pk
    split
    · cases hf : fnd L i i with
      | none => exact ih p (i + 1) (by omega) (by omega)
      | some j =>
        obtain ⟨hj, h4⟩ := fnd_some L i i j hf
        have hm := (mt_le L 64 j i).2 hi
        have h1 := ih (i + mt L j i 64) (i + mt L j i 64) (Nat.le_refl _) hm
        have h2 := cpyE_length (mt L j i 64) (i - j)
        have hlen : ((L.take i).drop p).length = i - p := by simp; omega
        have h3 := litE_length ((L.take i).drop p) (by omega)
        rw [hlen] at h3
        simp only [List.length_append]
        split at h3
        · omega
        · split at h3
          · omega
          · split at h3 <;> omega
    · have hlen : (L.drop p).length = L.length - p := by simp
      have h3 := litE_length (L.drop p) (by omega)
      rw [hlen] at h3
      split at h3
      · omega
      · split at h3
        · omega
        · split at h3 <;> omega
theorem pack_length (L : List UInt8) (hL : L.length ≤ 65536) : (pack L).length ≤ L.length + L.length / 32 + 8 := by
  have h1 := pk_length L hL (L.length + 1) 0 0 (Nat.le_refl _) (Nat.zero_le _)
  have h2 := lebL_length 3 L.length (by omega) (by omega)
  unfold pack
  rw [List.length_append]
  omega

/-- A literal is laid. -/
theorem lit_lays (B : ByteArray) (size : Nat) (pre l rest out : List UInt8) (hB : B.data.toList = pre ++ (litE l ++ rest)) (hl : l.length ≤ 65536) (hs : out.length + l.length ≤ size) :
    ∃ n, n ≤ (litE l).length ∧ ∀ F, sAll B size (F + n) pre.length out = sAll B size F (pre.length + (litE l).length) (out ++ l) := by
  by_cases h0 : l.length = 0
  · have : l = [] := List.eq_nil_of_length_eq_zero h0
    subst this
    exact ⟨0, by simp, fun F => by simp [litE]⟩
  · refine ⟨1, ?_, fun F => ?_⟩
    · have := litE_length l hl; omega
    · have hz : B.size = pre.length + (litE l).length + rest.length := by rw [← toList_size, hB]; simp [Nat.add_assoc]
      have hcut : ∀ a b, (B.extract (pre.length + a) (pre.length + b)).data.toList = ((litE l ++ rest).take b).drop a := by
        intro a b
        rw [toList_cut, hB, List.take_append, List.drop_append, show pre.length + b - pre.length = b from by omega, List.drop_eq_nil_of_le (by rw [List.length_take]; omega), List.nil_append, List.length_take, show pre.length + a - min (pre.length + b) pre.length = a from by omega]
      unfold litE at hB hz hcut ⊢
      rw [if_neg h0] at hB hz hcut ⊢
      by_cases h1 : l.length ≤ 60
      · rw [if_pos h1] at hB hz hcut ⊢
        obtain ⟨g, e⟩ := get_of (s := B) (k := pre.length) (b := ub (4 * (l.length - 1) : Nat)) (by rw [hB]; simp)
        have e' : B[pre.length].toNat = 4 * (l.length - 1) := by rw [e, ub_toNat _ (by omega)]
        have hh : sHead (4 * (l.length - 1)) = 1 := by unfold sHead; rw [if_pos (by omega), if_neg (by omega)]
        have hc : ∀ x, sCount (4 * (l.length - 1)) x = l.length := by intro x; unfold sCount; rw [if_pos (by omega), if_neg (by omega)]; omega
        simp only [List.length_cons] at hz ⊢
        refine sAll_step g e' ?_
        unfold sStep
        rw [hc, hh, if_neg (by omega), if_neg (by omega), if_pos (by omega), if_neg (by omega), show pre.length + 1 + l.length = pre.length + (1 + l.length) from by omega, hcut]
        simp only [List.cons_append, Nat.add_comm 1, List.take_succ_cons, List.drop_succ_cons, List.drop_zero, List.take_append_of_le_length (Nat.le_refl l.length), List.take_length]
      · rw [if_neg h1] at hB hz hcut ⊢
        by_cases h2 : l.length ≤ 256
        · rw [if_pos h2] at hB hz hcut ⊢
          obtain ⟨g, e⟩ := get_of (s := B) (k := pre.length) (b := 240) (by rw [hB]; simp)
          have e' : B[pre.length].toNat = 240 := by rw [e]; rfl
          have hh : sHead 240 = 2 := by decide
          simp only [List.length_cons] at hz ⊢
          have hn : sNum B pre.length 240 = l.length - 1 := by
            unfold sNum
            rw [hh, hcut]
            simp only [List.cons_append, List.take_succ_cons, List.drop_succ_cons, List.drop_zero, List.take_zero]
            simp only [leL, ub_toNat (l.length - 1) (by omega)]
            omega
          have hc : sCount 240 (l.length - 1) = l.length := by unfold sCount; rw [if_pos (by omega), if_pos (by omega)]; omega
          refine sAll_step g e' ?_
          unfold sStep
          rw [hn, hc, hh, if_neg (by omega), if_neg (by omega), if_pos (by omega), if_neg (by omega), show pre.length + 2 + l.length = pre.length + (l.length + 2) from by omega, hcut]
          simp only [List.cons_append, List.take_succ_cons, List.drop_succ_cons, List.drop_zero, List.take_append_of_le_length (Nat.le_refl l.length), List.take_length]
        · rw [if_neg h2] at hB hz hcut ⊢
          obtain ⟨g, e⟩ := get_of (s := B) (k := pre.length) (b := 244) (by rw [hB]; simp)
          have e' : B[pre.length].toNat = 244 := by rw [e]; rfl
          have hh : sHead 244 = 3 := by decide
          simp only [List.length_cons] at hz ⊢
          have hn : sNum B pre.length 244 = l.length - 1 := by
            unfold sNum
            rw [hh, hcut]
            simp only [List.cons_append, List.take_succ_cons, List.drop_succ_cons, List.drop_zero, List.take_zero]
            simp only [leL, ub_toNat ((l.length - 1) % 256) (by omega), ub_toNat ((l.length - 1) / 256) (by omega)]
            omega
          have hc : sCount 244 (l.length - 1) = l.length := by unfold sCount; rw [if_pos (by omega), if_pos (by omega)]; omega
          refine sAll_step g e' ?_
          unfold sStep
          rw [hn, hc, hh, if_neg (by omega), if_neg (by omega), if_pos (by omega), if_neg (by omega), show pre.length + 3 + l.length = pre.length + (l.length + 3) from by omega, hcut]
          simp only [List.cons_append, List.take_succ_cons, List.drop_succ_cons, List.drop_zero, List.take_append_of_le_length (Nat.le_refl l.length), List.take_length]
/-- A copy is laid. -/
theorem cpy_lays (B : ByteArray) (size n d : Nat) (pre rest out : List UInt8) (hB : B.data.toList = pre ++ (cpyE n d ++ rest)) (h4 : 4 ≤ n) (hn : n ≤ 64) (hd : 1 ≤ d) (hd2 : d ≤ out.length) (hd3 : d < 65536) (hs : out.length + n ≤ size) (F : Nat) :
    sAll B size (F + 1) pre.length out = sAll B size F (pre.length + (cpyE n d).length) (cpy out d n) := by
  have hz : B.size = pre.length + (cpyE n d).length + rest.length := by rw [← toList_size, hB]; simp [Nat.add_assoc]
  have hcut : ∀ a b, (B.extract (pre.length + a) (pre.length + b)).data.toList = ((cpyE n d ++ rest).take b).drop a := by
    intro a b
    rw [toList_cut, hB, List.take_append, List.drop_append, show pre.length + b - pre.length = b from by omega, List.drop_eq_nil_of_le (by rw [List.length_take]; omega), List.nil_append, List.length_take, show pre.length + a - min (pre.length + b) pre.length = a from by omega]
  unfold cpyE at hB hz hcut ⊢
  by_cases h1 : n ≤ 11 ∧ d < 2048
  · rw [if_pos h1] at hB hz hcut ⊢
    obtain ⟨g, e⟩ := get_of (s := B) (k := pre.length) (b := ub (1 + 4 * (n - 4) + 32 * (d / 256) : Nat)) (by rw [hB]; simp)
    have e' : B[pre.length].toNat = 1 + 4 * (n - 4) + 32 * (d / 256) := by rw [e, ub_toNat _ (by omega)]
    have hh : sHead (1 + 4 * (n - 4) + 32 * (d / 256)) = 2 := by unfold sHead; rw [if_neg (by omega), if_pos (by omega)]
    simp only [List.length_cons, List.length_nil] at hz ⊢
    have hnum : sNum B pre.length (1 + 4 * (n - 4) + 32 * (d / 256)) = d % 256 := by
      unfold sNum
      rw [hh, hcut]
      simp only [List.cons_append, List.take_succ_cons, List.drop_succ_cons, List.drop_zero, List.take_zero]
      simp only [leL, ub_toNat (d % 256) (by omega)]
      omega
    have hc : ∀ x, sCount (1 + 4 * (n - 4) + 32 * (d / 256)) x = n := by intro x; unfold sCount; rw [if_neg (by omega), if_pos (by omega)]; omega
    have hb : sBack (1 + 4 * (n - 4) + 32 * (d / 256)) (d % 256) = d := by unfold sBack; rw [if_pos (by omega)]; omega
    refine sAll_step g e' ?_
    unfold sStep
    rw [hnum, hb, hc, hh, if_neg (by omega), if_neg (by omega), if_neg (by omega)]
  · rw [if_neg h1] at hB hz hcut ⊢
    obtain ⟨g, e⟩ := get_of (s := B) (k := pre.length) (b := ub (2 + 4 * (n - 1) : Nat)) (by rw [hB]; simp)
    have e' : B[pre.length].toNat = 2 + 4 * (n - 1) := by rw [e, ub_toNat _ (by omega)]
    have hh : sHead (2 + 4 * (n - 1)) = 3 := by unfold sHead; rw [if_neg (by omega), if_neg (by omega), if_pos (by omega)]
    simp only [List.length_cons, List.length_nil] at hz ⊢
    have hnum : sNum B pre.length (2 + 4 * (n - 1)) = d := by
      unfold sNum
      rw [hh, hcut]
      simp only [List.cons_append, List.take_succ_cons, List.drop_succ_cons, List.drop_zero, List.take_zero]
      simp only [leL, ub_toNat (d % 256) (by omega), ub_toNat (d / 256) (by omega)]
      omega
    have hc : ∀ x, sCount (2 + 4 * (n - 1)) x = n := by intro x; unfold sCount; rw [if_neg (by omega), if_neg (by omega)]; omega
    have hb : sBack (2 + 4 * (n - 1)) d = d := by unfold sBack; rw [if_neg (by omega)]
    refine sAll_step g e' ?_
    unfold sStep
    rw [hnum, hb, hc, hh, if_neg (by omega), if_neg (by omega), if_neg (by omega)]
/-- All elements are laid. -/
theorem pk_lays (B : ByteArray) (L : List UInt8) (hL : L.length ≤ 65536) (f : Nat) : ∀ (p i : Nat) (pre : List UInt8), p ≤ i → i ≤ L.length → L.length - i < f → B.data.toList = pre ++ pk L f p i →
    ∃ n, n ≤ (pk L f p i).length ∧ ∀ F, sAll B L.length (F + n) pre.length (L.take p) = sAll B L.length F B.size L := by
  induction f with
  | zero => intro p i pre _ _ h; omega
  | succ f ih =>
    intro p i pre hp hi hf hB
    unfold pk at hB ⊢
    by_cases h : i < L.length
    · rw [if_pos h] at hB ⊢
      cases hfd : fnd L i i with
      | none =>
        rw [hfd] at hB
        exact ih p (i + 1) pre (by omega) (by omega) (by omega) hB
      | some j =>
        rw [hfd] at hB
        simp only at hB ⊢
        obtain ⟨hj, h4⟩ := fnd_some L i i j hfd
        have hm := mt_le L 64 j i
        have hm2 := hm.2 hi
        have hlen : ((L.take i).drop p).length = i - p := by simp; omega
        have ht : (L.take p).length = p := by rw [List.length_take]; omega
        have hti : (L.take i).length = i := by rw [List.length_take]; omega
        have happ : L.take p ++ (L.take i).drop p = L.take i := by
          have := List.take_append_drop p (L.take i)
          rwa [List.take_take, Nat.min_eq_left hp] at this
        obtain ⟨n1, hn1, l1⟩ := lit_lays B L.length pre ((L.take i).drop p) _ (L.take p) hB (by omega) (by omega)
        rw [happ] at l1
        have hB2 : B.data.toList = (pre ++ litE ((L.take i).drop p)) ++ (cpyE (mt L j i 64) (i - j) ++ pk L f (i + mt L j i 64) (i + mt L j i 64)) := by rw [hB, List.append_assoc]
        have l2 := cpy_lays B L.length (mt L j i 64) (i - j) _ _ (L.take i) hB2 h4 hm.1 (by omega) (by omega) (by omega) (by omega)
        rw [cpy_mt L j i hj hi _ (Nat.le_refl _), List.length_append] at l2
        have hB3 : B.data.toList = ((pre ++ litE ((L.take i).drop p)) ++ cpyE (mt L j i 64) (i - j)) ++ pk L f (i + mt L j i 64) (i + mt L j i 64) := by rw [hB2, List.append_assoc _ (cpyE _ _) _]
        obtain ⟨n3, hn3, l3⟩ := ih _ _ _ (Nat.le_refl _) hm2 (by omega) hB3
        rw [List.length_append, List.length_append] at l3
        refine ⟨n3 + 1 + n1, ?_, fun F => ?_⟩
        · have := cpyE_length (mt L j i 64) (i - j)
          simp only [List.length_append]; omega
        · rw [show F + (n3 + 1 + n1) = (F + n3 + 1) + n1 from by omega, l1, l2, l3]
    · rw [if_neg h] at hB ⊢
      have hti : (L.take p).length = p := by rw [List.length_take]; omega
      obtain ⟨n1, hn1, l1⟩ := lit_lays B L.length pre (L.drop p) [] (L.take p) (by simpa using hB) (by simp; omega) (by simp; omega)
      refine ⟨n1, hn1, fun F => ?_⟩
      rw [l1, List.take_append_drop]
      congr 1
      rw [← toList_size, hB, List.length_append]
theorem pack_head (s : ByteArray) (L : List UInt8) (hL : L.length ≤ 65536) (hs : s.data.toList = pack L) : sSize s = (L.length, (lebL L.length).length, 0) := by
  unfold pack at hs
  have h := lebNext_put L.length s _ hs (by omega)
  unfold sSize
  rw [h, if_pos rfl, if_neg (by simp; omega)]
/-- THE LAW: what is packed is unpacked again. -/
theorem unpack_pack (s : ByteArray) (L : List UInt8) (hL : L.length ≤ 65536) (hs : s.data.toList = pack L) (most : Int) (hm : L.length ≤ most) : sUnpack s most = (0, L) := by
  have hh := pack_head s L hL hs
  unfold sUnpack
  rw [hh]
  simp only [ne_eq, not_true_eq_false, if_false]
  rw [if_neg (by omega)]
  unfold pack at hs
  generalize hB : s.extract (lebL L.length).length s.size = B
  have hBl : B.data.toList = pk L (L.length + 1) 0 0 := by
    rw [← hB, toList_cut, take_all, hs, List.drop_append_of_le_length (Nat.le_refl _), List.drop_length, List.nil_append]
  obtain ⟨n, hn, hl⟩ := pk_lays B L hL (L.length + 1) 0 0 [] (Nat.le_refl _) (Nat.zero_le _) (by omega) (by simpa using hBl)
  unfold sElems
  have hz : B.size = (pk L (L.length + 1) 0 0).length := by rw [← toList_size, hBl]
  rw [show B.size + 1 = (B.size - n + 1) + n from by omega]
  have := hl (B.size - n + 1)
  simp only [List.length_nil, List.take_zero] at this
  rw [this]
  unfold sAll
  rw [dif_neg (by omega), if_neg (by omega)]
end Go.Proofs.YtebllmpdlapefaaGreatDoor
namespace Go.Proofs.YtebllmpdlapefaaGreatDoor
set_option linter.unusedVariables false
set_option linter.unusedSimpArgs false

/-- How many bytes stand behind a frame's length, how many that has, the error. -/
def plSize (most : Int) (s : ByteArray) : Nat × Nat × Int :=
  if (lebNext s).2.2 = 0 then (if most < (lebNext s).1 then (0, 0, 5) else ((lebNext s).1, (lebNext s).2.1, 0)) else (0, 0, (lebNext s).2.2)
/-- A frame: the error, its number, its body, how many bytes it has. -/
def plNext (most : Int) (s : ByteArray) : Int × Nat × ByteArray × Nat :=
  if (plSize most s).2.2 ≠ 0 then ((plSize most s).2.2, 0, ByteArray.empty, 0)
  else if s.size < (plSize most s).2.1 + (plSize most s).1 then (2, 0, ByteArray.empty, 0)
  else if (lebNext (s.extract (plSize most s).2.1 ((plSize most s).2.1 + (plSize most s).1))).2.2 ≠ 0 then (3, 0, ByteArray.empty, 0)
  else (0, (lebNext (s.extract (plSize most s).2.1 ((plSize most s).2.1 + (plSize most s).1))).1,
    (s.extract (plSize most s).2.1 ((plSize most s).2.1 + (plSize most s).1)).extract (lebNext (s.extract (plSize most s).2.1 ((plSize most s).2.1 + (plSize most s).1))).2.1 (plSize most s).1,
    (plSize most s).2.1 + (plSize most s).1)
theorem plNext_eq (most : Int) (s : ByteArray) : plNext most s = (
  if (plSize most s).2.2 ≠ 0 then ((plSize most s).2.2, 0, ByteArray.empty, 0)
  else if s.size < (plSize most s).2.1 + (plSize most s).1 then (2, 0, ByteArray.empty, 0)
  else if (lebNext (s.extract (plSize most s).2.1 ((plSize most s).2.1 + (plSize most s).1))).2.2 ≠ 0 then (3, 0, ByteArray.empty, 0)
  else (0, (lebNext (s.extract (plSize most s).2.1 ((plSize most s).2.1 + (plSize most s).1))).1,
    (s.extract (plSize most s).2.1 ((plSize most s).2.1 + (plSize most s).1)).extract (lebNext (s.extract (plSize most s).2.1 ((plSize most s).2.1 + (plSize most s).1))).2.1 (plSize most s).1,
    (plSize most s).2.1 + (plSize most s).1)) := rfl
/-- A frame's bytes. -/
def plPut (id : Nat) (body : List UInt8) : List UInt8 := lebL (lebL id ++ body).length ++ (lebL id ++ body)
theorem plSize_ok (most : Int) (s : ByteArray) (h : (plSize most s).2.2 = 0) : ((plSize most s).1 : Int) ≤ most ∧ (plSize most s).2.1 ≤ s.size ∧ 0 < (plSize most s).2.1 ∧ (plSize most s).2.1 ≤ 10 := by
  unfold plSize at h ⊢
  by_cases h0 : (lebNext s).2.2 = 0
  · rw [if_pos h0] at h ⊢
    have hk := lebNext_ok s h0
    by_cases h1 : most < (lebNext s).1
    · rw [if_pos h1] at h; simp at h
    · rw [if_neg h1]; simp only; omega
  · rw [if_neg h0] at h; exact absurd h h0
/-- What is put is told again, with whatever behind it. -/
theorem plNext_put (most : Int) (id : Nat) (body : ByteArray) (s : ByteArray) (rest : List UInt8) (hid : id < 18446744073709551616) (hs : s.data.toList = plPut id body.data.toList ++ rest) (hb : ((lebL id).length + body.size : Int) ≤ most) (hb2 : body.size ≤ 1000000) :
    plNext most s = (0, id, body, (plPut id body.data.toList).length) := by
  unfold plPut at hs ⊢
  have hll := lebL_length 10 id (by omega) (by omega)
  have hlen : (lebL id ++ body.data.toList).length = (lebL id).length + body.size := by rw [List.length_append, toList_size]
  have h1 := lebNext_put (lebL id ++ body.data.toList).length s ((lebL id ++ body.data.toList) ++ rest) (by rw [hs, List.append_assoc]) (by omega)
  have hsz : plSize most s = ((lebL id ++ body.data.toList).length, (lebL (lebL id ++ body.data.toList).length).length, 0) := by
    unfold plSize
    rw [h1]
    simp only [if_true]
    rw [if_neg (by rw [hlen]; omega)]
  have hzs : s.size = (lebL (lebL id ++ body.data.toList).length).length + (lebL id ++ body.data.toList).length + rest.length := by
    rw [← toList_size, hs]; simp only [List.length_append]
  generalize hK : (lebL (lebL id ++ body.data.toList).length).length = K at *
  generalize hN : (lebL id ++ body.data.toList).length = N at *
  have hin : (s.extract K (K + N)).data.toList = lebL id ++ body.data.toList := by
    rw [toList_cut, hs, List.append_assoc, List.take_append, List.drop_append, hK]
    have e1 : (List.take (K + N) (lebL N)).length = K := by rw [List.length_take, hK]; omega
    rw [List.drop_eq_nil_of_le (by rw [e1]; exact Nat.le_refl _), e1, Nat.sub_self, List.drop_zero, List.nil_append, show K + N - K = N from by omega, List.take_append_of_le_length (by omega), List.take_of_length_le (by omega)]
  have h2 := lebNext_put id (s.extract K (K + N)) body.data.toList hin hid
  have hbody : (s.extract K (K + N)).extract (lebL id).length N = body := by
    apply bytes_ext
    rw [toList_cut, hin, List.take_of_length_le (by omega), List.drop_append_of_le_length (Nat.le_refl _), List.drop_length, List.nil_append]
  unfold plNext
  rw [hsz]
  simp only [ne_eq, not_true_eq_false, if_false]
  rw [if_neg (by omega), h2]
  simp only [not_true_eq_false, if_false]
  rw [hbody, List.length_append, hK, hN]

/-- What the packed frame tells: the error, its number, its body, how many bytes it has, how many are metered. -/
def pkNext (most unpacked : Int) (s : ByteArray) : Int × Nat × ByteArray × Nat × Nat :=
  if (plNext most s).1 ≠ 0 then ((plNext most s).1, 0, ByteArray.empty, 0, 0)
  else if (sSize (plNext most s).2.2.1).2.2 ≠ 0 then ((if (sSize (plNext most s).2.2.1).2.2 = 5 then 5 else 3), 0, ByteArray.empty, 0, 0)
  else if unpacked < (sSize (plNext most s).2.2.1).1 then (5, 0, ByteArray.empty, 0, 0)
  else if (sUnpack (plNext most s).2.2.1 unpacked).1 ≠ 0 then (3, 0, ByteArray.empty, 0, (sSize (plNext most s).2.2.1).1)
  else (0, (plNext most s).2.1, ⟨(sUnpack (plNext most s).2.2.1 unpacked).2.toArray⟩, (plNext most s).2.2.2, (sSize (plNext most s).2.2.1).1)
theorem pkNext_eq (most unpacked : Int) (s : ByteArray) : pkNext most unpacked s = (
  if (plNext most s).1 ≠ 0 then ((plNext most s).1, 0, ByteArray.empty, 0, 0)
  else if (sSize (plNext most s).2.2.1).2.2 ≠ 0 then ((if (sSize (plNext most s).2.2.1).2.2 = 5 then 5 else 3), 0, ByteArray.empty, 0, 0)
  else if unpacked < (sSize (plNext most s).2.2.1).1 then (5, 0, ByteArray.empty, 0, 0)
  else if (sUnpack (plNext most s).2.2.1 unpacked).1 ≠ 0 then (3, 0, ByteArray.empty, 0, (sSize (plNext most s).2.2.1).1)
  else (0, (plNext most s).2.1, ⟨(sUnpack (plNext most s).2.2.1 unpacked).2.toArray⟩, (plNext most s).2.2.2, (sSize (plNext most s).2.2.1).1)) := rfl
end Go.Proofs.YtebllmpdlapefaaGreatDoor
namespace Go.Proofs.YtebllmpdlapefaaGreatDoor
set_option linter.unusedVariables false
set_option linter.unusedSimpArgs false

theorem lebGo_pre (s : ByteArray) (c : Nat) (hc : c ≤ s.size) (f : Nat) : ∀ i n, lebGo (s.extract 0 c) f i n = lebGo s f i n ∨ lebGo (s.extract 0 c) f i n = (0, 0, 2) := by
  have hz : (s.extract 0 c).size = c := by rw [size_cut _ _ _ hc]; omega
  induction f with
  | zero => intro i n; exact .inl rfl
  | succ f ih =>
    intro i n
    by_cases hi : i < c
    · have h1 : i < (s.extract 0 c).size := by omega
      have h2 : i < s.size := by omega
      have e : (s.extract 0 c)[i] = s[i] := by
        have h3 := byte_at (s.extract 0 c) i h1
        rw [toList_cut, List.drop_zero, List.getElem?_take_of_lt hi, byte_at s i h2] at h3
        injection h3 with h3; exact h3.symm
      rw [lebGo, lebGo, dif_pos h1, dif_pos h2, e]
      split
      · exact .inl rfl
      · split
        · exact .inl rfl
        · exact ih _ _
    · exact .inr (lebGo_end _ _ _ _ (by omega))
theorem lebNext_pre (s : ByteArray) (c : Nat) (hc : c ≤ s.size) : lebNext (s.extract 0 c) = lebNext s ∨ lebNext (s.extract 0 c) = (0, 0, 2) := lebGo_pre s c hc 10 0 0
theorem plNext_pre (most : Int) (s : ByteArray) (c : Nat) (hc : c ≤ s.size) : plNext most (s.extract 0 c) = plNext most s ∨ plNext most (s.extract 0 c) = (2, 0, ByteArray.empty, 0) := by
  have hz : (s.extract 0 c).size = c := by rw [size_cut _ _ _ hc]; omega
  rcases lebNext_pre s c hc with h | h
  · have hp : plSize most (s.extract 0 c) = plSize most s := by unfold plSize; rw [h]
    rw [plNext_eq most (s.extract 0 c), plNext_eq most s, hp, hz]
    by_cases h0 : (plSize most s).2.2 ≠ 0
    · rw [if_pos h0, if_pos h0]; exact .inl rfl
    · rw [if_neg h0, if_neg h0]
      by_cases h1 : c < (plSize most s).2.1 + (plSize most s).1
      · rw [if_pos h1]; exact .inr rfl
      · have h2 : ¬ s.size < (plSize most s).2.1 + (plSize most s).1 := by omega
        rw [if_neg h1, if_neg h2]
        have e : (s.extract 0 c).extract (plSize most s).2.1 ((plSize most s).2.1 + (plSize most s).1) = s.extract (plSize most s).2.1 ((plSize most s).2.1 + (plSize most s).1) := by
          apply bytes_ext
          rw [toList_cut, toList_cut, toList_cut, List.drop_zero, List.take_take, Nat.min_eq_left (by omega)]
        rw [e]; exact .inl rfl
  · have hp : plSize most (s.extract 0 c) = (0, 0, 2) := by unfold plSize; rw [h]; rfl
    rw [plNext_eq most (s.extract 0 c), hp]; exact .inr rfl
theorem pkNext_short (most unp : Int) (s : ByteArray) (h : (pkNext most unp s).1 = 2) : pkNext most unp s = (2, 0, ByteArray.empty, 0, 0) := by
  rw [pkNext_eq] at h ⊢
  by_cases h0 : (plNext most s).1 ≠ 0
  · rw [if_pos h0] at h ⊢; simp only at h ⊢; rw [h]
  · rw [if_neg h0] at h ⊢
    split at h
    · simp only at h; split at h <;> omega
    · split at h
      · simp at h
      · split at h <;> simp at h
theorem pkNext_pre (most unp : Int) (s : ByteArray) (c : Nat) (hc : c ≤ s.size) : pkNext most unp (s.extract 0 c) = (2, 0, ByteArray.empty, 0, 0) ∨ ((pkNext most unp s).1 ≠ 2 ∧ pkNext most unp (s.extract 0 c) = pkNext most unp s) := by
  rcases plNext_pre most s c hc with h | h
  · have e : pkNext most unp (s.extract 0 c) = pkNext most unp s := by rw [pkNext_eq, pkNext_eq most unp s, h]
    by_cases h2 : (pkNext most unp s).1 = 2
    · left; rw [e]; exact pkNext_short most unp s h2
    · exact .inr ⟨h2, e⟩
  · left; rw [pkNext_eq, h]; rfl
/-- What was told is put as it was. -/
theorem lebGo_back (s : ByteArray) : ∀ (f i n m k : Nat), lebGo s f i n = (m, k, 0) → ∃ r, m = n + r * 2 ^ (7 * i) ∧ (0 < i → 0 < r) ∧ i < k ∧ k ≤ s.size ∧ lebL r = (s.data.toList.take k).drop i
  | 0, i, n, m, k, h => by simp [lebGo] at h
  | f + 1, i, n, m, k, h => by
    by_cases hi : i < s.size
    · by_cases hb : (i = 9 ∧ 1 < s[i].toNat) ∨ (0 < i ∧ s[i].toNat = 0)
      · rw [lebGo_bad s f i n hi hb] at h; simp at h
      · have hat : s.data.toList[i]? = some s[i] := by
          rw [List.getElem?_eq_getElem (by rw [toList_size]; exact hi)]; rfl
        by_cases hl : s[i].toNat < 128
        · rw [lebGo_last s f i n hi hb hl] at h
          injection h with h1 h2
          injection h2 with h2 _
          refine ⟨s[i].toNat, by rw [← h1, Nat.mod_eq_of_lt hl], fun h0 => by omega, by omega, by omega, ?_⟩
          rw [lebL_small hl, ← h2]
          have hu : ub (s[i].toNat : Nat) = s[i] := by apply UInt8.toNat_inj.1; rw [ub_toNat _ (by omega)]
          rw [hu, List.take_add_one, hat, Option.toList_some, List.drop_append_of_le_length (by rw [List.length_take, toList_size]; omega), List.drop_eq_nil_of_le (by rw [List.length_take]; omega), List.nil_append]
        · rw [lebGo_more s f i n hi hb hl] at h
          obtain ⟨r, hm, hr, hik, hks, hll⟩ := lebGo_back s f (i + 1) _ m k h
          have hr0 := hr (by omega)
          have hb256 := s[i].toNat_lt
          have h2 : 2 ^ (7 * (i + 1)) = 128 * 2 ^ (7 * i) := by rw [show 7 * (i + 1) = 7 + 7 * i from by omega, Nat.pow_add]
          refine ⟨s[i].toNat % 128 + r * 128, by rw [hm, h2, Nat.add_mul, Nat.mul_assoc, Nat.add_assoc], fun _ => by omega, by omega, hks, ?_⟩
          have e1 : (s[i].toNat % 128 + r * 128) % 128 = s[i].toNat % 128 := by omega
          have e2 : (s[i].toNat % 128 + r * 128) / 128 = r := by omega
          rw [lebL_more (by omega), e1, e2, hll]
          have hu : ub (s[i].toNat % 128 + 128 : Nat) = s[i] := by apply UInt8.toNat_inj.1; rw [ub_toNat _ (by omega)]; omega
          rw [hu]
          have hlt : i < (s.data.toList.take k).length := by rw [List.length_take, toList_size]; omega
          rw [List.drop_eq_getElem_cons hlt]
          rw [List.getElem_take]; rfl
    · rw [lebGo_end s (f + 1) i n hi] at h; simp at h
theorem lebNext_back (s : ByteArray) (h : (lebNext s).2.2 = 0) : lebL (lebNext s).1 = s.data.toList.take (lebNext s).2.1 ∧ (lebNext s).2.1 = (lebL (lebNext s).1).length := by
  obtain ⟨r, hm, _, _, hk, hl⟩ := lebGo_back s 10 0 0 (lebNext s).1 (lebNext s).2.1 (by rw [← h]; rfl)
  have hr : (lebNext s).1 = r := by simpa using hm
  rw [hr, hl, List.drop_zero]
  exact ⟨rfl, by rw [List.length_take, toList_size]; omega⟩
theorem lebGo_short (s : ByteArray) : ∀ (f i n : Nat), i + f = 10 → (lebGo s f i n).2.2 = 2 → f = 0 ∨ s.size < 10
  | 0, i, n, _, _ => .inl rfl
  | f + 1, i, n, hif, h => by
    right
    by_cases hi : i < s.size
    · by_cases hb : (i = 9 ∧ 1 < s[i].toNat) ∨ (0 < i ∧ s[i].toNat = 0)
      · rw [lebGo_bad s f i n hi hb] at h; simp at h
      · by_cases hl : s[i].toNat < 128
        · rw [lebGo_last s f i n hi hb hl] at h; simp at h
        · rw [lebGo_more s f i n hi hb hl] at h
          rcases lebGo_short s f (i + 1) _ (by omega) h with h1 | h1
          · omega
          · exact h1
    · omega
theorem lebNext_short (s : ByteArray) (h : (lebNext s).2.2 = 2) : s.size < 10 := by
  rcases lebGo_short s 10 0 0 rfl h with h1 | h1
  · omega
  · exact h1
theorem plSize_put (most : Int) (id : Nat) (body : List UInt8) (s : ByteArray) (rest : List UInt8) (hs : s.data.toList = plPut id body ++ rest) (hN : (lebL id ++ body).length < 18446744073709551616) :
    plSize most s = if most < (lebL id ++ body).length then (0, 0, 5) else ((lebL id ++ body).length, (lebL (lebL id ++ body).length).length, 0) := by
  have h1 := lebNext_put (lebL id ++ body).length s ((lebL id ++ body) ++ rest) (by rw [hs]; unfold plPut; rw [List.append_assoc]) hN
  unfold plSize
  rw [h1]
  simp only [if_true]
theorem plNext_over (most : Int) (s : ByteArray) (h : (plSize most s).2.2 = 5) : plNext most s = (5, 0, ByteArray.empty, 0) := by
  unfold plNext
  rw [if_pos (by rw [h]; decide), h]
/-- What a plain frame tells is put as it was. -/
theorem plPut_next (most : Int) (s : ByteArray) (id : Nat) (body : ByteArray) (n : Nat) (h : plNext most s = (0, id, body, n)) :
    n ≤ s.size ∧ id < 18446744073709551616 ∧ (((lebL id).length + body.size : Nat) : Int) ≤ most ∧ n = (lebL ((lebL id).length + body.size)).length + ((lebL id).length + body.size) ∧ (⟨(plPut id body.data.toList).toArray⟩ : ByteArray) = s.extract 0 n := by
  unfold plNext at h
  by_cases h0 : (plSize most s).2.2 ≠ 0
  · rw [if_pos h0] at h; injection h with h; exact absurd h h0
  rw [if_neg h0] at h
  have h0 := Decidable.not_not.1 h0
  have hok := plSize_ok most s h0
  have hsz : plSize most s = ((lebNext s).1, (lebNext s).2.1, 0) ∧ (lebNext s).2.2 = 0 := by
    unfold plSize at h0 ⊢
    by_cases h1 : (lebNext s).2.2 = 0
    · rw [if_pos h1] at h0 ⊢
      by_cases h2 : most < (lebNext s).1
      · rw [if_pos h2] at h0; simp at h0
      · rw [if_neg h2]; exact ⟨rfl, h1⟩
    · rw [if_neg h1] at h0; exact absurd h0 h1
  obtain ⟨hbk, hhd⟩ := lebNext_back s hsz.2
  rw [hsz.1] at h hok
  generalize (lebNext s).1 = N at *
  generalize (lebNext s).2.1 = K at *
  try simp only at h hok
  by_cases h1 : s.size < K + N
  · rw [if_pos h1] at h; injection h with h; simp at h
  rw [if_neg h1] at h
  by_cases h2 : (lebNext (s.extract K (K + N))).2.2 ≠ 0
  · rw [if_pos h2] at h; injection h with h; simp at h
  rw [if_neg h2] at h
  have h2 := Decidable.not_not.1 h2
  obtain ⟨hb2, hh2⟩ := lebNext_back _ h2
  have hok2 := lebNext_ok _ h2
  injection h with _ h
  injection h with hid h
  injection h with hbd hn
  rw [hid] at hb2 hh2 hok2
  generalize (lebNext (s.extract K (K + N))).2.1 = J at *
  have hrz : (s.extract K (K + N)).size = N := by rw [size_cut _ _ _ (by omega)]; omega
  have hbz : body.size = N - J := by rw [← hbd, size_cut _ _ _ (by omega)]
  have hlid : (lebL id).length = J := hh2.symm
  have hNN : (lebL id).length + body.size = N := by rw [hlid, hbz]; omega
  have hin : lebL id ++ body.data.toList = (s.extract K (K + N)).data.toList := by
    have e1 : (s.extract K (K + N)).data.toList.take N = (s.extract K (K + N)).data.toList := List.take_of_length_le (by rw [toList_size]; omega)
    rw [hb2, ← hbd]
    generalize s.extract K (K + N) = R at *
    rw [toList_cut R J N, e1]; exact List.take_append_drop _ _
  refine ⟨by omega, hok2.2.2.2, by rw [hNN]; exact hok.1, by rw [hNN, ← hhd]; exact hn.symm, ?_⟩
  apply bytes_ext
  have hl2 : (lebL id ++ body.data.toList).length = N := by rw [List.length_append, toList_size]; exact hNN
  show plPut id body.data.toList = _
  unfold plPut
  rw [hl2, hbk, hin, toList_cut, toList_cut, List.drop_zero, ← hn]
  have := List.take_append_drop K (s.data.toList.take (K + N))
  rwa [List.take_take, Nat.min_eq_left (by omega)] at this
end Go.Proofs.YtebllmpdlapefaaGreatDoor
namespace Go.Proofs.YtebllmpdlapefaaGreatDoor
set_option linter.unusedVariables false
set_option linter.unusedSimpArgs false

def rotr (x n : Nat) : Nat := x / 2 ^ n ||| x * 2 ^ (32 - n) % 4294967296
def sg0 (x : Nat) : Nat := rotr x 7 ^^^ rotr x 18 ^^^ x / 2 ^ 3
def sg1 (x : Nat) : Nat := rotr x 17 ^^^ rotr x 19 ^^^ x / 2 ^ 10
def Sg0 (x : Nat) : Nat := rotr x 2 ^^^ rotr x 13 ^^^ rotr x 22
def Sg1 (x : Nat) : Nat := rotr x 6 ^^^ rotr x 11 ^^^ rotr x 25
def shCh (e f g : Nat) : Nat := e &&& f ||| (e ^^^ 4294967295) &&& g
def shMaj (a b c : Nat) : Nat := a &&& b ||| a &&& c ||| b &&& c
theorem lt32 {n : Nat} : n < 4294967296 ↔ n < 2 ^ 32 := by simp
theorem or_lt32 {a b : Nat} (ha : a < 4294967296) (hb : b < 4294967296) : a ||| b < 4294967296 := by
  rw [lt32] at *; exact Nat.or_lt_two_pow ha hb
theorem and_lt32 {a b : Nat} (ha : a < 4294967296) : a &&& b < 4294967296 := Nat.lt_of_le_of_lt Nat.and_le_left ha
theorem xor_lt32 {a b : Nat} (ha : a < 4294967296) (hb : b < 4294967296) : a ^^^ b < 4294967296 := by
  rw [lt32] at *; exact Nat.xor_lt_two_pow ha hb
theorem div_lt32 {a : Nat} (n : Nat) (ha : a < 4294967296) : a / 2 ^ n < 4294967296 := Nat.lt_of_le_of_lt (Nat.div_le_self _ _) ha
theorem rotr_lt {x : Nat} (n : Nat) (h : x < 4294967296) : rotr x n < 4294967296 := or_lt32 (div_lt32 n h) (Nat.mod_lt _ (by omega))
theorem sg0_lt {x : Nat} (h : x < 4294967296) : sg0 x < 4294967296 := xor_lt32 (xor_lt32 (rotr_lt _ h) (rotr_lt _ h)) (div_lt32 _ h)
theorem sg1_lt {x : Nat} (h : x < 4294967296) : sg1 x < 4294967296 := xor_lt32 (xor_lt32 (rotr_lt _ h) (rotr_lt _ h)) (div_lt32 _ h)
theorem Sg0_lt {x : Nat} (h : x < 4294967296) : Sg0 x < 4294967296 := xor_lt32 (xor_lt32 (rotr_lt _ h) (rotr_lt _ h)) (rotr_lt _ h)
theorem Sg1_lt {x : Nat} (h : x < 4294967296) : Sg1 x < 4294967296 := xor_lt32 (xor_lt32 (rotr_lt _ h) (rotr_lt _ h)) (rotr_lt _ h)
theorem shCh_lt {e f g : Nat} (he : e < 4294967296) : shCh e f g < 4294967296 := or_lt32 (and_lt32 he) (and_lt32 (xor_lt32 he (by omega)))
theorem shMaj_lt {a b c : Nat} (ha : a < 4294967296) (hb : b < 4294967296) : shMaj a b c < 4294967296 := or_lt32 (or_lt32 (and_lt32 ha) (and_lt32 ha)) (and_lt32 hb)
/-- The program's choice and vote. -/
theorem shCh_xor (e f g : Nat) (he : e < 4294967296) : e &&& f ^^^ (e ^^^ 4294967295) &&& g = shCh e f g := by
  apply Nat.eq_of_testBit_eq
  intro i
  have h : Nat.testBit 4294967295 i = decide (i < 32) := by
    have := Nat.testBit_two_pow_sub_one 32 i
    simpa using this
  unfold shCh
  simp only [Nat.testBit_xor, Nat.testBit_and, Nat.testBit_or, h]
  by_cases hi : i < 32
  · simp only [hi, decide_true]
    cases Nat.testBit e i <;> cases Nat.testBit f i <;> cases Nat.testBit g i <;> rfl
  · have he2 : Nat.testBit e i = false := Nat.testBit_lt_two_pow (Nat.lt_of_lt_of_le (lt32.1 he) (Nat.pow_le_pow_right (by omega) (by omega)))
    simp [hi, he2]
theorem shMaj_xor (a b c : Nat) : (a &&& b ^^^ a &&& c) ^^^ b &&& c = shMaj a b c := by
  apply Nat.eq_of_testBit_eq
  intro i
  unfold shMaj
  simp only [Nat.testBit_xor, Nat.testBit_and, Nat.testBit_or]
  cases Nat.testBit a i <;> cases Nat.testBit b i <;> cases Nat.testBit c i <;> rfl
/-- The word at a place of a text. -/
def wordAt (s : ByteArray) (i : Nat) : Nat := (s.data.toList.getD (4 * i) 0).toNat * 16777216 + (s.data.toList.getD (4 * i + 1) 0).toNat * 65536 + (s.data.toList.getD (4 * i + 2) 0).toNat * 256 + (s.data.toList.getD (4 * i + 3) 0).toNat
theorem wordAt_lt (s : ByteArray) (i : Nat) : wordAt s i < 4294967296 := by
  have h1 := (s.data.toList.getD (4 * i) 0).toNat_lt
  have h2 := (s.data.toList.getD (4 * i + 1) 0).toNat_lt
  have h3 := (s.data.toList.getD (4 * i + 2) 0).toNat_lt
  have h4 := (s.data.toList.getD (4 * i + 3) 0).toNat_lt
  unfold wordAt; omega
/-- The words that a block spreads to. -/
def nextW (s : ByteArray) (l : List Nat) (i : Nat) : Nat :=
  if i < 16 then wordAt s i else (l.getD (i - 16) 0 + sg0 (l.getD (i - 15) 0) + l.getD (i - 7) 0 + sg1 (l.getD (i - 2) 0)) % 4294967296
def sched (s : ByteArray) : Nat → List Nat
  | 0 => []
  | i + 1 => sched s i ++ [nextW s (sched s i) i]
theorem sched_length (s : ByteArray) (i : Nat) : (sched s i).length = i := by
  induction i with
  | zero => rfl
  | succ i ih => simp [sched, ih]
theorem nextW_lt (s : ByteArray) (l : List Nat) (i : Nat) : nextW s l i < 4294967296 := by
  unfold nextW; split
  · exact wordAt_lt s i
  · exact Nat.mod_lt _ (by omega)
theorem sched_get (s : ByteArray) (i j : Nat) (h : j < i) : (sched s i).getD j 0 = nextW s (sched s j) j := by
  induction i with
  | zero => omega
  | succ i ih =>
    rw [sched, List.getD_eq_getElem?_getD]
    by_cases hj : j < i
    · rw [List.getElem?_append_left (by rw [sched_length]; exact hj), ← List.getD_eq_getElem?_getD]; exact ih hj
    · obtain rfl : j = i := by omega
      rw [List.getElem?_append_right (by rw [sched_length]; exact Nat.le_refl _), sched_length, Nat.sub_self]; rfl
theorem sched_lt (s : ByteArray) (i j : Nat) : (sched s i).getD j 0 < 4294967296 := by
  by_cases h : j < i
  · rw [sched_get s i j h]; exact nextW_lt _ _ _
  · rw [List.getD_eq_getElem?_getD, List.getElem?_eq_none (by rw [sched_length]; omega)]; simp
/-- The word at i. -/
def wAt (s : ByteArray) (i : Nat) : Nat := (sched s 64).getD i 0
theorem wAt_lt (s : ByteArray) (i : Nat) : wAt s i < 4294967296 := sched_lt s 64 i
theorem wAt_first (s : ByteArray) (i : Nat) (h : i < 16) : wAt s i = wordAt s i := by
  unfold wAt; rw [sched_get s 64 i (by omega), nextW, if_pos h]
theorem wAt_rec (s : ByteArray) (i : Nat) (h : 16 ≤ i) (h64 : i < 64) : wAt s i = (wAt s (i - 16) + sg0 (wAt s (i - 15)) + wAt s (i - 7) + sg1 (wAt s (i - 2))) % 4294967296 := by
  unfold wAt
  rw [sched_get s 64 i h64, nextW, if_neg (by omega), sched_get s 64 (i - 16) (by omega), sched_get s 64 (i - 15) (by omega), sched_get s 64 (i - 7) (by omega), sched_get s 64 (i - 2) (by omega),
    sched_get s i (i - 16) (by omega), sched_get s i (i - 15) (by omega), sched_get s i (i - 7) (by omega), sched_get s i (i - 2) (by omega)]
/-- The eight words. -/
structure Sh where
  a : Nat
  b : Nat
  c : Nat
  d : Nat
  e : Nat
  f : Nat
  g : Nat
  h : Nat
structure Sh.ok (s : Sh) : Prop where
  a : s.a < 4294967296
  b : s.b < 4294967296
  c : s.c < 4294967296
  d : s.d < 4294967296
  e : s.e < 4294967296
  f : s.f < 4294967296
  g : s.g < 4294967296
  h : s.h < 4294967296
def shP (k w : Nat) (s : Sh) : Nat := (s.h + Sg1 s.e + k + w + shCh s.e s.f s.g) % 4294967296
def shQ (s : Sh) : Nat := (Sg0 s.a + shMaj s.a s.b s.c) % 4294967296
def shStep (k w : Nat) (s : Sh) : Sh := ⟨(shP k w s + shQ s) % 4294967296, s.a, s.b, s.c, (s.d + shP k w s) % 4294967296, s.e, s.f, s.g⟩
theorem shStep_ok (k w : Nat) {s : Sh} (h : s.ok) : (shStep k w s).ok := ⟨Nat.mod_lt _ (by omega), h.a, h.b, h.c, Nat.mod_lt _ (by omega), h.e, h.f, h.g⟩
def shRounds (K : List Nat) (blk : ByteArray) : Nat → Sh → Sh
  | 0, s => s
  | i + 1, s => shStep (K.getD i 0) (wAt blk i) (shRounds K blk i s)
theorem shRounds_ok (K : List Nat) (blk : ByteArray) (i : Nat) {s : Sh} (h : s.ok) : (shRounds K blk i s).ok := by
  induction i with
  | zero => exact h
  | succ i ih => exact shStep_ok _ _ ih
def shAdd (s t : Sh) : Sh := ⟨(s.a + t.a) % 4294967296, (s.b + t.b) % 4294967296, (s.c + t.c) % 4294967296, (s.d + t.d) % 4294967296, (s.e + t.e) % 4294967296, (s.f + t.f) % 4294967296, (s.g + t.g) % 4294967296, (s.h + t.h) % 4294967296⟩
def shMix (K : List Nat) (s : Sh) (blk : ByteArray) : Sh := shAdd s (shRounds K blk 64 s)
theorem shMix_ok (K : List Nat) (s : Sh) (blk : ByteArray) : (shMix K s blk).ok := ⟨Nat.mod_lt _ (by omega), Nat.mod_lt _ (by omega), Nat.mod_lt _ (by omega), Nat.mod_lt _ (by omega), Nat.mod_lt _ (by omega), Nat.mod_lt _ (by omega), Nat.mod_lt _ (by omega), Nat.mod_lt _ (by omega)⟩
/-- The ring of the last sixteen words, k words having come. -/
def ringAt (blk : ByteArray) (k j : Nat) : Nat := if j < k then wAt blk (j + 16 * ((k - 1 - j) / 16)) else 0
theorem ringAt_lt (blk : ByteArray) (k j : Nat) : ringAt blk k j < 4294967296 := by
  unfold ringAt; split
  · exact wAt_lt _ _
  · omega
theorem ringAt_back (blk : ByteArray) (k d : Nat) (h : 16 ≤ k) (hd : d < 16) : ringAt blk k ((k + d) % 16) = wAt blk (k - 16 + d) := by
  unfold ringAt
  rw [if_pos (by omega), show (k + d) % 16 + 16 * ((k - 1 - (k + d) % 16) / 16) = k - 16 + d from by omega]
theorem ringAt_new (blk : ByteArray) (k : Nat) : ringAt blk (k + 1) (k % 16) = wAt blk k := by
  unfold ringAt
  rw [if_pos (by omega), show k % 16 + 16 * ((k + 1 - 1 - k % 16) / 16) = k from by omega]
theorem ringAt_other (blk : ByteArray) (k j : Nat) (hj : j < 16) (hn : j ≠ k % 16) : ringAt blk (k + 1) j = ringAt blk k j := by
  unfold ringAt
  by_cases h : j < k
  · rw [if_pos (by omega), if_pos h, show (k + 1 - 1 - j) / 16 = (k - 1 - j) / 16 from by omega]
  · rw [if_neg (by omega), if_neg h]
end Go.Proofs.YtebllmpdlapefaaGreatDoor
namespace Go.Proofs.YtebllmpdlapefaaGreatDoor
set_option linter.unusedVariables false
set_option linter.unusedSimpArgs false

def valL : List Nat → Nat
  | [] => 0
  | d :: l => d + 65536 * valL l
def digL (l : List Nat) : Prop := ∀ d, d ∈ l → d < 65536
theorem valL_lt : ∀ (l : List Nat), digL l → valL l < 65536 ^ l.length
  | [], _ => by simp [valL]
  | d :: l, h => by
    have h1 := h d (by simp)
    have h2 := valL_lt l (fun x hx => h x (by simp [hx]))
    simp only [valL, List.length_cons, Nat.pow_succ]
    omega
theorem valL_append : ∀ (l m : List Nat), valL (l ++ m) = valL l + 65536 ^ l.length * valL m
  | [], m => by simp [valL]
  | d :: l, m => by
    have h := valL_append l m
    simp only [List.cons_append, valL, List.length_cons, Nat.pow_succ, h]
    rw [Nat.mul_comm (65536 ^ l.length) 65536, Nat.mul_assoc]
    omega
theorem valL_set : ∀ (l : List Nat) (i v : Nat), i < l.length → valL (l.set i v) + l.getD i 0 * 65536 ^ i = valL l + v * 65536 ^ i
  | [], i, v, h => by simp at h
  | d :: l, 0, v, _ => by simp [valL]; omega
  | d :: l, i + 1, v, h => by
    have h := valL_set l i v (by simpa using h)
    simp only [List.set_cons_succ, valL, List.getD_cons_succ, Nat.pow_succ, ← Nat.mul_assoc]
    omega
theorem valL_take (l : List Nat) (i : Nat) (h : i < l.length) : valL (l.take (i + 1)) = valL (l.take i) + l.getD i 0 * 65536 ^ i := by
  rw [List.take_succ_eq_append_getElem h, valL_append, List.length_take, Nat.min_eq_left (by omega)]
  simp only [valL, Nat.mul_zero, Nat.add_zero, List.getD_eq_getElem?_getD, List.getElem?_eq_getElem h, Option.getD_some]
  rw [Nat.mul_comm]
theorem valL_drop (l : List Nat) (k : Nat) (h : digL l) (hk : k ≤ l.length) : valL (l.drop k) = valL l / 65536 ^ k := by
  have e := valL_append (l.take k) (l.drop k)
  rw [List.take_append_drop, List.length_take, Nat.min_eq_left hk] at e
  have h1 := valL_lt (l.take k) (fun d hd => h d (List.mem_of_mem_take hd))
  rw [List.length_take, Nat.min_eq_left hk] at h1
  rw [e, Nat.add_mul_div_left _ _ (by exact Nat.pow_pos (by omega)), Nat.div_eq_of_lt h1, Nat.zero_add]
theorem valL_rep (n : Nat) : valL (List.replicate n 0) = 0 := by
  induction n with
  | zero => rfl
  | succ n ih => simp [List.replicate_succ, valL, ih]
theorem digL_rep (n : Nat) : digL (List.replicate n 0) := fun d hd => by rw [(List.mem_replicate.1 hd).2]; omega
theorem digL_set {l : List Nat} (h : digL l) (i v : Nat) (hv : v < 65536) : digL (l.set i v) := fun d hd => by
  rcases List.mem_or_eq_of_mem_set hd with hd | rfl
  · exact h d hd
  · exact hv
theorem digL_getD {l : List Nat} (h : digL l) (i : Nat) : l.getD i 0 < 65536 := by
  by_cases hi : i < l.length
  · rw [List.getD_eq_getElem?_getD, List.getElem?_eq_getElem hi]; exact h _ (List.getElem_mem hi)
  · rw [List.getD_eq_getElem?_getD, List.getElem?_eq_none (by omega)]; simp
/-- The carry's place lies within the digits. -/
theorem carry_in {l : List Nat} {q m T n : Nat} (hq : 1 ≤ q) (h : valL l + q * 65536 ^ m = T) (hT : T < 65536 ^ n) : m < n := by
  have h1 : 65536 ^ m ≤ q * 65536 ^ m := Nat.le_mul_of_pos_left _ hq
  have h2 : 65536 ^ m < 65536 ^ n := by omega
  exact (Nat.pow_lt_pow_iff_right (by omega)).1 h2
theorem mul_lt_pow {a b m n : Nat} (ha : a < 65536 ^ m) (hb : b < 65536 ^ n) : a * b < 65536 ^ (m + n) := by
  rw [Nat.pow_add]
  rcases Nat.eq_zero_or_pos a with rfl | h
  · have := Nat.mul_pos (show 0 < 65536 ^ m from Nat.pow_pos (by omega)) (show 0 < 65536 ^ n from Nat.pow_pos (by omega)); omega
  · exact Nat.lt_of_lt_of_le ((Nat.mul_lt_mul_left h).2 hb) (Nat.mul_le_mul_right _ (by omega))
/-- One carry: the digit at m takes what is carried. -/
theorem carry_step {l : List Nat} {x m T : Nat} (hm : m < l.length) (h : valL l + x / 65536 * 65536 ^ m = T) :
    valL (l.set m ((x / 65536 + l.getD m 0) % 65536)) + (x / 65536 + l.getD m 0) / 65536 * 65536 ^ (m + 1) = T := by
  have h1 := valL_set l m ((x / 65536 + l.getD m 0) % 65536) hm
  generalize x / 65536 = q at *
  generalize l.getD m 0 = d at *
  have h2 : (q + d) % 65536 * 65536 ^ m + (q + d) / 65536 * 65536 ^ (m + 1) = (q + d) * 65536 ^ m := by
    rw [Nat.pow_succ, Nat.mul_comm (65536 ^ m) 65536, ← Nat.mul_assoc, ← Nat.add_mul]
    congr 1; omega
  rw [Nat.add_mul] at h2
  omega
/-- The first digit that is set. -/
theorem mul_step {l : List Nat} {y j T : Nat} (hj : j < l.length) (h : valL l = T) :
    valL (l.set j ((l.getD j 0 + y) % 65536)) + (l.getD j 0 + y) / 65536 * 65536 ^ (j + 1) = T + y * 65536 ^ j := by
  have h1 := valL_set l j ((l.getD j 0 + y) % 65536) hj
  generalize l.getD j 0 = d at *
  have h2 : (d + y) % 65536 * 65536 ^ j + (d + y) / 65536 * 65536 ^ (j + 1) = (d + y) * 65536 ^ j := by
    rw [Nat.pow_succ, Nat.mul_comm (65536 ^ j) 65536, ← Nat.mul_assoc, ← Nat.add_mul]
    congr 1; omega
  rw [Nat.add_mul] at h2
  omega
/-- Bit by bit, from the bit n - 1 down. -/
def bitsDown (p d : Nat) : Nat → Nat → Nat
  | 0, x => x
  | n + 1, x => bitsDown p d n (if (x + 2 ^ n) ^ d / 65536 ^ (2 * d) < p then x + 2 ^ n else x)
def fracN (p d : Nat) : Nat := bitsDown p d 36 0 % 4294967296
theorem fracN_lt (p d : Nat) : fracN p d < 4294967296 := Nat.mod_lt _ (by omega)
def divsB (p n : Nat) : Bool := (List.range n).all fun d => decide (d < 2) || decide (0 < p % d)
theorem divsB_succ (p n : Nat) (h : 2 ≤ n) : divsB p (n + 1) = (divsB p n && decide (0 < p % n)) := by
  unfold divsB
  rw [List.range_succ, List.all_append]
  simp [show ¬ n < 2 by omega]
theorem divsB_two (p : Nat) : divsB p 2 = true := by simp [divsB, List.range_succ]
def primesTo : Nat → List Nat
  | 0 => []
  | p + 1 => if 2 ≤ p ∧ divsB p p = true then primesTo p ++ [p] else primesTo p
theorem primesTo_succ (p : Nat) : primesTo (p + 1) = if 2 ≤ p ∧ divsB p p = true then primesTo p ++ [p] else primesTo p := rfl
theorem primesTo_pre (p : Nat) : ∀ q, p ≤ q → primesTo p <+: primesTo q
  | 0, h => by obtain rfl : p = 0 := by omega
               exact List.prefix_refl _
  | q + 1, h => by
    by_cases e : p = q + 1
    · subst e; exact List.prefix_refl _
    · have := primesTo_pre p q (by omega)
      rw [primesTo_succ]
      split
      · exact this.trans (List.prefix_append _ _)
      · exact this
def thePrimes : List Nat := primesTo 312
theorem primes_64 : thePrimes.length = 64 := by decide +kernel
theorem primes_below {p : Nat} (h : (primesTo p).length < 64) : p ≤ 311 := by
  by_cases hp : p ≤ 311
  · exact hp
  · have := (primesTo_pre 312 p (by omega)).length_le
    have h2 := primes_64
    unfold thePrimes at h2
    omega
theorem primes_pre {p : Nat} (h : p ≤ 312) : primesTo p <+: thePrimes := primesTo_pre p 312 h
theorem primes_le {p : Nat} (h : p ≤ 312) : (primesTo p).length ≤ 64 := by
  have := (primes_pre h).length_le
  rw [primes_64] at this; exact this
def shK : List Nat := thePrimes.map (fracN · 3)
def shH : List Nat := (thePrimes.take 8).map (fracN · 2)
theorem shK_length : shK.length = 64 := by simp [shK, primes_64]
theorem shH_length : shH.length = 8 := by simp [shH, primes_64]
def shKlit : List Nat := [0x428a2f98, 0x71374491, 0xb5c0fbcf, 0xe9b5dba5, 0x3956c25b, 0x59f111f1, 0x923f82a4, 0xab1c5ed5, 0xd807aa98, 0x12835b01, 0x243185be, 0x550c7dc3, 0x72be5d74, 0x80deb1fe, 0x9bdc06a7, 0xc19bf174,
  0xe49b69c1, 0xefbe4786, 0x0fc19dc6, 0x240ca1cc, 0x2de92c6f, 0x4a7484aa, 0x5cb0a9dc, 0x76f988da, 0x983e5152, 0xa831c66d, 0xb00327c8, 0xbf597fc7, 0xc6e00bf3, 0xd5a79147, 0x06ca6351, 0x14292967,
  0x27b70a85, 0x2e1b2138, 0x4d2c6dfc, 0x53380d13, 0x650a7354, 0x766a0abb, 0x81c2c92e, 0x92722c85, 0xa2bfe8a1, 0xa81a664b, 0xc24b8b70, 0xc76c51a3, 0xd192e819, 0xd6990624, 0xf40e3585, 0x106aa070,
  0x19a4c116, 0x1e376c08, 0x2748774c, 0x34b0bcb5, 0x391c0cb3, 0x4ed8aa4a, 0x5b9cca4f, 0x682e6ff3, 0x748f82ee, 0x78a5636f, 0x84c87814, 0x8cc70208, 0x90befffa, 0xa4506ceb, 0xbef9a3f7, 0xc67178f2]
def shHlit : List Nat := [0x6a09e667, 0xbb67ae85, 0x3c6ef372, 0xa54ff53a, 0x510e527f, 0x9b05688c, 0x1f83d9ab, 0x5be0cd19]
theorem shK_lit : shK = shKlit := by decide +kernel
theorem shH_lit : shH = shHlit := by decide +kernel
end Go.Proofs.YtebllmpdlapefaaGreatDoor
namespace Go.Proofs.YtebllmpdlapefaaGreatDoor
set_option linter.unusedVariables false
set_option linter.unusedSimpArgs false

def shRun (v : Sh) (s : ByteArray) : Nat → Sh
  | 0 => v
  | i + 1 => shMix shK (shRun v s i) (s.extract (64 * i) (64 * i + 64))
theorem shRun_ok {v : Sh} (h : v.ok) (s : ByteArray) : ∀ i, (shRun v s i).ok
  | 0 => h
  | i + 1 => shMix_ok _ _ _
theorem cut_app_left (s p : ByteArray) (a b : Nat) (h : b ≤ s.size) : (s ++ p).extract a b = s.extract a b := by
  apply bytes_ext
  rw [toList_cut, toList_cut, toList_app, List.take_append_of_le_length (by simpa using h)]
theorem shRun_left (v : Sh) (s p : ByteArray) : ∀ i, 64 * i ≤ s.size → shRun v (s ++ p) i = shRun v s i
  | 0, _ => rfl
  | i + 1, h => by
    rw [shRun, shRun, shRun_left v s p i (by omega), cut_app_left s p _ _ (by omega)]
theorem shRun_add (v : Sh) (t : ByteArray) (a : Nat) : ∀ b, 64 * (a + b) ≤ t.size → shRun v t (a + b) = shRun (shRun v t a) (t.extract (64 * a) t.size) b
  | 0, _ => rfl
  | b + 1, h => by
    rw [← Nat.add_assoc, shRun, shRun, shRun_add v t a b (by omega), cut_cut t _ _ _ (by omega)]
    rw [show 64 * a + 64 * b = 64 * (a + b) from by omega, show 64 * a + (64 * b + 64) = 64 * (a + b) + 64 from by omega]
def shNought (n : Nat) : Nat := (64 - (n + 9) % 64) % 64
def shTail (m : Nat) : List UInt8 := (List.range 8).map fun j => UInt8.ofNat (m / 2 ^ (56 - 8 * j))
def refTail (m i : Nat) : List UInt8 := (List.range i).map fun j => UInt8.ofNat (m / 256 ^ (i - 1 - j))
theorem refTail_succ (m i : Nat) : refTail m (i + 1) = UInt8.ofNat (m / 256 ^ i) :: refTail m i := by
  unfold refTail
  rw [List.range_succ_eq_map, List.map_cons, List.map_map]
  congr 1
  apply List.map_congr_left
  intro j hj
  simp only [Function.comp]
  congr 3; omega
theorem refTail_8 (m : Nat) : refTail m 8 = shTail m := by simp [refTail, shTail, List.range_succ]
theorem shTail_length (m : Nat) : (shTail m).length = 8 := by simp [shTail]
theorem shTail_take (m i : Nat) (h : i < 8) : (shTail m).take (i + 1) = (shTail m).take i ++ [UInt8.ofNat (m / 2 ^ (56 - 8 * i))] := by
  rw [List.take_succ_eq_append_getElem (by rw [shTail_length]; exact h)]
  congr 2
  simp [shTail]
def shPadL (n : Nat) : List UInt8 := 128 :: List.replicate (shNought n) 0 ++ shTail (n * 8)
def shPad (n : Nat) : ByteArray := ⟨(shPadL n).toArray⟩
theorem shPadL_length (n : Nat) : (shPadL n).length = shNought n + 9 := by simp [shPadL, shTail_length]
theorem shPad_size (n : Nat) : (shPad n).size = shNought n + 9 := by rw [shPad, size_of, shPadL_length]
theorem shNought_lt (n : Nat) : shNought n < 64 := Nat.mod_lt _ (by omega)
theorem shNought_mod (n : Nat) : (n + (shNought n + 9)) % 64 = 0 := by unfold shNought; omega
/-- The noughts are the fewest. -/
theorem shNought_least (n z : Nat) (h : z < shNought n) : (n + (1 + z) + 8) % 64 ≠ 0 := by unfold shNought at h; omega
theorem shNought_at (n : Nat) : (n + (1 + shNought n) + 8) % 64 = 0 := by have := shNought_mod n; omega
def shV : Sh := ⟨0x6a09e667, 0xbb67ae85, 0x3c6ef372, 0xa54ff53a, 0x510e527f, 0x9b05688c, 0x1f83d9ab, 0x5be0cd19⟩
theorem shV_ok : shV.ok := ⟨by decide, by decide, by decide, by decide, by decide, by decide, by decide, by decide⟩
def wB (x : Nat) : List UInt8 := [UInt8.ofNat (x / 16777216), UInt8.ofNat (x / 65536), UInt8.ofNat (x / 256), UInt8.ofNat x]
def Sh.list (v : Sh) : List Nat := [v.a, v.b, v.c, v.d, v.e, v.f, v.g, v.h]
def shOut (v : Sh) : List UInt8 := (v.list.map wB).flatten
def shTo (n : Nat) (v : Sh) : List UInt8 := ((v.list.take n).map wB).flatten
theorem shTo_succ (v : Sh) (i : Nat) (h : i < 8) : shTo (i + 1) v = shTo i v ++ wB (v.list.getD i 0) := by
  unfold shTo
  have h2 : i < v.list.length := h
  rw [List.take_succ_eq_append_getElem h2, List.map_append, List.flatten_append, List.getD_eq_getElem?_getD, List.getElem?_eq_getElem h2]
  simp
theorem shTo_8 (v : Sh) : shTo 8 v = shOut v := rfl
theorem shTo_length (v : Sh) (i : Nat) (h : i ≤ 8) : (shTo i v).length = 4 * i := by
  induction i with
  | zero => rfl
  | succ i ih => rw [shTo_succ v i (by omega), List.length_append, ih (by omega)]; simp [wB]; omega
theorem shOut_length (v : Sh) : (shOut v).length = 32 := shTo_length v 8 (Nat.le_refl _)
def shLast (s : ByteArray) : Sh := shRun shV (s ++ shPad s.size) ((s ++ shPad s.size).size / 64)
def shaB (s : ByteArray) : ByteArray := ⟨(shOut (shLast s)).toArray⟩
theorem shaB_size (s : ByteArray) : (shaB s).size = 32 := by rw [shaB, size_of, shOut_length]
/-- In two parts: the whole blocks of the text, and the rest with the padding. -/
theorem shLast_two (s : ByteArray) (r : ByteArray) (hr : r = s.extract (64 * (s.size / 64)) s.size ++ shPad s.size) : shLast s = shRun (shRun shV s (s.size / 64)) r (r.size / 64) := by
  have hz : (s ++ shPad s.size).size = s.size + (shNought s.size + 9) := by rw [size_app, shPad_size]
  have hm := shNought_mod s.size
  have hrz : r.size = s.size - 64 * (s.size / 64) + (shNought s.size + 9) := by rw [hr, size_app, shPad_size, size_cut _ _ _ (Nat.le_refl _)]
  have e1 : r = (s ++ shPad s.size).extract (64 * (s.size / 64)) (s ++ shPad s.size).size := by
    rw [hr]
    apply bytes_ext
    rw [toList_app, toList_cut, toList_cut, take_all, take_all, toList_app, List.drop_append_of_le_length (by simp; omega)]
  have e2 : (s ++ shPad s.size).size / 64 = s.size / 64 + r.size / 64 := by omega
  unfold shLast
  rw [e2, shRun_add _ _ _ _ (by omega), ← e1, shRun_left _ _ _ _ (by omega)]
def sha2 (s : ByteArray) : ByteArray := shaB (shaB s)
def shChk (s : ByteArray) : ByteArray := (sha2 s).extract 0 4
theorem sha2_size (s : ByteArray) : (sha2 s).size = 32 := shaB_size _
theorem shChk_size (s : ByteArray) : (shChk s).size = 4 := by rw [shChk, size_cut _ _ _ (by rw [sha2_size]; omega)]
/-! Reckoned at one text. -/
def schedR (s : ByteArray) : Nat → List Nat
  | 0 => []
  | i + 1 => (fun l => (if i < 16 then wordAt s i else (l.getD 15 0 + sg0 (l.getD 14 0) + l.getD 6 0 + sg1 (l.getD 1 0)) % 4294967296) :: l) (schedR s i)
theorem schedR_eq (s : ByteArray) : ∀ i, schedR s i = (sched s i).reverse
  | 0 => rfl
  | i + 1 => by
    have h := schedR_eq s i
    have hl := sched_length s i
    have hg : ∀ j, j < i → (sched s i).reverse.getD j 0 = (sched s i).getD (i - 1 - j) 0 := by
      intro j hj
      rw [List.getD_eq_getElem?_getD, List.getD_eq_getElem?_getD, List.getElem?_reverse (by omega), hl]
    rw [sched, List.reverse_append, List.reverse_singleton, List.singleton_append]
    show _ :: _ = _
    rw [h]
    congr 1
    unfold nextW
    by_cases h16 : i < 16
    · rw [if_pos h16, if_pos h16]
    · rw [if_neg h16, if_neg h16, hg 15 (by omega), hg 14 (by omega), hg 6 (by omega), hg 1 (by omega)]
      rw [show i - 1 - 15 = i - 16 from by omega, show i - 1 - 14 = i - 15 from by omega, show i - 1 - 6 = i - 7 from by omega, show i - 1 - 1 = i - 2 from by omega]
def roundsL : List (Nat × Nat) → Sh → Sh
  | [], s => s
  | (k, w) :: l, s => roundsL l (shStep k w s)
theorem roundsL_app : ∀ (l m : List (Nat × Nat)) (s : Sh), roundsL (l ++ m) s = roundsL m (roundsL l s)
  | [], _, _ => rfl
  | (k, w) :: l, m, s => roundsL_app l m (shStep k w s)
theorem roundsL_eq (blk : ByteArray) (s : Sh) : ∀ n, n ≤ 64 → roundsL ((List.zip shK (sched blk 64)).take n) s = shRounds shK blk n s
  | 0, _ => rfl
  | n + 1, h => by
    have hl : n < (List.zip shK (sched blk 64)).length := by rw [List.length_zip, shK_length, sched_length]; omega
    rw [List.take_succ_eq_append_getElem hl, roundsL_app, roundsL_eq blk s n (by omega), shRounds]
    have e : (List.zip shK (sched blk 64))[n] = (shK.getD n 0, wAt blk n) := by
      rw [List.getElem_zip]
      unfold wAt
      rw [List.getD_eq_getElem?_getD, List.getD_eq_getElem?_getD, List.getElem?_eq_getElem (by rw [shK_length]; omega), List.getElem?_eq_getElem (by rw [sched_length]; omega)]
      rfl
    rw [e]; rfl
def mixF (s : Sh) (blk : ByteArray) : Sh := shAdd s (roundsL (List.zip shKlit (schedR blk 64).reverse) s)
theorem mixF_eq (s : Sh) (blk : ByteArray) : mixF s blk = shMix shK s blk := by
  unfold mixF shMix
  rw [schedR_eq, List.reverse_reverse, ← shK_lit, ← roundsL_eq blk s 64 (Nat.le_refl _), List.take_of_length_le (by rw [List.length_zip, shK_length, sched_length]; omega)]
def Sh.eqB (s t : Sh) : Bool := s.a == t.a && s.b == t.b && s.c == t.c && s.d == t.d && s.e == t.e && s.f == t.f && s.g == t.g && s.h == t.h
theorem Sh.of_eqB {s t : Sh} (h : s.eqB t = true) : s = t := by
  cases s; cases t
  simp only [Sh.eqB, Bool.and_eq_true, beq_iff_eq] at h
  obtain ⟨⟨⟨⟨⟨⟨⟨h1, h2⟩, h3⟩, h4⟩, h5⟩, h6⟩, h7⟩, h8⟩ := h
  simp [*]
end Go.Proofs.YtebllmpdlapefaaGreatDoor
namespace Go.Proofs.YtebllmpdlapefaaGreatDoor
set_option linter.unusedVariables false
set_option linter.unusedSimpArgs false

/-- A byte that a name may have. -/
def nameB (b : Nat) : Bool := decide ((97 ≤ b ∧ b ≤ 122) ∨ (48 ≤ b ∧ b ≤ 57) ∨ b = 95)
def nameL (l : List UInt8) : Bool := l.all fun b => nameB b.toNat
/-- May it be a name? -/
def nmMay (s : ByteArray) : Bool := nameL s.data.toList && (decide (1 ≤ s.size) && decide (s.size ≤ 12))
/-- A name's bytes. -/
def nmPad (s : ByteArray) : ByteArray := ⟨(s.data.toList ++ List.replicate (12 - s.size) 0).toArray⟩
def cutL (l : List UInt8) : List UInt8 := (l.reverse.dropWhile (· == 0)).reverse
/-- Without the noughts at the end. -/
def nmCut (s : ByteArray) : ByteArray := ⟨(cutL s.data.toList).toArray⟩
/-- The name whose bytes they are, or the error. -/
def nmGet (s : ByteArray) : Int × ByteArray := if s.size = 12 ∧ nmMay (nmCut s) = true then (0, nmCut s) else (3, ByteArray.empty)

theorem nameL_snoc (l : List UInt8) (b : UInt8) : nameL (l ++ [b]) = (nameL l && nameB b.toNat) := by simp [nameL]
theorem nameL_take_no (l : List UInt8) (k : Nat) (h : nameL (l.take k) = false) : nameL l = false := by
  simp only [nameL, List.all_eq_false] at h ⊢
  obtain ⟨x, hx, hb⟩ := h
  exact ⟨x, List.mem_of_mem_take hx, hb⟩
/-- The seven ways of a byte's tests. -/
theorem name_ways (b : Nat) (hb : b < 256) : (nameB b = false ∧ (b < 48 ∨ (57 < b ∧ b < 95) ∨ (95 < b ∧ b < 97) ∨ 122 < b) ∧ b ≠ 95) ∨ (nameB b = true ∧ ((48 ≤ b ∧ b ≤ 57) ∨ (b = 95) ∨ (97 ≤ b ∧ b ≤ 122))) := by
  rcases Bool.eq_false_or_eq_true (nameB b) with h | h
  · right; refine ⟨h, ?_⟩; simp only [nameB, decide_eq_true_eq] at h; omega
  · left; refine ⟨h, ?_⟩; simp only [nameB, decide_eq_false_iff_not] at h; omega
theorem nmMay_size {s : ByteArray} (h : nmMay s = true) : 1 ≤ s.size ∧ s.size ≤ 12 := by
  simp only [nmMay, Bool.and_eq_true, decide_eq_true_eq] at h; exact h.2
theorem nmMay_no {s : ByteArray} (h : s.size < 1 ∨ 12 < s.size) : nmMay s = false := by
  rcases Bool.eq_false_or_eq_true (nmMay s) with h1 | h1
  · have := nmMay_size h1; omega
  · exact h1
theorem nmMay_of {s : ByteArray} (h1 : 1 ≤ s.size) (h2 : s.size ≤ 12) : nmMay s = nameL s.data.toList := by simp [nmMay, h1, h2]
theorem nmPad_list (s : ByteArray) : (nmPad s).data.toList = s.data.toList ++ List.replicate (12 - s.size) 0 := by simp [nmPad]
theorem nmPad_size (s : ByteArray) (h : s.size ≤ 12) : (nmPad s).size = 12 := by
  rw [← toList_size, nmPad_list]; simp; omega
theorem cutL_pad (l : List UInt8) (n : Nat) (h : ∀ b ∈ l, b ≠ 0) : cutL (l ++ List.replicate n 0) = l := by
  unfold cutL
  rw [List.reverse_append, List.reverse_replicate]
  have h1 : ∀ m : Nat, (List.replicate m (0 : UInt8) ++ l.reverse).dropWhile (· == 0) = l.reverse.dropWhile (· == 0) := by
    intro m
    induction m with
    | zero => simp
    | succ m ih => simp [List.replicate_succ, ih]
  rw [h1]
  have h2 : l.reverse.dropWhile (· == 0) = l.reverse := by
    cases hl : l.reverse with
    | nil => simp
    | cons x xs =>
      have hx : x ∈ l := by rw [← List.mem_reverse, hl]; simp
      have := h x hx
      simp [this]
  rw [h2, List.reverse_reverse]
theorem cutL_form (l : List UInt8) : ∃ n, l = cutL l ++ List.replicate n 0 := by
  unfold cutL
  have h : ∀ m : List UInt8, ∃ n, m = List.replicate n 0 ++ m.dropWhile (· == 0) := by
    intro m
    induction m with
    | nil => exact ⟨0, by simp⟩
    | cons x xs ih =>
      by_cases hx : x = 0
      · obtain ⟨n, hn⟩ := ih
        refine ⟨n + 1, ?_⟩
        subst hx
        simp only [List.replicate_succ, List.cons_append]
        rw [List.dropWhile_cons]
        simp only [beq_self_eq_true, if_true]
        rw [← hn]
      · exact ⟨0, by simp [hx]⟩
  obtain ⟨n, hn⟩ := h l.reverse
  refine ⟨n, ?_⟩
  have := congrArg List.reverse hn
  rw [List.reverse_reverse, List.reverse_append, List.reverse_replicate] at this
  exact this
theorem name_ne (s : ByteArray) (h : nmMay s = true) : ∀ b ∈ s.data.toList, b ≠ 0 := by
  intro b hb h0
  simp only [nmMay, Bool.and_eq_true, nameL, List.all_eq_true] at h
  have := h.1 b hb
  subst h0
  simp [nameB] at this
/-- What is put is got again. -/
theorem nmCut_pad (s : ByteArray) (h : nmMay s = true) : nmCut (nmPad s) = s := by
  apply bytes_ext
  simp only [nmCut]
  rw [nmPad_list, cutL_pad _ _ (name_ne s h)]
theorem nmGet_pad (s : ByteArray) (h : nmMay s = true) : nmGet (nmPad s) = (0, s) := by
  have h1 := nmPad_size s (nmMay_size h).2
  simp [nmGet, h1, nmCut_pad s h, h]
theorem nmGet_short (s : ByteArray) (h : s.size ≠ 12) : nmGet s = (3, ByteArray.empty) := by simp [nmGet, h]
/-- What is got is put as it was. -/
theorem nmPad_get (s t : ByteArray) (h : nmGet s = (0, t)) : nmPad t = s ∧ nmMay t = true := by
  unfold nmGet at h
  split at h
  · rename_i hc
    injection h with _ ht
    subst ht
    refine ⟨?_, hc.2⟩
    apply bytes_ext
    obtain ⟨n, hn⟩ := cutL_form s.data.toList
    rw [nmPad_list]
    have hz : (nmCut s).size = (cutL s.data.toList).length := by rw [nmCut, size_of]
    have hz2 : (nmCut s).data.toList = cutL s.data.toList := by simp [nmCut]
    have hl := congrArg List.length hn
    simp only [List.length_append, List.length_replicate, toList_size] at hl
    rw [hz, hz2, show 12 - (cutL s.data.toList).length = n from by omega, ← hn]
  · injection h with h _; omega
theorem nmGet_cases (s : ByteArray) : nmGet s = (3, ByteArray.empty) ∨ ∃ t, nmGet s = (0, t) := by
  unfold nmGet; split
  · exact .inr ⟨_, rfl⟩
  · exact .inl rfl
/-- The document's search: the name at a place is the only one. -/
theorem nmGet_hit (s : ByteArray) (n : Nat) (hm : nmMay (s.extract 0 n) = true) (hp : nmPad (s.extract 0 n) = s) : nmGet s = (0, s.extract 0 n) := by
  have := nmGet_pad _ hm
  rw [hp] at this; exact this
theorem nmGet_miss (s : ByteArray) (h : ∀ n, 1 ≤ n → n ≤ 12 → n ≤ s.size → ¬ (nmMay (s.extract 0 n) = true ∧ nmPad (s.extract 0 n) = s)) : nmGet s = (3, ByteArray.empty) := by
  rcases nmGet_cases s with h1 | ⟨t, h1⟩
  · exact h1
  · exfalso
    obtain ⟨hp, hm⟩ := nmPad_get s t h1
    have hz := nmMay_size hm
    have ht : s.extract 0 t.size = t := by
      apply bytes_ext
      rw [toList_cut, ← hp, nmPad_list, List.drop_zero, List.take_append_of_le_length (by simp), take_all]
    have hs : s.size = 12 := by rw [← hp]; exact nmPad_size t hz.2
    exact h t.size hz.1 hz.2 (by omega) ⟨by rw [ht]; exact hm, by rw [ht]; exact hp⟩
end Go.Proofs.YtebllmpdlapefaaGreatDoor
namespace Go.Proofs.YtebllmpdlapefaaGreatDoor
set_option linter.unusedVariables false
set_option linter.unusedSimpArgs false

/-- The lowest k digits of base 256, the lowest first. -/
def leD (n : Nat) : Nat → List UInt8
  | 0 => []
  | k + 1 => leD n k ++ [ub (n / 2 ^ (8 * k) % 256 : Nat)]
theorem leD_length (n k : Nat) : (leD n k).length = k := by
  induction k with
  | zero => rfl
  | succ k ih => simp [leD, ih]
theorem dig_step {n k sz : Nat} (h : k < sz) : (leD n k ++ List.replicate (sz - k) (0 : UInt8)).set k (ub (n / 2 ^ (8 * k) % 256 : Nat)) = leD n (k + 1) ++ List.replicate (sz - (k + 1)) 0 := by
  obtain ⟨d, hd⟩ : ∃ d, sz - k = d + 1 := ⟨sz - k - 1, by omega⟩
  rw [hd, List.replicate_succ, List.set_append_right _ _ (by rw [leD_length]; exact Nat.le_refl _), leD_length, Nat.sub_self, List.set_cons_zero, show sz - (k + 1) = d from by omega]
  simp [leD]

theorem dig_val (n k : Nat) : (n : Int) / 2 ^ (8 * k) % 256 = ((ub (n / 2 ^ (8 * k) % 256 : Nat)).toNat : Int) := by
  rw [ub_toNat _ (by omega)]
  simp
theorem leD_cons (n k : Nat) : leD n (k + 1) = ub (n % 256 : Nat) :: leD (n / 256) k := by
  induction k with
  | zero => simp [leD]
  | succ k ih =>
    rw [leD, ih, leD, List.cons_append]
    congr 4
    rw [Nat.div_div_eq_div_mul, show (256 : Nat) = 2 ^ 8 from rfl, ← Nat.pow_add, show 8 + 8 * k = 8 * (k + 1) from by omega]
/-- A number's least digits, the highest first. -/
def minL (n : Nat) : List UInt8 := if h : n = 0 then [] else minL (n / 256) ++ [ub (n % 256 : Nat)]
termination_by n
theorem minL_zero : minL 0 = [] := by rw [minL]; simp
theorem minL_pos {n : Nat} (h : n ≠ 0) : minL n = minL (n / 256) ++ [ub (n % 256 : Nat)] := by rw [minL]; simp [h]
theorem pow8 (k : Nat) : 2 ^ (8 * (k + 1)) = 256 * 2 ^ (8 * k) := by rw [show 8 * (k + 1) = 8 + 8 * k from by omega, Nat.pow_add]
theorem minL_length (k : Nat) : ∀ n, n < 2 ^ (8 * k) → (minL n).length ≤ k := by
  induction k with
  | zero => intro n h; simp at h; subst h; simp [minL_zero]
  | succ k ih =>
    intro n h
    by_cases h0 : n = 0
    · subst h0; simp [minL_zero]
    · rw [minL_pos h0, List.length_append]
      have := ih (n / 256) (by rw [pow8] at h; exact Nat.div_lt_of_lt_mul h)
      simp; omega
theorem least_pad (k : Nat) : ∀ n, n < 2 ^ (8 * k) → List.replicate (k - (minL n).length) 0 ++ minL n = (leD n k).reverse := by
  induction k with
  | zero => intro n h; simp at h; subst h; simp [minL_zero, leD]
  | succ k ih =>
    intro n h
    have hl := minL_length (k + 1) n h
    have hd : n / 256 < 2 ^ (8 * k) := by rw [pow8] at h; exact Nat.div_lt_of_lt_mul h
    rw [leD_cons, List.reverse_cons, ← ih _ hd]
    by_cases h0 : n = 0
    · subst h0
      simp [minL_zero, ub]
      rw [List.replicate_succ']
    · rw [minL_pos h0, List.length_append, List.length_singleton, show k + 1 - ((minL (n / 256)).length + 1) = k - (minL (n / 256)).length from by omega, List.append_assoc]
end Go.Proofs.YtebllmpdlapefaaGreatDoor
namespace Go.Proofs.YtebllmpdlapefaaGreatDoor
set_option linter.unusedVariables false
set_option linter.unusedSimpArgs false

theorem leL_D (k n : Nat) : n < 2 ^ (8 * k) → leL (leD n k) = n := by
  induction k generalizing n with
  | zero => intro h; simp at h; subst h; rfl
  | succ k ih =>
    intro h
    rw [leD_cons, leL, ih (n / 256) (by rw [pow8] at h; exact Nat.div_lt_of_lt_mul h), ub_toNat _ (by omega)]
    omega
theorem leD_L (l : List UInt8) : leD (leL l) l.length = l := by
  induction l with
  | nil => rfl
  | cons b t ih =>
    have hb := b.toNat_lt
    rw [List.length_cons, leD_cons, leL, show (b.toNat + 256 * leL t) / 256 = leL t from by omega, ih]
    congr 1
    rw [show (b.toNat + 256 * leL t) % 256 = b.toNat from by omega]
    apply UInt8.toNat_inj.1
    rw [ub_toNat _ hb]
/-- Four bytes, the lowest first. -/
def le4 (n : Nat) : ByteArray := ⟨(leD n 4).toArray⟩
theorem le4_size (n : Nat) : (le4 n).size = 4 := by rw [le4, size_of, leD_length]
theorem le4_list (n : Nat) : (le4 n).data.toList = leD n 4 := by simp [le4]
theorem le4_of (s : ByteArray) (h : s.size = 4) : le4 (leL s.data.toList) = s := by
  have e := leD_L s.data.toList
  rw [toList_size, h] at e
  rw [le4, e, bytes_of]
theorem leL_le4 (n : Nat) (h : n < 4294967296) : leL (le4 n).data.toList = n := by rw [le4_list]; exact leL_D 4 n (by simpa using h)
theorem le4_eq (s : ByteArray) (n : Nat) (hs : s.size = 4) (h : n < 4294967296) : s = le4 n ↔ leL s.data.toList = n := by
  constructor
  · rintro rfl; exact leL_le4 n h
  · rintro rfl; exact (le4_of s hs).symm
theorem leL4_lt (s : ByteArray) (hs : s.size = 4) : leL s.data.toList < 4294967296 := by
  have := leL_lt s.data.toList
  rw [toList_size, hs] at this; simpa using this
def cnPut (m : Nat) (nm body : ByteArray) : ByteArray := le4 m ++ nmPad nm ++ le4 body.size ++ shChk body ++ body
theorem cnPut_size (m : Nat) (nm body : ByteArray) (h : nm.size ≤ 12) : (cnPut m nm body).size = 24 + body.size := by
  simp only [cnPut, size_app, le4_size, nmPad_size nm h, shChk_size]
/-- The frame with which the bytes begin: the error, the name, the body, how many bytes it has. -/
def cnNext (m : Nat) (most : Int) (s : ByteArray) : Int × ByteArray × ByteArray × Nat :=
  if s.size < 4 then (2, ByteArray.empty, ByteArray.empty, 0)
  else if s.extract 0 4 ≠ le4 m then (9, ByteArray.empty, ByteArray.empty, 0)
  else if s.size < 16 then (2, ByteArray.empty, ByteArray.empty, 0)
  else if (nmGet (s.extract 4 16)).1 ≠ 0 then (3, ByteArray.empty, ByteArray.empty, 0)
  else if s.size < 20 then (2, ByteArray.empty, ByteArray.empty, 0)
  else if most < leL (s.extract 16 20).data.toList then (5, ByteArray.empty, ByteArray.empty, 0)
  else if s.size < 24 + leL (s.extract 16 20).data.toList then (2, ByteArray.empty, ByteArray.empty, 0)
  else if shChk (s.extract 24 (24 + leL (s.extract 16 20).data.toList)) ≠ s.extract 20 24 then (10, ByteArray.empty, ByteArray.empty, 0)
  else (0, (nmGet (s.extract 4 16)).2, s.extract 24 (24 + leL (s.extract 16 20).data.toList), 24 + leL (s.extract 16 20).data.toList)
theorem cnNext_eq (m : Nat) (most : Int) (s : ByteArray) : cnNext m most s = (
  if s.size < 4 then (2, ByteArray.empty, ByteArray.empty, 0)
  else if s.extract 0 4 ≠ le4 m then (9, ByteArray.empty, ByteArray.empty, 0)
  else if s.size < 16 then (2, ByteArray.empty, ByteArray.empty, 0)
  else if (nmGet (s.extract 4 16)).1 ≠ 0 then (3, ByteArray.empty, ByteArray.empty, 0)
  else if s.size < 20 then (2, ByteArray.empty, ByteArray.empty, 0)
  else if most < leL (s.extract 16 20).data.toList then (5, ByteArray.empty, ByteArray.empty, 0)
  else if s.size < 24 + leL (s.extract 16 20).data.toList then (2, ByteArray.empty, ByteArray.empty, 0)
  else if shChk (s.extract 24 (24 + leL (s.extract 16 20).data.toList)) ≠ s.extract 20 24 then (10, ByteArray.empty, ByteArray.empty, 0)
  else (0, (nmGet (s.extract 4 16)).2, s.extract 24 (24 + leL (s.extract 16 20).data.toList), 24 + leL (s.extract 16 20).data.toList)) := rfl
theorem cut_mid (s a b c : ByteArray) (h : s = a ++ b ++ c) (i j : Nat) (hi : a.size = i) (hj : i + b.size = j) : s.extract i j = b := by
  subst h; subst hi; subst hj
  apply bytes_ext
  rw [toList_cut, toList_app, toList_app, List.take_append_of_le_length (by simp), List.take_of_length_le (by simp), List.drop_append_of_le_length (by simp), ← toList_size, List.drop_length, List.nil_append]
/-- A text in its parts, as the frame's. -/
theorem cut_parts (a b c d e r : ByteArray) (ha : a.size = 4) (hb : b.size = 12) (hc : c.size = 4) (hd : d.size = 4) (s : ByteArray) (h : s = a ++ b ++ c ++ d ++ e ++ r) :
    s.extract 0 4 = a ∧ s.extract 4 16 = b ∧ s.extract 16 20 = c ∧ s.extract 20 24 = d ∧ s.extract 24 (24 + e.size) = e ∧ s.size = 24 + e.size + r.size := by
  refine ⟨cut_mid s ByteArray.empty a (b ++ c ++ d ++ e ++ r) ?_ _ _ rfl (by omega), cut_mid s a b (c ++ d ++ e ++ r) ?_ _ _ ha (by omega), cut_mid s (a ++ b) c (d ++ e ++ r) ?_ _ _ (by rw [size_app]; omega) (by omega),
    cut_mid s (a ++ b ++ c) d (e ++ r) ?_ _ _ (by rw [size_app, size_app]; omega) (by omega), cut_mid s (a ++ b ++ c ++ d) e r ?_ _ _ (by rw [size_app, size_app, size_app]; omega) rfl, by rw [h]; simp only [size_app]; omega⟩
  all_goals (rw [h]; try simp [ByteArray.append_assoc])
theorem cnNext_put (m : Nat) (most : Int) (nm body more : ByteArray) (hm : nmMay nm = true) (hb : (body.size : Int) ≤ most) (hb2 : body.size < 4294967296) :
    cnNext m most (cnPut m nm body ++ more) = (0, nm, body, 24 + body.size) := by
  have hz := nmMay_size hm
  obtain ⟨h1, h2, h3, h4, h5, h6⟩ := cut_parts (le4 m) (nmPad nm) (le4 body.size) (shChk body) body more (le4_size _) (nmPad_size nm hz.2) (le4_size _) (shChk_size _) (cnPut m nm body ++ more) rfl
  have hl := leL_le4 body.size hb2
  unfold cnNext
  rw [h1, h2, h3, hl, h4, h5, h6, nmGet_pad nm hm]
  rw [if_neg (by omega), if_neg (by simp), if_neg (by omega), if_neg (by simp), if_neg (by omega), if_neg (by omega), if_neg (by omega), if_neg (by simp)]
/-- What is told is put as it was. -/
theorem cnPut_next (m : Nat) (most : Int) (s nm body : ByteArray) (n : Nat) (h : cnNext m most s = (0, nm, body, n)) : nmMay nm = true ∧ (body.size : Int) ≤ most ∧ n = 24 + body.size ∧ n ≤ s.size ∧ body.size < 4294967296 ∧ cnPut m nm body = s.extract 0 n := by
  unfold cnNext at h
  by_cases h1 : s.size < 4
  · rw [if_pos h1] at h; injection h with h; simp at h
  rw [if_neg h1] at h
  by_cases h2 : s.extract 0 4 ≠ le4 m
  · rw [if_pos h2] at h; injection h with h; simp at h
  rw [if_neg h2] at h
  by_cases h3 : s.size < 16
  · rw [if_pos h3] at h; injection h with h; simp at h
  rw [if_neg h3] at h
  by_cases h4 : (nmGet (s.extract 4 16)).1 ≠ 0
  · rw [if_pos h4] at h; injection h with h; simp at h
  rw [if_neg h4] at h
  by_cases h5 : s.size < 20
  · rw [if_pos h5] at h; injection h with h; simp at h
  rw [if_neg h5] at h
  have hzc : (s.extract 16 20).size = 4 := size_cut _ _ _ (by omega)
  have hlt := leL4_lt (s.extract 16 20) hzc
  have hle := le4_of (s.extract 16 20) hzc
  generalize leL (s.extract 16 20).data.toList = N at *
  by_cases h6 : most < N
  · rw [if_pos h6] at h; injection h with h; simp at h
  rw [if_neg h6] at h
  by_cases h7 : s.size < 24 + N
  · rw [if_pos h7] at h; injection h with h; simp at h
  rw [if_neg h7] at h
  by_cases h8 : shChk (s.extract 24 (24 + N)) ≠ s.extract 20 24
  · rw [if_pos h8] at h; injection h with h; simp at h
  rw [if_neg h8] at h
  injection h with _ h
  injection h with hnm h
  injection h with hbd hn
  have hg : nmGet (s.extract 4 16) = (0, nm) := by
    rw [← hnm]
    have h4' : (nmGet (s.extract 4 16)).1 = 0 := Decidable.not_not.1 h4
    exact Prod.ext h4' rfl
  obtain ⟨hp, hmay⟩ := nmPad_get _ _ hg
  have hbz : body.size = N := by rw [← hbd, size_cut _ _ _ (by omega)]; omega
  refine ⟨hmay, by omega, by omega, by omega, by omega, ?_⟩
  unfold cnPut
  rw [hp, hbz, hle, ← hbd, Decidable.not_not.1 h8, ← Decidable.not_not.1 h2, ← hn]
  apply bytes_ext
  simp only [toList_app, toList_cut]
  generalize s.data.toList = L
  have e0 : ∀ (a b : Nat), a ≤ b → L.take a ++ (L.take b).drop a = L.take b := by
    intro a b hab
    have := List.take_append_drop a (L.take b)
    rwa [List.take_take, Nat.min_eq_left hab] at this
  rw [List.drop_zero, e0 4 16 (by omega), e0 16 20 (by omega), e0 20 24 (by omega), e0 24 (24 + N) (by omega)]
  rfl
theorem cut_of_cut (s : ByteArray) (c i j : Nat) (h : j ≤ c) : (s.extract 0 c).extract i j = s.extract i j := by
  apply bytes_ext
  rw [toList_cut, toList_cut, toList_cut, List.drop_zero, List.take_take, Nat.min_eq_left h]
/-- A beginning of them is short, or tells the same. -/
theorem cnNext_cut (m : Nat) (most : Int) (s : ByteArray) (c : Nat) (hc : c ≤ s.size) : (cnNext m most (s.extract 0 c)).1 = 2 ∨ cnNext m most (s.extract 0 c) = cnNext m most s := by
  have hz : (s.extract 0 c).size = c := by rw [size_cut _ _ _ hc]; omega
  unfold cnNext
  rw [hz]
  by_cases h1 : c < 4
  · rw [if_pos h1]; exact .inl rfl
  rw [if_neg h1, if_neg (by omega : ¬ s.size < 4), cut_of_cut s c 0 4 (by omega)]
  by_cases h2 : s.extract 0 4 ≠ le4 m
  · rw [if_pos h2, if_pos h2]; exact .inr rfl
  rw [if_neg h2, if_neg h2]
  by_cases h3 : c < 16
  · rw [if_pos h3]; exact .inl rfl
  rw [if_neg h3, if_neg (by omega : ¬ s.size < 16), cut_of_cut s c 4 16 (by omega)]
  by_cases h4 : (nmGet (s.extract 4 16)).1 ≠ 0
  · rw [if_pos h4, if_pos h4]; exact .inr rfl
  rw [if_neg h4, if_neg h4]
  by_cases h5 : c < 20
  · rw [if_pos h5]; exact .inl rfl
  rw [if_neg h5, if_neg (by omega : ¬ s.size < 20), cut_of_cut s c 16 20 (by omega)]
  generalize leL (s.extract 16 20).data.toList = N
  by_cases h6 : most < N
  · rw [if_pos h6, if_pos h6]; exact .inr rfl
  rw [if_neg h6, if_neg h6]
  by_cases h7 : c < 24 + N
  · rw [if_pos h7]; exact .inl rfl
  rw [if_neg h7, if_neg (by omega : ¬ s.size < 24 + N), cut_of_cut s c 24 _ (by omega), cut_of_cut s c 20 24 (by omega)]
  exact .inr rfl
/-- A text with one byte put anew. -/
def setB (s : ByteArray) (k : Nat) (x : UInt8) : ByteArray := ⟨(s.data.toList.set k x).toArray⟩
theorem setB_size (s : ByteArray) (k : Nat) (x : UInt8) : (setB s k x).size = s.size := by rw [setB, size_of, List.length_set, toList_size]
theorem setB_list (s : ByteArray) (k : Nat) (x : UInt8) : (setB s k x).data.toList = s.data.toList.set k x := by simp [setB]
theorem setB_ne (s : ByteArray) (k : Nat) (x : UInt8) (hk : k < s.size) (hx : x ≠ s[k]) : setB s k x ≠ s := by
  intro e
  have h := congrArg (fun t : ByteArray => t.data.toList[k]?) e
  simp only [setB_list] at h
  rw [List.getElem?_set_self (by simpa using hk), byte_at s k hk] at h
  injection h with h; exact hx h
theorem setB_left (a b : ByteArray) (k : Nat) (x : UInt8) (h : k < a.size) : setB (a ++ b) k x = setB a k x ++ b := by
  apply bytes_ext
  rw [setB_list, toList_app, toList_app, setB_list, List.set_append_left _ _ (by simpa using h)]
theorem setB_right (a b : ByteArray) (k : Nat) (x : UInt8) (h : a.size ≤ k) : setB (a ++ b) k x = a ++ setB b (k - a.size) x := by
  apply bytes_ext
  rw [setB_list, toList_app, toList_app, setB_list, List.set_append_right _ _ (by simpa using h), toList_size]
/-- A byte of the magic number, or of the checksum, put anew. -/
theorem cnNext_turned (m : Nat) (most : Int) (nm body : ByteArray) (k : Nat) (x : UInt8) (hm : nmMay nm = true) (hb : (body.size : Int) ≤ most) (hb2 : body.size < 4294967296) (hk : k < (cnPut m nm body).size) (hx : x ≠ (cnPut m nm body)[k]) :
    (k < 4 → cnNext m most (setB (cnPut m nm body) k x) = (9, ByteArray.empty, ByteArray.empty, 0)) ∧ (20 ≤ k → k < 24 → cnNext m most (setB (cnPut m nm body) k x) = (10, ByteArray.empty, ByteArray.empty, 0)) := by
  have hz := nmMay_size hm
  have hps := cnPut_size m nm body hz.2
  have hl := leL_le4 body.size hb2
  have hx2 : ∀ (h' : k < (cnPut m nm body).data.toList.length), x ≠ (cnPut m nm body).data.toList[k] := fun _ => hx
  constructor
  · intro h4
    have hne : setB (le4 m) k x ≠ le4 m := by
      refine setB_ne _ _ _ (by rw [le4_size]; omega) ?_
      intro e
      have h1 : (cnPut m nm body).data.toList[k]? = (le4 m).data.toList[k]? := by
        simp only [cnPut, toList_app, List.append_assoc]
        rw [List.getElem?_append_left (by rw [toList_size, le4_size]; omega)]
      rw [byte_at _ k hk, byte_at _ k (by rw [le4_size]; omega)] at h1
      injection h1 with h1
      exact hx (by rw [h1]; exact e)
    have e : setB (cnPut m nm body) k x = setB (le4 m) k x ++ nmPad nm ++ le4 body.size ++ shChk body ++ body ++ ByteArray.empty := by
      unfold cnPut
      rw [setB_left _ _ _ _ (by simp only [size_app, le4_size]; omega), setB_left _ _ _ _ (by simp only [size_app, le4_size]; omega), setB_left _ _ _ _ (by simp only [size_app, le4_size]; omega), setB_left _ _ _ _ (by simp only [le4_size]; omega)]
      simp
    obtain ⟨h1, h2, h3, h4', h5, h6⟩ := cut_parts (setB (le4 m) k x) (nmPad nm) (le4 body.size) (shChk body) body ByteArray.empty (by rw [setB_size, le4_size]) (nmPad_size nm hz.2) (le4_size _) (shChk_size _) _ e
    unfold cnNext
    rw [h1, h6, if_neg (by omega), if_pos hne]
  · intro h20 h24
    have h0 : (le4 m ++ nmPad nm ++ le4 body.size).size = 20 := by simp only [size_app, le4_size, nmPad_size nm hz.2]
    have hne : setB (shChk body) (k - 20) x ≠ shChk body := by
      refine setB_ne _ _ _ (by rw [shChk_size]; omega) ?_
      intro e
      have h1 : (cnPut m nm body).data.toList[k]? = (shChk body).data.toList[k - 20]? := by
        unfold cnPut
        rw [toList_app, List.getElem?_append_left (by rw [toList_size, size_app, h0, shChk_size]; omega), toList_app, List.getElem?_append_right (by rw [toList_size, h0]; omega), toList_size, h0]
      rw [byte_at _ k hk, byte_at _ (k - 20) (by rw [shChk_size]; omega)] at h1
      injection h1 with h1
      exact hx (by rw [h1]; exact e)
    have e : setB (cnPut m nm body) k x = le4 m ++ nmPad nm ++ le4 body.size ++ setB (shChk body) (k - 20) x ++ body ++ ByteArray.empty := by
      unfold cnPut
      rw [setB_left _ _ _ _ (by rw [size_app, h0, shChk_size]; omega), setB_right _ _ _ _ (by omega), h0]
      simp
    obtain ⟨h1, h2, h3, h4', h5, h6⟩ := cut_parts (le4 m) (nmPad nm) (le4 body.size) (setB (shChk body) (k - 20) x) body ByteArray.empty (le4_size _) (nmPad_size nm hz.2) (le4_size _) (by rw [setB_size, shChk_size]) _ e
    unfold cnNext
    rw [h1, h2, h3, hl, h4', h5, h6, nmGet_pad nm hm]
    rw [if_neg (by omega), if_neg (by simp), if_neg (by omega), if_neg (by simp), if_neg (by omega), if_neg (by omega), if_neg (by omega), if_pos (by exact fun h => hne h.symm)]
end Go.Proofs.YtebllmpdlapefaaGreatDoor
namespace Go.Proofs.YtebllmpdlapefaaGreatDoor
set_option linter.unusedVariables false
set_option linter.unusedSimpArgs false

/-- A config, and a frame. -/
structure Cfg where
  fm : Int
  mg : Nat
  fr : Int
  un : Int
  de : Int
  it : Int
structure Fr where
  id : Nat
  nm : ByteArray
  body : ByteArray
def noFr : Fr := ⟨0, ByteArray.empty, ByteArray.empty⟩
def Cfg.right (c : Cfg) : Bool := decide (1 ≤ c.fm) && (decide (c.fm ≤ 3) && (decide (1 ≤ c.fr) && (decide (c.fr ≤ 65536) && (decide (1 ≤ c.un) && (decide (c.un ≤ 65536) && (decide (1 ≤ c.de) && (decide (c.de ≤ 16) && (decide (1 ≤ c.it) && decide (c.it ≤ 1024)))))))))
theorem Cfg.right_iff (c : Cfg) : c.right = true ↔ 1 ≤ c.fm ∧ c.fm ≤ 3 ∧ 1 ≤ c.fr ∧ c.fr ≤ 65536 ∧ 1 ≤ c.un ∧ c.un ≤ 65536 ∧ 1 ≤ c.de ∧ c.de ≤ 16 ∧ 1 ≤ c.it ∧ c.it ≤ 1024 := by
  simp only [Cfg.right, Bool.and_eq_true, decide_eq_true_eq]
/-- By its format: the error, the frame, how many bytes it has, how many are metered. -/
def wRaw (c : Cfg) (s : ByteArray) : Int × Fr × Nat × Nat :=
  if c.fm = 1 then ((cnNext c.mg c.fr s).1, ⟨0, (cnNext c.mg c.fr s).2.1, (cnNext c.mg c.fr s).2.2.1⟩, (cnNext c.mg c.fr s).2.2.2, 0)
  else if c.fm = 2 then ((plNext c.fr s).1, ⟨(plNext c.fr s).2.1, ByteArray.empty, (plNext c.fr s).2.2.1⟩, (plNext c.fr s).2.2.2, 0)
  else ((pkNext c.fr c.un s).1, ⟨(pkNext c.fr c.un s).2.1, ByteArray.empty, (pkNext c.fr c.un s).2.2.1⟩, (pkNext c.fr c.un s).2.2.2.1, (pkNext c.fr c.un s).2.2.2.2)
def wNext (c : Cfg) (s : ByteArray) : Int × Fr × Nat × Nat := if c.right = true then wRaw c s else (1, noFr, 0, 0)
def wHead (fr : Int) : Int := if fr < 128 then 1 else if fr < 16384 then 2 else 3
def wMost (c : Cfg) : Int := if c.right = true then (if c.fm = 1 then 24 else wHead c.fr) + c.fr else 0
def wFits (c : Cfg) (f : Fr) : Bool := if c.fm = 1 then decide (f.id = 0) else decide (f.nm.size = 0)
/-- The bytes by the format alone, and the error. -/
def wBytes (c : Cfg) (f : Fr) : ByteArray × Int :=
  if c.fm = 1 then (if nmMay f.nm = true then (if 65536 < f.body.size then (ByteArray.empty, 5) else (cnPut c.mg f.nm f.body, 0)) else (ByteArray.empty, 11))
  else if c.fm = 2 then (if 65536 < (lebL f.id).length + f.body.size then (ByteArray.empty, 5) else (⟨(plPut f.id f.body.data.toList).toArray⟩, 0))
  else (if c.un < f.body.size then (ByteArray.empty, 5) else if 65536 < (lebL f.id).length + (pack f.body.data.toList).length then (ByteArray.empty, 5) else (⟨(plPut f.id (pack f.body.data.toList)).toArray⟩, 0))
def wPut (c : Cfg) (f : Fr) : ByteArray × Int :=
  if c.right = true ∧ wFits c f = true then (if (wBytes c f).2 ≠ 0 then (ByteArray.empty, (wBytes c f).2) else if (wRaw c (wBytes c f).1).1 = 5 then (ByteArray.empty, 5) else ((wBytes c f).1, 0)) else (ByteArray.empty, 1)
/-- The document's. -/
def wPutR (c : Cfg) (f : Fr) : ByteArray × Int :=
  if c.right = true ∧ wFits c f = true then
    (if c.fm = 1 then (if nmMay f.nm = true then (if 65536 < f.body.size ∨ c.fr < f.body.size then (ByteArray.empty, 5) else (cnPut c.mg f.nm f.body, 0)) else (ByteArray.empty, 11))
    else if c.fm = 2 then (if (plSize c.fr ⟨(plPut f.id f.body.data.toList).toArray⟩).2.2 ≠ 0 then (ByteArray.empty, (plSize c.fr ⟨(plPut f.id f.body.data.toList).toArray⟩).2.2) else (⟨(plPut f.id f.body.data.toList).toArray⟩, 0))
    else if c.un < f.body.size then (ByteArray.empty, 5)
    else (if (plSize c.fr ⟨(plPut f.id (pack f.body.data.toList)).toArray⟩).2.2 ≠ 0 then (ByteArray.empty, (plSize c.fr ⟨(plPut f.id (pack f.body.data.toList)).toArray⟩).2.2) else (⟨(plPut f.id (pack f.body.data.toList)).toArray⟩, 0)))
  else (ByteArray.empty, 1)

theorem cnNext_over (m : Nat) (most : Int) (nm body more : ByteArray) (hm : nmMay nm = true) (hb : most < (body.size : Int)) (hb2 : body.size < 4294967296) : (cnNext m most (cnPut m nm body ++ more)).1 = 5 := by
  have hz := nmMay_size hm
  have hcz := cnPut_size m nm body hz.2
  obtain ⟨h1, h2, h3, h4, h5, h6⟩ := cut_parts (le4 m) (nmPad nm) (le4 body.size) (shChk body) body more (le4_size _) (nmPad_size nm hz.2) (le4_size _) (shChk_size _) (cnPut m nm body ++ more) rfl
  have hl := leL_le4 body.size hb2
  have hsz : (cnPut m nm body ++ more).size = 24 + body.size + more.size := by rw [size_app, hcz]
  have hg : (nmGet (nmPad nm)).1 = 0 := by rw [nmGet_pad nm hm]
  unfold cnNext
  rw [h1, h2, h3, hl, if_neg (by omega), if_neg (by simp), if_neg (by omega), if_neg (by simp [hg]), if_neg (by omega), if_pos (by omega)]
theorem app_none (s : ByteArray) : s ++ ByteArray.empty = s := bytes_ext (by rw [toList_app]; simp)
theorem list_of (l : List UInt8) : (⟨l.toArray⟩ : ByteArray).data.toList = l := rfl
/-- What is put is told again. -/
theorem wRaw_put {c : Cfg} {f : Fr} {S : ByteArray} (hid : f.id < 18446744073709551616) (h : wPut c f = (S, 0)) (more : ByteArray) : (∃ m, wRaw c (S ++ more) = (0, f, S.size, m)) ∧ (S.size : Int) ≤ wMost c := by
  unfold wPut at h
  by_cases hc : c.right = true ∧ wFits c f = true
  case neg => rw [if_neg hc] at h; injection h with _ h; cases h
  rw [if_pos hc] at h
  by_cases h0 : (wBytes c f).2 ≠ 0
  · rw [if_pos h0] at h; injection h with _ h; exact absurd h h0
  rw [if_neg h0] at h
  by_cases h5 : (wRaw c (wBytes c f).1).1 = 5
  · rw [if_pos h5] at h; injection h with _ h; cases h
  rw [if_neg h5] at h
  injection h with h _
  rw [h] at h5
  have h0 := Decidable.not_not.1 h0
  obtain ⟨hr, hf⟩ := hc
  have hR := (c.right_iff).1 hr
  obtain ⟨id, nm, body⟩ := f
  unfold wBytes at h h0
  unfold wFits at hf
  unfold wMost
  rw [if_pos hr]
  unfold wRaw at h5 ⊢
  simp only at h h0 hf hid
  by_cases h1 : c.fm = 1
  · rw [if_pos h1] at h h0 hf h5 ⊢
    rw [if_pos h1]
    have hid0 : id = 0 := by simpa using hf
    cases hm : nmMay nm with
    | false => rw [hm] at h0; simp at h0
    | true =>
      rw [hm] at h0 h
      simp only [if_true] at h0 h
      by_cases hb : 65536 < body.size
      · rw [if_pos hb] at h0; simp at h0
      · rw [if_neg hb] at h
        simp only at h
        have hfr : (body.size : Int) ≤ c.fr := by
          rcases Int.lt_or_le c.fr (body.size : Int) with hlt | hge
          · have := cnNext_over c.mg c.fr nm body ByteArray.empty hm hlt (by omega)
            rw [app_none, h] at this
            exact absurd this h5
          · exact hge
        have hn := cnNext_put c.mg c.fr nm body more hm hfr (by omega)
        have hz := cnPut_size c.mg nm body (nmMay_size hm).2
        rw [h] at hn hz
        rw [hn, hid0]
        exact ⟨⟨0, by rw [hz]⟩, by rw [hz]; omega⟩
  · rw [if_neg h1] at h h0 hf h5 ⊢
    rw [if_neg h1]
    have hnm : nm = ByteArray.empty := by
      have : nm.size = 0 := by simpa using hf
      apply bytes_ext
      exact List.eq_nil_of_length_eq_zero (by rw [toList_size]; exact this)
    have hhead : ∀ N : Nat, (N : Int) ≤ c.fr → (((lebL N).length + N : Nat) : Int) ≤ wHead c.fr + c.fr := fun N hN => by
      unfold wHead
      split
      · have := lebL_length 1 N (by omega) (by omega); omega
      · split
        · have := lebL_length 2 N (by omega) (by omega); omega
        · have := lebL_length 3 N (by omega) (by omega); omega
    by_cases h2 : c.fm = 2
    · rw [if_pos h2] at h h0 h5 ⊢
      by_cases hb : 65536 < (lebL id).length + body.size
      · rw [if_pos hb] at h0; simp at h0
      rw [if_neg hb] at h
      simp only at h
      have hsd : S.data.toList = plPut id body.data.toList := by rw [← h]
      have hfr : (((lebL id ++ body.data.toList).length : Nat) : Int) ≤ c.fr := by
        rcases Int.lt_or_le c.fr (((lebL id ++ body.data.toList).length : Nat) : Int) with hlt | hge
        · have := plSize_put c.fr id body.data.toList S [] (by rw [hsd, List.append_nil]) (by rw [List.length_append, toList_size]; omega)
          rw [if_pos hlt] at this
          have := plNext_over c.fr S (by rw [this])
          rw [this] at h5
          exact absurd rfl h5
        · exact hge
      rw [List.length_append, toList_size] at hfr
      have hn := plNext_put c.fr id body (S ++ more) more.data.toList hid (by rw [toList_app, hsd]) (by omega) (by omega)
      have hSz : S.size = (plPut id body.data.toList).length := by rw [← toList_size, hsd]
      rw [hn, hnm]
      refine ⟨⟨0, by rw [hSz]⟩, ?_⟩
      have := hhead ((lebL id).length + body.size) hfr
      rw [hSz]
      unfold plPut
      rw [List.length_append, List.length_append, toList_size]
      exact this
    · rw [if_neg h2] at h h0 h5 ⊢
      by_cases hu : c.un < body.size
      · rw [if_pos hu] at h0; simp at h0
      rw [if_neg hu] at h h0
      by_cases hb : 65536 < (lebL id).length + (pack body.data.toList).length
      · rw [if_pos hb] at h0; simp at h0
      rw [if_neg hb] at h
      simp only at h
      have hL : body.data.toList.length ≤ 65536 := by rw [toList_size]; omega
      have hsd : S.data.toList = plPut id (pack body.data.toList) := by rw [← h]
      have hfr : (((lebL id ++ pack body.data.toList).length : Nat) : Int) ≤ c.fr := by
        rcases Int.lt_or_le c.fr (((lebL id ++ pack body.data.toList).length : Nat) : Int) with hlt | hge
        · have := plSize_put c.fr id (pack body.data.toList) S [] (by rw [hsd, List.append_nil]) (by rw [List.length_append]; omega)
          rw [if_pos hlt] at this
          have := plNext_over c.fr S (by rw [this])
          have h6 : pkNext c.fr c.un S = (5, 0, ByteArray.empty, 0, 0) := by rw [pkNext_eq, this]; simp
          rw [h6] at h5
          exact absurd rfl h5
        · exact hge
      rw [List.length_append] at hfr
      have hn := plNext_put c.fr id ⟨(pack body.data.toList).toArray⟩ (S ++ more) more.data.toList hid (by rw [toList_app, hsd]) (by rw [size_of]; omega) (by rw [size_of]; omega)
      simp only at hn
      have hh := pack_head ⟨(pack body.data.toList).toArray⟩ body.data.toList hL rfl
      have hT := unpack_pack ⟨(pack body.data.toList).toArray⟩ body.data.toList hL rfl c.un (by rw [toList_size]; omega)
      have hSz : S.size = (plPut id (pack body.data.toList)).length := by rw [← toList_size, hsd]
      have hk : pkNext c.fr c.un (S ++ more) = (0, id, body, (plPut id (pack body.data.toList)).length, body.size) := by
        rw [pkNext_eq, hn]
        simp only [ne_eq, not_true_eq_false, if_false]
        rw [hh]
        simp only [not_true_eq_false, if_false]
        rw [toList_size, if_neg (by omega), hT]
        simp only [not_true_eq_false, if_false, bytes_of]
      rw [hk, hnm]
      refine ⟨⟨body.size, by rw [hSz]⟩, ?_⟩
      have := hhead ((lebL id).length + (pack body.data.toList).length) hfr
      rw [hSz]
      unfold plPut
      rw [List.length_append, List.length_append]
      exact this
end Go.Proofs.YtebllmpdlapefaaGreatDoor
namespace Go.Proofs.YtebllmpdlapefaaGreatDoor
set_option linter.unusedVariables false
set_option linter.unusedSimpArgs false
open Go.ChangeShapes Go.WideShapes Go.ChangeAt Go.RowKit

def Cfg.val (c : Cfg) : Value := .agg #[.int .i64 c.fm, .int .u32 c.mg, .int .i64 c.fr, .int .i64 c.un, .int .i64 c.de, .int .i64 c.it]
def Fr.val (f : Fr) : Value := .agg #[.int .u64 f.id, .string f.nm, .string f.body]
structure Cfg.ok (c : Cfg) : Prop where
  fm : -9223372036854775808 ≤ c.fm ∧ c.fm ≤ 9223372036854775807
  mg : c.mg < 4294967296
  fr : -9223372036854775808 ≤ c.fr ∧ c.fr ≤ 9223372036854775807
  un : -9223372036854775808 ≤ c.un ∧ c.un ≤ 9223372036854775807
  de : -9223372036854775808 ≤ c.de ∧ c.de ≤ 9223372036854775807
  it : -9223372036854775808 ≤ c.it ∧ c.it ≤ 9223372036854775807
structure Fr.ok (f : Fr) : Prop where
  id : f.id < 18446744073709551616
  nm : f.nm.size ≤ 9223372036854775807
  body : f.body.size ≤ 9223372036854775807
theorem wf_i64 {n : Int} (h : (Lit.int .i64 n).wf = true) : -9223372036854775808 ≤ n ∧ n ≤ 9223372036854775807 := by simpa [Lit.wf, IntKind.min, IntKind.max, IntKind.signed, IntKind.bits] using h
theorem wf_u32 {n : Int} (h : (Lit.int .u32 n).wf = true) : ∃ k : Nat, n = (k : Int) ∧ k < 4294967296 := by
  have h0 : 0 ≤ n ∧ n ≤ 4294967295 := by simpa [Lit.wf, IntKind.min, IntKind.max, IntKind.signed, IntKind.bits] using h
  exact ⟨n.toNat, by omega, by omega⟩
theorem wf_u64 {n : Int} (h : (Lit.int .u64 n).wf = true) : ∃ k : Nat, n = (k : Int) ∧ k < 18446744073709551616 := by
  have h0 : 0 ≤ n ∧ n ≤ 18446744073709551615 := by simpa [Lit.wf, IntKind.min, IntKind.max, IntKind.signed, IntKind.bits] using h
  exact ⟨n.toNat, by omega, by omega⟩
theorem cellsOf_cfg : Tryz.prog.cellsOf 24 = 6 := by kernel_rfl
theorem cellsOf_cint : Tryz.prog.cellsOf 3 = 1 := by kernel_rfl
theorem cellsOf_cu32 : Tryz.prog.cellsOf 22 = 1 := by kernel_rfl
theorem cellsOf_cu64 : Tryz.prog.cellsOf 25 = 1 := by kernel_rfl
theorem cellsOf_cstr : Tryz.prog.cellsOf 9 = 1 := by kernel_rfl
theorem cellsOf_frame : Tryz.prog.cellsOf 27 = 3 := by kernel_rfl
set_option maxRecDepth 100000 in
theorem open_cfg {H : Type} {enc : TypeId × Value → H} {w : World} {base : Nat} {spare : Nat → Bool} {held : Bool} (fuel : Nat) (cs : List Value) (x : DataW H × List MemPlace) (h : DataW.trod enc Tryz.prog w base spare held fuel 24 cs = some x) :
    ∃ c : Cfg, cs = [.int .i64 c.fm, .int .u32 c.mg, .int .i64 c.fr, .int .i64 c.un, .int .i64 c.de, .int .i64 c.it] ∧ c.ok := by
  obtain ⟨xs, n, rfl, _, hl, hxl, hf⟩ := DataW.trod_struct Tryz.underlying24 h
  rw [cellsOf_cfg] at hl
  match cs, hl with
  | [c0, c1, c2, c3, c4, c5], _ =>
    have h0 : DataW.trod enc Tryz.prog w base spare held n 3 ((([c0, c1, c2, c3, c4, c5] : List Value).drop 0).take (Tryz.prog.cellsOf 3)) = xs[0]? := hf 0 _ rfl
    have h1 : DataW.trod enc Tryz.prog w base spare held n 22 ((([c0, c1, c2, c3, c4, c5] : List Value).drop 1).take (Tryz.prog.cellsOf 22)) = xs[1]? := hf 1 _ rfl
    have h2 : DataW.trod enc Tryz.prog w base spare held n 3 ((([c0, c1, c2, c3, c4, c5] : List Value).drop 2).take (Tryz.prog.cellsOf 3)) = xs[2]? := hf 2 _ rfl
    have h3 : DataW.trod enc Tryz.prog w base spare held n 3 ((([c0, c1, c2, c3, c4, c5] : List Value).drop 3).take (Tryz.prog.cellsOf 3)) = xs[3]? := hf 3 _ rfl
    have h4 : DataW.trod enc Tryz.prog w base spare held n 3 ((([c0, c1, c2, c3, c4, c5] : List Value).drop 4).take (Tryz.prog.cellsOf 3)) = xs[4]? := hf 4 _ rfl
    have h5 : DataW.trod enc Tryz.prog w base spare held n 3 ((([c0, c1, c2, c3, c4, c5] : List Value).drop 5).take (Tryz.prog.cellsOf 3)) = xs[5]? := hf 5 _ rfl
    have hx2 : xs.length = 6 := hxl
    rw [List.getElem?_eq_getElem (by omega)] at h0 h1 h2 h3 h4 h5
    rw [cellsOf_cint] at h0 h2 h3 h4 h5
    rw [cellsOf_cu32] at h1
    simp only [List.drop_zero, List.take_succ_cons, List.take_zero, List.drop_succ_cons] at h0 h1 h2 h3 h4 h5
    obtain ⟨i0, e0, _, g0⟩ := DataW.trod_int Tryz.underlying3 h0
    obtain ⟨i1, e1, _, g1⟩ := DataW.trod_int Tryz.underlying22 h1
    obtain ⟨i2, e2, _, g2⟩ := DataW.trod_int Tryz.underlying3 h2
    obtain ⟨i3, e3, _, g3⟩ := DataW.trod_int Tryz.underlying3 h3
    obtain ⟨i4, e4, _, g4⟩ := DataW.trod_int Tryz.underlying3 h4
    obtain ⟨i5, e5, _, g5⟩ := DataW.trod_int Tryz.underlying3 h5
    simp at e0 e1 e2 e3 e4 e5
    subst e0; subst e1; subst e2; subst e3; subst e4; subst e5
    obtain ⟨k, rfl, hk⟩ := wf_u32 g1
    exact ⟨⟨i0, k, i2, i3, i4, i5⟩, rfl, wf_i64 g0, hk, wf_i64 g2, wf_i64 g3, wf_i64 g4, wf_i64 g5⟩
set_option maxRecDepth 100000 in
theorem open_cfg' {H : Type} {enc : TypeId × Value → H} {w : World} {base b0 : Nat} {r : Reach} {spare : Nat → Bool} {held : Bool} {v : Value} {d : DataW H} {ps : List MemPlace} (hval : Value.okWide Tryz.prog w r b0 24 v) (hd : DataW.Trod enc Tryz.prog w base spare held 24 v d ps) :
    ∃ c : Cfg, v = c.val ∧ c.ok := by
  obtain ⟨cs, rfl, _⟩ := okWide_struct Tryz.underlying24 hval
  obtain ⟨fuel, hf⟩ := hd
  obtain ⟨c, hc, hok⟩ := open_cfg fuel _ _ hf
  refine ⟨c, ?_, hok⟩
  have hc : cs.toList = [.int .i64 c.fm, .int .u32 c.mg, .int .i64 c.fr, .int .i64 c.un, .int .i64 c.de, .int .i64 c.it] := hc
  have : cs = #[.int .i64 c.fm, .int .u32 c.mg, .int .i64 c.fr, .int .i64 c.un, .int .i64 c.de, .int .i64 c.it] := by cases cs; simp at hc; simp [hc]
  rw [this]; rfl
set_option maxRecDepth 100000 in
theorem open_fr {H : Type} {enc : TypeId × Value → H} {w : World} {base : Nat} {spare : Nat → Bool} {held : Bool} (fuel : Nat) (cs : List Value) (x : DataW H × List MemPlace) (h : DataW.trod enc Tryz.prog w base spare held fuel 27 cs = some x) :
    ∃ f : Fr, cs = [.int .u64 f.id, .string f.nm, .string f.body] ∧ f.ok := by
  obtain ⟨xs, n, rfl, _, hl, hxl, hf⟩ := DataW.trod_struct Tryz.underlying27 h
  rw [cellsOf_frame] at hl
  match cs, hl with
  | [c0, c1, c2], _ =>
    have h0 : DataW.trod enc Tryz.prog w base spare held n 25 ((([c0, c1, c2] : List Value).drop 0).take (Tryz.prog.cellsOf 25)) = xs[0]? := hf 0 _ rfl
    have h1 : DataW.trod enc Tryz.prog w base spare held n 9 ((([c0, c1, c2] : List Value).drop 1).take (Tryz.prog.cellsOf 9)) = xs[1]? := hf 1 _ rfl
    have h2 : DataW.trod enc Tryz.prog w base spare held n 9 ((([c0, c1, c2] : List Value).drop 2).take (Tryz.prog.cellsOf 9)) = xs[2]? := hf 2 _ rfl
    have hx2 : xs.length = 3 := hxl
    rw [List.getElem?_eq_getElem (by omega)] at h0 h1 h2
    rw [cellsOf_cu64] at h0
    rw [cellsOf_cstr] at h1 h2
    simp only [List.drop_zero, List.take_succ_cons, List.take_zero, List.drop_succ_cons] at h0 h1 h2
    obtain ⟨i0, e0, _, g0⟩ := DataW.trod_int Tryz.underlying25 h0
    obtain ⟨t1, e1, _, g1⟩ := DataW.trod_string Tryz.underlying9 h1
    obtain ⟨t2, e2, _, g2⟩ := DataW.trod_string Tryz.underlying9 h2
    simp at e0 e1 e2
    subst e0; subst e1; subst e2
    obtain ⟨k, rfl, hk⟩ := wf_u64 g0
    exact ⟨⟨k, t1, t2⟩, rfl, hk, by simpa [maxLen] using g1, by simpa [maxLen] using g2⟩
set_option maxRecDepth 100000 in
theorem open_fr' {H : Type} {enc : TypeId × Value → H} {w : World} {base b0 : Nat} {r : Reach} {spare : Nat → Bool} {held : Bool} {v : Value} {d : DataW H} {ps : List MemPlace} (hval : Value.okWide Tryz.prog w r b0 27 v) (hd : DataW.Trod enc Tryz.prog w base spare held 27 v d ps) :
    ∃ f : Fr, v = f.val ∧ f.ok := by
  obtain ⟨cs, rfl, _⟩ := okWide_struct Tryz.underlying27 hval
  obtain ⟨fuel, hf⟩ := hd
  obtain ⟨f, hc, hok⟩ := open_fr fuel _ _ hf
  refine ⟨f, ?_, hok⟩
  have hc : cs.toList = [.int .u64 f.id, .string f.nm, .string f.body] := hc
  have : cs = #[.int .u64 f.id, .string f.nm, .string f.body] := by cases cs; simp at hc; simp [hc]
  rw [this]; rfl
end Go.Proofs.YtebllmpdlapefaaGreatDoor
