/- Words for memory: a block that is known whole ('Blk'), a world that has turned at some blocks alone ('Only'), a slice that reads as a list ('Reads'). Own text; no program in sight. -/
import Derived.WalkKit
import Derived.Maps.AppendAt
import Derived.Deep.AppendLies
import Derived.Deep.Draws
import Derived.Lib.Hide
set_option linter.unusedVariables false
set_option linter.unusedSimpArgs false
namespace Go.Proofs.YtnfpgadegpmhkaaGreatDoor
open Go.RowKit
def Blk (w : World) (g : Nat) (t : TypeId) (cs : Array Value) : Prop := w.heap[g]? = some (.cells cs t (0, 0))
theorem Blk.lt {w : World} {g : Nat} {t : TypeId} {cs : Array Value} (h : Blk w g t cs) : g < w.heap.size := lt_of_block h
theorem Blk.cell {w : World} {g : Nat} {t : TypeId} {cs : Array Value} (h : Blk w g t cs) (i : Nat) : w.cell? ⟨g, i, none⟩ = cs[i]? := by
 unfold Blk at h; simp [World.cell?, h]
theorem Blk.frozen {w : World} {g : Nat} {t : TypeId} {cs : Array Value} (h : Blk w g t cs) (i : Nat) : w.frozen? ⟨g, i, none⟩ = false := by
 unfold Blk at h; simp [World.frozen?, h]
theorem Blk.new (w : World) (t : TypeId) (cs : Array Value) : Blk (w.alloc (.cells cs t)) w.heap.size t cs := heap_alloc_new w _
theorem Blk.drew {w : World} {g : Nat} {t : TypeId} {cs : Array Value} (h : Blk w g t cs) : Blk w.drew g t cs := h
theorem Blk.drewN {w : World} {g : Nat} {t : TypeId} {cs : Array Value} (h : Blk w g t cs) (n : Nat) : Blk (w.drewN n) g t cs := h
theorem Blk.alloc {w : World} {g : Nat} {t : TypeId} {cs : Array Value} (h : Blk w g t cs) (o : Obj) : Blk (w.alloc o) g t cs := (Below.heap_alloc w o g h.lt).trans h
theorem Blk.set {w : World} {g : Nat} {t : TypeId} {cs : Array Value} (h : Blk w g t cs) (i : Nat) (u : Value) : Blk (w.setCell ⟨g, i, none⟩ u) g t (cs.setIfInBounds i u) := by
 unfold Blk at h ⊢; simp [World.setCell, Array.getElem?_modify, h]
theorem Blk.far {w : World} {g : Nat} {t : TypeId} {cs : Array Value} (h : Blk w g t cs) {p : Addr} (hp : g ≠ p.block) (u : Value) : Blk (w.setCell p u) g t cs := (Below.heap_setCell w p u g hp).trans h
theorem Blk.beside {w : World} {g : Nat} {t : TypeId} {cs : Array Value} {p : Addr} (hp : g ≠ p.block) (h : Blk w g t cs) (u : Value) : Blk (w.setCell p u) g t cs := h.far hp u
theorem Blk.store {w : World} {g : Nat} {t : TypeId} {cs cs' : Array Value} {i : Nat} {u : Value} (h : Blk w g t cs) (e : cs.setIfInBounds i u = cs') : Blk (w.setCell ⟨g, i, none⟩ u) g t cs' := e ▸ h.set i u
structure Only (L : List Nat) (w w' : World) : Prop where
 os : w'.os = w.os
 tape : w'.tape = w.tape
 output : w'.output = w.output
 size : w.heap.size ≤ w'.heap.size
 block : ∀ k, k < w.heap.size → k ∉ L → w'.heap[k]? = w.heap[k]?
theorem Only.refl (L : List Nat) (w : World) : Only L w w := ⟨rfl, rfl, rfl, Nat.le_refl _, fun _ _ _ => rfl⟩
theorem Only.trans' {L M : List Nat} {a b c : World} (h : Only L a b) (k : Only M b c) (hm : ∀ i, i ∈ M → i ∈ L ∨ a.heap.size ≤ i) : Only L a c :=
 ⟨k.os.trans h.os, k.tape.trans h.tape, k.output.trans h.output, Nat.le_trans h.size k.size, fun i hi hn =>
  (k.block i (Nat.lt_of_lt_of_le hi h.size) (fun hM => by rcases hm i hM with h1 | h1; exact hn h1; omega)).trans (h.block i hi hn)⟩
theorem Only.trans {L : List Nat} {a b c : World} (h : Only L a b) (k : Only L b c) : Only L a c := h.trans' k fun _ hi => .inl hi
theorem Only.mono {L M : List Nat} {w w' : World} (h : Only L w w') (hm : ∀ i, i ∈ L → i ∈ M) : Only M w w' := ⟨h.os, h.tape, h.output, h.size, fun k hk hn => h.block k hk (fun hL => hn (hm k hL))⟩
theorem Only.drew {L : List Nat} {a w : World} (h : Only L a w) : Only L a w.drew := ⟨h.os, h.tape, h.output, h.size, h.block⟩
theorem Only.drewN {L : List Nat} {a w : World} (h : Only L a w) (n : Nat) : Only L a (w.drewN n) := ⟨h.os, h.tape, h.output, h.size, h.block⟩
theorem Only.alloc {L : List Nat} {a w : World} (h : Only L a w) (o : Obj) : Only L a (w.alloc o) :=
 ⟨h.os, h.tape, h.output, Nat.le_trans h.size (by simp), fun k hk hn => (Below.heap_alloc w o k (Nat.lt_of_lt_of_le hk h.size)).trans (h.block k hk hn)⟩
theorem Only.setCell {L : List Nat} {a w : World} (h : Only L a w) {p : Addr} (hp : p.block ∈ L ∨ a.heap.size ≤ p.block) (u : Value) : Only L a (w.setCell p u) :=
 ⟨h.os, h.tape, h.output, by simpa [World.setCell] using h.size, fun k hk hn => (Below.heap_setCell w p u k (by
  rintro rfl
  rcases hp with hp | hp
  ·exact hn hp
  ·omega)).trans (h.block k hk hn)⟩
theorem Only.put {L : List Nat} {a w : World} {p : Addr} (hp : p.block ∈ L ∨ a.heap.size ≤ p.block) (h : Only L a w) (u : Value) : Only L a (w.setCell p u) := h.setCell hp u
theorem Only.of_grown {w w' : World} {row : Option Nat} (h : w.grownBy w' row) : Only row.toList w w' :=
 ⟨h.os, h.tape, h.output, h.size, fun k hk hn => h.block k hk (fun e => hn (by simp [← e]))⟩
theorem Only.grown {L : List Nat} {a w w' : World} {row : Option Nat} (h : Only L a w) (hg : w.grownBy w' row) (hr : ∀ k, row = some k → k ∈ L ∨ a.heap.size ≤ k) : Only L a w' :=
 h.trans' (Only.of_grown hg) fun i hi => hr i (by simpa using hi)
theorem Only.of_below {B : Nat} {w w' : World} (h : Below B w w') (hB : w.heap.size ≤ B) : Only [] w w' := ⟨h.os, h.tape, h.output, h.size, fun k hk _ => h.block k (by omega)⟩
theorem Only.below {L : List Nat} {w w' : World} (h : Only L w w') {B : Nat} (hB : B ≤ w.heap.size) (hL : ∀ i, i ∈ L → B ≤ i) : Below B w w' :=
 ⟨h.os, h.tape, h.output, h.size, fun k hk => h.block k (by omega) (fun hi => by have := hL k hi; omega)⟩
theorem Only.cell {L : List Nat} {w w' : World} (h : Only L w w') {p : Addr} (hp : p.block < w.heap.size) (hn : p.block ∉ L) : w'.cell? p = w.cell? p := World.cell?_of_block (h.block _ hp hn)
theorem Only.frozen {L : List Nat} {w w' : World} (h : Only L w w') {p : Addr} (hp : p.block < w.heap.size) (hn : p.block ∉ L) : w'.frozen? p = w.frozen? p := World.frozen?_of_block (h.block _ hp hn)
theorem Blk.only {L : List Nat} {w w' : World} {g : Nat} {t : TypeId} {cs : Array Value} (h : Blk w g t cs) (ho : Only L w w') (hn : g ∉ L) : Blk w' g t cs := (ho.block g h.lt hn).trans h
theorem Only.own {L : List Nat} {w w' : World} (h : Only L w w') {base : Nat} {e : TypeId} {size : Nat} {v : Value} {n : Nat} {xs : List Value} (ho : w.ownsRow base e size v n xs)
 (hn : ∀ g, v.ownBlock = some g → g ∉ L) : w'.ownsRow base e size v n xs := by
 obtain ⟨h1, h2⟩ := ho
 refine ⟨h1, ?_⟩
 rcases h2 with h2 | ⟨g, cap, cur, hv, hg, hh, r⟩
 ·exact Or.inl h2
 ·subst hv
  exact Or.inr ⟨g, cap, cur, rfl, hg, (h.block g (lt_of_block hh) (hn g rfl)).trans hh, r⟩
def cb (l : List UInt8) : List Value := l.map fun b => .int .u8 b.toNat
theorem cb_length (l : List UInt8) : (cb l).length = l.length := List.length_map ..
theorem cb_append (l m : List UInt8) : cb (l ++ m) = cb l ++ cb m := List.map_append ..
theorem cb_at (l : List UInt8) (j : Nat) : (cb l)[j]? = (l[j]?).map fun b => .int .u8 b.toNat := List.getElem?_map ..
theorem cb_one (l : List UInt8) : ∀ u ∈ cb l, u.oneCell' = true := by
 intro u hu
 simp only [cb, List.mem_map] at hu
 obtain ⟨b, _, rfl⟩ := hu
 rfl
theorem push_bytes (l : List UInt8) (s : ByteArray) : (l.map fun b => (b.toNat : Int)).foldl (fun r n => r.push (UInt8.ofNat n.toNat)) s = ⟨(s.data.toList ++ l).toArray⟩ := by
 induction l generalizing s with
 | nil => cases s; simp
 | cons b t ih =>
  rw [List.map_cons, List.foldl_cons, ih]
  congr 1
  simp [ByteArray.push]
theorem run_str {P : Program} (w : World) (src dst e : TypeId) (hs : P.underlying src = some (.slice e)) (he : P.underlying e = some (.int .u8)) (hd : P.underlying dst = some .string) (a : Addr) (cap : Nat) (l : List UInt8)
 (h : ∀ j u, (cb l)[j]? = some u → w.cell? (a.add j) = some u) : (convert src dst (.slice (some a) l.length cap)).run P w = .ok (.string ⟨l.toArray⟩) w := by
 rw [run_convert_bytes_string w src dst e (some a) l.length cap hs he hd]
 have e1 : cb l = (l.map fun b => (b.toNat : Int)).map (Value.int .u8) := by simp [cb]
 have hl := run_loadCells_list (P := P) (w := w) a (cb l) h
 rw [cb_length, e1] at hl
 rw [run_bytesToString w a l.length cap _ hl, push_bytes]
 simp
theorem _root_.Go.RowKit.Below.alloc' {B : Nat} {a w : World} (hB : B ≤ w.heap.size) (h : Below B a w) (o : Obj) : Below B a (w.alloc o) := h.alloc hB o
theorem _root_.Go.RowKit.Below.drewN' {B : Nat} {a w : World} (h : Below B a w) (n : Nat) : Below B a (w.drewN n) := ⟨h.os, h.tape, h.output, h.size, h.block⟩
theorem _root_.Go.World.ownsRow.drewN' {w : World} {base : Nat} {e : TypeId} {size : Nat} {v : Value} {n : Nat} {xs : List Value} (h : w.ownsRow base e size v n xs) (k : Nat) : (w.drewN k).ownsRow base e size v n xs := h
theorem cell3 {w : World} {g i : Nat} {v : Value} (hlt : g < w.heap.size) (h : w.cell? ⟨g, i, none⟩ = some v) (o1 o2 o3 : Obj) : (((w.alloc o1).alloc o2).alloc o3).cell? ⟨g, i, none⟩ = some v := by
 rw [World.cell?_alloc_lt _ _ _ (by simp; omega), World.cell?_alloc_lt _ _ _ (by simp; omega), World.cell?_alloc_lt _ _ _ (by simpa using hlt)]; exact h
theorem frozen3 {w : World} {g i : Nat} (hlt : g < w.heap.size) (h : w.frozen? ⟨g, i, none⟩ = false) (o1 o2 o3 : Obj) : (((w.alloc o1).alloc o2).alloc o3).frozen? ⟨g, i, none⟩ = false := by
 rw [(((((Only.refl [] w).alloc o1).alloc o2).alloc o3)).frozen hlt (by simp)]; exact h
theorem ret_str {a b : ByteArray} (h : b = a) : Ending.returned (.string a) = .returned (.string b) := by rw [h]
def strOf : Value → Nat
 | .string y => y.size
 | _ => 0
@[simp] theorem strOf_string (y : ByteArray) : strOf (.string y) = y.size := rfl
theorem ret_bool {a b : Bool} (h : b = a) : Ending.returned (.bool a) = .returned (.bool b) := by rw [h]
theorem blw {B : Nat} {w w' : World} (h : Below B w w' := by repeat (first | exact Below.refl _ _ | assumption | with_reducible refine Below.drewN' ?_ _ | with_reducible refine Below.drew ?_ | ((with_reducible refine Below.alloc' ?_ ?_ _); · (first | omega | (simp <;> omega))))) : Below B w w' := h
theorem onl {L : List Nat} {a w : World} (h : Only L a w := by repeat (first | exact Only.refl _ _ | assumption | with_reducible refine Only.drewN ?_ _ | with_reducible refine Only.drew ?_ | with_reducible refine Only.alloc ?_ _ | ((with_reducible refine Only.put ?_ ?_ _); · (first | omega | (simp <;> omega))))) : Only L a w := h
def ub (n : Int) : UInt8 := UInt8.ofNat n.toNat
theorem ub_toNat (n : Nat) (h : n < 256) : (ub n).toNat = n := by
 simp [ub]; omega
theorem run_str_new {P : Program} {src dst e : TypeId} (hs : P.underlying src = some (.slice e)) (he : P.underlying e = some (.int .u8)) (hd : P.underlying dst = some .string) (w : World) (xs : List Int) (cap : Nat) :
 (convert src dst (.slice (some ⟨w.heap.size, 0, none⟩) xs.length cap)).run P (w.alloc (.cells (xs.map (Value.int .u8)).toArray e)) = .ok (.string ⟨(xs.map ub).toArray⟩) (w.alloc (.cells (xs.map (Value.int .u8)).toArray e)) := by
 rw [run_convert_bytes_string _ src dst e _ xs.length cap hs he hd]
 have hl := run_loadCells_list (P := P) (w := w.alloc (.cells (xs.map (Value.int .u8)).toArray e)) ⟨w.heap.size, 0, none⟩ (xs.map (Value.int .u8)) (by
  intro j v hj
  have := World.news_of_block (heap_alloc_new w (.cells (xs.map (Value.int .u8)).toArray e)) j v (by simpa using hj)
  exact this)
 rw [List.length_map] at hl
 rw [run_bytesToString _ _ _ cap xs hl]
 have h : ∀ (l : List Int) (s : ByteArray), l.foldl (fun r n => r.push (UInt8.ofNat n.toNat)) s = ⟨(s.data.toList ++ l.map ub).toArray⟩ := by
  intro l
  induction l with
  | nil => intro s; cases s; simp
  | cons b t ih =>
   intro s
   rw [List.foldl_cons, ih]
   congr 1
   simp [ByteArray.push, ub]
 rw [h]
 simp
section
variable {P : Program} {src dst e : TypeId} (hs : P.underlying src = some (.slice e)) (he : P.underlying e = some (.int .u8)) (hd : P.underlying dst = some .string)
include hs he hd
theorem run_str1 (w : World) (a : Int) : (convert src dst (.slice (some ⟨w.heap.size, 0, none⟩) 1 1)).run P (w.alloc (.cells #[.int .u8 a] e)) = .ok (.string ⟨#[ub a]⟩) (w.alloc (.cells #[.int .u8 a] e)) := run_str_new hs he hd w [a] 1
end
theorem Blk.at_ {w0 : World} {k : Nat} {t : TypeId} {cs : Array Value} (hz : w0.heap.size = k) : Blk (w0.alloc (.cells cs t)) k t cs := hz ▸ Blk.new w0 t cs
end Go.Proofs.YtnfpgadegpmhkaaGreatDoor
