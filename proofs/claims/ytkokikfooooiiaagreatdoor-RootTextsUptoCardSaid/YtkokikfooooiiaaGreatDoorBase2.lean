import Derived.Test.YtkokikfooooiiaaGreatDoorBase
namespace Go.Proofs.YtkokikfooooiiaaGreatDoor
open Go.RowKit

theorem get_alloc (w : World) (o : Obj) (i : Nat) : (w.alloc o).heap[i]? = if i = w.heap.size then some o else w.heap[i]? := by
  show (w.heap.push o)[i]? = _
  rw [Array.getElem?_push]
theorem get_drew (w : World) (i : Nat) : w.drew.heap[i]? = w.heap[i]? := rfl
theorem get_drewN (w : World) (n i : Nat) : (w.drewN n).heap[i]? = w.heap[i]? := rfl

theorem One.alloc {w : World} {b k : Nat} {neg : Bool} (h : One w b neg k) (o : Obj) : One (w.alloc o) b neg k := by
  obtain ⟨d, c, h1, h2, h3, h4⟩ := h
  refine ⟨d, c, ?_, ?_, by simp; omega, h4⟩
  · rw [Below.heap_alloc _ _ _ (lt_of_block h1)]; exact h1
  · rw [World.cell?_alloc_lt _ _ _ h3]; exact h2
theorem One.drew {w : World} {b k : Nat} {neg : Bool} (h : One w b neg k) : One w.drew b neg k := h
theorem One.setCell {w : World} {b k : Nat} {neg : Bool} (h : One w b neg k) (a : Addr) (ha : ∀ d c, w.heap[b]? = some (.cells #[.bool neg, .slice (some ⟨d, 0, none⟩) 1 c] 72 (0, 0)) → a.block ≠ b ∧ a.block ≠ d) (u : Value) : One (w.setCell a u) b neg k := by
  obtain ⟨d, c, h1, h2, h3, h4⟩ := h
  obtain ⟨n1, n2⟩ := ha d c h1
  refine ⟨d, c, ?_, ?_, by simpa using h3, h4⟩
  · rw [Below.heap_setCell _ _ _ _ (Ne.symm n1)]; exact h1
  · exact (World.cell?_of_block (w := w) (Below.heap_setCell _ _ _ _ (Ne.symm n2))).trans h2
theorem Z6.alloc {w : World} {b d : Nat} (h : Z6 w b d) (o : Obj) : Z6 (w.alloc o) b d :=
  ⟨by rw [Below.heap_alloc _ _ _ (lt_of_block h.1)]; exact h.1, by rw [Below.heap_alloc _ _ _ (lt_of_block h.2)]; exact h.2⟩
theorem Z6.drew {w : World} {b d : Nat} (h : Z6 w b d) : Z6 w.drew b d := h
theorem Z6.setCell {w : World} {b d : Nat} (h : Z6 w b d) (a : Addr) (h1 : a.block ≠ b) (h2 : a.block ≠ d) (u : Value) : Z6 (w.setCell a u) b d :=
  ⟨by rw [Below.heap_setCell _ _ _ _ (Ne.symm h1)]; exact h.1, by rw [Below.heap_setCell _ _ _ _ (Ne.symm h2)]; exact h.2⟩

/-- A stored cell, as a turned block. -/
def turn (i : Nat) (u : Value) : Obj → Obj
  | .cells c e f => .cells (c.setIfInBounds i u) e f
  | o => o
theorem turn_cells (i : Nat) (u : Value) (c : Array Value) (e : TypeId) (f : Nat × Nat) : turn i u (.cells c e f) = .cells (c.setIfInBounds i u) e f := rfl
theorem get_setCell (w : World) (b i : Nat) (u : Value) (k : Nat) : (w.setCell ⟨b, i, none⟩ u).heap[k]? = if k = b then (w.heap[k]?).map (turn i u) else w.heap[k]? := by
  simp only [World.setCell, Array.getElem?_modify]
  by_cases h : b = k
  · subst h
    rw [if_pos rfl, if_pos rfl]
    first | rfl | (congr 1; funext o; cases o <;> rfl)
  · rw [if_neg h, if_neg (fun e => h e.symm)]
theorem size_drew (w : World) : w.drew.heap.size = w.heap.size := rfl
theorem size_drewN (w : World) (n : Nat) : (w.drewN n).heap.size = w.heap.size := rfl

/-- Reads a block of a world that is written out. -/

theorem keep_alloc {w : World} {a : Addr} {v : Value} (o : Obj) (h : w.cell? a = some v) : (w.alloc o).cell? a = some v := by
  rw [World.cell?_alloc_lt _ _ _ (World.block_lt_of_cell? w a h)]; exact h
theorem keep_drew {w : World} {a : Addr} {v : Value} (h : w.cell? a = some v) : w.drew.cell? a = some v := h
theorem keep_drewN {w : World} {a : Addr} {v : Value} (n : Nat) (h : w.cell? a = some v) : (w.drewN n).cell? a = some v := h
theorem keep_set {w : World} {a p : Addr} {v : Value} (u : Value) (hp : p.block ≠ a.block) (h : w.cell? a = some v) : (w.setCell p u).cell? a = some v := by
  rw [World.cell?_setCell_other _ _ _ _ (fun e => hp (by rw [e]))]; exact h

theorem blk_top (w : World) (o : Obj) {i : Nat} (h : i = w.heap.size) : (w.alloc o).heap[i]? = some o := by subst h; exact heap_new _ _
theorem blk_past {w : World} {i : Nat} {x : Obj} (o : Obj) (h : w.heap[i]? = some x) : (w.alloc o).heap[i]? = some x := by rw [Below.heap_alloc _ _ _ (lt_of_block h)]; exact h
theorem blk_drew {w : World} {i : Nat} {x : Obj} (h : w.heap[i]? = some x) : w.drew.heap[i]? = some x := h
theorem one_top {w : World} {b d k : Nat} {neg : Bool} (hd : d = w.heap.size) (hb : b = w.heap.size + 1) : One ((w.alloc (.cells #[.int .u64 k] 108)).alloc (.cells #[.bool neg, .slice (some ⟨d, 0, none⟩) 1 1] 72)) b neg k := by
  subst hd
  subst hb
  refine ⟨w.heap.size, 1, ?_, ?_, ?_, Nat.le_refl _⟩
  · exact blk_top _ _ (by simp)
  · exact cell_at (blk_past _ (blk_top _ _ rfl)) 0
  · simp only [World.size_alloc]; omega
theorem one_top1 {w : World} {b d : Nat} {neg : Bool} (hd : d = w.heap.size) (hb : b = w.heap.size + 1) : One ((w.alloc (.cells #[.int .u64 1] 108)).alloc (.cells #[.bool neg, .slice (some ⟨d, 0, none⟩) 1 1] 72)) b neg 1 := one_top (k := 1) hd hb
end Go.Proofs.YtkokikfooooiiaaGreatDoor
