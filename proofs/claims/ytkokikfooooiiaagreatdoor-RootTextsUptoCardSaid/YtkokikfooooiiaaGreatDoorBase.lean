/- Worlds in which but a few blocks have turned; whole numbers of package big of at most one word. -/
import Derived.Test.YtkokikfooooiiaaGreatDoorEnters
import Derived.Lib.Hide
import Derived.LaidEqlPtr
import Derived.Laws.Externs
import Derived.Shelf.Spec.BitsCarry
namespace Go.Proofs.YtkokikfooooiiaaGreatDoor
open Go.RowKit

/-- But for the blocks of S the world w' is as w was, up to what is new. -/
structure Chg (S : List Nat) (w w' : World) : Prop where
  os : w'.os = w.os
  tape : w'.tape = w.tape
  output : w'.output = w.output
  size : w.heap.size ≤ w'.heap.size
  block : ∀ k, k < w.heap.size → k ∉ S → w'.heap[k]? = w.heap[k]?

theorem Chg.refl (S : List Nat) (w : World) : Chg S w w := ⟨rfl, rfl, rfl, Nat.le_refl _, fun _ _ _ => rfl⟩

theorem Chg.trans {S T : List Nat} {a b c : World} (h : Chg S a b) (k : Chg T b c) (hT : ∀ t ∈ T, t ∈ S ∨ a.heap.size ≤ t) : Chg S a c :=
  ⟨k.os.trans h.os, k.tape.trans h.tape, k.output.trans h.output, Nat.le_trans h.size k.size, fun i hi hs =>
    (k.block i (Nat.lt_of_lt_of_le hi h.size) (fun ht => by rcases hT i ht with h1 | h1; exact hs h1; omega)).trans (h.block i hi hs)⟩

theorem Chg.alloc {S : List Nat} {a w : World} (h : Chg S a w) (o : Obj) : Chg S a (w.alloc o) :=
  h.trans (T := []) ⟨rfl, rfl, rfl, by simp, fun k hk _ => Below.heap_alloc _ _ _ hk⟩ (fun t ht => by cases ht)

theorem Chg.drew {S : List Nat} {a w : World} (h : Chg S a w) : Chg S a w.drew := ⟨h.os, h.tape, h.output, h.size, h.block⟩

theorem Chg.drewN {S : List Nat} {a w : World} (h : Chg S a w) (n : Nat) : Chg S a (w.drewN n) := ⟨h.os, h.tape, h.output, h.size, h.block⟩

theorem Chg.setCell {S : List Nat} {a w : World} (h : Chg S a w) {p : Addr} (hp : p.block ∈ S ∨ a.heap.size ≤ p.block) (u : Value) : Chg S a (w.setCell p u) :=
  h.trans (T := [p.block]) ⟨rfl, rfl, rfl, by simp [World.setCell], fun k _ hk => Below.heap_setCell _ _ _ _ (by simpa using hk)⟩ (fun t ht => by simp at ht; subst ht; exact hp)

theorem Chg.get {S : List Nat} {w w' : World} {k : Nat} {o : Obj} (h : Chg S w w') (hk : w.heap[k]? = some o) (hs : k ∉ S) : w'.heap[k]? = some o :=
  (h.block k (lt_of_block hk) hs).trans hk

theorem Chg.below {S : List Nat} {w w' : World} (h : Chg S w w') {B : Nat} (hS : ∀ s ∈ S, B ≤ s) (hB : B ≤ w.heap.size) : Below B w w' :=
  ⟨h.os, h.tape, h.output, h.size, fun k hk => h.block k (by omega) (fun hs => by have := hS k hs; omega)⟩

theorem Chg.of_below {S : List Nat} {w w' : World} (h : Below w.heap.size w w') : Chg S w w' := ⟨h.os, h.tape, h.output, h.size, fun k hk _ => h.block k hk⟩

theorem cell_at {w : World} {b : Nat} {cs : Array Value} {t : TypeId} {f : Nat × Nat} (h : w.heap[b]? = some (.cells cs t f)) (i : Nat) : w.cell? ⟨b, i, none⟩ = cs[i]? := by simp [World.cell?, h]
theorem free_at {w : World} {b : Nat} {cs : Array Value} {t : TypeId} (h : w.heap[b]? = some (.cells cs t (0, 0))) (i : Nat) : w.frozen? ⟨b, i, none⟩ = false := by simp [World.frozen?, h]

theorem heap_setCell {w : World} {b : Nat} {cs : Array Value} {t : TypeId} {f : Nat × Nat} (h : w.heap[b]? = some (.cells cs t f)) (i : Nat) (u : Value) : (w.setCell ⟨b, i, none⟩ u).heap[b]? = some (.cells (cs.setIfInBounds i u) t f) := by
  have hlt := lt_of_block h
  have h' : w.heap[b] = .cells cs t f := by simpa [Array.getElem?_eq_getElem hlt] using h
  show (w.heap.modify b _)[b]? = _
  rw [Array.getElem?_eq_getElem (by simpa using hlt), Array.getElem_modify_self, h']
  rfl

theorem heap_new (w : World) (o : Obj) : (w.alloc o).heap[w.heap.size]? = some o := by
  show (w.heap.push o)[w.heap.size]? = _
  simp

theorem info72 : ∃ j, Tryz.prog.info? 72 = some j ∧ j.size ≠ 0 := by
  have h : (Tryz.prog.info? 72).map (fun i => i.size) = some 2 := by kernel_rfl
  obtain ⟨j, hj, hs⟩ := Option.map_eq_some_iff.1 h
  exact ⟨j, hj, by omega⟩

/-- Two pointers to numbers that lie in blocks of their own: == says no. -/
theorem ptr_ne {b b' : Nat} {cs cs' : Array Value} {t t' : TypeId} {w : World} (hb : w.heap[b]? = some (.cells cs t (0, 0))) (hb' : w.heap[b']? = some (.cells cs' t' (0, 0))) (hne : b ≠ b') :
    (binOp .eql 65 (.pointer (some ⟨b, 0, none⟩)) (.pointer (some ⟨b', 0, none⟩))).run Tryz.prog w = .ok (.bool false) w := by
  obtain ⟨j, hj, hs⟩ := info72
  exact run_eql_ptr_other w Tryz.underlying65 hj hs (by intro e; cases e; exact hne rfl) hb hb'

theorem ptr_eq (b : Nat) (w : World) :
    (binOp .eql 65 (.pointer (some ⟨b, 0, none⟩)) (.pointer (some ⟨b, 0, none⟩))).run Tryz.prog w = .ok (.bool true) w := by
  obtain ⟨j, hj, hs⟩ := info72
  exact run_eql_ptr_same w ⟨b, 0, none⟩ Tryz.underlying65 hj

theorem ptr_neq {b b' : Nat} {cs cs' : Array Value} {t t' : TypeId} {w : World} (hb : w.heap[b]? = some (.cells cs t (0, 0))) (hb' : w.heap[b']? = some (.cells cs' t' (0, 0))) (hne : b ≠ b') :
    (binOp .neq 65 (.pointer (some ⟨b, 0, none⟩)) (.pointer (some ⟨b', 0, none⟩))).run Tryz.prog w = .ok (.bool true) w := by
  obtain ⟨j, hj, hs⟩ := info72
  have h : ∀ d : Nat, (Op.equalIn (d + 1) 65 (.pointer (some ⟨b, 0, none⟩)) (.pointer (some ⟨b', 0, none⟩))).run Tryz.prog w = .ok false w := fun d => by
    simp [Op.equalIn, run_underlying Tryz.underlying65, sizeOf, typeInfo, hj, hs, run_sameAddr_other w (show (⟨b, 0, none⟩ : Addr) ≠ ⟨b', 0, none⟩ by intro e; cases e; exact hne rfl) hb hb']
  simp only [binOp]
  simp [Op.equal, Op.maxDepth, h 9999]

theorem call_add64 (x y c : Int) (hx : 0 ≤ x) (hy : 0 ≤ y) (hc0 : 0 ≤ c) (hc : c ≤ 1) (w : World) : (callFunc 124 #[.int .u64 x, .int .u64 y, .int .u64 c]).run Tryz.prog w =
    .ok (.value (.tuple #[.int .u64 ((x + y + c) % 18446744073709551616), .int .u64 ((x + y + c) / 18446744073709551616)])) w := by
  rw [run_callFunc_extern Tryz.func124 (by kernel_rfl) (by kernel_rfl) (by kernel_rfl) (e := add64Entry) (by kernel_rfl), run_add64 x y c hx hy hc0 hc]
  rfl
theorem call_sub64 (x y b : Nat) (hb : b ≤ 1) (w : World) : (callFunc 126 #[.int .u64 x, .int .u64 y, .int .u64 b]).run Tryz.prog w =
    .ok (.value (.tuple #[.int .u64 (((x + 18446744073709551616 - y - b) % 18446744073709551616 : Nat) : Int), .int .u64 ((if x < y + b then 1 else 0 : Nat) : Int)])) w := by
  rw [run_callFunc_extern Tryz.func126 (by kernel_rfl) (by kernel_rfl) (by kernel_rfl) (e := sub64Entry) (by kernel_rfl), run_sub64 x y b hb]
  rfl

theorem make2 (w : World) : (Instr.makeSlice 70 (.int .i64 2) (.int .i64 6)).run Tryz.prog w = .ok (.slice (some ⟨w.heap.size, 0, none⟩) 2 6) (w.alloc (.cells #[.int .u64 0, .int .u64 0, .int .u64 0, .int .u64 0, .int .u64 0, .int .u64 0] 108)) := by kernel_rfl
theorem make1 (w : World) : (Instr.makeSlice 70 (.int .i64 1) (.int .i64 1)).run Tryz.prog w = .ok (.slice (some ⟨w.heap.size, 0, none⟩) 1 1) (w.alloc (.cells #[.int .u64 0] 108)) := by kernel_rfl

/-- A number of one word in a block of six, or of one; nought without words; nought in a block of six. -/
def W6 (w : World) (b : Nat) (neg : Bool) (k : Nat) (d : Nat) : Prop := w.heap[b]? = some (.cells #[.bool neg, .slice (some ⟨d, 0, none⟩) 1 6] 72 (0, 0)) ∧ w.heap[d]? = some (.cells #[.int .u64 k, .int .u64 0, .int .u64 0, .int .u64 0, .int .u64 0, .int .u64 0] 108 (0, 0))
def W1 (w : World) (b : Nat) (neg : Bool) (k : Nat) (d : Nat) : Prop := w.heap[b]? = some (.cells #[.bool neg, .slice (some ⟨d, 0, none⟩) 1 1] 72 (0, 0)) ∧ w.heap[d]? = some (.cells #[.int .u64 k] 108 (0, 0))
def Z0 (w : World) (b : Nat) : Prop := w.heap[b]? = some (.cells #[.bool false, .slice none 0 0] 72 (0, 0))
def Z6 (w : World) (b d : Nat) : Prop := w.heap[b]? = some (.cells #[.bool false, .slice (some ⟨d, 0, none⟩) 0 6] 72 (0, 0)) ∧ w.heap[d]? = some (.cells #[.int .u64 0, .int .u64 0, .int .u64 0, .int .u64 0, .int .u64 0, .int .u64 0] 108 (0, 0))

/-- A number of one word, of either make: its block's two cells, its word. -/
def One (w : World) (b : Nat) (neg : Bool) (k : Nat) : Prop := ∃ d c, w.heap[b]? = some (.cells #[.bool neg, .slice (some ⟨d, 0, none⟩) 1 c] 72 (0, 0)) ∧ w.cell? ⟨d, 0, none⟩ = some (.int .u64 k) ∧ d < w.heap.size ∧ 1 ≤ c

theorem W6.one {w : World} {b d k : Nat} {neg : Bool} (h : W6 w b neg k d) : One w b neg k := ⟨d, 6, h.1, cell_at h.2 0, lt_of_block h.2, by omega⟩
theorem W1.one {w : World} {b d k : Nat} {neg : Bool} (h : W1 w b neg k d) : One w b neg k := ⟨d, 1, h.1, cell_at h.2 0, lt_of_block h.2, by omega⟩
theorem Chg.w6 {S : List Nat} {w w' : World} {b d k : Nat} {neg : Bool} (h : Chg S w w') (x : W6 w b neg k d) (hb : b ∉ S) (hd : d ∉ S) : W6 w' b neg k d := ⟨h.get x.1 hb, h.get x.2 hd⟩
theorem Chg.w1 {S : List Nat} {w w' : World} {b d k : Nat} {neg : Bool} (h : Chg S w w') (x : W1 w b neg k d) (hb : b ∉ S) (hd : d ∉ S) : W1 w' b neg k d := ⟨h.get x.1 hb, h.get x.2 hd⟩
theorem Chg.z0 {S : List Nat} {w w' : World} {b : Nat} (h : Chg S w w') (x : Z0 w b) (hb : b ∉ S) : Z0 w' b := h.get x hb

/-- The two cells of a number's block, to be read and to be written. -/
theorem big_cells {w : World} {b : Nat} {neg : Bool} {v : Value} (h : w.heap[b]? = some (.cells #[.bool neg, v] 72 (0, 0))) :
    w.cell? ⟨b, 0, none⟩ = some (.bool neg) ∧ w.cell? ⟨b, 1, none⟩ = some v ∧ w.frozen? ⟨b, 0, none⟩ = false ∧ w.frozen? ⟨b, 1, none⟩ = false :=
  ⟨cell_at h 0, cell_at h 1, free_at h 0, free_at h 1⟩

/-- Behind z.abs = (new words): what has turned. -/
theorem stored_new {w : World} {b : Nat} {x y : Value} (hz : w.heap[b]? = some (.cells #[x, y] 72 (0, 0))) (o : Obj) (v : Value) :
    Chg [b] w ((w.setCell ⟨b, 1, none⟩ v).alloc o).drew ∧ ((w.setCell ⟨b, 1, none⟩ v).alloc o).drew.heap[b]? = some (.cells #[x, v] 72 (0, 0)) ∧ ((w.setCell ⟨b, 1, none⟩ v).alloc o).drew.heap[w.heap.size]? = some o := by
  have lz := lt_of_block hz
  refine ⟨(((Chg.refl _ _).setCell (.inl (by simp)) _).alloc _).drew, ?_, ?_⟩
  · show ((w.setCell ⟨b, 1, none⟩ v).alloc o).heap[b]? = _
    rw [Below.heap_alloc _ _ _ (by simpa using lz), heap_setCell hz]
    rfl
  · show ((w.setCell ⟨b, 1, none⟩ v).alloc o).heap[w.heap.size]? = _
    have := heap_new (w.setCell ⟨b, 1, none⟩ v) o
    simpa using this

/-- Behind z.neg = ..: what has turned. -/
theorem stored_neg {w : World} {b : Nat} {x y : Value} (hz : w.heap[b]? = some (.cells #[x, y] 72 (0, 0))) (v : Value) :
    Chg [b] w (w.setCell ⟨b, 0, none⟩ v) ∧ (w.setCell ⟨b, 0, none⟩ v).heap[b]? = some (.cells #[v, y] 72 (0, 0)) := by
  refine ⟨(Chg.refl _ _).setCell (.inl (by simp)) _, ?_⟩
  rw [heap_setCell hz]
  rfl

/-- Behind z.abs = .. and z.neg = ..: the number's block. -/
theorem two_stores {w : World} {b : Nat} {x y : Value} (hb : w.heap[b]? = some (.cells #[x, y] 72 (0, 0))) (v u : Value) : ((w.setCell ⟨b, 1, none⟩ v).setCell ⟨b, 0, none⟩ u).heap[b]? = some (.cells #[u, v] 72 (0, 0)) := by
  rw [heap_setCell (heap_setCell hb 1 v)]
  rfl

theorem Chg.two {S : List Nat} {w w1 : World} {b : Nat} (h : Chg S w w1) (hb : b ∈ S) (v u : Value) : Chg S w ((w1.setCell ⟨b, 1, none⟩ v).setCell ⟨b, 0, none⟩ u) :=
  (h.setCell (.inl hb) v).setCell (.inl hb) u

end Go.Proofs.YtkokikfooooiiaaGreatDoor
