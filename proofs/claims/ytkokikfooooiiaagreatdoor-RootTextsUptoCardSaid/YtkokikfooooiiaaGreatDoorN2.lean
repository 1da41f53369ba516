import Derived.Test.YtkokikfooooiiaaGreatDoorN1
import Derived.Test.YtkokikfooooiiaaGreatDoorT8
import Derived.Test.YtkokikfooooiiaaGreatDoorBase2
namespace Go.Proofs.YtkokikfooooiiaaGreatDoor
open Go.RowKit

def ofA (vp vq k : Int) (w : World) : World := (w.alloc (.cells #[.int .i64 vp, .int .i64 vq, .int .i64 k] 23)).alloc (.cells #[.pointer (some ⟨w.heap.size + 1 + 1 + 1, 0, none⟩), .pointer (some ⟨w.heap.size + 1 + 1 + 1 + 1 + 1, 0, none⟩), .int .i64 k] 67)
def ofW (vp vq k : Int) (w : World) : World := ((((((ofA vp vq k w).alloc (.cells #[.int .u64 vp.natAbs] 108)).alloc (.cells #[.bool (decide (vp < 0)), .slice (some ⟨w.heap.size + 1 + 1, 0, none⟩) 1 1] 72)).alloc (.cells #[.int .u64 vq.natAbs] 108)).alloc (.cells #[.bool (decide (vq < 0)), .slice (some ⟨w.heap.size + 1 + 1 + 1 + 1, 0, none⟩) 1 1] 72))).drew
set_option maxRecDepth 100000 in
set_option maxHeartbeats 4000000 in
/-- root.of, the world written out. -/
theorem of_x (vp vq k : Int) (hp0 : vp ≠ 0) (hq0 : vq ≠ 0) (hp1 : vp.natAbs ≤ 9007199254740991) (hq1 : vq.natAbs ≤ 9007199254740991) (w : World) :
    Calls Tryz.prog 26 #[.agg #[.int .i64 vp, .int .i64 vq, .int .i64 k]] w fun e w' => e = .returned (.agg #[.pointer (some ⟨w.heap.size + 1 + 1 + 1, 0, none⟩), .pointer (some ⟨w.heap.size + 1 + 1 + 1 + 1 + 1, 0, none⟩), .int .i64 k]) ∧ w' = ofW vp vq k w := by
  have C := Lib.hid (fun v (h : v = vp ∨ v = vq) w => newInt_nz v (by rcases h with rfl | rfl <;> assumption) (by rcases h with rfl | rfl <;> assumption) w)
  clear hp0 hq0 hp1 hq1
  unfold ofW ofA
  generalize hnp : decide (vp < 0) = np at *
  generalize hnq : decide (vq < 0) = nq at *
  have HNP := Lib.hid hnp
  have HNQ := Lib.hid hnq
  clear hnp hnq
  go_enter Tryz.func26, Tryz.ntmps26
  go_wp2
  go_region_held3 (fun w' => w'.cell? ⟨w.heap.size, 0, none⟩ = some (.int .i64 vp) ∧ w'.cell? ⟨w.heap.size, 1, none⟩ = some (.int .i64 vq) ∧ w'.cell? ⟨w.heap.size, 2, none⟩ = some (.int .i64 k)) (first | (refine ⟨?_, ?_, ?_⟩ <;> go_simp; done) | go_keep) (first | (go_at_call 44; refine (C.out _ (by simp) _).mono ?_; rintro e w1 ⟨rfl, rfl⟩; unfold newW))
  go_wp2
  go_returns
  have hn : np = decide (vp < 0) := HNP.out.symm
  have hn' : nq = decide (vq < 0) := HNQ.out.symm
  rw [← hn, ← hn']
  exact ⟨rfl, rfl⟩

set_option maxRecDepth 100000 in
set_option maxHeartbeats 4000000 in
/-- root.Mul's inner function. -/
theorem mulf (a b k : Nat) (ha0 : 1 ≤ a) (hb0 : 1 ≤ b) (ha : a < 4294967296) (hb : b < 4294967296) (hab : a * b = k) (nx ny : Bool) (bx by' : Nat) (w : World)
    (hx : One w bx nx a) (hy : One w by' ny b) (hne : bx ≠ by') :
    Calls Tryz.prog 27 #[.pointer (some ⟨bx, 0, none⟩), .pointer (some ⟨by', 0, none⟩)] w fun e w' => e = .returned (.pointer (some ⟨w.heap.size, 0, none⟩)) ∧ ∃ d, w.heap.size < d ∧ Chg [] w w' ∧ W6 w' w.heap.size (nx != ny) k d := by
  obtain ⟨lx, ly⟩ : bx < w.heap.size ∧ by' < w.heap.size := by
    obtain ⟨_, _, h, _⟩ := hx
    obtain ⟨_, _, h', _⟩ := hy
    exact ⟨lt_of_block h, lt_of_block h'⟩
  have C := Lib.hid (fun w h1 h2 h3 h4 h5 => mul_ww a b k ha0 hb0 ha hb hab nx ny (w.heap.size - 1) bx by' w h1 h2 h3 hne h4 h5)
  have HX := Lib.hid hx
  have HY := Lib.hid hy
  clear hx hy
  go_enter Tryz.func27, Tryz.ntmps27
  go_wp2_with (fail)
  have c := C.out (w.alloc (.cells #[.bool false, .slice none 0 0] 72)) (by simp only [World.size_alloc, Nat.add_sub_cancel]; exact heap_new _ _) (HX.out.alloc _) (HY.out.alloc _) (by simp only [World.size_alloc]; omega) (by simp only [World.size_alloc]; omega)
  simp only [World.size_alloc, Nat.add_sub_cancel] at c
  go_at_call 28
  refine c.mono ?_
  rintro e w1 ⟨rfl, d, ld, h1, h2⟩
  go_wp2
  go_ret
  exact ⟨rfl, d, by omega, ((Chg.refl _ _).alloc _).trans h1 (fun t ht => .inr (by simp at ht; omega)), h2⟩
end Go.Proofs.YtkokikfooooiiaaGreatDoor
