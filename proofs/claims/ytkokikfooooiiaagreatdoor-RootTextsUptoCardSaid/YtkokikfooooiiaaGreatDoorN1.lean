import Derived.Test.YtkokikfooooiiaaGreatDoorBase
import Derived.Deep.RegionHeld3
import Derived.Deep.RegionLaw
import Derived.Deep.QuietTactic
import Derived.BigQuiet
import Derived.StillTailTactics
namespace Go.Proofs.YtkokikfooooiiaaGreatDoor
open Go.RowKit
theorem tower_list (l : List Obj) : ∀ w : World, (l.foldl World.alloc w).heap.toList = w.heap.toList ++ l := by
  induction l with
  | nil => intro w; simp
  | cons o l ih =>
    intro w
    rw [List.foldl_cons, ih]
    show (w.heap.push o).toList ++ l = _
    simp

/-- What lies in new blocks, one laid behind the other. -/
theorem tower_at (w : World) (l : List Obj) (i : Nat) (o : Obj) (h : l[i]? = some o) : (l.foldl World.alloc w).heap[w.heap.size + i]? = some o := by
  rw [← Array.getElem?_toList, tower_list, List.getElem?_append_right (by simp), ← h]
  congr 1
  simp

theorem tower_size (l : List Obj) (w : World) : (l.foldl World.alloc w).heap.size = w.heap.size + l.length := by
  rw [← Array.length_toList, tower_list]; simp

theorem tower_chg (l : List Obj) : ∀ w : World, Chg [] w (l.foldl World.alloc w) := by
  induction l with
  | nil => intro w; exact Chg.refl _ _
  | cons o l ih => intro w; exact ((Chg.refl [] w).alloc o).trans (ih _) (fun t ht => by cases ht)

/-- The number of words 1 that NewInt makes, over the world w. -/
def newW (w : World) (neg : Bool) (k : Nat) : World := (w.alloc (.cells #[.int .u64 k] 108)).alloc (.cells #[.bool neg, .slice (some ⟨w.heap.size, 0, none⟩) 1 1] 72)

set_option maxRecDepth 100000 in
set_option maxHeartbeats 4000000 in
theorem newInt_pos (k : Nat) (h0 : 1 ≤ k) (h1 : k ≤ 9007199254740991) (w : World) : Calls Tryz.prog 44 #[.int .i64 k] w fun e w' => e = .returned (.pointer (some ⟨w.heap.size + 1, 0, none⟩)) ∧ w' = newW w false k := by
  have e0 : ((k : Int) == 0) = false := by rw [beq_eq_false_iff_ne]; omega
  have e1 : decide ((k : Int) < 0) = false := by simp
  have e2 : IntKind.u64.wrap (k : Int) = k := by rw [IntKind.wrap_u64]; omega
  go_enter Tryz.func44, Tryz.ntmps44
  go_wp2
  go_ret
  exact ⟨rfl, rfl⟩

set_option maxRecDepth 100000 in
set_option maxHeartbeats 4000000 in
theorem newInt_neg (k : Nat) (h0 : 1 ≤ k) (h1 : k ≤ 9007199254740991) (w : World) : Calls Tryz.prog 44 #[.int .i64 (-(k : Int))] w fun e w' => e = .returned (.pointer (some ⟨w.heap.size + 1, 0, none⟩)) ∧ w' = newW w true k := by
  have e0 : ((-(k : Int)) == 0) = false := by rw [beq_eq_false_iff_ne]; omega
  have e1 : decide (-(k : Int) < 0) = true := by simp; omega
  have e2 : IntKind.u64.wrap (-IntKind.u64.wrap (-(k : Int))) = k := by rw [IntKind.wrap_u64, IntKind.wrap_u64]; omega
  have e3 : -(k : Int) < 0 := by omega
  go_enter Tryz.func44, Tryz.ntmps44
  go_wp2
  go_ret
  exact ⟨rfl, rfl⟩

set_option maxRecDepth 100000 in
set_option maxHeartbeats 4000000 in
theorem newInt_zero (w : World) : Calls Tryz.prog 44 #[.int .i64 0] w fun e w' => e = .returned (.pointer (some ⟨w.heap.size, 0, none⟩)) ∧ w' = w.alloc (.cells #[.bool false, .slice none 0 0] 72) := by
  go_enter Tryz.func44, Tryz.ntmps44
  go_wp2
  go_ret
  exact ⟨rfl, rfl⟩

theorem newInt_nz (v : Int) (h0 : v ≠ 0) (h1 : v.natAbs ≤ 9007199254740991) (w : World) : Calls Tryz.prog 44 #[.int .i64 v] w fun e w' => e = .returned (.pointer (some ⟨w.heap.size + 1, 0, none⟩)) ∧ w' = newW w (decide (v < 0)) v.natAbs := by
  by_cases h : v < 0
  · have c := newInt_neg v.natAbs (by omega) h1 w
    rw [show (-((v.natAbs : Nat) : Int)) = v by omega] at c
    rw [show decide (v < 0) = true by simpa using h]; exact c
  · have c := newInt_pos v.natAbs (by omega) h1 w
    rw [show ((v.natAbs : Nat) : Int) = v by omega] at c
    rw [show decide (v < 0) = false by simpa using h]; exact c

set_option maxRecDepth 100000 in
set_option maxHeartbeats 4000000 in
theorem of_nz (vp vq k : Int) (hp0 : vp ≠ 0) (hq0 : vq ≠ 0) (hp1 : vp.natAbs ≤ 9007199254740991) (hq1 : vq.natAbs ≤ 9007199254740991) (w : World) :
    Calls Tryz.prog 26 #[.agg #[.int .i64 vp, .int .i64 vq, .int .i64 k]] w fun e w' => e = .returned (.agg #[.pointer (some ⟨w.heap.size + 3, 0, none⟩), .pointer (some ⟨w.heap.size + 5, 0, none⟩), .int .i64 k]) ∧ w'.heap.size = w.heap.size + 6 ∧ Chg [] w w' ∧ W1 w' (w.heap.size + 3) (decide (vp < 0)) vp.natAbs (w.heap.size + 2) ∧ W1 w' (w.heap.size + 5) (decide (vq < 0)) vq.natAbs (w.heap.size + 4) := by
  have C := Lib.hid (fun v (h : v = vp ∨ v = vq) w => newInt_nz v (by rcases h with rfl | rfl <;> assumption) (by rcases h with rfl | rfl <;> assumption) w)
  clear hp0 hq0 hp1 hq1
  generalize hnp : decide (vp < 0) = np at *
  generalize hnq : decide (vq < 0) = nq at *
  have HNP := Lib.hid hnp
  have HNQ := Lib.hid hnq
  clear hnp hnq
  go_enter Tryz.func26, Tryz.ntmps26
  go_wp2
  go_region_held3 (fun w' => w'.cell? ⟨w.heap.size, 0, none⟩ = some (.int .i64 vp) ∧ w'.cell? ⟨w.heap.size, 1, none⟩ = some (.int .i64 vq) ∧ w'.cell? ⟨w.heap.size, 2, none⟩ = some (.int .i64 k)) (first | (refine ⟨?_, ?_, ?_⟩ <;> go_simp; done) | go_keep) (first | (go_at_call 44; refine (C.out _ (by simp) _).mono ?_; rintro e w1 ⟨rfl, rfl⟩; unfold newW))
  go_wp2
  go_returns
  have hn : np = decide (vp < 0) := HNP.out.symm
  have hn' : nq = decide (vq < 0) := HNQ.out.symm
  rw [← hn, ← hn']
  refine ⟨rfl, ?_⟩
  exact ⟨tower_size [.cells #[.int .i64 vp, .int .i64 vq, .int .i64 k] 23, .cells #[.pointer (some ⟨w.heap.size + 3, 0, none⟩), .pointer (some ⟨w.heap.size + 5, 0, none⟩), .int .i64 k] 67, .cells #[.int .u64 vp.natAbs] 108, .cells #[.bool np, .slice (some ⟨w.heap.size + 2, 0, none⟩) 1 1] 72, .cells #[.int .u64 vq.natAbs] 108, .cells #[.bool nq, .slice (some ⟨w.heap.size + 4, 0, none⟩) 1 1] 72] w, (tower_chg [.cells #[.int .i64 vp, .int .i64 vq, .int .i64 k] 23, .cells #[.pointer (some ⟨w.heap.size + 3, 0, none⟩), .pointer (some ⟨w.heap.size + 5, 0, none⟩), .int .i64 k] 67, .cells #[.int .u64 vp.natAbs] 108, .cells #[.bool np, .slice (some ⟨w.heap.size + 2, 0, none⟩) 1 1] 72, .cells #[.int .u64 vq.natAbs] 108, .cells #[.bool nq, .slice (some ⟨w.heap.size + 4, 0, none⟩) 1 1] 72] w).drew, ⟨tower_at w [.cells #[.int .i64 vp, .int .i64 vq, .int .i64 k] 23, .cells #[.pointer (some ⟨w.heap.size + 3, 0, none⟩), .pointer (some ⟨w.heap.size + 5, 0, none⟩), .int .i64 k] 67, .cells #[.int .u64 vp.natAbs] 108, .cells #[.bool np, .slice (some ⟨w.heap.size + 2, 0, none⟩) 1 1] 72, .cells #[.int .u64 vq.natAbs] 108, .cells #[.bool nq, .slice (some ⟨w.heap.size + 4, 0, none⟩) 1 1] 72] 3 _ rfl, tower_at w [.cells #[.int .i64 vp, .int .i64 vq, .int .i64 k] 23, .cells #[.pointer (some ⟨w.heap.size + 3, 0, none⟩), .pointer (some ⟨w.heap.size + 5, 0, none⟩), .int .i64 k] 67, .cells #[.int .u64 vp.natAbs] 108, .cells #[.bool np, .slice (some ⟨w.heap.size + 2, 0, none⟩) 1 1] 72, .cells #[.int .u64 vq.natAbs] 108, .cells #[.bool nq, .slice (some ⟨w.heap.size + 4, 0, none⟩) 1 1] 72] 2 _ rfl⟩, ⟨tower_at w [.cells #[.int .i64 vp, .int .i64 vq, .int .i64 k] 23, .cells #[.pointer (some ⟨w.heap.size + 3, 0, none⟩), .pointer (some ⟨w.heap.size + 5, 0, none⟩), .int .i64 k] 67, .cells #[.int .u64 vp.natAbs] 108, .cells #[.bool np, .slice (some ⟨w.heap.size + 2, 0, none⟩) 1 1] 72, .cells #[.int .u64 vq.natAbs] 108, .cells #[.bool nq, .slice (some ⟨w.heap.size + 4, 0, none⟩) 1 1] 72] 5 _ rfl, tower_at w [.cells #[.int .i64 vp, .int .i64 vq, .int .i64 k] 23, .cells #[.pointer (some ⟨w.heap.size + 3, 0, none⟩), .pointer (some ⟨w.heap.size + 5, 0, none⟩), .int .i64 k] 67, .cells #[.int .u64 vp.natAbs] 108, .cells #[.bool np, .slice (some ⟨w.heap.size + 2, 0, none⟩) 1 1] 72, .cells #[.int .u64 vq.natAbs] 108, .cells #[.bool nq, .slice (some ⟨w.heap.size + 4, 0, none⟩) 1 1] 72] 4 _ rfl⟩⟩
end Go.Proofs.YtkokikfooooiiaaGreatDoor
