import Derived.Test.YtkokikfooooiiaaGreatDoorBase2
import Derived.Test.YtkokikfooooiiaaGreatDoorR1
import Derived.Test.YtkokikfooooiiaaGreatDoorI1
import Derived.Test.YtkokikfooooiiaaGreatDoorI5
import Derived.Test.YtkokikfooooiiaaGreatDoorI6
import Derived.Deep.RegionHeld3
import Derived.Deep.RegionLaw
import Derived.Deep.QuietTactic
import Derived.BigQuiet
import Derived.StillTailTactics
namespace Go.Proofs.YtkokikfooooiiaaGreatDoor
set_option linter.unusedSimpArgs false
open Go.RowKit
set_option maxRecDepth 100000 in
set_option maxHeartbeats 8000000 in
theorem sign_closed (bp dp bq dq : Nat) (k : Int) (w : World) (hp : W1 w bp false 3 dp) (hq : W1 w bq true 2 dq) :
    Calls Tryz.prog 32 #[.agg #[.pointer (some ⟨bp, 0, none⟩), .pointer (some ⟨bq, 0, none⟩), .int .i64 k]] w fun e w' => e = .returned (.int .i64 1) ∧ Chg [] w w' := by
  have lp := lt_of_block hp.1
  have lq := lt_of_block hq.1
  have lpd := lt_of_block hp.2
  have lqd := lt_of_block hq.2
  have HP := Lib.hid hp
  have HQ := Lib.hid hq
  clear hp hq
  have SP := Lib.hid (fun w h => (sign_one bp 3 false w h).mono fun _ _ h => (⟨h.1, h.2.symm⟩ : _ = Ending.returned (.int .i64 1) ∧ _ = w))
  have SQ := Lib.hid (fun w h => (sign_one bq 2 true w h).mono fun _ _ h => (⟨h.1, h.2.symm⟩ : _ = Ending.returned (.int .i64 (-1)) ∧ _ = w))
  go_enter Tryz.func32, Tryz.ntmps32
  go_wp2
  go_quiet (first | (go_at_call_of 57 (Value.pointer (some ⟨bp, 0, none⟩)); refine Calls.quiet_of_same (SP.out _ ?_); exact HP.out.one.alloc _) | (go_at_call_of 57 (Value.pointer (some ⟨bq, 0, none⟩)); refine Calls.quiet_of_same (SQ.out _ ?_); exact HQ.out.one.alloc _))
  go_wp2_with (fail)
  have hp := HP.out
  have hq := HQ.out
  unfold W1 at hp hq
  obtain ⟨hp1, hp2⟩ := hp
  obtain ⟨hq1, hq2⟩ := hq
  generalize hW : (((w.alloc (.cells #[.pointer (some ⟨bp, 0, none⟩), .pointer (some ⟨bq, 0, none⟩), .int .i64 k] 67)).drewN nq).alloc (.cells #[.bool false, .slice none 0 0] 72)) = w1
  have z1 : Z0 w1 (w.heap.size + 1) := by subst hW; show _ = _; ((simp only [get_drew, get_drewN, get_alloc, get_setCell, World.size_alloc, World.size_setCell, size_drew, size_drewN, if_true]); repeat (first | rw [if_pos (by omega)] | rw [if_neg (by omega)] | simp only [Option.map_some, turn_cells, if_true] | assumption | rfl))
  have p1 : w1.heap[bp]? = some (.cells #[.bool false, .slice (some ⟨dp, 0, none⟩) 1 1] 72 (0, 0)) := by subst hW; ((simp only [get_drew, get_drewN, get_alloc, get_setCell, World.size_alloc, World.size_setCell, size_drew, size_drewN, if_true]); repeat (first | rw [if_pos (by omega)] | rw [if_neg (by omega)] | simp only [Option.map_some, turn_cells, if_true] | assumption | rfl))
  have pd1 : w1.heap[dp]? = some (.cells #[.int .u64 3] 108 (0, 0)) := by subst hW; ((simp only [get_drew, get_drewN, get_alloc, get_setCell, World.size_alloc, World.size_setCell, size_drew, size_drewN, if_true]); repeat (first | rw [if_pos (by omega)] | rw [if_neg (by omega)] | simp only [Option.map_some, turn_cells, if_true] | assumption | rfl))
  have q1 : w1.heap[bq]? = some (.cells #[.bool true, .slice (some ⟨dq, 0, none⟩) 1 1] 72 (0, 0)) := by subst hW; ((simp only [get_drew, get_drewN, get_alloc, get_setCell, World.size_alloc, World.size_setCell, size_drew, size_drewN, if_true]); repeat (first | rw [if_pos (by omega)] | rw [if_neg (by omega)] | simp only [Option.map_some, turn_cells, if_true] | assumption | rfl))
  have qd1 : w1.heap[dq]? = some (.cells #[.int .u64 2] 108 (0, 0)) := by subst hW; ((simp only [get_drew, get_drewN, get_alloc, get_setCell, World.size_alloc, World.size_setCell, size_drew, size_drewN, if_true]); repeat (first | rw [if_pos (by omega)] | rw [if_neg (by omega)] | simp only [Option.map_some, turn_cells, if_true] | assumption | rfl))
  have b1 : w1.heap[w.heap.size]? = some (.cells #[.pointer (some ⟨bp, 0, none⟩), .pointer (some ⟨bq, 0, none⟩), .int .i64 k] 67 (0, 0)) := by subst hW; ((simp only [get_drew, get_drewN, get_alloc, get_setCell, World.size_alloc, World.size_setCell, size_drew, size_drewN, if_true]); repeat (first | rw [if_pos (by omega)] | rw [if_neg (by omega)] | simp only [Option.map_some, turn_cells, if_true] | assumption | rfl))
  have s1 : w1.heap.size = w.heap.size + 2 := by subst hW; simp
  have C1 : Chg [] w w1 := by subst hW; exact ((Chg.refl _ _).alloc _).drewN _ |>.alloc _
  clear hW
  go_at_call 28
  refine (mul_sq 3 9 (by omega) (by omega) rfl false _ bp dp 1 _ z1 p1 (cell_at pd1 0) (by omega)).mono ?_
  rintro e w2 ⟨rfl, d2, ld2, C2, m2⟩
  have k0 : w2.cell? ⟨w.heap.size, 0, none⟩ = some (.pointer (some ⟨bp, 0, none⟩)) := cell_at (C2.get b1 (by simp)) 0
  have k1 : w2.cell? ⟨w.heap.size, 1, none⟩ = some (.pointer (some ⟨bq, 0, none⟩)) := cell_at (C2.get b1 (by simp)) 1
  have ls2 := C2.size
  have l0 : w.heap.size < w2.heap.size := by omega
  have hq2 := C2.get q1 (by simp; omega)
  have hqd2 := C2.get qd1 (by simp; omega)
  have CC : Chg [] w w2 := C1.trans C2 (fun t ht => .inr (by simp at ht; omega))
  have lm2 := lt_of_block m2.1
  have lm3 := lt_of_block m2.2
  clear C2 z1 p1 pd1 q1 qd1 b1 C1 hp1 hq1 hp2
  go_wp2_with (fail)
  generalize hW : w2.alloc (.cells #[.bool false, .slice none 0 0] 72) = w3
  have z3 : Z0 w3 w2.heap.size := by subst hW; show _ = _; ((simp only [get_drew, get_drewN, get_alloc, get_setCell, World.size_alloc, World.size_setCell, size_drew, size_drewN, if_true]); repeat (first | rw [if_pos (by omega)] | rw [if_neg (by omega)] | simp only [Option.map_some, turn_cells, if_true] | assumption | rfl))
  have q3 : w3.heap[bq]? = some (.cells #[.bool true, .slice (some ⟨dq, 0, none⟩) 1 1] 72 (0, 0)) := by subst hW; ((simp only [get_drew, get_drewN, get_alloc, get_setCell, World.size_alloc, World.size_setCell, size_drew, size_drewN, if_true]); repeat (first | rw [if_pos (by omega)] | rw [if_neg (by omega)] | simp only [Option.map_some, turn_cells, if_true] | assumption | rfl))
  have qd3 : w3.heap[dq]? = some (.cells #[.int .u64 2] 108 (0, 0)) := by subst hW; ((simp only [get_drew, get_drewN, get_alloc, get_setCell, World.size_alloc, World.size_setCell, size_drew, size_drewN, if_true]); repeat (first | rw [if_pos (by omega)] | rw [if_neg (by omega)] | simp only [Option.map_some, turn_cells, if_true] | assumption | rfl))
  have m3 : W6 w3 (w.heap.size + 1) false 9 d2 := by subst hW; exact ⟨(by have h := m2.1; ((simp only [get_drew, get_drewN, get_alloc, get_setCell, World.size_alloc, World.size_setCell, size_drew, size_drewN, if_true]); repeat (first | rw [if_pos (by omega)] | rw [if_neg (by omega)] | simp only [Option.map_some, turn_cells, if_true] | assumption | rfl))), (by have h := m2.2; ((simp only [get_drew, get_drewN, get_alloc, get_setCell, World.size_alloc, World.size_setCell, size_drew, size_drewN, if_true]); repeat (first | rw [if_pos (by omega)] | rw [if_neg (by omega)] | simp only [Option.map_some, turn_cells, if_true] | assumption | rfl)))⟩
  have s3 : w3.heap.size = w2.heap.size + 1 := by subst hW; simp
  have C3 : Chg [] w w3 := by subst hW; exact CC.alloc _
  clear hW
  go_at_call 28
  refine (mul_sq 2 4 (by omega) (by omega) rfl true _ bq dq 1 _ z3 q3 (cell_at qd3 0) (by omega)).mono ?_
  rintro e w4 ⟨rfl, d4, ld4, C4, m4⟩
  have m3' := C4.w6 m3 (by simp; omega) (by simp; omega)
  have C5 : Chg [] w w4 := C3.trans C4 (fun t ht => .inr (by simp at ht; omega))
  clear z3 q3 qd3 m3 C4
  go_wp2_with (first | (go_at_call 29; refine (lsh_in 4 (by omega) (by omega) false _ d4 _ m4 (by omega)).mono ?_; rintro e w5 ⟨rfl, C6, m5⟩; have m6 := C6.w6 m3' (by simp; omega) (by simp; omega)) | (go_at_call 62; refine (cmp_pp 9 8 (by omega) _ _ d2 6 d4 6 _ (by omega) m6.1 (cell_at m6.2 0) m5.1 (cell_at m5.2 0)).mono ?_; rintro e w7 ⟨rfl, n7, rfl⟩))
  go_ret
  refine ⟨rfl, ?_⟩
  exact (C5.trans C6 (fun t ht => .inr (by simp at ht; omega))).drewN _
end Go.Proofs.YtkokikfooooiiaaGreatDoor
