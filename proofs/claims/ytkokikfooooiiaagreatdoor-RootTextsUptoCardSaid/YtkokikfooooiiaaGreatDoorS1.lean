import Derived.Test.YtkokikfooooiiaaGreatDoorV2
import Derived.Test.YtkokikfooooiiaaGreatDoorN2
import Derived.Test.YtkokikfooooiiaaGreatDoorC2
namespace Go.Proofs.YtkokikfooooiiaaGreatDoor
set_option linter.unusedSimpArgs false
open Go.RowKit
set_option maxRecDepth 100000 in
set_option maxHeartbeats 4000000 in
theorem rootsign_closed (w : World) : Calls Tryz.prog 13 #[.agg #[.int .i64 3, .int .i64 (-2), .int .i64 0]] w fun e w' => e = .returned (.tuple #[.int .i64 1, .int .i64 0]) ∧ Chg [] w w' := by
  have K := Lib.hid (fun w => check_any 3 (-2) 0 (by omega) (by omega) (by omega) (by omega) w)
  have e1 : chk 3 (-2) 0 = 0 := rfl
  rw [e1] at K
  have O := Lib.hid (fun w => of_nz 3 (-2) 0 (by omega) (by omega) (by omega) (by omega) w)
  go_enter Tryz.func13, Tryz.ntmps13
  go_wp2_with (fail)
  go_at_call 15
  refine (K.out _).mono ?_
  rintro e w1 ⟨rfl, C1⟩
  have hb := C1.get (k := w.heap.size) (o := .cells #[.int .i64 3, .int .i64 (-2), .int .i64 0] 23) (by ((simp only [get_drew, get_drewN, get_alloc, get_setCell, World.size_alloc, World.size_setCell, size_drew, size_drewN, if_true]); repeat (first | rw [if_pos (by omega)] | rw [if_neg (by omega)] | simp only [Option.map_some, turn_cells, if_true] | assumption | rfl))) (by simp)
  have b0 : w1.cell? ⟨w.heap.size, 0, none⟩ = some (.int .i64 3) := cell_at hb 0
  have b1 : w1.cell? ⟨w.heap.size, 1, none⟩ = some (.int .i64 (-2)) := cell_at hb 1
  have b2 : w1.cell? ⟨w.heap.size, 2, none⟩ = some (.int .i64 0) := cell_at hb 2
  go_wp2_with (fail)
  go_at_call 26
  refine (O.out _).mono ?_
  rintro e w2 ⟨rfl, hs, C2, hp, hq⟩
  go_wp2_with (fail)
  go_at_call 32
  refine (sign_closed _ _ _ _ 0 w2 hp hq).mono ?_
  rintro e w3 ⟨rfl, C3⟩
  go_wp2
  go_returns
  exact ⟨rfl, ((((Chg.refl _ _).alloc _).trans C1 (by simp)).trans C2 (by simp)).trans C3 (by simp)⟩
end Go.Proofs.YtkokikfooooiiaaGreatDoor
