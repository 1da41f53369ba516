import Derived.Test.YtkokikfooooiiaaGreatDoorBase
import Derived.Test.YtkokikfooooiiaaGreatDoorShelf
import Derived.Deep.RegionHeld3
import Derived.Deep.RegionLaw
import Derived.Deep.QuietTactic
import Derived.BigQuiet
import Derived.Laws.CopyRow
import Derived.Deep.WholeRow
import Derived.StillTailTactics
namespace Go.Proofs.YtkokikfooooiiaaGreatDoor
open Go.RowKit

theorem info108 : (Tryz.prog.info? 108).map (fun i => i.size) = some 1 := by kernel_rfl

set_option maxRecDepth 100000 in
theorem copy_11 (k : Nat) (dx cx : Nat) (w : World) (hxd : w.cell? ⟨dx, 0, none⟩ = some (.int .u64 k)) (hxl : dx < w.heap.size) :
    (Builtin.copy_ #[70, 70] 3 #[.slice (some ⟨w.heap.size, 0, none⟩) 1 1, .slice (some ⟨dx, 0, none⟩) 1 cx]).run Tryz.prog (w.alloc (.cells #[.int .u64 0] 108)) = .ok (.int .i64 1) (w.alloc (.cells #[.int .u64 k] 108)) := by
  have h := run_copy_row (P := Tryz.prog) (w.alloc (.cells #[.int .u64 0] 108)) 70 70 3 108 w.heap.size 0 1 1 ⟨dx, 0, none⟩ 1 cx #[.int .u64 0] 108 [.int .u64 k] Tryz.underlying70 info108 (heap_new _ _) rfl (fun j v hj => by
    match j, hj with
    | 0, hj => simp at hj; subst hj; show (w.alloc _).cell? ⟨dx, 0, none⟩ = _; rw [World.cell?_alloc_lt _ _ _ hxl]; exact hxd) (by simp) (by simp [Value.oneCell'])
  have e := World.setRow_alloc_new w #[.int .u64 0] #[.int .u64 k] 108
  rw [← e]
  exact h

set_option maxRecDepth 100000 in
set_option maxHeartbeats 4000000 in
theorem natset_1 (k : Nat) (dx cx : Nat) (w : World) (hxd : w.cell? ⟨dx, 0, none⟩ = some (.int .u64 k)) (hxl : dx < w.heap.size) :
    Calls Tryz.prog 84 #[.slice none 0 0, .slice (some ⟨dx, 0, none⟩) 1 cx] w fun e w' => e = .returned (.slice (some ⟨w.heap.size, 0, none⟩) 1 1) ∧ w' = w.alloc (.cells #[.int .u64 k] 108) := by
  have hm1 := make1
  have hc := copy_11 k dx cx w hxd hxl
  go_enter Tryz.func84, Tryz.ntmps84
  go_wp2
  go_ret
  exact ⟨rfl, rfl⟩

theorem copy_nil (dx c : Nat) (w : World) : (Builtin.copy_ #[70, 70] 3 #[.slice none 0 0, .slice (some ⟨dx, 0, none⟩) 0 c]).run Tryz.prog w = .ok (.int .i64 0) w := by
  obtain ⟨i, hi, hs⟩ := Option.map_eq_some_iff.1 info108
  simp [Builtin.copy_, run_underlying Tryz.underlying70, Builtin.lenOf, Builtin.firstCells, sizeOf, typeInfo, hi, goInt, loadCells, loadCellsFrom]

set_option maxRecDepth 100000 in
set_option maxHeartbeats 4000000 in
theorem natset_0 (dx c : Nat) (w : World) :
    Calls Tryz.prog 84 #[.slice none 0 0, .slice (some ⟨dx, 0, none⟩) 0 c] w fun e w' => e = .returned (.slice none 0 0) ∧ w = w' := by
  have hc := copy_nil dx c
  go_enter Tryz.func84, Tryz.ntmps84
  go_wp2
  go_ret
  exact ⟨rfl, rfl⟩
end Go.Proofs.YtkokikfooooiiaaGreatDoor
