import Derived.Test.YtkokikfooooiiaaGreatDoorM4
import Derived.Deep.RegionHeld3
import Derived.Deep.RegionLaw
import Derived.Deep.QuietTactic
import Derived.BigQuiet
import Derived.StillTailTactics
namespace Go.Proofs.YtkokikfooooiiaaGreatDoor
open Go.RowKit
set_option maxRecDepth 100000 in
set_option maxHeartbeats 4000000 in
theorem mul_sq (a k : Nat) (ha0 : 1 ≤ a) (ha : a < 4294967296) (hk : a * a = k) (nx : Bool) (bz bx dx cx : Nat) (w : World)
    (hz : Z0 w bz) (hx : w.heap[bx]? = some (.cells #[.bool nx, .slice (some ⟨dx, 0, none⟩) 1 cx] 72 (0, 0))) (hxd : w.cell? ⟨dx, 0, none⟩ = some (.int .u64 a)) (_hne : bx ≠ bz) :
    Calls Tryz.prog 28 #[.pointer (some ⟨bz, 0, none⟩), .pointer (some ⟨bx, 0, none⟩), .pointer (some ⟨bx, 0, none⟩)] w fun e w' => e = .returned (.pointer (some ⟨bz, 0, none⟩)) ∧ ∃ d, w.heap.size ≤ d ∧ Chg [bz] w w' ∧ W6 w' bz false k d := by
  have HZ := Lib.hid hz
  unfold Z0 at hz
  have he := ptr_eq bx w
  have lz := lt_of_block hz
  obtain ⟨z0, z1, f0, f1⟩ := big_cells hz
  obtain ⟨x0, x1, _, _⟩ := big_cells hx
  have C := Lib.hid (fun w h => natsqr a k ha0 ha hk dx cx w h)
  clear hx hz hk
  go_enter Tryz.func28, Tryz.ntmps28
  go_wp2
  go_region_law (first | (go_simp; go_at_call 80; refine (C.out _ (by simpa using hxd)).mono ?_; rintro e w1 ⟨rfl, rfl⟩))
  all_goals
    go_wp2
    go_ret
    refine ⟨rfl, w.heap.size, Nat.le_refl _, (((Chg.refl _ _).two (by simp) _ _).alloc _).drew, ?_, ?_⟩
    · show (World.alloc _ _).heap[bz]? = _
      rw [Below.heap_alloc _ _ _ (by simpa using lz), two_stores HZ.out]
    · show (World.alloc _ _).heap[w.heap.size]? = _
      have e := heap_new ((w.setCell ⟨bz, 1, none⟩ (.slice (some ⟨w.heap.size, 0, none⟩) 1 6)).setCell ⟨bz, 0, none⟩ (.bool false)) (.cells #[.int .u64 k, .int .u64 0, .int .u64 0, .int .u64 0, .int .u64 0, .int .u64 0] 108)
      simp only [World.size_setCell] at e
      exact e

end Go.Proofs.YtkokikfooooiiaaGreatDoor
