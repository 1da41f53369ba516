import Derived.Test.YtkokikfooooiiaaGreatDoorR2
import Derived.Deep.RegionHeld3
import Derived.Deep.RegionLaw
import Derived.Deep.QuietTactic
import Derived.BigQuiet
import Derived.StillTailTactics
namespace Go.Proofs.YtkokikfooooiiaaGreatDoor
open Go.RowKit
set_option maxRecDepth 100000 in
set_option maxHeartbeats 4000000 in
theorem cmp_pp (a b : Nat) (hab : b < a) (bx by' dx cx dy cy : Nat) (w : World) (hne : bx ≠ by')
    (hx : w.heap[bx]? = some (.cells #[.bool false, .slice (some ⟨dx, 0, none⟩) 1 cx] 72 (0, 0))) (hxd : w.cell? ⟨dx, 0, none⟩ = some (.int .u64 a))
    (hy : w.heap[by']? = some (.cells #[.bool false, .slice (some ⟨dy, 0, none⟩) 1 cy] 72 (0, 0))) (hyd : w.cell? ⟨dy, 0, none⟩ = some (.int .u64 b)) :
    Calls Tryz.prog 62 #[.pointer (some ⟨bx, 0, none⟩), .pointer (some ⟨by', 0, none⟩)] w fun e w' => e = .returned (.int .i64 1) ∧ ∃ n, w' = w.drewN n := by
  have hp := ptr_ne hx hy hne
  obtain ⟨x0, x1, _, _⟩ := big_cells hx
  obtain ⟨y0, y1, _, _⟩ := big_cells hy
  have C := Lib.hid (fun w h1 h2 => natcmp_gt a b hab dx cx dy cy w h1 h2)
  clear hx hy
  go_enter Tryz.func62, Tryz.ntmps62
  go_wp2
  go_quiet (fail)
  go_wp2
  go_quiet ((go_at_call 54; exact quiet_add (C.out _ (by simpa using hxd) (by simpa using hyd))))
  go_wp2
  go_ret
  exact ⟨rfl, _, rfl⟩

end Go.Proofs.YtkokikfooooiiaaGreatDoor
