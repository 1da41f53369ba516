import Derived.Test.YtkokikfooooiiaaGreatDoorBase
import Derived.Test.YtkokikfooooiiaaGreatDoorShelf
import Derived.Deep.RegionHeld3
import Derived.Deep.RegionLaw
import Derived.Deep.QuietTactic
import Derived.BigQuiet
import Derived.StillTailTactics
namespace Go.Proofs.YtkokikfooooiiaaGreatDoor
open Go.RowKit
theorem clear_0 (d c : Nat) (w : World) : (Builtin.clear_ #[70] 0 #[.slice (some ⟨d, 0, none⟩) 0 c]).run Tryz.prog w = .ok (.tuple #[]) w := by
  simp [Builtin.clear_, run_underlying Tryz.underlying70]

set_option maxRecDepth 100000 in
set_option maxHeartbeats 4000000 in
theorem natlsh_in (k : Nat) (hk0 : 1 ≤ k) (hk : k < 4294967296) (d : Nat) (w : World) (hd : w.heap[d]? = some (.cells #[.int .u64 k, .int .u64 0, .int .u64 0, .int .u64 0, .int .u64 0, .int .u64 0] 108 (0, 0))) :
    Calls Tryz.prog 52 #[.slice (some ⟨d, 0, none⟩) 1 6, .slice (some ⟨d, 0, none⟩) 1 6, .int .u64 1] w fun e w' => e = .returned (.slice (some ⟨d, 0, none⟩) 1 6) ∧ w' = (w.setCell ⟨d, 0, none⟩ (.int .u64 ((k : Int) * 2))).setCell ⟨d, 1, none⟩ (.int .u64 0) := by
  have h86 := enters_lshVU
  have d0 := cell_at hd 0
  have d1 := cell_at hd 1
  have d2 := cell_at hd 2
  have d5 := cell_at hd 5
  have f0 := free_at hd 0
  have f1 := free_at hd 1
  simp only [List.getElem?_toArray, List.getElem?_cons_zero, List.getElem?_cons_succ] at d0 d1 d2 d5
  have HD := Lib.hid hd
  clear hd
  have b0 : (k : Int) / 9223372036854775808 = 0 := by omega
  have hc := clear_0 d
  have b1 : bits .and .u64 1 63 = 1 := by decide
  have b2 : IntKind.u64.wrap 63 = 63 := by decide
  have b3 : bits .and .u64 63 63 = 63 := by decide
  go_enter Tryz.func52, Tryz.ntmps52
  go_wp2
  go_rounds 1
  go_rounds 3
  go_ret
  exact ⟨rfl, rfl⟩
end Go.Proofs.YtkokikfooooiiaaGreatDoor
