import Derived.Test.YtkokikfooooiiaaGreatDoorBase
import Derived.Test.YtkokikfooooiiaaGreatDoorShelf
import Derived.Deep.RegionHeld3
import Derived.Deep.RegionLaw
import Derived.Deep.QuietTactic
import Derived.BigQuiet
import Derived.StillTailTactics
namespace Go.Proofs.YtkokikfooooiiaaGreatDoor
open Go.RowKit
set_option maxRecDepth 100000 in
set_option maxHeartbeats 4000000 in
theorem sign_one (b k : Nat) (neg : Bool) (w : World) (h : One w b neg k) : Calls Tryz.prog 57 #[.pointer (some ⟨b, 0, none⟩)] w fun e w' => e = .returned (.int .i64 (if neg then -1 else 1)) ∧ w = w' := by
  obtain ⟨d, c, hb, hd, hl, _⟩ := h
  obtain ⟨c0, c1, _, _⟩ := big_cells hb
  clear hb
  cases neg
  all_goals
    go_enter Tryz.func57, Tryz.ntmps57
    go_wp2
    go_ret
    exact ⟨rfl, rfl⟩
set_option maxRecDepth 100000 in
set_option maxHeartbeats 4000000 in
theorem sign_z0 (b : Nat) (w : World) (h : Z0 w b) : Calls Tryz.prog 57 #[.pointer (some ⟨b, 0, none⟩)] w fun e w' => e = .returned (.int .i64 0) ∧ w = w' := by
  obtain ⟨c0, c1, _, _⟩ := big_cells h
  clear h
  go_enter Tryz.func57, Tryz.ntmps57
  go_wp2
  go_ret
  exact ⟨rfl, rfl⟩
set_option maxRecDepth 100000 in
set_option maxHeartbeats 4000000 in
theorem bit_odd (b d c : Nat) (neg : Bool) (w : World) (hb : w.heap[b]? = some (.cells #[.bool neg, .slice (some ⟨d, 0, none⟩) 1 c] 72 (0, 0))) (hd : w.cell? ⟨d, 0, none⟩ = some (.int .u64 1)) : Calls Tryz.prog 58 #[.pointer (some ⟨b, 0, none⟩), .int .i64 0] w fun e w' => e = .returned (.int .u64 1) ∧ w = w' := by
  obtain ⟨c0, c1, _, _⟩ := big_cells hb
  clear hb
  go_enter Tryz.func58, Tryz.ntmps58
  go_wp2
  go_ret
  exact ⟨by simp; try decide, rfl⟩
set_option maxRecDepth 100000 in
set_option maxHeartbeats 4000000 in
theorem int64_one (b k : Nat) (hk : k < 9223372036854775808) (w : World) (h : One w b false k) : Calls Tryz.prog 61 #[.pointer (some ⟨b, 0, none⟩)] w fun e w' => e = .returned (.int .i64 k) ∧ w = w' := by
  obtain ⟨d, c, hb, hd, hl, _⟩ := h
  obtain ⟨c0, c1, _, _⟩ := big_cells hb
  clear hb
  go_enter Tryz.func61, Tryz.ntmps61
  go_wp2
  go_ret
  exact ⟨by simp; try omega, rfl⟩
set_option maxRecDepth 100000 in
set_option maxHeartbeats 4000000 in
theorem int64_z0 (b : Nat) (w : World) (h : Z0 w b) : Calls Tryz.prog 61 #[.pointer (some ⟨b, 0, none⟩)] w fun e w' => e = .returned (.int .i64 0) ∧ w = w' := by
  obtain ⟨c0, c1, _, _⟩ := big_cells h
  clear h
  go_enter Tryz.func61, Tryz.ntmps61
  go_wp2
  go_ret
  exact ⟨rfl, rfl⟩

end Go.Proofs.YtkokikfooooiiaaGreatDoor
