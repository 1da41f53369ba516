import Derived.Test.YtkokikfooooiiaaGreatDoorT6
import Derived.Deep.RegionHeld3
import Derived.Deep.RegionLaw
import Derived.Deep.QuietTactic
import Derived.BigQuiet
import Derived.StillTailTactics
namespace Go.Proofs.YtkokikfooooiiaaGreatDoor
open Go.RowKit
set_option maxRecDepth 100000 in
set_option maxHeartbeats 4000000 in
theorem natsqr (a k : Nat) (ha0 : 1 ≤ a) (ha : a < 4294967296) (hk : a * a = k) (dx cx : Nat) (w : World) (hxd : w.cell? ⟨dx, 0, none⟩ = some (.int .u64 a)) :
    Calls Tryz.prog 80 #[.slice none 0 0, .pointer none, .slice (some ⟨dx, 0, none⟩) 1 cx] w fun e w' => e = .returned (.slice (some ⟨w.heap.size, 0, none⟩) 1 6) ∧ w' = w.alloc (.cells #[.int .u64 k, .int .u64 0, .int .u64 0, .int .u64 0, .int .u64 0, .int .u64 0] 108) := by
  have hm : k < 18446744073709551616 := by
    have : a * a ≤ 4294967295 * 4294967295 := Nat.mul_le_mul (by omega) (by omega)
    omega
  have hk0 : 1 ≤ k := by rw [← hk]; exact Nat.mul_pos ha0 ha0
  have kz : ((k : Int) == 0) = false := by rw [beq_eq_false_iff_ne]; omega
  have c := fun w => Tryz.bits_Mul a a (by omega) (by omega) w
  rw [hk, Nat.div_eq_of_lt hm, Nat.mod_eq_of_lt hm] at c
  have C := Lib.hid c
  have hm2 := make2
  clear c hk hm
  go_enter Tryz.func80, Tryz.ntmps80
  go_wp2_with (first | (go_at_call 132; refine (C.out _).mono ?_; rintro e w' ⟨rfl, rfl⟩) | (go_at_call 85; go_in) | (go_at_call 111; go_in))
  go_wp2
  go_rounds 3
  go_ret
  exact ⟨rfl, rfl⟩
end Go.Proofs.YtkokikfooooiiaaGreatDoor
