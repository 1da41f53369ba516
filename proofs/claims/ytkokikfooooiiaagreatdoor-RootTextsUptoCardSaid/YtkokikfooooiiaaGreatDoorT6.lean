import Derived.Test.YtkokikfooooiiaaGreatDoorBase
import Derived.Test.YtkokikfooooiiaaGreatDoorShelf
namespace Go.Proofs.YtkokikfooooiiaaGreatDoor
open Go.RowKit

theorem add64_00 (k : Nat) (hk : k < 18446744073709551616) (w : World) : (callFunc 124 #[.int .u64 k, .int .u64 0, .int .u64 0]).run Tryz.prog w = .ok (.value (.tuple #[.int .u64 k, .int .u64 0])) w := by
  rw [call_add64 k 0 0 (by omega) (by omega) (by omega) (by omega)]
  rw [Int.add_zero, Int.add_zero, Int.emod_eq_of_lt (by omega) (by omega), Int.ediv_eq_zero_of_lt (by omega) (by omega)]

set_option maxRecDepth 100000 in
set_option maxHeartbeats 4000000 in
theorem mulAddWWW (x y k : Nat) (hx : x < 4294967296) (hy : y < 4294967296) (hxy : x * y = k) (w : World) :
    Calls Tryz.prog 134 #[.int .u64 x, .int .u64 y, .int .u64 0] w fun e w' => e = .returned (.tuple #[.int .u64 0, .int .u64 k]) ∧ w = w' := by
  have hm : k < 18446744073709551616 := by
    have : x * y ≤ 4294967295 * 4294967295 := Nat.mul_le_mul (by omega) (by omega)
    omega
  have hadd := add64_00 k hm
  have c := Tryz.bits_Mul x y (by omega) (by omega) w
  rw [hxy, Nat.div_eq_of_lt hm, Nat.mod_eq_of_lt hm] at c
  have C := Lib.hid c
  clear c hxy hm
  go_enter Tryz.func134, Tryz.ntmps134
  go_wp2_with (go_at_call 132; refine C.out.mono ?_; rintro e w' ⟨rfl, rfl⟩)
  go_wp2
  go_ret2
  exact ⟨by simp, rfl⟩
#print axioms mulAddWWW
end Go.Proofs.YtkokikfooooiiaaGreatDoor
