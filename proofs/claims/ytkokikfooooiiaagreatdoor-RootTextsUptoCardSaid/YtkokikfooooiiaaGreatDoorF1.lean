import Derived.Test.YtkokikfooooiiaaGreatDoorF0
import Derived.Deep.QuietTactic
namespace Go.Proofs.YtkokikfooooiiaaGreatDoor
open Go.RowKit
set_option maxRecDepth 100000 in
set_option maxHeartbeats 4000000 in
theorem ldexp_zero (k : Int) (w : World) : Calls Tryz.prog 16 #[.float .f64 0, .int .i64 k] w fun e w' => e = .returned (.float .f64 0) ∧ w' = w := by
  go_enter Tryz.func16, Tryz.ntmps16
  go_wp2
  go_ret
  exact ⟨rfl, rfl⟩
set_option maxRecDepth 100000 in
set_option maxHeartbeats 4000000 in
theorem ldexp_walk (x r y : Nat) (k : Int) (w : World)
  (o1 : (FloatKind.f64.format.order x 0 == some Ordering.eq) = false)
  (_o2 : (FloatKind.f64.format.order x x == some Ordering.eq) = true)
  (o3 : (FloatKind.f64.format.order r 9218868437227405311 == some Ordering.gt) = false)
  (o4 : (FloatKind.f64.format.order r 4503599627370496 == some Ordering.lt) = false) (b1 : bits BinOp.andNot .u64 (x : Int) 9223372036854775808 = (r : Int))
  (o5 : (FloatKind.f64.format.order x x != some Ordering.eq) = false) (E : Int) (b2 : wrap64 (wrap64 (-k) + wrap64 (bits BinOp.and .i64 (wrap64 ((x : Int) / 4503599627370496)) 2047 - 1023)) = E)
  (z1 : decide (E < -1075) = false) (z2 : decide (1023 < E) = false) (z3 : decide (E < -1022) = false) (hE : -1022 ≤ E) (hE' : E ≤ 1023)
  (b3 : bits BinOp.or .u64 (bits BinOp.andNot .u64 (x : Int) 9218868437227405312) ((E + 1023) * 4503599627370496) = (y : Int))
  (m : ∀ w : World, (binOp .mul 25 (.float .f64 4607182418800017408) (.float .f64 y)).run Tryz.prog w = .ok (.float .f64 y) w) :
    Calls Tryz.prog 16 #[.float .f64 x, .int .i64 (-k)] w fun e w' => e = .returned (.float .f64 y) ∧ w' = w := by
  have c1 := fun w => call_bits x w
  have c2 := fun w => call_from r w
  have c3 := fun w => call_from y w
  go_enter Tryz.func16, Tryz.ntmps16
  go_wp2
  go_ret
  exact ⟨rfl, rfl⟩

open Flo in
/-- math.Ldexp of the words that Float makes, at -k. -/
theorem ldexp_mid (neg : Bool) (r k : Nat) (h1 : 971 * 4503599627370496 ≤ r) (h2 : r < 1140 * 4503599627370496) (hk : k ≤ 60) (w : World) :
    Calls Tryz.prog 16 #[.float .f64 (D.word neg r), .int .i64 (-(k : Int))] w fun e w' => e = .returned (.float .f64 (D.word neg (r - k * 4503599627370496))) ∧ w' = w := by
  have hr : r < 9218868437227405312 := by omega
  have hr' : 4503599627370496 ≤ r := by omega
  have o2 := order_self neg r hr' hr
  refine ldexp_walk (D.word neg r) r (D.word neg (r - k * 4503599627370496)) k w (order_zero neg r hr' hr) o2 (order_max r hr' hr) (order_min r hr' hr) (bit_abs neg r hr) (by rw [bne, o2]; rfl) (((r / 4503599627370496 : Nat) : Int) - 1023 - (k : Int)) (bit_exp neg r k h1 h2 (by omega) (by omega)) (by simp; omega) (by simp; omega) (by simp; omega) (by omega) (by omega) (bit_new neg r k h1 h2 hk) (fun w => run_float_arith (w := w) .mul 25 .f64 _ _ _ (one_mul_norm neg (r - k * 4503599627370496) (by omega) (by omega)))
end Go.Proofs.YtkokikfooooiiaaGreatDoor
