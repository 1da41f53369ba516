import Derived.Test.YtkokikfooooiiaaGreatDoorX1
import Derived.Test.YtkokikfooooiiaaGreatDoorC2
import Derived.Test.YtkokikfooooiiaaGreatDoorF1
namespace Go.Proofs.YtkokikfooooiiaaGreatDoor
open Go.RowKit Go.Lib

set_option maxRecDepth 100000 in
set_option maxHeartbeats 4000000 in
theorem rootFloat_bad (p q k : Int) (hp : -9223372036854775808 ≤ p) (hp' : p ≤ 9223372036854775807) (hq : -9223372036854775808 ≤ q) (hq' : q ≤ 9223372036854775807) (h : chk p q k = 2) (w : World) :
    Calls Tryz.prog 6 #[.agg #[.int .i64 p, .int .i64 q, .int .i64 k]] w fun e w' => e = .returned (.tuple #[.float .f64 0, .int .i64 2]) ∧ Chg [] w w' := by
  have c := check_any p q k hp hp' hq hq'
  rw [h] at c
  have C := Lib.hid c
  clear c
  go_enter Tryz.func6, Tryz.ntmps6
  go_wp2_with (fail)
  go_at_call 15
  refine (C.out _).mono ?_
  rintro e w1 ⟨rfl, C1⟩
  go_wp2
  go_returns
  exact ⟨rfl, ((Chg.refl _ _).alloc _).trans C1 (by simp)⟩

set_option maxRecDepth 100000 in
set_option maxHeartbeats 4000000 in
theorem refFloat_bad (p q k : Int) (h : chk p q k = 2) (w : World) :
    Calls Tryz.prog 5 #[.agg #[.int .i64 p, .int .i64 q, .int .i64 k]] w fun e w' => e = .returned (.tuple #[.float .f64 0, .int .i64 2]) ∧ Chg [] w w' := by
  have c := refcheck_any p q k
  rw [h] at c
  have C := Lib.hid c
  clear c
  go_enter Tryz.func5, Tryz.ntmps5
  go_wp2_with (fail)
  go_at_call 14
  refine (C.out _).mono ?_
  rintro e w1 ⟨rfl, C1⟩
  go_wp2
  go_returns
  exact ⟨rfl, ((Chg.refl _ _).alloc _).trans C1 (by simp)⟩

set_option maxRecDepth 100000 in
set_option maxHeartbeats 4000000 in
theorem rootFloat_ok (p q k : Int) (h : chk p q k = 0) (x y z : Nat) (hx : ∀ w : World, (binOp .mul 25 (.float .f64 (floatOfInt .f64 q)) (.float .f64 4609047870845172685)).run Tryz.prog w = .ok (.float .f64 x) w)
    (hy : ∀ w : World, (binOp .add 25 (.float .f64 (floatOfInt .f64 p)) (.float .f64 x)).run Tryz.prog w = .ok (.float .f64 y) w)
    (hz : ∀ w : World, Calls Tryz.prog 16 #[.float .f64 y, .int .i64 (-k)] w fun e w' => e = .returned (.float .f64 z) ∧ w' = w) (w : World) :
    Calls Tryz.prog 6 #[.agg #[.int .i64 p, .int .i64 q, .int .i64 k]] w fun e w' => e = .returned (.tuple #[.float .f64 z, .int .i64 0]) ∧ Chg [] w w' := by
  obtain ⟨hp, hp', hq, hq', hk, hk'⟩ := chk_zero h
  have c := check_any p q k (by omega) (by omega) (by omega) (by omega)
  rw [h] at c
  have C := Lib.hid c
  clear c h
  have I0 := Lib.hid (Inv.box p q k w)
  have HZ := Lib.hid hz
  have ek : IntKind.i64.wrap (-k) = -k := by rw [IntKind.wrap_i64]; omega
  have ek' : wrap64 (-k) = -k := by unfold wrap64; omega
  clear hz
  go_enter Tryz.func6, Tryz.ntmps6
  go_wp2_with (fail)
  go_at_call 15
  refine (C.out _).mono ?_
  rintro e w1 ⟨rfl, C1⟩
  have I1 := I0.out.step C1
  obtain ⟨_, _, i0, i1, i2⟩ := id I1
  go_wp2_with (fail)
  go_at_call 16
  refine (HZ.out _).mono ?_
  rintro e w2 ⟨rfl, rfl⟩
  go_wp2
  go_returns
  exact ⟨rfl, I1.1⟩

set_option maxRecDepth 100000 in
set_option maxHeartbeats 4000000 in
theorem refFloat_ok (p q k : Int) (h : chk p q k = 0) (x y z : Nat) (hx : ∀ w : World, (binOp .mul 25 (.float .f64 (floatOfInt .f64 q)) (.float .f64 4609047870845172685)).run Tryz.prog w = .ok (.float .f64 x) w)
    (hy : ∀ w : World, (binOp .add 25 (.float .f64 (floatOfInt .f64 p)) (.float .f64 x)).run Tryz.prog w = .ok (.float .f64 y) w)
    (z0 : Nat) (hd : ∀ w : World, (binOp .quo 25 (.float .f64 y) (.float .f64 (floatOfInt .f64 (wrap64 (2 ^ k.toNat))))).run Tryz.prog w = .ok (.float .f64 z0) w)
    (hs : ∀ w : World, (binOp .add 25 (.float .f64 z0) (.float .f64 0)).run Tryz.prog w = .ok (.float .f64 z) w) (w : World) :
    Calls Tryz.prog 5 #[.agg #[.int .i64 p, .int .i64 q, .int .i64 k]] w fun e w' => e = .returned (.tuple #[.float .f64 z, .int .i64 0]) ∧ Chg [] w w' := by
  obtain ⟨hp, hp', hq, hq', hk, hk'⟩ := chk_zero h
  have c := refcheck_any p q k
  rw [h] at c
  have C := Lib.hid c
  clear c h
  have I0 := Lib.hid (Inv.box p q k w)
  go_enter Tryz.func5, Tryz.ntmps5
  go_wp2_with (fail)
  go_at_call 14
  refine (C.out _).mono ?_
  rintro e w1 ⟨rfl, C1⟩
  have I1 := I0.out.step C1
  obtain ⟨_, _, i0, i1, i2⟩ := id I1
  go_wp2
  go_returns
  exact ⟨rfl, I1.1⟩

theorem pow_wrap (k : Nat) (hk : k ≤ 60) : wrap64 (2 ^ k) = ((2 ^ k : Nat) : Int) := by
  have h : (2 : Nat) ^ k ≤ 2 ^ 60 := Nat.pow_le_pow_right (by omega) hk
  have e : (2 : Int) ^ k = ((2 ^ k : Nat) : Int) := by simp
  rw [e]
  generalize (2 : Nat) ^ k = n at h
  unfold wrap64
  omega

/-- Both float readings of a root: one value. -/
theorem float_both (p q k : Int) (h : chk p q k = 0) : ∃ z, (∀ w : World, Calls Tryz.prog 6 #[.agg #[.int .i64 p, .int .i64 q, .int .i64 k]] w fun e w' => e = .returned (.tuple #[.float .f64 z, .int .i64 0]) ∧ Chg [] w w') ∧
    (∀ w : World, Calls Tryz.prog 5 #[.agg #[.int .i64 p, .int .i64 q, .int .i64 k]] w fun e w' => e = .returned (.tuple #[.float .f64 z, .int .i64 0]) ∧ Chg [] w w') := by
  obtain ⟨hp, hp', hq, hq', hk, hk'⟩ := chk_zero h
  obtain ⟨x, y, ex, ey, hy⟩ := Flo.sum_mid p q (by omega) (by omega)
  have hx := fun w : World => run_float_arith (P := Tryz.prog) w .mul 25 .f64 (floatOfInt .f64 q) 4609047870845172685 x ex
  have hy' := fun w : World => run_float_arith (P := Tryz.prog) w .add 25 .f64 (floatOfInt .f64 p) x y ey
  obtain ⟨n, rfl⟩ := Int.eq_ofNat_of_zero_le hk
  have hn : n ≤ 60 := by omega
  have ew : wrap64 (2 ^ ((n : Int)).toNat) = ((2 ^ n : Nat) : Int) := by rw [Int.toNat_natCast]; exact pow_wrap n hn
  rcases hy with rfl | ⟨neg, r, rfl, h1, h2⟩
  · refine ⟨0, rootFloat_ok p q n h x 0 0 hx hy' (fun w => ldexp_zero _ w), refFloat_ok p q n h x 0 0 hx hy' 0 (fun w => ?_) (fun w => run_float_arith w .add 25 .f64 0 0 0 (by decide))⟩
    rw [ew]
    exact run_float_arith w .quo 25 .f64 0 _ 0 (Flo.div_pow_zero n hn)
  · refine ⟨Flo.D.word neg (r - n * 4503599627370496), rootFloat_ok p q n h x _ _ hx hy' (fun w => ldexp_mid neg r n h1 h2 hn w), refFloat_ok p q n h x _ _ hx hy' _ (fun w => ?_) (fun w => run_float_arith w .add 25 .f64 _ 0 _ ((Flo.add_zero_norm neg (r - n * 4503599627370496) (by omega) (by omega)).1))⟩
    rw [ew]
    exact run_float_arith w .quo 25 .f64 _ _ _ (Flo.div_pow neg r n hn h1 h2)
end Go.Proofs.YtkokikfooooiiaaGreatDoor
