import Derived.Test.YtkokikfooooiiaaGreatDoorT6
namespace Go.Proofs.YtkokikfooooiiaaGreatDoor
open Go.RowKit

theorem nat_ne0 {k : Nat} (h : 1 ≤ k) : ((k : Int) == 0) = false := by rw [beq_eq_false_iff_ne]; omega

set_option maxRecDepth 100000 in
set_option maxHeartbeats 4000000 in
theorem natmul_ww (a b k : Nat) (ha0 : 1 ≤ a) (hb0 : 1 ≤ b) (ha : a < 4294967296) (hb : b < 4294967296) (hab : a * b = k) (dx dy cx cy : Nat) (w : World)
    (hxd : w.cell? ⟨dx, 0, none⟩ = some (.int .u64 a)) (hyd : w.cell? ⟨dy, 0, none⟩ = some (.int .u64 b)) (hxl : dx < w.heap.size) :
    Calls Tryz.prog 81 #[.slice none 0 0, .pointer none, .slice (some ⟨dx, 0, none⟩) 1 cx, .slice (some ⟨dy, 0, none⟩) 1 cy] w fun e w' => e = .returned (.slice (some ⟨w.heap.size, 0, none⟩) 1 6) ∧ w' = w.alloc (.cells #[.int .u64 k, .int .u64 0, .int .u64 0, .int .u64 0, .int .u64 0, .int .u64 0] 108) := by
  have hk0 : 1 ≤ k := by rw [← hab]; exact Nat.mul_pos ha0 hb0
  have hkz := nat_ne0 hk0
  have hbz := nat_ne0 hb0
  have hxd' : (w.alloc (.cells #[.int .u64 0, .int .u64 0, .int .u64 0, .int .u64 0, .int .u64 0, .int .u64 0] 108)).cell? ⟨dx, 0, none⟩ = some (.int .u64 a) := by rw [World.cell?_alloc_lt _ _ _ hxl]; exact hxd
  have C := Lib.hid (fun w => mulAddWWW a b k ha hb hab w)
  have h4 := enters_mulAddVWW
  have hm2 := make2
  clear hab
  go_enter Tryz.func81, Tryz.ntmps81
  go_wp2
  refine wp_loop_rounds 2 ?_
  rw [rounds_succ]
  go_wp2_with (go_at_call 134; refine (C.out _).mono ?_; rintro e w' ⟨rfl, rfl⟩)
  rw [rounds_succ]
  go_wp2
  go_rounds 3
  go_ret
  exact ⟨rfl, rfl⟩
end Go.Proofs.YtkokikfooooiiaaGreatDoor
