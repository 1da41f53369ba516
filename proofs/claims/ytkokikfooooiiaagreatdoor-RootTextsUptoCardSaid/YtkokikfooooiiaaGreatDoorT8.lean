import Derived.Test.YtkokikfooooiiaaGreatDoorT7
import Derived.Deep.RegionHeld3
import Derived.Deep.RegionLaw
import Derived.StillTailTactics
namespace Go.Proofs.YtkokikfooooiiaaGreatDoor
open Go.RowKit
set_option maxRecDepth 100000 in
set_option maxHeartbeats 4000000 in
theorem mul_ww (a b k : Nat) (ha0 : 1 ≤ a) (hb0 : 1 ≤ b) (ha : a < 4294967296) (hb : b < 4294967296) (hab : a * b = k) (nx ny : Bool) (bz bx by' : Nat) (w : World)
    (hz : Z0 w bz) (hx : One w bx nx a) (hy : One w by' ny b) (hne : bx ≠ by') (hzx : bx ≠ bz) (hzy : by' ≠ bz) :
    Calls Tryz.prog 28 #[.pointer (some ⟨bz, 0, none⟩), .pointer (some ⟨bx, 0, none⟩), .pointer (some ⟨by', 0, none⟩)] w fun e w' => e = .returned (.pointer (some ⟨bz, 0, none⟩)) ∧ ∃ d, w.heap.size ≤ d ∧ Chg [bz] w w' ∧ W6 w' bz (nx != ny) k d := by
  obtain ⟨dx, cx, hx, hxd, hxl, _⟩ := hx
  obtain ⟨dy, cy, hy, hyd, hyl, _⟩ := hy
  have HZ := Lib.hid hz
  unfold Z0 at hz
  have he := ptr_ne hx hy hne
  have lz := lt_of_block hz
  have lx := lt_of_block hx
  have ly := lt_of_block hy
  obtain ⟨hz0, hz1, fz0, fz1⟩ := big_cells hz
  obtain ⟨hx0, hx1, _, _⟩ := big_cells hx
  obtain ⟨hy0, hy1, _, _⟩ := big_cells hy
  have C := Lib.hid (fun w h1 h2 h3 => natmul_ww a b k ha0 hb0 ha hb hab dx dy cx cy w h1 h2 h3)
  have HX := Lib.hid hx
  have HY := Lib.hid hy
  clear hx hy hz hab
  go_enter Tryz.func28, Tryz.ntmps28
  go_wp2
  go_region_law (first | (go_simp; go_at_call 81; refine (C.out _ (by simpa using hxd) (by simpa using hyd) (by simpa using hxl)).mono ?_; rintro e w1 ⟨rfl, rfl⟩))
  all_goals
    obtain ⟨K1, z1, n1⟩ := stored_new HZ.out (.cells #[.int .u64 k, .int .u64 0, .int .u64 0, .int .u64 0, .int .u64 0, .int .u64 0] 108) (.slice (some ⟨w.heap.size, 0, none⟩) 1 6)
    generalize ((w.setCell ⟨bz, 1, none⟩ (.slice (some ⟨w.heap.size, 0, none⟩) 1 6)).alloc (.cells #[.int .u64 k, .int .u64 0, .int .u64 0, .int .u64 0, .int .u64 0, .int .u64 0] 108)).drew = w1 at *
    have x1 := (big_cells (K1.get HX.out (by simpa using hzx))).1
    have y1 := (big_cells (K1.get HY.out (by simpa using hzy))).1
    obtain ⟨z10, z11, f10, f11⟩ := big_cells z1
    have Z1 := Lib.hid z1
    have N1 := Lib.hid n1
    clear z1 n1 hz0 hz1 hx0 hx1 hy0 hy1 fz0 fz1 hxd hyd
    go_wp2
    go_still_tail 18, (by kernel_rfl)
    change wpList _ _ _ _ _ w1.drew
    go_wp2
    go_ret
    obtain ⟨K2, z2⟩ := stored_neg Z1.out (.bool (nx != ny))
    exact ⟨rfl, w.heap.size, Nat.le_refl _, (K1.trans K2 (by simp)).drew, z2, K2.get N1.out (by simp; omega)⟩
#print axioms mul_ww
end Go.Proofs.YtkokikfooooiiaaGreatDoor
