import Derived.Test.YtkokikfooooiiaaGreatDoorBase
import Derived.Test.YtkokikfooooiiaaGreatDoorShelf
import Derived.Deep.RegionHeld3
import Derived.Deep.RegionLaw
import Derived.Deep.QuietTactic
import Derived.BigQuiet
import Derived.StillTailTactics
namespace Go.Proofs.YtkokikfooooiiaaGreatDoor
open Go.RowKit

theorem sub64_of (a b k : Nat) (hk : k + b = a) (ha : a < 4294967296) (w : World) : (callFunc 126 #[.int .u64 a, .int .u64 b, .int .u64 0]).run Tryz.prog w = .ok (.value (.tuple #[.int .u64 k, .int .u64 0])) w := by
  have h := call_sub64 a b 0 (by omega) w
  rw [if_neg (by omega), show (a + 18446744073709551616 - b - 0) % 18446744073709551616 = k by omega] at h
  exact h

set_option maxRecDepth 100000 in
set_option maxHeartbeats 4000000 in
theorem bitsSub (a b k : Nat) (hk : k + b = a) (ha : a < 4294967296) (w : World) : Calls Tryz.prog 93 #[.int .u64 a, .int .u64 b, .int .u64 0] w fun e w' => e = .returned (.tuple #[.int .u64 k, .int .u64 0]) ∧ w' = w := by
  have hs := sub64_of a b k hk ha
  have H := Lib.hid hk
  clear hk
  go_enter Tryz.func93, Tryz.ntmps93
  go_wp2
  go_ret2
  exact ⟨rfl, rfl⟩

set_option maxRecDepth 100000 in
set_option maxHeartbeats 4000000 in
theorem subVV_1 (a b k : Nat) (hk : k + b = a) (ha : a < 4294967296) (d dy cz cx cy : Nat) (w : World) (d0 : w.cell? ⟨d, 0, none⟩ = some (.int .u64 a)) (f0 : w.frozen? ⟨d, 0, none⟩ = false)
    (y0 : w.cell? ⟨dy, 0, none⟩ = some (.int .u64 b)) :
    Calls Tryz.prog 46 #[.slice (some ⟨d, 0, none⟩) 1 cz, .slice (some ⟨d, 0, none⟩) 1 cx, .slice (some ⟨dy, 0, none⟩) 1 cy] w fun e w' => e = .returned (.int .u64 0) ∧ ∃ n, w' = (w.drewN n).setCell ⟨d, 0, none⟩ (.int .u64 k) := by
  have C := Lib.hid (bitsSub a b k hk ha)
  clear hk
  go_enter Tryz.func46, Tryz.ntmps46
  go_wp2
  refine wp_loop_rounds 2 ?_
  rw [rounds_succ]
  go_wp2
  go_quiet ((go_at_call 93; exact Calls.quiet_of_same (C.out _)))
  go_wp2
  rw [rounds_succ]
  go_wp2
  go_ret
  exact ⟨rfl, _, rfl⟩

theorem nat_ne0' {k : Nat} (h : 1 ≤ k) : ((k : Int) == 0) = false := by rw [beq_eq_false_iff_ne]; omega

set_option maxRecDepth 100000 in
set_option maxHeartbeats 4000000 in
theorem natsub_in (a b k : Nat) (_hb0 : 1 ≤ b) (hk : k + b = a) (hk0 : 1 ≤ k) (ha : a < 4294967296) (d dy cy : Nat) (w : World) (d0 : w.cell? ⟨d, 0, none⟩ = some (.int .u64 a)) (f0 : w.frozen? ⟨d, 0, none⟩ = false)
    (hyd : w.cell? ⟨dy, 0, none⟩ = some (.int .u64 b)) (hcy : 1 ≤ cy) :
    Calls Tryz.prog 55 #[.slice (some ⟨d, 0, none⟩) 1 6, .slice (some ⟨d, 0, none⟩) 1 6, .slice (some ⟨dy, 0, none⟩) 1 cy] w fun e w' => e = .returned (.slice (some ⟨d, 0, none⟩) 1 6) ∧ ∃ n, w' = (w.drewN n).setCell ⟨d, 0, none⟩ (.int .u64 k) := by
  have h91 := enters_subVV
  have kz := nat_ne0' hk0
  have hcy' : (1 : Int) ≤ (cy : Int) := by omega
  have C := Lib.hid (fun w h1 h2 h3 => subVV_1 a b k hk ha d dy 6 6 cy w h1 h2 h3)
  clear hk
  go_enter Tryz.func55, Tryz.ntmps55
  go_wp2
  go_region_law (first | (go_simp; go_at_call 46; refine (C.out _ (by simpa using d0) (by simpa using f0) (by simpa using hyd)).mono ?_; rintro e w1 ⟨rfl, n1, rfl⟩))
  go_wp2
  go_rounds 2
  go_ret
  exact ⟨rfl, _, rfl⟩

set_option maxRecDepth 100000 in
set_option maxHeartbeats 4000000 in
theorem natsub_in0 (a : Nat) (_ha0 : 1 ≤ a) (ha : a < 4294967296) (d dy cy : Nat) (w : World) (d0 : w.cell? ⟨d, 0, none⟩ = some (.int .u64 a)) (f0 : w.frozen? ⟨d, 0, none⟩ = false)
    (hyd : w.cell? ⟨dy, 0, none⟩ = some (.int .u64 a)) (hcy : 1 ≤ cy) :
    Calls Tryz.prog 55 #[.slice (some ⟨d, 0, none⟩) 1 6, .slice (some ⟨d, 0, none⟩) 1 6, .slice (some ⟨dy, 0, none⟩) 1 cy] w fun e w' => e = .returned (.slice (some ⟨d, 0, none⟩) 0 6) ∧ ∃ n, w' = (w.drewN n).setCell ⟨d, 0, none⟩ (.int .u64 0) := by
  have h91 := enters_subVV
  have hcy' : (1 : Int) ≤ (cy : Int) := by omega
  have C := Lib.hid (fun w h1 h2 h3 => subVV_1 a a 0 (by omega) ha d dy 6 6 cy w h1 h2 h3)
  go_enter Tryz.func55, Tryz.ntmps55
  go_wp2
  go_region_law (first | (go_simp; go_at_call 46; refine (C.out _ (by simpa using d0) (by simpa using f0) (by simpa using hyd)).mono ?_; rintro e w1 ⟨rfl, n1, rfl⟩))
  go_wp2
  go_rounds 2
  go_ret
  exact ⟨rfl, _, rfl⟩
end Go.Proofs.YtkokikfooooiiaaGreatDoor
