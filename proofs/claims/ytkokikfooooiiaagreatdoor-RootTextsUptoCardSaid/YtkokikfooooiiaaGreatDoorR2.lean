import Derived.Test.YtkokikfooooiiaaGreatDoorBase
import Derived.Test.YtkokikfooooiiaaGreatDoorShelf
import Derived.Deep.RegionHeld3
import Derived.Deep.RegionLaw
import Derived.Deep.QuietTactic
import Derived.BigQuiet
import Derived.StillTailTactics
namespace Go.Proofs.YtkokikfooooiiaaGreatDoor
open Go.RowKit
set_option maxRecDepth 100000 in
set_option maxHeartbeats 4000000 in
theorem natcmp_11 (a b : Nat) (dx cx dy cy : Nat) (w : World) (hxd : w.cell? ⟨dx, 0, none⟩ = some (.int .u64 a)) (hyd : w.cell? ⟨dy, 0, none⟩ = some (.int .u64 b)) :
    Calls Tryz.prog 54 #[.slice (some ⟨dx, 0, none⟩) 1 cx, .slice (some ⟨dy, 0, none⟩) 1 cy] w fun e w' => e = .returned (.int .i64 (if a < b then -1 else if b < a then 1 else 0)) ∧ ∃ n, w' = w.drewN n := by
  go_enter Tryz.func54, Tryz.ntmps54
  go_wp2
  refine wp_loop_rounds 1 ?_
  rw [rounds_succ]
  go_wp2
  go_quiet (fail)
  go_wp2
  go_quiet (fail)
  go_wp2
  · go_ret
    exact ⟨rfl, _, rfl⟩
  · go_quiet (fail)
    go_wp2
    · go_ret
      exact ⟨rfl, _, rfl⟩
    · go_ret
      exact ⟨rfl, _, rfl⟩

set_option maxRecDepth 100000 in
set_option maxHeartbeats 4000000 in
theorem natcmp_01 (dy cy : Nat) (w : World) :
    Calls Tryz.prog 54 #[.slice none 0 0, .slice (some ⟨dy, 0, none⟩) 1 cy] w fun e w' => e = .returned (.int .i64 (-1)) ∧ w = w' := by
  go_enter Tryz.func54, Tryz.ntmps54
  go_wp2
  go_ret
  exact ⟨rfl, rfl⟩
theorem natcmp_gt (a b : Nat) (h : b < a) (dx cx dy cy : Nat) (w : World) (hxd : w.cell? ⟨dx, 0, none⟩ = some (.int .u64 a)) (hyd : w.cell? ⟨dy, 0, none⟩ = some (.int .u64 b)) :
    Calls Tryz.prog 54 #[.slice (some ⟨dx, 0, none⟩) 1 cx, .slice (some ⟨dy, 0, none⟩) 1 cy] w fun e w' => e = .returned (.int .i64 1) ∧ ∃ n, w' = w.drewN n := by
  have c := natcmp_11 a b dx cx dy cy w hxd hyd
  rw [if_neg (by omega), if_pos h] at c
  exact c

theorem natcmp_lt (a b : Nat) (h : a < b) (dx cx dy cy : Nat) (w : World) (hxd : w.cell? ⟨dx, 0, none⟩ = some (.int .u64 a)) (hyd : w.cell? ⟨dy, 0, none⟩ = some (.int .u64 b)) :
    Calls Tryz.prog 54 #[.slice (some ⟨dx, 0, none⟩) 1 cx, .slice (some ⟨dy, 0, none⟩) 1 cy] w fun e w' => e = .returned (.int .i64 (-1)) ∧ ∃ n, w' = w.drewN n := by
  have c := natcmp_11 a b dx cx dy cy w hxd hyd
  rw [if_pos h] at c
  exact c

theorem natcmp_eq (a : Nat) (dx cx dy cy : Nat) (w : World) (hxd : w.cell? ⟨dx, 0, none⟩ = some (.int .u64 a)) (hyd : w.cell? ⟨dy, 0, none⟩ = some (.int .u64 a)) :
    Calls Tryz.prog 54 #[.slice (some ⟨dx, 0, none⟩) 1 cx, .slice (some ⟨dy, 0, none⟩) 1 cy] w fun e w' => e = .returned (.int .i64 0) ∧ ∃ n, w' = w.drewN n := by
  have c := natcmp_11 a a dx cx dy cy w hxd hyd
  rw [if_neg (by omega), if_neg (by omega)] at c
  exact c

/-- A quiet region behind a quiet region. -/
theorem quiet_add {P : Program} {f : FuncId} {args : Array Value} {w : World} {a n : Nat} {v : Value}
    (h : Calls P f args (w.drewN (a + n)) fun e w' => e = .returned v ∧ ∃ m, w' = (w.drewN (a + n)).drewN m) :
    Calls P f args (w.drewN (a + n)) fun e w'' => e = .returned v ∧ ∃ m, w'' = w.drewN (a + m) :=
  h.mono fun _ _ ⟨he, m, hm⟩ => ⟨he, n + m, by rw [hm, World.drewN_drewN, Nat.add_assoc]⟩

end Go.Proofs.YtkokikfooooiiaaGreatDoor
