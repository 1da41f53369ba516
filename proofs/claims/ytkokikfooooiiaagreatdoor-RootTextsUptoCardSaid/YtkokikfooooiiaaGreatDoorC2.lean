import Derived.Test.YtkokikfooooiiaaGreatDoorBase
import Derived.Deep.RegionHeld3
import Derived.Deep.RegionLaw
import Derived.Deep.QuietTactic
import Derived.BigQuiet
import Derived.StillTailTactics
namespace Go.Proofs.YtkokikfooooiiaaGreatDoor
open Go.RowKit
/-- The chapter's Check, as a number. -/
def chk (p q k : Int) : Int := if -9007199254740991 ≤ p ∧ p ≤ 9007199254740991 ∧ -9007199254740991 ≤ q ∧ q ≤ 9007199254740991 ∧ 0 ≤ k ∧ k ≤ 60 ∧ (k = 0 ∨ p.tmod 2 ≠ 0 ∨ q.tmod 2 ≠ 0) then 0 else 2

theorem chk_ok {p q k : Int} (h : -9007199254740991 ≤ p ∧ p ≤ 9007199254740991 ∧ -9007199254740991 ≤ q ∧ q ≤ 9007199254740991 ∧ 0 ≤ k ∧ k ≤ 60 ∧ (k = 0 ∨ p.tmod 2 ≠ 0 ∨ q.tmod 2 ≠ 0)) : chk p q k = 0 := if_pos h
theorem chk_bad {p q k : Int} (h : ¬ (-9007199254740991 ≤ p ∧ p ≤ 9007199254740991 ∧ -9007199254740991 ≤ q ∧ q ≤ 9007199254740991 ∧ 0 ≤ k ∧ k ≤ 60 ∧ (k = 0 ∨ p.tmod 2 ≠ 0 ∨ q.tmod 2 ≠ 0))) : chk p q k = 2 := if_neg h

set_option maxRecDepth 100000 in
set_option maxHeartbeats 4000000 in
theorem check_any (p q k : Int) (hp : -9223372036854775808 ≤ p) (hp' : p ≤ 9223372036854775807) (hq : -9223372036854775808 ≤ q) (hq' : q ≤ 9223372036854775807) (w : World) :
    Calls Tryz.prog 15 #[.agg #[.int .i64 p, .int .i64 q, .int .i64 k]] w fun e w' => e = .returned (.int .i64 (chk p q k)) ∧ Chg [] w w' := by
  go_enter Tryz.func15, Tryz.ntmps15
  go_wp2
  all_goals
    go_ret
    refine ⟨?_, by repeat (first | exact Chg.refl _ _ | refine Chg.drew ?_ | refine Chg.alloc ?_ _)⟩
    first
      | (rw [chk_ok (by (try simp only [beq_iff_eq, beq_eq_false_iff_ne, ne_eq] at *); (try unfold wrap64 at *); omega)]; rfl)
      | (rw [chk_bad (by (try simp only [beq_iff_eq, beq_eq_false_iff_ne, ne_eq] at *); (try unfold wrap64 at *); omega)]; rfl)
      | (exfalso; (try simp only [beq_iff_eq, beq_eq_false_iff_ne, ne_eq] at *); (try unfold wrap64 at *); omega)
end Go.Proofs.YtkokikfooooiiaaGreatDoor
namespace Go.Proofs.YtkokikfooooiiaaGreatDoor
open Go.RowKit
set_option maxRecDepth 100000 in
set_option maxHeartbeats 4000000 in
theorem refcheck_any (p q k : Int) (w : World) :
    Calls Tryz.prog 14 #[.agg #[.int .i64 p, .int .i64 q, .int .i64 k]] w fun e w' => e = .returned (.int .i64 (chk p q k)) ∧ Chg [] w w' := by
  go_enter Tryz.func14, Tryz.ntmps14
  go_wp2
  all_goals
    go_ret
    refine ⟨?_, by repeat (first | exact Chg.refl _ _ | refine Chg.drew ?_ | refine Chg.alloc ?_ _)⟩
    first
      | (rw [chk_ok (by (try simp only [beq_iff_eq, beq_eq_false_iff_ne, ne_eq] at *); (try unfold wrap64 at *); omega)]; rfl)
      | (rw [chk_bad (by (try simp only [beq_iff_eq, ne_eq] at *); (try unfold wrap64 at *); omega)]; rfl)
      | (exfalso; (try simp only [beq_iff_eq, beq_eq_false_iff_ne, ne_eq] at *); (try unfold wrap64 at *); omega)
end Go.Proofs.YtkokikfooooiiaaGreatDoor
