import Derived.Test.YtkokikfooooiiaaGreatDoorG3
import Derived.Test.YtkokikfooooiiaaGreatDoorG4
namespace Go.Proofs.YtkokikfooooiiaaGreatDoor
open Go.RowKit Go.Lib

/-- The reference's numeral. -/
theorem numeral_any (l : List UInt8) (hl : l.length < 4294967281) (w : World) :
    Calls Tryz.prog 20 #[.string ⟨l.toArray⟩] w fun e w' => e = .returned (.tuple #[.int .i64 (Str.numeral l).1, .int .i64 (Str.numeral l).2]) ∧ w' = w := by
  cases l with
  | nil => exact numeral_nil w
  | cons c r =>
    by_cases h45 : c = 45
    · have hc : c.toNat = 45 := by rw [h45]; rfl
      refine numeral_minus c r hc hl w (Str.scan 17 0 r).1 (Str.scan 17 0 r).2 rfl _ ?_ _ ?_
      · simp only [Str.numeral, h45, true_or, if_true]
        split <;> rfl
      · simp only [Str.numeral, h45, true_or, if_true]
        split <;> simp
    · by_cases h43 : c = 43
      · have hc : c.toNat = 43 := by rw [h43]; rfl
        refine numeral_plus c r hc hl w (Str.scan 17 0 r).1 (Str.scan 17 0 r).2 rfl _ ?_ _ ?_
        · rw [h43]
          by_cases hz : (Str.scan 17 0 r).2 = 0 <;> simp [Str.numeral, hz]
        · rw [h43]
          by_cases hz : (Str.scan 17 0 r).2 = 0 <;> simp [Str.numeral, hz]
      · have h1 : c.toNat ≠ 45 := fun e => h45 (UInt8.toNat_inj.1 e)
        have h2 : c.toNat ≠ 43 := fun e => h43 (UInt8.toNat_inj.1 e)
        have hn : Str.numeral (c :: r) = (if (Str.scan 17 0 (c :: r)).2 = 0 then (0, 0) else (((Str.scan 17 0 (c :: r)).1 : Int), (Str.scan 17 0 (c :: r)).2)) := by
          simp only [Str.numeral, h45, h43, or_self, if_false]
        have e2 : ((Str.numeral (c :: r)).2 : Nat) = (Str.scan 17 0 (c :: r)).2 := by
          rw [hn]; split
          · rename_i h; exact h.symm
          · rfl
        rw [e2]
        refine numeral_plain c r h1 h2 hl w (Str.scan 17 0 (c :: r)).1 (Str.scan 17 0 (c :: r)).2 rfl _ ?_
        rw [hn]; split <;> rfl
end Go.Proofs.YtkokikfooooiiaaGreatDoor
