import Derived.Test.YtkokikfooooiiaaGreatDoorBase2
import Derived.Test.YtkokikfooooiiaaGreatDoorStr
import Derived.Laws.IdiomStrings
import Derived.Deep.RegionHeld3
import Derived.Deep.QuietTactic
import Derived.BigQuiet
namespace Go.Proofs.YtkokikfooooiiaaGreatDoor
open Go.RowKit Go.Lib
theorem conv1 (u : Nat) (h : u < 10) (w : World) : (convert 78 9 (.slice (some ⟨w.heap.size, 0, none⟩) 1 1)).run Tryz.prog (w.alloc (.cells #[.int .u8 (48 + (u : Int))] 5)) = .ok (.string ⟨#[UInt8.ofNat (48 + u)]⟩) (w.alloc (.cells #[.int .u8 (48 + (u : Int))] 5)) := by
  refine run_convert_bytes_back (w.alloc (.cells #[.int .u8 (48 + (u : Int))] 5)) 78 9 5 ⟨w.heap.size, 0, none⟩ 1 [UInt8.ofNat (48 + u)] Tryz.underlying78 Tryz.underlying5 Tryz.underlying9 ?_
  intro j hj
  have hj0 : j = 0 := by simpa using hj
  subst hj0
  have hc := cell_at (heap_new w (.cells #[.int .u8 (48 + (u : Int))] 5)) 0
  show (w.alloc (.cells #[.int .u8 (48 + (u : Int))] 5)).cell? ⟨w.heap.size, 0, none⟩ = _
  rw [hc]
  have := Str.dig_toNat u h
  simp only [List.getElem_cons_zero, this]
  simp
set_option maxRecDepth 100000 in
set_option maxHeartbeats 4000000 in
theorem decimal_nn : ∀ (u : Nat), u < 10000000000000000 → ∀ w : World, Calls Tryz.prog 17 #[.int .i64 u] w fun e w' => e = .returned (.string ⟨(decDigits u).toArray⟩) ∧ Chg [] w w' := by
  intro u
  induction u using Nat.strongRecOn with
  | _ u ih =>
    intro hu w
    have e0 : decide ((u : Int) < 0) = false := by simp
    by_cases h : u < 10
    · rw [Str.decDigits_small h]
      have e1 : decide ((u : Int) < 10) = true := by simp; omega
      clear ih
      have cv := conv1 u h w
      go_enter Tryz.func17, Tryz.ntmps17
      go_wp2
      go_ret
      refine ⟨?_, (Chg.refl _ _).alloc _⟩
      rw [show UInt8.ofNat (48 + u) = 48 + UInt8.ofNat u by simp]
      rfl
    · rw [Str.decDigits_big h]
      have e1 : decide ((u : Int) < 10) = false := by simp; omega
      have hL : ¬ 9223372036854775807 < (decDigits (u / 10)).length + (decDigits (u % 10)).length := by
        have := Str.len_le (u / 10) (by omega)
        have := Str.len_le (u % 10) (by omega)
        omega
      have a := ih (u / 10) (by omega) (by omega)
      have b := ih (u % 10) (by omega) (by omega)
      rw [show ((u / 10 : Nat) : Int) = (u : Int) / 10 by omega] at a
      rw [show ((u % 10 : Nat) : Int) = (u : Int) % 10 by omega] at b
      have A := Lib.hid a
      have B := Lib.hid b
      clear a b
      clear ih
      go_enter Tryz.func17, Tryz.ntmps17
      go_wp2_with (fail)
      go_at_call 17
      refine (A.out _).mono ?_
      rintro e w1 ⟨rfl, C1⟩
      go_wp2_with (fail)
      go_at_call 17
      refine (B.out _).mono ?_
      rintro e w2 ⟨rfl, C2⟩
      go_wp2
      go_ret
      refine ⟨?_, C1.trans C2 (by simp)⟩
      rw [Str.decDigits_small (show u % 10 < 10 by omega)]
      congr 2

set_option maxRecDepth 100000 in
set_option maxHeartbeats 4000000 in
/-- The reference's decimal: the number's text. -/
theorem decimal_any (n : Int) (h : n.natAbs < 10000000000000000) (w : World) : Calls Tryz.prog 17 #[.int .i64 n] w fun e w' => e = .returned (.string ⟨(itoa n).toArray⟩) ∧ Chg [] w w' := by
  by_cases h0 : n < 0
  · rw [Str.itoa_neg h0]
    have e0 : decide (n < 0) = true := by simpa using h0
    have hL : ¬ 9223372036854775807 < 1 + (decDigits n.natAbs).length := by
      have := Str.len_le n.natAbs (by omega)
      omega
    have a := decimal_nn n.natAbs h
    rw [show ((n.natAbs : Nat) : Int) = -n by omega] at a
    have A := Lib.hid a
    clear a
    have ew : IntKind.i64.wrap (-n) = -n := by rw [IntKind.wrap_i64]; omega
    go_enter Tryz.func17, Tryz.ntmps17
    go_wp2_with (fail)
    go_at_call 17
    refine (A.out _).mono ?_
    rintro e w1 ⟨rfl, C1⟩
    go_wp2
    go_ret
    refine ⟨?_, C1⟩
    congr 2
  · rw [Str.itoa_pos (by omega)]
    have a := decimal_nn n.natAbs h w
    rwa [show ((n.natAbs : Nat) : Int) = n by omega] at a
end Go.Proofs.YtkokikfooooiiaaGreatDoor
