import Derived.Test.YtkokikfooooiiaaGreatDoorP2
import Derived.Deep.LoopGhost
namespace Go.Proofs.YtkokikfooooiiaaGreatDoor
open Go.RowKit Go.Lib

/-- What the counting loop holds: the digits from st on, read as far as j. -/
def Run (l : List UInt8) (st g j val : Nat) : Prop := st ≤ j ∧ j ≤ l.length ∧ g + j = 17 + st ∧ val < 10 ^ (17 - g) ∧ (Str.scan 17 0 (l.drop st)).1 = (Str.scan g val (l.drop j)).1 ∧ (Str.scan 17 0 (l.drop st)).2 = (Str.scan g val (l.drop j)).2 + (j - st)

theorem Run.start (l : List UInt8) (st : Nat) (h : st ≤ l.length) : Run l st 17 st 0 := ⟨Nat.le_refl _, h, rfl, by simp, rfl, by simp⟩

theorem Run.stop {l : List UInt8} {st g j val : Nat} (h : Run l st g j val) (hs : j = l.length ∨ g = 0 ∨ ∃ c, l[j]? = some c ∧ ¬ (48 ≤ c.toNat ∧ c.toNat ≤ 57)) : Str.scan 17 0 (l.drop st) = (val, j - st) := by
  obtain ⟨h1, h2, h3, h4, h5, h6⟩ := h
  have e : Str.scan g val (l.drop j) = (val, 0) := by
    rcases hs with hs | hs | ⟨c, hc, hn⟩
    · subst hs
      rw [List.drop_length]
      cases g <;> rfl
    · subst hs; rfl
    · have hj : j < l.length := (List.getElem?_eq_some_iff.1 hc).1
      rw [List.drop_eq_getElem_cons hj]
      have : l[j] = c := (List.getElem?_eq_some_iff.1 hc).2
      cases g with
      | zero => rfl
      | succ g => rw [this, Str.scan, if_neg hn]
  rw [e] at h5 h6
  exact Prod.ext h5 (by rw [h6]; simp)

theorem Run.next {l : List UInt8} {st g j val : Nat} (h : Run l st (g + 1) j val) (c : UInt8) (hc : l[j]? = some c) (hn : 48 ≤ c.toNat ∧ c.toNat ≤ 57) : Run l st g (j + 1) (val * 10 + (c.toNat - 48)) := by
  obtain ⟨h1, h2, h3, h4, h5, h6⟩ := h
  have hj : j < l.length := (List.getElem?_eq_some_iff.1 hc).1
  have e : l[j] = c := (List.getElem?_eq_some_iff.1 hc).2
  rw [List.drop_eq_getElem_cons hj, e, Str.scan, if_pos hn] at h5 h6
  refine ⟨by omega, by omega, by omega, ?_, h5, ?_⟩
  · have : 17 - g = 17 - (g + 1) + 1 := by omega
    rw [this, Nat.pow_succ]
    omega
  · rw [h6]; omega

theorem Run.small {l : List UInt8} {st g j val : Nat} (h : Run l st (g + 1) j val) : val < 10000000000000000 := by
  have h4 := h.2.2.2.1
  have : 10 ^ (17 - (g + 1)) ≤ 10 ^ 16 := Nat.pow_le_pow_right (by omega) (by omega)
  omega

theorem wrap_digit (val b : Nat) (h : val < 10000000000000000) (h1 : 48 ≤ b) (h2 : b ≤ 57) : wrap64 (wrap64 ((val : Int) * 10) + ((b : Int) - 48)) = ((val * 10 + (b - 48) : Nat) : Int) := by
  unfold wrap64
  omega
theorem Run.bound {l : List UInt8} {st g j val : Nat} (h : Run l st g j val) : val < 100000000000000000 := by
  have h4 := h.2.2.2.1
  have : 10 ^ (17 - g) ≤ 10 ^ 17 := Nat.pow_le_pow_right (by omega) (by omega)
  omega
theorem wrap_minus (v : Nat) (h : v < 100000000000000000) : wrap64 (-(v : Int)) = -(v : Int) := by
  unfold wrap64
  omega
theorem at_start (n : Nat) : (((n + 1 : Nat) : Int) == 1) = decide (n = 0) := by
  by_cases h : n = 0
  · subst h; rfl
  · simp [h]; omega
end Go.Proofs.YtkokikfooooiiaaGreatDoor
