import Derived.Test.YtkokikfooooiiaaGreatDoorStr3
namespace Go.Proofs.YtkokikfooooiiaaGreatDoor
open Go.Lib

theorem scan_len : ∀ (k v : Nat) (l : List UInt8), (Str.scan k v l).2 ≤ l.length
  | 0, v, l => Nat.zero_le _
  | k + 1, v, [] => Nat.zero_le _
  | k + 1, v, c :: r => by
    simp only [Str.scan]
    split
    · have := scan_len k (v * 10 + (c.toNat - 48)) r
      simp only [List.length_cons]; omega
    · exact Nat.zero_le _

theorem scan_lt : ∀ (k v : Nat) (l : List UInt8), (Str.scan k v l).1 < (v + 1) * 10 ^ k
  | 0, v, l => by simp [Str.scan]
  | k + 1, v, [] => by
    simp only [Str.scan]
    have h : 0 < 10 ^ (k + 1) := Nat.pow_pos (by omega)
    have := Nat.le_mul_of_pos_right (v + 1) h
    omega
  | k + 1, v, c :: r => by
    simp only [Str.scan]
    split
    · rename_i h
      have := scan_lt k (v * 10 + (c.toNat - 48)) r
      have h2 : (v * 10 + (c.toNat - 48) + 1) * 10 ^ k ≤ ((v + 1) * 10) * 10 ^ k := Nat.mul_le_mul_right _ (by omega)
      rw [Nat.pow_succ, Nat.mul_comm (10 ^ k) 10, ← Nat.mul_assoc]
      omega
    · have h : 0 < 10 ^ (k + 1) := Nat.pow_pos (by omega)
      have := Nat.le_mul_of_pos_right (v + 1) h
      show v < _
      omega

theorem scan_17 (l : List UInt8) : (Str.scan 17 0 l).1 < 100000000000000000 := by
  have := scan_lt 17 0 l
  simpa using this

theorem numeral_len (l : List UInt8) : (Str.numeral l).2 ≤ l.length := by
  unfold Str.numeral
  cases l with
  | nil => exact Nat.le_refl _
  | cons c r =>
    have h1 := scan_len 17 0 r
    have h2 := scan_len 17 0 (c :: r)
    simp only [List.length_cons] at h2 ⊢
    split
    · split
      · exact Nat.zero_le _
      · show 1 + _ ≤ _; omega
    · split
      · exact Nat.zero_le _
      · exact h2

theorem numeral_abs (l : List UInt8) : -100000000000000000 < (Str.numeral l).1 ∧ (Str.numeral l).1 < 100000000000000000 := by
  unfold Str.numeral
  cases l with
  | nil => simp
  | cons c r =>
    have h1 := scan_17 r
    have h2 := scan_17 (c :: r)
    by_cases hc : c = 45 ∨ c = 43
    · by_cases hz : (Str.scan 17 0 r).2 = 0
      · simp [hc, hz]
      · by_cases h5 : c = 45
        · subst h5; simp [hz]; omega
        · have h3 := hc.resolve_left h5
          subst h3; simp [hz]; omega
    · by_cases hz : (Str.scan 17 0 (c :: r)).2 = 0
      · simp [hc, hz]
      · simp [hc, hz]; omega

theorem second_nil (v : Int) : Str.second [] v = (v, 0, []) := by simp [Str.second, Str.numeral]
theorem second_r (r : List UInt8) (v : Int) : Str.second (114 :: r) v = (0, v, r) := by simp [Str.second]
theorem second_hit (c : UInt8) (r : List UInt8) (v w : Int) (m : Nat) (hc : c ≠ 114) (hn : Str.numeral (c :: r) = (w, m)) (h0 : 0 < m) (h1 : m < (c :: r).length) (h2 : (c :: r)[m]? = some 114) : Str.second (c :: r) v = (v, w, (c :: r).drop (m + 1)) := by
  unfold Str.second
  rw [if_neg (by simpa using hc), hn, if_pos ⟨h0, h1, h2⟩]
theorem second_miss (c : UInt8) (r : List UInt8) (v w : Int) (m : Nat) (hc : c ≠ 114) (hn : Str.numeral (c :: r) = (w, m)) (h : ¬ (0 < m ∧ m < (c :: r).length ∧ (c :: r)[m]? = some 114)) : Str.second (c :: r) v = (v, 0, c :: r) := by
  unfold Str.second
  rw [if_neg (by simpa using hc), hn, if_neg h]
theorem second_len (X : List UInt8) (v : Int) : (Str.second X v).2.2.length ≤ X.length := by
  unfold Str.second
  split
  · simp
  · split
    · simp
    · exact Nat.le_refl _
end Go.Proofs.YtkokikfooooiiaaGreatDoor
