/- Floats of whole numbers: what the arithmetic of IEEE 754 gives of words that stand for whole numbers. -/
import Derived.Laws.FloatArith
namespace Go.Proofs.YtkokikfooooiiaaGreatDoor.Flo
open Ieee

abbrev D : Format := Ieee.double

/-- n over 2^d, to the nearest, ties to even. -/
def rhe (n d : Nat) : Nat := n / 2 ^ d + (2 ^ d < 2 * (n % 2 ^ d) || (2 ^ d == 2 * (n % 2 ^ d) && n / 2 ^ d % 2 == 1)).toNat

theorem cut_even (neg : Bool) (n d : Nat) : Toward.even.cut neg n d = rhe n d := by
  unfold Toward.cut rhe
  simp only [Nat.one_shiftLeft]
  by_cases h : d ≤ n.log2 + 2
  · rw [Nat.min_eq_left h]
  · have h' : n.log2 + 2 < d := by omega
    rw [Nat.min_eq_right (by omega)]
    have hn : n < 2 ^ (n.log2 + 1) := Nat.lt_log2_self
    have e1 : (2:Nat) ^ (n.log2 + 2) = 2 * 2 ^ (n.log2 + 1) := by rw [Nat.pow_succ]; omega
    have e2 : 2 ^ (n.log2 + 2) ≤ 2 ^ d := Nat.pow_le_pow_right (by omega) (by omega)
    rw [Nat.div_eq_of_lt (show n < 2 ^ (n.log2 + 2) by omega), Nat.mod_eq_of_lt (show n < 2 ^ (n.log2 + 2) by omega), Nat.div_eq_of_lt (show n < 2 ^ d by omega), Nat.mod_eq_of_lt (show n < 2 ^ d by omega)]
    have f1 : decide (2 ^ (n.log2 + 2) < 2 * n) = false := by simp; omega
    have f2 : decide (2 ^ d < 2 * n) = false := by simp; omega
    rw [f1, f2]; simp

theorem rhe_scale (n d s : Nat) : rhe (n * 2 ^ s) (d + s) = rhe n d := by
  unfold rhe
  have hs : 0 < 2 ^ s := Nat.two_pow_pos _
  rw [Nat.pow_add, Nat.mul_div_mul_right _ _ hs, Nat.mul_mod_mul_right]
  have e1 : (2 ^ d * 2 ^ s < 2 * (n % 2 ^ d * 2 ^ s)) ↔ (2 ^ d < 2 * (n % 2 ^ d)) := by
    rw [← Nat.mul_assoc]; exact Nat.mul_lt_mul_right hs
  have e2 : (2 ^ d * 2 ^ s = 2 * (n % 2 ^ d * 2 ^ s)) ↔ (2 ^ d = 2 * (n % 2 ^ d)) := by
    rw [← Nat.mul_assoc]; exact Nat.mul_left_inj (by omega)
  have e2' : (2 ^ d * 2 ^ s == 2 * (n % 2 ^ d * 2 ^ s)) = (2 ^ d == 2 * (n % 2 ^ d)) := by
    rw [Bool.eq_iff_iff]; simp only [beq_iff_eq]; exact e2
  simp only [e1, e2']

theorem rhe_zero (n : Nat) : rhe n 0 = n := by
  unfold rhe; simp; omega

theorem rhe_exact (n s : Nat) : rhe (n * 2 ^ s) s = n := by
  have := rhe_scale n 0 s
  rw [Nat.zero_add] at this; rw [this, rhe_zero]

theorem log2_scale (k s : Nat) (hk : k ≠ 0) : (k * 2 ^ s).log2 = k.log2 + s := by
  rw [Nat.log2_eq_iff (by have := Nat.two_pow_pos s; exact Nat.mul_ne_zero hk (by omega))]
  have h1 := Nat.log2_self_le hk
  have h2 : k < 2 ^ (k.log2 + 1) := Nat.lt_log2_self
  have hs : 0 < 2 ^ s := Nat.two_pow_pos _
  constructor
  · rw [Nat.pow_add]; exact Nat.mul_le_mul_right _ h1
  · rw [show k.log2 + s + 1 = (k.log2 + 1) + s by omega, Nat.pow_add]; exact Nat.mul_lt_mul_of_pos_right h2 hs

/-- Scaling the magnitude and the place leaves the nearest word as it is. -/
theorem nearest_scale (neg : Bool) (k s : Nat) (hk : k ≠ 0) (p : Int) : D.nearest neg (k * 2 ^ s) (p - s) = D.nearest neg k p := by
  unfold Format.nearest
  have hs : 0 < 2 ^ s := Nat.two_pow_pos _
  rw [if_neg (Nat.mul_ne_zero hk (by omega)), if_neg hk]
  simp only [log2_scale k s hk, cut_even]
  have el : p - (s : Int) + ((k.log2 + s : Nat) : Int) - (D.fractionBits : Int) = p + (k.log2 : Int) - (D.fractionBits : Int) := by push_cast; omega
  rw [el]
  generalize max (p + (k.log2 : Int) - (D.fractionBits : Int)) D.leastPlace = last
  congr 3
  by_cases h1 : last ≤ p - s
  · rw [show (last - (p - (s:Int))).toNat = 0 by omega, show (last - p).toNat = 0 by omega, rhe_zero, rhe_zero]
    simp only [Nat.shiftLeft_eq]
    rw [Nat.mul_assoc, ← Nat.pow_add, show s + (p - (s:Int) - last).toNat = (p - last).toNat by omega]
  · by_cases h2 : last ≤ p
    · rw [show (p - (s:Int) - last).toNat = 0 by omega, show (last - p).toNat = 0 by omega, rhe_zero]
      simp only [Nat.shiftLeft_eq, Nat.pow_zero, Nat.mul_one]
      obtain ⟨d, hd⟩ : ∃ d : Nat, last - (p - (s:Int)) = d := ⟨(last - (p - (s:Int))).toNat, by omega⟩
      obtain ⟨e, he⟩ : ∃ e : Nat, p - last = e := ⟨(p - last).toNat, by omega⟩
      rw [hd, he]; simp only [Int.toNat_natCast]
      have hse : s = e + d := by omega
      rw [hse, Nat.pow_add, ← Nat.mul_assoc, rhe_exact]
    · rw [show (p - (s:Int) - last).toNat = 0 by omega, show (p - last).toNat = 0 by omega]
      simp only [Nat.shiftLeft_eq, Nat.pow_zero, Nat.mul_one]
      rw [show (last - (p - (s:Int))).toNat = (last - p).toNat + s by omega, rhe_scale]

/-- The word of a whole number (rounded, if it is great). -/
def fl (n : Int) : Nat := FloatKind.f64.nearest n

theorem fl_eq (n : Int) : fl n = D.nearest (n < 0) n.natAbs 0 := rfl

/-- The word of -0. -/
def nz : Nat := 2 ^ 63

/-- x stands for the whole number n; a nought may bear a sign. -/
def Rep (x : Nat) (n : Int) : Prop := x = fl n ∨ (n = 0 ∧ x = nz)

def maxPart : Int := 9007199254740991

theorem fl_zero : fl 0 = 0 := by decide

theorem rep_fl (n : Int) : Rep (fl n) n := .inl rfl

theorem D_frac : D.fractionBits = 52 := rfl
theorem D_least : D.leastPlace = -1074 := by decide
theorem D_binade : D.binade = 4503599627370496 := by decide
theorem D_sign : D.signWeight = 9223372036854775808 := by decide
theorem D_inf : D.infRung = 9218868437227405312 := by decide
theorem D_width : D.width = 64 := by decide

/-- How a word reads that is not too great: sign, magnitude, place. -/
theorem read_word (neg : Bool) (r : Nat) (h : r < D.infRung) : D.read (D.word neg r) = if r < D.binade then .number neg r D.leastPlace else .number neg (D.binade + r % D.binade) (D.leastPlace + (r / D.binade - 1 : Nat)) := by
  unfold Format.read Format.word
  rw [D_sign] at *; rw [D_inf] at *; rw [D_binade]
  cases neg
  · simp only [Bool.false_eq_true, if_false]
    rw [Nat.div_eq_of_lt (by omega), Nat.mod_eq_of_lt (by omega)]
    split
    · rfl
    · first | rfl | (rw [if_pos h]; rfl)
  · simp only [if_true]
    rw [show (9223372036854775808 + r) / 9223372036854775808 = 1 by omega, show (9223372036854775808 + r) % 9223372036854775808 = r by omega]
    split
    · rfl
    · first | rfl | (rw [if_pos h]; rfl)

theorem rhe_le (n d : Nat) : n / 2 ^ d ≤ rhe n d ∧ rhe n d ≤ n / 2 ^ d + 1 := by
  unfold rhe
  constructor
  · omega
  · have : ∀ b : Bool, b.toNat ≤ 1 := by decide
    have := this (2 ^ d < 2 * (n % 2 ^ d) || (2 ^ d == 2 * (n % 2 ^ d) && n / 2 ^ d % 2 == 1))
    omega

theorem natAbs_lt_log2 {k b : Nat} (h : k < 2 ^ b) (hb : b ≠ 0) : k.log2 < b := by
  by_cases hk : k = 0
  · subst hk; simp; omega
  · exact (Nat.log2_lt hk).2 h

/-- The word of a whole number within 53 bits reads as it, exactly. -/
theorem read_nearest (neg : Bool) (k : Nat) (hk : k ≠ 0) (h : k < 2 ^ 53) : D.read (D.nearest neg k 0) = .number neg (k * 2 ^ (52 - k.log2)) (-((52 - k.log2 : Nat) : Int)) := by
  have hl : k.log2 < 53 := natAbs_lt_log2 h (by omega)
  have h1 := Nat.log2_self_le hk
  have h2 : k < 2 ^ (k.log2 + 1) := Nat.lt_log2_self
  unfold Format.nearest
  rw [if_neg hk]
  simp only [cut_even, D_frac, D_least]
  rw [show max ((0:Int) + (k.log2 : Int) - ((52 : Nat) : Int)) (-1074) = (k.log2 : Int) - 52 by omega]
  rw [show ((k.log2 : Int) - 52 - 0).toNat = 0 by omega, rhe_zero, Nat.shiftLeft_eq, show ((0:Int) - ((k.log2 : Int) - 52)).toNat = 52 - k.log2 by omega]
  generalize hm : k * 2 ^ (52 - k.log2) = m at *
  have b1 : 4503599627370496 ≤ m := by
    rw [← hm]
    calc 4503599627370496 = 2 ^ k.log2 * 2 ^ (52 - k.log2) := by rw [← Nat.pow_add, show k.log2 + (52 - k.log2) = 52 by omega]
      _ ≤ _ := Nat.mul_le_mul_right _ h1
  have b2 : m < 9007199254740992 := by
    rw [← hm]
    calc k * 2 ^ (52 - k.log2) < 2 ^ (k.log2 + 1) * 2 ^ (52 - k.log2) := Nat.mul_lt_mul_of_pos_right h2 (Nat.two_pow_pos _)
      _ = 9007199254740992 := by rw [← Nat.pow_add, show k.log2 + 1 + (52 - k.log2) = 53 by omega]
  have hr : ((k.log2 : Int) - 52 - (-1074)).toNat = k.log2 + 1022 := by omega
  rw [hr, D_binade, D_inf]
  have hr2 : (k.log2 + 1022) * 4503599627370496 + m < 9218868437227405312 := by omega
  rw [Nat.min_eq_left (by omega), read_word neg _ (by rw [D_inf]; exact hr2), D_binade, D_least, if_neg (by omega)]
  have e1 : ((k.log2 + 1022) * 4503599627370496 + m) / 4503599627370496 = k.log2 + 1023 := by omega
  have e2 : ((k.log2 + 1022) * 4503599627370496 + m) % 4503599627370496 = m - 4503599627370496 := by omega
  rw [e1, e2, show (4503599627370496 + (m - 4503599627370496) : Nat) = m by omega, show (-1074 : Int) + ((k.log2 + 1023 - 1 : Nat) : Int) = -((52 - k.log2 : Nat) : Int) by omega]

theorem read_zero : D.read 0 = .number false 0 (-1074) := by decide
theorem read_nz : D.read nz = .number true 0 (-1074) := by decide

theorem rep_read {x : Nat} {n : Int} (h : Rep x n) (hn : n.natAbs < 2 ^ 53) : ∃ (neg : Bool) (s : Nat), D.read x = .number neg (n.natAbs * 2 ^ s) (-(s : Int)) ∧ (if neg then -(n.natAbs : Int) else n.natAbs) = n := by
  rcases h with rfl | ⟨rfl, rfl⟩
  · by_cases hz : n = 0
    · subst hz
      have e : ∀ s : Nat, (0 : Int).natAbs * 2 ^ s = 0 := fun s => by simp
      refine ⟨false, 1074, ?_, by simp⟩
      rw [e 1074, fl_zero, read_zero]
      rfl
    · refine ⟨decide (n < 0), 52 - n.natAbs.log2, ?_, ?_⟩
      · rw [fl_eq, read_nearest _ _ (by omega) hn]
      · by_cases hneg : n < 0
        · simp [hneg]; omega
        · simp [hneg]; omega
  · have e : ∀ s : Nat, (0 : Int).natAbs * 2 ^ s = 0 := fun s => by simp
    refine ⟨true, 1074, ?_, by simp⟩
    rw [e 1074, read_nz]
    rfl

end Go.Proofs.YtkokikfooooiiaaGreatDoor.Flo
