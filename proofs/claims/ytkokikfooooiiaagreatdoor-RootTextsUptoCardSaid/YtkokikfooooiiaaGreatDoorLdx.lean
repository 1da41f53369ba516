/- The three steps of root.Float over words: the sum has an exponent that is far from both ends, so that to divide by a power of 2 moves the exponent alone. -/
import Derived.Test.YtkokikfooooiiaaGreatDoorFlo
namespace Go.Proofs.YtkokikfooooiiaaGreatDoor.Flo
open Ieee

theorem p52 : (4503599627370496 : Nat) = 2 ^ 52 := by decide
theorem p53 : (9007199254740992 : Nat) = 2 ^ 53 := by decide

/-- A normal word out of its significand and place. -/
theorem nearest_norm (neg : Bool) (m : Nat) (p : Int) (h1 : 4503599627370496 ≤ m) (h2 : m < 9007199254740992) (hp : -1074 ≤ p) (hq : p ≤ 970) :
    D.nearest neg m p = D.word neg ((p + 1074).toNat * 4503599627370496 + m) := by
  have hm : m ≠ 0 := by omega
  have hl : m.log2 = 52 := by
    rw [Nat.log2_eq_iff hm]; exact ⟨h1, h2⟩
  unfold Format.nearest
  rw [if_neg hm]
  simp only [cut_even, D_frac, D_least, D_binade, D_inf, hl]
  rw [show max (p + ((52:Nat):Int) - ((52:Nat):Int)) (-1074) = p by omega]
  rw [show (p - p).toNat = 0 by omega, rhe_zero]
  simp only [Nat.shiftLeft_eq, Nat.pow_zero, Nat.mul_one]
  rw [show (p - -1074).toNat = (p + 1074).toNat by omega]
  rw [Nat.min_eq_left (by omega)]

theorem read_norm (neg : Bool) (r : Nat) (h1 : 4503599627370496 ≤ r) (h2 : r < 9218868437227405312) :
    D.read (D.word neg r) = .number neg (4503599627370496 + r % 4503599627370496) (-1074 + ((r / 4503599627370496 - 1 : Nat) : Int)) := by
  rw [read_word neg r (by rw [D_inf]; exact h2), D_binade, D_least, if_neg (by omega)]

/-- Where the nearest word of a number of more than 52 digits lies. -/
theorem nearest_form (neg : Bool) (n : Nat) (p : Int) (hn : n ≠ 0) (lo hi : Nat) (h1 : (lo : Int) ≤ p + n.log2 + 1023) (h2 : p + n.log2 + 1024 < hi) (hlo : 1 ≤ lo) (hhi : hi ≤ 2046) :
    ∃ r, D.nearest neg n p = D.word neg r ∧ lo * 4503599627370496 ≤ r ∧ r < hi * 4503599627370496 := by
  have g1 := Nat.log2_self_le hn
  have g2 : n < 2 ^ (n.log2 + 1) := Nat.lt_log2_self
  unfold Format.nearest
  rw [if_neg hn]
  simp only [cut_even, D_frac, D_least, D_binade, D_inf]
  rw [show max (p + (n.log2 : Int) - ((52:Nat):Int)) (-1074) = p + n.log2 - 52 by omega]
  generalize hk : rhe (n <<< (p - (p + (n.log2 : Int) - 52)).toNat) (p + (n.log2 : Int) - 52 - p).toNat = k
  have b : 4503599627370496 ≤ k ∧ k ≤ 9007199254740992 := by
    by_cases hs : n.log2 ≤ 52
    · rw [show (p + (n.log2 : Int) - 52 - p).toNat = 0 by omega, rhe_zero, Nat.shiftLeft_eq, show (p - (p + (n.log2 : Int) - 52)).toNat = 52 - n.log2 by omega] at hk
      rw [← hk]
      constructor
      · calc 4503599627370496 = 2 ^ n.log2 * 2 ^ (52 - n.log2) := by rw [← Nat.pow_add, show n.log2 + (52 - n.log2) = 52 by omega]
          _ ≤ _ := Nat.mul_le_mul_right _ g1
      · refine Nat.le_of_lt ?_
        calc n * 2 ^ (52 - n.log2) < 2 ^ (n.log2 + 1) * 2 ^ (52 - n.log2) := Nat.mul_lt_mul_of_pos_right g2 (Nat.two_pow_pos _)
          _ = 9007199254740992 := by rw [← Nat.pow_add, show n.log2 + 1 + (52 - n.log2) = 53 by omega]
    · rw [show (p - (p + (n.log2 : Int) - 52)).toNat = 0 by omega, show (p + (n.log2 : Int) - 52 - p).toNat = n.log2 - 52 by omega, Nat.shiftLeft_eq, Nat.pow_zero, Nat.mul_one] at hk
      have := rhe_le n (n.log2 - 52)
      rw [hk] at this
      have e1 : 4503599627370496 ≤ n / 2 ^ (n.log2 - 52) := by
        rw [Nat.le_div_iff_mul_le (Nat.two_pow_pos _)]
        rw [p52, ← Nat.pow_add, show 52 + (n.log2 - 52) = n.log2 by omega]; exact g1
      have e2 : n / 2 ^ (n.log2 - 52) < 9007199254740992 := by
        rw [Nat.div_lt_iff_lt_mul (Nat.two_pow_pos _)]
        rw [p53, ← Nat.pow_add, show 53 + (n.log2 - 52) = n.log2 + 1 by omega]; exact g2
      omega
  rw [show (p + (n.log2 : Int) - 52 - -1074).toNat = (p + n.log2 + 1022).toNat by omega]
  clear hk g1 g2
  obtain ⟨b1, b2⟩ := b
  obtain ⟨u, hu⟩ : ∃ u : Nat, (p + (n.log2 : Int) + 1022).toNat = u := ⟨_, rfl⟩
  rw [hu]
  have u1 : lo ≤ u + 1 := by omega
  have u2 : u + 2 < hi := by omega
  clear hu h1 h2
  refine ⟨_, rfl, ?_, ?_⟩
  · exact Nat.le_min.2 ⟨by omega, by omega⟩
  · exact Nat.lt_of_le_of_lt (Nat.min_le_left _ _) (by omega)

/-- The float64 that is nearest to the square root of 2. -/
def r2 : Nat := 4609047870845172685

/-- 'w is nought, or a normal word whose exponent lies in a range'. -/
def Mid (lo hi : Nat) (w : Nat) : Prop := w = 0 ∨ ∃ neg r, w = D.word neg r ∧ lo * 4503599627370496 ≤ r ∧ r < hi * 4503599627370496

theorem read_r2 : D.read r2 = .number false 6369051672525773 (-52) := by decide

theorem log2_bounds {n a b : Nat} (hn : n ≠ 0) (h1 : 2 ^ a ≤ n) (h2 : n < 2 ^ b) : a ≤ n.log2 ∧ n.log2 < b :=
  ⟨(Nat.le_log2 hn).2 h1, (Nat.log2_lt hn).2 h2⟩


theorem word_zero : D.word false 0 = 0 := rfl

theorem nearest_zero (p : Int) : D.nearest false 0 p = 0 := rfl

theorem fl_mid (n : Int) (h : n.natAbs < 2 ^ 53) : Mid 1023 1077 (fl n) := by
  by_cases hz : n = 0
  · subst hz; exact .inl fl_zero
  · have hz' : n.natAbs ≠ 0 := by omega
    have := natAbs_lt_log2 h (by omega)
    obtain ⟨r, hr, h1, h2⟩ := nearest_form (decide (n < 0)) n.natAbs 0 hz' 1023 1077 (by omega) (by omega) (by omega) (by omega)
    exact .inr ⟨_, r, by rw [fl_eq, hr], h1, h2⟩

theorem mul_r2 (q : Int) (hq : q.natAbs < 2 ^ 53) : ∃ x, D.mul (fl q) r2 = some x ∧ Mid 1023 1078 x := by
  obtain ⟨neg, s, hr, hv⟩ := rep_read (rep_fl q) hq
  unfold Format.mul
  rw [hr, read_r2]
  simp only [Datum.product, Option.map_some, Format.write]
  refine ⟨_, rfl, ?_⟩
  by_cases hz : q = 0
  · subst hz
    have : neg = false := by
      cases neg
      · rfl
      · rw [fl_zero, read_zero] at hr; simp at hr
    subst this
    simp only [Int.natAbs_zero, Nat.zero_mul]
    exact .inl rfl
  · have hz' : q.natAbs ≠ 0 := by omega
    have e : q.natAbs * 2 ^ s * 6369051672525773 = (q.natAbs * 6369051672525773) * 2 ^ s := by
      rw [Nat.mul_assoc, Nat.mul_comm (2 ^ s), Nat.mul_assoc]
    rw [e, show (-(s : Int) + -52) = -52 - (s : Int) by omega, nearest_scale _ _ _ (by omega)]
    have hn : q.natAbs * 6369051672525773 ≠ 0 := by omega
    obtain ⟨l1, l2⟩ := log2_bounds (a := 52) (b := 106) hn (by omega) (by omega)
    obtain ⟨r, hr, h1, h2⟩ := nearest_form (neg ^^ false) (q.natAbs * 6369051672525773) (-52) hn 1023 1078 (by omega) (by omega) (by omega) (by omega)
    exact .inr ⟨_, r, hr, h1, h2⟩

theorem signed_natAbs (neg : Bool) (m u : Nat) : (signed neg m u).natAbs = m * 2 ^ u := by
  unfold signed
  rw [Nat.shiftLeft_eq]
  split <;> omega

theorem signed_zero (neg : Bool) (u : Nat) : signed neg 0 u = 0 := by
  unfold signed; simp

theorem signed_pos (m u : Nat) : signed false m u = ((m * 2 ^ u : Nat) : Int) := by
  unfold signed; rw [Nat.shiftLeft_eq]; simp

theorem signed_neg (m u : Nat) : signed true m u = -((m * 2 ^ u : Nat) : Int) := by
  unfold signed; rw [Nat.shiftLeft_eq]; simp

/-- +0 added to a word that is no negative nought changes nothing. -/
theorem add_zero_norm (neg : Bool) (r : Nat) (h1 : 4503599627370496 ≤ r) (h2 : r < 2046 * 4503599627370496) : D.add (D.word neg r) 0 = some (D.word neg r) ∧ D.add 0 (D.word neg r) = some (D.word neg r) := by
  have hr := read_norm neg r h1 (by omega)
  unfold Format.add
  rw [hr, read_zero]
  generalize hm : 4503599627370496 + r % 4503599627370496 = m
  generalize hj : r / 4503599627370496 - 1 = j
  have hjb : j ≤ 2044 := by omega
  simp only [Datum.sum, Option.map_some, Format.write]
  have b1 : min (-1074 + (j : Int)) (-1074) = -1074 := by omega
  have b2 : min (-1074) (-1074 + (j : Int)) = -1074 := by omega
  rw [b1, b2, show (-1074 + (j : Int) - -1074).toNat = j by omega, signed_zero, Int.add_zero, Int.zero_add]
  have hne : signed neg m j ≠ 0 := by
    have := signed_natAbs neg m j
    have hp : 0 < 2 ^ j := Nat.two_pow_pos _
    have : m * 2 ^ j ≠ 0 := Nat.mul_ne_zero (by omega) (by omega)
    omega
  have hs : (decide (signed neg m j < 0)) = neg := by
    cases neg
    · rw [signed_pos]; generalize m * 2 ^ j = M; simp
    · rw [signed_neg] at *; generalize m * 2 ^ j = M at *; simp; omega
  have hfin : D.nearest neg (m * 2 ^ j) (-1074) = D.word neg r := by
    have := nearest_scale neg m j (by omega) (-1074 + j)
    rw [show (-1074 + (j:Int) - (j : Int)) = -1074 by omega] at this
    rw [this, nearest_norm neg m _ (by omega) (by omega) (by omega) (by omega)]
    congr 1; omega
  rw [if_neg hne, if_neg hne, hs, signed_natAbs, hfin]
  exact ⟨rfl, rfl⟩

theorem mid_form {lo hi w : Nat} (h : Mid lo hi w) (hlo : 1 ≤ lo) (hhi : hi ≤ 2046) : w = 0 ∨ ∃ neg m j, w ≠ 0 ∧ D.read w = .number neg m (-1074 + (j : Nat)) ∧ 4503599627370496 ≤ m ∧ m < 9007199254740992 ∧ lo ≤ j + 1 ∧ j + 1 < hi := by
  rcases h with h | ⟨neg, r, rfl, h1, h2⟩
  · exact .inl h
  · right
    refine ⟨neg, 4503599627370496 + r % 4503599627370496, r / 4503599627370496 - 1, ?_, read_norm neg r (by omega) (by omega), by omega, by omega, by omega, by omega⟩
    unfold Format.word; rw [D_sign]; split <;> omega

/-- y = P + x: nought, or in the middle of the floats. -/
theorem add_mid {p x : Nat} (hp : Mid 1023 1077 p) (hx : Mid 1023 1078 x) : ∃ y, D.add p x = some y ∧ Mid 971 1140 y := by
  have hp0 := hp
  have hx0 := hx
  rcases mid_form hp (by omega) (by omega) with rfl | ⟨s, m, i, hpne, hrp, m1, m2, i1, i2⟩
  · rcases hx with rfl | ⟨neg, r, rfl, h1, h2⟩
    · exact ⟨0, by decide, .inl rfl⟩
    · exact ⟨_, (add_zero_norm neg r (by omega) (by omega)).2, .inr ⟨neg, r, rfl, by omega, by omega⟩⟩
  rcases mid_form hx (by omega) (by omega) with rfl | ⟨t, n, j, hxne, hrx, n1, n2, j1, j2⟩
  · rcases hp with rfl | ⟨neg, r, rfl, h1, h2⟩
    · exact absurd rfl hpne
    · exact ⟨_, (add_zero_norm neg r (by omega) (by omega)).1, .inr ⟨neg, r, rfl, by omega, by omega⟩⟩
  unfold Format.add
  rw [hrp, hrx]
  simp only [Datum.sum, Option.map_some, Format.write]
  refine ⟨_, rfl, ?_⟩
  obtain ⟨b, hb⟩ : ∃ b : Nat, min (-1074 + (i : Int)) (-1074 + (j : Int)) = -1074 + (b : Nat) ∧ b ≤ i ∧ b ≤ j ∧ 1022 ≤ b := ⟨min i j, by omega, by omega, by omega, by omega⟩
  obtain ⟨hb, bi, bj, bl⟩ := hb
  rw [hb, show (-1074 + (i : Int) - (-1074 + (b : Nat))).toNat = i - b by omega, show (-1074 + (j : Int) - (-1074 + (b : Nat))).toNat = j - b by omega]
  have q1 : 2 ^ (i - b) ≤ 2 ^ 54 := Nat.pow_le_pow_right (by omega) (by omega)
  have q2 : 2 ^ (j - b) ≤ 2 ^ 55 := Nat.pow_le_pow_right (by omega) (by omega)
  have a1 := signed_natAbs s m (i - b)
  have a2 := signed_natAbs t n (j - b)
  have c1 : m * 2 ^ (i - b) ≤ 9007199254740992 * 2 ^ 54 := Nat.mul_le_mul (by omega) q1
  have c2 : n * 2 ^ (j - b) ≤ 9007199254740992 * 2 ^ 55 := Nat.mul_le_mul (by omega) q2
  by_cases hT : signed s m (i - b) + signed t n (j - b) = 0
  · rw [if_pos hT, hT]
    have hst : (s && t) = false := by
      have w1 : m * 2 ^ (i - b) ≠ 0 := Nat.mul_ne_zero (by omega) (by have := Nat.two_pow_pos (i - b); omega)
      cases s <;> cases t <;> simp
      rw [signed_neg, signed_neg] at hT; omega
    rw [hst]; exact .inl rfl
  · rw [if_neg hT]
    generalize hTT : signed s m (i - b) + signed t n (j - b) = T at *
    have hTb : T.natAbs < 2 ^ 109 := by
      have : T.natAbs ≤ m * 2 ^ (i - b) + n * 2 ^ (j - b) := by omega
      omega
    have hTn : T.natAbs ≠ 0 := by omega
    have hl := natAbs_lt_log2 hTb (by omega)
    obtain ⟨r, hr, h1, h2⟩ := nearest_form (decide (T < 0)) T.natAbs (-1074 + (b : Nat)) hTn 971 1140 (by omega) (by omega) (by omega) (by omega)
    exact .inr ⟨_, r, hr, h1, h2⟩

/-- The sum that root.Float divides. -/
theorem sum_mid (p q : Int) (hp : p.natAbs < 2 ^ 53) (hq : q.natAbs < 2 ^ 53) : ∃ x y, D.mul (fl q) r2 = some x ∧ D.add (fl p) x = some y ∧ Mid 971 1140 y := by
  obtain ⟨x, hx, mx⟩ := mul_r2 q hq
  obtain ⟨y, hy, my⟩ := add_mid (fl_mid p hp) mx
  exact ⟨x, y, hx, hy, my⟩

set_option maxRecDepth 10000 in
theorem fl_pow (k : Nat) (hk : k ≤ 60) : D.read (fl (2 ^ k : Nat)) = .number false 4503599627370496 ((k : Int) - 52) := by
  have : ∀ k : Nat, k ≤ 60 → D.read (fl ((2 ^ k : Nat) : Int)) = .number false 4503599627370496 ((k : Int) - 52) := by decide +kernel
  exact this k hk

set_option maxRecDepth 10000 in
/-- A word of the middle over a power of 2: the exponent less the power. -/
theorem div_pow (neg : Bool) (r k : Nat) (hk : k ≤ 60) (h1 : 971 * 4503599627370496 ≤ r) (h2 : r < 1140 * 4503599627370496) :
    D.div (D.word neg r) (fl (2 ^ k : Nat)) = some (D.word neg (r - k * 4503599627370496)) := by
  unfold Format.div
  rw [read_norm neg r (by omega) (by omega), fl_pow k hk]
  generalize hm : 4503599627370496 + r % 4503599627370496 = m
  generalize hj : r / 4503599627370496 - 1 = j
  have hml : m.log2 = 52 := by
    rw [Nat.log2_eq_iff (by omega)]; exact ⟨by omega, by omega⟩
  simp only [Datum.quotient]
  rw [if_neg (by omega)]
  simp only [Option.map_some, Format.write, D_frac, hml]
  rw [show (4503599627370496 : Nat).log2 = 52 by decide +kernel]
  rw [show 52 + 2 + 52 - 52 = 54 by omega, Nat.shiftLeft_eq]
  have e1 : m * 2 ^ 54 = (m * 4) * 4503599627370496 := by omega
  rw [e1, Nat.mul_div_cancel _ (by omega), Nat.mul_mod_left]
  simp only [bne_self_eq_false, Bool.toNat_false, Nat.add_zero, Bool.xor_false]
  rw [show 2 * (m * 4) = m * 2 ^ 3 by omega, show (-1074 + (j : Int) - ((k : Int) - 52) - ((54 : Nat) : Int) - 1) = (-1074 + (j : Int) - (k : Int)) - ((3 : Nat) : Int) by omega]
  rw [nearest_scale neg m 3 (by omega), nearest_norm neg m _ (by omega) (by omega) (by omega) (by omega)]
  have e2 : (-1074 + (j : Int) - (k : Int) + 1074).toNat = j - k := by omega
  have hk' : k ≤ j := by omega
  have e4 : r = j * 4503599627370496 + m := by omega
  clear e1 hml e2
  have e3 : (j - k) * 4503599627370496 + m = r - k * 4503599627370496 := by omega
  rw [show (-1074 + (j : Int) - (k : Int) + 1074).toNat = j - k by omega, e3]

set_option maxRecDepth 10000 in
theorem div_pow_zero (k : Nat) (hk : k ≤ 60) : D.div 0 (fl (2 ^ k : Nat)) = some 0 := by
  unfold Format.div
  rw [read_zero, fl_pow k hk]
  simp only [Datum.quotient]
  rw [if_neg (by omega)]
  simp only [Option.map_some, Format.write, Nat.zero_shiftLeft, Nat.zero_div, Nat.zero_mod, bne_self_eq_false, Bool.toNat_false, Nat.mul_zero, Nat.add_zero, nearest_zero]

/-- 1 times a word of the middle. -/
theorem one_mul_norm (neg : Bool) (r : Nat) (h1 : 900 * 4503599627370496 ≤ r) (h2 : r < 1140 * 4503599627370496) : D.mul 4607182418800017408 (D.word neg r) = some (D.word neg r) := by
  unfold Format.mul
  rw [read_norm neg r (by omega) (by omega), show D.read 4607182418800017408 = .number false 4503599627370496 (-52) by decide]
  generalize hm : 4503599627370496 + r % 4503599627370496 = m
  generalize hj : r / 4503599627370496 - 1 = j
  simp only [Datum.product, Option.map_some, Format.write, Bool.false_xor]
  rw [show 4503599627370496 * m = m * 2 ^ 52 by omega, show (-52 + (-1074 + (j : Int))) = (-1074 + (j : Int)) - ((52 : Nat) : Int) by omega]
  rw [nearest_scale neg m 52 (by omega), nearest_norm neg m _ (by omega) (by omega) (by omega) (by omega)]
  congr 2
  omega
end Go.Proofs.YtkokikfooooiiaaGreatDoor.Flo
