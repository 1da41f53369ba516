import Derived.Test.YtkokikfooooiiaaGreatDoorBase2
import Derived.Test.YtkokikfooooiiaaGreatDoorLdx
import Derived.Laws.FloatArith
import Derived.Laws.BitsAllLaws
import Derived.Laws.Bits128
namespace Go.Proofs.YtkokikfooooiiaaGreatDoor
open Go.RowKit Ieee Flo

theorem call_bits (x : Nat) (w : World) : (callFunc 11 #[.float .f64 x]).run Tryz.prog w = .ok (.value (.int .u64 x)) w := by
  rw [run_callFunc_extern Tryz.func11 (by kernel_rfl) (by kernel_rfl) (by kernel_rfl) (e := Extern.MathFloatBits.float64bits) (by kernel_rfl)]
  rfl
theorem call_from (x : Nat) (w : World) : (callFunc 68 #[.int .u64 x]).run Tryz.prog w = .ok (.value (.float .f64 x)) w := by
  rw [run_callFunc_extern Tryz.func68 (by kernel_rfl) (by kernel_rfl) (by kernel_rfl) (e := Extern.MathFloatBits.float64frombits) (by kernel_rfl)]
  rfl

theorem read_min : D.read 4503599627370496 = .number false 4503599627370496 (-1074) := by decide
theorem read_max : D.read 9218868437227405311 = .number false 9007199254740991 971 := by decide

theorem signed_ne (neg : Bool) (m u : Nat) (hm : m ≠ 0) : signed neg m u ≠ 0 := by
  intro h
  have := signed_natAbs neg m u
  rw [h] at this
  have hp : 0 < 2 ^ u := Nat.two_pow_pos u
  have : 0 < m * 2 ^ u := Nat.mul_pos (by omega) hp
  omega

theorem cmp_int (a b : Int) : compare a b = if a < b then .lt else if a = b then .eq else .gt := rfl

theorem order_zero (neg : Bool) (r : Nat) (h1 : 4503599627370496 ≤ r) (h2 : r < 9218868437227405312) : (FloatKind.f64.format.order (D.word neg r) 0 == some Ordering.eq) = false := by
  show (Datum.order (D.read (D.word neg r)) (D.read 0) == some Ordering.eq) = false
  rw [read_norm neg r h1 h2, read_zero]
  simp only [Datum.order]
  rw [signed_zero, cmp_int]
  have := signed_ne neg (4503599627370496 + r % 4503599627370496) (-1074 + ((r / 4503599627370496 - 1 : Nat) : Int) - min (-1074 + ((r / 4503599627370496 - 1 : Nat) : Int)) (-1074)).toNat (by omega)
  split
  · rfl
  · first | rfl | (rw [if_neg this]; rfl)

theorem order_self (neg : Bool) (r : Nat) (h1 : 4503599627370496 ≤ r) (h2 : r < 9218868437227405312) : (FloatKind.f64.format.order (D.word neg r) (D.word neg r) == some Ordering.eq) = true := by
  show (Datum.order (D.read (D.word neg r)) (D.read (D.word neg r)) == some Ordering.eq) = true
  rw [read_norm neg r h1 h2]
  simp only [Datum.order]
  rw [cmp_int, if_neg (by omega), if_pos rfl]
  rfl

theorem order_max (r : Nat) (h1 : 4503599627370496 ≤ r) (h2 : r < 9218868437227405312) : (FloatKind.f64.format.order r 9218868437227405311 == some Ordering.gt) = false := by
  show (Datum.order (D.read (D.word false r)) (D.read 9218868437227405311) == some Ordering.gt) = false
  rw [read_norm false r h1 h2, read_max]
  simp only [Datum.order]
  have hj : ((r / 4503599627370496 - 1 : Nat) : Int) ≤ 2045 := by omega
  rw [Int.min_eq_left (by omega), signed_pos, signed_pos, cmp_int]
  have hu : (-1074 + ((r / 4503599627370496 - 1 : Nat) : Int) - (-1074 + ((r / 4503599627370496 - 1 : Nat) : Int))).toNat = 0 := by omega
  rw [hu, Nat.pow_zero, Nat.mul_one]
  have hp : 0 < 2 ^ (971 - (-1074 + ((r / 4503599627370496 - 1 : Nat) : Int))).toNat := Nat.two_pow_pos _
  generalize 2 ^ (971 - (-1074 + ((r / 4503599627370496 - 1 : Nat) : Int))).toNat = P at hp ⊢
  have hle : 4503599627370496 + r % 4503599627370496 ≤ 9007199254740991 * P := Nat.le_trans (by omega : _ ≤ 9007199254740991) (Nat.le_mul_of_pos_right _ hp)
  split
  · rfl
  · rename_i c
    rw [if_pos (by omega)]
    rfl

theorem order_min (r : Nat) (h1 : 4503599627370496 ≤ r) (h2 : r < 9218868437227405312) : (FloatKind.f64.format.order r 4503599627370496 == some Ordering.lt) = false := by
  show (Datum.order (D.read (D.word false r)) (D.read 4503599627370496) == some Ordering.lt) = false
  rw [read_norm false r h1 h2, read_min]
  simp only [Datum.order]
  rw [Int.min_eq_right (by omega), signed_pos, signed_pos, cmp_int]
  have hu : (-1074 - -1074 : Int).toNat = 0 := by omega
  rw [hu, Nat.pow_zero, Nat.mul_one]
  generalize hP : 2 ^ (-1074 + ((r / 4503599627370496 - 1 : Nat) : Int) - -1074).toNat = P
  have hp : 0 < P := by rw [← hP]; exact Nat.two_pow_pos _
  have hle : 4503599627370496 ≤ (4503599627370496 + r % 4503599627370496) * P := Nat.le_trans (by omega : _ ≤ 4503599627370496 + r % 4503599627370496) (Nat.le_mul_of_pos_right _ hp)
  rw [if_neg (by omega)]
  split <;> rfl

/-- The word, its sign written out. -/
theorem word_nat (neg : Bool) (r : Nat) : D.word neg r = neg.toNat * 9223372036854775808 + r := by
  cases neg
  · show r = _; simp
  · show 9223372036854775808 + r = _; simp

theorem bit_abs (neg : Bool) (r : Nat) (h : r < 9218868437227405312) : bits .andNot .u64 ((D.word neg r : Nat) : Int) 9223372036854775808 = (r : Int) := by
  have hn : neg.toNat ≤ 1 := Bool.toNat_le neg
  have e := u64_andNot_nat (D.word neg r) 9223372036854775808 (by rw [word_nat]; omega) (by omega)
  rw [show ((9223372036854775808 : Nat) : Int) = 9223372036854775808 from rfl] at e
  rw [e, show (18446744073709551615 - 9223372036854775808 : Nat) = 2 ^ 63 - 1 by decide, Nat.and_two_pow_sub_one_eq_mod, word_nat]
  omega

theorem i64_and2047 (n : Int) : bits .and .i64 n 2047 = n % 2048 := by
  have h127 : (BitVec.ofInt 64 2047).toNat = 2 ^ 11 - 1 := by decide
  have key : (BitVec.ofInt 64 n &&& BitVec.ofInt 64 2047).toNat = (n % ((2 ^ 64 : Nat) : Int)).toNat % 2 ^ 11 := by
    rw [BitVec.toNat_and, BitVec.toNat_ofInt, h127, Nat.and_two_pow_sub_one_eq_mod]
  show IntKind.i64.wrap ((BitVec.ofInt 64 n &&& BitVec.ofInt 64 2047).toNat : Nat) = n % 2048
  rw [key, IntKind.wrap_i64]
  omega

theorem bit_exp (neg : Bool) (r : Nat) (k : Int) (h1 : 971 * 4503599627370496 ≤ r) (h2 : r < 1140 * 4503599627370496) (hk : 0 ≤ k) (hk' : k ≤ 60) :
    wrap64 (wrap64 (-k) + wrap64 (bits .and .i64 (wrap64 (((D.word neg r : Nat) : Int) / 4503599627370496)) 2047 - 1023)) = ((r / 4503599627370496 : Nat) : Int) - 1023 - k := by
  have hn : neg.toNat ≤ 1 := Bool.toNat_le neg
  rw [i64_and2047, word_nat]
  unfold wrap64
  omega

theorem mul52 (e : Nat) : (e * 4503599627370496) % 2 ^ 52 = 0 := Nat.mul_mod_left _ _
theorem mul63 (s : Nat) : (s * 9223372036854775808) % 2 ^ 63 = 0 := Nat.mul_mod_left _ _
theorem bit_join (s m e : Nat) (hm : m < 4503599627370496) (he : e * 4503599627370496 + m < 9223372036854775808) : (s * 9223372036854775808 ||| m) ||| (e * 4503599627370496) = s * 9223372036854775808 + (e * 4503599627370496 + m) := by
  rw [Nat.or_assoc, Nat.or_comm m, nat_join 52 _ _ (mul52 e) (Nat.lt_of_lt_of_eq hm (by decide)), nat_join 63 _ _ (mul63 s) (Nat.lt_of_lt_of_eq he (by decide))]

theorem bit_new_at (s m e k : Nat) (hs : s ≤ 1) (hm : m < 4503599627370496) (he : e + k < 1140) (_hk : k ≤ 60) :
    bits .or .u64 (bits .andNot .u64 ((s * 9223372036854775808 + ((e + k) * 4503599627370496 + m) : Nat) : Int) 9218868437227405312) (((e : Nat) : Int) * 4503599627370496) = ((s * 9223372036854775808 + (e * 4503599627370496 + m) : Nat) : Int) := by
  have hX : s * 9223372036854775808 + ((e + k) * 4503599627370496 + m) < 18446744073709551616 := by omega
  have hlk : e ≤ 1139 := by omega
  have es : (s * 9223372036854775808 + ((e + k) * 4503599627370496 + m)) / 2 ^ 63 % 2 * 2 ^ 63 = s * 9223372036854775808 := by omega
  have em : (s * 9223372036854775808 + ((e + k) * 4503599627370496 + m)) % 2 ^ 52 = m := by omega
  have hc : ((e : Nat) : Int) * 4503599627370496 = ((e * 4503599627370496 : Nat) : Int) := by omega
  have hs64 : s * 9223372036854775808 < 2 ^ 64 := Nat.lt_of_le_of_lt (Nat.mul_le_mul_right _ hs) (by decide)
  have hm64 : m < 2 ^ 64 := Nat.lt_trans hm (by decide)
  have hle : e * 4503599627370496 ≤ 1139 * 4503599627370496 := Nat.mul_le_mul_right _ hlk
  clear he _hk
  have g2 : e * 4503599627370496 + m < 9223372036854775808 := Nat.lt_of_lt_of_le (Nat.add_lt_add_of_le_of_lt hle hm) (by decide)
  have g3 : e * 4503599627370496 < 18446744073709551616 := Nat.lt_of_le_of_lt hle (by decide)
  have e1 := u64_andNot_nat (s * 9223372036854775808 + ((e + k) * 4503599627370496 + m)) 9218868437227405312 hX (by decide)
  rw [show ((9218868437227405312 : Nat) : Int) = 9218868437227405312 from rfl] at e1
  rw [e1, show (18446744073709551615 - 9218868437227405312 : Nat) = 2 ^ 63 ||| (2 ^ 52 - 1) by decide, Nat.and_or_distrib_left, Nat.and_two_pow_sub_one_eq_mod, nat_bit, es, em, hc]
  have hb : s * 9223372036854775808 ||| m < 18446744073709551616 := Nat.or_lt_two_pow (n := 64) hs64 hm64
  rw [u64_or_nat _ _ hb g3, bit_join s m e hm g2]

theorem bit_new (neg : Bool) (r k : Nat) (h1 : 971 * 4503599627370496 ≤ r) (h2 : r < 1140 * 4503599627370496) (hk' : k ≤ 60) :
    bits .or .u64 (bits .andNot .u64 ((D.word neg r : Nat) : Int) 9218868437227405312) ((((r / 4503599627370496 : Nat) : Int) - 1023 - (k : Int) + 1023) * 4503599627370496) = ((D.word neg (r - k * 4503599627370496) : Nat) : Int) := by
  have hn : neg.toNat ≤ 1 := Bool.toNat_le neg
  have hq1 : 971 ≤ r / 4503599627370496 := (Nat.le_div_iff_mul_le (by omega)).2 h1
  have hq2 : r / 4503599627370496 < 1140 := (Nat.div_lt_iff_lt_mul (by omega)).2 h2
  have hr := Nat.div_add_mod r 4503599627370496
  have hm : r % 4503599627370496 < 4503599627370496 := Nat.mod_lt _ (by decide)
  generalize r / 4503599627370496 = q at *
  generalize r % 4503599627370496 = m at *
  clear h1 h2
  obtain ⟨e, rfl⟩ : ∃ e, q = e + k := ⟨q - k, by omega⟩
  have c := bit_new_at neg.toNat m e k hn hm (by omega) hk'
  rw [word_nat, word_nat]
  have e1 : r = (e + k) * 4503599627370496 + m := by omega
  have e2 : r - k * 4503599627370496 = e * 4503599627370496 + m := by omega
  have e3 : (((e + k : Nat) : Int) - 1023 - (k : Int) + 1023) = ((e : Nat) : Int) := by omega
  rw [e3, e2, e1]
  exact c
end Go.Proofs.YtkokikfooooiiaaGreatDoor
