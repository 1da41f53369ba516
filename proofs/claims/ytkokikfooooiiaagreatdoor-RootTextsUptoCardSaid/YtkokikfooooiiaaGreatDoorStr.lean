/- The texts of roots: what is written is read again, by both readers; and no other text is taken. -/
import Derived.Lib.ItoaNum
import Derived.Lib.ParseIntB
import Derived.Lib.ParseIntBCases
import Derived.Lib.AtoiAllCases
import Derived.Lib.CutLaws
import Derived.Lib.LastIndexByte
namespace Go.Proofs.YtkokikfooooiiaaGreatDoor.Str
open Go.Lib

theorem dig_toNat (d : Nat) (h : d < 10) : (UInt8.ofNat (48 + d)).toNat = 48 + d := by
  rw [UInt8.toNat_ofNat']; omega

def isDig (c : UInt8) : Prop := 48 ≤ c.toNat ∧ c.toNat ≤ 57

theorem decDigits_small {u : Nat} (h : u < 10) : decDigits u = [UInt8.ofNat (48 + u)] := by rw [decDigits, dif_pos h]
theorem decDigits_big {u : Nat} (h : ¬ u < 10) : decDigits u = decDigits (u / 10) ++ [UInt8.ofNat (48 + u % 10)] := by rw [decDigits, dif_neg h]

theorem decDigits_dig (u : Nat) : ∀ c ∈ decDigits u, isDig c := by
  induction u using Nat.strongRecOn with
  | _ u ih =>
    by_cases h : u < 10
    · rw [decDigits_small h]; intro c hc
      rw [List.mem_singleton] at hc; subst hc
      unfold isDig; rw [dig_toNat u h]; omega
    · rw [decDigits_big h]; intro c hc
      rcases List.mem_append.1 hc with hc | hc
      · exact ih (u / 10) (by omega) c hc
      · rw [List.mem_singleton] at hc; subst hc
        unfold isDig; rw [dig_toNat _ (by omega)]; omega

theorem decDigits_ne (u : Nat) : decDigits u ≠ [] := by
  by_cases h : u < 10
  · rw [decDigits_small h]; simp
  · rw [decDigits_big h]; simp

theorem parseUintM_snoc (M : Nat) (c : UInt8) (hc : isDig c) : ∀ (l : List UInt8) (acc v : Nat), parseUintM M acc l = .ok v → v < 1844674407370955162 → v * 10 + (c.toNat - 48) ≤ M → parseUintM M acc (l ++ [c]) = .ok (v * 10 + (c.toNat - 48))
  | [], acc, v, h, h1, h2 => by
    simp only [parseUintM] at h
    injection h with h; subst h
    unfold isDig at hc
    simp only [List.nil_append, parseUintM]
    rw [if_pos hc, if_neg (by omega), if_neg (by omega)]
  | a :: l, acc, v, h, h1, h2 => by
    simp only [List.cons_append, parseUintM] at h ⊢
    split at h
    · rename_i ha
      rw [if_pos ha]
      split at h
      · cases h
      · rename_i hb
        rw [if_neg hb]
        split at h
        · cases h
        · rename_i hd
          rw [if_neg hd]
          exact parseUintM_snoc M c hc l _ v h h1 h2
    · cases h

theorem parse_decDigits (M u : Nat) (hM : u ≤ M) (h : u < 10000000000000000000) : parseUintM M 0 (decDigits u) = .ok u := by
  induction u using Nat.strongRecOn with
  | _ u ih =>
    by_cases hs : u < 10
    · rw [decDigits_small hs]
      simp only [parseUintM]
      rw [dig_toNat u hs, if_pos (by omega), if_neg (by omega), if_neg (by omega)]
      congr 1; omega
    · rw [decDigits_big hs]
      have hd : isDig (UInt8.ofNat (48 + u % 10)) := by unfold isDig; rw [dig_toNat _ (by omega)]; omega
      have e := parseUintM_snoc M _ hd (decDigits (u / 10)) 0 (u / 10) (ih (u / 10) (by omega) (by omega) (by omega)) (by omega) (by rw [dig_toNat _ (by omega)]; omega)
      rw [e, dig_toNat _ (by omega)]
      congr 1; omega

theorem parseUintB_decDigits (u : Nat) (h : u < 9223372036854775808) : parseUintB 64 (decDigits u) = .ok u := by
  unfold parseUintB
  rw [if_neg (decDigits_ne u)]
  exact parse_decDigits _ u (by omega) (by omega)

theorem itoa_neg {n : Int} (h : n < 0) : itoa n = 45 :: decDigits n.natAbs := by unfold itoa; rw [if_pos h]
theorem itoa_pos {n : Int} (h : 0 ≤ n) : itoa n = decDigits n.natAbs := by
  unfold itoa; rw [if_neg (by omega)]; congr 1; omega

theorem head_dig (u : Nat) : ∃ c r, decDigits u = c :: r ∧ isDig c := by
  have h := decDigits_dig u
  have hn := decDigits_ne u
  cases hd : decDigits u with
  | nil => exact absurd hd hn
  | cons c r => rw [hd] at h; exact ⟨c, r, rfl, h c (List.mem_cons_self ..)⟩

/-- ParseInt of a numeral: the number. -/
theorem parseInt_itoa (n : Int) (h : n.natAbs < 9223372036854775808) : parseIntB 64 (itoa n) = .ok n := by
  by_cases hn : n < 0
  · rw [itoa_neg hn, parseIntB_minus, parseUintB_decDigits _ h]
    simp only [signedC]
    rw [if_neg (by omega)]
    congr 1; omega
  · rw [itoa_pos (by omega)]
    obtain ⟨c, r, hd, hc⟩ := head_dig n.natAbs
    unfold isDig at hc
    rw [hd, parseIntB_plain _ _ _ (by omega) (by omega), ← hd, parseUintB_decDigits _ h]
    simp only [signlessC]
    rw [if_neg (by omega)]
    congr 1; omega

/-- ParseInt of a number above nought with a + ahead. -/
theorem parseInt_plus (n : Int) (h0 : 0 ≤ n) (h : n.natAbs < 9223372036854775808) : parseIntB 64 (43 :: itoa n) = .ok n := by
  rw [itoa_pos h0, parseIntB_plus, parseUintB_decDigits _ h]
  simp only [signlessC]
  rw [if_neg (by omega)]
  congr 1; omega

theorem atoi_parse (l : List UInt8) : atoiAll l = parseIntB 64 l := by
  unfold atoiAll parseIntB
  cases l with
  | nil => rfl
  | cons c r => simp only [parseUintB_64]; rfl

/-! ### The reader of the reference -/

/-- The digits at the head, at most k of them: the number that they make behind v, and how many. -/
def scan : Nat → Nat → List UInt8 → Nat × Nat
  | 0, v, _ => (v, 0)
  | _ + 1, v, [] => (v, 0)
  | k + 1, v, c :: r => if 48 ≤ c.toNat ∧ c.toNat ≤ 57 then ((scan k (v * 10 + (c.toNat - 48)) r).1, (scan k (v * 10 + (c.toNat - 48)) r).2 + 1) else (v, 0)

/-- No digit at the head. -/
def Stop (l : List UInt8) : Prop := ∀ c r, l = c :: r → ¬ isDig c

theorem scan_stop (k v : Nat) (l : List UInt8) (h : Stop l) : scan k v l = (v, 0) := by
  cases k with
  | zero => rfl
  | succ k =>
    cases l with
    | nil => rfl
    | cons c r =>
      simp only [scan]
      have hc := h c r rfl
      unfold isDig at hc
      rw [if_neg hc]

theorem scan_append : ∀ (l : List UInt8) (k v : Nat) (r : List UInt8), (∀ c ∈ l, isDig c) → l.length ≤ k → scan k v (l ++ r) = ((scan (k - l.length) (l.foldl (fun a c => a * 10 + (c.toNat - 48)) v) r).1, (scan (k - l.length) (l.foldl (fun a c => a * 10 + (c.toNat - 48)) v) r).2 + l.length)
  | [], k, v, r, _, _ => by simp
  | c :: l, k, v, r, hl, hk => by
    obtain ⟨k, rfl⟩ : ∃ m, k = m + 1 := ⟨k - 1, by simp at hk; omega⟩
    have hc : 48 ≤ c.toNat ∧ c.toNat ≤ 57 := hl c (List.mem_cons_self ..)
    simp only [List.cons_append, scan]
    rw [if_pos hc, scan_append l k _ r (fun x hx => hl x (List.mem_cons_of_mem _ hx)) (by simp at hk; omega)]
    simp only [List.foldl_cons, List.length_cons, Nat.add_sub_add_right]
    rfl

theorem fold_decDigits (u : Nat) : (decDigits u).foldl (fun a c => a * 10 + (c.toNat - 48)) 0 = u := by
  induction u using Nat.strongRecOn with
  | _ u ih =>
    by_cases h : u < 10
    · rw [decDigits_small h]; simp only [List.foldl_cons, List.foldl_nil]; rw [dig_toNat u h]; omega
    · rw [decDigits_big h, List.foldl_append, ih (u / 10) (by omega)]
      simp only [List.foldl_cons, List.foldl_nil]; rw [dig_toNat _ (by omega)]; omega

theorem nDigits_le : ∀ (k u : Nat), u < 10 ^ (k + 1) → nDigits u ≤ k + 1
  | 0, u, h => by rw [nDigits_small (by simpa using h)]; omega
  | k + 1, u, h => by
    by_cases hs : u < 10
    · rw [nDigits_small hs]; omega
    · rw [nDigits_big hs]
      have := nDigits_le k (u / 10) (by rw [Nat.pow_succ] at h; omega)
      omega

theorem len_le (u : Nat) (h : u < 10000000000000000) : (decDigits u).length ≤ 16 := by
  rw [decDigits_length]; exact nDigits_le 15 u (by simpa using h)

/-- A numeral at the head of a text is scanned as its number. -/
theorem scan_decDigits (u : Nat) (r : List UInt8) (h : u < 10000000000000000) (hr : Stop r) : scan 17 0 (decDigits u ++ r) = (u, (decDigits u).length) := by
  have hl := len_le u h
  rw [scan_append _ 17 0 r (decDigits_dig u) (by omega), fold_decDigits, scan_stop _ _ _ hr]
  simp

end Go.Proofs.YtkokikfooooiiaaGreatDoor.Str
