/- Both readers give back what a text was written of; so they agree on every text. -/
import Derived.Test.YtkokikfooooiiaaGreatDoorStr2
namespace Go.Proofs.YtkokikfooooiiaaGreatDoor.Str
open Go.Lib

theorem itoa_ne (n : Int) : itoa n ≠ [] := by
  by_cases h : n < 0
  · rw [itoa_neg h]; simp
  · rw [itoa_pos (by omega)]; exact decDigits_ne _

theorem dec_no (u : Nat) (x : UInt8) (hx : x.toNat < 48 ∨ 57 < x.toNat) : ∀ c ∈ decDigits u, c ≠ x :=
  fun c hc => dig_ne (decDigits_dig u c hc) x hx

theorem itoa_no43 (n : Int) : ∀ c ∈ itoa n, c ≠ 43 := by
  intro c hc
  rcases itoa_plain n c hc with h | h
  · exact dig_ne h 43 (by decide)
  · rw [h]; decide

theorem last43 (a b : List UInt8) (hb : ∀ c ∈ b, c ≠ 43) : lastL (a ++ 43 :: b) 43 = a.length := lastL_at a b 43 hb
theorem last45 (a b : List UInt8) (hb : ∀ c ∈ b, c ≠ 45) : lastL (a ++ 45 :: b) 45 = a.length := lastL_at a b 45 hb
theorem last43_none (a : List UInt8) (hb : ∀ c ∈ a, c ≠ 43) : lastL a 43 = -1 := lastL_none a 43 hb
theorem last45_none (a : List UInt8) (hb : ∀ c ∈ a, c ≠ 45) : lastL a 45 = -1 := lastL_none a 45 hb

/-- The cut of a numeral alone: at its head. -/
theorem cutAt_itoa (n : Int) : cutAt (itoa n) = 0 := by
  unfold cutAt
  rw [last43_none _ (itoa_no43 n)]
  by_cases h : n < 0
  · rw [itoa_neg h]
    have := last45 [] (decDigits n.natAbs) (dec_no _ 45 (by decide))
    simp only [List.nil_append, List.length_nil] at this
    rw [this]; rfl
  · rw [itoa_pos (by omega), last45_none _ (dec_no _ 45 (by decide))]; rfl

/-- The cut of two numerals, the second above nought. -/
theorem cutAt_plus (p q : Int) (hq : 0 < q) : cutAt (itoa p ++ 43 :: itoa q) = (itoa p).length := by
  unfold cutAt
  rw [last43 _ _ (itoa_no43 q)]
  have : lastL (itoa p ++ 43 :: itoa q) 45 ≤ 0 := by
    rw [itoa_pos (n := q) (by omega)]
    by_cases h : p < 0
    · rw [itoa_neg h, List.cons_append]
      refine lastL_le_head 45 _ ?_ 45
      intro c hc
      rcases List.mem_append.1 hc with hc | hc
      · exact dec_no _ 45 (by decide) c hc
      · rcases List.mem_cons.1 hc with hc | hc
        · rw [hc]; decide
        · exact dec_no _ 45 (by decide) c hc
    · rw [itoa_pos (n := p) (by omega), last45_none]
      · omega
      · intro c hc
        rcases List.mem_append.1 hc with hc | hc
        · exact dec_no _ 45 (by decide) c hc
        · rcases List.mem_cons.1 hc with hc | hc
          · rw [hc]; decide
          · exact dec_no _ 45 (by decide) c hc
  omega

/-- The cut of two numerals, the second below nought. -/
theorem cutAt_minus (p q : Int) (hq : q < 0) : cutAt (itoa p ++ itoa q) = (itoa p).length := by
  unfold cutAt
  rw [itoa_neg hq, last45 _ _ (dec_no _ 45 (by decide)), last43_none]
  · omega
  · intro c hc
    rcases List.mem_append.1 hc with hc | hc
    · exact itoa_no43 p c hc
    · rcases List.mem_cons.1 hc with hc | hc
      · rw [hc]; decide
      · exact dec_no _ 43 (by decide) c hc

theorem suffix_yes (l : List UInt8) : hasSuffix (l ++ [114]) [114] = true ∧ trimSuffix (l ++ [114]) [114] = l := by
  have h : hasSuffix (l ++ [114]) [114] = true := by
    unfold hasSuffix
    exact List.isSuffixOf_iff_suffix.2 (List.suffix_append _ _)
  refine ⟨h, ?_⟩
  unfold trimSuffix
  rw [if_pos h]
  simp

theorem suffix_no (l : List UInt8) (h : ∀ c ∈ l, c ≠ 114) : hasSuffix l [114] = false := by
  cases hs : hasSuffix l [114] with
  | false => rfl
  | true =>
    unfold hasSuffix at hs
    obtain ⟨t, ht⟩ := List.isSuffixOf_iff_suffix.1 hs
    exact absurd rfl (h 114 (by rw [← ht]; simp))

theorem itoa_no114 (n : Int) : ∀ c ∈ itoa n, c ≠ 114 := by
  intro c hc
  rcases itoa_plain n c hc with h | h
  · exact dig_ne h 114 (by decide)
  · rw [h]; decide

theorem split_body (p q : Int) (hq : q.natAbs < 9223372036854775808) :
    split (body p q) = (if p ≠ 0 ∨ q = 0 then itoa p else [], q) := by
  unfold split body
  by_cases h0 : q = 0
  · subst h0
    simp only [ne_eq, not_true_eq_false, if_false, List.append_nil, or_true, if_true]
    rw [suffix_no _ (itoa_no114 p)]; rfl
  · simp only [ne_eq, h0, not_false_eq_true, if_true, or_false]
    rw [← List.append_assoc]
    obtain ⟨e1, e2⟩ := suffix_yes ((if ¬p = 0 then itoa p else []) ++ ((if 0 < q ∧ ¬p = 0 then [43] else []) ++ itoa q))
    rw [e1, e2, if_pos rfl]
    by_cases hp : p = 0
    · simp only [hp, not_true_eq_false, if_false, and_false, List.nil_append]
      rw [cutAt_itoa]
      simp only [List.take_zero, List.drop_zero]
      rw [parseV_itoa q hq]
    · simp only [hp, not_false_eq_true, if_true, and_true]
      by_cases hpos : 0 < q
      · simp only [hpos, if_true]
        rw [show itoa p ++ ([43] ++ itoa q) = itoa p ++ 43 :: itoa q from rfl, cutAt_plus p q hpos, List.take_left, List.drop_left, parseV_plus q (by omega) hq]
      · simp only [hpos, if_false, List.nil_append]
        rw [cutAt_minus p q (by omega), List.take_left, List.drop_left, parseV_itoa q hq]

/-- What the program's reader makes of a text: what it was written of. -/
theorem readI_text (p q k : Int) (hp : p.natAbs < 9223372036854775808) (hq : q.natAbs < 9223372036854775808) (hk : k.natAbs < 9223372036854775808) : readI (text p q k) = (p, q, k) := by
  have hb : ∀ c ∈ body p q, c ≠ 47 := fun c hc => plain_ne (body_plain p q c hc)
  have fin : (if (if p ≠ 0 ∨ q = 0 then itoa p else []) ≠ [] then parseV (if p ≠ 0 ∨ q = 0 then itoa p else []) else 0) = p := by
    by_cases h : p ≠ 0 ∨ q = 0
    · rw [if_pos h, if_pos (itoa_ne p), parseV_itoa p hp]
    · rw [if_neg h]; simp; omega
  unfold readI text
  by_cases h0 : k = 0
  · subst h0
    simp only [ne_eq, not_true_eq_false, if_false, List.append_nil]
    rw [cut_none _ hb]
    simp only [split_body p q hq]
    simp only [ne_eq] at fin
    rw [fin]; rfl
  · simp only [ne_eq, h0, not_false_eq_true, if_true]
    rw [cut_hit _ _ hb]
    simp only [split_body p q hq, if_true]
    simp only [ne_eq] at fin
    rw [fin, atoiV_itoa k hk]

/-! ### The reference's reader -/

/-- A sign or none and digits at the head: the number, and its bytes (0: none). -/
def numeral (l : List UInt8) : Int × Nat :=
  match l with
  | [] => (0, 0)
  | c :: r =>
    if c = 45 ∨ c = 43 then (if (scan 17 0 r).2 = 0 then (0, 0) else (if c = 45 then -((scan 17 0 r).1 : Int) else ((scan 17 0 r).1 : Int), 1 + (scan 17 0 r).2))
    else (if (scan 17 0 (c :: r)).2 = 0 then (0, 0) else (((scan 17 0 (c :: r)).1 : Int), (scan 17 0 (c :: r)).2))

def second (rest : List UInt8) (v : Int) : Int × Int × List UInt8 :=
  if rest ≠ [] ∧ rest.head? = some 114 then (0, v, rest.drop 1)
  else if 0 < (numeral rest).2 ∧ (numeral rest).2 < rest.length ∧ rest[(numeral rest).2]? = some 114 then (v, (numeral rest).1, rest.drop ((numeral rest).2 + 1))
  else (v, 0, rest)

def readR (s : List UInt8) : Option (Int × Int × Int × List UInt8) :=
  if (numeral s).2 = 0 then none else
  let d := second (s.drop (numeral s).2) (numeral s).1
  if 3 < d.2.2.length ∧ d.2.2.take 3 = slash then
    if (numeral (d.2.2.drop 3)).2 = 0 ∨ 60 < (numeral (d.2.2.drop 3)).1 then none
    else some (d.1, d.2.1, (numeral (d.2.2.drop 3)).1, d.2.2.drop (3 + (numeral (d.2.2.drop 3)).2))
  else some (d.1, d.2.1, 0, d.2.2)

theorem numeral_itoa (n : Int) (r : List UInt8) (h : n.natAbs < 10000000000000000) (hr : Stop r) : numeral (itoa n ++ r) = (n, (itoa n).length) := by
  by_cases hn : n < 0
  · rw [itoa_neg hn]
    simp only [List.cons_append, numeral, true_or, if_true, List.length_cons]
    rw [scan_decDigits _ r h hr]
    have : (decDigits n.natAbs).length ≠ 0 := by
      have := decDigits_ne n.natAbs
      cases hd : decDigits n.natAbs <;> simp_all
    simp only [this, if_false]
    rw [show (-((n.natAbs : Nat) : Int)) = n by omega, Nat.add_comm]
  · rw [itoa_pos (by omega)]
    obtain ⟨c, t, hd, hc⟩ := head_dig n.natAbs
    have hs := scan_decDigits _ r h hr
    rw [hd, List.cons_append] at hs
    rw [hd, List.cons_append]
    simp only [numeral]
    rw [if_neg (by rintro (h | h) <;> exact absurd h (dig_ne hc _ (by decide))), hs]
    rw [if_neg (by simp), show ((n.natAbs : Nat) : Int) = n by omega]

theorem numeral_plus (n : Int) (h0 : 0 ≤ n) (r : List UInt8) (h : n.natAbs < 10000000000000000) (hr : Stop r) : numeral (43 :: (itoa n ++ r)) = (n, 1 + (itoa n).length) := by
  rw [itoa_pos h0]
  simp only [numeral, or_true, if_true]
  rw [scan_decDigits _ r h hr]
  have : (decDigits n.natAbs).length ≠ 0 := by
    have := decDigits_ne n.natAbs
    cases hd : decDigits n.natAbs <;> simp_all
  simp only [this, if_false]
  rw [if_neg (by decide), show ((n.natAbs : Nat) : Int) = n by omega]

theorem stop_nil : Stop [] := fun c r h => by cases h
theorem stop_cons {c : UInt8} {r : List UInt8} (h : ¬ isDig c) : Stop (c :: r) := fun a b e => by cases e; exact h

/-- What stands behind a body: nothing, or a slash. -/
def Tail (t : List UInt8) : Prop := t = [] ∨ ∃ r, t = 47 :: r

theorem stop_tail {t : List UInt8} (h : Tail t) : Stop t := by
  rcases h with rfl | ⟨r, rfl⟩
  · exact stop_nil
  · exact stop_cons (by unfold isDig; decide)

theorem stop_r (t : List UInt8) : Stop (114 :: t) := stop_cons (by unfold isDig; decide)

theorem itoa_len (n : Int) : 0 < (itoa n).length := by
  have := itoa_ne n
  cases h : itoa n <;> simp_all

theorem stop_itoa_neg {q : Int} (hq : q < 0) (t : List UInt8) : Stop (itoa q ++ t) := by
  rw [itoa_neg hq]; exact stop_cons (by unfold isDig; decide)

/-- The head of a text: P and Q, and what stands behind. -/
theorem read_body (p q : Int) (t : List UInt8) (hp : p.natAbs < 10000000000000000) (hq : q.natAbs < 10000000000000000) (ht : Tail t) :
    (numeral (body p q ++ t)).2 ≠ 0 ∧ second ((body p q ++ t).drop (numeral (body p q ++ t)).2) (numeral (body p q ++ t)).1 = (p, q, t) := by
  unfold body
  have none_tail : ∀ v : Int, second t v = (v, 0, t) := by
    intro v
    unfold second
    rcases ht with rfl | ⟨r, rfl⟩
    · simp [numeral]
    · have e : numeral (47 :: r) = (0, 0) := by
        simp only [numeral]
        rw [if_neg (by decide), scan_stop 17 0 _ (stop_cons (by unfold isDig; decide))]; rfl
      rw [if_neg (by simp), e, if_neg (by simp)]
  have ahead : ∀ v : Int, ∀ r, second (114 :: r) v = (0, v, r) := by
    intro v r; unfold second; rw [if_pos (by simp)]; rfl
  by_cases h0 : q = 0
  · subst h0
    simp only [ne_eq, not_true_eq_false, if_false, List.append_nil, or_true, if_true]
    rw [numeral_itoa p t hp (stop_tail ht)]
    have := itoa_len p
    simp only [List.drop_left]
    exact ⟨by omega, none_tail p⟩
  · simp only [ne_eq, h0, not_false_eq_true, if_true, or_false]
    by_cases hp0 : p = 0
    · subst hp0
      simp only [not_true_eq_false, if_false, and_false, List.nil_append, List.append_assoc]
      rw [numeral_itoa q ([114] ++ t) hq (stop_r t)]
      have := itoa_len q
      simp only [List.drop_left]
      exact ⟨by omega, ahead q t⟩
    · simp only [hp0, not_false_eq_true, if_true, and_true]
      have hlp := itoa_len p
      by_cases hpos : 0 < q
      · simp only [hpos, if_true, List.append_assoc]
        rw [numeral_itoa p ([43] ++ (itoa q ++ ([114] ++ t))) hp (stop_cons (c := 43) (by unfold isDig; decide))]
        simp only [List.drop_left]
        refine ⟨by omega, ?_⟩
        unfold second
        rw [if_neg (by simp)]
        have e := numeral_plus q (by omega) ([114] ++ t) hq (stop_r t)
        rw [show [43] ++ (itoa q ++ ([114] ++ t)) = 43 :: (itoa q ++ ([114] ++ t)) from rfl, e]
        have e2 : (43 :: (itoa q ++ ([114] ++ t)))[1 + (itoa q).length]? = some 114 := by
          rw [Nat.add_comm, List.getElem?_cons_succ, List.getElem?_append_right (Nat.le_refl _)]; simp
        rw [if_pos ⟨(by omega : 0 < 1 + (itoa q).length), (by simp; omega), e2⟩]
        congr 2
        rw [show 1 + (itoa q).length + 1 = (43 :: (itoa q ++ [114])).length by simp; omega, show 43 :: (itoa q ++ ([114] ++ t)) = (43 :: (itoa q ++ [114])) ++ t by simp, List.drop_left]
      · have hneg : q < 0 := by omega
        simp only [hpos, if_false, List.nil_append, List.append_assoc]
        rw [numeral_itoa p _ hp (stop_itoa_neg hneg _)]
        simp only [List.drop_left]
        refine ⟨by omega, ?_⟩
        unfold second
        have hh : ¬ (itoa q ++ ([114] ++ t) ≠ [] ∧ (itoa q ++ ([114] ++ t)).head? = some 114) := by
          rw [itoa_neg hneg]; simp
        rw [if_neg hh, numeral_itoa q ([114] ++ t) hq (stop_r t)]
        have e2 : (itoa q ++ ([114] ++ t))[(itoa q).length]? = some 114 := by
          rw [List.getElem?_append_right (Nat.le_refl _)]; simp
        rw [if_pos ⟨itoa_len q, by simp, e2⟩]
        congr 2
        rw [show (itoa q).length + 1 = (itoa q ++ [114]).length by simp, ← List.append_assoc, List.drop_left]

/-- What the reference's reader makes of a text: what it was written of. -/
theorem readR_text (p q k : Int) (hp : p.natAbs < 10000000000000000) (hq : q.natAbs < 10000000000000000) (hk0 : 0 ≤ k) (hk : k ≤ 60) : readR (text p q k) = some (p, q, k, []) := by
  unfold readR text
  by_cases h0 : k = 0
  · subst h0
    simp only [ne_eq, not_true_eq_false, if_false]
    obtain ⟨h1, h2⟩ := read_body p q [] hp hq (.inl rfl)
    rw [if_neg h1, h2]
    simp
  · simp only [ne_eq, h0, not_false_eq_true, if_true]
    obtain ⟨h1, h2⟩ := read_body p q (slash ++ itoa k) hp hq (.inr ⟨_, rfl⟩)
    rw [if_neg h1, h2]
    have e1 : (slash ++ itoa k).take 3 = slash := rfl
    have e2 : (slash ++ itoa k).drop 3 = itoa k := rfl
    have hl := itoa_len k
    have e3 : 3 < (slash ++ itoa k).length := by simp [slash]; omega
    have en := numeral_itoa k [] (by omega) stop_nil
    rw [List.append_nil] at en
    simp only [e1, e2, e3, and_self, if_true, en]
    rw [if_neg (by omega)]
    rw [← List.drop_drop, e2]; simp

/-- Is it a root in its one form? -/
def okRoot (p q k : Int) : Bool := decide (-9007199254740991 ≤ p ∧ p ≤ 9007199254740991 ∧ -9007199254740991 ≤ q ∧ q ≤ 9007199254740991 ∧ 0 ≤ k ∧ k ≤ 60 ∧ (k = 0 ∨ p % 2 ≠ 0 ∨ q % 2 ≠ 0))

def parseI (s : List UInt8) : Option (Int × Int × Int) :=
  if okRoot (readI s).1 (readI s).2.1 (readI s).2.2 = true ∧ text (readI s).1 (readI s).2.1 (readI s).2.2 = s then some (readI s) else none

def parseR (s : List UInt8) : Option (Int × Int × Int) :=
  match readR s with
  | none => none
  | some (p, q, k, rest) => if okRoot p q k = true ∧ text p q k = s ∧ rest = [] then some (p, q, k) else none

theorem ok_bounds {p q k : Int} (h : okRoot p q k = true) : p.natAbs < 10000000000000000 ∧ q.natAbs < 10000000000000000 ∧ 0 ≤ k ∧ k ≤ 60 := by
  have := of_decide_eq_true h; omega

theorem parseI_text {p q k : Int} (h : okRoot p q k = true) : parseI (text p q k) = some (p, q, k) := by
  obtain ⟨a, b, c, d⟩ := ok_bounds h
  unfold parseI
  rw [readI_text p q k (by omega) (by omega) (by omega)]
  rw [if_pos ⟨h, rfl⟩]

theorem parseR_text {p q k : Int} (h : okRoot p q k = true) : parseR (text p q k) = some (p, q, k) := by
  obtain ⟨a, b, c, d⟩ := ok_bounds h
  unfold parseR
  rw [readR_text p q k a b c d]
  show (if okRoot p q k = true ∧ text p q k = text p q k ∧ ([] : List UInt8) = [] then some (p, q, k) else none) = _
  rw [if_pos ⟨h, rfl, rfl⟩]

theorem parseI_some {s : List UInt8} {r : Int × Int × Int} (h : parseI s = some r) : okRoot r.1 r.2.1 r.2.2 = true ∧ text r.1 r.2.1 r.2.2 = s := by
  unfold parseI at h
  split at h
  · rename_i hc; injection h with h; subst h; exact hc
  · cases h

theorem parseR_some {s : List UInt8} {r : Int × Int × Int} (h : parseR s = some r) : okRoot r.1 r.2.1 r.2.2 = true ∧ text r.1 r.2.1 r.2.2 = s := by
  unfold parseR at h
  split at h
  · cases h
  · split at h
    · rename_i hc; injection h with h; subst h; exact ⟨hc.1, hc.2.1⟩
    · cases h

/-- The two readers answer alike, whatever the text. -/
theorem parse_same (s : List UInt8) : parseI s = parseR s := by
  cases h : parseI s with
  | some r =>
    obtain ⟨ho, ht⟩ := parseI_some h
    rw [← ht, parseR_text ho]
  | none =>
    cases h2 : parseR s with
    | none => rfl
    | some r =>
      obtain ⟨ho, ht⟩ := parseR_some h2
      rw [← ht, parseI_text ho] at h; cases h

end Go.Proofs.YtkokikfooooiiaaGreatDoor.Str
