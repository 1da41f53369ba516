/- The text of a root, the two readers, and that both take just the texts. -/
import Derived.Test.YtkokikfooooiiaaGreatDoorStr
namespace Go.Proofs.YtkokikfooooiiaaGreatDoor.Str
open Go.Lib

/-- The text of (p + q r) / 2^k. -/
def body (p q : Int) : List UInt8 :=
  (if p ≠ 0 ∨ q = 0 then itoa p else []) ++ (if q ≠ 0 then (if 0 < q ∧ p ≠ 0 then [43] else []) ++ itoa q ++ [114] else [])

def slash : List UInt8 := [47, 50, 94]

def text (p q k : Int) : List UInt8 := body p q ++ (if k ≠ 0 then slash ++ itoa k else [])

/-! ### The program's reader -/

def parseV (l : List UInt8) : Int := match parseIntB 64 l with | .ok v => v | .syntax => 0 | .range => intSat 64 l
def atoiV (l : List UInt8) : Int := match atoiAll l with | .ok v => v | .syntax => 0 | .range => atoiSat l

def lastL (l : List UInt8) (c : Int) : Int := lastIndexByte ⟨l.toArray⟩ c

def cutAt (q : List UInt8) : Nat := (max (max (lastL q 43) (lastL q 45)) 0).toNat

/-- What lies ahead of the root's part, and the root's part. -/
def split (h : List UInt8) : List UInt8 × Int :=
  if hasSuffix h [114] = true then ((trimSuffix h [114]).take (cutAt (trimSuffix h [114])), parseV ((trimSuffix h [114]).drop (cutAt (trimSuffix h [114])))) else (h, 0)

def readI (s : List UInt8) : Int × Int × Int :=
  let c := cut s slash
  let k := if c.2.2 = true then atoiV c.2.1 else 0
  let d := split c.1
  (if d.1 ≠ [] then parseV d.1 else 0, d.2, k)

theorem parseV_itoa (n : Int) (h : n.natAbs < 9223372036854775808) : parseV (itoa n) = n := by
  unfold parseV; rw [parseInt_itoa n h]
theorem parseV_plus (n : Int) (h0 : 0 ≤ n) (h : n.natAbs < 9223372036854775808) : parseV (43 :: itoa n) = n := by
  unfold parseV; rw [parseInt_plus n h0 h]
theorem atoiV_itoa (n : Int) (h : n.natAbs < 9223372036854775808) : atoiV (itoa n) = n := by
  unfold atoiV; rw [atoi_parse, parseInt_itoa n h]

/-- A byte of a body: a digit, a sign or the letter r. -/
def Plain (c : UInt8) : Prop := isDig c ∨ c = 43 ∨ c = 45 ∨ c = 114

theorem plain_ne {c : UInt8} (h : Plain c) : c ≠ 47 := by
  rintro rfl
  rcases h with h | h | h | h
  · unfold isDig at h; simp at h
  · cases h
  · cases h
  · cases h

theorem itoa_plain (n : Int) : ∀ c ∈ itoa n, isDig c ∨ c = 45 := by
  by_cases h : n < 0
  · rw [itoa_neg h]; intro c hc
    rcases List.mem_cons.1 hc with hc | hc
    · exact .inr hc
    · exact .inl (decDigits_dig _ c hc)
  · rw [itoa_pos (by omega)]; intro c hc; exact .inl (decDigits_dig _ c hc)

theorem body_plain (p q : Int) : ∀ c ∈ body p q, Plain c := by
  have hi : ∀ n : Int, ∀ c ∈ itoa n, Plain c := fun n c hc => by
    rcases itoa_plain n c hc with h | h
    · exact .inl h
    · exact .inr (.inr (.inl h))
  intro c hc
  unfold body at hc
  rcases List.mem_append.1 hc with hc | hc
  · split at hc
    · exact hi p c hc
    · cases hc
  · split at hc
    · rcases List.mem_append.1 hc with hc | hc
      · rcases List.mem_append.1 hc with hc | hc
        · split at hc
          · rw [List.mem_singleton] at hc; exact .inr (.inl hc)
          · cases hc
        · exact hi q c hc
      · rw [List.mem_singleton] at hc; exact .inr (.inr (.inr hc))
    · cases hc

theorem cut_hit (b t : List UInt8) (hb : ∀ c ∈ b, c ≠ 47) : cut (b ++ (slash ++ t)) slash = (b, t, true) := by
  have hi : index (b ++ (slash ++ t)) slash = b.length := by
    refine index_first (by simp) ?_ ?_
    · unfold occAt
      rw [List.drop_left]
      exact List.isPrefixOf_iff_prefix.2 (List.prefix_append _ _)
    · intro j hj
      cases h : occAt (b ++ (slash ++ t)) slash j with
      | false => rfl
      | true =>
        have := occAt_head (c := 47) (t := [50, 94]) rfl h
        rw [List.getElem?_append_left hj, List.getElem?_eq_getElem hj] at this
        injection this with this
        exact absurd this (hb _ (List.getElem_mem hj))
  unfold cut
  rw [hi, if_pos (by omega)]
  simp only [Int.toNat_natCast]
  rw [List.take_left, show b.length + slash.length = (b ++ slash).length by simp, ← List.append_assoc, List.drop_left]

theorem cut_none (b : List UInt8) (hb : ∀ c ∈ b, c ≠ 47) : cut b slash = (b, [], false) := by
  have hi : index b slash = -1 := by
    refine index_none ?_
    intro j hj
    cases h : occAt b slash j with
    | false => rfl
    | true =>
      have := occAt_head (c := 47) (t := [50, 94]) rfl h
      by_cases hl : j < b.length
      · rw [List.getElem?_eq_getElem hl] at this
        injection this with this
        exact absurd this (hb _ (List.getElem_mem hl))
      · rw [List.getElem?_eq_none (by omega)] at this; cases this
  unfold cut
  rw [hi, if_neg (by omega)]

/-- The last place of a byte, told by what stands there and behind. -/
theorem lastL_at (a b : List UInt8) (x : UInt8) (hb : ∀ c ∈ b, c ≠ x) : lastL (a ++ x :: b) x.toNat = a.length := by
  unfold lastL
  rcases lastIndexByte_spec ⟨(a ++ x :: b).toArray⟩ x.toNat with ⟨_, h⟩ | ⟨i, hi, e, hc, h⟩
  · have := h a.length (by show a.length < (a ++ x :: b).toArray.size; simp)
    exfalso; apply this
    show (((a ++ x :: b).toArray[a.length]!).toNat : Int) = _
    simp
  · rw [e]
    have hi' : i < (a ++ x :: b).length := by
      have : (⟨(a ++ x :: b).toArray⟩ : ByteArray).size = (a ++ x :: b).length := by show (a ++ x :: b).toArray.size = _; simp
      omega
    rcases Nat.lt_trichotomy i a.length with hlt | heq | hgt
    · exfalso
      have := h a.length hlt (by show a.length < (a ++ x :: b).toArray.size; simp)
      apply this
      show (((a ++ x :: b).toArray[a.length]!).toNat : Int) = _
      simp
    · omega
    · exfalso
      have hc' : (((a ++ x :: b).toArray[i]!).toNat : Int) = x.toNat := hc
      have e2 : (a ++ x :: b).toArray[i]! = b[i - a.length - 1]'(by simp at hi'; omega) := by
        rw [getElem!_pos _ i (by simpa using hi')]
        simp only [List.getElem_toArray]
        rw [List.getElem_append_right (by omega)]
        rw [List.getElem_cons, dif_neg (by omega)]
      rw [e2] at hc'
      have hx := hb _ (List.getElem_mem (l := b) (n := i - a.length - 1) (by simp at hi'; omega))
      apply hx
      have : (b[i - a.length - 1]'(by simp at hi'; omega)).toNat = x.toNat := by omega
      exact UInt8.toNat_inj.1 this

theorem lastL_none (a : List UInt8) (x : UInt8) (hb : ∀ c ∈ a, c ≠ x) : lastL a x.toNat = -1 := by
  unfold lastL
  rcases lastIndexByte_spec ⟨a.toArray⟩ x.toNat with ⟨e, _⟩ | ⟨i, hi, e, hc, h⟩
  · exact e
  · exfalso
    have hi' : i < a.length := by
      have : (⟨a.toArray⟩ : ByteArray).size = a.length := by show a.toArray.size = _; simp
      omega
    have hc' : ((a.toArray[i]!).toNat : Int) = x.toNat := hc
    rw [getElem!_pos _ i (by simpa using hi')] at hc'
    simp only [List.getElem_toArray] at hc'
    apply hb _ (List.getElem_mem hi')
    exact UInt8.toNat_inj.1 (by omega)

theorem lastL_le_head (x : UInt8) (a : List UInt8) (hb : ∀ c ∈ a, c ≠ x) (b : UInt8) : lastL (b :: a) x.toNat ≤ 0 := by
  by_cases h : b = x
  · subst h
    have := lastL_at [] a b hb
    simp only [List.nil_append, List.length_nil] at this
    rw [this]; omega
  · rw [lastL_none]
    · omega
    · intro c hc
      rcases List.mem_cons.1 hc with hc | hc
      · rw [hc]; exact h
      · exact hb c hc

theorem dig_ne {c : UInt8} (h : isDig c) (x : UInt8) (hx : x.toNat < 48 ∨ 57 < x.toNat) : c ≠ x := by
  rintro rfl; unfold isDig at h; omega

end Go.Proofs.YtkokikfooooiiaaGreatDoor.Str
