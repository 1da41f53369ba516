import Derived.Test.YtkokikfooooiiaaGreatDoorG2
namespace Go.Proofs.YtkokikfooooiiaaGreatDoor
open Go.RowKit Go.Lib

set_option maxRecDepth 100000 in
set_option maxHeartbeats 4000000 in
theorem numeral_plus (c : UInt8) (r : List UInt8) (hch : c.toNat = 43) (_hl : (c :: r).length < 4294967281) (w : World) (v n : Nat) (hv : Str.scan 17 0 ((c :: r).drop 1) = (v, n)) (res : Int) (hres : res = if n = 0 then 0 else (v : Int)) (used : Int) (hused : used = if n = 0 then 0 else 1 + (n : Int)) :
    Calls Tryz.prog 20 #[.string ⟨(c :: r).toArray⟩] w fun e w' => e = .returned (.tuple #[.int .i64 res, .int .i64 used]) ∧ w' = w := by
  have HRES := Lib.hid hres
  have HUSED := Lib.hid hused
  clear hres hused
  have h0 : 0 < (⟨(c :: r).toArray⟩ : ByteArray).size := Nat.zero_lt_succ _
  have e45 : (((((⟨(c :: r).toArray⟩ : ByteArray)[0]'h0).toNat : Nat) : Int) == 45) = false := by
    have e' : ((((⟨(c :: r).toArray⟩ : ByteArray)[0]'h0).toNat : Nat) : Int) = 43 := by show (c.toNat : Int) = 43; omega
    rw [e']; rfl
  have e43 : (((((⟨(c :: r).toArray⟩ : ByteArray)[0]'h0).toNat : Nat) : Int) == 43) = true := by
    have e' : ((((⟨(c :: r).toArray⟩ : ByteArray)[0]'h0).toNat : Nat) : Int) = 43 := by show (c.toNat : Int) = 43; omega
    rw [e']; rfl
  have n45 : ((((⟨(c :: r).toArray⟩ : ByteArray)[0]'h0).toNat : Nat) : Int) = 43 := by show (c.toNat : Int) = 43; omega
  go_enter Tryz.func20, Tryz.ntmps20
  go_wp2_with (fail)
  go_loopg [4, 6] 17 (fun g s4 s6 wr => wr = w ∧ ∃ j val : Nat, s4 = .int .i64 j ∧ s6 = .int .i64 val ∧ Run (c :: r) 1 g j val)
  case atStart => exact ⟨rfl, 1, 0, rfl, rfl, Run.start _ _ (Nat.le_add_left 1 _)⟩
  case round =>
    obtain ⟨rfl, j, val, rfl, rfl, hrun⟩ := hrel
    have hjl : j ≤ (c :: r).length := hrun.2.1
    have HR := Lib.hid hrun
    have HV := Lib.hid hv
    have hg : gk + j = 18 := by have := hrun.2.2.1; omega
    have hj1 : 1 ≤ j := hrun.1
    have hsz : (⟨(c :: r).toArray⟩ : ByteArray).size = (c :: r).length := rfl
    have hrl : (c :: r).length = r.length + 1 := rfl
    clear hrun hv
    have hval := fun h : 0 < gk => (show Run (c :: r) 1 (gk - 1 + 1) j val by rw [Nat.sub_add_cancel h]; exact HR.out).small
    have HVAL := Lib.hid hval
    clear hval
    have hstop : (∀ hj : j < (c :: r).length, ¬ (48 ≤ ((⟨(c :: r).toArray⟩ : ByteArray)[j]'hj).toNat ∧ ((⟨(c :: r).toArray⟩ : ByteArray)[j]'hj).toNat ≤ 57 ∧ j < 18)) → v = val ∧ n + 1 = j := by
      intro h
      have st := HR.out.stop (by
        by_cases hj : j < (c :: r).length
        · have h := h hj
          by_cases hd : 48 ≤ ((c :: r)[j]).toNat ∧ ((c :: r)[j]).toNat ≤ 57
          · refine .inr (.inl ?_)
            have : ¬ j < 18 := fun c => h ⟨hd.1, hd.2, c⟩
            omega
          · exact .inr (.inr ⟨_, List.getElem?_eq_getElem hj, hd⟩)
        · exact .inl (by omega))
      have e := HV.out.symm.trans st
      simp at e
      omega
    have HS := Lib.hid hstop
    clear hstop
    go_wp2_with (fail)
    · go_roundg (gk - 1)
      case measure => omega
      case rel =>
        have hg0 : 0 < gk := by omega
        have hj : j < (c :: r).length := by omega
        have hb : 48 ≤ ((⟨(c :: r).toArray⟩ : ByteArray)[j]'hj).toNat ∧ ((⟨(c :: r).toArray⟩ : ByteArray)[j]'hj).toNat ≤ 57 := by omega
        have hsm := HVAL.out hg0
        have hr' := (show Run (c :: r) 1 (gk - 1 + 1) j val by rw [Nat.sub_add_cancel hg0]; exact HR.out).next ((⟨(c :: r).toArray⟩ : ByteArray)[j]'hj) (List.getElem?_eq_getElem hj) hb
        refine ⟨rfl, j + 1, _, by simp, ?_, hr'⟩
        rw [wrap_digit _ _ hsm hb.1 hb.2]
    all_goals
      go_returns
      have hvb := HR.out.bound
      obtain ⟨rfl, rfl⟩ := HS.out (by intro hj; omega)
      have ew := wrap_minus v hvb
      simp only [at_start, decide_eq_true_eq, decide_eq_false_iff_not] at *
      refine ⟨?_, by first | trivial | rfl⟩
      rw [HRES.out, HUSED.out]
      rcases Nat.eq_zero_or_pos n with hn | hn
      · rw [if_pos hn, if_pos hn]
        first | (exfalso; omega) | rfl
      · rw [if_neg (by omega), if_neg (by omega)]
        first | (exfalso; omega) | (rw [show (1 : Int) + (n : Int) = ((n + 1 : Nat) : Int) by omega]; first | rfl | (rw [ew]; rfl))
end Go.Proofs.YtkokikfooooiiaaGreatDoor
