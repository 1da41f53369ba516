import Derived.Test.YtkokikfooooiiaaGreatDoorG1
namespace Go.Proofs.YtkokikfooooiiaaGreatDoor
open Go.RowKit Go.Lib

set_option maxRecDepth 100000 in
set_option maxHeartbeats 4000000 in
theorem numeral_nil (w : World) :
    Calls Tryz.prog 20 #[.string ⟨#[]⟩] w fun e w' => e = .returned (.tuple #[.int .i64 0, .int .i64 0]) ∧ w' = w := by
  go_enter Tryz.func20, Tryz.ntmps20
  go_wp2_with (fail)
  refine wp_loop_rounds 1 ?_
  rw [rounds_succ]
  go_wp2
  go_returns
  exact ⟨rfl, rfl⟩

set_option maxRecDepth 100000 in
set_option maxHeartbeats 4000000 in
theorem numeral_plain (c : UInt8) (r : List UInt8) (h45 : c.toNat ≠ 45) (h43 : c.toNat ≠ 43) (hl : (c :: r).length < 4294967281) (w : World) (v n : Nat) (hv : Str.scan 17 0 (c :: r) = (v, n)) (res : Int) (hres : res = if n = 0 then 0 else (v : Int)) :
    Calls Tryz.prog 20 #[.string ⟨(c :: r).toArray⟩] w fun e w' => e = .returned (.tuple #[.int .i64 res, .int .i64 n]) ∧ w' = w := by
  have HRES := Lib.hid hres
  clear hres
  have h0 : 0 < (⟨(c :: r).toArray⟩ : ByteArray).size := Nat.zero_lt_succ _
  have e45 : (((((⟨(c :: r).toArray⟩ : ByteArray)[0]'h0).toNat : Nat) : Int) == 45) = false := by
    rw [beq_eq_false_iff_ne]; intro e; exact h45 (by have e' : (c.toNat : Int) = 45 := e; omega)
  have e43 : (((((⟨(c :: r).toArray⟩ : ByteArray)[0]'h0).toNat : Nat) : Int) == 43) = false := by
    rw [beq_eq_false_iff_ne]; intro e; exact h43 (by have e' : (c.toNat : Int) = 43 := e; omega)
  have n45 : ¬ ((((⟨(c :: r).toArray⟩ : ByteArray)[0]'h0).toNat : Nat) : Int) = 45 := by
    intro e; exact h45 (by have e' : (c.toNat : Int) = 45 := e; omega)
  go_enter Tryz.func20, Tryz.ntmps20
  go_wp2_with (fail)
  go_loopg [4, 6] 17 (fun g s4 s6 wr => wr = w ∧ ∃ j val : Nat, s4 = .int .i64 j ∧ s6 = .int .i64 val ∧ Run (c :: r) 0 g j val)
  case atStart => exact ⟨rfl, 0, 0, rfl, rfl, Run.start _ _ (Nat.zero_le _)⟩
  case round =>
    obtain ⟨rfl, j, val, rfl, rfl, hrun⟩ := hrel
    have hjl : j ≤ (c :: r).length := hrun.2.1
    have HR := Lib.hid hrun
    have HV := Lib.hid hv
    have hg : gk + j = 17 := by have := hrun.2.2.1; omega
    have hsz : (⟨(c :: r).toArray⟩ : ByteArray).size = (c :: r).length := rfl
    have hrl : (c :: r).length = r.length + 1 := rfl
    clear hrun hv
    have hval := fun h : 0 < gk => (show Run (c :: r) 0 (gk - 1 + 1) j val by rw [Nat.sub_add_cancel h]; exact HR.out).small
    have HVAL := Lib.hid hval
    clear hval
    have hstop : (∀ hj : j < (c :: r).length, ¬ (48 ≤ ((⟨(c :: r).toArray⟩ : ByteArray)[j]'hj).toNat ∧ ((⟨(c :: r).toArray⟩ : ByteArray)[j]'hj).toNat ≤ 57 ∧ j < 17)) → v = val ∧ n = j := by
      intro h
      have st := HR.out.stop (by
        by_cases hj : j < (c :: r).length
        · have h := h hj
          by_cases hd : 48 ≤ ((c :: r)[j]).toNat ∧ ((c :: r)[j]).toNat ≤ 57
          · refine .inr (.inl ?_)
            have : ¬ j < 17 := fun c => h ⟨hd.1, hd.2, c⟩
            omega
          · exact .inr (.inr ⟨_, List.getElem?_eq_getElem hj, hd⟩)
        · exact .inl (by omega))
      have e := HV.out.symm.trans st
      simp at e
      omega
    have HS := Lib.hid hstop
    clear hstop
    go_wp2_with (fail)
    · go_roundg (gk - 1)
      case measure => omega
      case rel =>
        have hg0 : 0 < gk := by omega
        have hj : j < (c :: r).length := by omega
        have hb : 48 ≤ ((⟨(c :: r).toArray⟩ : ByteArray)[j]'hj).toNat ∧ ((⟨(c :: r).toArray⟩ : ByteArray)[j]'hj).toNat ≤ 57 := by omega
        have hsm := HVAL.out hg0
        have hr' := (show Run (c :: r) 0 (gk - 1 + 1) j val by rw [Nat.sub_add_cancel hg0]; exact HR.out).next ((⟨(c :: r).toArray⟩ : ByteArray)[j]'hj) (List.getElem?_eq_getElem hj) hb
        refine ⟨rfl, j + 1, _, by simp, ?_, hr'⟩
        congr 1
        unfold wrap64
        omega
    all_goals
      go_returns
      obtain ⟨rfl, rfl⟩ := HS.out (by intro hj; omega)
      refine ⟨?_, rfl⟩
      rw [HRES.out]
      rcases Nat.eq_zero_or_pos n with hn | hn
      · subst hn
        first | rfl | (exfalso; simp_all; done)
      · rw [if_neg (by omega)]
        first | rfl | (exfalso; simp_all; done)
end Go.Proofs.YtkokikfooooiiaaGreatDoor
