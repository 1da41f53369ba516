import Derived.Test.YtkokikfooooiiaaGreatDoorP4
import Derived.Test.YtkokikfooooiiaaGreatDoorG5
import Derived.Test.YtkokikfooooiiaaGreatDoorQ3
namespace Go.Proofs.YtkokikfooooiiaaGreatDoor
open Go.RowKit Go.Lib

set_option maxRecDepth 100000 in
set_option maxHeartbeats 4000000 in
/-- The reference's reader, where no numeral stands at the head. -/
theorem refParse_none (l : List UInt8) (hl : l.length < 4294967281) (v : Int) (hn : Str.numeral l = (v, 0)) (w : World) :
    Calls Tryz.prog 9 #[.string ⟨l.toArray⟩] w fun e w' => e = .returned (.tuple #[.agg #[.int .i64 0, .int .i64 0, .int .i64 0], .int .i64 22]) ∧ Chg [] w w' := by
  have c := numeral_any l hl
  rw [hn] at c
  have HN := Lib.hid c
  clear c
  have J0 := InvP.start w
  have HJ := Lib.hid J0
  obtain ⟨r0, r1, r2, r3, r4, r5⟩ := J0.res
  clear J0
  go_enter Tryz.func9, Tryz.ntmps9
  go_wp2_with (fail)
  go_at_call 20
  refine (HN.out _).mono ?_
  rintro e w1 ⟨rfl, rfl⟩
  go_wp2
  go_returns
  exact ⟨rfl, HJ.out.1⟩
end Go.Proofs.YtkokikfooooiiaaGreatDoor
namespace Go.Proofs.YtkokikfooooiiaaGreatDoor
open Go.RowKit Go.Lib

/-- The reference's reader. -/
theorem refParse (l : List UInt8) (hl : l.length < 4294967281) (w : World) :
    Calls Tryz.prog 9 #[.string ⟨l.toArray⟩] w fun e w' => e = readEnd (Str.parseR l) ∧ Chg [] w w' := by
  generalize hn : Str.numeral l = nm
  obtain ⟨v, n⟩ := nm
  rcases Nat.eq_zero_or_pos n with h0 | h0
  · subst h0
    have hp : Str.parseR l = none := by
      unfold Str.parseR Str.readR
      rw [hn, if_pos rfl]
    rw [hp]
    exact refParse_none l hl v hn w
  · generalize hS : Str.second (l.drop n) v = sc
    obtain ⟨P, Q, Y⟩ := sc
    generalize hU : Str.numeral (Y.drop 3) = un
    obtain ⟨u, m⟩ := un
    have hread : Str.readR l = if sl Y = true then (if m = 0 ∨ 60 < u then none else some (P, Q, u, Y.drop (3 + m))) else some (P, Q, 0, Y) := by
      unfold Str.readR
      rw [hn]
      simp only [show n ≠ 0 by omega, if_false, hS, hU]
      by_cases hs : sl Y = true
      · have h : 3 < Y.length ∧ Y.take 3 = Str.slash := by
          unfold sl at hs
          rw [Bool.and_eq_true] at hs
          exact ⟨of_decide_eq_true hs.1, eq_of_beq hs.2⟩
        rw [if_pos h, if_pos hs]
      · have h : ¬ (3 < Y.length ∧ Y.take 3 = Str.slash) := by
          intro h
          apply hs
          unfold sl
          rw [decide_eq_true h.1, h.2]
          rfl
        rw [if_neg h, if_neg hs]
    by_cases hs : sl Y = true
    · refine refParse_walk l _ Y (Y.drop (3 + m)) v P Q u u n m hl hn h0 rfl hS hU (fun _ => ⟨rfl, rfl⟩) (fun h => by rw [hs] at h; cases h) w _ ?_ ?_
      · intro _ hb
        unfold Str.parseR
        rw [hread, if_pos hs, if_pos hb]
      · intro hb
        unfold Str.parseR
        rw [hread, if_pos hs, if_neg (fun h => hb ⟨hs, h⟩)]
    · have hs' : sl Y = false := by simpa using hs
      refine refParse_walk l _ Y Y v P Q 0 u n m hl hn h0 rfl hS hU (fun h => absurd h hs) (fun _ => ⟨rfl, rfl⟩) w _ (fun h => absurd h hs) ?_
      intro _
      unfold Str.parseR
      rw [hread, if_neg hs]
end Go.Proofs.YtkokikfooooiiaaGreatDoor
