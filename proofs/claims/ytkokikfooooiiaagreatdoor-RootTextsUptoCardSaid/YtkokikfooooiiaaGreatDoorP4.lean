import Derived.Test.YtkokikfooooiiaaGreatDoorP2
namespace Go.Proofs.YtkokikfooooiiaaGreatDoor
open Go.RowKit Go.Lib

/-- What a reader gives back. -/
def readEnd : Option (Int × Int × Int) → Ending
  | some r => .returned (.tuple #[.agg #[.int .i64 r.1, .int .i64 r.2.1, .int .i64 r.2.2], .int .i64 0])
  | none => .returned (.tuple #[.agg #[.int .i64 0, .int .i64 0, .int .i64 0], .int .i64 22])

set_option maxRecDepth 100000 in
set_option maxHeartbeats 4000000 in
theorem rootParse_walk (l A T X : List UInt8) (b sfx : Bool) (hc : cut l Str.slash = (A, T, b)) (hl : l.length < 4294967281) (hA : A.length < 4294967281) (hT : T.length < 4294967281)
    (hX : trimSuffix A [114] = X) (hs : hasSuffix A [114] = sfx) (hXl : X.length < 4294967281) (w : World) (he : Env w) (res : Ending) (hres : res = readEnd (Str.parseI l)) :
    Calls Tryz.prog 10 #[.string ⟨l.toArray⟩] w fun e w' => e = res ∧ Chg [] w w' := by
  have HRES := Lib.hid hres
  clear hres
  have HC := Lib.hid (fun wx h => cut_t l hl wx h)
  rw [hc] at HC
  have HT := Lib.hid (fun wx h => atoi_t T hT wx h)
  have HS := Lib.hid (fun wx => suffix_t A hA wx)
  rw [hX, hs] at HS
  have HL := Lib.hid (fun c wx => last_t X hXl c wx)
  have HE := Lib.hid he
  have b43 := lastL_lt X 43
  have b45 := lastL_lt X 45
  have HP := Lib.hid (fun n wx (h : Env wx) => (by rw [ext_drop]; exact parse_t (X.drop n) (by simp; omega) wx h : Calls Tryz.prog 25 #[.string ((⟨X.toArray⟩ : ByteArray).extract n X.length), .int .i64 10, .int .i64 64] wx fun e w' => (∃ ev, e = .returned (.tuple #[.int .i64 (Str.parseV (X.drop n)), ev])) ∧ Chg [] wx w'))
  have I0 := Lib.hid (InvP.start w)
  obtain ⟨i0, i1, i2, i3, i4, i5⟩ := (InvP.start w).cells
  clear he
  go_enter Tryz.func10, Tryz.ntmps10
  go_upto_region 2 with fail
  have J0 := I0.out
  clear i0 i1 i2 i3 i4 i5 I0
  generalize ((w.alloc (.cells #[.int .i64 0, .int .i64 0, .int .i64 0] 23)).alloc (.cells #[.int .i64 0, .int .i64 0, .int .i64 0] 23)) = w1 at J0 ⊢
  go_wp2_with (fail)
  go_at_call 21
  refine (HC.out _ (J0.env HE.out)).mono ?_
  rintro e w2 ⟨rfl, C2⟩
  have J2 := J0.step C2
  obtain ⟨i0, i1, i2, i3, i4, i5⟩ := J2.cells
  go_upto_if 19 with fail
  go_cut [] (fun wx => InvP w w.heap.size (w.heap.size + 1) 0 0 (if b = true then Str.atoiV T else 0) wx)
  case first =>
    cases b
    · go_wp2_with fail
      go_meet
      exact J2
    · go_wp2_with (fail)
      go_at_call 22
      refine (HT.out _ (J2.env HE.out)).mono ?_
      rintro e w3 ⟨⟨ev, rfl⟩, C3⟩
      have J3 := J2.step C3
      obtain ⟨j0, j1, j2, j3, j4, j5⟩ := J3.cells
      go_wp2_with fail
      go_meet
      exact J3.set 2 _ rfl
  case rest =>
    have J4 := hcut
    obtain ⟨wz, hwz⟩ : ∃ wz, wz = wc := ⟨_, rfl⟩
    subst hwz
    generalize hK : (if b = true then Str.atoiV T else 0) = K at J4
    clear i0 i1 i2 i3 i4 i5 J2 J0 C2
    obtain ⟨i0, i1, i2, i3, i4, i5⟩ := J4.cells
    go_wp2_with (fail)
    go_at_call 23
    refine (HS.out _).mono ?_
    rintro e w5 ⟨rfl, rfl⟩
    go_upto_if 31 with fail
    go_cut [5] (fun s5 wx => s5 = .string ⟨(if sfx = true then X.take (Str.cutAt X) else A).toArray⟩ ∧ InvP w w.heap.size (w.heap.size + 1) 0 (if sfx = true then Str.parseV (X.drop (Str.cutAt X)) else 0) K wx)
    case first =>
      cases sfx
      · go_wp2_with fail
        go_meet
        exact ⟨rfl, J4⟩
      · go_wp2_with (fail)
        go_at_call 24
        refine (HL.out 43 _).mono ?_
        rintro e w6 ⟨rfl, rfl⟩
        go_wp2_with (fail)
        go_at_call 24
        refine (HL.out 45 _).mono ?_
        rintro e w7 ⟨rfl, rfl⟩
        go_wp2_with (fail)
        all_goals (first | (exfalso; omega) | skip)
        all_goals
          go_at_call 25
          refine (HP.out _ _ (J4.env HE.out)).mono ?_
          rintro e w8 ⟨⟨ev, rfl⟩, C8⟩
          have J8 := J4.step C8
          obtain ⟨j0, j1, j2, j3, j4, j5⟩ := J8.cells
          go_wp2_with fail
          go_meet
        · have e : Str.cutAt X = 0 := by unfold Str.cutAt; omega
          simp only [if_true, e, List.take_zero, List.drop_zero]
          refine ⟨by first | trivial | rfl, J8.set 1 _ rfl⟩
        · have e : Str.cutAt X = (Str.lastL X 45).toNat := by unfold Str.cutAt; omega
          rw [ext_take]
          simp only [if_true, e]
          refine ⟨by first | trivial | rfl, J8.set 1 _ rfl⟩
        · have e : Str.cutAt X = (Str.lastL X 43).toNat := by unfold Str.cutAt; omega
          rw [ext_take]
          simp only [if_true, e]
          refine ⟨by first | trivial | rfl, J8.set 1 _ rfl⟩
    case rest =>
      obtain ⟨rfl, J9⟩ := hcut
      obtain ⟨wy, hwy⟩ : ∃ wy, wy = wc := ⟨_, rfl⟩
      subst hwy
      have hD : (if sfx = true then X.take (Str.cutAt X) else A).length < 4294967281 := by
        split
        · simp; omega
        · exact hA
      have hQb : -9223372036854775808 ≤ (if sfx = true then Str.parseV (X.drop (Str.cutAt X)) else 0) ∧ (if sfx = true then Str.parseV (X.drop (Str.cutAt X)) else 0) ≤ 9223372036854775807 := by
        split
        · exact parseV_bounds _
        · omega
      generalize hDe : (if sfx = true then X.take (Str.cutAt X) else A) = D at hD J9 ⊢
      generalize hQ : (if sfx = true then Str.parseV (X.drop (Str.cutAt X)) else 0) = Q at J9 hQb
      clear i0 i1 i2 i3 i4 i5 J4 HT HS HL HP
      obtain ⟨i0, i1, i2, i3, i4, i5⟩ := J9.cells
      have HP := Lib.hid (fun wx h => parse_t D hD wx h)
      go_upto_if 49 with fail
      go_cut [] (fun wx => InvP w w.heap.size (w.heap.size + 1) (if D ≠ [] then Str.parseV D else 0) Q K wx)
      case first =>
        by_cases hD0 : D = []
        · subst hD0
          go_wp2_with fail
          go_meet
          exact J9
        · have hD1 : D.isEmpty = false := by cases D <;> simp_all
          go_wp2_with (fail)
          go_at_call 25
          refine (HP.out _ (J9.env HE.out)).mono ?_
          rintro e w8 ⟨⟨ev, rfl⟩, C8⟩
          have J8 := J9.step C8
          obtain ⟨j0, j1, j2, j3, j4, j5⟩ := J8.cells
          go_wp2_with fail
          go_meet
          rw [if_pos hD0]
          exact J8.set 0 _ rfl
          all_goals (exfalso; simp_all)
      case rest =>
        have J10 := hcut
        obtain ⟨wv, hwv⟩ : ∃ wv, wv = wc := ⟨_, rfl⟩
        subst hwv
        have hPb : -9223372036854775808 ≤ (if D ≠ [] then Str.parseV D else 0) ∧ (if D ≠ [] then Str.parseV D else 0) ≤ 9223372036854775807 := by
          split
          · exact parseV_bounds _
          · omega
        generalize hP : (if D ≠ [] then Str.parseV D else 0) = P at J10 hPb
        clear i0 i1 i2 i3 i4 i5 HP J9
        obtain ⟨i0, i1, i2, i3, i4, i5⟩ := J10.cells
        go_wp2_with (fail)
        have hr : Str.readI l = (P, Q, K) := by
          unfold Str.readI Str.split
          rw [hc]
          simp only [hX, hs]
          rw [← hP, ← hQ, ← hK, ← hDe]
          cases sfx <;> rfl
        clear hK hDe hQ hP
        rcases chk_two P Q K with h0 | h2
        · have hok := (chk_okRoot P Q K).1 h0
          by_cases ht : Str.text P Q K = l
          · have hp : Str.parseI l = some (P, Q, K) := by unfold Str.parseI; rw [hr]; exact if_pos ⟨hok, ht⟩
            have t := rootText_ok P Q K h0 wv (J10.env HE.out).tab
            rw [ht] at t
            have HT := Lib.hid t
            go_at_call 8
            refine HT.out.mono ?_
            rintro e w9 ⟨rfl, C9⟩
            have J11 := J10.step C9
            obtain ⟨r0, r1, r2, r3, r4, r5⟩ := J11.res
            obtain ⟨j0, j1, j2, j3, j4, j5⟩ := J11.cells
            go_wp2_with (fail)
            have hF := ((J11.1.setCell (p := ⟨w.heap.size, 0, none⟩) (.inr (Nat.le_refl _)) (.int .i64 P)).setCell (p := ⟨w.heap.size, 1, none⟩) (.inr (Nat.le_refl _)) (.int .i64 Q)).setCell (p := ⟨w.heap.size, 2, none⟩) (.inr (Nat.le_refl _)) (.int .i64 K)
            have hB := heap_setCell (heap_setCell (heap_setCell J11.2.1 0 (.int .i64 P)) 1 (.int .i64 Q)) 2 (.int .i64 K)
            generalize ((w9.setCell ⟨w.heap.size, 0, none⟩ (.int .i64 P)).setCell ⟨w.heap.size, 1, none⟩ (.int .i64 Q)).setCell ⟨w.heap.size, 2, none⟩ (.int .i64 K) = wf at hF hB ⊢
            have q0 : wf.cell? ⟨w.heap.size, 0, none⟩ = some (.int .i64 P) := cell_at hB 0
            have q1 : wf.cell? ⟨w.heap.size, 1, none⟩ = some (.int .i64 Q) := cell_at hB 1
            have q2 : wf.cell? ⟨w.heap.size, 2, none⟩ = some (.int .i64 K) := cell_at hB 2
            refine bodyPost_ret (by simp [results, Tryz.results10, go_sem, q0, q1, q2]; try rfl) rfl ?_
            exact ⟨by rw [HRES.out, hp]; rfl, hF⟩
          · have hp : Str.parseI l = none := by unfold Str.parseI; rw [hr]; exact if_neg (fun h => ht h.2)
            have hne : (Str.text P Q K == l) = false := by simpa using ht
            have HT := Lib.hid (rootText_ok P Q K h0 wv (J10.env HE.out).tab)
            go_at_call 8
            refine HT.out.mono ?_
            rintro e w9 ⟨rfl, C9⟩
            have J11 := J10.step C9
            obtain ⟨r0, r1, r2, r3, r4, r5⟩ := J11.res
            obtain ⟨j0, j1, j2, j3, j4, j5⟩ := J11.cells
            go_wp2_with (fail)
            have hF := ((J11.1.setCell (p := ⟨w.heap.size, 0, none⟩) (.inr (Nat.le_refl _)) (.int .i64 0)).setCell (p := ⟨w.heap.size, 1, none⟩) (.inr (Nat.le_refl _)) (.int .i64 0)).setCell (p := ⟨w.heap.size, 2, none⟩) (.inr (Nat.le_refl _)) (.int .i64 0)
            have hB := heap_setCell (heap_setCell (heap_setCell J11.2.1 0 (.int .i64 0)) 1 (.int .i64 0)) 2 (.int .i64 0)
            generalize ((w9.setCell ⟨w.heap.size, 0, none⟩ (.int .i64 0)).setCell ⟨w.heap.size, 1, none⟩ (.int .i64 0)).setCell ⟨w.heap.size, 2, none⟩ (.int .i64 0) = wf at hF hB ⊢
            have q0 : wf.cell? ⟨w.heap.size, 0, none⟩ = some (.int .i64 0) := cell_at hB 0
            have q1 : wf.cell? ⟨w.heap.size, 1, none⟩ = some (.int .i64 0) := cell_at hB 1
            have q2 : wf.cell? ⟨w.heap.size, 2, none⟩ = some (.int .i64 0) := cell_at hB 2
            refine bodyPost_ret (by simp [results, Tryz.results10, go_sem, q0, q1, q2]; try rfl) rfl ?_
            exact ⟨by rw [HRES.out, hp]; rfl, hF⟩
        · have hp : Str.parseI l = none := by
            unfold Str.parseI; rw [hr]
            refine if_neg (fun h => ?_)
            have := (chk_okRoot P Q K).2 h.1
            omega
          have HT := Lib.hid (rootText_bad P Q K hPb.1 hPb.2 hQb.1 hQb.2 h2 wv)
          go_at_call 8
          refine HT.out.mono ?_
          rintro e w9 ⟨rfl, C9⟩
          have J11 := J10.step C9
          obtain ⟨r0, r1, r2, r3, r4, r5⟩ := J11.res
          go_wp2_with (fail)
          have hF := ((J11.1.setCell (p := ⟨w.heap.size, 0, none⟩) (.inr (Nat.le_refl _)) (.int .i64 0)).setCell (p := ⟨w.heap.size, 1, none⟩) (.inr (Nat.le_refl _)) (.int .i64 0)).setCell (p := ⟨w.heap.size, 2, none⟩) (.inr (Nat.le_refl _)) (.int .i64 0)
          have hB := heap_setCell (heap_setCell (heap_setCell J11.2.1 0 (.int .i64 0)) 1 (.int .i64 0)) 2 (.int .i64 0)
          generalize ((w9.setCell ⟨w.heap.size, 0, none⟩ (.int .i64 0)).setCell ⟨w.heap.size, 1, none⟩ (.int .i64 0)).setCell ⟨w.heap.size, 2, none⟩ (.int .i64 0) = wf at hF hB ⊢
          have q0 : wf.cell? ⟨w.heap.size, 0, none⟩ = some (.int .i64 0) := cell_at hB 0
          have q1 : wf.cell? ⟨w.heap.size, 1, none⟩ = some (.int .i64 0) := cell_at hB 1
          have q2 : wf.cell? ⟨w.heap.size, 2, none⟩ = some (.int .i64 0) := cell_at hB 2
          refine bodyPost_ret (by simp [results, Tryz.results10, go_sem, q0, q1, q2]; try rfl) rfl ?_
          exact ⟨by rw [HRES.out, hp]; rfl, hF⟩
end Go.Proofs.YtkokikfooooiiaaGreatDoor
namespace Go.Proofs.YtkokikfooooiiaaGreatDoor
open Go.RowKit Go.Lib

theorem cut_len (l sep : List UInt8) : (cut l sep).1.length ≤ l.length ∧ (cut l sep).2.1.length ≤ l.length := by
  unfold cut
  split
  · simp; omega
  · simp
theorem trim_len (l p : List UInt8) : (trimSuffix l p).length ≤ l.length := by
  unfold trimSuffix
  split
  · simp
  · exact Nat.le_refl _

/-- The program's reader. -/
theorem rootParse (l : List UInt8) (hl : l.length < 4294967281) (w : World) (he : Env w) :
    Calls Tryz.prog 10 #[.string ⟨l.toArray⟩] w fun e w' => e = readEnd (Str.parseI l) ∧ Chg [] w w' := by
  have h := cut_len l Str.slash
  have h2 := trim_len (cut l Str.slash).1 [114]
  exact rootParse_walk l (cut l Str.slash).1 (cut l Str.slash).2.1 _ (cut l Str.slash).2.2 _ rfl hl (by omega) (by omega) rfl rfl (by omega) w he _ rfl
end Go.Proofs.YtkokikfooooiiaaGreatDoor
