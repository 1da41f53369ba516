import Derived.Test.YtkokikfooooiiaaGreatDoorP4
import Derived.Test.YtkokikfooooiiaaGreatDoorG5
import Derived.Test.YtkokikfooooiiaaGreatDoorQ2
namespace Go.Proofs.YtkokikfooooiiaaGreatDoor
open Go.RowKit Go.Lib

/-- Does a text begin with the letter r? -/
def hd : List UInt8 → Bool
  | [] => false
  | c :: _ => ((c.toNat : Int) == 114)
/-- Does a text begin with the slash's three bytes, with more behind them? -/
def sl (Y : List UInt8) : Bool := decide (3 < Y.length) && (Y.take 3 == Str.slash)

theorem ne_isEmpty {Z : List UInt8} (h : ¬ Z = []) : Z.isEmpty = false := by
  cases Z with
  | nil => exact absurd rfl h
  | cons _ _ => rfl
theorem ne_beq {a b : List UInt8} (h : ¬ a = b) : (a == b) = false := by simpa using h
theorem byte_is {l : List UInt8} {m : Nat} (h2 : m < l.length) (h3 : ((((⟨l.toArray⟩ : ByteArray)[m]'h2).toNat : Int) == 114) = true) : l[m]? = some 114 := by
  have e1 : l[m]? = some ((⟨l.toArray⟩ : ByteArray)[m]'h2) := List.getElem?_eq_getElem h2
  rw [e1]
  congr 1
  apply UInt8.toNat_inj.1
  have := eq_of_beq h3
  show _ = 114
  omega
theorem byte_not {l : List UInt8} {m : Nat} (h2 : m < l.length) (h3 : ((((⟨l.toArray⟩ : ByteArray)[m]'h2).toNat : Int) == 114) = false) : l[m]? ≠ some 114 := by
  intro e
  have e1 : l[m]? = some ((⟨l.toArray⟩ : ByteArray)[m]'h2) := List.getElem?_eq_getElem h2
  rw [e1] at e
  injection e with e
  rw [e] at h3
  cases h3

set_option maxRecDepth 100000 in
set_option maxHeartbeats 4000000 in
theorem refParse_walk (l X Y Z : List UInt8) (v P Q K u : Int) (n m : Nat) (hl : l.length < 4294967281) (hn : Str.numeral l = (v, n)) (hn0 : 0 < n) (hX : l.drop n = X) (hS : Str.second X v = (P, Q, Y)) (hU : Str.numeral (Y.drop 3) = (u, m))
    (hK : sl Y = true → K = u ∧ Z = Y.drop (3 + m)) (hK' : sl Y = false → K = 0 ∧ Z = Y)
    (w : World) (res : Ending) (hbad : sl Y = true → m = 0 ∨ 60 < u → res = readEnd none) (hres : ¬ (sl Y = true ∧ (m = 0 ∨ 60 < u)) → res = readEnd (if Str.okRoot P Q K = true ∧ Str.text P Q K = l ∧ Z = [] then some (P, Q, K) else none)) :
    Calls Tryz.prog 9 #[.string ⟨l.toArray⟩] w fun e w' => e = res ∧ Chg [] w w' := by
  have HRES := Lib.hid hres
  have HBAD := Lib.hid hbad
  have HK := Lib.hid hK
  have HK' := Lib.hid hK'
  clear hres hbad hK hK'
  have hnl : n ≤ l.length := by have := numeral_len l; rw [hn] at this; exact this
  have hXl : X.length < 4294967281 := by rw [← hX]; simp; omega
  have hYl : Y.length ≤ X.length := by have := second_len X v; rw [hS] at this; exact this
  have HN := Lib.hid (fun wx => numeral_any l hl wx)
  rw [hn] at HN
  have HM := Lib.hid (fun wx => numeral_any X hXl wx)
  have HU := Lib.hid (fun wx => (by have h := numeral_any (Y.drop 3) (by simp; omega) wx; rw [hU] at h; rw [ext_drop]; exact h : Calls Tryz.prog 20 #[.string ((⟨Y.toArray⟩ : ByteArray).extract 3 Y.length)] wx fun e w' => e = .returned (.tuple #[.int .i64 u, .int .i64 m]) ∧ w' = wx))
  have HMY := Lib.hid (fun h : 3 ≤ Y.length => (by have h2 := numeral_len (Y.drop 3); rw [hU] at h2; rw [List.length_drop] at h2; show 3 + m ≤ Y.length; have h3 : m ≤ Y.length - 3 := h2; omega : 3 + m ≤ Y.length))
  have HX := Lib.hid hX
  have HS := Lib.hid hS
  clear hX hS hn hU
  have hnz : (((n : Nat) : Int) == 0) = false := by rw [beq_eq_false_iff_ne]; omega
  have I0 := Lib.hid (InvP.start w)
  obtain ⟨i0, i1, i2, i3, i4, i5⟩ := (InvP.start w).cells
  go_enter Tryz.func9, Tryz.ntmps9
  go_upto_region 2 with fail
  have J0 := I0.out
  clear i0 i1 i2 i3 i4 i5 I0
  generalize ((w.alloc (.cells #[.int .i64 0, .int .i64 0, .int .i64 0] 23)).alloc (.cells #[.int .i64 0, .int .i64 0, .int .i64 0] 23)) = w1 at J0 ⊢
  go_wp2_with (fail)
  go_at_call 20
  refine (HN.out _).mono ?_
  rintro e w2 ⟨rfl, rfl⟩
  go_upto_region 7 with fail
  rw [ext_drop, HX.out]
  go_cut [5, 32] (fun s5 s32 wx => s5 = .string ⟨X.toArray⟩ ∧ s32 = .bool (hd X) ∧ wx = w2)
  case first =>
    cases X with
    | nil =>
      go_wp2_with fail
      go_meet
      exact ⟨rfl, rfl, rfl⟩
    | cons c r =>
      go_wp2_with fail
      go_meet
      exact ⟨rfl, by rfl, rfl⟩
  case rest =>
    obtain ⟨rfl, rfl, rfl⟩ := hcut
    obtain ⟨wz, hwz⟩ : ∃ wz, wz = wc := ⟨_, rfl⟩
    subst hwz
    go_upto_if 32 with fail
    go_cut [5] (fun s5 wx => s5 = .string ⟨Y.toArray⟩ ∧ InvP w w.heap.size (w.heap.size + 1) P Q 0 wx)
    case first =>
      obtain ⟨j0, j1, j2, j3, j4, j5⟩ := J0.cells
      cases X with
      | nil =>
        have HS2 := Lib.hid ((second_nil v).symm.trans HS.out)
        have HM2 := Lib.hid (fun wx => (HM.out wx : Calls Tryz.prog 20 #[.string ⟨#[]⟩] wx fun e w' => e = .returned (.tuple #[.int .i64 0, .int .i64 0]) ∧ w' = wx))
        clear HM
        have hb : hd [] = false := rfl
        go_wp2_with (fail)
        go_at_call 20
        refine (HM2.out _).mono ?_
        rintro e w3 ⟨rfl, rfl⟩
        go_wp2_with (fail)
        go_meet
        obtain ⟨rfl, rfl, rfl⟩ := Prod.mk.inj (HS2.out) |>.imp id Prod.mk.inj
        exact ⟨rfl, J0.set 0 _ rfl⟩
      | cons c r =>
        by_cases hc : c = 114
        · subst hc
          have HS2 := Lib.hid ((second_r r v).symm.trans HS.out)
          have hb : hd (114 :: r) = true := rfl
          go_wp2_with (fail)
          go_meet
          obtain ⟨rfl, rfl, rfl⟩ := Prod.mk.inj (HS2.out) |>.imp id Prod.mk.inj
          exact ⟨congrArg Value.string (ext_drop (114 :: r) 1), J0.set 1 _ rfl⟩
        · have hb : hd (c :: r) = false := by
            show ((c.toNat : Int) == 114) = false
            rw [beq_eq_false_iff_ne]
            intro e
            exact hc (UInt8.toNat_inj.1 (by show c.toNat = 114; omega))
          generalize hN : Str.numeral (c :: r) = nm at HM
          obtain ⟨u2, m2⟩ := nm
          have hm2 : m2 ≤ (c :: r).length := by have := numeral_len (c :: r); rw [hN] at this; exact this
          have HHIT := Lib.hid (fun h0 h1 h2 => (second_hit c r v u2 m2 hc hN h0 h1 h2).symm.trans HS.out)
          have HMISS := Lib.hid (fun h => (second_miss c r v u2 m2 hc hN h).symm.trans HS.out)
          clear hN
          have HB := Lib.hid hb
          clear hb
          go_wp2_with (fail)
          · exfalso
            have h : hd (c :: r) = true := by assumption
            rw [HB.out] at h
            cases h
          · go_at_call 20
            refine (HM.out _).mono ?_
            rintro e w3 ⟨rfl, rfl⟩
            go_wp2_with (fail)
            all_goals go_meet
            · have h2 : m2 < (c :: r).length := by rw [List.length_cons]; omega
              have h3 : ((((⟨(c :: r).toArray⟩ : ByteArray)[m2]'h2).toNat : Int) == 114) = true := by assumption
              obtain ⟨rfl, rfl, rfl⟩ := Prod.mk.inj (HHIT.out (by omega) h2 (byte_is h2 h3)) |>.imp id Prod.mk.inj
              exact ⟨congrArg Value.string (ext_drop (c :: r) (m2 + 1)), (J0.set 0 _ rfl).set 1 _ rfl⟩
            · have h2 : m2 < (c :: r).length := by rw [List.length_cons]; omega
              have h3 : ((((⟨(c :: r).toArray⟩ : ByteArray)[m2]'h2).toNat : Int) == 114) = false := by assumption
              obtain ⟨rfl, rfl, rfl⟩ := Prod.mk.inj (HMISS.out (fun h => byte_not h2 h3 h.2.2)) |>.imp id Prod.mk.inj
              exact ⟨rfl, J0.set 0 _ rfl⟩
            · obtain ⟨rfl, rfl, rfl⟩ := Prod.mk.inj (HMISS.out (fun h => by have := h.2.1; rw [List.length_cons] at this; omega)) |>.imp id Prod.mk.inj
              exact ⟨rfl, J0.set 0 _ rfl⟩
            · obtain ⟨rfl, rfl, rfl⟩ := Prod.mk.inj (HMISS.out (fun h => by have := h.1; omega)) |>.imp id Prod.mk.inj
              exact ⟨rfl, J0.set 0 _ rfl⟩
    case rest =>
      obtain ⟨rfl, J1⟩ := hcut
      obtain ⟨wy, hwy⟩ : ∃ wy, wy = wc := ⟨_, rfl⟩
      subst hwy
      clear HM J0 HN HS
      obtain ⟨j0, j1, j2, j3, j4, j5⟩ := J1.cells
      go_upto_region 15 with fail
      go_cut [5, 71] (fun s5 s71 wx => s5 = .string ⟨Y.toArray⟩ ∧ s71 = .bool (sl Y) ∧ wx = wy)
      case first =>
        go_wp2_with fail
        all_goals go_meet
        · rw [ext_take]
          refine ⟨rfl, ?_, rfl⟩
          congr 1
          unfold sl
          rw [decide_eq_true (by omega), Bool.true_and]
          simp [Str.slash]
        · refine ⟨rfl, ?_, rfl⟩
          unfold sl
          rw [decide_eq_false (by omega), Bool.false_and]
      case rest =>
        obtain ⟨rfl, rfl, rfl⟩ := hcut
        obtain ⟨wx, hwx⟩ : ∃ wx, wx = wc := ⟨_, rfl⟩
        subst hwx
        go_upto_if 71 with fail
        go_cut [5] (fun s5 wv => s5 = .string ⟨Z.toArray⟩ ∧ InvP w w.heap.size (w.heap.size + 1) P Q K wv ∧ ¬ (sl Y = true ∧ (m = 0 ∨ 60 < u)))
        case first =>
          cases hsl : sl Y
          · have HSL := Lib.hid hsl
            clear hsl
            go_wp2_with fail
            go_meet
            obtain ⟨rfl, rfl⟩ := HK'.out HSL.out
            exact ⟨rfl, J1, fun h => by have h2 := h.1; rw [HSL.out] at h2; cases h2⟩
          · have h3 : 3 < Y.length := by
              unfold sl at hsl
              rw [Bool.and_eq_true] at hsl
              exact of_decide_eq_true hsl.1
            have HSL := Lib.hid hsl
            clear hsl
            have hm : 3 + m ≤ Y.length := HMY.out (by omega)
            obtain ⟨r0, r1, r2, r3, r4, r5⟩ := J1.res
            go_wp2_with (fail)
            go_at_call 20
            refine (HU.out _).mono ?_
            rintro e w3 ⟨rfl, rfl⟩
            go_wp2_with (fail)
            · have hm0 : m = 0 := by assumption
              have hF := ((J1.1.setCell (p := ⟨w.heap.size, 0, none⟩) (.inr (Nat.le_refl _)) (.int .i64 0)).setCell (p := ⟨w.heap.size, 1, none⟩) (.inr (Nat.le_refl _)) (.int .i64 0)).setCell (p := ⟨w.heap.size, 2, none⟩) (.inr (Nat.le_refl _)) (.int .i64 0)
              have hB := heap_setCell (heap_setCell (heap_setCell J1.2.1 0 (.int .i64 0)) 1 (.int .i64 0)) 2 (.int .i64 0)
              generalize ((w3.setCell ⟨w.heap.size, 0, none⟩ (.int .i64 0)).setCell ⟨w.heap.size, 1, none⟩ (.int .i64 0)).setCell ⟨w.heap.size, 2, none⟩ (.int .i64 0) = wf at hF hB ⊢
              have q0 : wf.cell? ⟨w.heap.size, 0, none⟩ = some (.int .i64 0) := cell_at hB 0
              have q1 : wf.cell? ⟨w.heap.size, 1, none⟩ = some (.int .i64 0) := cell_at hB 1
              have q2 : wf.cell? ⟨w.heap.size, 2, none⟩ = some (.int .i64 0) := cell_at hB 2
              refine bodyPost_ret (by simp [results, Tryz.results9, go_sem, q0, q1, q2]; try rfl) rfl ?_
              exact ⟨by rw [HBAD.out HSL.out (.inl hm0)]; rfl, hF⟩
            · have hu : (((m : Nat) : Int) == 0) = true ∨ 60 < u := by assumption
              have hm0 : ¬ m = 0 := by assumption
              have hu2 : 60 < u := by
                rcases hu with h | h
                · have := eq_of_beq h; omega
                · exact h
              have hF := ((J1.1.setCell (p := ⟨w.heap.size, 0, none⟩) (.inr (Nat.le_refl _)) (.int .i64 0)).setCell (p := ⟨w.heap.size, 1, none⟩) (.inr (Nat.le_refl _)) (.int .i64 0)).setCell (p := ⟨w.heap.size, 2, none⟩) (.inr (Nat.le_refl _)) (.int .i64 0)
              have hB := heap_setCell (heap_setCell (heap_setCell J1.2.1 0 (.int .i64 0)) 1 (.int .i64 0)) 2 (.int .i64 0)
              generalize ((w3.setCell ⟨w.heap.size, 0, none⟩ (.int .i64 0)).setCell ⟨w.heap.size, 1, none⟩ (.int .i64 0)).setCell ⟨w.heap.size, 2, none⟩ (.int .i64 0) = wf at hF hB ⊢
              have q0 : wf.cell? ⟨w.heap.size, 0, none⟩ = some (.int .i64 0) := cell_at hB 0
              have q1 : wf.cell? ⟨w.heap.size, 1, none⟩ = some (.int .i64 0) := cell_at hB 1
              have q2 : wf.cell? ⟨w.heap.size, 2, none⟩ = some (.int .i64 0) := cell_at hB 2
              refine bodyPost_ret (by simp [results, Tryz.results9, go_sem, q0, q1, q2]; try rfl) rfl ?_
              exact ⟨by rw [HBAD.out HSL.out (.inr hu2)]; rfl, hF⟩
            · have hu : (((m : Nat) : Int) == 0) = false ∧ u ≤ 60 := by assumption
              have hm0 : ¬ m = 0 := by assumption
              go_meet
              obtain ⟨rfl, rfl⟩ := HK.out HSL.out
              exact ⟨congrArg Value.string (ext_drop Y (3 + m)), J1.set 2 _ rfl, fun h => by rcases h.2 with h | h <;> omega⟩
        case rest =>
          obtain ⟨rfl, J2, hns⟩ := hcut
          have HR := Lib.hid (HRES.out hns)
          obtain ⟨wv, hwv⟩ : ∃ wv, wv = wc := ⟨_, rfl⟩
          subst hwv
          clear hns J1 j0 j1 j2 j3 j4 j5 HU HMY HRES HBAD HK HK'
          obtain ⟨k0, k1, k2, k3, k4, k5⟩ := J2.cells
          rcases chk_two P Q K with h0 | h2
          · have hok := (chk_okRoot P Q K).1 h0
            have t := refText_ok P Q K h0
            by_cases ht : Str.text P Q K = l
            · rw [ht] at t
              have HT := Lib.hid t
              have HOK := Lib.hid hok
              have HTT := Lib.hid ht
              clear t hok ht h0
              by_cases hz : Z = []
              · subst hz
                go_wp2_with (fail)
                go_at_call 7
                refine (HT.out _).mono ?_
                rintro e w9 ⟨rfl, C9⟩
                have J11 := J2.step C9
                obtain ⟨r0, r1, r2, r3, r4, r5⟩ := J11.res
                obtain ⟨m0, m1, m2, m3, m4, m5⟩ := J11.cells
                go_wp2_with (fail)
                have hF := ((J11.1.setCell (p := ⟨w.heap.size, 0, none⟩) (.inr (Nat.le_refl _)) (.int .i64 P)).setCell (p := ⟨w.heap.size, 1, none⟩) (.inr (Nat.le_refl _)) (.int .i64 Q)).setCell (p := ⟨w.heap.size, 2, none⟩) (.inr (Nat.le_refl _)) (.int .i64 K)
                have hB := heap_setCell (heap_setCell (heap_setCell J11.2.1 0 (.int .i64 P)) 1 (.int .i64 Q)) 2 (.int .i64 K)
                generalize ((w9.setCell ⟨w.heap.size, 0, none⟩ (.int .i64 P)).setCell ⟨w.heap.size, 1, none⟩ (.int .i64 Q)).setCell ⟨w.heap.size, 2, none⟩ (.int .i64 K) = wf at hF hB ⊢
                have q0 : wf.cell? ⟨w.heap.size, 0, none⟩ = some (.int .i64 P) := cell_at hB 0
                have q1 : wf.cell? ⟨w.heap.size, 1, none⟩ = some (.int .i64 Q) := cell_at hB 1
                have q2 : wf.cell? ⟨w.heap.size, 2, none⟩ = some (.int .i64 K) := cell_at hB 2
                refine bodyPost_ret (by simp [results, Tryz.results9, go_sem, q0, q1, q2]; try rfl) rfl ?_
                exact ⟨by rw [HR.out, if_pos ⟨HOK.out, HTT.out, by first | trivial | rfl⟩]; rfl, hF⟩
              · have hZ1 : Z.isEmpty = false := ne_isEmpty hz
                have HZ := Lib.hid hz
                clear hz
                go_wp2_with (fail)
                go_at_call 7
                refine (HT.out _).mono ?_
                rintro e w9 ⟨rfl, C9⟩
                have J11 := J2.step C9
                obtain ⟨r0, r1, r2, r3, r4, r5⟩ := J11.res
                obtain ⟨m0, m1, m2, m3, m4, m5⟩ := J11.cells
                go_wp2_with (fail)
                have hF := ((J11.1.setCell (p := ⟨w.heap.size, 0, none⟩) (.inr (Nat.le_refl _)) (.int .i64 0)).setCell (p := ⟨w.heap.size, 1, none⟩) (.inr (Nat.le_refl _)) (.int .i64 0)).setCell (p := ⟨w.heap.size, 2, none⟩) (.inr (Nat.le_refl _)) (.int .i64 0)
                have hB := heap_setCell (heap_setCell (heap_setCell J11.2.1 0 (.int .i64 0)) 1 (.int .i64 0)) 2 (.int .i64 0)
                generalize ((w9.setCell ⟨w.heap.size, 0, none⟩ (.int .i64 0)).setCell ⟨w.heap.size, 1, none⟩ (.int .i64 0)).setCell ⟨w.heap.size, 2, none⟩ (.int .i64 0) = wf at hF hB ⊢
                have q0 : wf.cell? ⟨w.heap.size, 0, none⟩ = some (.int .i64 0) := cell_at hB 0
                have q1 : wf.cell? ⟨w.heap.size, 1, none⟩ = some (.int .i64 0) := cell_at hB 1
                have q2 : wf.cell? ⟨w.heap.size, 2, none⟩ = some (.int .i64 0) := cell_at hB 2
                refine bodyPost_ret (by simp [results, Tryz.results9, go_sem, q0, q1, q2]; try rfl) rfl ?_
                exact ⟨by rw [HR.out, if_neg (fun h => HZ.out h.2.2)]; rfl, hF⟩
            · have hne : (Str.text P Q K == l) = false := ne_beq ht
              have HT := Lib.hid t
              have HNT := Lib.hid ht
              clear t hok ht h0
              go_wp2_with (fail)
              go_at_call 7
              refine (HT.out _).mono ?_
              rintro e w9 ⟨rfl, C9⟩
              have J11 := J2.step C9
              obtain ⟨r0, r1, r2, r3, r4, r5⟩ := J11.res
              obtain ⟨m0, m1, m2, m3, m4, m5⟩ := J11.cells
              go_wp2_with (fail)
              have hF := ((J11.1.setCell (p := ⟨w.heap.size, 0, none⟩) (.inr (Nat.le_refl _)) (.int .i64 0)).setCell (p := ⟨w.heap.size, 1, none⟩) (.inr (Nat.le_refl _)) (.int .i64 0)).setCell (p := ⟨w.heap.size, 2, none⟩) (.inr (Nat.le_refl _)) (.int .i64 0)
              have hB := heap_setCell (heap_setCell (heap_setCell J11.2.1 0 (.int .i64 0)) 1 (.int .i64 0)) 2 (.int .i64 0)
              generalize ((w9.setCell ⟨w.heap.size, 0, none⟩ (.int .i64 0)).setCell ⟨w.heap.size, 1, none⟩ (.int .i64 0)).setCell ⟨w.heap.size, 2, none⟩ (.int .i64 0) = wf at hF hB ⊢
              have q0 : wf.cell? ⟨w.heap.size, 0, none⟩ = some (.int .i64 0) := cell_at hB 0
              have q1 : wf.cell? ⟨w.heap.size, 1, none⟩ = some (.int .i64 0) := cell_at hB 1
              have q2 : wf.cell? ⟨w.heap.size, 2, none⟩ = some (.int .i64 0) := cell_at hB 2
              refine bodyPost_ret (by simp [results, Tryz.results9, go_sem, q0, q1, q2]; try rfl) rfl ?_
              exact ⟨by rw [HR.out, if_neg (fun h => HNT.out h.2.1)]; rfl, hF⟩
          · have hnok : ¬ Str.okRoot P Q K = true := fun h => by
              have := (chk_okRoot P Q K).2 h
              omega
            have HT := Lib.hid (refText_bad P Q K h2)
            have HNOK := Lib.hid hnok
            clear h2 hnok
            go_wp2_with (fail)
            go_at_call 7
            refine (HT.out _).mono ?_
            rintro e w9 ⟨rfl, C9⟩
            have J11 := J2.step C9
            obtain ⟨r0, r1, r2, r3, r4, r5⟩ := J11.res
            obtain ⟨m0, m1, m2, m3, m4, m5⟩ := J11.cells
            go_wp2_with (fail)
            have hF := ((J11.1.setCell (p := ⟨w.heap.size, 0, none⟩) (.inr (Nat.le_refl _)) (.int .i64 0)).setCell (p := ⟨w.heap.size, 1, none⟩) (.inr (Nat.le_refl _)) (.int .i64 0)).setCell (p := ⟨w.heap.size, 2, none⟩) (.inr (Nat.le_refl _)) (.int .i64 0)
            have hB := heap_setCell (heap_setCell (heap_setCell J11.2.1 0 (.int .i64 0)) 1 (.int .i64 0)) 2 (.int .i64 0)
            generalize ((w9.setCell ⟨w.heap.size, 0, none⟩ (.int .i64 0)).setCell ⟨w.heap.size, 1, none⟩ (.int .i64 0)).setCell ⟨w.heap.size, 2, none⟩ (.int .i64 0) = wf at hF hB ⊢
            have q0 : wf.cell? ⟨w.heap.size, 0, none⟩ = some (.int .i64 0) := cell_at hB 0
            have q1 : wf.cell? ⟨w.heap.size, 1, none⟩ = some (.int .i64 0) := cell_at hB 1
            have q2 : wf.cell? ⟨w.heap.size, 2, none⟩ = some (.int .i64 0) := cell_at hB 2
            refine bodyPost_ret (by simp [results, Tryz.results9, go_sem, q0, q1, q2]; try rfl) rfl ?_
            exact ⟨by rw [HR.out, if_neg (fun h => HNOK.out h.1)]; rfl, hF⟩
end Go.Proofs.YtkokikfooooiiaaGreatDoor
