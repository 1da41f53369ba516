import Derived.Test.YtkokikfooooiiaaGreatDoorD1
import Derived.Test.YtkokikfooooiiaaGreatDoorC2
import Derived.Test.YtkokikfooooiiaaGreatDoorStr3
namespace Go.Proofs.YtkokikfooooiiaaGreatDoor
set_option linter.unusedSimpArgs false
open Go.RowKit Go.Lib

/-- A text's bytes. -/
def bs (l : List UInt8) : ByteArray := ⟨l.toArray⟩

/-- The world of a text's making: the number's box stands. -/
def Inv (p q k : Int) (B : Nat) (w wx : World) : Prop := Chg [] w wx ∧ wx.heap[B]? = some (.cells #[.int .i64 p, .int .i64 q, .int .i64 k] 23 (0, 0)) ∧ wx.cell? ⟨B, 0, none⟩ = some (.int .i64 p) ∧ wx.cell? ⟨B, 1, none⟩ = some (.int .i64 q) ∧ wx.cell? ⟨B, 2, none⟩ = some (.int .i64 k)

theorem Inv.step {p q k : Int} {B : Nat} {w wx wy : World} (h : Inv p q k B w wx) (c : Chg [] wx wy) : Inv p q k B w wy := by
  have hb := c.get h.2.1 (by simp)
  exact ⟨h.1.trans c (by simp), hb, cell_at hb 0, cell_at hb 1, cell_at hb 2⟩

theorem Inv.box (p q k : Int) (w : World) : Inv p q k w.heap.size w (w.alloc (.cells #[.int .i64 p, .int .i64 q, .int .i64 k] 23)) := by
  have hb := heap_new w (.cells #[.int .i64 p, .int .i64 q, .int .i64 k] 23)
  exact ⟨(Chg.refl _ _).alloc _, hb, cell_at hb 0, cell_at hb 1, cell_at hb 2⟩

theorem chk_two (p q k : Int) : chk p q k = 0 ∨ chk p q k = 2 := by
  unfold chk
  split
  · exact .inl rfl
  · exact .inr rfl

theorem chk_zero {p q k : Int} (h : chk p q k = 0) : -9007199254740991 ≤ p ∧ p ≤ 9007199254740991 ∧ -9007199254740991 ≤ q ∧ q ≤ 9007199254740991 ∧ 0 ≤ k ∧ k ≤ 60 := by
  unfold chk at h
  split at h
  · rename_i c; exact ⟨c.1, c.2.1, c.2.2.1, c.2.2.2.1, c.2.2.2.2.1, c.2.2.2.2.2.1⟩
  · cases h

set_option maxRecDepth 100000 in
set_option maxHeartbeats 4000000 in
theorem refText_bad (p q k : Int) (h : chk p q k = 2) (w : World) :
    Calls Tryz.prog 7 #[.agg #[.int .i64 p, .int .i64 q, .int .i64 k]] w fun e w' => e = .returned (.tuple #[.string ⟨#[]⟩, .int .i64 2]) ∧ Chg [] w w' := by
  have c := refcheck_any p q k
  rw [h] at c
  have C := Lib.hid c
  clear c
  go_enter Tryz.func7, Tryz.ntmps7
  go_wp2_with (fail)
  go_at_call 14
  refine (C.out _).mono ?_
  rintro e w1 ⟨rfl, C1⟩
  go_wp2
  go_returns
  exact ⟨rfl, ((Chg.refl _ _).alloc _).trans C1 (by simp)⟩

theorem itoa_len17 (n : Int) (h : n.natAbs < 10000000000000000) : (itoa n).length ≤ 17 := by
  have := Str.len_le n.natAbs h
  by_cases h0 : n < 0
  · rw [Str.itoa_neg h0]; simp; omega
  · rw [Str.itoa_pos (by omega)]; omega
theorem itoa_isEmpty (n : Int) : (itoa n).isEmpty = false := by
  have := Str.itoa_ne n
  cases hh : itoa n <;> simp_all
theorem ret_str {a b : ByteArray} (v : Value) (h : a.data.toList = b.data.toList) : Ending.returned (.tuple #[.string a, v]) = Ending.returned (.tuple #[.string b, v]) := by
  have : a = b := ByteArray.ext (Array.ext' h)
  rw [this]

set_option maxRecDepth 100000 in
set_option maxHeartbeats 4000000 in
theorem refText_0z0 (p q k : Int) (h : chk p q k = 0) (hp0 : p = 0) (hq0 : q = 0) (hk0 : k = 0) (w : World) :
    Calls Tryz.prog 7 #[.agg #[.int .i64 p, .int .i64 q, .int .i64 k]] w fun e w' => e = .returned (.tuple #[.string ⟨(Str.text p q k).toArray⟩, .int .i64 0]) ∧ Chg [] w w' := by
  subst hp0
  subst hq0
  subst hk0
  obtain ⟨hp, hp', hq, hq', hk, hk'⟩ := chk_zero h
  have c := refcheck_any 0 0 0
  rw [h] at c
  have C := Lib.hid (c (w.alloc (.cells #[.int .i64 0, .int .i64 0, .int .i64 0] 23)))
  clear c
  have D := Lib.hid (fun n (hn : n.natAbs < 10000000000000000) wx (hx : Inv 0 0 0 w.heap.size w wx) => (decimal_any n hn wx).mono fun e wy hy => (⟨hy.1, hx.step hy.2⟩ : e = .returned (.string ⟨(itoa n).toArray⟩) ∧ Inv 0 0 0 w.heap.size w wy))
  have I0 := Lib.hid (Inv.box 0 0 0 w)
  have lp := itoa_len17 0 (by omega)
  have lq := itoa_len17 0 (by omega)
  have lk := itoa_len17 0 (by omega)
  have e5 : (itoa 0).isEmpty = false := itoa_isEmpty 0
  have P := Lib.hid (fun wx hx => D.out 0 (by omega) wx hx)
  have Q := Lib.hid (fun wx hx => D.out 0 (by omega) wx hx)
  have K := Lib.hid (fun wx hx => D.out 0 (by omega) wx hx)
  clear h hp hp' hq hq' hk hk' D
  go_enter Tryz.func7, Tryz.ntmps7
  go_wp2_with (fail)
  go_at_call 14
  refine C.out.mono ?_
  rintro e w1 ⟨rfl, C1⟩
  have I1 := I0.out.step C1
  obtain ⟨_, _, i10, i11, i12⟩ := id I1
  go_wp2_with (fail)
  all_goals (first | (exfalso; omega) | skip)
  go_at_call 17
  refine (P.out _ I1).mono ?_
  rintro e w2 ⟨rfl, I2⟩
  obtain ⟨_, _, i20, i21, i22⟩ := id I2
  go_wp2
  all_goals (first | (exfalso; omega) | skip)
  go_returns
  refine ⟨?_, I2.1⟩
  (refine ret_str _ ?_; simp [ByteArray.data_append, Str.text, Str.body, Str.slash])
set_option maxRecDepth 100000 in
set_option maxHeartbeats 4000000 in
theorem refText_0zn (p q k : Int) (h : chk p q k = 0) (hp0 : p = 0) (hq0 : q = 0) (hk0 : k ≠ 0) (w : World) :
    Calls Tryz.prog 7 #[.agg #[.int .i64 p, .int .i64 q, .int .i64 k]] w fun e w' => e = .returned (.tuple #[.string ⟨(Str.text p q k).toArray⟩, .int .i64 0]) ∧ Chg [] w w' := by
  subst hp0
  subst hq0
  obtain ⟨hp, hp', hq, hq', hk, hk'⟩ := chk_zero h
  have c := refcheck_any 0 0 k
  rw [h] at c
  have C := Lib.hid (c (w.alloc (.cells #[.int .i64 0, .int .i64 0, .int .i64 k] 23)))
  clear c
  have D := Lib.hid (fun n (hn : n.natAbs < 10000000000000000) wx (hx : Inv 0 0 k w.heap.size w wx) => (decimal_any n hn wx).mono fun e wy hy => (⟨hy.1, hx.step hy.2⟩ : e = .returned (.string ⟨(itoa n).toArray⟩) ∧ Inv 0 0 k w.heap.size w wy))
  have I0 := Lib.hid (Inv.box 0 0 k w)
  have lp := itoa_len17 0 (by omega)
  have lq := itoa_len17 0 (by omega)
  have lk := itoa_len17 k (by omega)
  have e5 : (itoa 0).isEmpty = false := itoa_isEmpty 0
  have P := Lib.hid (fun wx hx => D.out 0 (by omega) wx hx)
  have Q := Lib.hid (fun wx hx => D.out 0 (by omega) wx hx)
  have K := Lib.hid (fun wx hx => D.out k (by omega) wx hx)
  have e4 : (k == 0) = false := by simpa using hk0
  clear h hp hp' hq hq' hk hk' D
  go_enter Tryz.func7, Tryz.ntmps7
  go_wp2_with (fail)
  go_at_call 14
  refine C.out.mono ?_
  rintro e w1 ⟨rfl, C1⟩
  have I1 := I0.out.step C1
  obtain ⟨_, _, i10, i11, i12⟩ := id I1
  go_wp2_with (fail)
  all_goals (first | (exfalso; omega) | skip)
  go_at_call 17
  refine (P.out _ I1).mono ?_
  rintro e w2 ⟨rfl, I2⟩
  obtain ⟨_, _, i20, i21, i22⟩ := id I2
  go_wp2_with (fail)
  all_goals (first | (exfalso; omega) | skip)
  go_at_call 17
  refine (K.out _ I2).mono ?_
  rintro e w3 ⟨rfl, I3⟩
  obtain ⟨_, _, i30, i31, i32⟩ := id I3
  go_wp2
  all_goals (first | (exfalso; omega) | skip)
  go_returns
  refine ⟨?_, I3.1⟩
  (refine ret_str _ ?_; simp [ByteArray.data_append, Str.text, Str.body, Str.slash, hk0])
set_option maxRecDepth 100000 in
set_option maxHeartbeats 4000000 in
theorem refText_0m0 (p q k : Int) (h : chk p q k = 0) (hp0 : p = 0) (hq0 : q < 0) (hk0 : k = 0) (w : World) :
    Calls Tryz.prog 7 #[.agg #[.int .i64 p, .int .i64 q, .int .i64 k]] w fun e w' => e = .returned (.tuple #[.string ⟨(Str.text p q k).toArray⟩, .int .i64 0]) ∧ Chg [] w w' := by
  subst hp0
  subst hk0
  obtain ⟨hp, hp', hq, hq', hk, hk'⟩ := chk_zero h
  have c := refcheck_any 0 q 0
  rw [h] at c
  have C := Lib.hid (c (w.alloc (.cells #[.int .i64 0, .int .i64 q, .int .i64 0] 23)))
  clear c
  have D := Lib.hid (fun n (hn : n.natAbs < 10000000000000000) wx (hx : Inv 0 q 0 w.heap.size w wx) => (decimal_any n hn wx).mono fun e wy hy => (⟨hy.1, hx.step hy.2⟩ : e = .returned (.string ⟨(itoa n).toArray⟩) ∧ Inv 0 q 0 w.heap.size w wy))
  have I0 := Lib.hid (Inv.box 0 q 0 w)
  have lp := itoa_len17 0 (by omega)
  have lq := itoa_len17 q (by omega)
  have lk := itoa_len17 0 (by omega)
  have e5 : (itoa 0).isEmpty = false := itoa_isEmpty 0
  have P := Lib.hid (fun wx hx => D.out 0 (by omega) wx hx)
  have Q := Lib.hid (fun wx hx => D.out q (by omega) wx hx)
  have K := Lib.hid (fun wx hx => D.out 0 (by omega) wx hx)
  have e2 : (q == 0) = false := by simp; omega
  have e3 : decide (0 < q) = false := by simp; omega
  clear h hp hp' hq hq' hk hk' D
  go_enter Tryz.func7, Tryz.ntmps7
  go_wp2_with (fail)
  go_at_call 14
  refine C.out.mono ?_
  rintro e w1 ⟨rfl, C1⟩
  have I1 := I0.out.step C1
  obtain ⟨_, _, i10, i11, i12⟩ := id I1
  go_wp2_with (fail)
  all_goals (first | (exfalso; omega) | skip)
  go_at_call 17
  refine (Q.out _ I1).mono ?_
  rintro e w2 ⟨rfl, I2⟩
  obtain ⟨_, _, i20, i21, i22⟩ := id I2
  go_wp2
  all_goals (first | (exfalso; omega) | skip)
  go_returns
  refine ⟨?_, I2.1⟩
  have hq1 : q ≠ 0 := by omega
  have hq2 : ¬ 0 < q := by omega
  (refine ret_str _ ?_; simp [ByteArray.data_append, Str.text, Str.body, Str.slash, hq1, hq2])
set_option maxRecDepth 100000 in
set_option maxHeartbeats 4000000 in
theorem refText_0mn (p q k : Int) (h : chk p q k = 0) (hp0 : p = 0) (hq0 : q < 0) (hk0 : k ≠ 0) (w : World) :
    Calls Tryz.prog 7 #[.agg #[.int .i64 p, .int .i64 q, .int .i64 k]] w fun e w' => e = .returned (.tuple #[.string ⟨(Str.text p q k).toArray⟩, .int .i64 0]) ∧ Chg [] w w' := by
  subst hp0
  obtain ⟨hp, hp', hq, hq', hk, hk'⟩ := chk_zero h
  have c := refcheck_any 0 q k
  rw [h] at c
  have C := Lib.hid (c (w.alloc (.cells #[.int .i64 0, .int .i64 q, .int .i64 k] 23)))
  clear c
  have D := Lib.hid (fun n (hn : n.natAbs < 10000000000000000) wx (hx : Inv 0 q k w.heap.size w wx) => (decimal_any n hn wx).mono fun e wy hy => (⟨hy.1, hx.step hy.2⟩ : e = .returned (.string ⟨(itoa n).toArray⟩) ∧ Inv 0 q k w.heap.size w wy))
  have I0 := Lib.hid (Inv.box 0 q k w)
  have lp := itoa_len17 0 (by omega)
  have lq := itoa_len17 q (by omega)
  have lk := itoa_len17 k (by omega)
  have e5 : (itoa 0).isEmpty = false := itoa_isEmpty 0
  have P := Lib.hid (fun wx hx => D.out 0 (by omega) wx hx)
  have Q := Lib.hid (fun wx hx => D.out q (by omega) wx hx)
  have K := Lib.hid (fun wx hx => D.out k (by omega) wx hx)
  have e2 : (q == 0) = false := by simp; omega
  have e3 : decide (0 < q) = false := by simp; omega
  have e4 : (k == 0) = false := by simpa using hk0
  clear h hp hp' hq hq' hk hk' D
  go_enter Tryz.func7, Tryz.ntmps7
  go_wp2_with (fail)
  go_at_call 14
  refine C.out.mono ?_
  rintro e w1 ⟨rfl, C1⟩
  have I1 := I0.out.step C1
  obtain ⟨_, _, i10, i11, i12⟩ := id I1
  go_wp2_with (fail)
  all_goals (first | (exfalso; omega) | skip)
  go_at_call 17
  refine (Q.out _ I1).mono ?_
  rintro e w2 ⟨rfl, I2⟩
  obtain ⟨_, _, i20, i21, i22⟩ := id I2
  go_wp2_with (fail)
  all_goals (first | (exfalso; omega) | skip)
  go_at_call 17
  refine (K.out _ I2).mono ?_
  rintro e w3 ⟨rfl, I3⟩
  obtain ⟨_, _, i30, i31, i32⟩ := id I3
  go_wp2
  all_goals (first | (exfalso; omega) | skip)
  go_returns
  refine ⟨?_, I3.1⟩
  have hq1 : q ≠ 0 := by omega
  have hq2 : ¬ 0 < q := by omega
  (refine ret_str _ ?_; simp [ByteArray.data_append, Str.text, Str.body, Str.slash, hk0, hq1, hq2])
set_option maxRecDepth 100000 in
set_option maxHeartbeats 4000000 in
theorem refText_0p0 (p q k : Int) (h : chk p q k = 0) (hp0 : p = 0) (hq0 : 0 < q) (hk0 : k = 0) (w : World) :
    Calls Tryz.prog 7 #[.agg #[.int .i64 p, .int .i64 q, .int .i64 k]] w fun e w' => e = .returned (.tuple #[.string ⟨(Str.text p q k).toArray⟩, .int .i64 0]) ∧ Chg [] w w' := by
  subst hp0
  subst hk0
  obtain ⟨hp, hp', hq, hq', hk, hk'⟩ := chk_zero h
  have c := refcheck_any 0 q 0
  rw [h] at c
  have C := Lib.hid (c (w.alloc (.cells #[.int .i64 0, .int .i64 q, .int .i64 0] 23)))
  clear c
  have D := Lib.hid (fun n (hn : n.natAbs < 10000000000000000) wx (hx : Inv 0 q 0 w.heap.size w wx) => (decimal_any n hn wx).mono fun e wy hy => (⟨hy.1, hx.step hy.2⟩ : e = .returned (.string ⟨(itoa n).toArray⟩) ∧ Inv 0 q 0 w.heap.size w wy))
  have I0 := Lib.hid (Inv.box 0 q 0 w)
  have lp := itoa_len17 0 (by omega)
  have lq := itoa_len17 q (by omega)
  have lk := itoa_len17 0 (by omega)
  have e5 : (itoa 0).isEmpty = false := itoa_isEmpty 0
  have P := Lib.hid (fun wx hx => D.out 0 (by omega) wx hx)
  have Q := Lib.hid (fun wx hx => D.out q (by omega) wx hx)
  have K := Lib.hid (fun wx hx => D.out 0 (by omega) wx hx)
  have e2 : (q == 0) = false := by simp; omega
  have e3 : decide (0 < q) = true := by simpa using hq0
  clear h hp hp' hq hq' hk hk' D
  go_enter Tryz.func7, Tryz.ntmps7
  go_wp2_with (fail)
  go_at_call 14
  refine C.out.mono ?_
  rintro e w1 ⟨rfl, C1⟩
  have I1 := I0.out.step C1
  obtain ⟨_, _, i10, i11, i12⟩ := id I1
  go_wp2_with (fail)
  all_goals (first | (exfalso; omega) | skip)
  go_at_call 17
  refine (Q.out _ I1).mono ?_
  rintro e w2 ⟨rfl, I2⟩
  obtain ⟨_, _, i20, i21, i22⟩ := id I2
  go_wp2
  all_goals (first | (exfalso; omega) | skip)
  go_returns
  refine ⟨?_, I2.1⟩
  have hq1 : q ≠ 0 := by omega
  (refine ret_str _ ?_; simp [ByteArray.data_append, Str.text, Str.body, Str.slash, hq1, hq0])
set_option maxRecDepth 100000 in
set_option maxHeartbeats 4000000 in
theorem refText_0pn (p q k : Int) (h : chk p q k = 0) (hp0 : p = 0) (hq0 : 0 < q) (hk0 : k ≠ 0) (w : World) :
    Calls Tryz.prog 7 #[.agg #[.int .i64 p, .int .i64 q, .int .i64 k]] w fun e w' => e = .returned (.tuple #[.string ⟨(Str.text p q k).toArray⟩, .int .i64 0]) ∧ Chg [] w w' := by
  subst hp0
  obtain ⟨hp, hp', hq, hq', hk, hk'⟩ := chk_zero h
  have c := refcheck_any 0 q k
  rw [h] at c
  have C := Lib.hid (c (w.alloc (.cells #[.int .i64 0, .int .i64 q, .int .i64 k] 23)))
  clear c
  have D := Lib.hid (fun n (hn : n.natAbs < 10000000000000000) wx (hx : Inv 0 q k w.heap.size w wx) => (decimal_any n hn wx).mono fun e wy hy => (⟨hy.1, hx.step hy.2⟩ : e = .returned (.string ⟨(itoa n).toArray⟩) ∧ Inv 0 q k w.heap.size w wy))
  have I0 := Lib.hid (Inv.box 0 q k w)
  have lp := itoa_len17 0 (by omega)
  have lq := itoa_len17 q (by omega)
  have lk := itoa_len17 k (by omega)
  have e5 : (itoa 0).isEmpty = false := itoa_isEmpty 0
  have P := Lib.hid (fun wx hx => D.out 0 (by omega) wx hx)
  have Q := Lib.hid (fun wx hx => D.out q (by omega) wx hx)
  have K := Lib.hid (fun wx hx => D.out k (by omega) wx hx)
  have e2 : (q == 0) = false := by simp; omega
  have e3 : decide (0 < q) = true := by simpa using hq0
  have e4 : (k == 0) = false := by simpa using hk0
  clear h hp hp' hq hq' hk hk' D
  go_enter Tryz.func7, Tryz.ntmps7
  go_wp2_with (fail)
  go_at_call 14
  refine C.out.mono ?_
  rintro e w1 ⟨rfl, C1⟩
  have I1 := I0.out.step C1
  obtain ⟨_, _, i10, i11, i12⟩ := id I1
  go_wp2_with (fail)
  all_goals (first | (exfalso; omega) | skip)
  go_at_call 17
  refine (Q.out _ I1).mono ?_
  rintro e w2 ⟨rfl, I2⟩
  obtain ⟨_, _, i20, i21, i22⟩ := id I2
  go_wp2_with (fail)
  all_goals (first | (exfalso; omega) | skip)
  go_at_call 17
  refine (K.out _ I2).mono ?_
  rintro e w3 ⟨rfl, I3⟩
  obtain ⟨_, _, i30, i31, i32⟩ := id I3
  go_wp2
  all_goals (first | (exfalso; omega) | skip)
  go_returns
  refine ⟨?_, I3.1⟩
  have hq1 : q ≠ 0 := by omega
  (refine ret_str _ ?_; simp [ByteArray.data_append, Str.text, Str.body, Str.slash, hk0, hq1, hq0])
set_option maxRecDepth 100000 in
set_option maxHeartbeats 4000000 in
theorem refText_nz0 (p q k : Int) (h : chk p q k = 0) (hp0 : p ≠ 0) (hq0 : q = 0) (hk0 : k = 0) (w : World) :
    Calls Tryz.prog 7 #[.agg #[.int .i64 p, .int .i64 q, .int .i64 k]] w fun e w' => e = .returned (.tuple #[.string ⟨(Str.text p q k).toArray⟩, .int .i64 0]) ∧ Chg [] w w' := by
  subst hq0
  subst hk0
  obtain ⟨hp, hp', hq, hq', hk, hk'⟩ := chk_zero h
  have c := refcheck_any p 0 0
  rw [h] at c
  have C := Lib.hid (c (w.alloc (.cells #[.int .i64 p, .int .i64 0, .int .i64 0] 23)))
  clear c
  have D := Lib.hid (fun n (hn : n.natAbs < 10000000000000000) wx (hx : Inv p 0 0 w.heap.size w wx) => (decimal_any n hn wx).mono fun e wy hy => (⟨hy.1, hx.step hy.2⟩ : e = .returned (.string ⟨(itoa n).toArray⟩) ∧ Inv p 0 0 w.heap.size w wy))
  have I0 := Lib.hid (Inv.box p 0 0 w)
  have lp := itoa_len17 p (by omega)
  have lq := itoa_len17 0 (by omega)
  have lk := itoa_len17 0 (by omega)
  have e5 : (itoa p).isEmpty = false := itoa_isEmpty p
  have P := Lib.hid (fun wx hx => D.out p (by omega) wx hx)
  have Q := Lib.hid (fun wx hx => D.out 0 (by omega) wx hx)
  have K := Lib.hid (fun wx hx => D.out 0 (by omega) wx hx)
  have e1 : (p == 0) = false := by simpa using hp0
  clear h hp hp' hq hq' hk hk' D
  go_enter Tryz.func7, Tryz.ntmps7
  go_wp2_with (fail)
  go_at_call 14
  refine C.out.mono ?_
  rintro e w1 ⟨rfl, C1⟩
  have I1 := I0.out.step C1
  obtain ⟨_, _, i10, i11, i12⟩ := id I1
  go_wp2_with (fail)
  all_goals (first | (exfalso; omega) | skip)
  go_at_call 17
  refine (P.out _ I1).mono ?_
  rintro e w2 ⟨rfl, I2⟩
  obtain ⟨_, _, i20, i21, i22⟩ := id I2
  go_wp2
  all_goals (first | (exfalso; omega) | skip)
  go_returns
  refine ⟨?_, I2.1⟩
  (refine ret_str _ ?_; simp [ByteArray.data_append, Str.text, Str.body, Str.slash, hp0])
set_option maxRecDepth 100000 in
set_option maxHeartbeats 4000000 in
theorem refText_nzn (p q k : Int) (h : chk p q k = 0) (hp0 : p ≠ 0) (hq0 : q = 0) (hk0 : k ≠ 0) (w : World) :
    Calls Tryz.prog 7 #[.agg #[.int .i64 p, .int .i64 q, .int .i64 k]] w fun e w' => e = .returned (.tuple #[.string ⟨(Str.text p q k).toArray⟩, .int .i64 0]) ∧ Chg [] w w' := by
  subst hq0
  obtain ⟨hp, hp', hq, hq', hk, hk'⟩ := chk_zero h
  have c := refcheck_any p 0 k
  rw [h] at c
  have C := Lib.hid (c (w.alloc (.cells #[.int .i64 p, .int .i64 0, .int .i64 k] 23)))
  clear c
  have D := Lib.hid (fun n (hn : n.natAbs < 10000000000000000) wx (hx : Inv p 0 k w.heap.size w wx) => (decimal_any n hn wx).mono fun e wy hy => (⟨hy.1, hx.step hy.2⟩ : e = .returned (.string ⟨(itoa n).toArray⟩) ∧ Inv p 0 k w.heap.size w wy))
  have I0 := Lib.hid (Inv.box p 0 k w)
  have lp := itoa_len17 p (by omega)
  have lq := itoa_len17 0 (by omega)
  have lk := itoa_len17 k (by omega)
  have e5 : (itoa p).isEmpty = false := itoa_isEmpty p
  have P := Lib.hid (fun wx hx => D.out p (by omega) wx hx)
  have Q := Lib.hid (fun wx hx => D.out 0 (by omega) wx hx)
  have K := Lib.hid (fun wx hx => D.out k (by omega) wx hx)
  have e1 : (p == 0) = false := by simpa using hp0
  have e4 : (k == 0) = false := by simpa using hk0
  clear h hp hp' hq hq' hk hk' D
  go_enter Tryz.func7, Tryz.ntmps7
  go_wp2_with (fail)
  go_at_call 14
  refine C.out.mono ?_
  rintro e w1 ⟨rfl, C1⟩
  have I1 := I0.out.step C1
  obtain ⟨_, _, i10, i11, i12⟩ := id I1
  go_wp2_with (fail)
  all_goals (first | (exfalso; omega) | skip)
  go_at_call 17
  refine (P.out _ I1).mono ?_
  rintro e w2 ⟨rfl, I2⟩
  obtain ⟨_, _, i20, i21, i22⟩ := id I2
  go_wp2_with (fail)
  all_goals (first | (exfalso; omega) | skip)
  go_at_call 17
  refine (K.out _ I2).mono ?_
  rintro e w3 ⟨rfl, I3⟩
  obtain ⟨_, _, i30, i31, i32⟩ := id I3
  go_wp2
  all_goals (first | (exfalso; omega) | skip)
  go_returns
  refine ⟨?_, I3.1⟩
  (refine ret_str _ ?_; simp [ByteArray.data_append, Str.text, Str.body, Str.slash, hp0, hk0])
set_option maxRecDepth 100000 in
set_option maxHeartbeats 4000000 in
theorem refText_nm0 (p q k : Int) (h : chk p q k = 0) (hp0 : p ≠ 0) (hq0 : q < 0) (hk0 : k = 0) (w : World) :
    Calls Tryz.prog 7 #[.agg #[.int .i64 p, .int .i64 q, .int .i64 k]] w fun e w' => e = .returned (.tuple #[.string ⟨(Str.text p q k).toArray⟩, .int .i64 0]) ∧ Chg [] w w' := by
  subst hk0
  obtain ⟨hp, hp', hq, hq', hk, hk'⟩ := chk_zero h
  have c := refcheck_any p q 0
  rw [h] at c
  have C := Lib.hid (c (w.alloc (.cells #[.int .i64 p, .int .i64 q, .int .i64 0] 23)))
  clear c
  have D := Lib.hid (fun n (hn : n.natAbs < 10000000000000000) wx (hx : Inv p q 0 w.heap.size w wx) => (decimal_any n hn wx).mono fun e wy hy => (⟨hy.1, hx.step hy.2⟩ : e = .returned (.string ⟨(itoa n).toArray⟩) ∧ Inv p q 0 w.heap.size w wy))
  have I0 := Lib.hid (Inv.box p q 0 w)
  have lp := itoa_len17 p (by omega)
  have lq := itoa_len17 q (by omega)
  have lk := itoa_len17 0 (by omega)
  have e5 : (itoa p).isEmpty = false := itoa_isEmpty p
  have P := Lib.hid (fun wx hx => D.out p (by omega) wx hx)
  have Q := Lib.hid (fun wx hx => D.out q (by omega) wx hx)
  have K := Lib.hid (fun wx hx => D.out 0 (by omega) wx hx)
  have e1 : (p == 0) = false := by simpa using hp0
  have e2 : (q == 0) = false := by simp; omega
  have e3 : decide (0 < q) = false := by simp; omega
  clear h hp hp' hq hq' hk hk' D
  go_enter Tryz.func7, Tryz.ntmps7
  go_wp2_with (fail)
  go_at_call 14
  refine C.out.mono ?_
  rintro e w1 ⟨rfl, C1⟩
  have I1 := I0.out.step C1
  obtain ⟨_, _, i10, i11, i12⟩ := id I1
  go_wp2_with (fail)
  all_goals (first | (exfalso; omega) | skip)
  go_at_call 17
  refine (P.out _ I1).mono ?_
  rintro e w2 ⟨rfl, I2⟩
  obtain ⟨_, _, i20, i21, i22⟩ := id I2
  go_wp2_with (fail)
  all_goals (first | (exfalso; omega) | skip)
  go_at_call 17
  refine (Q.out _ I2).mono ?_
  rintro e w3 ⟨rfl, I3⟩
  obtain ⟨_, _, i30, i31, i32⟩ := id I3
  go_wp2
  all_goals (first | (exfalso; omega) | skip)
  go_returns
  refine ⟨?_, I3.1⟩
  have hq1 : q ≠ 0 := by omega
  have hq2 : ¬ 0 < q := by omega
  (refine ret_str _ ?_; simp [ByteArray.data_append, Str.text, Str.body, Str.slash, hp0, hq1, hq2])
set_option maxRecDepth 100000 in
set_option maxHeartbeats 4000000 in
theorem refText_nmn (p q k : Int) (h : chk p q k = 0) (hp0 : p ≠ 0) (hq0 : q < 0) (hk0 : k ≠ 0) (w : World) :
    Calls Tryz.prog 7 #[.agg #[.int .i64 p, .int .i64 q, .int .i64 k]] w fun e w' => e = .returned (.tuple #[.string ⟨(Str.text p q k).toArray⟩, .int .i64 0]) ∧ Chg [] w w' := by
  obtain ⟨hp, hp', hq, hq', hk, hk'⟩ := chk_zero h
  have c := refcheck_any p q k
  rw [h] at c
  have C := Lib.hid (c (w.alloc (.cells #[.int .i64 p, .int .i64 q, .int .i64 k] 23)))
  clear c
  have D := Lib.hid (fun n (hn : n.natAbs < 10000000000000000) wx (hx : Inv p q k w.heap.size w wx) => (decimal_any n hn wx).mono fun e wy hy => (⟨hy.1, hx.step hy.2⟩ : e = .returned (.string ⟨(itoa n).toArray⟩) ∧ Inv p q k w.heap.size w wy))
  have I0 := Lib.hid (Inv.box p q k w)
  have lp := itoa_len17 p (by omega)
  have lq := itoa_len17 q (by omega)
  have lk := itoa_len17 k (by omega)
  have e5 : (itoa p).isEmpty = false := itoa_isEmpty p
  have P := Lib.hid (fun wx hx => D.out p (by omega) wx hx)
  have Q := Lib.hid (fun wx hx => D.out q (by omega) wx hx)
  have K := Lib.hid (fun wx hx => D.out k (by omega) wx hx)
  have e1 : (p == 0) = false := by simpa using hp0
  have e2 : (q == 0) = false := by simp; omega
  have e3 : decide (0 < q) = false := by simp; omega
  have e4 : (k == 0) = false := by simpa using hk0
  clear h hp hp' hq hq' hk hk' D
  go_enter Tryz.func7, Tryz.ntmps7
  go_wp2_with (fail)
  go_at_call 14
  refine C.out.mono ?_
  rintro e w1 ⟨rfl, C1⟩
  have I1 := I0.out.step C1
  obtain ⟨_, _, i10, i11, i12⟩ := id I1
  go_wp2_with (fail)
  all_goals (first | (exfalso; omega) | skip)
  go_at_call 17
  refine (P.out _ I1).mono ?_
  rintro e w2 ⟨rfl, I2⟩
  obtain ⟨_, _, i20, i21, i22⟩ := id I2
  go_wp2_with (fail)
  all_goals (first | (exfalso; omega) | skip)
  go_at_call 17
  refine (Q.out _ I2).mono ?_
  rintro e w3 ⟨rfl, I3⟩
  obtain ⟨_, _, i30, i31, i32⟩ := id I3
  go_wp2_with (fail)
  all_goals (first | (exfalso; omega) | skip)
  go_at_call 17
  refine (K.out _ I3).mono ?_
  rintro e w4 ⟨rfl, I4⟩
  obtain ⟨_, _, i40, i41, i42⟩ := id I4
  go_wp2
  all_goals (first | (exfalso; omega) | skip)
  go_returns
  refine ⟨?_, I4.1⟩
  have hq1 : q ≠ 0 := by omega
  have hq2 : ¬ 0 < q := by omega
  (refine ret_str _ ?_; simp [ByteArray.data_append, Str.text, Str.body, Str.slash, hp0, hk0, hq1, hq2])
set_option maxRecDepth 100000 in
set_option maxHeartbeats 4000000 in
theorem refText_np0 (p q k : Int) (h : chk p q k = 0) (hp0 : p ≠ 0) (hq0 : 0 < q) (hk0 : k = 0) (w : World) :
    Calls Tryz.prog 7 #[.agg #[.int .i64 p, .int .i64 q, .int .i64 k]] w fun e w' => e = .returned (.tuple #[.string ⟨(Str.text p q k).toArray⟩, .int .i64 0]) ∧ Chg [] w w' := by
  subst hk0
  obtain ⟨hp, hp', hq, hq', hk, hk'⟩ := chk_zero h
  have c := refcheck_any p q 0
  rw [h] at c
  have C := Lib.hid (c (w.alloc (.cells #[.int .i64 p, .int .i64 q, .int .i64 0] 23)))
  clear c
  have D := Lib.hid (fun n (hn : n.natAbs < 10000000000000000) wx (hx : Inv p q 0 w.heap.size w wx) => (decimal_any n hn wx).mono fun e wy hy => (⟨hy.1, hx.step hy.2⟩ : e = .returned (.string ⟨(itoa n).toArray⟩) ∧ Inv p q 0 w.heap.size w wy))
  have I0 := Lib.hid (Inv.box p q 0 w)
  have lp := itoa_len17 p (by omega)
  have lq := itoa_len17 q (by omega)
  have lk := itoa_len17 0 (by omega)
  have e5 : (itoa p).isEmpty = false := itoa_isEmpty p
  have P := Lib.hid (fun wx hx => D.out p (by omega) wx hx)
  have Q := Lib.hid (fun wx hx => D.out q (by omega) wx hx)
  have K := Lib.hid (fun wx hx => D.out 0 (by omega) wx hx)
  have e1 : (p == 0) = false := by simpa using hp0
  have e2 : (q == 0) = false := by simp; omega
  have e3 : decide (0 < q) = true := by simpa using hq0
  clear h hp hp' hq hq' hk hk' D
  go_enter Tryz.func7, Tryz.ntmps7
  go_wp2_with (fail)
  go_at_call 14
  refine C.out.mono ?_
  rintro e w1 ⟨rfl, C1⟩
  have I1 := I0.out.step C1
  obtain ⟨_, _, i10, i11, i12⟩ := id I1
  go_wp2_with (fail)
  all_goals (first | (exfalso; omega) | skip)
  go_at_call 17
  refine (P.out _ I1).mono ?_
  rintro e w2 ⟨rfl, I2⟩
  obtain ⟨_, _, i20, i21, i22⟩ := id I2
  go_wp2_with (fail)
  all_goals (first | (exfalso; omega) | skip)
  go_at_call 17
  refine (Q.out _ I2).mono ?_
  rintro e w3 ⟨rfl, I3⟩
  obtain ⟨_, _, i30, i31, i32⟩ := id I3
  go_wp2
  all_goals (first | (exfalso; omega) | skip)
  go_returns
  refine ⟨?_, I3.1⟩
  have hq1 : q ≠ 0 := by omega
  (refine ret_str _ ?_; simp [ByteArray.data_append, Str.text, Str.body, Str.slash, hp0, hq1, hq0])
set_option maxRecDepth 100000 in
set_option maxHeartbeats 4000000 in
theorem refText_npn (p q k : Int) (h : chk p q k = 0) (hp0 : p ≠ 0) (hq0 : 0 < q) (hk0 : k ≠ 0) (w : World) :
    Calls Tryz.prog 7 #[.agg #[.int .i64 p, .int .i64 q, .int .i64 k]] w fun e w' => e = .returned (.tuple #[.string ⟨(Str.text p q k).toArray⟩, .int .i64 0]) ∧ Chg [] w w' := by
  obtain ⟨hp, hp', hq, hq', hk, hk'⟩ := chk_zero h
  have c := refcheck_any p q k
  rw [h] at c
  have C := Lib.hid (c (w.alloc (.cells #[.int .i64 p, .int .i64 q, .int .i64 k] 23)))
  clear c
  have D := Lib.hid (fun n (hn : n.natAbs < 10000000000000000) wx (hx : Inv p q k w.heap.size w wx) => (decimal_any n hn wx).mono fun e wy hy => (⟨hy.1, hx.step hy.2⟩ : e = .returned (.string ⟨(itoa n).toArray⟩) ∧ Inv p q k w.heap.size w wy))
  have I0 := Lib.hid (Inv.box p q k w)
  have lp := itoa_len17 p (by omega)
  have lq := itoa_len17 q (by omega)
  have lk := itoa_len17 k (by omega)
  have e5 : (itoa p).isEmpty = false := itoa_isEmpty p
  have P := Lib.hid (fun wx hx => D.out p (by omega) wx hx)
  have Q := Lib.hid (fun wx hx => D.out q (by omega) wx hx)
  have K := Lib.hid (fun wx hx => D.out k (by omega) wx hx)
  have e1 : (p == 0) = false := by simpa using hp0
  have e2 : (q == 0) = false := by simp; omega
  have e3 : decide (0 < q) = true := by simpa using hq0
  have e4 : (k == 0) = false := by simpa using hk0
  clear h hp hp' hq hq' hk hk' D
  go_enter Tryz.func7, Tryz.ntmps7
  go_wp2_with (fail)
  go_at_call 14
  refine C.out.mono ?_
  rintro e w1 ⟨rfl, C1⟩
  have I1 := I0.out.step C1
  obtain ⟨_, _, i10, i11, i12⟩ := id I1
  go_wp2_with (fail)
  all_goals (first | (exfalso; omega) | skip)
  go_at_call 17
  refine (P.out _ I1).mono ?_
  rintro e w2 ⟨rfl, I2⟩
  obtain ⟨_, _, i20, i21, i22⟩ := id I2
  go_wp2_with (fail)
  all_goals (first | (exfalso; omega) | skip)
  go_at_call 17
  refine (Q.out _ I2).mono ?_
  rintro e w3 ⟨rfl, I3⟩
  obtain ⟨_, _, i30, i31, i32⟩ := id I3
  go_wp2_with (fail)
  all_goals (first | (exfalso; omega) | skip)
  go_at_call 17
  refine (K.out _ I3).mono ?_
  rintro e w4 ⟨rfl, I4⟩
  obtain ⟨_, _, i40, i41, i42⟩ := id I4
  go_wp2
  all_goals (first | (exfalso; omega) | skip)
  go_returns
  refine ⟨?_, I4.1⟩
  have hq1 : q ≠ 0 := by omega
  (refine ret_str _ ?_; simp [ByteArray.data_append, Str.text, Str.body, Str.slash, hp0, hk0, hq1, hq0])
end Go.Proofs.YtkokikfooooiiaaGreatDoor
