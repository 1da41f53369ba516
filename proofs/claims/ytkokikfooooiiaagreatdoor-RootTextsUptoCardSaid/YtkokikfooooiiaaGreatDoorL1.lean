import Derived.Test.YtkokikfooooiiaaGreatDoorQ4
import Derived.Test.YtkokikfooooiiaaGreatDoorW1
import Derived.Test.YtkokikfooooiiaaGreatDoorX4
namespace Go.Proofs.YtkokikfooooiiaaGreatDoor
open Go.RowKit Go.Lib

theorem itoa_len_le (n : Int) (h : n.natAbs < 10000000000000000) : (itoa n).length ≤ 17 := by
  by_cases hn : n < 0
  · rw [Str.itoa_neg hn]
    have := Str.len_le n.natAbs h
    simp only [List.length_cons]; omega
  · rw [Str.itoa_pos (by omega)]
    have := Str.len_le n.natAbs h
    omega
theorem text_len (p q k : Int) (h : Str.okRoot p q k = true) : (Str.text p q k).length < 4294967281 := by
  obtain ⟨a, b, c, d⟩ := Str.ok_bounds h
  have h1 := itoa_len_le p a
  have h2 := itoa_len_le q b
  have h3 := itoa_len_le k (by omega)
  unfold Str.text Str.body Str.slash
  simp only [List.length_append]
  have e1 : ∀ (c : Prop) [Decidable c] (l : List UInt8), (if c then l else []).length ≤ l.length := by
    intro c _ l
    split
    · exact Nat.le_refl _
    · exact Nat.zero_le _
  have f1 := e1 (p ≠ 0 ∨ q = 0) (itoa p)
  have f2 := e1 (q ≠ 0) ((if 0 < q ∧ p ≠ 0 then [43] else []) ++ itoa q ++ [114])
  have f3 := e1 (0 < q ∧ p ≠ 0) [43]
  have f4 := e1 (k ≠ 0) ([47, 50, 94] ++ itoa k)
  simp only [List.length_append, List.length_cons, List.length_nil] at f2 f3 f4
  omega

set_option maxRecDepth 100000 in
set_option maxHeartbeats 4000000 in
theorem law_gs (p q k : Int) (hT : chk p q k = 0) (l : List UInt8) (hl : l.length < 4294967281) (x y z : Int) (hr : Str.parseI l = some (x, y, z)) (w : World) (he : Env w) :
    Calls Tryz.prog 3 #[.agg #[.int .i64 p, .int .i64 q, .int .i64 k], .string ⟨l.toArray⟩] w fun e w' => e = .returned (.bool true) ∧ Chg [] w w' := by
  have HE := Lib.hid he
  have HA := Lib.hid (fun wx (h : Env wx) => awake_true wx h.tab)
  obtain ⟨z0, f6, f5⟩ := float_both p q k hT
  have H5 := Lib.hid f5
  have H6 := Lib.hid f6
  have H7 := Lib.hid (refText_ok p q k hT)
  have H8 := Lib.hid (fun wx (h : Env wx) => rootText_ok p q k hT wx h.tab)
  have hok := (chk_okRoot p q k).1 hT
  have t10 := fun wx (h : Env wx) => rootParse (Str.text p q k) (text_len p q k hok) wx h
  rw [Str.parseI_text hok] at t10
  have u10 : ∀ wx, Env wx → Calls Tryz.prog 10 #[.string ⟨(Str.text p q k).toArray⟩] wx fun e w' => e = .returned (.tuple #[.agg #[.int .i64 p, .int .i64 q, .int .i64 k], .int .i64 0]) ∧ Chg [] wx w' := t10
  have H10' := Lib.hid u10
  clear hok t10 u10 f5 f6 hT he
  have t9 := refParse l hl
  have t11 := fun wx (h : Env wx) => rootParse l hl wx h
  rw [← Str.parse_same, hr] at t9
  rw [hr] at t11
  have u9 : ∀ wx, Calls Tryz.prog 9 #[.string ⟨l.toArray⟩] wx fun e w' => e = .returned (.tuple #[.agg #[.int .i64 x, .int .i64 y, .int .i64 z], .int .i64 0]) ∧ Chg [] wx w' := t9
  have u11 : ∀ wx, Env wx → Calls Tryz.prog 10 #[.string ⟨l.toArray⟩] wx fun e w' => e = .returned (.tuple #[.agg #[.int .i64 x, .int .i64 y, .int .i64 z], .int .i64 0]) ∧ Chg [] wx w' := t11
  have H9 := Lib.hid u9
  have H10 := Lib.hid u11
  obtain ⟨hok2, htx⟩ := Str.parseI_some hr
  have t8 := fun wx (h : Env wx) => rootText_ok x y z ((chk_okRoot x y z).2 hok2) wx h.tab
  rw [show Str.text x y z = l from htx] at t8
  have H8' := Lib.hid t8
  clear hok2 htx t8
  clear t9 t11 u9 u11 hr hl
  have c1 := fun w => call_bits z0 w
  have I0 := Lib.hid (Inv.box p q k w)
  go_enter Tryz.func3, Tryz.ntmps3
  go_wp2_with (fail)
  have I1 := I0.out
  go_at_call 4
  refine (HA.out _ (HE.out.step I1.1)).mono ?_
  rintro e w1 ⟨rfl, C1⟩
  have I2 := I1.step C1
  obtain ⟨_, _, i0, i1, i2⟩ := id I2
  go_wp2_with (fail)
  go_at_call 5
  refine (H5.out _).mono ?_
  rintro e w2 ⟨rfl, C2⟩
  have I3 := I2.step C2
  clear i0 i1 i2
  obtain ⟨_, _, i0, i1, i2⟩ := id I3
  go_wp2_with (fail)
  go_at_call 6
  refine (H6.out _).mono ?_
  rintro e w3 ⟨rfl, C3⟩
  have I4 := I3.step C3
  clear i0 i1 i2
  obtain ⟨_, _, i0, i1, i2⟩ := id I4
  go_wp2_with (fail)
  go_at_call 7
  refine (H7.out _).mono ?_
  rintro e w4 ⟨rfl, C4⟩
  have I5 := I4.step C4
  clear i0 i1 i2
  obtain ⟨_, _, i0, i1, i2⟩ := id I5
  go_wp2_with (fail)
  go_at_call 8
  refine (H8.out _ (HE.out.step I5.1)).mono ?_
  rintro e w5 ⟨rfl, C5⟩
  have I6 := I5.step C5
  clear i0 i1 i2
  obtain ⟨_, _, i0, i1, i2⟩ := id I6
  go_wp2_with (fail)
  go_at_call 9
  refine (H9.out _).mono ?_
  rintro e w6 ⟨rfl, C6⟩
  have I7 := I6.step C6
  clear i0 i1 i2
  obtain ⟨_, _, i0, i1, i2⟩ := id I7
  have Ia := I7.step ((Chg.refl [] w6).alloc (.cells #[.int .i64 x, .int .i64 y, .int .i64 z] 23))
  have hb := heap_new w6 (.cells #[.int .i64 x, .int .i64 y, .int .i64 z] 23)
  go_wp2_with (fail)
  go_at_call 10
  refine (H10.out _ (HE.out.step Ia.1)).mono ?_
  rintro e w7 ⟨rfl, C7⟩
  have Ib := Ia.step C7
  have hb2 := C7.get hb (by simp)
  have lb := lt_of_block hb2
  have Ic := Ib.step ((Chg.refl [] w7).alloc (.cells #[.int .i64 x, .int .i64 y, .int .i64 z] 23))
  have hb3 := blk_past (.cells #[.int .i64 x, .int .i64 y, .int .i64 z] 23) hb2
  have hc3 := heap_new w7 (.cells #[.int .i64 x, .int .i64 y, .int .i64 z] 23)
  clear hb i0 i1 i2
  obtain ⟨wq, hwq⟩ : ∃ wq, wq = w7.alloc (.cells #[.int .i64 x, .int .i64 y, .int .i64 z] 23) := ⟨_, rfl⟩
  obtain ⟨_, _, i0, i1, i2⟩ := id Ic
  have b0 := cell_at hb3 0
  have b1 := cell_at hb3 1
  have b2 := cell_at hb3 2
  have d0 := cell_at hc3 0
  have d1 := cell_at hc3 1
  have d2 := cell_at hc3 2
  clear hwq
  go_wp2_with (fail)
  go_at_call 10
  refine (H10'.out _ (HE.out.step Ic.1)).mono ?_
  rintro e wA ⟨rfl, CA⟩
  have Ie := (Ic.step CA).step ((Chg.refl [] wA).alloc (.cells #[.int .i64 p, .int .i64 q, .int .i64 k] 23))
  have hc5 := blk_past (.cells #[.int .i64 p, .int .i64 q, .int .i64 k] 23) (CA.get hc3 (by simp))
  have hd5 := heap_new wA (.cells #[.int .i64 p, .int .i64 q, .int .i64 k] 23)
  clear i0 i1 i2 b0 b1 b2 d0 d1 d2
  obtain ⟨_, _, i0, i1, i2⟩ := id Ie
  have d0 := cell_at hc5 0
  have d1 := cell_at hc5 1
  have d2 := cell_at hc5 2
  have f0 := cell_at hd5 0
  have f1 := cell_at hd5 1
  have f2 := cell_at hd5 2
  go_wp2_with (fail)
  go_at_call 8
  refine (H8'.out _ (HE.out.step Ie.1)).mono ?_
  rintro e wB ⟨rfl, CB⟩
  go_wp2_with (fail)
  go_ret
  exact ⟨rfl, (Ie.step CB).1⟩

set_option maxRecDepth 100000 in
set_option maxHeartbeats 4000000 in
theorem law_gn (p q k : Int) (hT : chk p q k = 0) (l : List UInt8) (hl : l.length < 4294967281) (hr : Str.parseI l = none) (w : World) (he : Env w) :
    Calls Tryz.prog 3 #[.agg #[.int .i64 p, .int .i64 q, .int .i64 k], .string ⟨l.toArray⟩] w fun e w' => e = .returned (.bool true) ∧ Chg [] w w' := by
  have HE := Lib.hid he
  have HA := Lib.hid (fun wx (h : Env wx) => awake_true wx h.tab)
  obtain ⟨z0, f6, f5⟩ := float_both p q k hT
  have H5 := Lib.hid f5
  have H6 := Lib.hid f6
  have H7 := Lib.hid (refText_ok p q k hT)
  have H8 := Lib.hid (fun wx (h : Env wx) => rootText_ok p q k hT wx h.tab)
  have hok := (chk_okRoot p q k).1 hT
  have t10 := fun wx (h : Env wx) => rootParse (Str.text p q k) (text_len p q k hok) wx h
  rw [Str.parseI_text hok] at t10
  have u10 : ∀ wx, Env wx → Calls Tryz.prog 10 #[.string ⟨(Str.text p q k).toArray⟩] wx fun e w' => e = .returned (.tuple #[.agg #[.int .i64 p, .int .i64 q, .int .i64 k], .int .i64 0]) ∧ Chg [] wx w' := t10
  have H10' := Lib.hid u10
  clear hok t10 u10 f5 f6 hT he
  have t9 := refParse l hl
  have t11 := fun wx (h : Env wx) => rootParse l hl wx h
  rw [← Str.parse_same, hr] at t9
  rw [hr] at t11
  have u9 : ∀ wx, Calls Tryz.prog 9 #[.string ⟨l.toArray⟩] wx fun e w' => e = .returned (.tuple #[.agg #[.int .i64 0, .int .i64 0, .int .i64 0], .int .i64 22]) ∧ Chg [] wx w' := t9
  have u11 : ∀ wx, Env wx → Calls Tryz.prog 10 #[.string ⟨l.toArray⟩] wx fun e w' => e = .returned (.tuple #[.agg #[.int .i64 0, .int .i64 0, .int .i64 0], .int .i64 22]) ∧ Chg [] wx w' := t11
  have H9 := Lib.hid u9
  have H10 := Lib.hid u11
  clear t9 t11 u9 u11 hr hl
  have c1 := fun w => call_bits z0 w
  have I0 := Lib.hid (Inv.box p q k w)
  go_enter Tryz.func3, Tryz.ntmps3
  go_wp2_with (fail)
  have I1 := I0.out
  go_at_call 4
  refine (HA.out _ (HE.out.step I1.1)).mono ?_
  rintro e w1 ⟨rfl, C1⟩
  have I2 := I1.step C1
  obtain ⟨_, _, i0, i1, i2⟩ := id I2
  go_wp2_with (fail)
  go_at_call 5
  refine (H5.out _).mono ?_
  rintro e w2 ⟨rfl, C2⟩
  have I3 := I2.step C2
  clear i0 i1 i2
  obtain ⟨_, _, i0, i1, i2⟩ := id I3
  go_wp2_with (fail)
  go_at_call 6
  refine (H6.out _).mono ?_
  rintro e w3 ⟨rfl, C3⟩
  have I4 := I3.step C3
  clear i0 i1 i2
  obtain ⟨_, _, i0, i1, i2⟩ := id I4
  go_wp2_with (fail)
  go_at_call 7
  refine (H7.out _).mono ?_
  rintro e w4 ⟨rfl, C4⟩
  have I5 := I4.step C4
  clear i0 i1 i2
  obtain ⟨_, _, i0, i1, i2⟩ := id I5
  go_wp2_with (fail)
  go_at_call 8
  refine (H8.out _ (HE.out.step I5.1)).mono ?_
  rintro e w5 ⟨rfl, C5⟩
  have I6 := I5.step C5
  clear i0 i1 i2
  obtain ⟨_, _, i0, i1, i2⟩ := id I6
  go_wp2_with (fail)
  go_at_call 9
  refine (H9.out _).mono ?_
  rintro e w6 ⟨rfl, C6⟩
  have I7 := I6.step C6
  clear i0 i1 i2
  obtain ⟨_, _, i0, i1, i2⟩ := id I7
  have Ia := I7.step ((Chg.refl [] w6).alloc (.cells #[.int .i64 0, .int .i64 0, .int .i64 0] 23))
  have hb := heap_new w6 (.cells #[.int .i64 0, .int .i64 0, .int .i64 0] 23)
  go_wp2_with (fail)
  go_at_call 10
  refine (H10.out _ (HE.out.step Ia.1)).mono ?_
  rintro e w7 ⟨rfl, C7⟩
  have Ib := Ia.step C7
  have hb2 := C7.get hb (by simp)
  have lb := lt_of_block hb2
  have Ic := Ib.step ((Chg.refl [] w7).alloc (.cells #[.int .i64 0, .int .i64 0, .int .i64 0] 23))
  have hb3 := blk_past (.cells #[.int .i64 0, .int .i64 0, .int .i64 0] 23) hb2
  have hc3 := heap_new w7 (.cells #[.int .i64 0, .int .i64 0, .int .i64 0] 23)
  clear hb i0 i1 i2
  obtain ⟨wq, hwq⟩ : ∃ wq, wq = w7.alloc (.cells #[.int .i64 0, .int .i64 0, .int .i64 0] 23) := ⟨_, rfl⟩
  obtain ⟨_, _, i0, i1, i2⟩ := id Ic
  have b0 := cell_at hb3 0
  have b1 := cell_at hb3 1
  have b2 := cell_at hb3 2
  have d0 := cell_at hc3 0
  have d1 := cell_at hc3 1
  have d2 := cell_at hc3 2
  clear hwq
  go_wp2_with (fail)
  go_at_call 10
  refine (H10'.out _ (HE.out.step Ic.1)).mono ?_
  rintro e wA ⟨rfl, CA⟩
  have Ie := (Ic.step CA).step ((Chg.refl [] wA).alloc (.cells #[.int .i64 p, .int .i64 q, .int .i64 k] 23))
  have hc5 := blk_past (.cells #[.int .i64 p, .int .i64 q, .int .i64 k] 23) (CA.get hc3 (by simp))
  have hd5 := heap_new wA (.cells #[.int .i64 p, .int .i64 q, .int .i64 k] 23)
  clear i0 i1 i2 b0 b1 b2 d0 d1 d2
  obtain ⟨_, _, i0, i1, i2⟩ := id Ie
  have d0 := cell_at hc5 0
  have d1 := cell_at hc5 1
  have d2 := cell_at hc5 2
  have f0 := cell_at hd5 0
  have f1 := cell_at hd5 1
  have f2 := cell_at hd5 2
  go_wp2_with (fail)
  go_ret
  exact ⟨rfl, Ie.1⟩

set_option maxRecDepth 100000 in
set_option maxHeartbeats 4000000 in
theorem law_bs (p q k : Int) (hp : -9223372036854775808 ≤ p) (hp' : p ≤ 9223372036854775807) (hq : -9223372036854775808 ≤ q) (hq' : q ≤ 9223372036854775807) (hT : chk p q k = 2) (l : List UInt8) (hl : l.length < 4294967281) (x y z : Int) (hr : Str.parseI l = some (x, y, z)) (w : World) (he : Env w) :
    Calls Tryz.prog 3 #[.agg #[.int .i64 p, .int .i64 q, .int .i64 k], .string ⟨l.toArray⟩] w fun e w' => e = .returned (.bool true) ∧ Chg [] w w' := by
  have HE := Lib.hid he
  have HA := Lib.hid (fun wx (h : Env wx) => awake_true wx h.tab)
  have H5 := Lib.hid (refFloat_bad p q k hT)
  have H6 := Lib.hid (rootFloat_bad p q k hp hp' hq hq' hT)
  have H7 := Lib.hid (refText_bad p q k hT)
  have H8 := Lib.hid (rootText_bad p q k hp hp' hq hq' hT)
  clear hT he
  have t9 := refParse l hl
  have t11 := fun wx (h : Env wx) => rootParse l hl wx h
  rw [← Str.parse_same, hr] at t9
  rw [hr] at t11
  have u9 : ∀ wx, Calls Tryz.prog 9 #[.string ⟨l.toArray⟩] wx fun e w' => e = .returned (.tuple #[.agg #[.int .i64 x, .int .i64 y, .int .i64 z], .int .i64 0]) ∧ Chg [] wx w' := t9
  have u11 : ∀ wx, Env wx → Calls Tryz.prog 10 #[.string ⟨l.toArray⟩] wx fun e w' => e = .returned (.tuple #[.agg #[.int .i64 x, .int .i64 y, .int .i64 z], .int .i64 0]) ∧ Chg [] wx w' := t11
  have H9 := Lib.hid u9
  have H10 := Lib.hid u11
  obtain ⟨hok2, htx⟩ := Str.parseI_some hr
  have t8 := fun wx (h : Env wx) => rootText_ok x y z ((chk_okRoot x y z).2 hok2) wx h.tab
  rw [show Str.text x y z = l from htx] at t8
  have H8' := Lib.hid t8
  clear hok2 htx t8
  clear t9 t11 u9 u11 hr hl hp hp' hq hq'
  have c1 := fun w => call_bits 0 w
  have I0 := Lib.hid (Inv.box p q k w)
  go_enter Tryz.func3, Tryz.ntmps3
  go_wp2_with (fail)
  have I1 := I0.out
  go_at_call 4
  refine (HA.out _ (HE.out.step I1.1)).mono ?_
  rintro e w1 ⟨rfl, C1⟩
  have I2 := I1.step C1
  obtain ⟨_, _, i0, i1, i2⟩ := id I2
  go_wp2_with (fail)
  go_at_call 5
  refine (H5.out _).mono ?_
  rintro e w2 ⟨rfl, C2⟩
  have I3 := I2.step C2
  clear i0 i1 i2
  obtain ⟨_, _, i0, i1, i2⟩ := id I3
  go_wp2_with (fail)
  go_at_call 6
  refine (H6.out _).mono ?_
  rintro e w3 ⟨rfl, C3⟩
  have I4 := I3.step C3
  clear i0 i1 i2
  obtain ⟨_, _, i0, i1, i2⟩ := id I4
  go_wp2_with (fail)
  go_at_call 7
  refine (H7.out _).mono ?_
  rintro e w4 ⟨rfl, C4⟩
  have I5 := I4.step C4
  clear i0 i1 i2
  obtain ⟨_, _, i0, i1, i2⟩ := id I5
  go_wp2_with (fail)
  go_at_call 8
  refine (H8.out _).mono ?_
  rintro e w5 ⟨rfl, C5⟩
  have I6 := I5.step C5
  clear i0 i1 i2
  obtain ⟨_, _, i0, i1, i2⟩ := id I6
  go_wp2_with (fail)
  go_at_call 9
  refine (H9.out _).mono ?_
  rintro e w6 ⟨rfl, C6⟩
  have I7 := I6.step C6
  clear i0 i1 i2
  obtain ⟨_, _, i0, i1, i2⟩ := id I7
  have Ia := I7.step ((Chg.refl [] w6).alloc (.cells #[.int .i64 x, .int .i64 y, .int .i64 z] 23))
  have hb := heap_new w6 (.cells #[.int .i64 x, .int .i64 y, .int .i64 z] 23)
  go_wp2_with (fail)
  go_at_call 10
  refine (H10.out _ (HE.out.step Ia.1)).mono ?_
  rintro e w7 ⟨rfl, C7⟩
  have Ib := Ia.step C7
  have hb2 := C7.get hb (by simp)
  have lb := lt_of_block hb2
  have Ic := Ib.step ((Chg.refl [] w7).alloc (.cells #[.int .i64 x, .int .i64 y, .int .i64 z] 23))
  have hb3 := blk_past (.cells #[.int .i64 x, .int .i64 y, .int .i64 z] 23) hb2
  have hc3 := heap_new w7 (.cells #[.int .i64 x, .int .i64 y, .int .i64 z] 23)
  clear hb i0 i1 i2
  obtain ⟨wq, hwq⟩ : ∃ wq, wq = w7.alloc (.cells #[.int .i64 x, .int .i64 y, .int .i64 z] 23) := ⟨_, rfl⟩
  obtain ⟨_, _, i0, i1, i2⟩ := id Ic
  have b0 := cell_at hb3 0
  have b1 := cell_at hb3 1
  have b2 := cell_at hb3 2
  have d0 := cell_at hc3 0
  have d1 := cell_at hc3 1
  have d2 := cell_at hc3 2
  clear hwq
  go_wp2_with (fail)
  go_at_call 8
  refine (H8'.out _ (HE.out.step Ic.1)).mono ?_
  rintro e wB ⟨rfl, CB⟩
  go_wp2_with (fail)
  go_ret
  exact ⟨rfl, (Ic.step CB).1⟩

set_option maxRecDepth 100000 in
set_option maxHeartbeats 4000000 in
theorem law_bn (p q k : Int) (hp : -9223372036854775808 ≤ p) (hp' : p ≤ 9223372036854775807) (hq : -9223372036854775808 ≤ q) (hq' : q ≤ 9223372036854775807) (hT : chk p q k = 2) (l : List UInt8) (hl : l.length < 4294967281) (hr : Str.parseI l = none) (w : World) (he : Env w) :
    Calls Tryz.prog 3 #[.agg #[.int .i64 p, .int .i64 q, .int .i64 k], .string ⟨l.toArray⟩] w fun e w' => e = .returned (.bool true) ∧ Chg [] w w' := by
  have HE := Lib.hid he
  have HA := Lib.hid (fun wx (h : Env wx) => awake_true wx h.tab)
  have H5 := Lib.hid (refFloat_bad p q k hT)
  have H6 := Lib.hid (rootFloat_bad p q k hp hp' hq hq' hT)
  have H7 := Lib.hid (refText_bad p q k hT)
  have H8 := Lib.hid (rootText_bad p q k hp hp' hq hq' hT)
  clear hT he
  have t9 := refParse l hl
  have t11 := fun wx (h : Env wx) => rootParse l hl wx h
  rw [← Str.parse_same, hr] at t9
  rw [hr] at t11
  have u9 : ∀ wx, Calls Tryz.prog 9 #[.string ⟨l.toArray⟩] wx fun e w' => e = .returned (.tuple #[.agg #[.int .i64 0, .int .i64 0, .int .i64 0], .int .i64 22]) ∧ Chg [] wx w' := t9
  have u11 : ∀ wx, Env wx → Calls Tryz.prog 10 #[.string ⟨l.toArray⟩] wx fun e w' => e = .returned (.tuple #[.agg #[.int .i64 0, .int .i64 0, .int .i64 0], .int .i64 22]) ∧ Chg [] wx w' := t11
  have H9 := Lib.hid u9
  have H10 := Lib.hid u11
  clear t9 t11 u9 u11 hr hl hp hp' hq hq'
  have c1 := fun w => call_bits 0 w
  have I0 := Lib.hid (Inv.box p q k w)
  go_enter Tryz.func3, Tryz.ntmps3
  go_wp2_with (fail)
  have I1 := I0.out
  go_at_call 4
  refine (HA.out _ (HE.out.step I1.1)).mono ?_
  rintro e w1 ⟨rfl, C1⟩
  have I2 := I1.step C1
  obtain ⟨_, _, i0, i1, i2⟩ := id I2
  go_wp2_with (fail)
  go_at_call 5
  refine (H5.out _).mono ?_
  rintro e w2 ⟨rfl, C2⟩
  have I3 := I2.step C2
  clear i0 i1 i2
  obtain ⟨_, _, i0, i1, i2⟩ := id I3
  go_wp2_with (fail)
  go_at_call 6
  refine (H6.out _).mono ?_
  rintro e w3 ⟨rfl, C3⟩
  have I4 := I3.step C3
  clear i0 i1 i2
  obtain ⟨_, _, i0, i1, i2⟩ := id I4
  go_wp2_with (fail)
  go_at_call 7
  refine (H7.out _).mono ?_
  rintro e w4 ⟨rfl, C4⟩
  have I5 := I4.step C4
  clear i0 i1 i2
  obtain ⟨_, _, i0, i1, i2⟩ := id I5
  go_wp2_with (fail)
  go_at_call 8
  refine (H8.out _).mono ?_
  rintro e w5 ⟨rfl, C5⟩
  have I6 := I5.step C5
  clear i0 i1 i2
  obtain ⟨_, _, i0, i1, i2⟩ := id I6
  go_wp2_with (fail)
  go_at_call 9
  refine (H9.out _).mono ?_
  rintro e w6 ⟨rfl, C6⟩
  have I7 := I6.step C6
  clear i0 i1 i2
  obtain ⟨_, _, i0, i1, i2⟩ := id I7
  have Ia := I7.step ((Chg.refl [] w6).alloc (.cells #[.int .i64 0, .int .i64 0, .int .i64 0] 23))
  have hb := heap_new w6 (.cells #[.int .i64 0, .int .i64 0, .int .i64 0] 23)
  go_wp2_with (fail)
  go_at_call 10
  refine (H10.out _ (HE.out.step Ia.1)).mono ?_
  rintro e w7 ⟨rfl, C7⟩
  have Ib := Ia.step C7
  have hb2 := C7.get hb (by simp)
  have lb := lt_of_block hb2
  have Ic := Ib.step ((Chg.refl [] w7).alloc (.cells #[.int .i64 0, .int .i64 0, .int .i64 0] 23))
  have hb3 := blk_past (.cells #[.int .i64 0, .int .i64 0, .int .i64 0] 23) hb2
  have hc3 := heap_new w7 (.cells #[.int .i64 0, .int .i64 0, .int .i64 0] 23)
  clear hb i0 i1 i2
  obtain ⟨wq, hwq⟩ : ∃ wq, wq = w7.alloc (.cells #[.int .i64 0, .int .i64 0, .int .i64 0] 23) := ⟨_, rfl⟩
  obtain ⟨_, _, i0, i1, i2⟩ := id Ic
  have b0 := cell_at hb3 0
  have b1 := cell_at hb3 1
  have b2 := cell_at hb3 2
  have d0 := cell_at hc3 0
  have d1 := cell_at hc3 1
  have d2 := cell_at hc3 2
  clear hwq
  go_wp2_with (fail)
  go_ret
  exact ⟨rfl, Ic.1⟩

/-- The law's own function answers true. -/
theorem law_true (p q k : Int) (hp : -9223372036854775808 ≤ p) (hp' : p ≤ 9223372036854775807) (hq : -9223372036854775808 ≤ q) (hq' : q ≤ 9223372036854775807) (l : List UInt8) (hl : l.length < 4294967281) (w : World) (he : Env w) :
    Calls Tryz.prog 3 #[.agg #[.int .i64 p, .int .i64 q, .int .i64 k], .string ⟨l.toArray⟩] w fun e w' => e = .returned (.bool true) ∧ Chg [] w w' := by
  rcases chk_two p q k with h | h
  · cases hr : Str.parseI l with
    | none => exact law_gn p q k h l hl hr w he
    | some r => exact law_gs p q k h l hl r.1 r.2.1 r.2.2 hr w he
  · cases hr : Str.parseI l with
    | none => exact law_bn p q k hp hp' hq hq' h l hl hr w he
    | some r => exact law_bs p q k hp hp' hq hq' h l hl r.1 r.2.1 r.2.2 hr w he
end Go.Proofs.YtkokikfooooiiaaGreatDoor
