import Derived.Test.YtkokikfooooiiaaGreatDoorX1
import Derived.Test.YtkokikfooooiiaaGreatDoorC2
import Derived.Test.YtkokikfooooiiaaGreatDoorShelf
import Derived.Lib.AppendIntMem
import Derived.Lib.SmallJoins
namespace Go.Proofs.YtkokikfooooiiaaGreatDoor
set_option linter.unusedSimpArgs false
open Go.RowKit Go.Lib

/-- The table of the powers of ten lies as its initialiser lays it. -/
def Tab (w : World) : Prop := Lib.TabIs Tryz.prog w "internal/strconv.uint64pow10" .u64 Lib.pow10Tab

theorem Tab.step {w w' : World} (h : Tab w) (c : Chg [] w w') : Tab w' := by
  have hs : (Tryz.prog.globalNamed "internal/strconv.uint64pow10").isSome = true := by kernel_rfl
  obtain ⟨g, hg⟩ := Option.isSome_iff_exists.1 hs
  exact Go.Joins.tab_stays hg h (c.below (B := w.heap.size) (by simp) (Nat.le_refl _)) (Nat.le_refl _)

def InvT (p q k : Int) (B : Nat) (w wx : World) : Prop := Inv p q k B w wx ∧ Tab wx

theorem InvT.step {p q k : Int} {B : Nat} {w wx wy : World} (h : InvT p q k B w wx) (c : Chg [] wx wy) : InvT p q k B w wy := ⟨h.1.step c, h.2.step c⟩
theorem InvT.box (p q k : Int) (w : World) (h : Tab w) : InvT p q k w.heap.size w (w.alloc (.cells #[.int .i64 p, .int .i64 q, .int .i64 k] 23)) := ⟨Inv.box p q k w, h.step ((Chg.refl _ _).alloc _)⟩

theorem format_t {p q k : Int} {B : Nat} {w : World} (n : Int) (hn : n.natAbs < 10000000000000000) (wx : World) (hx : InvT p q k B w wx) : Calls Tryz.prog 18 #[.int .i64 n, .int .i64 10] wx fun e wy => e = .returned (.string ⟨(itoa n).toArray⟩) ∧ InvT p q k B w wy := by
  refine (Tryz.strconv_FormatInt_10 n (by omega) (by omega) wx hx.2).mono ?_
  rintro e wy ⟨rfl, d, os, rfl⟩
  exact ⟨rfl, hx.step (Chg.of_below (below_grow _ _ (Nat.le_refl _) _ _))⟩
theorem itoa_t {p q k : Int} {B : Nat} {w : World} (n : Int) (hn : n.natAbs < 10000000000000000) (wx : World) (hx : InvT p q k B w wx) : Calls Tryz.prog 19 #[.int .i64 n] wx fun e wy => e = .returned (.string ⟨(itoa n).toArray⟩) ∧ InvT p q k B w wy := by
  refine (Tryz.strconv_Itoa n (by omega) (by omega) wx hx.2).mono ?_
  rintro e wy ⟨rfl, d, os, rfl⟩
  exact ⟨rfl, hx.step (Chg.of_below (below_grow _ _ (Nat.le_refl _) _ _))⟩

set_option maxRecDepth 100000 in
set_option maxHeartbeats 4000000 in
theorem rootText_bad (p q k : Int) (hp : -9223372036854775808 ≤ p) (hp' : p ≤ 9223372036854775807) (hq : -9223372036854775808 ≤ q) (hq' : q ≤ 9223372036854775807) (h : chk p q k = 2) (w : World) :
    Calls Tryz.prog 8 #[.agg #[.int .i64 p, .int .i64 q, .int .i64 k]] w fun e w' => e = .returned (.tuple #[.string ⟨#[]⟩, .int .i64 2]) ∧ Chg [] w w' := by
  have c := check_any p q k hp hp' hq hq'
  rw [h] at c
  have C := Lib.hid c
  clear c
  go_enter Tryz.func8, Tryz.ntmps8
  go_wp2_with (fail)
  go_at_call 15
  refine (C.out _).mono ?_
  rintro e w1 ⟨rfl, C1⟩
  go_wp2
  go_returns
  exact ⟨rfl, ((Chg.refl _ _).alloc _).trans C1 (by simp)⟩

set_option maxRecDepth 100000 in
set_option maxHeartbeats 4000000 in
theorem rootText_0z0 (p q k : Int) (h : chk p q k = 0) (hp0 : p = 0) (hq0 : q = 0) (hk0 : k = 0) (w : World) (ht : Tab w) :
    Calls Tryz.prog 8 #[.agg #[.int .i64 p, .int .i64 q, .int .i64 k]] w fun e w' => e = .returned (.tuple #[.string ⟨(Str.text p q k).toArray⟩, .int .i64 0]) ∧ Chg [] w w' := by
  subst hp0
  subst hq0
  subst hk0
  obtain ⟨hp, hp', hq, hq', hk, hk'⟩ := chk_zero h
  have c := check_any 0 0 0 (by omega) (by omega) (by omega) (by omega)
  rw [h] at c
  have C := Lib.hid (c (w.alloc (.cells #[.int .i64 0, .int .i64 0, .int .i64 0] 23)))
  clear c
  have D := Lib.hid (fun n (hn : n.natAbs < 10000000000000000) wx (hx : InvT 0 0 0 w.heap.size w wx) => format_t n hn wx hx)
  have DK := Lib.hid (fun n (hn : n.natAbs < 10000000000000000) wx (hx : InvT 0 0 0 w.heap.size w wx) => itoa_t n hn wx hx)
  have I0 := Lib.hid (InvT.box 0 0 0 w ht)
  have lp := itoa_len17 0 (by omega)
  have lq := itoa_len17 0 (by omega)
  have lk := itoa_len17 0 (by omega)
  have e5 : (itoa 0).isEmpty = false := itoa_isEmpty 0
  have P := Lib.hid (fun wx hx => D.out 0 (by omega) wx hx)
  have Q := Lib.hid (fun wx hx => D.out 0 (by omega) wx hx)
  have K := Lib.hid (fun wx hx => DK.out 0 (by omega) wx hx)
  clear h hp hp' hq hq' hk hk' D DK ht
  go_enter Tryz.func8, Tryz.ntmps8
  go_wp2_with (fail)
  go_at_call 15
  refine C.out.mono ?_
  rintro e w1 ⟨rfl, C1⟩
  have I1 := I0.out.step C1
  obtain ⟨⟨_, _, i10, i11, i12⟩, _⟩ := id I1
  go_wp2_with (fail)
  all_goals (first | (exfalso; omega) | skip)
  go_at_call 18
  refine (P.out _ I1).mono ?_
  rintro e w2 ⟨rfl, I2⟩
  obtain ⟨⟨_, _, i20, i21, i22⟩, _⟩ := id I2
  go_wp2
  all_goals (first | (exfalso; omega) | skip)
  go_returns
  refine ⟨?_, I2.1.1⟩
  (refine ret_str _ ?_; simp [ByteArray.data_append, Str.text, Str.body, Str.slash])
set_option maxRecDepth 100000 in
set_option maxHeartbeats 4000000 in
theorem rootText_0zn (p q k : Int) (h : chk p q k = 0) (hp0 : p = 0) (hq0 : q = 0) (hk0 : k ≠ 0) (w : World) (ht : Tab w) :
    Calls Tryz.prog 8 #[.agg #[.int .i64 p, .int .i64 q, .int .i64 k]] w fun e w' => e = .returned (.tuple #[.string ⟨(Str.text p q k).toArray⟩, .int .i64 0]) ∧ Chg [] w w' := by
  subst hp0
  subst hq0
  obtain ⟨hp, hp', hq, hq', hk, hk'⟩ := chk_zero h
  have c := check_any 0 0 k (by omega) (by omega) (by omega) (by omega)
  rw [h] at c
  have C := Lib.hid (c (w.alloc (.cells #[.int .i64 0, .int .i64 0, .int .i64 k] 23)))
  clear c
  have D := Lib.hid (fun n (hn : n.natAbs < 10000000000000000) wx (hx : InvT 0 0 k w.heap.size w wx) => format_t n hn wx hx)
  have DK := Lib.hid (fun n (hn : n.natAbs < 10000000000000000) wx (hx : InvT 0 0 k w.heap.size w wx) => itoa_t n hn wx hx)
  have I0 := Lib.hid (InvT.box 0 0 k w ht)
  have lp := itoa_len17 0 (by omega)
  have lq := itoa_len17 0 (by omega)
  have lk := itoa_len17 k (by omega)
  have e5 : (itoa 0).isEmpty = false := itoa_isEmpty 0
  have P := Lib.hid (fun wx hx => D.out 0 (by omega) wx hx)
  have Q := Lib.hid (fun wx hx => D.out 0 (by omega) wx hx)
  have K := Lib.hid (fun wx hx => DK.out k (by omega) wx hx)
  have e4 : (k == 0) = false := by simpa using hk0
  clear h hp hp' hq hq' hk hk' D DK ht
  go_enter Tryz.func8, Tryz.ntmps8
  go_wp2_with (fail)
  go_at_call 15
  refine C.out.mono ?_
  rintro e w1 ⟨rfl, C1⟩
  have I1 := I0.out.step C1
  obtain ⟨⟨_, _, i10, i11, i12⟩, _⟩ := id I1
  go_wp2_with (fail)
  all_goals (first | (exfalso; omega) | skip)
  go_at_call 18
  refine (P.out _ I1).mono ?_
  rintro e w2 ⟨rfl, I2⟩
  obtain ⟨⟨_, _, i20, i21, i22⟩, _⟩ := id I2
  go_wp2_with (fail)
  all_goals (first | (exfalso; omega) | skip)
  go_at_call 19
  refine (K.out _ I2).mono ?_
  rintro e w3 ⟨rfl, I3⟩
  obtain ⟨⟨_, _, i30, i31, i32⟩, _⟩ := id I3
  go_wp2
  all_goals (first | (exfalso; omega) | skip)
  go_returns
  refine ⟨?_, I3.1.1⟩
  (refine ret_str _ ?_; simp [ByteArray.data_append, Str.text, Str.body, Str.slash, hk0])
set_option maxRecDepth 100000 in
set_option maxHeartbeats 4000000 in
theorem rootText_0m0 (p q k : Int) (h : chk p q k = 0) (hp0 : p = 0) (hq0 : q < 0) (hk0 : k = 0) (w : World) (ht : Tab w) :
    Calls Tryz.prog 8 #[.agg #[.int .i64 p, .int .i64 q, .int .i64 k]] w fun e w' => e = .returned (.tuple #[.string ⟨(Str.text p q k).toArray⟩, .int .i64 0]) ∧ Chg [] w w' := by
  subst hp0
  subst hk0
  obtain ⟨hp, hp', hq, hq', hk, hk'⟩ := chk_zero h
  have c := check_any 0 q 0 (by omega) (by omega) (by omega) (by omega)
  rw [h] at c
  have C := Lib.hid (c (w.alloc (.cells #[.int .i64 0, .int .i64 q, .int .i64 0] 23)))
  clear c
  have D := Lib.hid (fun n (hn : n.natAbs < 10000000000000000) wx (hx : InvT 0 q 0 w.heap.size w wx) => format_t n hn wx hx)
  have DK := Lib.hid (fun n (hn : n.natAbs < 10000000000000000) wx (hx : InvT 0 q 0 w.heap.size w wx) => itoa_t n hn wx hx)
  have I0 := Lib.hid (InvT.box 0 q 0 w ht)
  have lp := itoa_len17 0 (by omega)
  have lq := itoa_len17 q (by omega)
  have lk := itoa_len17 0 (by omega)
  have e5 : (itoa 0).isEmpty = false := itoa_isEmpty 0
  have P := Lib.hid (fun wx hx => D.out 0 (by omega) wx hx)
  have Q := Lib.hid (fun wx hx => D.out q (by omega) wx hx)
  have K := Lib.hid (fun wx hx => DK.out 0 (by omega) wx hx)
  have e2 : (q == 0) = false := by simp; omega
  have e3 : decide (0 < q) = false := by simp; omega
  clear h hp hp' hq hq' hk hk' D DK ht
  go_enter Tryz.func8, Tryz.ntmps8
  go_wp2_with (fail)
  go_at_call 15
  refine C.out.mono ?_
  rintro e w1 ⟨rfl, C1⟩
  have I1 := I0.out.step C1
  obtain ⟨⟨_, _, i10, i11, i12⟩, _⟩ := id I1
  go_wp2_with (fail)
  all_goals (first | (exfalso; omega) | skip)
  go_at_call 18
  refine (Q.out _ I1).mono ?_
  rintro e w2 ⟨rfl, I2⟩
  obtain ⟨⟨_, _, i20, i21, i22⟩, _⟩ := id I2
  go_wp2
  all_goals (first | (exfalso; omega) | skip)
  go_returns
  refine ⟨?_, I2.1.1⟩
  have hq1 : q ≠ 0 := by omega
  have hq2 : ¬ 0 < q := by omega
  (refine ret_str _ ?_; simp [ByteArray.data_append, Str.text, Str.body, Str.slash, hq1, hq2])
set_option maxRecDepth 100000 in
set_option maxHeartbeats 4000000 in
theorem rootText_0mn (p q k : Int) (h : chk p q k = 0) (hp0 : p = 0) (hq0 : q < 0) (hk0 : k ≠ 0) (w : World) (ht : Tab w) :
    Calls Tryz.prog 8 #[.agg #[.int .i64 p, .int .i64 q, .int .i64 k]] w fun e w' => e = .returned (.tuple #[.string ⟨(Str.text p q k).toArray⟩, .int .i64 0]) ∧ Chg [] w w' := by
  subst hp0
  obtain ⟨hp, hp', hq, hq', hk, hk'⟩ := chk_zero h
  have c := check_any 0 q k (by omega) (by omega) (by omega) (by omega)
  rw [h] at c
  have C := Lib.hid (c (w.alloc (.cells #[.int .i64 0, .int .i64 q, .int .i64 k] 23)))
  clear c
  have D := Lib.hid (fun n (hn : n.natAbs < 10000000000000000) wx (hx : InvT 0 q k w.heap.size w wx) => format_t n hn wx hx)
  have DK := Lib.hid (fun n (hn : n.natAbs < 10000000000000000) wx (hx : InvT 0 q k w.heap.size w wx) => itoa_t n hn wx hx)
  have I0 := Lib.hid (InvT.box 0 q k w ht)
  have lp := itoa_len17 0 (by omega)
  have lq := itoa_len17 q (by omega)
  have lk := itoa_len17 k (by omega)
  have e5 : (itoa 0).isEmpty = false := itoa_isEmpty 0
  have P := Lib.hid (fun wx hx => D.out 0 (by omega) wx hx)
  have Q := Lib.hid (fun wx hx => D.out q (by omega) wx hx)
  have K := Lib.hid (fun wx hx => DK.out k (by omega) wx hx)
  have e2 : (q == 0) = false := by simp; omega
  have e3 : decide (0 < q) = false := by simp; omega
  have e4 : (k == 0) = false := by simpa using hk0
  clear h hp hp' hq hq' hk hk' D DK ht
  go_enter Tryz.func8, Tryz.ntmps8
  go_wp2_with (fail)
  go_at_call 15
  refine C.out.mono ?_
  rintro e w1 ⟨rfl, C1⟩
  have I1 := I0.out.step C1
  obtain ⟨⟨_, _, i10, i11, i12⟩, _⟩ := id I1
  go_wp2_with (fail)
  all_goals (first | (exfalso; omega) | skip)
  go_at_call 18
  refine (Q.out _ I1).mono ?_
  rintro e w2 ⟨rfl, I2⟩
  obtain ⟨⟨_, _, i20, i21, i22⟩, _⟩ := id I2
  go_wp2_with (fail)
  all_goals (first | (exfalso; omega) | skip)
  go_at_call 19
  refine (K.out _ I2).mono ?_
  rintro e w3 ⟨rfl, I3⟩
  obtain ⟨⟨_, _, i30, i31, i32⟩, _⟩ := id I3
  go_wp2
  all_goals (first | (exfalso; omega) | skip)
  go_returns
  refine ⟨?_, I3.1.1⟩
  have hq1 : q ≠ 0 := by omega
  have hq2 : ¬ 0 < q := by omega
  (refine ret_str _ ?_; simp [ByteArray.data_append, Str.text, Str.body, Str.slash, hk0, hq1, hq2])
set_option maxRecDepth 100000 in
set_option maxHeartbeats 4000000 in
theorem rootText_0p0 (p q k : Int) (h : chk p q k = 0) (hp0 : p = 0) (hq0 : 0 < q) (hk0 : k = 0) (w : World) (ht : Tab w) :
    Calls Tryz.prog 8 #[.agg #[.int .i64 p, .int .i64 q, .int .i64 k]] w fun e w' => e = .returned (.tuple #[.string ⟨(Str.text p q k).toArray⟩, .int .i64 0]) ∧ Chg [] w w' := by
  subst hp0
  subst hk0
  obtain ⟨hp, hp', hq, hq', hk, hk'⟩ := chk_zero h
  have c := check_any 0 q 0 (by omega) (by omega) (by omega) (by omega)
  rw [h] at c
  have C := Lib.hid (c (w.alloc (.cells #[.int .i64 0, .int .i64 q, .int .i64 0] 23)))
  clear c
  have D := Lib.hid (fun n (hn : n.natAbs < 10000000000000000) wx (hx : InvT 0 q 0 w.heap.size w wx) => format_t n hn wx hx)
  have DK := Lib.hid (fun n (hn : n.natAbs < 10000000000000000) wx (hx : InvT 0 q 0 w.heap.size w wx) => itoa_t n hn wx hx)
  have I0 := Lib.hid (InvT.box 0 q 0 w ht)
  have lp := itoa_len17 0 (by omega)
  have lq := itoa_len17 q (by omega)
  have lk := itoa_len17 0 (by omega)
  have e5 : (itoa 0).isEmpty = false := itoa_isEmpty 0
  have P := Lib.hid (fun wx hx => D.out 0 (by omega) wx hx)
  have Q := Lib.hid (fun wx hx => D.out q (by omega) wx hx)
  have K := Lib.hid (fun wx hx => DK.out 0 (by omega) wx hx)
  have e2 : (q == 0) = false := by simp; omega
  have e3 : decide (0 < q) = true := by simpa using hq0
  clear h hp hp' hq hq' hk hk' D DK ht
  go_enter Tryz.func8, Tryz.ntmps8
  go_wp2_with (fail)
  go_at_call 15
  refine C.out.mono ?_
  rintro e w1 ⟨rfl, C1⟩
  have I1 := I0.out.step C1
  obtain ⟨⟨_, _, i10, i11, i12⟩, _⟩ := id I1
  go_wp2_with (fail)
  all_goals (first | (exfalso; omega) | skip)
  go_at_call 18
  refine (Q.out _ I1).mono ?_
  rintro e w2 ⟨rfl, I2⟩
  obtain ⟨⟨_, _, i20, i21, i22⟩, _⟩ := id I2
  go_wp2
  all_goals (first | (exfalso; omega) | skip)
  go_returns
  refine ⟨?_, I2.1.1⟩
  have hq1 : q ≠ 0 := by omega
  (refine ret_str _ ?_; simp [ByteArray.data_append, Str.text, Str.body, Str.slash, hq1, hq0])
set_option maxRecDepth 100000 in
set_option maxHeartbeats 4000000 in
theorem rootText_0pn (p q k : Int) (h : chk p q k = 0) (hp0 : p = 0) (hq0 : 0 < q) (hk0 : k ≠ 0) (w : World) (ht : Tab w) :
    Calls Tryz.prog 8 #[.agg #[.int .i64 p, .int .i64 q, .int .i64 k]] w fun e w' => e = .returned (.tuple #[.string ⟨(Str.text p q k).toArray⟩, .int .i64 0]) ∧ Chg [] w w' := by
  subst hp0
  obtain ⟨hp, hp', hq, hq', hk, hk'⟩ := chk_zero h
  have c := check_any 0 q k (by omega) (by omega) (by omega) (by omega)
  rw [h] at c
  have C := Lib.hid (c (w.alloc (.cells #[.int .i64 0, .int .i64 q, .int .i64 k] 23)))
  clear c
  have D := Lib.hid (fun n (hn : n.natAbs < 10000000000000000) wx (hx : InvT 0 q k w.heap.size w wx) => format_t n hn wx hx)
  have DK := Lib.hid (fun n (hn : n.natAbs < 10000000000000000) wx (hx : InvT 0 q k w.heap.size w wx) => itoa_t n hn wx hx)
  have I0 := Lib.hid (InvT.box 0 q k w ht)
  have lp := itoa_len17 0 (by omega)
  have lq := itoa_len17 q (by omega)
  have lk := itoa_len17 k (by omega)
  have e5 : (itoa 0).isEmpty = false := itoa_isEmpty 0
  have P := Lib.hid (fun wx hx => D.out 0 (by omega) wx hx)
  have Q := Lib.hid (fun wx hx => D.out q (by omega) wx hx)
  have K := Lib.hid (fun wx hx => DK.out k (by omega) wx hx)
  have e2 : (q == 0) = false := by simp; omega
  have e3 : decide (0 < q) = true := by simpa using hq0
  have e4 : (k == 0) = false := by simpa using hk0
  clear h hp hp' hq hq' hk hk' D DK ht
  go_enter Tryz.func8, Tryz.ntmps8
  go_wp2_with (fail)
  go_at_call 15
  refine C.out.mono ?_
  rintro e w1 ⟨rfl, C1⟩
  have I1 := I0.out.step C1
  obtain ⟨⟨_, _, i10, i11, i12⟩, _⟩ := id I1
  go_wp2_with (fail)
  all_goals (first | (exfalso; omega) | skip)
  go_at_call 18
  refine (Q.out _ I1).mono ?_
  rintro e w2 ⟨rfl, I2⟩
  obtain ⟨⟨_, _, i20, i21, i22⟩, _⟩ := id I2
  go_wp2_with (fail)
  all_goals (first | (exfalso; omega) | skip)
  go_at_call 19
  refine (K.out _ I2).mono ?_
  rintro e w3 ⟨rfl, I3⟩
  obtain ⟨⟨_, _, i30, i31, i32⟩, _⟩ := id I3
  go_wp2
  all_goals (first | (exfalso; omega) | skip)
  go_returns
  refine ⟨?_, I3.1.1⟩
  have hq1 : q ≠ 0 := by omega
  (refine ret_str _ ?_; simp [ByteArray.data_append, Str.text, Str.body, Str.slash, hk0, hq1, hq0])
set_option maxRecDepth 100000 in
set_option maxHeartbeats 4000000 in
theorem rootText_nz0 (p q k : Int) (h : chk p q k = 0) (hp0 : p ≠ 0) (hq0 : q = 0) (hk0 : k = 0) (w : World) (ht : Tab w) :
    Calls Tryz.prog 8 #[.agg #[.int .i64 p, .int .i64 q, .int .i64 k]] w fun e w' => e = .returned (.tuple #[.string ⟨(Str.text p q k).toArray⟩, .int .i64 0]) ∧ Chg [] w w' := by
  subst hq0
  subst hk0
  obtain ⟨hp, hp', hq, hq', hk, hk'⟩ := chk_zero h
  have c := check_any p 0 0 (by omega) (by omega) (by omega) (by omega)
  rw [h] at c
  have C := Lib.hid (c (w.alloc (.cells #[.int .i64 p, .int .i64 0, .int .i64 0] 23)))
  clear c
  have D := Lib.hid (fun n (hn : n.natAbs < 10000000000000000) wx (hx : InvT p 0 0 w.heap.size w wx) => format_t n hn wx hx)
  have DK := Lib.hid (fun n (hn : n.natAbs < 10000000000000000) wx (hx : InvT p 0 0 w.heap.size w wx) => itoa_t n hn wx hx)
  have I0 := Lib.hid (InvT.box p 0 0 w ht)
  have lp := itoa_len17 p (by omega)
  have lq := itoa_len17 0 (by omega)
  have lk := itoa_len17 0 (by omega)
  have e5 : (itoa p).isEmpty = false := itoa_isEmpty p
  have P := Lib.hid (fun wx hx => D.out p (by omega) wx hx)
  have Q := Lib.hid (fun wx hx => D.out 0 (by omega) wx hx)
  have K := Lib.hid (fun wx hx => DK.out 0 (by omega) wx hx)
  have e1 : (p == 0) = false := by simpa using hp0
  clear h hp hp' hq hq' hk hk' D DK ht
  go_enter Tryz.func8, Tryz.ntmps8
  go_wp2_with (fail)
  go_at_call 15
  refine C.out.mono ?_
  rintro e w1 ⟨rfl, C1⟩
  have I1 := I0.out.step C1
  obtain ⟨⟨_, _, i10, i11, i12⟩, _⟩ := id I1
  go_wp2_with (fail)
  all_goals (first | (exfalso; omega) | skip)
  go_at_call 18
  refine (P.out _ I1).mono ?_
  rintro e w2 ⟨rfl, I2⟩
  obtain ⟨⟨_, _, i20, i21, i22⟩, _⟩ := id I2
  go_wp2
  all_goals (first | (exfalso; omega) | skip)
  go_returns
  refine ⟨?_, I2.1.1⟩
  (refine ret_str _ ?_; simp [ByteArray.data_append, Str.text, Str.body, Str.slash, hp0])
set_option maxRecDepth 100000 in
set_option maxHeartbeats 4000000 in
theorem rootText_nzn (p q k : Int) (h : chk p q k = 0) (hp0 : p ≠ 0) (hq0 : q = 0) (hk0 : k ≠ 0) (w : World) (ht : Tab w) :
    Calls Tryz.prog 8 #[.agg #[.int .i64 p, .int .i64 q, .int .i64 k]] w fun e w' => e = .returned (.tuple #[.string ⟨(Str.text p q k).toArray⟩, .int .i64 0]) ∧ Chg [] w w' := by
  subst hq0
  obtain ⟨hp, hp', hq, hq', hk, hk'⟩ := chk_zero h
  have c := check_any p 0 k (by omega) (by omega) (by omega) (by omega)
  rw [h] at c
  have C := Lib.hid (c (w.alloc (.cells #[.int .i64 p, .int .i64 0, .int .i64 k] 23)))
  clear c
  have D := Lib.hid (fun n (hn : n.natAbs < 10000000000000000) wx (hx : InvT p 0 k w.heap.size w wx) => format_t n hn wx hx)
  have DK := Lib.hid (fun n (hn : n.natAbs < 10000000000000000) wx (hx : InvT p 0 k w.heap.size w wx) => itoa_t n hn wx hx)
  have I0 := Lib.hid (InvT.box p 0 k w ht)
  have lp := itoa_len17 p (by omega)
  have lq := itoa_len17 0 (by omega)
  have lk := itoa_len17 k (by omega)
  have e5 : (itoa p).isEmpty = false := itoa_isEmpty p
  have P := Lib.hid (fun wx hx => D.out p (by omega) wx hx)
  have Q := Lib.hid (fun wx hx => D.out 0 (by omega) wx hx)
  have K := Lib.hid (fun wx hx => DK.out k (by omega) wx hx)
  have e1 : (p == 0) = false := by simpa using hp0
  have e4 : (k == 0) = false := by simpa using hk0
  clear h hp hp' hq hq' hk hk' D DK ht
  go_enter Tryz.func8, Tryz.ntmps8
  go_wp2_with (fail)
  go_at_call 15
  refine C.out.mono ?_
  rintro e w1 ⟨rfl, C1⟩
  have I1 := I0.out.step C1
  obtain ⟨⟨_, _, i10, i11, i12⟩, _⟩ := id I1
  go_wp2_with (fail)
  all_goals (first | (exfalso; omega) | skip)
  go_at_call 18
  refine (P.out _ I1).mono ?_
  rintro e w2 ⟨rfl, I2⟩
  obtain ⟨⟨_, _, i20, i21, i22⟩, _⟩ := id I2
  go_wp2_with (fail)
  all_goals (first | (exfalso; omega) | skip)
  go_at_call 19
  refine (K.out _ I2).mono ?_
  rintro e w3 ⟨rfl, I3⟩
  obtain ⟨⟨_, _, i30, i31, i32⟩, _⟩ := id I3
  go_wp2
  all_goals (first | (exfalso; omega) | skip)
  go_returns
  refine ⟨?_, I3.1.1⟩
  (refine ret_str _ ?_; simp [ByteArray.data_append, Str.text, Str.body, Str.slash, hp0, hk0])
set_option maxRecDepth 100000 in
set_option maxHeartbeats 4000000 in
theorem rootText_nm0 (p q k : Int) (h : chk p q k = 0) (hp0 : p ≠ 0) (hq0 : q < 0) (hk0 : k = 0) (w : World) (ht : Tab w) :
    Calls Tryz.prog 8 #[.agg #[.int .i64 p, .int .i64 q, .int .i64 k]] w fun e w' => e = .returned (.tuple #[.string ⟨(Str.text p q k).toArray⟩, .int .i64 0]) ∧ Chg [] w w' := by
  subst hk0
  obtain ⟨hp, hp', hq, hq', hk, hk'⟩ := chk_zero h
  have c := check_any p q 0 (by omega) (by omega) (by omega) (by omega)
  rw [h] at c
  have C := Lib.hid (c (w.alloc (.cells #[.int .i64 p, .int .i64 q, .int .i64 0] 23)))
  clear c
  have D := Lib.hid (fun n (hn : n.natAbs < 10000000000000000) wx (hx : InvT p q 0 w.heap.size w wx) => format_t n hn wx hx)
  have DK := Lib.hid (fun n (hn : n.natAbs < 10000000000000000) wx (hx : InvT p q 0 w.heap.size w wx) => itoa_t n hn wx hx)
  have I0 := Lib.hid (InvT.box p q 0 w ht)
  have lp := itoa_len17 p (by omega)
  have lq := itoa_len17 q (by omega)
  have lk := itoa_len17 0 (by omega)
  have e5 : (itoa p).isEmpty = false := itoa_isEmpty p
  have P := Lib.hid (fun wx hx => D.out p (by omega) wx hx)
  have Q := Lib.hid (fun wx hx => D.out q (by omega) wx hx)
  have K := Lib.hid (fun wx hx => DK.out 0 (by omega) wx hx)
  have e1 : (p == 0) = false := by simpa using hp0
  have e2 : (q == 0) = false := by simp; omega
  have e3 : decide (0 < q) = false := by simp; omega
  clear h hp hp' hq hq' hk hk' D DK ht
  go_enter Tryz.func8, Tryz.ntmps8
  go_wp2_with (fail)
  go_at_call 15
  refine C.out.mono ?_
  rintro e w1 ⟨rfl, C1⟩
  have I1 := I0.out.step C1
  obtain ⟨⟨_, _, i10, i11, i12⟩, _⟩ := id I1
  go_wp2_with (fail)
  all_goals (first | (exfalso; omega) | skip)
  go_at_call 18
  refine (P.out _ I1).mono ?_
  rintro e w2 ⟨rfl, I2⟩
  obtain ⟨⟨_, _, i20, i21, i22⟩, _⟩ := id I2
  go_wp2_with (fail)
  all_goals (first | (exfalso; omega) | skip)
  go_at_call 18
  refine (Q.out _ I2).mono ?_
  rintro e w3 ⟨rfl, I3⟩
  obtain ⟨⟨_, _, i30, i31, i32⟩, _⟩ := id I3
  go_wp2
  all_goals (first | (exfalso; omega) | skip)
  go_returns
  refine ⟨?_, I3.1.1⟩
  have hq1 : q ≠ 0 := by omega
  have hq2 : ¬ 0 < q := by omega
  (refine ret_str _ ?_; simp [ByteArray.data_append, Str.text, Str.body, Str.slash, hp0, hq1, hq2])
set_option maxRecDepth 100000 in
set_option maxHeartbeats 4000000 in
theorem rootText_nmn (p q k : Int) (h : chk p q k = 0) (hp0 : p ≠ 0) (hq0 : q < 0) (hk0 : k ≠ 0) (w : World) (ht : Tab w) :
    Calls Tryz.prog 8 #[.agg #[.int .i64 p, .int .i64 q, .int .i64 k]] w fun e w' => e = .returned (.tuple #[.string ⟨(Str.text p q k).toArray⟩, .int .i64 0]) ∧ Chg [] w w' := by
  obtain ⟨hp, hp', hq, hq', hk, hk'⟩ := chk_zero h
  have c := check_any p q k (by omega) (by omega) (by omega) (by omega)
  rw [h] at c
  have C := Lib.hid (c (w.alloc (.cells #[.int .i64 p, .int .i64 q, .int .i64 k] 23)))
  clear c
  have D := Lib.hid (fun n (hn : n.natAbs < 10000000000000000) wx (hx : InvT p q k w.heap.size w wx) => format_t n hn wx hx)
  have DK := Lib.hid (fun n (hn : n.natAbs < 10000000000000000) wx (hx : InvT p q k w.heap.size w wx) => itoa_t n hn wx hx)
  have I0 := Lib.hid (InvT.box p q k w ht)
  have lp := itoa_len17 p (by omega)
  have lq := itoa_len17 q (by omega)
  have lk := itoa_len17 k (by omega)
  have e5 : (itoa p).isEmpty = false := itoa_isEmpty p
  have P := Lib.hid (fun wx hx => D.out p (by omega) wx hx)
  have Q := Lib.hid (fun wx hx => D.out q (by omega) wx hx)
  have K := Lib.hid (fun wx hx => DK.out k (by omega) wx hx)
  have e1 : (p == 0) = false := by simpa using hp0
  have e2 : (q == 0) = false := by simp; omega
  have e3 : decide (0 < q) = false := by simp; omega
  have e4 : (k == 0) = false := by simpa using hk0
  clear h hp hp' hq hq' hk hk' D DK ht
  go_enter Tryz.func8, Tryz.ntmps8
  go_wp2_with (fail)
  go_at_call 15
  refine C.out.mono ?_
  rintro e w1 ⟨rfl, C1⟩
  have I1 := I0.out.step C1
  obtain ⟨⟨_, _, i10, i11, i12⟩, _⟩ := id I1
  go_wp2_with (fail)
  all_goals (first | (exfalso; omega) | skip)
  go_at_call 18
  refine (P.out _ I1).mono ?_
  rintro e w2 ⟨rfl, I2⟩
  obtain ⟨⟨_, _, i20, i21, i22⟩, _⟩ := id I2
  go_wp2_with (fail)
  all_goals (first | (exfalso; omega) | skip)
  go_at_call 18
  refine (Q.out _ I2).mono ?_
  rintro e w3 ⟨rfl, I3⟩
  obtain ⟨⟨_, _, i30, i31, i32⟩, _⟩ := id I3
  go_wp2_with (fail)
  all_goals (first | (exfalso; omega) | skip)
  go_at_call 19
  refine (K.out _ I3).mono ?_
  rintro e w4 ⟨rfl, I4⟩
  obtain ⟨⟨_, _, i40, i41, i42⟩, _⟩ := id I4
  go_wp2
  all_goals (first | (exfalso; omega) | skip)
  go_returns
  refine ⟨?_, I4.1.1⟩
  have hq1 : q ≠ 0 := by omega
  have hq2 : ¬ 0 < q := by omega
  (refine ret_str _ ?_; simp [ByteArray.data_append, Str.text, Str.body, Str.slash, hp0, hk0, hq1, hq2])
set_option maxRecDepth 100000 in
set_option maxHeartbeats 4000000 in
theorem rootText_np0 (p q k : Int) (h : chk p q k = 0) (hp0 : p ≠ 0) (hq0 : 0 < q) (hk0 : k = 0) (w : World) (ht : Tab w) :
    Calls Tryz.prog 8 #[.agg #[.int .i64 p, .int .i64 q, .int .i64 k]] w fun e w' => e = .returned (.tuple #[.string ⟨(Str.text p q k).toArray⟩, .int .i64 0]) ∧ Chg [] w w' := by
  subst hk0
  obtain ⟨hp, hp', hq, hq', hk, hk'⟩ := chk_zero h
  have c := check_any p q 0 (by omega) (by omega) (by omega) (by omega)
  rw [h] at c
  have C := Lib.hid (c (w.alloc (.cells #[.int .i64 p, .int .i64 q, .int .i64 0] 23)))
  clear c
  have D := Lib.hid (fun n (hn : n.natAbs < 10000000000000000) wx (hx : InvT p q 0 w.heap.size w wx) => format_t n hn wx hx)
  have DK := Lib.hid (fun n (hn : n.natAbs < 10000000000000000) wx (hx : InvT p q 0 w.heap.size w wx) => itoa_t n hn wx hx)
  have I0 := Lib.hid (InvT.box p q 0 w ht)
  have lp := itoa_len17 p (by omega)
  have lq := itoa_len17 q (by omega)
  have lk := itoa_len17 0 (by omega)
  have e5 : (itoa p).isEmpty = false := itoa_isEmpty p
  have P := Lib.hid (fun wx hx => D.out p (by omega) wx hx)
  have Q := Lib.hid (fun wx hx => D.out q (by omega) wx hx)
  have K := Lib.hid (fun wx hx => DK.out 0 (by omega) wx hx)
  have e1 : (p == 0) = false := by simpa using hp0
  have e2 : (q == 0) = false := by simp; omega
  have e3 : decide (0 < q) = true := by simpa using hq0
  clear h hp hp' hq hq' hk hk' D DK ht
  go_enter Tryz.func8, Tryz.ntmps8
  go_wp2_with (fail)
  go_at_call 15
  refine C.out.mono ?_
  rintro e w1 ⟨rfl, C1⟩
  have I1 := I0.out.step C1
  obtain ⟨⟨_, _, i10, i11, i12⟩, _⟩ := id I1
  go_wp2_with (fail)
  all_goals (first | (exfalso; omega) | skip)
  go_at_call 18
  refine (P.out _ I1).mono ?_
  rintro e w2 ⟨rfl, I2⟩
  obtain ⟨⟨_, _, i20, i21, i22⟩, _⟩ := id I2
  go_wp2_with (fail)
  all_goals (first | (exfalso; omega) | skip)
  go_at_call 18
  refine (Q.out _ I2).mono ?_
  rintro e w3 ⟨rfl, I3⟩
  obtain ⟨⟨_, _, i30, i31, i32⟩, _⟩ := id I3
  go_wp2
  all_goals (first | (exfalso; omega) | skip)
  go_returns
  refine ⟨?_, I3.1.1⟩
  have hq1 : q ≠ 0 := by omega
  (refine ret_str _ ?_; simp [ByteArray.data_append, Str.text, Str.body, Str.slash, hp0, hq1, hq0])
set_option maxRecDepth 100000 in
set_option maxHeartbeats 4000000 in
theorem rootText_npn (p q k : Int) (h : chk p q k = 0) (hp0 : p ≠ 0) (hq0 : 0 < q) (hk0 : k ≠ 0) (w : World) (ht : Tab w) :
    Calls Tryz.prog 8 #[.agg #[.int .i64 p, .int .i64 q, .int .i64 k]] w fun e w' => e = .returned (.tuple #[.string ⟨(Str.text p q k).toArray⟩, .int .i64 0]) ∧ Chg [] w w' := by
  obtain ⟨hp, hp', hq, hq', hk, hk'⟩ := chk_zero h
  have c := check_any p q k (by omega) (by omega) (by omega) (by omega)
  rw [h] at c
  have C := Lib.hid (c (w.alloc (.cells #[.int .i64 p, .int .i64 q, .int .i64 k] 23)))
  clear c
  have D := Lib.hid (fun n (hn : n.natAbs < 10000000000000000) wx (hx : InvT p q k w.heap.size w wx) => format_t n hn wx hx)
  have DK := Lib.hid (fun n (hn : n.natAbs < 10000000000000000) wx (hx : InvT p q k w.heap.size w wx) => itoa_t n hn wx hx)
  have I0 := Lib.hid (InvT.box p q k w ht)
  have lp := itoa_len17 p (by omega)
  have lq := itoa_len17 q (by omega)
  have lk := itoa_len17 k (by omega)
  have e5 : (itoa p).isEmpty = false := itoa_isEmpty p
  have P := Lib.hid (fun wx hx => D.out p (by omega) wx hx)
  have Q := Lib.hid (fun wx hx => D.out q (by omega) wx hx)
  have K := Lib.hid (fun wx hx => DK.out k (by omega) wx hx)
  have e1 : (p == 0) = false := by simpa using hp0
  have e2 : (q == 0) = false := by simp; omega
  have e3 : decide (0 < q) = true := by simpa using hq0
  have e4 : (k == 0) = false := by simpa using hk0
  clear h hp hp' hq hq' hk hk' D DK ht
  go_enter Tryz.func8, Tryz.ntmps8
  go_wp2_with (fail)
  go_at_call 15
  refine C.out.mono ?_
  rintro e w1 ⟨rfl, C1⟩
  have I1 := I0.out.step C1
  obtain ⟨⟨_, _, i10, i11, i12⟩, _⟩ := id I1
  go_wp2_with (fail)
  all_goals (first | (exfalso; omega) | skip)
  go_at_call 18
  refine (P.out _ I1).mono ?_
  rintro e w2 ⟨rfl, I2⟩
  obtain ⟨⟨_, _, i20, i21, i22⟩, _⟩ := id I2
  go_wp2_with (fail)
  all_goals (first | (exfalso; omega) | skip)
  go_at_call 18
  refine (Q.out _ I2).mono ?_
  rintro e w3 ⟨rfl, I3⟩
  obtain ⟨⟨_, _, i30, i31, i32⟩, _⟩ := id I3
  go_wp2_with (fail)
  all_goals (first | (exfalso; omega) | skip)
  go_at_call 19
  refine (K.out _ I3).mono ?_
  rintro e w4 ⟨rfl, I4⟩
  obtain ⟨⟨_, _, i40, i41, i42⟩, _⟩ := id I4
  go_wp2
  all_goals (first | (exfalso; omega) | skip)
  go_returns
  refine ⟨?_, I4.1.1⟩
  have hq1 : q ≠ 0 := by omega
  (refine ret_str _ ?_; simp [ByteArray.data_append, Str.text, Str.body, Str.slash, hp0, hk0, hq1, hq0])
end Go.Proofs.YtkokikfooooiiaaGreatDoor
