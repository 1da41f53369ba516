import Derived.Test.YtkokikfooooiiaaGreatDoorN2
import Derived.Test.YtkokikfooooiiaaGreatDoorC2
import Derived.Test.YtkokikfooooiiaaGreatDoorI1
import Derived.Test.YtkokikfooooiiaaGreatDoorI4
import Derived.Test.YtkokikfooooiiaaGreatDoorV1
import Derived.Deep.RegionHeld3
import Derived.Deep.RegionLaw
import Derived.Deep.DeepCutAuto
namespace Go.Proofs.YtkokikfooooiiaaGreatDoor
set_option linter.unusedSimpArgs false
open Go.RowKit
theorem One.chg {S : List Nat} {w w' : World} {b k : Nat} {neg : Bool} (h : One w b neg k) (c : Chg S w w') (hS : ∀ s ∈ S, w.heap.size ≤ s) : One w' b neg k := by
  obtain ⟨d, n, h1, h2, h3, h4⟩ := h
  have hb := lt_of_block h1
  refine ⟨d, n, c.get h1 (fun hs => by have := hS b hs; omega), ?_, Nat.lt_of_lt_of_le h3 c.size, h4⟩
  exact (World.cell?_of_block (w := w) (c.block d h3 (fun hs => by have := hS d hs; omega))).trans h2
def Two (w0 wx : World) (A B : Nat) : Prop := ∃ pa qa pb qb, wx.heap[A]? = some (.cells #[.pointer (some ⟨pa, 0, none⟩), .pointer (some ⟨qa, 0, none⟩), .int .i64 1] 67 (0, 0)) ∧ wx.heap[B]? = some (.cells #[.pointer (some ⟨pb, 0, none⟩), .pointer (some ⟨qb, 0, none⟩), .int .i64 1] 67 (0, 0)) ∧
  One wx pa false 1 ∧ One wx qa false 1 ∧ One wx pb true 1 ∧ One wx qb false 1 ∧ qa ≠ qb ∧ pa ≠ pb ∧ pa ≠ qb ∧ qa ≠ pb ∧ w0.heap.size ≤ A ∧ w0.heap.size ≤ B ∧ w0.heap.size ≤ pa ∧ w0.heap.size ≤ qa ∧ w0.heap.size ≤ pb ∧ w0.heap.size ≤ qb ∧ Chg [] w0 wx

set_option maxRecDepth 100000 in
set_option maxHeartbeats 8000000 in
theorem mul_closed (w : World) :
    Calls Tryz.prog 12 #[.agg #[.int .i64 1, .int .i64 1, .int .i64 1], .agg #[.int .i64 (-1), .int .i64 1, .int .i64 1]] w fun e w' => e = .returned (.tuple #[.agg #[.int .i64 1, .int .i64 0, .int .i64 2], .int .i64 0]) ∧ Chg [] w w' := by
  have K1 := Lib.hid (fun w => check_any 1 1 1 (by omega) (by omega) (by omega) (by omega) w)
  have K2 := Lib.hid (fun w => check_any (-1) 1 1 (by omega) (by omega) (by omega) (by omega) w)
  have e1 : chk 1 1 1 = 0 := rfl
  have e2 : chk (-1) 1 1 = 0 := rfl
  rw [e1] at K1
  rw [e2] at K2
  go_enter Tryz.func12, Tryz.ntmps12
  go_upto_region 1 with fail
  generalize hW : ((w.alloc (.cells #[.int .i64 1, .int .i64 1, .int .i64 1] 23)).alloc (.cells #[.int .i64 (-1), .int .i64 1, .int .i64 1] 23)).alloc (.cells #[.int .i64 0, .int .i64 0, .int .i64 0] 23) = w0
  have a0 : w0.heap[w.heap.size]? = some (.cells #[.int .i64 1, .int .i64 1, .int .i64 1] 23 (0, 0)) := by subst hW; ((simp only [get_drew, get_drewN, get_alloc, get_setCell, World.size_alloc, World.size_setCell, size_drew, size_drewN, if_true]); repeat (first | rw [if_pos (by omega)] | rw [if_neg (by omega)] | simp only [Option.map_some, turn_cells, if_true] | assumption | rfl))
  have b0 : w0.heap[w.heap.size + 1]? = some (.cells #[.int .i64 (-1), .int .i64 1, .int .i64 1] 23 (0, 0)) := by subst hW; ((simp only [get_drew, get_drewN, get_alloc, get_setCell, World.size_alloc, World.size_setCell, size_drew, size_drewN, if_true]); repeat (first | rw [if_pos (by omega)] | rw [if_neg (by omega)] | simp only [Option.map_some, turn_cells, if_true] | assumption | rfl))
  have r0 : w0.heap[w.heap.size + 1 + 1]? = some (.cells #[.int .i64 0, .int .i64 0, .int .i64 0] 23 (0, 0)) := by subst hW; ((simp only [get_drew, get_drewN, get_alloc, get_setCell, World.size_alloc, World.size_setCell, size_drew, size_drewN, if_true]); repeat (first | rw [if_pos (by omega)] | rw [if_neg (by omega)] | simp only [Option.map_some, turn_cells, if_true] | assumption | rfl))
  have C0 : Chg [] w w0 := by subst hW; repeat (first | exact Chg.refl _ _ | refine Chg.alloc ?_ _)
  clear hW
  have cA : ∀ w', Chg [] w0 w' → w'.cell? ⟨w.heap.size, 0, none⟩ = some (.int .i64 1) ∧ w'.cell? ⟨w.heap.size, 1, none⟩ = some (.int .i64 1) ∧ w'.cell? ⟨w.heap.size, 2, none⟩ = some (.int .i64 1) ∧ w'.cell? ⟨w.heap.size + 1, 0, none⟩ = some (.int .i64 (-1)) ∧ w'.cell? ⟨w.heap.size + 1, 1, none⟩ = some (.int .i64 1) ∧ w'.cell? ⟨w.heap.size + 1, 2, none⟩ = some (.int .i64 1) :=
    fun w' h => ⟨cell_at (h.get a0 (by simp)) 0, cell_at (h.get a0 (by simp)) 1, cell_at (h.get a0 (by simp)) 2, cell_at (h.get b0 (by simp)) 0, cell_at (h.get b0 (by simp)) 1, cell_at (h.get b0 (by simp)) 2⟩
  obtain ⟨ca0, ca1, ca2, cb0, cb1, cb2⟩ := cA w0 (Chg.refl _ _)
  have CA := Lib.hid cA
  clear cA
  go_upto_region 3 with (first | (go_at_call_of 15 (Value.agg #[.int .i64 1, .int .i64 1, .int .i64 1]); refine (K1.out _).mono ?_; rintro e w1 ⟨rfl, C1⟩; obtain ⟨da0, da1, da2, db0, db1, db2⟩ := CA.out w1 C1) | (go_at_call 15; refine (K2.out _).mono ?_; rintro e w2 ⟨rfl, C2⟩; obtain ⟨ea0, ea1, ea2, eb0, eb1, eb2⟩ := CA.out w2 (C1.trans C2 (by simp))))
  have C02 := C1.trans C2 (by simp)
  have lr := lt_of_block (C02.get r0 (by simp))
  have l0 : w.heap.size < w2.heap.size := by omega
  have l1 : w.heap.size + 1 < w2.heap.size := by omega
  have X1 := Lib.hid (fun w => of_x 1 1 1 (by omega) (by omega) (by omega) (by omega) w)
  have X2 := Lib.hid (fun w => of_x (-1) 1 1 (by omega) (by omega) (by omega) (by omega) w)
  go_cut [6, 7] (fun s6 s7 wx => ∃ A B, s6 = .pointer (some ⟨A, 0, none⟩) ∧ s7 = .pointer (some ⟨B, 0, none⟩) ∧ Two w2 wx A B)
  case first =>
    go_region_held3 (fun w' => w'.cell? ⟨w.heap.size, 0, none⟩ = some (.int .i64 1) ∧ w'.cell? ⟨w.heap.size, 1, none⟩ = some (.int .i64 1) ∧ w'.cell? ⟨w.heap.size, 2, none⟩ = some (.int .i64 1) ∧ w'.cell? ⟨w.heap.size + 1, 0, none⟩ = some (.int .i64 (-1)) ∧ w'.cell? ⟨w.heap.size + 1, 1, none⟩ = some (.int .i64 1) ∧ w'.cell? ⟨w.heap.size + 1, 2, none⟩ = some (.int .i64 1)) (refine ⟨?_, ?_, ?_, ?_, ?_, ?_⟩ <;> (repeat (first | with_reducible assumption | with_reducible refine keep_alloc _ ?_ | with_reducible refine keep_drew ?_ | with_reducible refine keep_drewN _ ?_ | with_reducible refine keep_set _ (by simp only [World.size_alloc, World.size_setCell, size_drew, size_drewN]; omega) ?_))) (first | (go_at_call_of 26 (Value.agg #[.int .i64 1, .int .i64 1, .int .i64 1]); refine (X1.out _).mono ?_; rintro e w1 ⟨rfl, rfl⟩; unfold ofW ofA) | (go_at_call 26; refine (X2.out _).mono ?_; rintro e w1 ⟨rfl, rfl⟩; unfold ofW ofA))
    all_goals (go_wp2_with fail; go_meet)
    all_goals
      refine ⟨_, _, rfl, rfl, ?_⟩
      unfold Two
      apply Exists.intro
      apply Exists.intro
      apply Exists.intro
      apply Exists.intro
      refine ⟨?_, ?_, ?_, ?_, ?_, ?_, ?_, ?_, ?_, ?_, ?_, ?_, ?_, ?_, ?_, ?_, ?_⟩
      · (repeat (first | with_reducible refine One.drew ?_ | with_reducible refine blk_drew ?_ | ((with_reducible refine one_top1 ?_ ?_) <;> (simp only [World.size_alloc, size_drew]; done)) | ((with_reducible refine one_top ?_ ?_) <;> (simp only [World.size_alloc, size_drew]; done)) | ((with_reducible refine blk_top _ _ ?_) <;> (simp only [World.size_alloc, size_drew]; done)) | with_reducible refine blk_past _ ?_ | with_reducible refine One.alloc ?_ _))
      · (repeat (first | with_reducible refine One.drew ?_ | with_reducible refine blk_drew ?_ | ((with_reducible refine one_top1 ?_ ?_) <;> (simp only [World.size_alloc, size_drew]; done)) | ((with_reducible refine one_top ?_ ?_) <;> (simp only [World.size_alloc, size_drew]; done)) | ((with_reducible refine blk_top _ _ ?_) <;> (simp only [World.size_alloc, size_drew]; done)) | with_reducible refine blk_past _ ?_ | with_reducible refine One.alloc ?_ _))
      · (repeat (first | with_reducible refine One.drew ?_ | with_reducible refine blk_drew ?_ | ((with_reducible refine one_top1 ?_ ?_) <;> (simp only [World.size_alloc, size_drew]; done)) | ((with_reducible refine one_top ?_ ?_) <;> (simp only [World.size_alloc, size_drew]; done)) | ((with_reducible refine blk_top _ _ ?_) <;> (simp only [World.size_alloc, size_drew]; done)) | with_reducible refine blk_past _ ?_ | with_reducible refine One.alloc ?_ _))
      · (repeat (first | with_reducible refine One.drew ?_ | with_reducible refine blk_drew ?_ | ((with_reducible refine one_top1 ?_ ?_) <;> (simp only [World.size_alloc, size_drew]; done)) | ((with_reducible refine one_top ?_ ?_) <;> (simp only [World.size_alloc, size_drew]; done)) | ((with_reducible refine blk_top _ _ ?_) <;> (simp only [World.size_alloc, size_drew]; done)) | with_reducible refine blk_past _ ?_ | with_reducible refine One.alloc ?_ _))
      · (repeat (first | with_reducible refine One.drew ?_ | with_reducible refine blk_drew ?_ | ((with_reducible refine one_top1 ?_ ?_) <;> (simp only [World.size_alloc, size_drew]; done)) | ((with_reducible refine one_top ?_ ?_) <;> (simp only [World.size_alloc, size_drew]; done)) | ((with_reducible refine blk_top _ _ ?_) <;> (simp only [World.size_alloc, size_drew]; done)) | with_reducible refine blk_past _ ?_ | with_reducible refine One.alloc ?_ _))
      · (repeat (first | with_reducible refine One.drew ?_ | with_reducible refine blk_drew ?_ | ((with_reducible refine one_top1 ?_ ?_) <;> (simp only [World.size_alloc, size_drew]; done)) | ((with_reducible refine one_top ?_ ?_) <;> (simp only [World.size_alloc, size_drew]; done)) | ((with_reducible refine blk_top _ _ ?_) <;> (simp only [World.size_alloc, size_drew]; done)) | with_reducible refine blk_past _ ?_ | with_reducible refine One.alloc ?_ _))
      · omega
      · omega
      · omega
      · omega
      · omega
      · omega
      · omega
      · omega
      · omega
      · omega
      · repeat (first | exact Chg.refl _ _ | with_reducible refine Chg.drew ?_ | with_reducible refine Chg.alloc ?_ _)
  case rest =>
    obtain ⟨A, B, rfl, rfl, pa, qa, pb, qb, hA, hB, opa, oqa, opb, oqb, n1, n2, n3, n4, lA, lB, lpa, lqa, lpb, lqb, Cc⟩ := hcut
    obtain ⟨wd, hwd⟩ : ∃ wd, wd = wc := ⟨_, rfl⟩
    subst hwd
    have hr := (C02.trans Cc (by simp)).get r0 (by simp)
    have HR := Lib.hid hr
    have C0c : Chg [] w wd := (C0.trans C02 (by simp)).trans Cc (by simp)
    have lwc := C0c.size
    have lA' := lt_of_block hA
    have lB' := lt_of_block hB
    have a0' := cell_at hA 0
    have a1' := cell_at hA 1
    have a2' := cell_at hA 2
    have b0' := cell_at hB 0
    have b1' := cell_at hB 1
    have b2' := cell_at hB 2
    clear K1 K2 X1 X2 ca0 ca1 ca2 cb0 cb1 cb2 CA da0 da1 da2 db0 db1 db2 ea0 ea1 ea2 eb0 eb1 eb2 e1 e2
    go_wp2_with (fail)
    go_at_call 27
    refine (mulf 1 1 1 (by omega) (by omega) (by omega) (by omega) rfl false false qa qb wd oqa oqb n1).mono ?_
    rintro e w3 ⟨rfl, d3, ld3, C3, m3⟩
    have hzd : wd.heap.size ≠ d3 := by omega
    have hS : ∀ s ∈ [wd.heap.size, d3], wd.heap.size ≤ s := by simp; omega
    have C3' : Chg [wd.heap.size, d3] wd w3 := C3.trans (Chg.refl [] w3) (by simp) |> fun h => ⟨h.os, h.tape, h.output, h.size, fun k hk _ => h.block k hk (by simp)⟩
    have CF : ∀ wx, Chg [wd.heap.size, d3] wd wx → wx.cell? ⟨A, 0, none⟩ = some (.pointer (some ⟨pa, 0, none⟩)) ∧ wx.cell? ⟨A, 1, none⟩ = some (.pointer (some ⟨qa, 0, none⟩)) ∧ wx.cell? ⟨A, 2, none⟩ = some (.int .i64 1) ∧ wx.cell? ⟨B, 0, none⟩ = some (.pointer (some ⟨pb, 0, none⟩)) ∧ wx.cell? ⟨B, 1, none⟩ = some (.pointer (some ⟨qb, 0, none⟩)) ∧ wx.cell? ⟨B, 2, none⟩ = some (.int .i64 1) := by
      intro wx h
      have ga := h.get hA (by simp; omega)
      have gb := h.get hB (by simp; omega)
      exact ⟨cell_at ga 0, cell_at ga 1, cell_at ga 2, cell_at gb 0, cell_at gb 1, cell_at gb 2⟩
    have OF : ∀ wx, Chg [wd.heap.size, d3] wd wx → One wx pa false 1 ∧ One wx qa false 1 ∧ One wx pb true 1 ∧ One wx qb false 1 := fun wx h => ⟨opa.chg h hS, oqa.chg h hS, opb.chg h hS, oqb.chg h hS⟩
    obtain ⟨f0, f1, f2, f3, f4, f5⟩ := CF w3 C3'
    have HCF := Lib.hid CF
    have HOF := Lib.hid OF
    have ls3 := C3.size
    have lz3 := lt_of_block m3.1
    have ld3' := lt_of_block m3.2
    clear CF OF hA hB opa oqa opb oqb a0' a1' a2' b0' b1' b2'
    go_upto_region 6 with fail
    go_cut [40] (fun s wx => W6 wx wd.heap.size false 1 d3 ∧ Chg [wd.heap.size, d3] wd wx)
    case first =>
      go_region_held3 (fun w' => w'.cell? ⟨A, 0, none⟩ = some (.pointer (some ⟨pa, 0, none⟩)) ∧ w'.cell? ⟨B, 0, none⟩ = some (.pointer (some ⟨pb, 0, none⟩))) (refine ⟨?_, ?_⟩ <;> (repeat (first | with_reducible assumption | with_reducible refine keep_alloc _ ?_ | with_reducible refine keep_drew ?_ | with_reducible refine keep_drewN _ ?_ | with_reducible refine keep_set _ (by simp only [World.size_alloc, World.size_setCell, size_drew, size_drewN]; omega) ?_))) (first
        | (go_at_call 29; refine (lsh_in 1 (by omega) (by omega) false wd.heap.size d3 w3.drew m3 hzd).mono ?_; rintro e wl ⟨rfl, cl, ml⟩; have Cl := C3'.drew.trans cl (by simp); obtain ⟨g0, g1, g2, g3, g4, g5⟩ := HCF.out wl Cl)
        | (go_at_call 27; refine (mulf 1 1 1 (by omega) (by omega) (by omega) (by omega) rfl false true pa pb w3.drew (HOF.out _ C3'.drew).1 (HOF.out _ C3'.drew).2.2.1 n2).mono ?_; rintro e wm ⟨rfl, dm, ldm, cm, mm⟩; have Cm := C3'.drew.trans cm (by simp); have mk := cm.w6 m3 (by simp) (by simp); obtain ⟨g0, g1, g2, g3, g4, g5⟩ := HCF.out wm Cm)
        | (go_at_call 27; refine (mulf 1 1 1 (by omega) (by omega) (by omega) (by omega) rfl false true pa pb wl (HOF.out _ Cl).1 (HOF.out _ Cl).2.2.1 n2).mono ?_; rintro e wm ⟨rfl, dm, ldm, cm, mm⟩; have Cm := Cl.trans cm (by simp); have mk := cm.w6 ml (by simp) (by simp); obtain ⟨g0, g1, g2, g3, g4, g5⟩ := HCF.out wm Cm)
        | (go_at_call 29; refine (lsh_in 1 (by omega) (by omega) false wd.heap.size d3 wm mk hzd).mono ?_; rintro e wl ⟨rfl, cl, ml⟩; have Cl := Cm.trans cl (by simp); obtain ⟨g0, g1, g2, g3, g4, g5⟩ := HCF.out wl Cl)
        | (go_at_call 30; refine (add_pn 2 1 1 (by omega) (by omega) (by omega) (by omega) wd.heap.size d3 _ dm 6 wm mk mm.1 (cell_at mm.2 0) (by omega) hzd).mono ?_; rintro e wz ⟨rfl, cz, mz⟩; have Cz := Cm.trans cz (by simp); obtain ⟨g0, g1, g2, g3, g4, g5⟩ := HCF.out wz Cz)
        | (go_at_call 30; have mq := cl.w6 mm (by simp; omega) (by simp; omega); refine (add_pn 2 1 1 (by omega) (by omega) (by omega) (by omega) wd.heap.size d3 _ dm 6 wl ml mq.1 (cell_at mq.2 0) (by omega) hzd).mono ?_; rintro e wz ⟨rfl, cz, mz⟩; have Cz := Cl.trans cz (by simp); obtain ⟨g0, g1, g2, g3, g4, g5⟩ := HCF.out wz Cz))
      all_goals (go_wp2_with fail; go_meet)
      exact ⟨mz, Cz⟩
    case rest =>
      obtain ⟨m4, C4⟩ := hcut
      obtain ⟨opa, oqa, opb, oqb⟩ := HOF.out wc C4
      obtain ⟨g0, g1, g2, g3, g4, g5⟩ := HCF.out wc C4
      have ls4 := C4.size
      have lz4 := lt_of_block m4.1
      have ld4 := lt_of_block m4.2
      go_wp2_with (fail)
      go_at_call 27
      refine (mulf 1 1 1 (by omega) (by omega) (by omega) (by omega) rfl false false pa qb wc opa oqb n3).mono ?_
      rintro e w7 ⟨rfl, d7, ld7, C7, m7⟩
      have C47 := C4.trans C7 (by simp)
      obtain ⟨opa7, oqa7, opb7, oqb7⟩ := HOF.out w7 C47
      obtain ⟨i0, i1, i2, i3, i4, i5⟩ := HCF.out w7 C47
      have ls7 := C7.size
      have lz7 := lt_of_block m7.1
      have ld7' := lt_of_block m7.2
      go_wp2_with (fail)
      go_at_call 27
      refine (mulf 1 1 1 (by omega) (by omega) (by omega) (by omega) rfl false true qa pb w7 oqa7 opb7 n4).mono ?_
      rintro e w8 ⟨rfl, d8, ld8, C8, m8⟩
      have m78 := C8.w6 m7 (by simp) (by simp)
      go_wp2_with (fail)
      go_at_call 30
      refine (add_pz 1 (by omega) (by omega) wc.heap.size d7 _ d8 6 w8 m78 m8.1 (cell_at m8.2 0) (by omega) (by omega)).mono ?_
      rintro e w9 ⟨rfl, C9, z9⟩
      have C49 := (C47.trans C8 (by simp)).trans C9 (by simp; omega)
      obtain ⟨j0, j1, j2, j3, j4, j5⟩ := HCF.out w9 C49
      have m9 := C9.w6 (C8.w6 (C7.w6 m4 (by simp) (by simp)) (by simp) (by simp)) (by simp; omega) (by simp; omega)
      go_wp2_with (fail)
      go_at_call 31
      refine (root_closed wd.heap.size d3 wc.heap.size d7 w9 m9 z9 (by omega)).mono ?_
      rintro e wl ⟨rfl, Cl⟩
      have CR : Chg [wd.heap.size, d3] wd wl := C49.trans Cl (by simp)
      have hrl := CR.get HR.out (by simp; omega)
      have Cw : Chg [] w wl := C0c.trans CR (by simp; omega)
      have y0 : wl.cell? ⟨w.heap.size + 1 + 1, 0, none⟩ = some (.int .i64 0) := cell_at hrl 0
      have y1 : wl.cell? ⟨w.heap.size + 1 + 1, 1, none⟩ = some (.int .i64 0) := cell_at hrl 1
      have y2 : wl.cell? ⟨w.heap.size + 1 + 1, 2, none⟩ = some (.int .i64 0) := cell_at hrl 2
      have x0 := free_at hrl 0
      have x1 := free_at hrl 1
      have x2 := free_at hrl 2
      go_wp2_with (fail)
      have hF := ((Cw.setCell (p := ⟨w.heap.size + 1 + 1, 0, none⟩) (.inr (show w.heap.size ≤ w.heap.size + 1 + 1 by omega)) (.int .i64 1)).setCell (p := ⟨w.heap.size + 1 + 1, 1, none⟩) (.inr (show w.heap.size ≤ w.heap.size + 1 + 1 by omega)) (.int .i64 0)).setCell (p := ⟨w.heap.size + 1 + 1, 2, none⟩) (.inr (show w.heap.size ≤ w.heap.size + 1 + 1 by omega)) (.int .i64 2)
      have hB := heap_setCell (heap_setCell (heap_setCell hrl 0 (.int .i64 1)) 1 (.int .i64 0)) 2 (.int .i64 2)
      generalize ((wl.setCell ⟨w.heap.size + 1 + 1, 0, none⟩ (.int .i64 1)).setCell ⟨w.heap.size + 1 + 1, 1, none⟩ (.int .i64 0)).setCell ⟨w.heap.size + 1 + 1, 2, none⟩ (.int .i64 2) = wf at hF hB ⊢
      have q0 : wf.cell? ⟨w.heap.size + 1 + 1, 0, none⟩ = some (.int .i64 1) := cell_at hB 0
      have q1 : wf.cell? ⟨w.heap.size + 1 + 1, 1, none⟩ = some (.int .i64 0) := cell_at hB 1
      have q2 : wf.cell? ⟨w.heap.size + 1 + 1, 2, none⟩ = some (.int .i64 2) := cell_at hB 2
      refine bodyPost_ret (by simp [results, Tryz.results12, go_sem, q0, q1, q2]; try rfl) rfl ?_
      exact ⟨rfl, hF⟩
end Go.Proofs.YtkokikfooooiiaaGreatDoor
