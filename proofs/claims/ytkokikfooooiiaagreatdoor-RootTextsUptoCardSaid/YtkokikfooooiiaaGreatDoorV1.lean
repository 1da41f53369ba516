import Derived.Test.YtkokikfooooiiaaGreatDoorBase2
import Derived.Test.YtkokikfooooiiaaGreatDoorI2
import Derived.Test.YtkokikfooooiiaaGreatDoorR1
import Derived.Test.YtkokikfooooiiaaGreatDoorI3
import Derived.Test.YtkokikfooooiiaaGreatDoorN1
import Derived.Deep.RegionHeld3
import Derived.Deep.RegionLaw
import Derived.Deep.QuietTactic
import Derived.BigQuiet
import Derived.StillTailTactics
import Derived.Deep.DeepCutAuto
namespace Go.Proofs.YtkokikfooooiiaaGreatDoor
set_option linter.unusedSimpArgs false
open Go.RowKit
set_option maxRecDepth 100000 in
set_option maxHeartbeats 8000000 in
theorem root_closed (bp dp bq dq : Nat) (w : World) (hp : W6 w bp false 1 dp) (hq : Z6 w bq dq) (hpq : bp ≠ bq) :
    Calls Tryz.prog 31 #[.agg #[.pointer (some ⟨bp, 0, none⟩), .pointer (some ⟨bq, 0, none⟩), .int .i64 2]] w fun e w' => e = .returned (.tuple #[.agg #[.int .i64 1, .int .i64 0, .int .i64 2], .int .i64 0]) ∧ Chg [] w w' := by
  have lp := lt_of_block hp.1
  have lq := lt_of_block hq.1
  have HP := Lib.hid hp
  have HQ := Lib.hid hq
  clear hp hq
  have hqp := Ne.symm hpq
  have A := Lib.hid (fun bz w h1 h2 h3 => set_one_x 1 false bz bp w h1 h2 h3)
  have B := Lib.hid (fun bz w h1 h2 h3 => set_z6_x bz bq dq w h1 h2 h3)
  go_enter Tryz.func31, Tryz.ntmps31
  go_upto_region 1 with fail
  go_cut [4, 5, 6] (fun s4 s5 s6 wx => ∃ a b d, s4 = .pointer (some ⟨a, 0, none⟩) ∧ s5 = .pointer (some ⟨b, 0, none⟩) ∧ s6 = .int .i64 2 ∧ a ≠ b ∧ w.heap.size ≤ a ∧ w.heap.size ≤ b ∧ w.heap.size ≤ d ∧ W1 wx a false 1 d ∧ Z0 wx b ∧ Chg [] w wx ∧ wx.heap[w.heap.size + 1]? = some (.cells #[.int .i64 0, .int .i64 0, .int .i64 0] 23 (0, 0)) ∧ d < wx.heap.size)
  case first =>
    go_region_held3 (fun w' => w'.cell? ⟨w.heap.size, 0, none⟩ = some (.pointer (some ⟨bp, 0, none⟩)) ∧ w'.cell? ⟨w.heap.size, 1, none⟩ = some (.pointer (some ⟨bq, 0, none⟩)) ∧ w'.cell? ⟨w.heap.size, 2, none⟩ = some (.int .i64 2)) (first | (refine ⟨?_, ?_, ?_⟩ <;> go_simp; done) | go_keep) (first | (go_at_call_of 56 (Value.pointer (some ⟨bp, 0, none⟩)); refine (A.out _ _ (by unfold Z0; simp only [get_drew, get_alloc, World.size_alloc, World.size_drew, if_true]; repeat (first | rw [if_pos rfl] | rw [if_neg (by omega)])) (by repeat (first | exact HP.out.one | refine One.drew ?_ | refine One.alloc ?_ _)) (by simp; omega)).mono ?_; rintro e w1 ⟨rfl, rfl⟩) | (go_at_call_of 56 (Value.pointer (some ⟨bq, 0, none⟩)); refine (B.out _ _ (by unfold Z0; simp only [get_drew, get_alloc, World.size_alloc, World.size_drew, if_true]; repeat (first | rw [if_pos rfl] | rw [if_neg (by omega)])) (by repeat (first | exact HQ.out | refine Z6.drew ?_ | refine Z6.alloc ?_ _)) (by simp; omega)).mono ?_; rintro e w1 ⟨rfl, rfl⟩))
    all_goals (go_wp2_with fail; go_meet)
    all_goals (first | (refine ⟨_, _, w.heap.size + 3, rfl, rfl, rfl, ?_, ?_, ?_, ?_, ⟨?_, ?_⟩, ?_, ?_, ?_, ?_⟩ <;> (first | omega | (show _ = _; ((simp only [get_drew, get_drewN, get_alloc, get_setCell, World.size_alloc, World.size_setCell, size_drew, size_drewN, if_true]); repeat (first | rw [if_pos (by omega)] | rw [if_neg (by omega)] | simp only [Option.map_some, turn_cells, if_true] | assumption | rfl)); done) | ((repeat (first | exact Chg.refl _ _ | refine Chg.drew ?_ | refine Chg.alloc ?_ _)); done) | (simp only [World.size_alloc, size_drew]; omega))) | (refine ⟨_, _, w.heap.size + 4, rfl, rfl, rfl, ?_, ?_, ?_, ?_, ⟨?_, ?_⟩, ?_, ?_, ?_, ?_⟩ <;> (first | omega | (show _ = _; ((simp only [get_drew, get_drewN, get_alloc, get_setCell, World.size_alloc, World.size_setCell, size_drew, size_drewN, if_true]); repeat (first | rw [if_pos (by omega)] | rw [if_neg (by omega)] | simp only [Option.map_some, turn_cells, if_true] | assumption | rfl)); done) | ((repeat (first | exact Chg.refl _ _ | refine Chg.drew ?_ | refine Chg.alloc ?_ _)); done) | (simp only [World.size_alloc, size_drew]; omega))) | (refine ⟨_, _, w.heap.size + 5, rfl, rfl, rfl, ?_, ?_, ?_, ?_, ⟨?_, ?_⟩, ?_, ?_, ?_, ?_⟩ <;> (first | omega | (show _ = _; ((simp only [get_drew, get_drewN, get_alloc, get_setCell, World.size_alloc, World.size_setCell, size_drew, size_drewN, if_true]); repeat (first | rw [if_pos (by omega)] | rw [if_neg (by omega)] | simp only [Option.map_some, turn_cells, if_true] | assumption | rfl)); done) | ((repeat (first | exact Chg.refl _ _ | refine Chg.drew ?_ | refine Chg.alloc ?_ _)); done) | (simp only [World.size_alloc, size_drew]; omega))))
  case rest =>
    obtain ⟨a, b, d, rfl, rfl, rfl, hab, la, lb, ld, ha, hb, hC, hr, hsz⟩ := hcut
    have lba := lt_of_block hb
    have laa := lt_of_block ha.1
    have HA := Lib.hid ha
    have ha0 := ha
    have HB := Lib.hid hb
    clear ha hb A B HP HQ
    have S1 := Lib.hid (fun w h => sign_one a 1 false w h)
    have D1 := Lib.hid (fun w h1 h2 => bit_odd a d 1 false w h1 h2)
    go_wp2_with (first | (go_at_call 57; refine (S1.out _ HA.out.one).mono ?_; rintro e w1 ⟨rfl, rfl⟩))
    refine wp_loop_rounds 1 ?_
    rw [rounds_succ]
    go_wp2_with (first | (go_at_call 58; refine (D1.out _ HA.out.1 (cell_at HA.out.2 0)).mono ?_; rintro e w1 ⟨rfl, rfl⟩))
    have nd := lt_of_block ha0.2
    obtain ⟨hone, hnew⟩ : (∀ n, One ((newW wc false 9007199254740991).drewN n) a false 1) ∧ (∀ n, One ((newW wc false 9007199254740991).drewN n) (wc.heap.size + 1) false 9007199254740991) := by
      refine ⟨fun n => ?_, fun n => ⟨wc.heap.size, 1, ?_, ?_, ?_, Nat.le_refl _⟩⟩
      · exact ((HA.out.one.alloc _).alloc _)
      · show _ = _; unfold newW; ((simp only [get_drew, get_drewN, get_alloc, get_setCell, World.size_alloc, World.size_setCell, size_drew, size_drewN, if_true]); repeat (first | rw [if_pos (by omega)] | rw [if_neg (by omega)] | simp only [Option.map_some, turn_cells, if_true] | assumption | rfl))
      · refine cell_at (cs := #[.int .u64 9007199254740991]) (t := 108) (f := (0, 0)) ?_ 0; unfold newW; ((simp only [get_drew, get_drewN, get_alloc, get_setCell, World.size_alloc, World.size_setCell, size_drew, size_drewN, if_true]); repeat (first | rw [if_pos (by omega)] | rw [if_neg (by omega)] | simp only [Option.map_some, turn_cells, if_true] | assumption | rfl))
      · unfold newW; simp only [get_drewN, World.size_alloc, World.drewN]; omega
    have hzero : ∀ n, Z0 ((newW wc false 9007199254740991).drewN n) b := by
      intro n; show _ = _; have h := HB.out; unfold Z0 at h; unfold newW; ((simp only [get_drew, get_drewN, get_alloc, get_setCell, World.size_alloc, World.size_setCell, size_drew, size_drewN, if_true]); repeat (first | rw [if_pos (by omega)] | rw [if_neg (by omega)] | simp only [Option.map_some, turn_cells, if_true] | assumption | rfl))
    have N := Lib.hid (newInt_pos 9007199254740991 (by omega) (by omega) wc)
    have C11 := Lib.hid (fun n => cmpabs_11 1 9007199254740991 a (wc.heap.size + 1) false false _ (hone n) (hnew n))
    have C01 := Lib.hid (fun n => cmpabs_01 9007199254740991 b (wc.heap.size + 1) false _ (hzero n) (hnew n))
    have I1 := Lib.hid (fun n => int64_one a 1 (by omega) _ (hone n))
    have I0 := Lib.hid (fun n => int64_z0 b _ (hzero n))
    have hres : ∀ n, ((newW wc false 9007199254740991).drewN n).heap[w.heap.size + 1]? = some (.cells #[.int .i64 0, .int .i64 0, .int .i64 0] 23 (0, 0)) := by
      intro n; unfold newW; have := lt_of_block hr; ((simp only [get_drew, get_drewN, get_alloc, get_setCell, World.size_alloc, World.size_setCell, size_drew, size_drewN, if_true]); repeat (first | rw [if_pos (by omega)] | rw [if_neg (by omega)] | simp only [Option.map_some, turn_cells, if_true] | assumption | rfl))
    have f0 := fun n => free_at (hres n) 0
    have f1 := fun n => free_at (hres n) 1
    have f2 := fun n => free_at (hres n) 2
    have c0 := fun n => cell_at (hres n) 0
    have c1 := fun n => cell_at (hres n) 1
    have c2 := fun n => cell_at (hres n) 2
    have hN : ∀ n, Chg [] w ((newW wc false 9007199254740991).drewN n) := fun n => ((hC.alloc _).alloc _).drewN n
    clear hone hnew hzero
    go_wp2_with (first | (go_at_call 44; refine N.out.mono ?_; rintro e w1 ⟨rfl, rfl⟩) | (go_at_call_of 60 (Value.pointer (some ⟨a, 0, none⟩)); refine (C11.out 0).mono ?_; rintro e w1 ⟨rfl, n1, rfl⟩) | (go_at_call_of 60 (Value.pointer (some ⟨b, 0, none⟩)); refine (C01.out _).mono ?_; rintro e w1 ⟨rfl, n2, rfl⟩) | (go_at_call_of 61 (Value.pointer (some ⟨a, 0, none⟩)); refine (I1.out _).mono ?_; rintro e w1 ⟨rfl, rfl⟩) | (go_at_call_of 61 (Value.pointer (some ⟨b, 0, none⟩)); refine (I0.out _).mono ?_; rintro e w1 ⟨rfl, rfl⟩))
    have hF := (((hN (n1 + n2)).setCell (p := ⟨w.heap.size + 1, 0, none⟩) (.inr (by simp)) (.int .i64 1)).setCell (p := ⟨w.heap.size + 1, 1, none⟩) (.inr (by simp)) (.int .i64 0)).setCell (p := ⟨w.heap.size + 1, 2, none⟩) (.inr (by simp)) (.int .i64 2)
    have hB := heap_setCell (heap_setCell (heap_setCell (hres (n1 + n2)) 0 (.int .i64 1)) 1 (.int .i64 0)) 2 (.int .i64 2)
    generalize ((((newW wc false 9007199254740991).drewN (n1 + n2)).setCell ⟨w.heap.size + 1, 0, none⟩ (.int .i64 1)).setCell ⟨w.heap.size + 1, 1, none⟩ (.int .i64 0)).setCell ⟨w.heap.size + 1, 2, none⟩ (.int .i64 2) = wf at hF hB ⊢
    have q0 : wf.cell? ⟨w.heap.size + 1, 0, none⟩ = some (.int .i64 1) := cell_at hB 0
    have q1 : wf.cell? ⟨w.heap.size + 1, 1, none⟩ = some (.int .i64 0) := cell_at hB 1
    have q2 : wf.cell? ⟨w.heap.size + 1, 2, none⟩ = some (.int .i64 2) := cell_at hB 2

    refine bodyPost_ret (by simp [results, Tryz.results31, go_sem, q0, q1, q2]; try rfl) rfl ?_
    exact ⟨rfl, hF⟩

end Go.Proofs.YtkokikfooooiiaaGreatDoor
