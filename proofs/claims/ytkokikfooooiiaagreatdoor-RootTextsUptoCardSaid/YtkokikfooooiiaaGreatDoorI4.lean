import Derived.Test.YtkokikfooooiiaaGreatDoorM2
import Derived.Test.YtkokikfooooiiaaGreatDoorR2
import Derived.Deep.RegionHeld3
import Derived.Deep.RegionLaw
import Derived.Deep.QuietTactic
import Derived.BigQuiet
import Derived.StillTailTactics
namespace Go.Proofs.YtkokikfooooiiaaGreatDoor
open Go.RowKit
set_option maxRecDepth 100000 in
set_option maxHeartbeats 4000000 in
theorem add_pn (a b k : Nat) (hb0 : 1 ≤ b) (hk : k + b = a) (hk0 : 1 ≤ k) (ha : a < 4294967296) (bz d by' dy cy : Nat) (w : World) (hz : W6 w bz false a d)
    (hy : w.heap[by']? = some (.cells #[.bool true, .slice (some ⟨dy, 0, none⟩) 1 cy] 72 (0, 0))) (hyd : w.cell? ⟨dy, 0, none⟩ = some (.int .u64 b)) (hyc : 1 ≤ cy) (hbd : bz ≠ d) :
    Calls Tryz.prog 30 #[.pointer (some ⟨bz, 0, none⟩), .pointer (some ⟨bz, 0, none⟩), .pointer (some ⟨by', 0, none⟩)] w fun e w' => e = .returned (.pointer (some ⟨bz, 0, none⟩)) ∧ Chg [bz, d] w w' ∧ W6 w' bz false k d := by
  obtain ⟨hz, hd⟩ := hz
  obtain ⟨z0, z1, f0, f1⟩ := big_cells hz
  obtain ⟨y0, y1, _, _⟩ := big_cells hy
  have d0 := cell_at hd 0
  have g0 := free_at hd 0
  simp only [List.getElem?_toArray, List.getElem?_cons_zero] at d0
  have HZ := Lib.hid hz
  have HD := Lib.hid hd
  have HY := Lib.hid hy
  have C := Lib.hid (fun w h1 h2 => natcmp_gt a b (by omega) d 6 dy cy w h1 h2)
  have S := Lib.hid (fun w h1 h2 h3 => natsub_in a b k hb0 hk hk0 ha d dy cy w h1 h2 h3 hyc)
  clear hz hd hy hk
  go_enter Tryz.func30, Tryz.ntmps30
  go_wp2
  go_quiet (fail)
  go_wp2
  go_quiet ((go_at_call 54; exact quiet_add (C.out _ (by simpa using d0) (by simpa using hyd))))
  go_wp2
  go_region_law (first | (go_simp; go_at_call 55; refine (S.out _ (by simpa using d0) (by simpa using g0) (by simpa using hyd)).mono ?_; rintro e w1 ⟨rfl, n1, rfl⟩))
  all_goals
    go_wp2
    go_ret
    refine ⟨rfl, (((Chg.refl _ _).drewN _).setCell (.inl (by simp)) _).two (by simp) _ _, ?_, ?_⟩
    · rw [two_stores (x := .bool false) (y := .slice (some ⟨d, 0, none⟩) 1 6) (by rw [Below.heap_setCell _ _ _ _ hbd]; exact HZ.out)]
    · rw [Below.heap_setCell _ _ _ _ (Ne.symm hbd), Below.heap_setCell _ _ _ _ (Ne.symm hbd)]
      exact heap_setCell HD.out 0 _
set_option maxRecDepth 100000 in
set_option maxHeartbeats 4000000 in
theorem add_pz (a : Nat) (ha0 : 1 ≤ a) (ha : a < 4294967296) (bz d by' dy cy : Nat) (w : World) (hz : W6 w bz false a d)
    (hy : w.heap[by']? = some (.cells #[.bool true, .slice (some ⟨dy, 0, none⟩) 1 cy] 72 (0, 0))) (hyd : w.cell? ⟨dy, 0, none⟩ = some (.int .u64 a)) (hyc : 1 ≤ cy) (hbd : bz ≠ d) :
    Calls Tryz.prog 30 #[.pointer (some ⟨bz, 0, none⟩), .pointer (some ⟨bz, 0, none⟩), .pointer (some ⟨by', 0, none⟩)] w fun e w' => e = .returned (.pointer (some ⟨bz, 0, none⟩)) ∧ Chg [bz, d] w w' ∧ Z6 w' bz d := by
  obtain ⟨hz, hd⟩ := hz
  obtain ⟨z0, z1, f0, f1⟩ := big_cells hz
  obtain ⟨y0, y1, _, _⟩ := big_cells hy
  have d0 := cell_at hd 0
  have g0 := free_at hd 0
  simp only [List.getElem?_toArray, List.getElem?_cons_zero] at d0
  have HZ := Lib.hid hz
  have HD := Lib.hid hd
  have HY := Lib.hid hy
  have C := Lib.hid (fun w h1 h2 => natcmp_eq a d 6 dy cy w h1 h2)
  have S := Lib.hid (fun w h1 h2 h3 => natsub_in0 a ha0 ha d dy cy w h1 h2 h3 hyc)
  clear hz hd hy
  go_enter Tryz.func30, Tryz.ntmps30
  go_wp2
  go_quiet (fail)
  go_wp2
  go_quiet ((go_at_call 54; exact quiet_add (C.out _ (by simpa using d0) (by simpa using hyd))))
  go_wp2
  go_region_law (first | (go_simp; go_at_call 55; refine (S.out _ (by simpa using d0) (by simpa using g0) (by simpa using hyd)).mono ?_; rintro e w1 ⟨rfl, n1, rfl⟩))
  all_goals
    go_wp2
    go_ret
    refine ⟨rfl, (((Chg.refl _ _).drewN _).setCell (.inl (by simp)) _).two (by simp) _ _, ?_, ?_⟩
    · rw [two_stores (x := .bool false) (y := .slice (some ⟨d, 0, none⟩) 1 6) (by rw [Below.heap_setCell _ _ _ _ hbd]; exact HZ.out)]
    · rw [Below.heap_setCell _ _ _ _ (Ne.symm hbd), Below.heap_setCell _ _ _ _ (Ne.symm hbd)]
      exact heap_setCell HD.out 0 _
end Go.Proofs.YtkokikfooooiiaaGreatDoor
