import Derived.Test.YtkokikfooooiiaaGreatDoorM3
import Derived.Deep.RegionHeld3
import Derived.Deep.RegionLaw
import Derived.Deep.QuietTactic
import Derived.BigQuiet
import Derived.StillTailTactics
namespace Go.Proofs.YtkokikfooooiiaaGreatDoor
open Go.RowKit
set_option maxRecDepth 100000 in
set_option maxHeartbeats 4000000 in
theorem set_one_x (k : Nat) (neg : Bool) (bz b : Nat) (w : World) (hz : Z0 w bz) (h : One w b neg k) (hne : bz ≠ b) :
    Calls Tryz.prog 56 #[.pointer (some ⟨bz, 0, none⟩), .pointer (some ⟨b, 0, none⟩)] w fun e w' => e = .returned (.pointer (some ⟨bz, 0, none⟩)) ∧ w' = (((w.setCell ⟨bz, 1, none⟩ (.slice (some ⟨w.heap.size, 0, none⟩) 1 1)).setCell ⟨bz, 0, none⟩ (.bool neg)).alloc (.cells #[.int .u64 k] 108)).drew := by
  obtain ⟨d, c, hb, hd, hl, hc⟩ := h
  have hp := ptr_neq hz hb hne
  obtain ⟨z0, z1, f0, f1⟩ := big_cells hz
  obtain ⟨c0, c1, _, _⟩ := big_cells hb
  have lz := lt_of_block hz
  have lb := lt_of_block hb
  have HZ := Lib.hid hz
  have HB := Lib.hid hb
  have C := Lib.hid (fun w h1 h2 => natset_1 k d c w h1 h2)
  clear hb hz
  go_enter Tryz.func56, Tryz.ntmps56
  go_wp2
  go_region_law (first | (go_simp; go_at_call 84; refine (C.out _ (by simpa using hd) (by simpa using hl)).mono ?_; rintro e w1 ⟨rfl, rfl⟩))
  all_goals
    go_wp2
    go_ret
    exact ⟨rfl, rfl⟩
set_option maxRecDepth 100000 in
set_option maxHeartbeats 4000000 in
theorem set_z6_x (bz b d : Nat) (w : World) (hz : Z0 w bz) (h : Z6 w b d) (hne : bz ≠ b) :
    Calls Tryz.prog 56 #[.pointer (some ⟨bz, 0, none⟩), .pointer (some ⟨b, 0, none⟩)] w fun e w' => e = .returned (.pointer (some ⟨bz, 0, none⟩)) ∧ w' = ((w.setCell ⟨bz, 1, none⟩ (.slice none 0 0)).setCell ⟨bz, 0, none⟩ (.bool false)).drew := by
  obtain ⟨hb, hd⟩ := h
  have hp := ptr_neq hz hb hne
  obtain ⟨z0, z1, f0, f1⟩ := big_cells hz
  obtain ⟨c0, c1, _, _⟩ := big_cells hb
  have HZ := Lib.hid hz
  have HB := Lib.hid hb
  have C := Lib.hid (fun w => natset_0 d 6 w)
  clear hb hz hd
  go_enter Tryz.func56, Tryz.ntmps56
  go_wp2
  go_region_law (first | (go_simp; go_at_call 84; refine (C.out _).mono ?_; rintro e w1 ⟨rfl, rfl⟩))
  all_goals
    go_wp2
    go_ret
    exact ⟨rfl, rfl⟩

theorem set_one (k : Nat) (neg : Bool) (bz b : Nat) (w : World) (hz : Z0 w bz) (h : One w b neg k) (hne : bz ≠ b) :
    Calls Tryz.prog 56 #[.pointer (some ⟨bz, 0, none⟩), .pointer (some ⟨b, 0, none⟩)] w fun e w' => e = .returned (.pointer (some ⟨bz, 0, none⟩)) ∧ ∃ d, w.heap.size ≤ d ∧ Chg [bz] w w' ∧ W1 w' bz neg k d := by
  refine (set_one_x k neg bz b w hz h hne).mono ?_
  rintro e w' ⟨rfl, rfl⟩
  have lz := lt_of_block hz
  refine ⟨rfl, w.heap.size, Nat.le_refl _, (((Chg.refl _ _).two (by simp) _ _).alloc _).drew, ?_, ?_⟩
  · show (World.alloc _ _).heap[bz]? = _
    rw [Below.heap_alloc _ _ _ (by simpa using lz), two_stores hz]
  · show (World.alloc _ _).heap[w.heap.size]? = _
    have e := heap_new ((w.setCell ⟨bz, 1, none⟩ (.slice (some ⟨w.heap.size, 0, none⟩) 1 1)).setCell ⟨bz, 0, none⟩ (.bool neg)) (.cells #[.int .u64 k] 108)
    simp only [World.size_setCell] at e
    exact e

end Go.Proofs.YtkokikfooooiiaaGreatDoor
