import Derived.Test.YtkokikfooooiiaaGreatDoorM1
import Derived.Deep.RegionHeld3
import Derived.Deep.RegionLaw
import Derived.Deep.QuietTactic
import Derived.BigQuiet
import Derived.StillTailTactics
namespace Go.Proofs.YtkokikfooooiiaaGreatDoor
open Go.RowKit
set_option maxRecDepth 100000 in
set_option maxHeartbeats 4000000 in
theorem lsh_in (k : Nat) (hk0 : 1 ≤ k) (hk : k < 4294967296) (neg : Bool) (b d : Nat) (w : World) (h : W6 w b neg k d) (hbd : b ≠ d) :
    Calls Tryz.prog 29 #[.pointer (some ⟨b, 0, none⟩), .pointer (some ⟨b, 0, none⟩), .int .u64 1] w fun e w' => e = .returned (.pointer (some ⟨b, 0, none⟩)) ∧ Chg [b, d] w w' ∧ W6 w' b neg (k * 2) d := by
  obtain ⟨hb, hd⟩ := h
  obtain ⟨c0, c1, f0, f1⟩ := big_cells hb
  have HB := Lib.hid hb
  have HD := Lib.hid hd
  have hdb : d ≠ b := Ne.symm hbd
  have C := Lib.hid (fun w h => natlsh_in k hk0 hk d w h)
  clear hb hd
  go_enter Tryz.func29, Tryz.ntmps29
  go_wp2
  go_region_law (first | (go_simp; go_at_call 52; refine (C.out _ (by exact HD.out)).mono ?_; rintro e w1 ⟨rfl, rfl⟩))
  all_goals
    go_wp2
    go_ret
    refine ⟨rfl, ?_, ?_⟩
    · exact (((((Chg.refl _ _).setCell (.inl (by simp)) _).setCell (.inl (by simp)) _).setCell (.inl (by simp)) _).setCell (.inl (by simp)) _).drew
    · constructor
      · show (World.setCell _ _ _).heap[b]? = _
        rw [heap_setCell (cs := #[.bool neg, .slice (some ⟨d, 0, none⟩) 1 6]) (t := 72) (f := (0, 0)) (by
          rw [heap_setCell (cs := #[.bool neg, .slice (some ⟨d, 0, none⟩) 1 6]) (t := 72) (f := (0, 0)) (by
            rw [Below.heap_setCell _ _ _ _ hbd, Below.heap_setCell _ _ _ _ hbd]; exact HB.out)]
          rfl)]
        rfl
      · show (World.setCell _ _ _).heap[d]? = _
        rw [Below.heap_setCell _ _ _ _ hdb, Below.heap_setCell _ _ _ _ hdb, heap_setCell (heap_setCell HD.out 0 _)]
        simp
end Go.Proofs.YtkokikfooooiiaaGreatDoor
