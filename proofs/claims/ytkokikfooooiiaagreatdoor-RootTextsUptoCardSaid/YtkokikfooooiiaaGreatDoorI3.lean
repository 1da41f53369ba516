import Derived.Test.YtkokikfooooiiaaGreatDoorR2
import Derived.Deep.RegionHeld3
import Derived.Deep.RegionLaw
import Derived.Deep.QuietTactic
import Derived.BigQuiet
import Derived.StillTailTactics
namespace Go.Proofs.YtkokikfooooiiaaGreatDoor
open Go.RowKit
set_option maxRecDepth 100000 in
set_option maxHeartbeats 4000000 in
theorem cmpabs_11 (a b : Nat) (bx by' : Nat) (nx ny : Bool) (w : World) (hx : One w bx nx a) (hy : One w by' ny b) :
    Calls Tryz.prog 60 #[.pointer (some ⟨bx, 0, none⟩), .pointer (some ⟨by', 0, none⟩)] w fun e w' => e = .returned (.int .i64 (if a < b then -1 else if b < a then 1 else 0)) ∧ ∃ n, w' = w.drewN n := by
  obtain ⟨dx, cx, hx, hxd, _, _⟩ := hx
  obtain ⟨dy, cy, hy, hyd, _, _⟩ := hy
  obtain ⟨x0, x1, _, _⟩ := big_cells hx
  obtain ⟨y0, y1, _, _⟩ := big_cells hy
  have C := Lib.hid (fun w h1 h2 => natcmp_11 a b dx cx dy cy w h1 h2)
  clear hx hy
  go_enter Tryz.func60, Tryz.ntmps60
  go_wp2
  go_quiet ((go_at_call 54; exact Calls.quiet_of (C.out _ (by simpa using hxd) (by simpa using hyd))))
  go_wp2
  all_goals
    go_ret
    exact ⟨rfl, _, rfl⟩
set_option maxRecDepth 100000 in
set_option maxHeartbeats 4000000 in
theorem cmpabs_01 (b : Nat) (bx by' : Nat) (ny : Bool) (w : World) (hx : Z0 w bx) (hy : One w by' ny b) :
    Calls Tryz.prog 60 #[.pointer (some ⟨bx, 0, none⟩), .pointer (some ⟨by', 0, none⟩)] w fun e w' => e = .returned (.int .i64 (-1)) ∧ ∃ n, w' = w.drewN n := by
  obtain ⟨dy, cy, hy, hyd, _, _⟩ := hy
  obtain ⟨x0, x1, _, _⟩ := big_cells hx
  obtain ⟨y0, y1, _, _⟩ := big_cells hy
  have C := Lib.hid (fun w => natcmp_01 dy cy w)
  clear hx hy
  go_enter Tryz.func60, Tryz.ntmps60
  go_wp2
  go_quiet ((go_at_call 54; exact Calls.quiet_of_same ((C.out _).mono fun _ _ h => ⟨h.1, h.2.symm⟩)))
  go_wp2
  go_ret
  exact ⟨rfl, _, rfl⟩

end Go.Proofs.YtkokikfooooiiaaGreatDoor
