import Derived.Test.YtkokikfooooiiaaGreatDoorK1
import Derived.Test.YtkokikfooooiiaaGreatDoorS1
import Derived.Test.YtkokikfooooiiaaGreatDoorX3
namespace Go.Proofs.YtkokikfooooiiaaGreatDoor
set_option linter.unusedSimpArgs false
open Go.RowKit Go.Lib

theorem text_closed : (⟨(Str.text 5 (-1) 7).toArray⟩ : ByteArray) = ⟨#[53, 45, 49, 114, 47, 50, 94, 55]⟩ := by
  have e5 : itoa 5 = [53] := by rw [Str.itoa_pos (by omega), Str.decDigits_small (by decide)]; rfl
  have e1 : itoa (-1) = [45, 49] := by rw [Str.itoa_neg (by omega), Str.decDigits_small (by decide)]; rfl
  have e7 : itoa 7 = [55] := by rw [Str.itoa_pos (by omega), Str.decDigits_small (by decide)]; rfl
  unfold Str.text Str.body Str.slash
  rw [e5, e1, e7]
  rfl

set_option maxRecDepth 100000 in
set_option maxHeartbeats 4000000 in
theorem awake_true (w : World) (ht : Tab w) : Calls Tryz.prog 4 #[] w fun e w' => e = .returned (.bool true) ∧ Chg [] w w' := by
  have M := Lib.hid (mul_closed w)
  have S := Lib.hid rootsign_closed
  have t := rootText_ok 5 (-1) 7 rfl
  rw [text_closed] at t
  have T := Lib.hid t
  have HT := Lib.hid ht
  clear t ht
  go_enter Tryz.func4, Tryz.ntmps4
  go_wp2_with (fail)
  go_at_call 12
  refine M.out.mono ?_
  rintro e w1 ⟨rfl, C1⟩
  go_wp2_with (fail)
  go_at_call 13
  refine (S.out _).mono ?_
  rintro e w2 ⟨rfl, C2⟩
  have hb := C2.get (k := w1.heap.size) (o := .cells #[.int .i64 1, .int .i64 0, .int .i64 2] 23) (by ((simp only [get_drew, get_drewN, get_alloc, get_setCell, World.size_alloc, World.size_setCell, size_drew, size_drewN, if_true]); repeat (first | rw [if_pos (by omega)] | rw [if_neg (by omega)] | simp only [Option.map_some, turn_cells, if_true] | assumption | rfl))) (by simp)
  have b0 : w2.cell? ⟨w1.heap.size, 0, none⟩ = some (.int .i64 1) := cell_at hb 0
  have b1 : w2.cell? ⟨w1.heap.size, 1, none⟩ = some (.int .i64 0) := cell_at hb 1
  have b2 : w2.cell? ⟨w1.heap.size, 2, none⟩ = some (.int .i64 2) := cell_at hb 2
  have C12 := (C1.alloc (.cells #[.int .i64 1, .int .i64 0, .int .i64 2] 23)).trans C2 (by simp)
  go_wp2_with (fail)
  go_at_call 8
  refine (T.out _ (HT.out.step C12)).mono ?_
  rintro e w3 ⟨rfl, C3⟩
  have hc := C3.get hb (by simp)
  have c0 : w3.cell? ⟨w1.heap.size, 0, none⟩ = some (.int .i64 1) := cell_at hc 0
  have c1 : w3.cell? ⟨w1.heap.size, 1, none⟩ = some (.int .i64 0) := cell_at hc 1
  have c2 : w3.cell? ⟨w1.heap.size, 2, none⟩ = some (.int .i64 2) := cell_at hc 2
  go_wp2
  go_ret
  exact ⟨rfl, C12.trans C3 (by simp)⟩
end Go.Proofs.YtkokikfooooiiaaGreatDoor
