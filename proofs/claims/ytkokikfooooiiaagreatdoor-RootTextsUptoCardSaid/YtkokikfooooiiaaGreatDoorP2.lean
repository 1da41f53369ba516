import Derived.Test.YtkokikfooooiiaaGreatDoorP1
import Derived.Deep.DeepCutAuto
namespace Go.Proofs.YtkokikfooooiiaaGreatDoor
set_option linter.unusedSimpArgs false
open Go.RowKit Go.Lib

/-- A reader's two variables: the result's, and the number that is built. -/
def InvP (w : World) (R V : Nat) (p q k : Int) (wx : World) : Prop := Chg [] w wx ∧ wx.heap[R]? = some (.cells #[.int .i64 0, .int .i64 0, .int .i64 0] 23 (0, 0)) ∧ wx.heap[V]? = some (.cells #[.int .i64 p, .int .i64 q, .int .i64 k] 23 (0, 0)) ∧ R ≠ V ∧ w.heap.size ≤ R ∧ w.heap.size ≤ V

theorem InvP.step {w wx wy : World} {R V : Nat} {p q k : Int} (h : InvP w R V p q k wx) (c : Chg [] wx wy) : InvP w R V p q k wy :=
  ⟨h.1.trans c (by simp), c.get h.2.1 (by simp), c.get h.2.2.1 (by simp), h.2.2.2⟩
theorem InvP.cells {w wx : World} {R V : Nat} {p q k : Int} (h : InvP w R V p q k wx) : wx.cell? ⟨V, 0, none⟩ = some (.int .i64 p) ∧ wx.cell? ⟨V, 1, none⟩ = some (.int .i64 q) ∧ wx.cell? ⟨V, 2, none⟩ = some (.int .i64 k) ∧ wx.frozen? ⟨V, 0, none⟩ = false ∧ wx.frozen? ⟨V, 1, none⟩ = false ∧ wx.frozen? ⟨V, 2, none⟩ = false :=
  ⟨cell_at h.2.2.1 0, cell_at h.2.2.1 1, cell_at h.2.2.1 2, free_at h.2.2.1 0, free_at h.2.2.1 1, free_at h.2.2.1 2⟩
theorem InvP.res {w wx : World} {R V : Nat} {p q k : Int} (h : InvP w R V p q k wx) : wx.cell? ⟨R, 0, none⟩ = some (.int .i64 0) ∧ wx.cell? ⟨R, 1, none⟩ = some (.int .i64 0) ∧ wx.cell? ⟨R, 2, none⟩ = some (.int .i64 0) ∧ wx.frozen? ⟨R, 0, none⟩ = false ∧ wx.frozen? ⟨R, 1, none⟩ = false ∧ wx.frozen? ⟨R, 2, none⟩ = false :=
  ⟨cell_at h.2.1 0, cell_at h.2.1 1, cell_at h.2.1 2, free_at h.2.1 0, free_at h.2.1 1, free_at h.2.1 2⟩
theorem InvP.set {w wx : World} {R V : Nat} {p q k p' q' k' : Int} (h : InvP w R V p q k wx) (i : Nat) (u : Value) (e : #[Value.int .i64 p, .int .i64 q, .int .i64 k].setIfInBounds i u = #[.int .i64 p', .int .i64 q', .int .i64 k']) : InvP w R V p' q' k' (wx.setCell ⟨V, i, none⟩ u) := by
  refine ⟨h.1.setCell (.inr h.2.2.2.2.2) _, ?_, ?_, h.2.2.2⟩
  · rw [Below.heap_setCell _ _ _ _ h.2.2.2.1]; exact h.2.1
  · rw [heap_setCell h.2.2.1, e]
theorem InvP.start (w : World) : InvP w w.heap.size (w.heap.size + 1) 0 0 0 ((w.alloc (.cells #[.int .i64 0, .int .i64 0, .int .i64 0] 23)).alloc (.cells #[.int .i64 0, .int .i64 0, .int .i64 0] 23)) :=
  ⟨((Chg.refl _ _).alloc _).alloc _, by ((simp only [get_drew, get_drewN, get_alloc, get_setCell, World.size_alloc, World.size_setCell, size_drew, size_drewN, if_true]); repeat (first | rw [if_pos (by omega)] | rw [if_neg (by omega)] | simp only [Option.map_some, turn_cells, if_true] | assumption | rfl)), by ((simp only [get_drew, get_drewN, get_alloc, get_setCell, World.size_alloc, World.size_setCell, size_drew, size_drewN, if_true]); repeat (first | rw [if_pos (by omega)] | rw [if_neg (by omega)] | simp only [Option.map_some, turn_cells, if_true] | assumption | rfl)), by omega, by omega, by omega⟩
theorem InvP.env {w wx : World} {R V : Nat} {p q k : Int} (h : InvP w R V p q k wx) (e : Env w) : Env wx := e.step h.1

theorem parseV_bounds (l : List UInt8) : -9223372036854775808 ≤ Str.parseV l ∧ Str.parseV l ≤ 9223372036854775807 := by
  unfold Str.parseV
  split
  · rename_i v h
    unfold parseIntB at h
    split at h
    · cases h
    · dsimp only at h
      split at h
      · cases h
      · cases h
      · rename_i u _
        have p63 : (2 : Nat) ^ (64 - 1) = 9223372036854775808 := by decide
        rw [p63] at h
        split at h
        · cases h
        · split at h
          · cases h
          · rename_i h1 h2
            injection h with h
            subst h
            split <;> rename_i h3
            · have : ¬ 9223372036854775808 < u := fun c => h2 ⟨h3, c⟩
              omega
            · have : ¬ 9223372036854775808 ≤ u := fun c => h1 ⟨h3, c⟩
              omega
  · omega
  · unfold intSat
    have p63 : (2 : Nat) ^ (64 - 1) = 9223372036854775808 := by decide
    rw [p63]
    split <;> omega

theorem chk_okRoot (p q k : Int) : chk p q k = 0 ↔ Str.okRoot p q k = true := by
  unfold Str.okRoot chk
  rw [decide_eq_true_iff]
  have e : ∀ z : Int, z.tmod 2 = 0 ↔ z % 2 = 0 := fun z => by rw [← Int.dvd_iff_tmod_eq_zero, Int.dvd_iff_emod_eq_zero]
  have ep := e p
  have eq := e q
  constructor
  · intro h
    split at h
    · rename_i c; omega
    · cases h
  · intro h
    rw [if_pos (by omega)]

theorem lastIdx_lt (s : ByteArray) (c : Int) : ∀ k : Nat, -1 ≤ lastIdx s c k ∧ lastIdx s c k < k
  | 0 => by simp [lastIdx]
  | k + 1 => by
    have ih := lastIdx_lt s c k
    by_cases h : ((s.data[k]!).toNat : Int) = c
    · rw [lastIdx_hit s c k h]; omega
    · rw [lastIdx_miss s c k h]; omega
theorem lastL_lt (l : List UInt8) (c : Int) : -1 ≤ Str.lastL l c ∧ Str.lastL l c < l.length := by
  have h := lastIdx_lt ⟨l.toArray⟩ c l.length
  exact h
theorem ext_eq (X : List UInt8) (a b : Nat) : (⟨X.toArray⟩ : ByteArray).extract a b = ⟨((X.drop a).take (b - a)).toArray⟩ := by
  rw [ByteArray.ext_iff]
  simp [ByteArray.data_extract]
theorem ext_drop (X : List UInt8) (n : Nat) : (⟨X.toArray⟩ : ByteArray).extract n X.length = ⟨(X.drop n).toArray⟩ := by
  rw [ext_eq, List.take_of_length_le (by simp)]
theorem ext_take (X : List UInt8) (n : Nat) : (⟨X.toArray⟩ : ByteArray).extract 0 n = ⟨(X.take n).toArray⟩ := by
  rw [ext_eq]; simp

end Go.Proofs.YtkokikfooooiiaaGreatDoor
