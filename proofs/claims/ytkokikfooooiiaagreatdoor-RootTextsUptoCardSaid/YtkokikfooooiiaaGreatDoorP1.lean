import Derived.Test.YtkokikfooooiiaaGreatDoorX3
import Derived.Lib.AtoiErrMem
import Derived.Deep.QuietTactic
namespace Go.Proofs.YtkokikfooooiiaaGreatDoor
open Go.RowKit Go.Lib

theorem Chg.cell {w w' : World} (c : Chg [] w w') {a : Addr} {v : Value} (h : w.cell? a = some v) : w'.cell? a = some v := by
  have hb : w'.heap[a.block]? = w.heap[a.block]? := c.block a.block (World.block_lt_of_cell? w a h) (by simp)
  exact (World.cell?_of_block (w := w) hb).trans h

/-- What the library's variables hold. -/
structure Env (w : World) : Prop where
  tab : Tab w
  len : ∃ m, w.cell? ⟨1, 0, none⟩ = some (.int .i64 m)
  syn : ∃ te pe, w.cell? ⟨4, 0, none⟩ = some (.iface te pe)
  ran : ∃ te pe, w.cell? ⟨5, 0, none⟩ = some (.iface te pe)

theorem Env.step {w w' : World} (h : Env w) (c : Chg [] w w') : Env w' := by
  obtain ⟨t, ⟨m, hm⟩, ⟨a, b, hs⟩, ⟨a', b', hr⟩⟩ := h
  exact ⟨t.step c, ⟨m, c.cell hm⟩, ⟨a, b, c.cell hs⟩, ⟨a', b', c.cell hr⟩⟩

theorem chg_bytes {w w' : World} (h : w' = w ∨ ∃ t, w' = Lib.bytesWorld w 5 t) : Chg [] w w' := by
  rcases h with rfl | ⟨t, rfl⟩
  · exact Chg.refl _ _
  · exact Chg.of_below (bytesWorld_below _ _ _)

theorem parse_t (l : List UInt8) (hl : l.length < 4294967281) (w : World) (he : Env w) : Calls Tryz.prog 25 #[.string ⟨l.toArray⟩, .int .i64 10, .int .i64 64] w fun e w' => (∃ ev, e = .returned (.tuple #[.int .i64 (Str.parseV l), ev])) ∧ Chg [] w w' := by
  obtain ⟨_, _, ⟨a, b, hs⟩, ⟨a', b', hr⟩⟩ := he
  have hsz : (⟨l.toArray⟩ : ByteArray).size = l.length := by simp [ByteArray.size]
  rcases h : parseIntB 64 l with v | _ | _
  · refine (Tryz.strconv_ParseInt_10_at64_ok ⟨l.toArray⟩ (by omega) v (by simpa using h) w).mono ?_
    rintro e w' ⟨rfl, c⟩
    exact ⟨⟨_, by rw [show Str.parseV l = v by unfold Str.parseV; rw [h]]⟩, chg_bytes c⟩
  · have t := Any.strconv_ParseInt_10_at64_syntax Tryz.laysC174 ⟨l.toArray⟩ (by omega) (by simpa using h) _ w hs (.inr ⟨_, _, rfl⟩)
    refine (show Calls Tryz.prog 25 #[.string ⟨l.toArray⟩, .int .i64 10, .int .i64 64] w _ from t).mono ?_
    rintro e w' ⟨N, rfl, _, _, c⟩
    exact ⟨⟨_, by rw [show Str.parseV l = 0 by unfold Str.parseV; rw [h]]⟩, Chg.of_below c⟩
  · refine (Tryz.strconv_ParseInt_10_at64_range ⟨l.toArray⟩ (by omega) (by simpa using h) _ w hr (.inr ⟨_, _, rfl⟩)).mono ?_
    rintro e w' ⟨N, rfl, _, _, c⟩
    refine ⟨⟨_, by rw [show Str.parseV l = intSat 64 l by unfold Str.parseV; rw [h]]⟩, Chg.of_below c⟩

theorem atoi_t (l : List UInt8) (hl : l.length < 4294967281) (w : World) (he : Env w) : Calls Tryz.prog 22 #[.string ⟨l.toArray⟩] w fun e w' => (∃ ev, e = .returned (.tuple #[.int .i64 (Str.atoiV l), ev])) ∧ Chg [] w w' := by
  obtain ⟨_, _, ⟨a, b, hs⟩, ⟨a', b', hr⟩⟩ := he
  have hsz : (⟨l.toArray⟩ : ByteArray).size = l.length := by simp [ByteArray.size]
  rcases h : atoiAll l with v | _ | _
  · refine (Tryz.strconv_Atoi_ok ⟨l.toArray⟩ (by omega) v (by simpa using h) w).mono ?_
    rintro e w' ⟨rfl, c⟩
    exact ⟨⟨_, by rw [show Str.atoiV l = v by unfold Str.atoiV; rw [h]]⟩, chg_bytes c⟩
  · have t := Any.strconv_Atoi_syntax Tryz.laysC172 ⟨l.toArray⟩ (by omega) (by simpa using h) _ w hs (.inr ⟨_, _, rfl⟩)
    refine (show Calls Tryz.prog 22 #[.string ⟨l.toArray⟩] w _ from t).mono ?_
    rintro e w' ⟨N, rfl, _, _, c⟩
    exact ⟨⟨_, by rw [show Str.atoiV l = 0 by unfold Str.atoiV; rw [h]]⟩, Chg.of_below c⟩
  · refine (Tryz.strconv_Atoi_range ⟨l.toArray⟩ (by omega) (by simpa using h) _ w hr (.inr ⟨_, _, rfl⟩)).mono ?_
    rintro e w' ⟨N, rfl, _, _, c⟩
    refine ⟨⟨_, by rw [show Str.atoiV l = atoiSat l by unfold Str.atoiV; rw [h]]⟩, Chg.of_below c⟩

theorem cut_t (l : List UInt8) (hl : l.length < 4294967281) (w : World) (he : Env w) : Calls Tryz.prog 21 #[.string ⟨l.toArray⟩, .string ⟨#[47, 50, 94]⟩] w fun e w' => e = .returned (.tuple #[.string ⟨(cut l Str.slash).1.toArray⟩, .string ⟨(cut l Str.slash).2.1.toArray⟩, .bool (cut l Str.slash).2.2]) ∧ Chg [] w w' := by
  obtain ⟨m, hm⟩ := he.len
  have hsz : (⟨l.toArray⟩ : ByteArray).size = l.length := by simp [ByteArray.size]
  refine (Tryz.strings_Cut ⟨l.toArray⟩ ⟨#[47, 50, 94]⟩ m w (by omega) hm).mono ?_
  rintro e w' ⟨rfl, n, rfl⟩
  exact ⟨rfl, (Chg.refl _ _).drewN _⟩

theorem suffix_t (l : List UInt8) (hl : l.length < 4294967281) (w : World) : Calls Tryz.prog 23 #[.string ⟨l.toArray⟩, .string ⟨#[114]⟩] w fun e w' => e = .returned (.tuple #[.string ⟨(trimSuffix l [114]).toArray⟩, .bool (hasSuffix l [114])]) ∧ w' = w := by
  have hsz : (⟨l.toArray⟩ : ByteArray).size = l.length := by simp [ByteArray.size]
  exact Tryz.strings_CutSuffix ⟨l.toArray⟩ ⟨#[114]⟩ w (by omega)

theorem last_t (l : List UInt8) (hl : l.length < 4294967281) (c : Int) (w : World) : Calls Tryz.prog 24 #[.string ⟨l.toArray⟩, .int .u8 c] w fun e w' => e = .returned (.int .i64 (Str.lastL l c)) ∧ w' = w := by
  have hsz : (⟨l.toArray⟩ : ByteArray).size = l.length := by simp [ByteArray.size]
  exact Tryz.strings_LastIndexByte ⟨l.toArray⟩ c (by omega) w
end Go.Proofs.YtkokikfooooiiaaGreatDoor
