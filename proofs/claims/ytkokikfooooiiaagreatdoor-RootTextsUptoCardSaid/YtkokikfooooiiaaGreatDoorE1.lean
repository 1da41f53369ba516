/- The statement of cubitlaw05.RootTexts, where the arguments are together of at most 1048576 values and letters: the law answers true, whatever root and text. -/
import Derived.Test.YtkokikfooooiiaaGreatDoorCards
import Derived.Test.YtkokikfooooiiaaGreatDoorTie
import Derived.Test.YtkokikfooooiiaaGreatDoorL1
import Derived.WalkKit
import Derived.ProofKit
import Derived.OpenShut
import Derived.Deep.DeepHandedRow
import Derived.Deep.DeepWitnessRowRef
import Derived.Lib.LaidTab
import Derived.Lib.LaidIn
import Derived.Lib.SmallJoins
import Derived.Stop.LaidErr
namespace Go.Proofs.YtkokikfooooiiaaGreatDoor
open Go.ChangeShapes Go.WideShapes Go.ChangeAt Go.RowKit
open Go.ChangeMaps (open_string shut_string)

theorem own : ownKnob Tryz.prog.godebug = none := by kernel_rfl
theorem gPow : Tryz.prog.globalNamed "internal/strconv.uint64pow10" = some 3 := by kernel_rfl
theorem gPowType : (Tryz.prog.globals[3]?).map (·.type) = some 126 := by kernel_rfl
theorem gSyn : Tryz.prog.globalNamed "strconv.ErrSyntax" = some 4 := by kernel_rfl
theorem gSynType : (Tryz.prog.globals[4]?).map (·.type) = some 57 := by kernel_rfl
theorem gRan : Tryz.prog.globalNamed "strconv.ErrRange" = some 5 := by kernel_rfl
theorem gRanType : (Tryz.prog.globals[5]?).map (·.type) = some 57 := by kernel_rfl
theorem cellsPow : Tryz.prog.cellsOf 126 = 20 := by kernel_rfl
theorem cells39 : Tryz.prog.cellsOf 39 = 1 := by kernel_rfl
theorem cells156 : Tryz.prog.cellsOf 156 = 1 := by kernel_rfl
theorem cells9 : Tryz.prog.cellsOf 9 = 1 := by kernel_rfl
theorem cells23 : Tryz.prog.cellsOf 23 = 3 := by kernel_rfl
theorem starText : "*" ++ "errors.errorString" = "*errors.errorString" := by decide
theorem row154 (u : TypeId) (h : Tryz.prog.typeName? 3 u = some "*errors.errorString") : u = 154 :=
  typeName_ptr_named (nm := "errors.errorString") (by rw [starText]; kernel_rfl) (by kernel_rfl) (by decide) u (by rw [starText]; exact h)

/-- What the row's list and the world's shape give: the variables that the readers read. -/
theorem env_of {W : World} (h : laidMet Tryz.prog Rows.rootTextsRow.laid W) (hs : W.ShapedOpen Tryz.prog) : Env W := by
  have hp : Tab W := Lib.tabIs_of_head gPow gPowType Tryz.underlying126 Tryz.underlying39 cells39 cellsPow h.tail.tail
  obtain ⟨a1, s1, hv1, _⟩ := laid_sentinel h.tail.tail.tail gRan gRanType Tryz.underlying57 row154 Tryz.underlying154 Tryz.underlying156 rfl rfl Tryz.underlying9 cells156 cells9
  obtain ⟨a2, s2, hv2, _⟩ := laid_sentinel h.tail.tail.tail.tail gSyn gSynType Tryz.underlying57 row154 Tryz.underlying154 Tryz.underlying156 rfl rfl Tryz.underlying9 cells156 cells9
  exact ⟨hp, Tryz.laysM145.s1_3 W hs, ⟨_, _, by simpa using World.var?_cell gSyn hv2 0⟩, ⟨_, _, by simpa using World.var?_cell gRan hv1 0⟩⟩

theorem Chg.same {w w' : World} (h : Chg [] w w') : Below w.heap.size w w' := h.below (by simp) (Nat.le_refl _)

set_option maxRecDepth 100000 in
theorem contract (H : Type) (enc : TypeId × Value → H) (W : World) (base : Nat) (args : Array Value) (ds gs : List (DataW H)) (before : List MemPlace) (F : Stop.Interp)
    (hval : ∀ (j : Nat) t v, Tryz.f3.params[j]? = some t → args[j]? = some v → Value.okWide Tryz.prog W .any base t v)
    (hW : DataW.Whole enc Tryz.prog Tryz.f3.params.toList (Rows.OpenSpec.upto Rows.rootTextsSpec).vars false W args.toList ds gs before) (hk : Rows.uptoSmall H (ds ++ gs) = true) (hE : Env W) :
    Calls Tryz.prog 3 args W fun e W' => ∃ v, e = .returned v ∧ ((Rows.OpenSpec.upto Rows.rootTextsSpec).at F).post enc Tryz.prog Tryz.f3 false true false false W args v W' := by
  have hW' := hW
  obtain ⟨p, q, hA0, hV, rfl, hfz, hnd⟩ := hW
  have hA : DataW.TrodAll enc Tryz.prog W 0 (fun _ => true) true Tryz.f3.params.toList args.toList ds p := hA0
  rw [Tryz.params3] at hA hval
  obtain ⟨v0, vs0, d0, ds0, p0, q0, hargs, rfl, rfl, h0, r0⟩ := trodAll_cons hA
  obtain ⟨v1, vs1, d1, ds1, p1, q1, rfl, rfl, rfl, h1, r1⟩ := trodAll_cons r0
  obtain ⟨rfl, rfl, rfl⟩ := trodAll_nil r1
  obtain rfl : args = #[v0, v1] := by cases args; simp_all
  obtain ⟨rfl, rfl⟩ := trodVars_none hV
  obtain ⟨c0, c1, c2, y0, y1, y2, n, rfl, rfl, rfl, t0, t1, t2⟩ := Joins.open_agg3 Tryz.underlying23 (by kernel_rfl) cells23 (hval 0 23 v0 rfl rfl) h0
  obtain ⟨pp, e0, rfl, b0⟩ := DataW.trod_int Tryz.underlying2 t0
  obtain ⟨qq, e1, rfl, b1⟩ := DataW.trod_int Tryz.underlying2 t1
  obtain ⟨kk, e2, rfl, b2⟩ := DataW.trod_int Tryz.underlying3 t2
  injection e0 with e0; subst e0
  injection e1 with e1; subst e1
  injection e2 with e2; subst e2
  obtain ⟨s, rfl, rfl, rfl, ws⟩ := open_string Tryz.underlying9 (hval 1 9 v1 rfl rfl) h1
  have hsz : s.data.toList.length < 4294967281 := by
    have hb : Rows.uptoBulkAll _ ≤ 1048576 := of_decide_eq_true hk
    simp only [Rows.uptoBulkAll, Rows.uptoBulk, List.append_nil] at hb
    omega
  have bp := bounds_i64 b0
  have bq := bounds_i64 b1
  have walk := law_true pp qq kk (by have := bp.1; omega) (by have := bp.2; omega) (by have := bq.1; omega) (by have := bq.2; omega) s.data.toList hsz W hE
  rw [Joins.bytes_eta] at walk
  clear hA0 hk
  refine walk.mono fun e W' ⟨he, hg⟩ => ?_
  subst he
  have bel := hg.same
  refine ⟨_, rfl, _, _, _, [], [], [], hW', ?_, ?_, ?_, bel.frame _, fun h => by cases h⟩
  · exact trodAll_cons_mk (shut_bool Tryz.underlying4 _) trodAll_mk0
  · exact trodAll_cons_mk (Joins.shut_agg3 Tryz.underlying23 (by kernel_rfl) cells23 (Joins.field_of_Trod (shut_int Tryz.underlying2 b0) rfl) (Joins.field_of_Trod (shut_int Tryz.underlying2 b1) rfl) (Joins.field_of_Trod (shut_int Tryz.underlying3 b2) rfl)) (trodAll_cons_mk (shut_string Tryz.underlying9 ws) trodAll_mk0)
  · rfl

abbrev rangeS : ByteArray := { data := #[118, 97, 108, 117, 101, 32, 111, 117, 116, 32, 111, 102, 32, 114, 97, 110, 103, 101] }
abbrev syntaxS : ByteArray := { data := #[105, 110, 118, 97, 108, 105, 100, 32, 115, 121, 110, 116, 97, 120] }
noncomputable def low : Nat := (World.holding Tryz.prog default ⟨#[], #[], []⟩).heap.size
def put (h : Array Obj) (g : Nat) (cs : Array Value) : Array Obj := h.modify g fun
  | .cells _ t frozen => .cells cs t frozen
  | o => o
/-- A world for the witness: the settled one, the listed variables holding what their initialisers lay. -/
noncomputable def laidWorld (os : Os) : World :=
  let w0 := World.holding Tryz.prog os ⟨#[.cells #[.string rangeS] 156, .cells #[.string syntaxS] 156], #[], []⟩
  let h1 := put w0.heap 10 #[.int .u8 0, .int .u8 1, .int .u8 28, .int .u8 2, .int .u8 29, .int .u8 14, .int .u8 24, .int .u8 3, .int .u8 30, .int .u8 22, .int .u8 20, .int .u8 15, .int .u8 25, .int .u8 17, .int .u8 4, .int .u8 8, .int .u8 31, .int .u8 27, .int .u8 13, .int .u8 23, .int .u8 21, .int .u8 19, .int .u8 16, .int .u8 7, .int .u8 26, .int .u8 12, .int .u8 18, .int .u8 6, .int .u8 11, .int .u8 5, .int .u8 10, .int .u8 9]
  let h2 := put h1 11 #[.int .u8 0, .int .u8 1, .int .u8 56, .int .u8 2, .int .u8 57, .int .u8 49, .int .u8 28, .int .u8 3, .int .u8 61, .int .u8 58, .int .u8 42, .int .u8 50, .int .u8 38, .int .u8 29, .int .u8 17, .int .u8 4, .int .u8 62, .int .u8 47, .int .u8 59, .int .u8 36, .int .u8 45, .int .u8 43, .int .u8 51, .int .u8 22, .int .u8 53, .int .u8 39, .int .u8 33, .int .u8 30, .int .u8 24, .int .u8 18, .int .u8 12, .int .u8 5, .int .u8 63, .int .u8 55, .int .u8 48, .int .u8 27, .int .u8 60, .int .u8 41, .int .u8 37, .int .u8 16, .int .u8 46, .int .u8 35, .int .u8 44, .int .u8 21, .int .u8 52, .int .u8 32, .int .u8 23, .int .u8 11, .int .u8 54, .int .u8 26, .int .u8 40, .int .u8 15, .int .u8 34, .int .u8 20, .int .u8 31, .int .u8 10, .int .u8 25, .int .u8 14, .int .u8 19, .int .u8 9, .int .u8 13, .int .u8 8, .int .u8 7, .int .u8 6]
  let h3 := put h2 3 #[.int .u64 1, .int .u64 10, .int .u64 100, .int .u64 1000, .int .u64 10000, .int .u64 100000, .int .u64 1000000, .int .u64 10000000, .int .u64 100000000, .int .u64 1000000000, .int .u64 10000000000, .int .u64 100000000000, .int .u64 1000000000000, .int .u64 10000000000000, .int .u64 100000000000000, .int .u64 1000000000000000, .int .u64 10000000000000000, .int .u64 100000000000000000, .int .u64 1000000000000000000, .int .u64 10000000000000000000]
  let h4 := put h3 5 #[.iface 154 (.pointer (some ⟨low, 0, none⟩))]
  let h5 := put h4 4 #[.iface 154 (.pointer (some ⟨low + 1, 0, none⟩))]
  let h6 := put (put (put (put (put h5 14 #[.int .i64 8]) 16 #[.int .i64 40]) 8 #[.int .i64 40]) 6 #[.int .i64 12]) 7 #[.int .i64 80]
  { w0 with heap := h6 }
theorem laid_met (os : Os) (args : Array Value) : laidMet Tryz.prog Rows.rootTextsUptoRow.laid ((laidWorld os).forCall (fun _ _ => 0) ⟨#[], args, []⟩).memory :=
  laidMet_of_run' 8 (by kernel_rfl) (by kernel_rfl)
abbrev wArgs : Array Value := #[.agg #[.int .i64 0, .int .i64 0, .int .i64 0], .string ⟨#[]⟩]
theorem reads (os : Os) {H : Type} (enc : TypeId × Value → H) : ∃ places, DataW.whole enc Tryz.prog ((laidWorld os).forCall (fun _ _ => 0) ⟨#[], wArgs, []⟩).memory Tryz.f3.params.toList (Rows.OpenSpec.upto Rows.rootTextsSpec).vars false wArgs.toList 8 = some ([.agg [.lit (.int .i64 0), .lit (.int .i64 0), .lit (.int .i64 0)], .lit (.string [])], [], places) :=
  ⟨[], by kernel_rfl⟩

set_option maxRecDepth 100000 in
theorem liftedUpto (os : Os) (started : os.Started) (H : Type) (enc : TypeId × Value → H) (F : Stop.Interp) :
    ReturnsInHanded {} Tryz.checked os 3 .any ((Rows.OpenSpec.upto Rows.rootTextsSpec).preRow enc Tryz.prog Tryz.f3 Rows.rootTextsUptoRow.domain false Rows.rootTextsUptoRow.laid) (((Rows.OpenSpec.upto Rows.rootTextsSpec).at F).post enc Tryz.prog Tryz.f3 false true false false) := by
  obtain ⟨places, hx⟩ := reads os enc
  refine returnsInHanded_of_row (C := Tryz.checked) (s := Rows.OpenSpec.upto Rows.rootTextsSpec) own started (by kernel_rfl) Tryz.func3
    (witness_row_atRef (enc := enc) (C := Tryz.checked) false (laidWorld os) wArgs rfl (by kernel_rfl) (by kernel_rfl) (by kernel_rfl)
      (OpenSpec.preRow_of_cond 8 hx (by kernel_rfl) (fun k hk => by cases hk; kernel_rfl) (by kernel_rfl) (laid_met os _))) ?_
  intro W base args ds gs before hval hW _ hcond _ hL hsh _
  exact contract H enc W base args ds gs before F hval hW (hcond _ rfl) (env_of hL hsh)

theorem saidUpto : Rows.RootTextsUptoSaid :=
  OpenClaim.holds_of_cond 3 Tryz.f3 rfl rfl rfl rfl rfl rfl rfl ⟨rfl, rfl, rfl, rfl, rfl⟩ rfl rfl rfl rfl rfl (by kernel_rfl) Tryz.func3 (by kernel_rfl)
    (of_decide_eq_true (by kernel_rfl)) (by unfold Func.isWrapper; first | (rw [if_pos (by decide +kernel)]; kernel_rfl) | (rw [if_neg (by decide +kernel)]; exact ⟨rfl, rfl⟩))
    (fun os started H enc _ F => by rw [OpenClaim.pre_eq_preRow]; exact liftedUpto os started H enc F)

/-- No parameter wants a stand-in; the program's own looks are off. -/
theorem plain (f : FuncId) (fn : Func) (hf : Tryz.pinned.checked.prog.funcNamed "cubit/cubitlaw05.RootTexts" = some f) (hfn : Tryz.pinned.checked.prog.funcs[f]? = some fn) :
    true = Tryz.pinned.checked.prog.looks [] ∧ ∀ (j : Nat) t, fn.params[j]? = some t → Tryz.pinned.checked.prog.wantsStandIn t = false := by
  obtain rfl : f = 3 := Option.some.inj ((show Tryz.prog.funcNamed "cubit/cubitlaw05.RootTexts" = some 3 by kernel_rfl).symm.trans hf) |>.symm
  obtain rfl : fn = Tryz.f3 := (Option.some.inj (Tryz.func3.symm.trans hfn)).symm
  refine ⟨by kernel_rfl, fun j t ht => ?_⟩
  rw [Tryz.params3] at ht
  have hm := Array.mem_of_getElem? ht
  simp only [List.mem_toArray, List.mem_cons, List.not_mem_nil, or_false] at hm
  rcases hm with rfl | rfl
  · exact (show Tryz.prog.wantsStandIn 23 = false by kernel_rfl)
  · exact (show Tryz.prog.wantsStandIn 9 = false by kernel_rfl)

/-- The second form's card. -/
theorem rootTexts_holds : Rows.RootTextsUptoCardSaid :=
  Claim7.holds_tied_plain_at .later [] _ _ _ _ saidUpto (fun _ h => by cases h) (by kernel_rfl) (fun _ h => by cases h) rootTextsUpto_row_tie rfl ⟨rfl, rfl⟩ (by kernel_rfl) rfl plain (by kernel_rfl)
#print axioms rootTexts_holds
end Go.Proofs.YtkokikfooooiiaaGreatDoor
