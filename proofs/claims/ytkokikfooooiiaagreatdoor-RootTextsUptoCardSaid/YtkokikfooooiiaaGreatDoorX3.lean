import Derived.Test.YtkokikfooooiiaaGreatDoorX2
namespace Go.Proofs.YtkokikfooooiiaaGreatDoor
open Go.RowKit Go.Lib

theorem refText_ok (p q k : Int) (h : chk p q k = 0) (w : World) :
    Calls Tryz.prog 7 #[.agg #[.int .i64 p, .int .i64 q, .int .i64 k]] w fun e w' => e = .returned (.tuple #[.string ⟨(Str.text p q k).toArray⟩, .int .i64 0]) ∧ Chg [] w w' := by
  by_cases hp : p = 0 <;> by_cases hk : k = 0 <;> rcases Int.lt_trichotomy q 0 with hq | hq | hq
  · exact refText_0m0 p q k h hp hq hk w
  · exact refText_0z0 p q k h hp hq hk w
  · exact refText_0p0 p q k h hp hq hk w
  · exact refText_0mn p q k h hp hq hk w
  · exact refText_0zn p q k h hp hq hk w
  · exact refText_0pn p q k h hp hq hk w
  · exact refText_nm0 p q k h hp hq hk w
  · exact refText_nz0 p q k h hp hq hk w
  · exact refText_np0 p q k h hp hq hk w
  · exact refText_nmn p q k h hp hq hk w
  · exact refText_nzn p q k h hp hq hk w
  · exact refText_npn p q k h hp hq hk w

theorem rootText_ok (p q k : Int) (h : chk p q k = 0) (w : World) (ht : Tab w) :
    Calls Tryz.prog 8 #[.agg #[.int .i64 p, .int .i64 q, .int .i64 k]] w fun e w' => e = .returned (.tuple #[.string ⟨(Str.text p q k).toArray⟩, .int .i64 0]) ∧ Chg [] w w' := by
  by_cases hp : p = 0 <;> by_cases hk : k = 0 <;> rcases Int.lt_trichotomy q 0 with hq | hq | hq
  · exact rootText_0m0 p q k h hp hq hk w ht
  · exact rootText_0z0 p q k h hp hq hk w ht
  · exact rootText_0p0 p q k h hp hq hk w ht
  · exact rootText_0mn p q k h hp hq hk w ht
  · exact rootText_0zn p q k h hp hq hk w ht
  · exact rootText_0pn p q k h hp hq hk w ht
  · exact rootText_nm0 p q k h hp hq hk w ht
  · exact rootText_nz0 p q k h hp hq hk w ht
  · exact rootText_np0 p q k h hp hq hk w ht
  · exact rootText_nmn p q k h hp hq hk w ht
  · exact rootText_nzn p q k h hp hq hk w ht
  · exact rootText_npn p q k h hp hq hk w ht
end Go.Proofs.YtkokikfooooiiaaGreatDoor
