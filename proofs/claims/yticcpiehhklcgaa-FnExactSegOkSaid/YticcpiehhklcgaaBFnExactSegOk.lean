import Derived.Test.YticcpiehhklcgaaPFnExactSegOkx2
import Derived.Test.YticcpiehhklcgaaGeo1
namespace Go.Proofs.Yticcpiehhklcgaa.Pure
open Go.RowKit Go.Proofs.Yticcpiehhklcgaa.PFnExactSegOk Go.Proofs.YticcpiehhklcgaaW.PrintWords Go.Proofs.YticcpiehhklcgaaW.PrintLast Go.Proofs.YticcpiehhklcgaaW.PrintMore
open Go.Proofs.Yticcpiehhklcgaa
set_option linter.unusedVariables false
set_option linter.unusedSimpArgs false

theorem l6In_tells (a b c : Int) : spec_l6In.f a b c = some (decide (b ≤ a) && decide (a ≤ c)) := by
  unfold spec_l6In.f
  by_cases h : a ≥ b
  · rw [if_pos h, decide_eq_true (show b ≤ a from h), Bool.true_and]
  · rw [if_neg h, decide_eq_false (show ¬ b ≤ a from h), Bool.false_and]

theorem sPtOk_tells (x y : Int) : spec_PtOk.f x y = some (Geo.ok (x, y)) := by
  unfold spec_PtOk.f
  simp only [l6In_tells, Option.bind_some, Geo.ok]
  by_cases h : (decide (0 ≤ x) && decide (x ≤ 9)) = true
  · rw [if_pos h]; rw [Bool.and_eq_true] at h; rw [h.1, h.2]; rfl
  · rw [if_neg h]; rw [Bool.not_eq_true, Bool.and_eq_false_iff] at h; rcases h with h | h <;> rw [h] <;> simp

theorem iPtOk_tells (x y : Int) : impl_PtOk.f x y = some (Geo.ok (x, y)) := by
  unfold impl_PtOk.f
  by_cases h1 : 0 ≤ x <;> by_cases h2 : x ≤ 9 <;> by_cases h3 : 0 ≤ y <;> simp [Geo.ok, h1, h2, h3]

theorem sSegOk_tells (a b c d : Int) : spec_SegOk.f a b c d = some (Geo.segOk (a, b) (c, d)) := by
  unfold spec_SegOk.f
  simp only [sPtOk_tells, Option.bind_some, Geo.pne]
  unfold Geo.segOk
  cases h1 : Geo.ok (a, b) <;> cases h2 : Geo.ok (c, d) <;> rfl

theorem iSegOk_tells (a b c d : Int) : impl_SegOk.f a b c d = some (Geo.segOk (a, b) (c, d)) := by
  unfold impl_SegOk.f
  simp only [iPtOk_tells, Option.bind_some, Geo.pne]
  unfold Geo.segOk
  cases h1 : Geo.ok (a, b) <;> cases h2 : Geo.ok (c, d) <;> rfl

theorem toPt_tells (a b : Int) : laws_toPt.f a b = some (a, b) := rfl

theorem toSeg_tells (a b c d : Int) : laws_toSeg.f a b c d = some (a, b, c, d) := rfl

end Go.Proofs.Yticcpiehhklcgaa.Pure
