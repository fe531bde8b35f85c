/- FnPtGrid returns true at every byte slice: a point of the grid mirrored or swapped is of the grid. No condition. -/
import Derived.Test.YticcpiehhklcgaaBFnPtGrid
namespace Go.Proofs.Yticcpiehhklcgaa.Pure
open Go.RowKit Go.Proofs.Yticcpiehhklcgaa.PFnPtGrid Go.Proofs.YticcpiehhklcgaaW.PrintWords Go.Proofs.YticcpiehhklcgaaW.PrintLast Go.Proofs.YticcpiehhklcgaaW.PrintMore
open Go.Proofs.Yticcpiehhklcgaa
set_option linter.unusedVariables false
set_option linter.unusedSimpArgs false
theorem FnPtGrid (l0 : List Int) (hq : l0.length ≤ maxLen ∧ ∀ x ∈ l0, (Lit.int .u8 x).wf = true) : ∃ k, laws_FnPtGrid.f k l0 = some true := by
  have hw := hq.2
  refine ⟨1, ?_⟩
  unfold laws_FnPtGrid.f
  by_cases hl : (l0.length : Int) > 1048576
  · rw [if_pos hl]
  rw [if_neg hl]
  obtain ⟨x, y, e, hx, hx', hy⟩ := drawPtOk_tells 0 hw
  simp only [e, Option.bind_some, iPtOk_tells, sPtOk_tells, laws_FnPtGrid.j0, luMirror_tells (x := x) (y := y) (by omega) (by omega), luSwap_tells]
  have e1 := Geo.ok_mir (x, y)
  have e2 := Geo.ok_swp (x, y)
  simp only [Geo.mir, Geo.swp] at e1 e2
  have e3 : Geo.ok (10, y) = false := by simp [Geo.ok]
  have e4 : Geo.ok (-1, y) = false := by simp [Geo.ok]
  rw [e1, e2, e3, e4]
  cases Geo.ok (x, y) <;> rfl
end Go.Proofs.Yticcpiehhklcgaa.Pure
