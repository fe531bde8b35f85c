/- FnSegBack returns true at every byte slice: a segment is one the other way about, and none between a point and itself. No condition. -/
import Derived.Test.YticcpiehhklcgaaBFnSegBack
namespace Go.Proofs.Yticcpiehhklcgaa.Pure
open Go.RowKit Go.Proofs.Yticcpiehhklcgaa.PFnSegBack Go.Proofs.YticcpiehhklcgaaW.PrintWords Go.Proofs.YticcpiehhklcgaaW.PrintLast Go.Proofs.YticcpiehhklcgaaW.PrintMore
open Go.Proofs.Yticcpiehhklcgaa
set_option linter.unusedVariables false
set_option linter.unusedSimpArgs false
theorem FnSegBack (l0 : List Int) (hq : l0.length ≤ maxLen ∧ ∀ x ∈ l0, (Lit.int .u8 x).wf = true) : ∃ k, laws_FnSegBack.f k l0 = some true := by
  have hw := hq.2
  refine ⟨1, ?_⟩
  unfold laws_FnSegBack.f
  by_cases hl : (l0.length : Int) > 1048576
  · rw [if_pos hl]
  rw [if_neg hl]
  obtain ⟨ax, ay, bx, by', e, _⟩ := drawSegOk_tells 0 hw
  simp only [e, Option.bind_some, iSegOk_tells, sSegOk_tells, iPtOk_tells, sPtOk_tells, laws_FnSegBack.j0, luBack_tells]
  have e1 := Geo.segOk_back (ax, ay) (bx, by')
  have e2 : Geo.segOk (ax, ay) (ax, ay) = false := by simp [Geo.segOk]
  rw [e1, e2]
  cases h : Geo.segOk (ax, ay) (bx, by')
  · rfl
  · obtain ⟨h1, h2, _⟩ := (Geo.segOk_iff _ _).1 h
    rw [h1, h2]; rfl
end Go.Proofs.Yticcpiehhklcgaa.Pure
