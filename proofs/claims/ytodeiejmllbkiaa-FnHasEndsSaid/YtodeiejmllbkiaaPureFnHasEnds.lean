/- FnHasEnds returns true at every byte slice: a segment has its ends. No condition. -/
import Derived.Test.YtodeiejmllbkiaaBFnHasEnds
namespace Go.Proofs.Ytodeiejmllbkiaa.Pure
open Go.RowKit Go.Proofs.Ytodeiejmllbkiaa.PA Go.Proofs.YtodeiejmllbkiaaW.PrintWords Go.Proofs.YtodeiejmllbkiaaW.PrintLast Go.Proofs.YtodeiejmllbkiaaW.PrintMore
open Go.Proofs.Ytodeiejmllbkiaa
set_option linter.unusedVariables false
set_option linter.unusedSimpArgs false
theorem FnHasEnds (l0 : List Int) (hq : l0.length ≤ maxLen ∧ ∀ x ∈ l0, (Lit.int .u8 x).wf = true) : ∃ k, laws_FnHasEnds.f k l0 = some true := by
  have hw := hq.2
  refine ⟨5, ?_⟩
  unfold laws_FnHasEnds.f
  by_cases hl : (l0.length : Int) > 1048576
  · rw [if_pos hl]
  rw [if_neg hl]
  obtain ⟨a, b, c, d, e, f, e0⟩ := drawSegHas_tells 4 hw
  simp only [e0, Option.bind_some, iSegHas_tells, sSegHas_tells, sSegOk_tells, sPtOk_tells, laws_FnHasEnds.j0, luBack_tells, iSegTurn_tells]
  rw [Geo.has_back (a, b) (c, d) (e, f)]
  cases h : Geo.segOk (a, b) (c, d)
  · simp
  · rw [Geo.has_a h, Geo.has_b h]
    cases h' : Geo.ok (e, f)
    · simp
    · cases h2 : Geo.has (a, b) (c, d) (e, f)
      · simp
      · have ht : Geo.turn (a, b) (c, d) (e, f) = 0 := by
          obtain ⟨_, _, h3⟩ := (Geo.has_iff _ _ _).1 h2
          unfold Geo.turn
          rw [((Geo.has0_iff _ _ _).1 h3).1]
          split <;> rfl
        rw [ht]; simp
end Go.Proofs.Ytodeiejmllbkiaa.Pure
