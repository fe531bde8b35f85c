/- FnMeetBoth returns true at every byte slice: who meets is met, whichever way about both are. No condition. -/
import Derived.Test.YtodeiejmllbkiaaBFnMeetBoth
namespace Go.Proofs.Ytodeiejmllbkiaa.Pure
open Go.RowKit Go.Proofs.Ytodeiejmllbkiaa.PFnMeetBoth Go.Proofs.YtodeiejmllbkiaaW.PrintWords Go.Proofs.YtodeiejmllbkiaaW.PrintLast Go.Proofs.YtodeiejmllbkiaaW.PrintMore
open Go.Proofs.Ytodeiejmllbkiaa
set_option linter.unusedVariables false
set_option linter.unusedSimpArgs false
theorem FnMeetBoth (l0 : List Int) (hq : l0.length ≤ maxLen ∧ ∀ x ∈ l0, (Lit.int .u8 x).wf = true) : ∃ k, laws_FnMeetBoth.f k l0 = some true := by
  have hw := hq.2
  refine ⟨5, ?_⟩
  unfold laws_FnMeetBoth.f
  by_cases hl : (l0.length : Int) > 1048576
  · rw [if_pos hl]
  rw [if_neg hl]
  obtain ⟨a, b, c, d, e, f, g, i, e0⟩ := drawSegMeet_tells 4 hw
  simp only [e0, Option.bind_some, iSegMeet_tells, sSegMeet_tells, sSegOk_tells, laws_FnMeetBoth.j0, luBack_tells]
  rw [Geo.meet_sym (a, b) (c, d) (e, f) (g, i), Geo.meet_back (a, b) (c, d) (e, f) (g, i), Geo.meet_back2 (a, b) (c, d) (e, f) (g, i)]
  cases h : Geo.segOk (a, b) (c, d)
  · simp
  · rw [Geo.meet_self h]
    cases h' : Geo.segOk (e, f) (g, i) <;> simp
end Go.Proofs.Ytodeiejmllbkiaa.Pure
