/- FnTurnRound returns true at every byte slice: whichever of three points one begins at, one turns alike. No condition. -/
import Derived.Test.YticcpiehhklcgaaBFnTurnRound
namespace Go.Proofs.Yticcpiehhklcgaa.Pure
open Go.RowKit Go.Proofs.Yticcpiehhklcgaa.PFnTurnRound Go.Proofs.YticcpiehhklcgaaW.PrintWords Go.Proofs.YticcpiehhklcgaaW.PrintLast Go.Proofs.YticcpiehhklcgaaW.PrintMore
open Go.Proofs.Yticcpiehhklcgaa
set_option linter.unusedVariables false
set_option linter.unusedSimpArgs false
theorem FnTurnRound (l0 : List Int) (hq : l0.length ≤ maxLen ∧ ∀ x ∈ l0, (Lit.int .u8 x).wf = true) : ∃ k, laws_FnTurnRound.f k l0 = some true := by
  have hw := hq.2
  refine ⟨1, ?_⟩
  unfold laws_FnTurnRound.f
  by_cases hl : (l0.length : Int) > 1048576
  · rw [if_pos hl]
  rw [if_neg hl]
  obtain ⟨ax, ay, bx, by', cx, cy, e, _⟩ := drawSegTurn_tells 0 hw
  simp only [e, Option.bind_some, iSegTurn_tells, sSegTurn_tells]
  rw [Geo.turn_rot (ax, ay) (bx, by') (cx, cy), Geo.turn_rot2 (ax, ay) (bx, by') (cx, cy), Geo.turn_flip (ax, ay) (bx, by') (cx, cy), Geo.turn_aa, Geo.turn_bb]
  have hb := Geo.turn_bd (ax, ay) (bx, by') (cx, cy)
  rw [Geo.w64 (by omega) (by omega)]
  simp
end Go.Proofs.Yticcpiehhklcgaa.Pure
