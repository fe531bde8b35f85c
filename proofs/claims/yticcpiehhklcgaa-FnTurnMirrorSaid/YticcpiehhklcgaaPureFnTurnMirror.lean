/- FnTurnMirror returns true at every byte slice: on the other side, or with across and up exchanged, one turns the other way. No condition. -/
import Derived.Test.YticcpiehhklcgaaBFnTurnMirror
namespace Go.Proofs.Yticcpiehhklcgaa.Pure
open Go.RowKit Go.Proofs.Yticcpiehhklcgaa.PFnTurnMirror Go.Proofs.YticcpiehhklcgaaW.PrintWords Go.Proofs.YticcpiehhklcgaaW.PrintLast Go.Proofs.YticcpiehhklcgaaW.PrintMore
open Go.Proofs.Yticcpiehhklcgaa
set_option linter.unusedVariables false
set_option linter.unusedSimpArgs false
theorem FnTurnMirror (l0 : List Int) (hq : l0.length ≤ maxLen ∧ ∀ x ∈ l0, (Lit.int .u8 x).wf = true) : ∃ k, laws_FnTurnMirror.f k l0 = some true := by
  have hw := hq.2
  refine ⟨1, ?_⟩
  unfold laws_FnTurnMirror.f
  by_cases hl : (l0.length : Int) > 1048576
  · rw [if_pos hl]
  rw [if_neg hl]
  obtain ⟨ax, ay, bx, by', cx, cy, e, n1, n2, n3, n4, n5, n6⟩ := drawSegTurn_tells 0 hw
  unfold Geo.Near at n1 n2 n3 n4 n5 n6
  simp only [e, Option.bind_some, iSegTurn_tells, sSegTurn_tells, luMirror_tells (x := ax) (y := ay) (by omega) (by omega), luMirror_tells (x := bx) (y := by') (by omega) (by omega), luMirror_tells (x := cx) (y := cy) (by omega) (by omega), luSwap_tells]
  have e1 := Geo.turn_mir (ax, ay) (bx, by') (cx, cy)
  have e2 := Geo.turn_swp (ax, ay) (bx, by') (cx, cy)
  have e3 := Geo.turn_swp (Geo.mir (ax, ay)) (Geo.mir (bx, by')) (Geo.mir (cx, cy))
  rw [e1] at e3
  simp only [Geo.mir, Geo.swp] at e1 e2 e3
  rw [e1, e2, e3]
  have hb := Geo.turn_bd (ax, ay) (bx, by') (cx, cy)
  rw [Geo.w64 (by omega) (by omega)]
  simp
end Go.Proofs.Yticcpiehhklcgaa.Pure
