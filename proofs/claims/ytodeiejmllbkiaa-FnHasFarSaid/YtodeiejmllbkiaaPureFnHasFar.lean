/- FnHasFar returns true at every byte slice: a segment has a point just if that is not far. No condition. -/
import Derived.Test.YtodeiejmllbkiaaBFnHasFar
namespace Go.Proofs.Ytodeiejmllbkiaa.Pure
open Go.RowKit Go.Proofs.Ytodeiejmllbkiaa.PA Go.Proofs.YtodeiejmllbkiaaW.PrintWords Go.Proofs.YtodeiejmllbkiaaW.PrintLast Go.Proofs.YtodeiejmllbkiaaW.PrintMore
open Go.Proofs.Ytodeiejmllbkiaa
set_option linter.unusedVariables false
set_option linter.unusedSimpArgs false
theorem FnHasFar (l0 : List Int) (hq : l0.length ≤ maxLen ∧ ∀ x ∈ l0, (Lit.int .u8 x).wf = true) : ∃ k, laws_FnHasFar.f k l0 = some true := by
  have hw := hq.2
  refine ⟨5, ?_⟩
  unfold laws_FnHasFar.f
  by_cases hl : (l0.length : Int) > 1048576
  · rw [if_pos hl]
  rw [if_neg hl]
  obtain ⟨a, b, c, d, e, f, e0⟩ := drawSegHas_tells 4 hw
  simp only [e0, Option.bind_some, iSegHas_tells, sSegHas_tells, sSegOk_tells, sPtOk_tells, laws_FnHasFar.j0, iSegFar_tells, luZero_tells]
  cases h : Geo.segOk (a, b) (c, d)
  · simp
  · cases h' : Geo.ok (e, f)
    · simp
    · obtain ⟨h1, h2, h3⟩ := (Geo.segOk_iff _ _).1 h
      have e1 : Geo.has (a, b) (c, d) (e, f) = Geo.has0 (a, b) (c, d) (e, f) := by unfold Geo.has; rw [h, h']; simp
      have e2 : Geo.far (a, b) (c, d) (e, f) = Geo.far0 (a, b) (c, d) (e, f) := by unfold Geo.far; rw [h, h']; simp
      have e3 : decide (Geo.far0 (a, b) (c, d) (e, f) = (0, 1)) = Geo.has0 (a, b) (c, d) (e, f) := by
        rw [Bool.eq_iff_iff, decide_eq_true_iff]; exact Geo.far0_zero h3
      rw [e1, e2]
      simp only [luSq_tells h1 h', luSq_tells h1 h2, luSq_tells h2 h', Option.bind_some]
      show _ = _
      rw [show ((Geo.far0 (a, b) (c, d) (e, f)).1, (Geo.far0 (a, b) (c, d) (e, f)).2) = Geo.far0 (a, b) (c, d) (e, f) from rfl, e3]
      cases h5 : Geo.has0 (a, b) (c, d) (e, f)
      · simp
      · have n1 := Geo.has0_near h3 h5
        have n2 := Geo.has0_near (a := (c, d)) (b := (a, b)) (p := (e, f)) (fun e => h3 e.symm) (by rw [Geo.has0_back]; exact h5)
        rw [Geo.dot_len (a, b) (c, d)] at n2
        simp [n1, n2]
end Go.Proofs.Ytodeiejmllbkiaa.Pure
