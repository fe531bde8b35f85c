/- FnFarShift returns true at every byte slice: moved, all is as far. No condition. -/
import Derived.Test.YtodeiejmllbkiaaBFnFarShift
namespace Go.Proofs.Ytodeiejmllbkiaa.Pure
open Go.RowKit Go.Proofs.Ytodeiejmllbkiaa.PA Go.Proofs.YtodeiejmllbkiaaW.PrintWords Go.Proofs.YtodeiejmllbkiaaW.PrintLast Go.Proofs.YtodeiejmllbkiaaW.PrintMore
open Go.Proofs.Ytodeiejmllbkiaa
set_option linter.unusedVariables false
set_option linter.unusedSimpArgs false
theorem FnFarShift (l0 : List Int) (hq : l0.length ≤ maxLen ∧ ∀ x ∈ l0, (Lit.int .u8 x).wf = true) : ∃ k, laws_FnFarShift.f k l0 = some true := by
  have hw := hq.2
  refine ⟨1010, ?_⟩
  unfold laws_FnFarShift.f
  by_cases hl : (l0.length : Int) > 1048576
  · rw [if_pos hl]
  rw [if_neg hl]
  obtain ⟨a, b, c, d, e, f, e0⟩ := drawSegFar_tells 1009 hw
  simp only [e0, Option.bind_some, sSegOk_tells, sPtOk_tells, iSegFar_tells, sSegFar_tells 1010 (by omega)]
  have yes : ∀ x, Geo.far (a, b) (c, d) (e, f) = x → laws_FnFarShift.j0 1010 true a b c d e f x.1 x.2 = some true := by
    rintro x rfl
    simp [laws_FnFarShift.j0, sSegFar_tells 1009 (by omega)]
  cases h : Geo.segOk (a, b) (c, d)
  · simp [yes _ rfl]
  · cases h' : Geo.ok (e, f)
    · simp [yes _ rfl]
    · obtain ⟨h1, h2, h3⟩ := (Geo.segOk_iff _ _).1 h
      have f0 : Geo.far (a, b) (c, d) (e, f) = Geo.far0 (a, b) (c, d) (e, f) := by unfold Geo.far; rw [h, h']; rfl
      have g0 : Geo.turn (a, b) (c, d) (e, f) = Geo.sgn (Geo.cross (a, b) (c, d) (e, f)) := by unfold Geo.turn; rw [h1, h2, h']; rfl
      have b1 := (Geo.ok_iff _).1 h1
      have b2 := (Geo.ok_iff _).1 h2
      have b3 := (Geo.ok_iff _).1 h'
      simp only at b1 b2 b3
      simp only [laws_FnFarShift.j0, Geo.w64 (n := a + 1) (by omega) (by omega), Geo.w64 (n := c + 1) (by omega) (by omega), Geo.w64 (n := e + 1) (by omega) (by omega), iSegOk_tells, iPtOk_tells, iSegFar_tells, iSegTurn_tells, Option.bind_some]
      cases k : Geo.segOk (a + 1, b) (c + 1, d)
      · simp
      · cases k' : Geo.ok (e + 1, f)
        · simp
        · obtain ⟨k1, k2, k3⟩ := (Geo.segOk_iff _ _).1 k
          have f1 : Geo.far (a + 1, b) (c + 1, d) (e + 1, f) = Geo.far0 (a, b) (c, d) (e, f) := by
            unfold Geo.far; rw [k, k']; exact Geo.far0_shf (a, b) (c, d) (e, f)
          have g1 : Geo.turn (a + 1, b) (c + 1, d) (e + 1, f) = Geo.sgn (Geo.cross (a, b) (c, d) (e, f)) := by
            unfold Geo.turn; rw [k1, k2, k']; exact congrArg Geo.sgn (Geo.cross_shf (a, b) (c, d) (e, f))
          rw [f0, f1, g0, g1]
          simp
end Go.Proofs.Ytodeiejmllbkiaa.Pure
