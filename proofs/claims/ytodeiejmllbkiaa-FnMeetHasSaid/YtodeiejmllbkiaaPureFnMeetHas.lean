/- FnMeetHas returns true at every byte slice: who has a point in common meets. No condition. -/
import Derived.Test.YtodeiejmllbkiaaBFnMeetHas
namespace Go.Proofs.Ytodeiejmllbkiaa.Pure
open Go.RowKit Go.Proofs.Ytodeiejmllbkiaa.PA Go.Proofs.YtodeiejmllbkiaaW.PrintWords Go.Proofs.YtodeiejmllbkiaaW.PrintLast Go.Proofs.YtodeiejmllbkiaaW.PrintMore
open Go.Proofs.Ytodeiejmllbkiaa
set_option linter.unusedVariables false
set_option linter.unusedSimpArgs false
theorem FnMeetHas (l0 : List Int) (hq : l0.length ≤ maxLen ∧ ∀ x ∈ l0, (Lit.int .u8 x).wf = true) : ∃ k, laws_FnMeetHas.f k l0 = some true := by
  have hw := hq.2
  refine ⟨6, ?_⟩
  unfold laws_FnMeetHas.f
  by_cases hl : (l0.length : Int) > 1048576
  · rw [if_pos hl]
  rw [if_neg hl]
  have tw : ∀ x y z u v w : Geo.P, wrap64 (Geo.turn x y z * Geo.turn u v w) = Geo.turn x y z * Geo.turn u v w := by
    intro x y z u v w
    have h1 := Geo.turn_bd x y z
    have h2 := Geo.turn_bd u v w
    have := Geo.mul_bd (m := Geo.turn x y z) (n := Geo.turn u v w) (by omega) (by omega) (by omega) (by omega)
    exact Geo.w64 (by omega) (by omega)
  obtain ⟨a, b, c, d, e, f, g, i, e0⟩ := drawSegMeet_tells 5 hw
  simp only [e0, Option.bind_some, iSegMeet_tells, sSegMeet_tells, sSegOk_tells, laws_FnMeetHas.j0, laws_FnMeetHas.j1, iSegHas_tells, iSegTurn_tells, tw]
  cases h : Geo.segOk (a, b) (c, d)
  · simp
  · cases h' : Geo.segOk (e, f) (g, i)
    · simp
    · obtain ⟨h1, h2, _⟩ := (Geo.segOk_iff _ _).1 h
      obtain ⟨h3, h4, _⟩ := (Geo.segOk_iff _ _).1 h'
      simp only [Geo.meet, Geo.meet0, Geo.has, Geo.turn, h, h', h1, h2, h3, h4, Bool.true_and, Bool.and_true, if_true, Bool.not_true, Bool.false_eq_true, if_false]
      by_cases c1 : Geo.sgn (Geo.cross (a, b) (c, d) (e, f)) * Geo.sgn (Geo.cross (a, b) (c, d) (g, i)) < 0 <;> by_cases c2 : Geo.sgn (Geo.cross (e, f) (g, i) (a, b)) * Geo.sgn (Geo.cross (e, f) (g, i) (c, d)) < 0 <;> cases Geo.has0 (a, b) (c, d) (e, f) <;> cases Geo.has0 (a, b) (c, d) (g, i) <;> cases Geo.has0 (e, f) (g, i) (a, b) <;> cases Geo.has0 (e, f) (g, i) (c, d) <;> simp [c1, c2]
end Go.Proofs.Ytodeiejmllbkiaa.Pure
