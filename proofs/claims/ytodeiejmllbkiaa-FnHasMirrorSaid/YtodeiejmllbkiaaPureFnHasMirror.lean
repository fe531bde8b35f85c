/- FnHasMirror returns true at every byte slice: on the other side, or with across and up exchanged, a segment has what it has, and is as far. No condition. -/
import Derived.Test.YtodeiejmllbkiaaBFnHasMirror
namespace Go.Proofs.Ytodeiejmllbkiaa.Pure
open Go.RowKit Go.Proofs.Ytodeiejmllbkiaa.PA Go.Proofs.YtodeiejmllbkiaaW.PrintWords Go.Proofs.YtodeiejmllbkiaaW.PrintLast Go.Proofs.YtodeiejmllbkiaaW.PrintMore
open Go.Proofs.Ytodeiejmllbkiaa
set_option linter.unusedVariables false
set_option linter.unusedSimpArgs false
theorem FnHasMirror (l0 : List Int) (hq : l0.length ≤ maxLen ∧ ∀ x ∈ l0, (Lit.int .u8 x).wf = true) : ∃ k, laws_FnHasMirror.f k l0 = some true := by
  have hw := hq.2
  refine ⟨1010, ?_⟩
  unfold laws_FnHasMirror.f
  by_cases hl : (l0.length : Int) > 1048576
  · rw [if_pos hl]
  rw [if_neg hl]
  obtain ⟨a, b, c, d, e, f, e0⟩ := drawSegFar_tells 1009 hw
  simp only [e0, Option.bind_some, sSegOk_tells, sPtOk_tells, iSegFar_tells, sSegFar_tells 1010 (by omega)]
  have yes : ∀ x, Geo.far (a, b) (c, d) (e, f) = x → laws_FnHasMirror.j0 1010 true a b c d e f x.1 x.2 = some true := by
    rintro x rfl
    simp [laws_FnHasMirror.j0, sSegFar_tells 1009 (by omega)]
  cases h : Geo.segOk (a, b) (c, d)
  · simp [yes _ rfl]
  · cases h' : Geo.ok (e, f)
    · simp [yes _ rfl]
    · obtain ⟨h1, h2, h3⟩ := (Geo.segOk_iff _ _).1 h
      have f1 := Geo.far_mir (a, b) (c, d) (e, f)
      have f2 := Geo.far_swp (a, b) (c, d) (e, f)
      have g1 := Geo.has_mir (a, b) (c, d) (e, f)
      have g2 := Geo.has_swp (a, b) (c, d) (e, f)
      simp only [Geo.mir, Geo.swp] at f1 f2 g1 g2
      have w0 : wrap64 1 = 1 := Geo.w64 (by omega) (by omega)
      have w1 : wrap64 2 = 2 := Geo.w64 (by omega) (by omega)
      have r0 : rdOf false [false, true] 0 = false := rfl
      have r1 : rdOf false [false, true] 1 = true := rfl
      have go : ∀ k, laws_FnHasMirror.j0 (k + 5) false a b c d e f (Geo.far (a, b) (c, d) (e, f)).1 (Geo.far (a, b) (c, d) (e, f)).2 = some true := by
        intro k
        simp [laws_FnHasMirror.j0, laws_FnHasMirror.l0, w0, w1, r0, r1, luSeg_mir h1 h2, luSeg_swp, luPlace_mir h', luPlace_swp, iSegFar_tells, iSegHas_tells, f1, f2, g1, g2]
      have g := go 1005
      simp [g]
end Go.Proofs.Ytodeiejmllbkiaa.Pure
