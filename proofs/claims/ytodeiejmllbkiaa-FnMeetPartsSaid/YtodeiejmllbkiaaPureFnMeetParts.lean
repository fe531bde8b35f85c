/- FnMeetParts returns true at every two byte slices: who meets a segment meets a part of it. No condition. -/
import Derived.Test.YtodeiejmllbkiaaBFnMeetParts
namespace Go.Proofs.Ytodeiejmllbkiaa.Pure
open Go.RowKit Go.Proofs.Ytodeiejmllbkiaa.PA Go.Proofs.YtodeiejmllbkiaaW.PrintWords Go.Proofs.YtodeiejmllbkiaaW.PrintLast Go.Proofs.YtodeiejmllbkiaaW.PrintMore
open Go.Proofs.Ytodeiejmllbkiaa
set_option linter.unusedVariables false
set_option linter.unusedSimpArgs false
theorem peq (a b c d : Int) : (a == c && (b == d)) = decide (((a, b) : Geo.P) = (c, d)) := by
  by_cases e1 : a = c <;> by_cases e2 : b = d <;> simp [e1, e2]
theorem parts_j3 (k : Nat) {a b c d e f g i : Int} (hm : Geo.meet (a, b) (c, d) (e, f) (g, i) = true) (x y : Int) : laws_FnMeetParts.j3 (k + 6) a b c d e f g i x y = some true := by
  simp only [laws_FnMeetParts.j3, laws_FnMeetParts.j4, iSegHas_tells, iSegMeet_tells, Option.bind_some, peq]
  cases h : Geo.has (a, b) (c, d) (x, y)
  · simp
  · by_cases e1 : ((x, y) : Geo.P) = (a, b)
    · simp [e1]
    · by_cases e2 : ((x, y) : Geo.P) = (c, d)
      · simp [e2]
      · rcases Geo.meet_parts h e1 e2 hm with h1 | h1
        · simp [e1, e2, h1]
        · cases h2 : Geo.meet (a, b) (x, y) (e, f) (g, i) <;> simp [e1, e2, h1]
theorem FnMeetParts (l0 : List Int) (hq : l0.length ≤ maxLen ∧ ∀ x ∈ l0, (Lit.int .u8 x).wf = true) (l1 : List Int) (hq1 : l1.length ≤ maxLen ∧ ∀ x ∈ l1, (Lit.int .u8 x).wf = true) : ∃ k, laws_FnMeetParts.f k l0 l1 = some true := by
  have hw := hq.2
  refine ⟨20, ?_⟩
  unfold laws_FnMeetParts.f
  by_cases hl : (l0.length : Int) > 1048576
  · rw [if_pos hl]; simp [laws_FnMeetParts.j0]
  rw [if_neg hl]
  by_cases hl1 : (l1.length : Int) > 1048576
  · rw [decide_eq_true hl1]; simp [laws_FnMeetParts.j0]
  rw [decide_eq_false hl1]
  obtain ⟨a, b, c, d, e, f, g, i, e0⟩ := drawSegMeet_tells 18 hw
  simp only [laws_FnMeetParts.j0, e0, Option.bind_some, iSegMeet_tells, sSegMeet_tells, sSegOk_tells]
  have key : Geo.meet (a, b) (c, d) (e, f) (g, i) = true → laws_FnMeetParts.j1 19 l1 true false a b c d e f g i = some true := by
    intro hm
    simp only [laws_FnMeetParts.j1, laws_FnMeetParts.j2, Bool.false_eq_true, if_false]
    split
    · split
      · exact parts_j3 11 hm _ _
      · exact parts_j3 11 hm _ _
    · exact parts_j3 11 hm _ _
  have no : ∀ t, t = Geo.meet (a, b) (c, d) (e, f) (g, i) → laws_FnMeetParts.j1 19 l1 t true a b c d e f g i = some true := by
    rintro t rfl
    simp [laws_FnMeetParts.j1, sSegMeet_tells]
  have nn := no _ rfl
  cases hm : Geo.meet (a, b) (c, d) (e, f) (g, i)
  · rw [hm] at nn
    cases Geo.segOk (a, b) (c, d) <;> cases Geo.segOk (e, f) (g, i) <;> simp [nn]
  · rw [hm] at nn
    cases Geo.segOk (a, b) (c, d) <;> cases Geo.segOk (e, f) (g, i) <;> simp [nn, key hm]
end Go.Proofs.Ytodeiejmllbkiaa.Pure
