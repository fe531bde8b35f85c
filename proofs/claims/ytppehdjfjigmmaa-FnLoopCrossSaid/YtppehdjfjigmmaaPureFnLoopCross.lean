/- FnLoopCross returns true at every two byte slices: from a point in a loop to one beyond one crosses an edge. No condition. -/
import Derived.Test.YtppehdjfjigmmaaBFnLoopCross
namespace Go.Proofs.Ytppehdjfjigmmaa.Pure
open Go.RowKit Go.Proofs.Ytppehdjfjigmmaa.PA Go.Proofs.YtppehdjfjigmmaaW.PrintWords Go.Proofs.YtppehdjfjigmmaaW.PrintLast Go.Proofs.YtppehdjfjigmmaaW.PrintMore
open Go.Proofs.Ytppehdjfjigmmaa
set_option linter.unusedVariables false
set_option linter.unusedSimpArgs false
theorem cross_l0 {xs : List S33} {a b c d : Int} (h : ∃ i, i < xs.length ∧ Geo.meet (Geo.pt (xs.map tp) i) (Geo.pt (xs.map tp) (i + 1)) (a, b) (c, d) = true) (hl : xs.length ≤ 1000) :
    ∀ m i, i + m = xs.length → (∀ j, j < i → ¬ Geo.meet (Geo.pt (xs.map tp) j) (Geo.pt (xs.map tp) (j + 1)) (a, b) (c, d) = true) → Geo.Ev (fun k => laws_FnLoopCross.l0 k (edg xs) (i : Int) a b c d) true
  | 0, i, e, hn => by
    obtain ⟨j, hj, hm⟩ := h
    exact absurd hm (hn j (by omega))
  | m + 1, i, e, hn => by
    have hi : i < xs.length := by omega
    have e1 : wrap64 ((i : Int) + 1) = ((i + 1 : Nat) : Int) := Geo.w64 (by omega) (by omega)
    have hm : ∀ k, 3 ≤ k → impl_SegMeet.f k (rd_T42 (edg xs) (i : Int)).f0.f0 (rd_T42 (edg xs) (i : Int)).f0.f1 (rd_T42 (edg xs) (i : Int)).f1.f0 (rd_T42 (edg xs) (i : Int)).f1.f1 a b c d = some (Geo.meet (Geo.pt (xs.map tp) i) (Geo.pt (xs.map tp) (i + 1)) (a, b) (c, d)) := by
      intro k hk
      obtain ⟨d, rfl⟩ := Nat.exists_eq_add_of_le' hk
      rw [iSegMeet_tells, ← edg_a hi, ← edg_b hi]; rfl
    have hl := edg_len xs
    by_cases hc : Geo.meet (Geo.pt (xs.map tp) i) (Geo.pt (xs.map tp) (i + 1)) (a, b) (c, d) = true
    · refine ⟨4, fun k hk => ?_⟩
      obtain ⟨k, rfl⟩ := Nat.exists_eq_add_of_le' hk
      show laws_FnLoopCross.l0 (k + 3 + 1) (edg xs) (i : Int) a b c d = some true
      rw [laws_FnLoopCross.l0, if_pos (by omega), if_pos (by omega), hm _ (by omega), Option.bind_some, if_pos hc]
    · obtain ⟨k0, hk0⟩ := cross_l0 h (by omega) m (i + 1) (by omega) (fun j hj => by
        by_cases ej : j = i
        · rw [ej]; exact hc
        · exact hn j (by omega))
      refine ⟨k0 + 4, fun k hk => ?_⟩
      obtain ⟨k, rfl⟩ := Nat.exists_eq_add_of_le' hk
      show laws_FnLoopCross.l0 (k + (k0 + 3) + 1) (edg xs) (i : Int) a b c d = some true
      rw [laws_FnLoopCross.l0, if_pos (by omega), if_pos (by omega), hm _ (by omega), Option.bind_some, if_neg hc, e1]
      exact hk0 _ (by omega)
theorem FnLoopCross (l0 : List Int) (hq : l0.length ≤ maxLen ∧ ∀ x ∈ l0, (Lit.int .u8 x).wf = true) (l1 : List Int) (hq1 : l1.length ≤ maxLen ∧ ∀ x ∈ l1, (Lit.int .u8 x).wf = true) : ∃ k, laws_FnLoopCross.f k l0 l1 = some true := by
  refine Geo.Ev.out ?_
  have far : Geo.Ev (fun k => laws_FnLoopCross.j0 k l0 l1 true) true := Geo.Ev.step (Geo.Ev.const rfl) fun k => by rw [laws_FnLoopCross.j0, if_pos rfl]
  unfold laws_FnLoopCross.f
  by_cases hl : (l0.length : Int) > 1048576
  · simp only [if_pos hl]; exact far
  simp only [if_neg hl]
  by_cases hl1 : (l1.length : Int) > 1048576
  · rw [decide_eq_true hl1]; exact far
  rw [decide_eq_false hl1]
  obtain ⟨xs, x, y, e0, h3, h7, _, _⟩ := drawLoopIn_tells hq.2
  refine Geo.Ev.step ?_ fun k => by rw [laws_FnLoopCross.j0, if_neg (by decide)]
  refine Geo.Ev.bind e0 ?_
  simp only [iLoopIn_tells, Option.bind_some]
  refine Geo.Ev.bind (sLoopIn_tells xs x y) ?_
  simp only [if_true]
  refine Geo.Ev.bind (sLoopOk_tells xs) ?_
  have no : Geo.Ev (fun k => laws_FnLoopCross.j1 k l1 xs (Geo.loopIn (xs.map tp) (x, y)) true x y) true := by
    refine Geo.Ev.step ?_ fun k => by rw [laws_FnLoopCross.j1, if_pos rfl]
    refine Geo.Ev.bind (sLoopIn_tells xs x y) ?_
    exact Geo.Ev.const (by simp)
  cases h : Geo.loopOk (xs.map tp)
  · simp only [Bool.false_eq_true, if_false]; exact no
  · have L := (Geo.loopOk_iff _).1 h
    simp only [if_true, sPtOk_tells, Option.bind_some]
    cases hp : Geo.ok (x, y)
    · simp only [Bool.false_eq_true, if_false]; exact no
    · simp only [if_true]
      by_cases hz : Geo.loopIn (xs.map tp) (x, y) = 0
      · rw [beq_iff_eq.2 hz]; exact no
      · rw [beq_eq_false_iff_ne.2 hz]
        refine Geo.Ev.step ?_ fun k => by rw [laws_FnLoopCross.j1, if_neg (by decide)]
        simp only [iLoopIn_tells, Option.bind_some]
        have w3 : wrap64 ((l1.length : Int) / 3) = (l1.length : Int) / 3 := Geo.w64 (by omega) (by omega)
        rw [w3, Int.tmod_eq_emod_of_nonneg (by omega)]
        have hq : Geo.ok ((l1.length : Int) % 10, (l1.length : Int) / 3 % 10) = true := by rw [Geo.ok_iff]; simp only; omega
        generalize (l1.length : Int) % 10 = c at *
        generalize (l1.length : Int) / 3 % 10 = d at *
        have i1 := Geo.loopIn_ok L hp
        have i2 := Geo.loopIn_ok L hq
        have ic := Geo.inside_cases (xs.map tp) (x, y)
        have w4 : wrap64 (-Geo.loopIn (xs.map tp) (x, y)) = -Geo.loopIn (xs.map tp) (x, y) := Geo.w64 (by omega) (by omega)
        rw [w4]
        by_cases hd : Geo.loopIn (xs.map tp) (c, d) = -Geo.loopIn (xs.map tp) (x, y)
        · simp only [if_pos hd, iLoopEdges_tells, Option.bind_some, h, if_true]
          refine cross_l0 (Classical.byContradiction fun hn => ?_) (by omega) xs.length 0 (by omega) (fun j hj => by omega)
          have hpq : ((x, y) : Geo.P) ≠ (c, d) := fun e => by rw [← e] at hd; omega
          have := (Geo.stays L hp hq hpq (fun i hi => by
            rw [Bool.eq_false_iff]; intro hm
            exact hn ⟨i, by rwa [List.length_map] at hi, hm⟩)).1
          omega
        · simp only [if_neg hd]; exact Geo.Ev.const rfl
end Go.Proofs.Ytppehdjfjigmmaa.Pure
