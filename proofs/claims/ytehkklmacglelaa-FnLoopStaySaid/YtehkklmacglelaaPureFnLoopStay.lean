/- FnLoopStay returns true at every two byte slices: who crosses no edge stays in a loop, or beyond it. No condition. -/
import Derived.Test.YtehkklmacglelaaBFnLoopStay
namespace Go.Proofs.Ytehkklmacglelaa.Pure
open Go.RowKit Go.Proofs.Ytehkklmacglelaa.PA Go.Proofs.YtehkklmacglelaaW.PrintWords Go.Proofs.YtehkklmacglelaaW.PrintLast Go.Proofs.YtehkklmacglelaaW.PrintMore
open Go.Proofs.Ytehkklmacglelaa
set_option linter.unusedVariables false
set_option linter.unusedSimpArgs false
theorem stay_l0 {xs : List S25} {v a b c d : Int} (h : (∀ i, i < xs.length → ¬ Geo.meet (Geo.pt (xs.map tp) i) (Geo.pt (xs.map tp) (i + 1)) (a, b) (c, d) = true) → Geo.loopIn (xs.map tp) (c, d) = v ∧ v ≠ 0) (hl : xs.length ≤ 1000) :
    ∀ m i, i + m = xs.length → (∀ j, j < i → ¬ Geo.meet (Geo.pt (xs.map tp) j) (Geo.pt (xs.map tp) (j + 1)) (a, b) (c, d) = true) → Geo.Ev (fun k => laws_FnLoopStay.l0 k xs v (edg xs) (i : Int) a b c d) true
  | 0, i, e, hn => by
    obtain rfl : i = xs.length := by omega
    obtain ⟨h1, h2⟩ := h hn
    have hl := edg_len xs
    refine Geo.Ev.step (Geo.Ev.const (o := some true) rfl) fun k => ?_
    rw [laws_FnLoopStay.l0, if_neg (by omega), iLoopIn_tells, Option.bind_some, if_pos h1]
    simp [h2]
  | m + 1, i, e, hn => by
    have hi : i < xs.length := by omega
    have e1 : wrap64 ((i : Int) + 1) = ((i + 1 : Nat) : Int) := Geo.w64 (by omega) (by omega)
    have hm : ∀ k, 3 ≤ k → impl_SegMeet.f k (rd_T35 (edg xs) (i : Int)).f0.f0 (rd_T35 (edg xs) (i : Int)).f0.f1 (rd_T35 (edg xs) (i : Int)).f1.f0 (rd_T35 (edg xs) (i : Int)).f1.f1 a b c d = some (Geo.meet (Geo.pt (xs.map tp) i) (Geo.pt (xs.map tp) (i + 1)) (a, b) (c, d)) := by
      intro k hk
      obtain ⟨d, rfl⟩ := Nat.exists_eq_add_of_le' hk
      rw [iSegMeet_tells, ← edg_a hi, ← edg_b hi]; rfl
    have hl := edg_len xs
    by_cases hc : Geo.meet (Geo.pt (xs.map tp) i) (Geo.pt (xs.map tp) (i + 1)) (a, b) (c, d) = true
    · refine ⟨4, fun k hk => ?_⟩
      obtain ⟨k, rfl⟩ := Nat.exists_eq_add_of_le' hk
      show laws_FnLoopStay.l0 (k + 3 + 1) xs v (edg xs) (i : Int) a b c d = some true
      rw [laws_FnLoopStay.l0, if_pos (by omega), if_pos (by omega), hm _ (by omega), Option.bind_some, if_pos hc]
    · obtain ⟨k0, hk0⟩ := stay_l0 h (by omega) m (i + 1) (by omega) (fun j hj => by
        by_cases ej : j = i
        · rw [ej]; exact hc
        · exact hn j (by omega))
      refine ⟨k0 + 4, fun k hk => ?_⟩
      obtain ⟨k, rfl⟩ := Nat.exists_eq_add_of_le' hk
      show laws_FnLoopStay.l0 (k + (k0 + 3) + 1) xs v (edg xs) (i : Int) a b c d = some true
      rw [laws_FnLoopStay.l0, if_pos (by omega), if_pos (by omega), hm _ (by omega), Option.bind_some, if_neg hc, e1]
      exact hk0 _ (by omega)
theorem FnLoopStay (l0 : List Int) (hq : l0.length ≤ maxLen ∧ ∀ x ∈ l0, (Lit.int .u8 x).wf = true) (l1 : List Int) (hq1 : l1.length ≤ maxLen ∧ ∀ x ∈ l1, (Lit.int .u8 x).wf = true) : ∃ k, laws_FnLoopStay.f k l0 l1 = some true := by
  refine Geo.Ev.out ?_
  have far : Geo.Ev (fun k => laws_FnLoopStay.j0 k l0 l1 true) true := Geo.Ev.step (Geo.Ev.const rfl) fun k => by rw [laws_FnLoopStay.j0, if_pos rfl]
  unfold laws_FnLoopStay.f
  by_cases hl : (l0.length : Int) > 1048576
  · simp only [if_pos hl]; exact far
  simp only [if_neg hl]
  by_cases hl1 : (l1.length : Int) > 1048576
  · rw [decide_eq_true hl1]; exact far
  rw [decide_eq_false hl1]
  obtain ⟨xs, x, y, e0, h3, h7, _, _⟩ := drawLoopIn_tells hq.2
  refine Geo.Ev.step ?_ fun k => by rw [laws_FnLoopStay.j0, if_neg (by decide)]
  refine Geo.Ev.bind e0 ?_
  simp only [iLoopIn_tells, Option.bind_some]
  refine Geo.Ev.bind (sLoopIn_tells xs x y) ?_
  simp only [if_true]
  refine Geo.Ev.bind (sLoopOk_tells xs) ?_
  have no : Geo.Ev (fun k => laws_FnLoopStay.j1 k l1 xs (Geo.loopIn (xs.map tp) (x, y)) true x y) true := by
    refine Geo.Ev.step ?_ fun k => by rw [laws_FnLoopStay.j1, if_pos rfl]
    refine Geo.Ev.bind (sLoopIn_tells xs x y) ?_
    exact Geo.Ev.const (by simp)
  cases h : Geo.loopOk (xs.map tp)
  · simp only [Bool.false_eq_true, if_false]; exact no
  · have L := (Geo.loopOk_iff _).1 h
    simp only [if_true, sPtOk_tells, Option.bind_some]
    cases hp : Geo.ok (x, y)
    · exact no
    · obtain ⟨p1, p2, p3, p4⟩ := (Geo.ok_iff _).1 hp
      simp only at p1 p2 p3 p4
      have w1 : wrap64 (x + 1) = x + 1 := Geo.w64 (by omega) (by omega)
      have w2 : wrap64 (y - (l1.length : Int) % 2) = y - (l1.length : Int) % 2 := Geo.w64 (by omega) (by omega)
      refine Geo.Ev.step ?_ fun k => by rw [Bool.not_true, laws_FnLoopStay.j1, if_neg (by decide), w1, w2]
      have hq : Geo.ok (mn (x + 1) 9, mx (y - (l1.length : Int) % 2) 0) = true := by
        rw [Geo.ok_iff]; unfold mn mx; simp only; split <;> split <;> omega
      generalize mn (x + 1) 9 = c at *
      generalize mx (y - (l1.length : Int) % 2) 0 = d at *
      by_cases hpq : (c == x && (d == y)) = true
      · simp only [if_pos hpq]; exact Geo.Ev.const rfl
      · simp only [if_neg hpq, iLoopEdges_tells, Option.bind_some, h, if_true]
        refine stay_l0 (fun hn => ?_) (by omega) xs.length 0 (by omega) (fun j hj => by omega)
        have hne : ((x, y) : Geo.P) ≠ (c, d) := fun e => hpq (by
          simp only [Prod.mk.injEq] at e
          simp [e.1, e.2])
        have := Geo.stays L hp hq hne (fun i hi => by
          rw [Bool.eq_false_iff]; exact hn i (by rwa [List.length_map] at hi))
        rw [Geo.loopIn_ok L hp, Geo.loopIn_ok L hq]
        exact this
end Go.Proofs.Ytehkklmacglelaa.Pure
