/- FnLoopCorners returns true at every byte slice: a loop's points are on it, and what is beyond the least and greatest places of them is beyond it. No condition. -/
import Derived.Test.YtppehdjfjigmmaaBFnLoopCorners
namespace Go.Proofs.Ytppehdjfjigmmaa.Pure
open Go.RowKit Go.Proofs.Ytppehdjfjigmmaa.PA Go.Proofs.YtppehdjfjigmmaaW.PrintWords Go.Proofs.YtppehdjfjigmmaaW.PrintLast Go.Proofs.YtppehdjfjigmmaaW.PrintMore
open Go.Proofs.Ytppehdjfjigmmaa
set_option linter.unusedVariables false
set_option linter.unusedSimpArgs false
theorem corners_l0 {xs : List S33} (L : Geo.Loop (xs.map tp)) {x y : Int} (hp : Geo.ok (x, y) = true) : ∀ (m i : Nat) (lx ly hx hy : Int), i + m = xs.length →
    (∀ j, j < i → lx ≤ (Geo.pt (xs.map tp) j).1 ∧ ly ≤ (Geo.pt (xs.map tp) j).2 ∧ (Geo.pt (xs.map tp) j).1 ≤ hx ∧ (Geo.pt (xs.map tp) j).2 ≤ hy) →
    Geo.Ev (fun k => laws_FnLoopCorners.l0 k xs (Geo.loopIn (xs.map tp) (x, y)) (i : Int) x y lx ly hx hy) true
  | 0, i, lx, ly, hx, hy, e, h => by
    obtain rfl : i = xs.length := by omega
    have h3 := L.lo
    have hall : ∀ j, lx ≤ (Geo.pt (xs.map tp) j).1 ∧ ly ≤ (Geo.pt (xs.map tp) j).2 ∧ (Geo.pt (xs.map tp) j).1 ≤ hx ∧ (Geo.pt (xs.map tp) j).2 ≤ hy := fun j => by
      rw [← Geo.pt_mod]; exact h _ (by have := Nat.mod_lt j (show 0 < (xs.map tp).length by omega); rwa [List.length_map] at this ⊢)
    have b : (x < lx ∨ hx < x ∨ y < ly ∨ hy < y) → Geo.loopIn (xs.map tp) (x, y) = -1 := fun hc => by
      rw [Geo.loopIn_ok L hp]
      refine Geo.beyond L hp ?_
      rcases hc with hc | hc | hc | hc
      · exact .inl fun j => by have := hall j; simp only; omega
      · exact .inr (.inl fun j => by have := hall j; simp only; omega)
      · exact .inr (.inr (.inl fun j => by have := hall j; simp only; omega))
      · exact .inr (.inr (.inr fun j => by have := hall j; simp only; omega))
    refine Geo.Ev.step (Geo.Ev.const (o := some true) rfl) fun k => ?_
    rw [laws_FnLoopCorners.l0, if_neg (by omega)]
    by_cases c1 : x < lx
    · rw [if_pos c1, b (.inl c1)]; rfl
    rw [if_neg c1]
    by_cases c2 : x > hx
    · rw [if_pos c2, b (.inr (.inl c2))]; rfl
    rw [if_neg c2]
    by_cases c3 : y < ly
    · rw [if_pos c3, b (.inr (.inr (.inl c3)))]; rfl
    rw [if_neg c3]
    by_cases c4 : y > hy
    · rw [if_pos c4, b (.inr (.inr (.inr c4)))]; rfl
    rw [if_neg c4]
  | m + 1, i, lx, ly, hx, hy, e, h => by
    have h8 := L.hi
    rw [List.length_map] at h8
    have hi : i < xs.length := by omega
    have e1 : wrap64 ((i : Int) + 1) = ((i + 1 : Nat) : Int) := Geo.w64 (by omega) (by omega)
    have hpt : Geo.pt (xs.map tp) i = ((rd_T33 xs (i : Int)).f0, (rd_T33 xs (i : Int)).f1) := pt_tp hi
    have hin : Geo.loopIn (xs.map tp) ((rd_T33 xs (i : Int)).f0, (rd_T33 xs (i : Int)).f1) = 0 := by
      rw [← hpt, Geo.loopIn_ok L (L.ok i)]; exact Geo.corner_on L i
    have ih := corners_l0 L hp m (i + 1) (mn lx (rd_T33 xs (i : Int)).f0) (mn ly (rd_T33 xs (i : Int)).f1) (mx hx (rd_T33 xs (i : Int)).f0) (mx hy (rd_T33 xs (i : Int)).f1) (by omega) (fun j hj => by
      unfold mn mx
      by_cases ej : j = i
      · rw [ej, hpt]; simp only; split <;> split <;> split <;> split <;> omega
      · have := h j (by omega); split <;> split <;> split <;> split <;> omega)
    refine Geo.Ev.step ih fun k => ?_
    rw [laws_FnLoopCorners.l0, if_pos (by omega), if_pos (by omega), iLoopIn_tells, Option.bind_some, hin, if_pos rfl, e1]
theorem FnLoopCorners (l0 : List Int) (hq : l0.length ≤ maxLen ∧ ∀ x ∈ l0, (Lit.int .u8 x).wf = true) : ∃ k, laws_FnLoopCorners.f k l0 = some true := by
  refine Geo.Ev.out ?_
  unfold laws_FnLoopCorners.f
  by_cases hl : (l0.length : Int) > 1048576
  · simp only [if_pos hl]; exact Geo.Ev.const rfl
  simp only [if_neg hl]
  obtain ⟨xs, x, y, e0, h3, h7, _, _⟩ := drawLoopIn_tells hq.2
  refine Geo.Ev.bind e0 ?_
  simp only [iLoopIn_tells, Option.bind_some]
  refine Geo.Ev.bind (sLoopIn_tells xs x y) ?_
  simp only [if_true]
  refine Geo.Ev.bind (sLoopOk_tells xs) ?_
  have no : Geo.Ev (fun k => laws_FnLoopCorners.j0 k xs (Geo.loopIn (xs.map tp) (x, y)) true x y) true := by
    refine Geo.Ev.step ?_ fun k => by rw [laws_FnLoopCorners.j0, if_pos rfl]
    refine Geo.Ev.bind (sLoopIn_tells xs x y) ?_
    exact Geo.Ev.const (by simp)
  cases h : Geo.loopOk (xs.map tp)
  · simp only [Bool.false_eq_true, if_false]; exact no
  · have L := (Geo.loopOk_iff _).1 h
    simp only [if_true, sPtOk_tells, Option.bind_some]
    cases hp : Geo.ok (x, y)
    · exact no
    · refine Geo.Ev.step (corners_l0 L hp xs.length 0 (rd_T33 xs 0).f0 (rd_T33 xs 0).f1 (rd_T33 xs 0).f0 (rd_T33 xs 0).f1 (by omega) (fun j hj => by omega)) fun k => ?_
      rw [Bool.not_true, laws_FnLoopCorners.j0, if_neg (by decide), if_pos (by omega)]; rfl
end Go.Proofs.Ytppehdjfjigmmaa.Pure
