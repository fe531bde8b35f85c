/- FnLoopPick returns true at every byte slice: twice the area of a loop is twice how many points of the grid are in it, and how many are on it, less 2. No condition. -/
import Derived.Test.YtppehdjfjigmmaaBFnLoopPick
namespace Go.Proofs.Ytppehdjfjigmmaa.Pure
open Go.RowKit Go.Proofs.Ytppehdjfjigmmaa.PA Go.Proofs.YtppehdjfjigmmaaW.PrintWords Go.Proofs.YtppehdjfjigmmaaW.PrintLast Go.Proofs.YtppehdjfjigmmaaW.PrintMore
open Go.Proofs.Ytppehdjfjigmmaa
set_option linter.unusedVariables false
set_option linter.unusedSimpArgs false
def cIn (l : List Geo.P) (v : Int) (x y : Nat) : Int := if Geo.inside l ((x : Int), (y : Int)) = v then 1 else 0
theorem cIn_bd (l : List Geo.P) (v : Int) (x : Nat) (m : Nat) : 0 ≤ Geo.sumTo (cIn l v x) m ∧ Geo.sumTo (cIn l v x) m ≤ m := by
  have h1 : ∀ i, 0 ≤ cIn l v x i ∧ cIn l v x i ≤ 1 := fun i => by unfold cIn; split <;> omega
  have := Geo.sumTo_bd (f := cIn l v x) (c := 1) m (fun i _ => by have := h1 i; omega)
  exact ⟨Geo.sumTo_nonneg m (fun i _ => (h1 i).1), by omega⟩
theorem cIn_bd2 (l : List Geo.P) (v : Int) (m : Nat) : 0 ≤ Geo.sumTo (fun x => Geo.sumTo (cIn l v x) 10) m ∧ Geo.sumTo (fun x => Geo.sumTo (cIn l v x) 10) m ≤ m * 10 := by
  have := Geo.sumTo_bd (f := fun x => Geo.sumTo (cIn l v x) 10) (c := 10) m (fun i _ => by have := cIn_bd l v i 10; omega)
  exact ⟨Geo.sumTo_nonneg m (fun i _ => (cIn_bd l v i 10).1), by omega⟩
section
variable {xs : List S33} (L : Geo.Loop (xs.map tp))
include L
theorem pick_l1 {n A B : Int} {x : Nat} (hx : x < 10) (hA : 0 ≤ A ∧ A ≤ 1000) (hB : 0 ≤ B ∧ B ≤ 1000) {v : Bool}
    (hv : Geo.Ev (fun k => laws_FnLoopPick.l0 k xs n (A + Geo.sumTo (cIn (xs.map tp) 1 x) 10) (B + Geo.sumTo (cIn (xs.map tp) 0 x) 10) ((x + 1 : Nat) : Int)) v) :
    ∀ m y, y + m = 10 → Geo.Ev (fun k => laws_FnLoopPick.l1 k xs n (A + Geo.sumTo (cIn (xs.map tp) 1 x) y) (B + Geo.sumTo (cIn (xs.map tp) 0 x) y) (x : Int) (y : Int)) v
  | 0, y, h => by
    obtain rfl : y = 10 := by omega
    have e1 : wrap64 ((x : Int) + 1) = ((x + 1 : Nat) : Int) := Geo.w64 (by omega) (by omega)
    refine Geo.Ev.step hv fun k => ?_
    rw [laws_FnLoopPick.l1, if_neg (by omega), e1]
  | m + 1, y, h => by
    have ih := pick_l1 hx hA hB hv m (y + 1) (by omega)
    have e1 : wrap64 ((y : Int) + 1) = ((y + 1 : Nat) : Int) := Geo.w64 (by omega) (by omega)
    have b1 := cIn_bd (xs.map tp) 1 x y
    have b0 := cIn_bd (xs.map tp) 0 x y
    have w1 : wrap64 (A + Geo.sumTo (cIn (xs.map tp) 1 x) y + 1) = A + Geo.sumTo (cIn (xs.map tp) 1 x) y + 1 := Geo.w64 (by omega) (by omega)
    have w0 : wrap64 (B + Geo.sumTo (cIn (xs.map tp) 0 x) y + 1) = B + Geo.sumTo (cIn (xs.map tp) 0 x) y + 1 := Geo.w64 (by omega) (by omega)
    have hp : Geo.ok ((x : Int), (y : Int)) = true := Geo.ok_grid hx (by omega)
    have e : Geo.loopIn (xs.map tp) ((x : Int), (y : Int)) = Geo.inside (xs.map tp) ((x : Int), (y : Int)) := Geo.loopIn_ok L hp
    refine Geo.Ev.step ih fun k => ?_
    rw [laws_FnLoopPick.l1, if_pos (by omega), iLoopIn_tells, Option.bind_some, e, e1, w1, w0]
    simp only [Geo.sumTo]
    rcases Geo.inside_cases (xs.map tp) ((x : Int), (y : Int)) with c | c | c
    · have c1 : cIn (xs.map tp) 1 x y = 0 := by unfold cIn; rw [c]; rfl
      have c0 : cIn (xs.map tp) 0 x y = 1 := by unfold cIn; rw [c]; rfl
      rw [c, if_neg (by decide), if_pos rfl, c1, c0, Int.add_zero, Int.add_assoc B]
    · have c1 : cIn (xs.map tp) 1 x y = 1 := by unfold cIn; rw [c]; rfl
      have c0 : cIn (xs.map tp) 0 x y = 0 := by unfold cIn; rw [c]; rfl
      rw [c, if_pos rfl, c1, c0, Int.add_zero, Int.add_assoc A]
    · have c1 : cIn (xs.map tp) 1 x y = 0 := by unfold cIn; rw [c]; rfl
      have c0 : cIn (xs.map tp) 0 x y = 0 := by unfold cIn; rw [c]; rfl
      rw [c, if_neg (by decide), if_neg (by decide), c1, c0, Int.add_zero, Int.add_zero]
theorem pick_l0 : ∀ m x, x + m = 10 → Geo.Ev (fun k => laws_FnLoopPick.l0 k xs (Geo.area (xs.map tp)) (Geo.sumTo (fun x => Geo.sumTo (cIn (xs.map tp) 1 x) 10) x) (Geo.sumTo (fun x => Geo.sumTo (cIn (xs.map tp) 0 x) 10) x) (x : Int)) true
  | 0, x, h => by
    obtain rfl : x = 10 := by omega
    have a1 : Geo.sumTo (fun x => Geo.sumTo (cIn (xs.map tp) 1 x) 10) 10 = Geo.inn (xs.map tp) := Geo.sumTo_swap (cIn (xs.map tp) 1) 10 10
    have a0 : Geo.sumTo (fun x => Geo.sumTo (cIn (xs.map tp) 0 x) 10) 10 = Geo.onn (xs.map tp) := Geo.sumTo_swap (cIn (xs.map tp) 0) 10 10
    have b1 := cIn_bd2 (xs.map tp) 1 10
    have b0 := cIn_bd2 (xs.map tp) 0 10
    have ab := Geo.area_abs L
    have ar : -648 ≤ Geo.area (xs.map tp) ∧ Geo.area (xs.map tp) ≤ 648 := by
      have b := Geo.sumTo_bd (f := fun i => Geo.det (Geo.pt (xs.map tp) i) (Geo.pt (xs.map tp) (i + 1))) (c := 81) (xs.map tp).length (fun i _ => Geo.det_bd (L.ok i) (L.ok (i + 1)))
      have h8 := L.hi
      unfold Geo.area; omega
    rw [a1] at b1
    rw [a0] at b0
    refine Geo.Ev.step (Geo.Ev.const (o := some true) rfl) fun k => ?_
    rw [laws_FnLoopPick.l0, if_neg (by omega), a1, a0, Geo.w64 (n := 2 * Geo.inn (xs.map tp)) (by omega) (by omega), Geo.w64 (n := 2 * Geo.inn (xs.map tp) + Geo.onn (xs.map tp)) (by omega) (by omega), Geo.w64 (n := 2 * Geo.inn (xs.map tp) + Geo.onn (xs.map tp) - 2) (by omega) (by omega), Geo.w64 (n := -Geo.area (xs.map tp)) (by omega) (by omega)]
    by_cases c : Geo.area (xs.map tp) < 0
    · rw [if_pos c] at ab ⊢; rw [ab]; simp
    · rw [if_neg c] at ab ⊢; rw [← ab]; simp
  | m + 1, x, h => by
    have b1 := cIn_bd2 (xs.map tp) 1 x
    have b0 := cIn_bd2 (xs.map tp) 0 x
    have ih := pick_l0 m (x + 1) (by omega)
    have := pick_l1 L (n := Geo.area (xs.map tp)) (show x < 10 by omega) (A := Geo.sumTo (fun x => Geo.sumTo (cIn (xs.map tp) 1 x) 10) x) (B := Geo.sumTo (fun x => Geo.sumTo (cIn (xs.map tp) 0 x) 10) x) (by omega) (by omega) ih 10 0 (by omega)
    refine Geo.Ev.step this fun k => ?_
    rw [laws_FnLoopPick.l0, if_pos (by omega)]
    simp only [Geo.sumTo, Int.add_zero]; rfl
end
theorem FnLoopPick (l0 : List Int) (hq : l0.length ≤ maxLen ∧ ∀ x ∈ l0, (Lit.int .u8 x).wf = true) : ∃ k, laws_FnLoopPick.f k l0 = some true := by
  refine Geo.Ev.out ?_
  unfold laws_FnLoopPick.f
  by_cases hl : (l0.length : Int) > 1048576
  · simp only [if_pos hl]; exact Geo.Ev.const rfl
  simp only [if_neg hl]
  obtain ⟨xs, e0, h3, h7⟩ := drawLoopSize_tells hq.2
  refine Geo.Ev.bind e0 ?_
  simp only [iLoopSize_tells, Option.bind_some]
  refine Geo.Ev.bind (sLoopSize_tells xs) ?_
  simp only [if_true]
  refine Geo.Ev.bind (sLoopOk_tells xs) ?_
  cases h : Geo.loopOk (xs.map tp)
  · refine Geo.Ev.step ?_ fun k => by rw [laws_FnLoopPick.j0, if_pos (by decide)]
    refine Geo.Ev.bind (sLoopSize_tells xs) ?_
    exact Geo.Ev.const (by simp)
  · have L := (Geo.loopOk_iff _).1 h
    rw [Geo.size_ok L]
    exact Geo.Ev.step (pick_l0 L 10 0 (by omega)) fun k => by rw [laws_FnLoopPick.j0, if_neg (by decide)]; rfl
end Go.Proofs.Ytppehdjfjigmmaa.Pure
