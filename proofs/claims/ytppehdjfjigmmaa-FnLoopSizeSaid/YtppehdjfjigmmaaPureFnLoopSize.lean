/- FnLoopSize returns true at every two byte slices: the area of a loop is not 0, the same wherever it begins, the other one the other way about and on the other side. No condition. -/
import Derived.Test.YtppehdjfjigmmaaBFnLoopSize
namespace Go.Proofs.Ytppehdjfjigmmaa.Pure
open Go.RowKit Go.Proofs.Ytppehdjfjigmmaa.PA Go.Proofs.YtppehdjfjigmmaaW.PrintWords Go.Proofs.YtppehdjfjigmmaaW.PrintLast Go.Proofs.YtppehdjfjigmmaaW.PrintMore
open Go.Proofs.Ytppehdjfjigmmaa
set_option linter.unusedVariables false
set_option linter.unusedSimpArgs false
theorem area_bd {l : List Geo.P} (L : Geo.Loop l) : -648 ≤ Geo.area l ∧ Geo.area l ≤ 648 := by
  have b := Geo.sumTo_bd (f := fun i => Geo.det (Geo.pt l i) (Geo.pt l (i + 1))) (c := 81) l.length (fun i _ => Geo.det_bd (L.ok i) (L.ok (i + 1)))
  have h8 := L.hi
  unfold Geo.area; omega
theorem FnLoopSize (l0 : List Int) (hq : l0.length ≤ maxLen ∧ ∀ x ∈ l0, (Lit.int .u8 x).wf = true) (l1 : List Int) (hq1 : l1.length ≤ maxLen ∧ ∀ x ∈ l1, (Lit.int .u8 x).wf = true) : ∃ k, laws_FnLoopSize.f k l0 l1 = some true := by
  refine Geo.Ev.out ?_
  have far : Geo.Ev (fun k => laws_FnLoopSize.j0 k l0 l1 true) true := Geo.Ev.step (Geo.Ev.const rfl) fun k => by rw [laws_FnLoopSize.j0, if_pos rfl]
  unfold laws_FnLoopSize.f
  by_cases hl : (l0.length : Int) > 1048576
  · simp only [if_pos hl]; exact far
  simp only [if_neg hl]
  by_cases hl1 : (l1.length : Int) > 1048576
  · rw [decide_eq_true hl1]; exact far
  rw [decide_eq_false hl1]
  obtain ⟨xs, e0, h3, h7⟩ := drawLoopSize_tells hq.2
  refine Geo.Ev.step ?_ fun k => by rw [laws_FnLoopSize.j0, if_neg (by decide)]
  refine Geo.Ev.bind e0 ?_
  simp only [iLoopSize_tells, Option.bind_some]
  refine Geo.Ev.bind (sLoopSize_tells xs) ?_
  simp only [if_true]
  refine Geo.Ev.bind (sLoopOk_tells xs) ?_
  cases h : Geo.loopOk (xs.map tp)
  · refine Geo.Ev.step ?_ fun k => by rw [laws_FnLoopSize.j1, if_pos (by decide)]
    refine Geo.Ev.bind (sLoopSize_tells xs) ?_
    exact Geo.Ev.const (by simp)
  · have L := (Geo.loopOk_iff _).1 h
    have nx : (l1.length : Int) % (xs.length : Int) = ((l1.length % xs.length : Nat) : Int) := rfl
    have hm : l1.length % xs.length ≤ xs.length := Nat.le_of_lt (Nat.mod_lt _ (by omega))
    have hm' : l1.length % xs.length ≤ (xs.map tp).length := by rw [List.length_map]; exact hm
    have ne := Geo.area_ne L
    have bd := area_bd L
    have s0 := Geo.size_ok L
    have r1 : Geo.size ((xs.drop (l1.length % xs.length) ++ xs.take (l1.length % xs.length)).map tp) = Geo.area (xs.map tp) := by
      rw [rot_map, Geo.size_ok (L.rot hm'), Geo.area_rot hm']
    have r2 : Geo.size (xs.reverse.map tp) = -Geo.area (xs.map tp) := by rw [List.map_reverse, Geo.size_ok L.rev, Geo.area_rev (by rw [List.length_map]; omega)]
    have r3 : Geo.size ((xs.map (plc false)).map tp) = -Geo.area (xs.map tp) := by
      rw [plc_map, if_neg (by decide), Geo.size_ok L.mir, Geo.area_mir]
    have r4 : Geo.size ((xs.map (plc true)).map tp) = -Geo.area (xs.map tp) := by
      rw [plc_map, if_pos rfl, Geo.size_ok L.swp, Geo.area_swp]
    have w : wrap64 (-Geo.area (xs.map tp)) = -Geo.area (xs.map tp) := Geo.w64 (by omega) (by omega)
    rw [s0]
    refine Geo.Ev.step ?_ fun k => by rw [laws_FnLoopSize.j1, if_neg (by decide), if_neg ne, if_neg (by omega), nx, luTurned_tells hm (by omega), Option.bind_some]
    simp only [iLoopSize_tells, Option.bind_some, r1, if_true, w]
    refine Geo.Ev.bind (luBackward_tells (by omega)) ?_
    simp only [r2, if_true]
    refine Geo.Ev.bind (luOver_tells (by omega) (loop_near L) false) ?_
    simp only [r3, if_true]
    refine Geo.Ev.bind (luOver_tells (by omega) (loop_near L) true) ?_
    simp only [r4]
    exact Geo.Ev.const (by simp)
end Go.Proofs.Ytppehdjfjigmmaa.Pure
