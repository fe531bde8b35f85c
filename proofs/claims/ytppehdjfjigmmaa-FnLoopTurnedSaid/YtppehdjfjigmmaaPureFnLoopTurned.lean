/- FnLoopTurned returns true at every two byte slices: wherever it begins, the other way about, on the other side a loop is one. No condition. -/
import Derived.Test.YtppehdjfjigmmaaBFnLoopTurned
namespace Go.Proofs.Ytppehdjfjigmmaa.Pure
open Go.RowKit Go.Proofs.Ytppehdjfjigmmaa.PA Go.Proofs.YtppehdjfjigmmaaW.PrintWords Go.Proofs.YtppehdjfjigmmaaW.PrintLast Go.Proofs.YtppehdjfjigmmaaW.PrintMore
open Go.Proofs.Ytppehdjfjigmmaa
set_option linter.unusedVariables false
set_option linter.unusedSimpArgs false
theorem FnLoopTurned (l0 : List Int) (hq : l0.length ≤ maxLen ∧ ∀ x ∈ l0, (Lit.int .u8 x).wf = true) (l1 : List Int) (hq1 : l1.length ≤ maxLen ∧ ∀ x ∈ l1, (Lit.int .u8 x).wf = true) : ∃ k, laws_FnLoopTurned.f k l0 l1 = some true := by
  refine Geo.Ev.out ?_
  have far : Geo.Ev (fun k => laws_FnLoopTurned.j0 k l0 l1 true) true := Geo.Ev.step (Geo.Ev.const rfl) fun k => by rw [laws_FnLoopTurned.j0, if_pos rfl]
  unfold laws_FnLoopTurned.f
  by_cases hl : (l0.length : Int) > 1048576
  · simp only [if_pos hl]; exact far
  simp only [if_neg hl]
  by_cases hl1 : (l1.length : Int) > 1048576
  · rw [decide_eq_true hl1]; exact far
  rw [decide_eq_false hl1]
  obtain ⟨xs, e0, h3, h7⟩ := drawLoopOk_tells hq.2
  refine Geo.Ev.step ?_ fun k => by rw [laws_FnLoopTurned.j0, if_neg (by decide)]
  refine Geo.Ev.bind e0 ?_
  simp only [iLoopOk_tells, Option.bind_some]
  refine Geo.Ev.bind (sLoopOk_tells xs) ?_
  simp only [bne_self_eq_false, Bool.false_eq_true, if_false]
  cases h : Geo.loopOk (xs.map tp)
  · refine Geo.Ev.step ?_ fun k => by rw [laws_FnLoopTurned.j1, if_pos (by decide)]
    refine Geo.Ev.bind (sLoopOk_tells xs) ?_
    rw [h]; exact Geo.Ev.const rfl
  · have L := (Geo.loopOk_iff _).1 h
    have nx : (l1.length : Int) % (xs.length : Int) = ((l1.length % xs.length : Nat) : Int) := rfl
    have hm : l1.length % xs.length ≤ xs.length := Nat.le_of_lt (Nat.mod_lt _ (by omega))
    refine Geo.Ev.step ?_ fun k => by rw [laws_FnLoopTurned.j1, if_neg (by decide), if_neg (by omega), nx, luTurned_tells hm (by omega), Option.bind_some]
    have r1 : Geo.loopOk ((xs.drop (l1.length % xs.length) ++ xs.take (l1.length % xs.length)).map tp) = true := by
      rw [rot_map]; exact Geo.loopOk_of (L.rot (by rw [List.length_map]; exact hm))
    have r2 : Geo.loopOk (xs.reverse.map tp) = true := by rw [List.map_reverse]; exact Geo.loopOk_of L.rev
    have r3 : Geo.loopOk ((xs.map (plc false)).map tp) = true := by rw [plc_map]; exact Geo.loopOk_of L.mir
    have r4 : Geo.loopOk ((xs.map (plc true)).map tp) = true := by rw [plc_map]; exact Geo.loopOk_of L.swp
    simp only [iLoopOk_tells, Option.bind_some, r1, if_true]
    refine Geo.Ev.bind (luBackward_tells (by omega)) ?_
    simp only [r2, if_true]
    refine Geo.Ev.bind (luOver_tells (by omega) (loop_near L) false) ?_
    simp only [r3, if_true]
    refine Geo.Ev.bind (luOver_tells (by omega) (loop_near L) true) ?_
    simp only [r4]
    exact Geo.Ev.const rfl
end Go.Proofs.Ytppehdjfjigmmaa.Pure
