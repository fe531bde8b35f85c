/- FnExactLoopEdges returns true at every points: the program's LoopEdges returns what the reference's returns, leaves its argument as it was, and its answer is new memory. No condition. -/
import Derived.Test.YtppehdjfjigmmaaBFnExactLoopEdges
namespace Go.Proofs.Ytppehdjfjigmmaa.Pure
open Go.RowKit Go.Proofs.Ytppehdjfjigmmaa.PA Go.Proofs.YtppehdjfjigmmaaW.PrintWords Go.Proofs.YtppehdjfjigmmaaW.PrintLast Go.Proofs.YtppehdjfjigmmaaW.PrintMore
open Go.Proofs.Ytppehdjfjigmmaa
set_option linter.unusedVariables false
set_option linter.unusedSimpArgs false
theorem FnExactLoopEdges (l : List S35) (hq : l.length ≤ maxLen ∧ ∀ x ∈ l, (Lit.int .i64 x.f0).wf = true ∧ (Lit.int .i64 x.f1).wf = true) : ∃ k, laws_FnExactLoopEdges.f k l = some true := by
  refine Geo.Ev.out ?_
  unfold laws_FnExactLoopEdges.f
  by_cases hl : l.length ≤ 1048576
  · have hm : (l.map toP).length ≤ 1048576 := by rw [List.length_map]; exact hl
    simp only [szPtS_tells l hl, Option.bind_some]
    simp only [if_neg (show ¬ (1048576 - (l.length : Int) < 0) by omega)]
    obtain ⟨es, hes⟩ : ∃ es, (if Geo.loopOk ((l.map toP).map tp) = true then edg (l.map toP) else []) = es := ⟨_, rfl⟩
    have he : es.length ≤ 1048576 := by
      rw [← hes]; split
      · rw [edg_len]; exact hm
      · simp
    have se := sLoopEdges_tells (l.map toP)
    have ie := iLoopEdges_tells (l.map toP)
    rw [hes] at se ie
    refine Geo.Ev.bind (toPtS_tells hl) (Geo.Ev.bind se (Geo.Ev.bind (toPtS_tells hl) ?_))
    simp only [ie, Option.bind_some]
    refine Geo.Ev.bind (eqSegS_self he) ?_
    simp only [if_true]
    refine Geo.Ev.bind (toPtS_tells hl) (Geo.Ev.bind (eqPtS_self hm) ?_)
    simp only [if_true]
    refine Geo.Ev.bind (markPtS_tells hm 1 (by omega) (by omega)) ?_
    simp only [if_neg (show ¬ (1 + 2 * ((l.map toP).length : Int) < 0) by omega)]
    refine Geo.Ev.bind (eqSegS_self he) ?_
    refine Geo.Ev.step ?_ fun k => by rw [laws_FnExactLoopEdges.j0, if_neg (by decide)]
    refine Geo.Ev.bind (markSegS_tells he 1 (by omega) (by omega)) ?_
    refine Geo.Ev.bind (heldSegS_tells he 1 (by omega) (by omega)) ?_
    simp only [if_neg (show ¬ (1 + 4 * (es.length : Int) < 0) by omega), if_true]
    refine Geo.Ev.bind (toPtS_tells hl) ?_
    simp only [ie, Option.bind_some]
    refine Geo.Ev.bind (eqSegS_self he) ?_
    simp only [if_true]
    refine Geo.Ev.bind (heldSegS_tells he 1 (by omega) (by omega)) ?_
    simp only [if_neg (show ¬ (1 + 4 * (es.length : Int) < 0) by omega), if_true]
    exact Geo.Ev.const rfl
  · simp only [szPtS_far l hl hq.1, Option.bind_some]
    exact Geo.Ev.const rfl
end Go.Proofs.Ytppehdjfjigmmaa.Pure
