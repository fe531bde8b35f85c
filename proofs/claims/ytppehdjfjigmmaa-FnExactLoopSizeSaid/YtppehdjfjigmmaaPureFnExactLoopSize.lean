/- FnExactLoopSize returns true at every points: the program's LoopSize returns what the reference's returns, and leaves its argument as it was. No condition. -/
import Derived.Test.YtppehdjfjigmmaaBFnExactLoopSize
namespace Go.Proofs.Ytppehdjfjigmmaa.Pure
open Go.RowKit Go.Proofs.Ytppehdjfjigmmaa.PA Go.Proofs.YtppehdjfjigmmaaW.PrintWords Go.Proofs.YtppehdjfjigmmaaW.PrintLast Go.Proofs.YtppehdjfjigmmaaW.PrintMore
open Go.Proofs.Ytppehdjfjigmmaa
set_option linter.unusedVariables false
set_option linter.unusedSimpArgs false
theorem FnExactLoopSize (l : List S35) (hq : l.length ≤ maxLen ∧ ∀ x ∈ l, (Lit.int .i64 x.f0).wf = true ∧ (Lit.int .i64 x.f1).wf = true) : ∃ k, laws_FnExactLoopSize.f k l = some true := by
  refine Geo.Ev.out ?_
  unfold laws_FnExactLoopSize.f
  by_cases hl : l.length ≤ 1048576
  · have hm : (l.map toP).length ≤ 1048576 := by rw [List.length_map]; exact hl
    simp only [szPtS_tells l hl, Option.bind_some]
    simp only [if_neg (show ¬ (1048576 - (l.length : Int) < 0) by omega)]
    refine Geo.Ev.bind (toPtS_tells hl) (Geo.Ev.bind (sLoopSize_tells _) (Geo.Ev.bind (toPtS_tells hl) ?_))
    simp only [iLoopSize_tells, Option.bind_some, if_true]
    exact Geo.Ev.bind (toPtS_tells hl) (Geo.Ev.bind (eqPtS_self hm) (Geo.Ev.const rfl))
  · simp only [szPtS_far l hl hq.1, Option.bind_some]
    exact Geo.Ev.const rfl
end Go.Proofs.Ytppehdjfjigmmaa.Pure
