/- FnExactLoopIn returns true at every points and point: the program's LoopIn returns what the reference's returns, and leaves its arguments as they were. No condition. -/
import Derived.Test.YtppehdjfjigmmaaBFnExactLoopIn
namespace Go.Proofs.Ytppehdjfjigmmaa.Pure
open Go.RowKit Go.Proofs.Ytppehdjfjigmmaa.PA Go.Proofs.YtppehdjfjigmmaaW.PrintWords Go.Proofs.YtppehdjfjigmmaaW.PrintLast Go.Proofs.YtppehdjfjigmmaaW.PrintMore
open Go.Proofs.Ytppehdjfjigmmaa
set_option linter.unusedVariables false
set_option linter.unusedSimpArgs false
theorem FnExactLoopIn (l : List S35) (hq : l.length ≤ maxLen ∧ ∀ x ∈ l, (Lit.int .i64 x.f0).wf = true ∧ (Lit.int .i64 x.f1).wf = true) (a b : Int) (_ : (Lit.int .i64 a).wf = true ∧ (Lit.int .i64 b).wf = true) : ∃ k, laws_FnExactLoopIn.f k l a b = some true := by
  refine Geo.Ev.out ?_
  unfold laws_FnExactLoopIn.f
  by_cases hl : l.length ≤ 1048576
  · have hm : (l.map toP).length ≤ 1048576 := by rw [List.length_map]; exact hl
    simp only [szPtS_tells l hl, Option.bind_some, toPt_tells]
    simp only [if_neg (show ¬ (1048576 - (l.length : Int) < 0) by omega)]
    refine Geo.Ev.bind (toPtS_tells hl) (Geo.Ev.bind (sLoopIn_tells _ _ _) (Geo.Ev.bind (toPtS_tells hl) ?_))
    simp only [iLoopIn_tells, Option.bind_some, if_true]
    exact Geo.Ev.bind (toPtS_tells hl) (Geo.Ev.bind (eqPtS_self hm) (Geo.Ev.const rfl))
  · simp only [szPtS_far l hl hq.1, Option.bind_some]
    exact Geo.Ev.const rfl
end Go.Proofs.Ytppehdjfjigmmaa.Pure
