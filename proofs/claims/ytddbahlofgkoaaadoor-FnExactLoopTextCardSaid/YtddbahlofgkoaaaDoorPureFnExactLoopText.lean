/- FnExactLoopText returns true at every points: the program's LoopText returns what the reference's returns, and leaves its argument as it was. No condition. -/
import Derived.Test.YtddbahlofgkoaaaDoorBFnExactLoopText
namespace Go.Proofs.YtddbahlofgkoaaaDoor.Pure
open Go.RowKit Go.Proofs.YtddbahlofgkoaaaDoor.PA Go.Proofs.YtddbahlofgkoaaaDoorW.PrintWords Go.Proofs.YtddbahlofgkoaaaDoorW.PrintLast Go.Proofs.YtddbahlofgkoaaaDoorW.PrintMore
open Go.Proofs.YtddbahlofgkoaaaDoor
set_option linter.unusedVariables false
set_option linter.unusedSimpArgs false
theorem FnExactLoopText (l : List S114) (hq : l.length ≤ maxLen ∧ ∀ x ∈ l, (Lit.int .i64 x.f0).wf = true ∧ (Lit.int .i64 x.f1).wf = true) : ∃ k, laws_FnExactLoopText.f k l = some true := by
  refine Geo.Ev.out ?_
  unfold laws_FnExactLoopText.f
  by_cases hl : l.length ≤ 1048576
  · have hm : (l.map toP).length ≤ 1048576 := by rw [List.length_map]; exact hl
    simp only [szPtS_tells l hl, Option.bind_some]
    simp only [if_neg (show ¬ (1048576 - (l.length : Int) < 0) by omega)]
    refine Geo.Ev.bind (toPtS_tells hl) (Geo.Ev.bind (sLoopText_tells _) (Geo.Ev.bind (toPtS_tells hl) ?_))
    simp only [iLoopText_tells, Option.bind_some, if_true]
    refine Geo.Ev.bind (toPtS_tells hl) (Geo.Ev.bind (eqPtS_self hm) ?_)
    simp only [if_true]
    exact Geo.Ev.const rfl
  · simp only [szPtS_far l hl hq.1, Option.bind_some]
    exact Geo.Ev.const rfl
end Go.Proofs.YtddbahlofgkoaaaDoor.Pure
