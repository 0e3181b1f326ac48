/- The pure statement of PlanSums. -/
import Derived.Test.YtcikcikcjimcjaaPPlanSumsx7
namespace Go.Proofs.Ytcikcikcjimcjaa.PPlanSums
open Go.RowKit Go.Proofs.YtcikcikcjimcjaaW.PrintWords Go.Proofs.YtcikcikcjimcjaaW.PrintLast
def corbellaw13_PlanSums.Pure : Prop := ∀ (a0_0 : Int) (a0_1 : Int) (a0_2 : Int) (a0_3 : Int) (a0_4 : Int) (a1 : Int) (a2 : Int), ((Lit.int .i64 a0_0).wf = true) → ((Lit.int .i64 a0_1).wf = true) → ((Lit.int .i64 a0_2).wf = true) → ((Lit.int .i64 a0_3).wf = true) → ((Lit.int .i64 a0_4).wf = true) → ((Lit.int .i64 a1).wf = true) → ((Lit.int .i64 a2).wf = true) → ∃ k, corbellaw13_PlanSums.f k a0_0 a0_1 a0_2 a0_3 a0_4 a1 a2 = some true
end Go.Proofs.Ytcikcikcjimcjaa.PPlanSums
