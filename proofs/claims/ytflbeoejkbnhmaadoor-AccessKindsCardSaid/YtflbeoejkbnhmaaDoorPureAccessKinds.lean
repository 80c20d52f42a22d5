/- What is a reservation, what reads, what changes: the program and the document answer the same for every number; none both reads and changes. -/
import Derived.Test.YtflbeoejkbnhmaaDoorPx5
import Derived.Test.YtflbeoejkbnhmaaDoorRq
import Derived.Test.YtflbeoejkbnhmaaDoorAccessLib
namespace Go.Proofs.YtflbeoejkbnhmaaDoor.Pure
open Go.RowKit Go.Proofs.YtflbeoejkbnhmaaDoor.P Go.Proofs.YtflbeoejkbnhmaaDoorW.PrintWords Go.Proofs.YtflbeoejkbnhmaaDoorW.PrintLast Go.Proofs.YtflbeoejkbnhmaaDoorW.PrintMore Go.Proofs.YtflbeoejkbnhmaaDoor.Num
set_option linter.unusedVariables false
set_option linter.unusedSimpArgs false

theorem AccessKinds (x0 : Int) (h0 : (Lit.int .i64 x0).wf = true) : ∃ k, headgatelaw10_AccessKinds.f k x0 = some true := by
  refine ⟨300, ?_⟩
  unfold headgatelaw10_AccessKinds.f
  rw [Type_spec, refType_spec, Changes_spec, refChanges_spec, wakes_ok _ (by decide)]
  have hc : changes 2 = false := by decide
  cases ht : typed x0 <;> cases hg : changes x0 <;> by_cases h2 : x0 = 2 <;>
    first
    | (subst h2; rw [hc] at hg; exact absurd hg (by decide))
    | (subst h2; rfl)
    | (have h2' : (x0 == 2) = false := beq_eq_false_iff_ne.mpr h2
       simp only [Option.bind_some, access_Reads.f, headgateref10_Reads.f, h2']
       rfl)

end Go.Proofs.YtflbeoejkbnhmaaDoor.Pure
