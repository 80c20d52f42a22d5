/- The number of any bytes anywhere in a text, either way: the program and the document answer the same, for every text, place and number of bytes. -/
import Derived.Test.YtkjdbdjbfoookaaPx2
import Derived.Test.YtkjdbdjbfoookaaRq
import Derived.Test.YtkjdbdjbfoookaaRefFields
import Derived.Test.YtkjdbdjbfoookaaFieldsWakes
namespace Go.Proofs.Ytkjdbdjbfoookaa.Pure
open Go.RowKit Go.Proofs.Ytkjdbdjbfoookaa.P Go.Proofs.YtkjdbdjbfoookaaW.PrintWords Go.Proofs.YtkjdbdjbfoookaaW.PrintLast Go.Proofs.YtkjdbdjbfoookaaW.PrintMore Go.Proofs.Ytkjdbdjbfoookaa.Num
set_option linter.unusedVariables false
set_option linter.unusedSimpArgs false

theorem FieldsReads (x0 : ByteArray) (x1 : Int) (x2 : Int) (h0 : x0.size ≤ 9223372036854775807) (h1 : (Lit.int .i64 x1).wf = true) (h2 : (Lit.int .i64 x2).wf = true) : ∃ k, headgatelaw01_FieldsReads.f k x0 x1 x2 = some true := by
  refine ⟨11, ?_⟩
  unfold headgatelaw01_FieldsReads.f
  rw [wakes_ok 11 (by omega)]
  by_cases hs : (x0.size : Int) > 100000
  · rw [if_pos hs]
    rfl
  · rw [if_neg hs, Big_spec x0 x1 x2 (by omega) _ (by omega), ref_Big_spec x0 x1 x2 (by omega) _ (by omega), Little_spec x0 x1 x2 (by omega) _ (by omega), ref_Little_spec x0 x1 x2 (by omega) _ (by omega)]
    simp only [Option.bind_some, beq_self_eq_true, if_true]

end Go.Proofs.Ytkjdbdjbfoookaa.Pure
