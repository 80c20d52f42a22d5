/- The bytes of every number, either way: the program and the document answer the same, for every number and every number of bytes. -/
import Derived.Test.YtkjdbdjbfoookaaPx3
import Derived.Test.YtkjdbdjbfoookaaRq
import Derived.Test.YtkjdbdjbfoookaaRefFields
import Derived.Test.YtkjdbdjbfoookaaFieldsWakes
namespace Go.Proofs.Ytkjdbdjbfoookaa.Pure
open Go.RowKit Go.Proofs.Ytkjdbdjbfoookaa.P Go.Proofs.YtkjdbdjbfoookaaW.PrintWords Go.Proofs.YtkjdbdjbfoookaaW.PrintLast Go.Proofs.YtkjdbdjbfoookaaW.PrintMore Go.Proofs.Ytkjdbdjbfoookaa.Num
set_option linter.unusedVariables false
set_option linter.unusedSimpArgs false

theorem FieldsWrites (x0 : Int) (x1 : Int) (h0 : (Lit.int .u64 x0).wf = true) (h1 : (Lit.int .i64 x1).wf = true) : ∃ k, headgatelaw01_FieldsWrites.f k x0 x1 = some true := by
  refine ⟨11, ?_⟩
  have h := bounds_u64 h0
  unfold headgatelaw01_FieldsWrites.f
  rw [wakes_ok 11 (by omega), PutBig_spec x0 x1 _ (by omega), ref_PutBig_spec x0 x1 h.1 (by omega) _ (by omega), PutLittle_spec x0 x1 _ (by omega), ref_PutLittle_spec x0 x1 h.1 (by omega) _ (by omega)]
  simp only [Option.bind_some, if_true]

end Go.Proofs.Ytkjdbdjbfoookaa.Pure
