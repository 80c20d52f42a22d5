/- Name, Iqn, Nqn and Host of any text: the program and the document say the same. -/
import Derived.Test.YtgphjijejoagcaaPx3
import Derived.Test.YtgphjijejoagcaaNamesLib
namespace Go.Proofs.Ytgphjijejoagcaa.Pure
open Go.RowKit Go.Proofs.Ytgphjijejoagcaa.P Go.Proofs.YtgphjijejoagcaaW.PrintWords Go.Proofs.YtgphjijejoagcaaW.PrintLast Go.Proofs.YtgphjijejoagcaaW.PrintMore Go.Proofs.Ytgphjijejoagcaa.Num
set_option linter.unusedVariables false
set_option linter.unusedSimpArgs false

theorem NamesTells (x0 : ByteArray) (h0 : x0.size ≤ 9223372036854775807) : ∃ k, headgatelaw03_NamesTells.f k x0 = some true := by
  refine ⟨100, ?_⟩
  unfold headgatelaw03_NamesTells.f
  rw [wakes_ok]
  split
  · rfl
  rw [Host_spec, Option.bind_some, ref_Host_spec 100 x0 (by decide), Option.bind_some, ref_Name_spec 100 x0 (by decide), ref_Iqn_spec 100 x0 (by decide), ref_Nqn_spec 100 x0 (by decide), Iqn_spec, Nqn_spec]
  unfold names_Name.f
  rw [Option.bind_some, Option.bind_some, if_pos (beq_self_eq_true _), Option.bind_some, Option.bind_some, if_pos (beq_self_eq_true _), Option.bind_some, Option.bind_some, if_pos (beq_self_eq_true _), if_pos rfl, if_pos rfl]
  rfl

end Go.Proofs.Ytgphjijejoagcaa.Pure
