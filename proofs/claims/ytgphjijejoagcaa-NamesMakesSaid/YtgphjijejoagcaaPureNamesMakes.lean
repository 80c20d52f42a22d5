/- AsIqn and AsNqn of any host: the program and the document say the same. -/
import Derived.Test.YtgphjijejoagcaaPx3
import Derived.Test.YtgphjijejoagcaaNamesMake
namespace Go.Proofs.Ytgphjijejoagcaa.Pure
open Go.RowKit Go.Proofs.Ytgphjijejoagcaa.P Go.Proofs.YtgphjijejoagcaaW.PrintWords Go.Proofs.YtgphjijejoagcaaW.PrintLast Go.Proofs.YtgphjijejoagcaaW.PrintMore Go.Proofs.Ytgphjijejoagcaa.Num
set_option linter.unusedVariables false
set_option linter.unusedSimpArgs false

theorem NamesMakes (x0 : ByteArray) (h0 : x0.size ≤ 9223372036854775807) : ∃ k, headgatelaw03_NamesMakes.f k x0 = some true := by
  refine ⟨100, ?_⟩
  unfold headgatelaw03_NamesMakes.f
  rw [wakes_ok]
  split
  · rfl
  rw [AsIqn_spec, Option.bind_some, ref_AsIqn_spec 100 x0 (by decide) (by omega), Option.bind_some, AsNqn_spec, Option.bind_some, ref_AsNqn_spec 100 x0 (by decide) (by omega), Option.bind_some, if_pos rfl, if_pos rfl, if_pos rfl, if_pos rfl]
  rfl

end Go.Proofs.Ytgphjijejoagcaa.Pure
