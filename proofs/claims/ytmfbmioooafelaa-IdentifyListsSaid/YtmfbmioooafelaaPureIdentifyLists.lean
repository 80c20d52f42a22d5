/- The list of any units above any number: the program and the document say the same. -/
import Derived.Test.YtmfbmioooafelaaPx3
import Derived.Test.YtmfbmioooafelaaRq
import Derived.Test.YtmfbmioooafelaaIdentLib
namespace Go.Proofs.Ytmfbmioooafelaa.Pure
open Go.RowKit Go.Proofs.Ytmfbmioooafelaa.P Go.Proofs.YtmfbmioooafelaaW.PrintWords Go.Proofs.YtmfbmioooafelaaW.PrintLast Go.Proofs.YtmfbmioooafelaaW.PrintMore Go.Proofs.Ytmfbmioooafelaa.Num
set_option linter.unusedVariables false
set_option linter.unusedSimpArgs false

theorem IdentifyLists (x0 : Int) (x1 : Int) (h0 : (Lit.int .i64 x0).wf = true) (h1 : (Lit.int .i64 x1).wf = true) : ∃ k, headgatelaw26_IdentifyLists.f k x0 x1 = some true := by
  refine ⟨400, ?_⟩
  unfold headgatelaw26_IdentifyLists.f
  rw [List_spec 400 x0 x1 (by decide), Option.bind_some, ref_List_spec 400 x0 x1 (by decide), Option.bind_some, if_pos rfl, wakes_ok 400 (by decide)]
  rfl

end Go.Proofs.Ytmfbmioooafelaa.Pure
