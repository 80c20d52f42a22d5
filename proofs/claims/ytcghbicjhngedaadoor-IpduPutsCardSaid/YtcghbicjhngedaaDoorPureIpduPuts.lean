/- What is sent of a message: the program and the document say the same of every message, with and without digests. -/
import Derived.Test.YtcghbicjhngedaaDoorPx6
import Derived.Test.YtcghbicjhngedaaDoorRq
import Derived.Test.YtcghbicjhngedaaDoorIpduWakes
namespace Go.Proofs.YtcghbicjhngedaaDoor.Pure
open Go.RowKit Go.Proofs.YtcghbicjhngedaaDoor.P Go.Proofs.YtcghbicjhngedaaDoorW.PrintWords Go.Proofs.YtcghbicjhngedaaDoorW.PrintLast Go.Proofs.YtcghbicjhngedaaDoorW.PrintMore Go.Proofs.YtcghbicjhngedaaDoor.Num
set_option linter.unusedVariables false
set_option linter.unusedSimpArgs false

theorem IpduPuts (x0 : S23) (x1 : Bool) (x2 : Bool) (h0 : Q23 x0) : ∃ k, headgatelaw20_IpduPuts.f k x0.f0 x0.f1 x1 x2 = some true := by
  refine ⟨40000, ?_⟩
  have hj : headgatelaw20_IpduPuts.j0 40000 x1 x2 true x0.f0 x0.f1 = some true := by
    rw [headgatelaw20_IpduPuts.j0, if_pos rfl, wakes_ok _ (by decide)]
    rfl
  unfold headgatelaw20_IpduPuts.f
  by_cases h1 : (x0.f0.size : Int) > 20000
  · rw [if_pos h1, hj]
  · rw [if_neg h1]
    by_cases h2 : (x0.f1.size : Int) > 20000
    · rw [decide_eq_true h2, hj]
    · rw [decide_eq_false h2, headgatelaw20_IpduPuts.j0, if_neg (by decide), Put_spec _ _ _ _ _ (by omega) (by omega) (by decide), Option.bind_some, ref_Put_spec _ _ _ _ _ (by omega) (by omega) (by decide), Option.bind_some, if_pos rfl, if_pos rfl, wakes_ok _ (by decide)]
      rfl

end Go.Proofs.YtcghbicjhngedaaDoor.Pure
