/- The message with which bytes begin: the program and the document read the same of all bytes, with and without digests. -/
import Derived.Test.YtcghbicjhngedaaDoorPx8
import Derived.Test.YtcghbicjhngedaaDoorRq
import Derived.Test.YtcghbicjhngedaaDoorIpduWakes
import Derived.Test.YtcghbicjhngedaaDoorIpduRefGet
namespace Go.Proofs.YtcghbicjhngedaaDoor.Pure
open Go.RowKit Go.Proofs.YtcghbicjhngedaaDoor.P Go.Proofs.YtcghbicjhngedaaDoorW.PrintWords Go.Proofs.YtcghbicjhngedaaDoorW.PrintLast Go.Proofs.YtcghbicjhngedaaDoorW.PrintMore Go.Proofs.YtcghbicjhngedaaDoor.Num
set_option linter.unusedVariables false
set_option linter.unusedSimpArgs false

theorem IpduGets (x0 : ByteArray) (x1 : Bool) (x2 : Bool) (h0 : x0.size ≤ 9223372036854775807) : ∃ k, headgatelaw20_IpduGets.f k x0 x1 x2 = some true := by
  refine ⟨150000, ?_⟩
  unfold headgatelaw20_IpduGets.f
  by_cases h1 : (x0.size : Int) > 20000
  · rw [if_pos h1, wakes_ok _ (by decide)]
    rfl
  · rw [if_neg h1, Get_spec _ _ _ _ (by omega) (by decide), Option.bind_some, ref_Get_spec _ _ _ _ (by omega) (by decide), Option.bind_some, headgateref20_Same.f, if_pos rfl, Option.bind_some, wakes_ok _ (by decide)]
    simp

end Go.Proofs.YtcghbicjhngedaaDoor.Pure
