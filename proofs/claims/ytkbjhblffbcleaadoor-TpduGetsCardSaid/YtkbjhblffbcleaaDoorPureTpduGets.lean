/- The law TpduGets: for every text the program's Get and the document's answer the same. No condition but the parameters' own sizes. -/
import Derived.Test.YtkbjhblffbcleaaDoorPx10
import Derived.Test.YtkbjhblffbcleaaDoorRq
import Derived.Test.YtkbjhblffbcleaaDoorTpduRefGet
import Derived.Test.YtkbjhblffbcleaaDoorTpduWakes
namespace Go.Proofs.YtkbjhblffbcleaaDoor.Pure
open Go.RowKit Go.Proofs.YtkbjhblffbcleaaDoor.P Go.Proofs.YtkbjhblffbcleaaDoorW.PrintWords Go.Proofs.YtkbjhblffbcleaaDoorW.PrintLast Go.Proofs.YtkbjhblffbcleaaDoorW.PrintMore Go.Proofs.YtkbjhblffbcleaaDoor.Num
set_option linter.unusedVariables false
set_option linter.unusedSimpArgs false

theorem same_self (a b : Int) (c d : ByteArray) : headgateref29_Same.f a b c d a b c d = some true := by
  unfold headgateref29_Same.f
  rw [if_pos rfl, if_pos rfl, if_pos rfl]
  simp


theorem TpduGets (x0 : ByteArray) (x1 : Bool) (x2 : Bool) (h0 : x0.size ≤ 9223372036854775807) : ∃ k, headgatelaw29_TpduGets.f k x0 x1 x2 = some true := by
  refine ⟨400000, ?_⟩
  unfold headgatelaw29_TpduGets.f
  by_cases hl : (x0.size : Int) > 20000
  · rw [if_pos hl, wakes_ok _ (by omega)]
    rfl
  · rw [if_neg hl, Get_spec _ _ _ _ (by omega) (by omega), Option.bind_some, ref_Get_spec _ _ _ _ (by omega) (by omega), Option.bind_some, same_self, Option.bind_some, if_pos rfl, if_pos rfl, if_pos rfl, wakes_ok _ (by omega)]
    rfl

end Go.Proofs.YtkbjhblffbcleaaDoor.Pure
