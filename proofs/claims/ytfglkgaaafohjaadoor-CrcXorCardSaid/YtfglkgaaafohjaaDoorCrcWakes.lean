/- The small input of the crc's laws is answered. -/
import Derived.Test.YtfglkgaaafohjaaDoorCrcLib
import Derived.OpenShut
import Derived.Test.YtfglkgaaafohjaaDoorPx1
namespace Go.Proofs.YtfglkgaaafohjaaDoor.Pure
open Go.RowKit Go.Proofs.YtfglkgaaafohjaaDoor.P Go.Proofs.YtfglkgaaafohjaaDoorW.PrintWords Go.Proofs.YtfglkgaaafohjaaDoorW.PrintLast Go.Proofs.YtfglkgaaafohjaaDoorW.PrintMore Go.Proofs.YtfglkgaaafohjaaDoor.Num
set_option linter.unusedVariables false
set_option linter.unusedSimpArgs false
theorem wakes_ok (k : Nat) (hk : 10 < k) : headgatelaw02_wakes.f k = some true := by
  have z1 : Crc.more 0 (⟨#[]⟩ : ByteArray).data.toList = 0 := by decide
  have z2 : Crc.more 0 (⟨#[49, 50, 51, 52, 53, 54, 55, 56, 57]⟩ : ByteArray).data.toList = 3808858755 := by decide +kernel
  have z3 : Crc.more 0 (strOfNums (List.replicate 32 0)).data.toList = 2324772522 := by decide +kernel
  have z4 : (dig ⟨#[]⟩).data.toList = [0, 0, 0, 0] := by
    unfold dig
    rw [z1]
    decide +kernel
  unfold headgatelaw02_wakes.f
  rw [Sum_spec _ (by decide), Sum_spec _ (by decide), Sum_spec _ (by rw [strOfNums_size]; simp), z1, z2, z3, Right_spec _ _ (by decide) k hk]
  simp only [Option.bind_some, ByteArray.toList_eq, z4]
  decide +kernel
end Go.Proofs.YtfglkgaaafohjaaDoor.Pure
