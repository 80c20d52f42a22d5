/- The small input of the laws of chapter 1 is answered. -/
import Derived.Test.YtkjdbdjbfoookaaRefFields
import Derived.OpenShut
import Derived.Test.YtkjdbdjbfoookaaPx1
namespace Go.Proofs.Ytkjdbdjbfoookaa.Pure
open Go.RowKit Go.Proofs.Ytkjdbdjbfoookaa.P Go.Proofs.YtkjdbdjbfoookaaW.PrintWords Go.Proofs.YtkjdbdjbfoookaaW.PrintLast Go.Proofs.YtkjdbdjbfoookaaW.PrintMore Go.Proofs.Ytkjdbdjbfoookaa.Num
set_option linter.unusedVariables false
set_option linter.unusedSimpArgs false
theorem wakes_ok (k : Nat) (hk : 10 < k) : headgatelaw01_wakes.f k = some true := by
  have z1 : (strOfNums (beL 258 (4 : Int).toNat)).data.toList = [0, 0, 1, 2] := by decide +kernel
  have z2 : fields_Pad.f (⟨#[97, 98]⟩ : ByteArray) 4 = some ⟨#[97, 98, 0, 0]⟩ := by decide +kernel
  have b1 : be (⟨#[1, 2, 3]⟩ : ByteArray) 1 (2 : Int).toNat = 515 := by decide +kernel
  have b2 : le (⟨#[1, 2, 3]⟩ : ByteArray) 1 (2 : Int).toNat = 770 := by decide +kernel
  have t1 : there (⟨#[1, 2, 3]⟩ : ByteArray) 1 2 = true := by decide +kernel
  unfold headgatelaw01_wakes.f
  rw [Big_spec _ _ _ (by decide) k hk, Little_spec _ _ _ (by decide) k hk, if_pos t1, if_pos t1, b1, b2, PutBig_spec _ _ k hk, if_pos (by omega), z2]
  simp only [Option.bind_some, ByteArray.toList_eq, z1, if_true]
  decide +kernel
end Go.Proofs.Ytkjdbdjbfoookaa.Pure
