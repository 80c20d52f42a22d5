/- The small input that each statement asks first: it is answered. -/
import Derived.Test.YtkbjhblffbcleaaDoorTpduGet
import Derived.Test.YtkbjhblffbcleaaDoorPx5
namespace Go.Proofs.YtkbjhblffbcleaaDoor.Pure
open Go.RowKit Go.Proofs.YtkbjhblffbcleaaDoor.P Go.Proofs.YtkbjhblffbcleaaDoorW.PrintWords Go.Proofs.YtkbjhblffbcleaaDoorW.PrintLast Go.Proofs.YtkbjhblffbcleaaDoorW.PrintMore Go.Proofs.YtkbjhblffbcleaaDoor.Num
set_option linter.unusedVariables false
set_option linter.unusedSimpArgs false

def z16 : ByteArray := strOfNums (List.replicate 16 0)
def ab : ByteArray := ⟨#[97, 98]⟩
def more : ByteArray := ⟨#[109, 111, 114, 101]⟩
def sent : ByteArray := (putT 7 4 z16 ab true true).1
theorem wakes_one : (putT 5 0 z16 ⟨#[]⟩ false false).2 = 0 ∧ (putT 5 0 z16 ⟨#[]⟩ false false).1.size = 24 := by decide +kernel
theorem wakes_two : (putT 7 4 z16 ab true true).2 = 0 ∧ sent.size = 34 ∧ bt sent 1 = 7 ∧ bt sent 3 = 28 := by decide +kernel
theorem wakes_got : (getT (sent ++ more) true true).2.2.2.2.2 = 0 ∧ (getT (sent ++ more) true true).2.2.2.2.1 = 34 ∧ (getT (sent ++ more) true true).2.2.2.1.data.toList = [97, 98] ∧ (getT (sent ++ more) true true).2.1 = 4 := by decide +kernel
theorem wakes_ok (k : Nat) (hk : 60 ≤ k) : headgatelaw29_wakes.f k = some true := by
  obtain ⟨a1, a2⟩ := wakes_one
  obtain ⟨b1, b2, b3, b4⟩ := wakes_two
  obtain ⟨g1, g2, g3, g4⟩ := wakes_got
  have e : putT 7 4 z16 ab true true = (sent, 0) := Prod.ext rfl b1
  have z : (sent ++ more).size ≤ 100000 := by decide +kernel
  have p1 := Put_spec k 5 0 z16 ⟨#[]⟩ false false (by decide +kernel) (by decide) (by omega) (by decide) (by decide)
  have p2 := Put_spec k 7 4 z16 ab true true (by decide +kernel) (by decide +kernel) (by omega) (by decide) (by decide)
  have g := Get_spec k (sent ++ more) true true z (by omega)
  rw [e] at p2
  unfold headgatelaw29_wakes.f
  unfold z16 at p1 p2
  unfold ab at p2
  unfold more at g g1 g2 g3 g4
  unfold z16 at a1 a2
  rw [if_pos (by decide), p1, Option.bind_some, p2, Option.bind_some]
  dsimp only
  rw [if_pos (by omega), g, Option.bind_some, if_pos a1, if_pos rfl, if_pos g1, if_pos (by omega), if_pos (by omega), if_pos (by omega), if_pos b3, if_pos (by omega), if_pos b4, if_pos g2, if_pos (by rw [ByteArray.toList_eq]; exact g3), g4]
  rfl
end Go.Proofs.YtkbjhblffbcleaaDoor.Pure
