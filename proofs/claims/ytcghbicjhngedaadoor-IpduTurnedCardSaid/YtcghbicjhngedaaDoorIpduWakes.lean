/- The small input of the messages' laws is answered. -/
import Derived.Test.YtcghbicjhngedaaDoorIpduGet
import Derived.Test.YtcghbicjhngedaaDoorPx4
namespace Go.Proofs.YtcghbicjhngedaaDoor.Pure
open Go.RowKit Go.Proofs.YtcghbicjhngedaaDoor.P Go.Proofs.YtcghbicjhngedaaDoorW.PrintWords Go.Proofs.YtcghbicjhngedaaDoorW.PrintLast Go.Proofs.YtcghbicjhngedaaDoorW.PrintMore Go.Proofs.YtcghbicjhngedaaDoor.Num
set_option linter.unusedVariables false
set_option linter.unusedSimpArgs false

def seven : ByteArray := strOfNums ([64, 128] ++ List.replicate 14 0 ++ [0, 0, 0, 7] ++ List.replicate 28 0)
theorem Head_seven (k : Nat) (hk : 20 ≤ k) : ipdu_Head.f k 0 true 128 7 = some seven := by
  have p0 : fields_PutBig.f k (if true = true then (Go.bits .or .u64 (IntKind.u64.wrap (Go.bits .and .i64 0 63)) 64) else (IntKind.u64.wrap (Go.bits .and .i64 0 63))) 1 = some (strOfNums [64]) := by
    rw [PutBig_spec _ _ _ (by omega), if_pos (by decide)]
    exact congrArg some (by decide +kernel)
  have p1 : fields_PutBig.f k (IntKind.u64.wrap (Go.bits .and .i64 128 255)) 1 = some (strOfNums [128]) := by
    rw [PutBig_spec _ _ _ (by omega), if_pos (by decide)]
    exact congrArg some (by decide +kernel)
  have p2 : fields_PutBig.f k (IntKind.u64.wrap 7) 4 = some (strOfNums [0, 0, 0, 7]) := by
    rw [PutBig_spec _ _ _ (by omega), if_pos (by decide)]
    exact congrArg some (by decide +kernel)
  have s0 : fields_Set.f (strOfNums (List.replicate 48 0)) 0 (strOfNums [64]) = some ((setAt (strOfNums (List.replicate 48 0)) 0 (strOfNums [64])), true) := Set_at _ (strOfNums [64]) 0 (by decide +kernel) (by decide +kernel)
  have s1 : fields_Set.f (setAt (strOfNums (List.replicate 48 0)) 0 (strOfNums [64])) 1 (strOfNums [128]) = some ((setAt (setAt (strOfNums (List.replicate 48 0)) 0 (strOfNums [64])) 1 (strOfNums [128])), true) := Set_at _ (strOfNums [128]) 1 (by decide +kernel) (by decide +kernel)
  have s2 : fields_Set.f (setAt (setAt (strOfNums (List.replicate 48 0)) 0 (strOfNums [64])) 1 (strOfNums [128])) 16 (strOfNums [0, 0, 0, 7]) = some ((setAt (setAt (setAt (strOfNums (List.replicate 48 0)) 0 (strOfNums [64])) 1 (strOfNums [128])) 16 (strOfNums [0, 0, 0, 7])), true) := Set_at _ (strOfNums [0, 0, 0, 7]) 16 (by decide +kernel) (by decide +kernel)
  unfold ipdu_Head.f
  rw [p0, Option.bind_some, s0, Option.bind_some, p1, Option.bind_some]
  dsimp only
  rw [s1, Option.bind_some, p2, Option.bind_some]
  dsimp only
  rw [s2, Option.bind_some]
  exact congrArg some (by decide +kernel)
def sent : ByteArray := (putOf seven ⟨#[97, 98, 99]⟩ true true).1
def more : ByteArray := ⟨#[109, 111, 114, 101]⟩
theorem wakes_parts : (putOf seven ⟨#[97, 98, 99]⟩ true true).2 = 0 ∧ sent.size = 60 := by
  decide +kernel
theorem wakes_got : (getOf (sent ++ more) true true).2.2.2 = 0 ∧ (getOf (sent ++ more) true true).2.2.1 = 60 := by
  unfold getOf bodyOf
  simp only [ByteArray.toList_eq]
  decide +kernel
theorem wakes_data : (getOf (sent ++ more) true true).2.1 = ⟨#[97, 98, 99]⟩ ∧ (getOf (sent ++ more) true true).1.size = 48 ∧ be (getOf (sent ++ more) true true).1 16 4 = 7 := by
  unfold getOf bodyOf
  simp only [ByteArray.toList_eq]
  decide +kernel
theorem wakes_ok (k : Nat) (hk : 60 ≤ k) : headgatelaw20_wakes.f k = some true := by
  obtain ⟨w1, w2⟩ := wakes_parts
  obtain ⟨g1, g2⟩ := wakes_got
  obtain ⟨d1, d2, d3⟩ := wakes_data
  have e : (putOf seven ⟨#[97, 98, 99]⟩ true true) = (sent, 0) := Prod.ext rfl w1
  have z : (sent ++ more).size ≤ 100000 := by decide +kernel
  unfold headgatelaw20_wakes.f
  rw [Head_seven k (by omega), Option.bind_some, Put_spec k _ _ _ _ (by decide +kernel) (by decide +kernel) (by omega), Option.bind_some, e]
  dsimp only
  have hG := Get_spec k (sent ++ more) true true z (by omega)
  unfold more at hG g1 g2 d1 d2 d3
  rw [if_pos (by omega), hG, Option.bind_some, if_pos rfl, if_pos g1, if_pos (by omega), if_pos g2, if_pos (by rw [d1, ByteArray.toList_eq])]
  unfold ipdu_Tag.f ipdu_Num.f
  rw [Big_spec _ _ _ (by omega) k (by omega), if_pos (by unfold there; rw [decide_eq_true_eq]; omega), Option.bind_some, Option.bind_some, Option.bind_some, show (4 : Int).toNat = 4 from rfl, d3]
  rfl
end Go.Proofs.YtcghbicjhngedaaDoor.Pure
