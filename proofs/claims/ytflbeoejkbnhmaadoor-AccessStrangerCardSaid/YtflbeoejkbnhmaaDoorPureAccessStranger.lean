/- What one who is neither registered nor the holder may do: under every reservation just what the document grants. -/
import Derived.Test.YtflbeoejkbnhmaaDoorPx5
import Derived.Test.YtflbeoejkbnhmaaDoorRq
import Derived.Test.YtflbeoejkbnhmaaDoorAccessLib
namespace Go.Proofs.YtflbeoejkbnhmaaDoor.Pure
open Go.RowKit Go.Proofs.YtflbeoejkbnhmaaDoor.P Go.Proofs.YtflbeoejkbnhmaaDoorW.PrintWords Go.Proofs.YtflbeoejkbnhmaaDoorW.PrintLast Go.Proofs.YtflbeoejkbnhmaaDoorW.PrintMore Go.Proofs.YtflbeoejkbnhmaaDoor.Num
set_option linter.unusedVariables false
set_option linter.unusedSimpArgs false

theorem AccessStranger (x0 : S27) (x1 : ByteArray) (h0 : Q27 x0) (h1 : x1.size ≤ 9223372036854775807) : ∃ k, headgatelaw10_AccessStranger.f k x0.f0 x0.f1.f0 x0.f1.f1 x0.f2 x0.f3 x1 = some true := by
  refine ⟨400, ?_⟩
  obtain ⟨z, hz, hzl⟩ := Large_spec 400 x0.f0 x0.f1.f0 x0.f1.f1 x0.f2 x0.f3 (by decide)
  have hj : headgatelaw10_AccessStranger.j0 400 x1 true x0.f0 x0.f1.f0 x0.f1.f1 x0.f2 x0.f3 = some true := by
    rw [headgatelaw10_AccessStranger.j0, if_pos rfl, wakes_ok _ (by decide)]
    rfl
  unfold headgatelaw10_AccessStranger.f
  rw [hz, Option.bind_some]
  cases z with
  | true => rw [if_pos rfl, hj]
  | false =>
    rw [if_neg (by decide)]
    have hl := hzl rfl
    by_cases hs : (x1.size : Int) > 1000
    · rw [if_pos hs, hj]
    · rw [if_neg hs, ref_spec _ _ _ _ _ _ _ (by omega) (by decide), Option.bind_some]
      cases hr : reg x0.f0 x1 with
      | true => rw [if_pos rfl, hj]
      | false =>
        rw [if_neg (by decide), refType_spec, Option.bind_some]
        cases ht : typed x0.f1.f0 with
        | false => rw [if_neg (by decide), hj]
        | true =>
          rw [if_pos rfl]
          cases ho : (x0.f1.f1.toList == x1.toList) with
          | true => exact hj
          | false =>
            have hne : ¬ x1.toList = x0.f1.f1.toList := fun h => by rw [h] at ho; simp at ho
            have hm : ∀ c, access_May.f 399 x0.f0 x0.f1.f0 x0.f1.f1 x0.f2 x0.f3 x1 c = some (may x0.f0 x0.f1.f0 x0.f1.f1 x1 c) := fun c => May_spec _ _ _ _ _ _ _ _ (by omega) (by decide)
            have hh : holds x0.f0 x0.f1.f0 x0.f1.f1 x1 = false := by
              unfold holds
              rw [hr, decide_eq_false hne, if_pos ht]
              split <;> rfl
            rw [headgatelaw10_AccessStranger.j0, if_neg (by decide), Copy_spec _ _ _ _ _ hl, Option.bind_some]
            simp only [hm, Option.bind_some, wakes_ok 399 (by decide)]
            unfold may
            rw [hh, hr]
            simp only [ht]
            rcases typed_cases ht with h | h | h | h | h | h <;> rw [h] <;> decide +kernel

end Go.Proofs.YtflbeoejkbnhmaaDoor.Pure
