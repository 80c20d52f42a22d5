/- The law TpduPuts: for every message and every choice of digests the program's Put and the document's answer the same, and heads have the same size. No condition but the parameters' own sizes. -/
import Derived.Test.YtkbjhblffbcleaaDoorPx13
import Derived.Test.YtkbjhblffbcleaaDoorRq
import Derived.Test.YtkbjhblffbcleaaDoorTpduRef
import Derived.Test.YtkbjhblffbcleaaDoorTpduWakes
namespace Go.Proofs.YtkbjhblffbcleaaDoor.Pure
open Go.RowKit Go.Proofs.YtkbjhblffbcleaaDoor.P Go.Proofs.YtkbjhblffbcleaaDoorW.PrintWords Go.Proofs.YtkbjhblffbcleaaDoorW.PrintLast Go.Proofs.YtkbjhblffbcleaaDoorW.PrintMore Go.Proofs.YtkbjhblffbcleaaDoor.Num
set_option linter.unusedVariables false
set_option linter.unusedSimpArgs false

theorem large_spec (t fl : Int) (H D : ByteArray) : headgatelaw29_large.f t fl H D = some (decide (H.size > 20000 ∨ D.size > 20000)) := by
  unfold headgatelaw29_large.f
  by_cases h1 : (H.size : Int) > 20000
  · rw [if_pos h1, decide_eq_true (Or.inl (by omega))]
  · rw [if_neg h1]
    congr 1
    rw [decide_eq_decide]
    constructor
    · intro h; exact Or.inr (by omega)
    · rintro (h | h) <;> omega

theorem i64_of {n : Int} (h : (Lit.int .i64 n).wf = true) : -9223372036854775808 ≤ n ∧ n < 9223372036854775808 := by
  simp [Lit.wf, IntKind.min, IntKind.max, IntKind.signed, IntKind.bits] at h
  omega


theorem TpduPuts (x0 : S24) (x1 : Bool) (x2 : Bool) (h0 : Q24 x0) : ∃ k, headgatelaw29_TpduPuts.f k x0.f0 x0.f1 x0.f2 x0.f3 x1 x2 = some true := by
  obtain ⟨q0, q1, q2, q3⟩ := h0
  have hf := i64_of q1
  refine ⟨400000, ?_⟩
  unfold headgatelaw29_TpduPuts.f
  rw [large_spec, Option.bind_some]
  by_cases hl : x0.f2.size > 20000 ∨ x0.f3.size > 20000
  · rw [decide_eq_true hl, if_pos rfl, wakes_ok _ (by omega)]
    rfl
  · obtain ⟨b, hF, hb⟩ := formOf_spec x0.f0
    rw [decide_eq_false hl, if_neg (by decide), Put_spec _ _ _ _ _ _ _ (by omega) (by omega) (by omega) hf.1 hf.2, Option.bind_some, ref_Put_spec _ _ _ _ _ _ _ (by omega) (by omega) (by omega) hf.1 hf.2, Option.bind_some, if_pos rfl, if_pos rfl]
    unfold tpdu_Size.f
    rw [hF, Option.bind_some, Option.bind_some, ref_Size_spec _ _ (by omega), Option.bind_some, if_pos rfl, wakes_ok _ (by omega)]
    rfl

end Go.Proofs.YtkbjhblffbcleaaDoor.Pure
