/- Which digests are right: the program says of a text and a digest just what the document says, for every text and digest. -/
import Derived.Test.YtfglkgaaafohjaaDoorPx2
import Derived.Test.YtfglkgaaafohjaaDoorRq
import Derived.Test.YtfglkgaaafohjaaDoorCrcLib
import Derived.Test.YtfglkgaaafohjaaDoorCrcWakes
namespace Go.Proofs.YtfglkgaaafohjaaDoor.Pure
open Go.RowKit Go.Proofs.YtfglkgaaafohjaaDoor.P Go.Proofs.YtfglkgaaafohjaaDoorW.PrintWords Go.Proofs.YtfglkgaaafohjaaDoorW.PrintLast Go.Proofs.YtfglkgaaafohjaaDoorW.PrintMore Go.Proofs.YtfglkgaaafohjaaDoor.Num
set_option linter.unusedVariables false
set_option linter.unusedSimpArgs false

theorem CrcRight (x0 : ByteArray) (x1 : ByteArray) (h0 : x0.size ≤ 9223372036854775807) (h1 : x1.size ≤ 9223372036854775807) : ∃ k, headgatelaw02_CrcRight.f k x0 x1 = some true := by
  refine ⟨x0.size + 12, ?_⟩
  have hj : headgatelaw02_CrcRight.j0 (x0.size + 12) x0 x1 true = some true := by
    rw [headgatelaw02_CrcRight.j0, if_pos rfl, wakes_ok _ (by omega)]
    rfl
  unfold headgatelaw02_CrcRight.f
  by_cases hs : (x0.size : Int) > 20000
  · rw [if_pos hs, hj]
  · rw [if_neg hs]
    by_cases hd : (x1.size : Int) > 20000
    · rw [decide_eq_true hd, hj]
    · rw [decide_eq_false hd, headgatelaw02_CrcRight.j0, if_neg (by decide), Right_spec x0 x1 h0 _ (by omega), ref_Digest_spec x0 h0 _ (by omega), Digest_spec x0 h0 _ (by omega)]
      simp only [Option.bind_some, beq_self_eq_true, if_true]
      rw [Right_spec x0 _ h0 _ (by omega), wakes_ok _ (by omega)]
      simp

end Go.Proofs.YtfglkgaaafohjaaDoor.Pure
