/- The sum of any bytes, whole or on from another one, and its digest: the program and the document answer the same, for every text and sum. -/
import Derived.Test.YtfglkgaaafohjaaDoorPx2
import Derived.Test.YtfglkgaaafohjaaDoorRq
import Derived.Test.YtfglkgaaafohjaaDoorCrcLib
import Derived.Test.YtfglkgaaafohjaaDoorCrcWakes
namespace Go.Proofs.YtfglkgaaafohjaaDoor.Pure
open Go.RowKit Go.Proofs.YtfglkgaaafohjaaDoor.P Go.Proofs.YtfglkgaaafohjaaDoorW.PrintWords Go.Proofs.YtfglkgaaafohjaaDoorW.PrintLast Go.Proofs.YtfglkgaaafohjaaDoorW.PrintMore Go.Proofs.YtfglkgaaafohjaaDoor.Num
set_option linter.unusedVariables false
set_option linter.unusedSimpArgs false

theorem CrcSums (x0 : ByteArray) (x1 : Int) (h0 : x0.size ≤ 9223372036854775807) (h1 : (Lit.int .u32 x1).wf = true) : ∃ k, headgatelaw02_CrcSums.f k x0 x1 = some true := by
  refine ⟨x0.size + 11, ?_⟩
  have hw := bounds_u32 h1
  obtain ⟨w, rfl⟩ : ∃ w : Nat, x1 = w := ⟨x1.toNat, by omega⟩
  unfold headgatelaw02_CrcSums.f
  rw [wakes_ok _ (by omega)]
  by_cases hs : (x0.size : Int) > 20000
  · rw [if_pos hs]
    rfl
  · rw [if_neg hs, Sum_spec x0 h0, ref_Sum_spec x0 h0 _ (by omega), More_spec w x0 (by omega) h0, ref_More_spec w x0 (by omega) h0 _ (by omega), Digest_spec x0 h0 _ (by omega), ref_Digest_spec x0 h0 _ (by omega)]
    simp only [Option.bind_some, if_true]

end Go.Proofs.YtfglkgaaafohjaaDoor.Pure
