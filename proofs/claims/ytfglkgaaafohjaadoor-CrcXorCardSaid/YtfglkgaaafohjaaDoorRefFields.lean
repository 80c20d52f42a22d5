/- What the document's own functions of chapter 1 answer. -/
import Derived.Test.YtfglkgaaafohjaaDoorFieldsLib
namespace Go.Proofs.YtfglkgaaafohjaaDoor.Pure
open Go.RowKit Go.Proofs.YtfglkgaaafohjaaDoor.P Go.Proofs.YtfglkgaaafohjaaDoorW.PrintWords Go.Proofs.YtfglkgaaafohjaaDoorW.PrintLast Go.Proofs.YtfglkgaaafohjaaDoorW.PrintMore Go.Proofs.YtfglkgaaafohjaaDoor.Num
set_option linter.unusedVariables false
set_option linter.unusedSimpArgs false

theorem div_p (v : Int) (i : Nat) : v / p i / 256 = v / p (i + 1) := by
  rw [p_succ, Int.ediv_ediv_of_nonneg (by have := p_pos i; omega)]
theorem tdiv_v {v : Int} (h0 : 0 ≤ v) (h1 : v < 18446744073709551616) : IntKind.u64.wrap (Int.tdiv v 256) = v / 256 := by
  rw [Int.tdiv_eq_ediv_of_nonneg h0]
  exact u64_id (by omega) (by omega)
theorem tmod_v {v : Int} (h0 : 0 ≤ v) : Int.tmod v 256 % 256 = v % 256 := by
  rw [Int.tmod_eq_emod_of_nonneg h0]
  omega
theorem vdiv_bounds {v : Int} (i : Nat) (h0 : 0 ≤ v) (h1 : v < 18446744073709551616) : 0 ≤ v / p i ∧ v / p i < 18446744073709551616 := by
  have hp := p_pos i
  refine ⟨Int.ediv_nonneg h0 (by omega), ?_⟩
  have := Int.ediv_le_self (p i) h0
  omega
end Go.Proofs.YtfglkgaaafohjaaDoor.Pure
