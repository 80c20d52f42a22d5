/- The host of a made name is the host it was made of. -/
import Derived.Test.YtgphjijejoagcaaPx3
import Derived.Test.YtgphjijejoagcaaNamesMake
namespace Go.Proofs.Ytgphjijejoagcaa.Pure
open Go.RowKit Go.Proofs.Ytgphjijejoagcaa.P Go.Proofs.YtgphjijejoagcaaW.PrintWords Go.Proofs.YtgphjijejoagcaaW.PrintLast Go.Proofs.YtgphjijejoagcaaW.PrintMore Go.Proofs.Ytgphjijejoagcaa.Num
set_option linter.unusedVariables false
set_option linter.unusedSimpArgs false

theorem NamesBack (x0 : ByteArray) (h0 : x0.size ≤ 9223372036854775807) : ∃ k, headgatelaw03_NamesBack.f k x0 = some true := by
  refine ⟨100, ?_⟩
  unfold headgatelaw03_NamesBack.f
  rw [wakes_ok]
  split
  · rfl
  rw [AsIqn_spec, Option.bind_some, AsNqn_spec, Option.bind_some]
  cases h : asB x0
  · have e0 : (⟨#[]⟩ : ByteArray).toList = [] := by decide +kernel
    have e1 : ¬ ((30 : Int) = 0) := by decide
    simp only [Bool.false_eq_true, if_false]
    rw [if_neg e1, headgatelaw03_NamesBack.j0, if_pos rfl, if_pos rfl, if_pos rfl, if_pos e0, if_pos e0, wakes_ok]
    rfl
  · have e : ((0 : Int) != 0) = false := by decide
    rw [if_pos rfl, if_pos rfl, if_pos rfl, e, headgatelaw03_NamesBack.j0, if_neg (by decide), Host_spec, Host_spec, host_i x0 h, host_n x0 h, Option.bind_some, Option.bind_some, if_pos rfl, if_pos rfl, if_pos rfl, if_pos rfl, Iqn_spec, Nqn_spec, Iqn_spec, Nqn_spec, ii, nn, n_i, i_n, h, Option.bind_some, if_pos rfl, Option.bind_some, if_pos rfl, Option.bind_some, if_neg (by decide), Option.bind_some, if_neg (by decide), wakes_ok]
    rfl

end Go.Proofs.Ytgphjijejoagcaa.Pure
