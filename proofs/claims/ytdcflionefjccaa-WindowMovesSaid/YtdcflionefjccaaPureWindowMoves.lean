/- The greatest number stays where a command is taken, goes back by one with an urgent one, and on by one with each that is done: for every window. -/
import Derived.Test.YtdcflionefjccaaPx7
import Derived.Test.YtdcflionefjccaaRq
import Derived.Test.YtdcflionefjccaaLib
namespace Go.Proofs.Ytdcflionefjccaa.Pure
open Go.RowKit Go.Proofs.Ytdcflionefjccaa.P Go.Proofs.YtdcflionefjccaaW.PrintWords Go.Proofs.YtdcflionefjccaaW.PrintLast Go.Proofs.YtdcflionefjccaaW.PrintMore
set_option linter.unusedVariables false
set_option linter.unusedSimpArgs false

theorem mst_in (e o : Int) (h : 0 ≤ o ∧ o ≤ 16) : mst e o = (e + 15 - o) % 4294967296 := by
  have : mn (mx o 0) 16 = o := by unfold mn mx; repeat' split; all_goals omega
  unfold mst
  rw [this]
  congr 1
  omega

theorem j1_ok (u : Bool) (n e o e' m : Int) (he : 0 ≤ e ∧ e < 4294967296) (ho : 0 ≤ o ∧ o < 16) (he' : e' = if u = true then e else (e + 1) % 4294967296)
    (hm : m = mst e' (o + 1)) (hn : -9223372036854775808 ≤ n ∧ n < 9223372036854775808) :
    headgatelaw23_WindowMoves.j1 2 u n true m e o e' (o + 1) = some true := by
  have hmod : ((e + 1 + ((wrap64 (Int.tmod n 1000 + 1000)) % 4294967296) % 1000) % 4294967296) ≠ e := by
    have : 0 ≤ ((wrap64 (Int.tmod n 1000 + 1000)) % 4294967296) % 1000 ∧ ((wrap64 (Int.tmod n 1000 + 1000)) % 4294967296) % 1000 < 1000 := by omega
    omega
  have hmod2 : (((e + 1) % 4294967296 + ((wrap64 (Int.tmod n 1000 + 1000)) % 4294967296) % 1000) % 4294967296) ≠ e := by
    have : 0 ≤ ((wrap64 (Int.tmod n 1000 + 1000)) % 4294967296) % 1000 ∧ ((wrap64 (Int.tmod n 1000 + 1000)) % 4294967296) % 1000 < 1000 := by omega
    omega
  have hd : dn e' (o + 1) = (e', o, true) := by
    unfold dn
    rw [if_pos (by omega)]
    congr 2
    omega
  have ht : ∀ x, x ≠ e → tk e o x u = (e, o, false) := fun x hx => by unfold tk; rw [if_neg (by omega)]
  have h3 : mst e' o = (m + 1) % 4294967296 := by
    rw [hm, mst_in _ _ (by omega), mst_in _ _ (by omega)]
    omega
  simp only [headgatelaw23_WindowMoves.j1, done_spec, take_spec 0, hd, Option.bind_some, ht _ hmod2, if_true, Bool.false_eq_true, if_false, most_spec, ← hm, h3, wakes_ok 0]

theorem WindowMoves (x0 : S27) (x1 : Bool) (x2 : Int) (h0 : Q27 x0) (h2 : (Lit.int .i64 x2).wf = true) : ∃ k, headgatelaw23_WindowMoves.f k x0.f0 x0.f1 x1 x2 = some true := by
  refine ⟨3, ?_⟩
  have he := u32b h0.1
  have hn := i64b h2
  generalize x0.f0 = e at *
  generalize x0.f1 = o at *
  unfold headgatelaw23_WindowMoves.f
  by_cases hin : 0 ≤ o ∧ o < 16
  · rw [if_neg (by omega), show decide (o ≥ 16) = false from decide_eq_false (by omega)]
    have ht : tk e o e x1 = ((if x1 = true then e else (e + 1) % 4294967296), o + 1, true) := by
      unfold tk
      rw [if_pos ⟨hin.1, hin.2, rfl⟩]
    simp only [headgatelaw23_WindowMoves.j0, Bool.false_eq_true, if_false, take_spec 1, ht, Option.bind_some, most_spec]
    cases x1 with
    | true =>
      simp only [if_true]
      refine j1_ok true x2 e o e _ he hin (by simp) ?_ hn
      rw [mst_in _ _ (by omega), mst_in _ _ (by omega)]
      omega
    | false =>
      simp only [Bool.false_eq_true, if_false]
      refine j1_ok false x2 e o _ _ he hin (by simp) ?_ hn
      rw [mst_in _ _ (by omega), mst_in _ _ (by omega)]
      omega
  · have ht : tk e o e x1 = (e, o, false) := by
      unfold tk
      rw [if_neg (by omega)]
    have hj : headgatelaw23_WindowMoves.j0 3 x1 x2 true e o = some true := by
      simp only [headgatelaw23_WindowMoves.j0, if_true, take_spec 1, ht, Option.bind_some, Bool.false_eq_true, if_false, wakes_ok 1]
    by_cases h : o < 0
    · rw [if_pos h]
      exact hj
    · rw [if_neg h, show decide (o ≥ 16) = true from decide_eq_true (by omega)]
      exact hj

end Go.Proofs.Ytdcflionefjccaa.Pure
