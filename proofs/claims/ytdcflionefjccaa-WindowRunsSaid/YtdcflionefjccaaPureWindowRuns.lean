/- Commands that are taken one behind the other and done in any order leave the window as it was, so many numbers further on: for every window and every list of takes and dones. -/
import Derived.Test.YtdcflionefjccaaPx8
import Derived.Test.YtdcflionefjccaaRq
import Derived.Test.YtdcflionefjccaaLib
namespace Go.Proofs.Ytdcflionefjccaa.Pure
open Go.RowKit Go.Proofs.Ytdcflionefjccaa.P Go.Proofs.YtdcflionefjccaaW.PrintWords Go.Proofs.YtdcflionefjccaaW.PrintLast Go.Proofs.YtdcflionefjccaaW.PrintMore
set_option linter.unusedVariables false
set_option linter.unusedSimpArgs false

theorem mst_at (e o : Int) (h : 0 ≤ o ∧ o ≤ 16) : mst e o = (e + 15 - o) % 4294967296 := by
  have : mn (mx o 0) 16 = o := by unfold mn mx; repeat' split; all_goals omega
  unfold mst
  rw [this]
  congr 1
  omega

theorem runs (l : List Bool) (f : Int) : ∀ (d k : Nat) (o m i : Int), 0 ≤ o ∧ o ≤ 16 → 0 ≤ m ∧ m < 4294967296 → 0 ≤ i → 200 - i ≤ d → 2 * d + 3 ≤ k →
    headgatelaw23_WindowRuns.l0 k l f o m i ((f + m) % 4294967296) o = some true := by
  intro d
  induction d with
  | zero =>
    intro k o m i ho hm hi hd hk
    obtain ⟨k, rfl⟩ : ∃ q, k = q + 3 := ⟨k - 3, by omega⟩
    have hg : decide (i < 200) = false := decide_eq_false (by omega)
    simp only [headgatelaw23_WindowRuns.l0, hg, headgatelaw23_WindowRuns.j1, Bool.false_eq_true, if_false, wakes_ok k, Option.bind_some, ite_self]
  | succ d ih =>
    intro k o m i ho hm hi hd hk
    obtain ⟨k, rfl⟩ : ∃ q, k = q + 4 := ⟨k - 4, by omega⟩
    by_cases hl : i < (l.length : Int)
    · by_cases hg : i < 200
      · have hw : wrap64 (i + 1) = i + 1 := by unfold wrap64; omega
        have hw1 : wrap64 (o + 1) = o + 1 := by unfold wrap64; omega
        have hw2 : wrap64 (o - 1) = o - 1 := by unfold wrap64; omega
        have hw3 : wrap64 (16 - o) = 16 - o := by unfold wrap64; omega
        have hw4 : wrap64 (16 - (o + 1)) = 16 - (o + 1) := by unfold wrap64; omega
        have hw5 : wrap64 (16 - (o - 1)) = 16 - (o - 1) := by unfold wrap64; omega
        rw [headgatelaw23_WindowRuns.l0, if_pos hl, decide_eq_true hg, headgatelaw23_WindowRuns.j1, if_pos rfl, if_pos hi, if_pos hl]
        by_cases hb : rdOf false l i = true
        · rw [if_pos hb, take_spec]
          simp only [Option.bind_some]
          by_cases h16 : o < 16
          · have ht : tk ((f + m) % 4294967296) o ((f + m) % 4294967296) false = ((f + (m + 1) % 4294967296) % 4294967296, o + 1, true) := by
              unfold tk
              rw [if_pos ⟨ho.1, h16, rfl⟩]
              simp only [Bool.false_eq_true, if_false, Prod.mk.injEq, and_true]
              omega
            simp only [ht, decide_eq_true h16, bne_self_eq_false, Bool.false_eq_true, if_false, if_true, hw1, most_spec, Option.bind_some, hw, hw4]
            rw [if_pos (by rw [mst_at _ _ (by omega)]; omega)]
            exact ih _ _ _ _ (by omega) (by omega) (by omega) (by omega) (by omega)
          · have ht : tk ((f + m) % 4294967296) o ((f + m) % 4294967296) false = ((f + m) % 4294967296, o, false) := by
              unfold tk
              rw [if_neg (by omega)]
            simp only [ht, decide_eq_false h16, bne_self_eq_false, Bool.false_eq_true, if_false, if_true, hw1, most_spec, Option.bind_some, hw, hw3]
            rw [if_pos (by rw [mst_at _ _ (by omega)]; omega)]
            exact ih _ _ _ _ (by omega) (by omega) (by omega) (by omega) (by omega)
        · rw [if_neg hb, done_spec]
          simp only [Option.bind_some]
          by_cases h0 : o > 0
          · have ht : dn ((f + m) % 4294967296) o = ((f + m) % 4294967296, o - 1, true) := by
              unfold dn
              rw [if_pos ⟨by omega, ho.2⟩]
            simp only [ht, decide_eq_true h0, bne_self_eq_false, Bool.false_eq_true, if_false, if_true, hw2, most_spec, Option.bind_some, hw, hw5]
            rw [if_pos (by rw [mst_at _ _ (by omega)]; omega)]
            exact ih _ _ _ _ (by omega) (by omega) (by omega) (by omega) (by omega)
          · have ht : dn ((f + m) % 4294967296) o = ((f + m) % 4294967296, o, false) := by
              unfold dn
              rw [if_neg (by omega)]
            simp only [ht, decide_eq_false h0, bne_self_eq_false, Bool.false_eq_true, if_false, if_true, hw2, most_spec, Option.bind_some, hw, hw3]
            rw [if_pos (by rw [mst_at _ _ (by omega)]; omega)]
            exact ih _ _ _ _ (by omega) (by omega) (by omega) (by omega) (by omega)
      · have hg' : decide (i < 200) = false := decide_eq_false hg
        simp only [headgatelaw23_WindowRuns.l0, if_pos hl, hg', headgatelaw23_WindowRuns.j1, Bool.false_eq_true, if_false, wakes_ok (k + 1), Option.bind_some]
    · simp only [headgatelaw23_WindowRuns.l0, if_neg hl, headgatelaw23_WindowRuns.j1, Bool.false_eq_true, if_false, wakes_ok (k + 1), Option.bind_some]

theorem WindowRuns (x0 : S27) (x1 : List Bool) (h0 : Q27 x0) (h1 : (x1.length ≤ 9223372036854775807 ∧ ∀ y0 ∈ x1, True)) : ∃ k, headgatelaw23_WindowRuns.f k x0.f0 x0.f1 x1 = some true := by
  refine ⟨403, ?_⟩
  have he := u32b h0.1
  unfold headgatelaw23_WindowRuns.f
  have := runs x1 x0.f0 200 403 0 0 0 (by omega) (by omega) (by omega) (by omega) (by omega)
  have e : (x0.f0 + 0) % 4294967296 = x0.f0 := by omega
  rw [e] at this
  exact this

end Go.Proofs.Ytdcflionefjccaa.Pure
