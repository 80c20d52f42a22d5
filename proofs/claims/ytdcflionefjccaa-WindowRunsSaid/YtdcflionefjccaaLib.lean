/- What the window's functions answer, in plain numbers. -/
import Derived.Test.YtdcflionefjccaaPx6
import Derived.Test.YtdcflionefjccaaPx4
import Derived.Test.YtdcflionefjccaaRq
import Derived.OpenShut
namespace Go.Proofs.Ytdcflionefjccaa.Pure
open Go.RowKit Go.Proofs.Ytdcflionefjccaa.P Go.Proofs.YtdcflionefjccaaW.PrintWords Go.Proofs.YtdcflionefjccaaW.PrintLast Go.Proofs.YtdcflionefjccaaW.PrintMore
set_option linter.unusedVariables false
set_option linter.unusedSimpArgs false

theorem wakes1 : headgatelaw23_wakes.f 1 = some true := by decide +kernel
theorem wakes_ok : ∀ k, headgatelaw23_wakes.f (k + 1) = some true
  | 0 => wakes1
  | k + 1 => headgatelaw23_wakes.mono (k + 1) _ (wakes_ok k)

theorem u32b {a : Int} (h : (Lit.int .u32 a).wf = true) : 0 ≤ a ∧ a < 4294967296 := by
  have := bounds_u32 h
  omega
theorem i64b {a : Int} (h : (Lit.int .i64 a).wf = true) : -9223372036854775808 ≤ a ∧ a < 9223372036854775808 := by
  have := bounds_i64 h
  omega

/-- What Take makes. -/
def tk (e o n : Int) (u : Bool) : Int × Int × Bool :=
  if 0 ≤ o ∧ o < 16 ∧ n = e then ((if u = true then e else (e + 1) % 4294967296), o + 1, true) else (e, o, false)

theorem take_spec (k : Nat) (e o n : Int) (u : Bool) : window_Take.f (k + 1) e o n u = some (tk e o n u) := by
  unfold window_Take.f tk
  by_cases h0 : o ≥ 0
  · rw [if_pos h0]
    by_cases h1 : o < 16
    · rw [if_pos h1]
      have hw : wrap64 (o + 1) = o + 1 := by unfold wrap64; omega
      have hn : (o + 1 == o) = false := by rw [beq_eq_false_iff_ne]; omega
      by_cases h2 : n = e
      · rw [if_pos ⟨h0, h1, h2⟩]
        subst h2
        simp only [beq_self_eq_true, window_Take.j0, if_true, hw, hn]
        cases u <;> simp
      · rw [if_neg (by omega)]
        have : (n == e) = false := by rw [beq_eq_false_iff_ne]; exact h2
        simp [this, window_Take.j0]
    · rw [if_neg h1, if_neg (by omega)]
      simp [window_Take.j0]
  · rw [if_neg h0, if_neg (by omega)]
    simp [window_Take.j0]

theorem ref_take_spec (k : Nat) (e o n : Int) (u : Bool) : headgateref23_Take.f (k + 1) e o n u = some (tk e o n u) := by
  unfold headgateref23_Take.f tk
  by_cases h0 : o < 0
  · rw [if_pos h0, if_neg (by omega)]
    simp [headgateref23_Take.j0]
  · rw [if_neg h0]
    by_cases h1 : o > 15
    · rw [if_pos h1, if_neg (by omega)]
      simp [headgateref23_Take.j0]
    · rw [if_neg h1]
      have hw : wrap64 (o + 1) = o + 1 := by unfold wrap64; omega
      by_cases h2 : n = e
      · rw [if_pos ⟨by omega, by omega, h2⟩]
        subst h2
        simp only [bne_self_eq_false, headgateref23_Take.j0, hw]
        cases u <;> simp
      · rw [if_neg (by omega)]
        have : (n != e) = true := by rw [bne_iff_ne]; exact h2
        simp [this, headgateref23_Take.j0]

/-- What Done makes. -/
def dn (e o : Int) : Int × Int × Bool := if 1 ≤ o ∧ o ≤ 16 then (e, o - 1, true) else (e, o, false)
theorem done_spec (e o : Int) : window_Done.f e o = some (dn e o) := by
  unfold window_Done.f dn
  by_cases h0 : o ≥ 1
  · rw [if_pos h0]
    by_cases h1 : o ≤ 16
    · have hw : wrap64 (o - 1) = o - 1 := by unfold wrap64; omega
      have hn : (o - 1 == o) = false := by rw [beq_eq_false_iff_ne]; omega
      rw [if_pos h1, if_pos ⟨h0, h1⟩, hw, hn]
      rfl
    · rw [if_neg h1, if_neg (by omega)]
  · rw [if_neg h0, if_neg (by omega)]
theorem ref_done_spec (e o : Int) : headgateref23_Done.f e o = some (dn e o) := by
  unfold headgateref23_Done.f dn
  by_cases h0 : o < 1
  · rw [if_pos h0, if_neg (by omega)]
  · rw [if_neg h0]
    by_cases h1 : o > 16
    · rw [if_pos h1, if_neg (by omega)]
    · have hw : wrap64 (o - 1) = o - 1 := by unfold wrap64; omega
      rw [if_neg h1, if_pos (by omega), hw]
def mst (e o : Int) : Int := (e + (15 - (mn (mx o 0) 16))) % 4294967296
theorem most_spec (e o : Int) : window_Most.f e o = some (mst e o) := by
  unfold window_Most.f mst mn mx
  congr 1
  repeat' split
  all_goals omega
theorem ref_most_spec (e o : Int) (he : 0 ≤ e ∧ e < 4294967296) : headgateref23_Most.f e o = some (mst e o) := by
  unfold headgateref23_Most.f mst
  have h1 : mn (mx o 0) 16 = mx 0 (mn o 16) := by unfold mx mn; repeat' split; all_goals omega
  have h2 : 0 ≤ mx 0 (mn o 16) ∧ mx 0 (mn o 16) ≤ 16 := by unfold mx mn; repeat' split; all_goals omega
  rw [h1]
  generalize mx 0 (mn o 16) = m at *
  have w1 : wrap64 e = e := by unfold wrap64; omega
  have w2 : wrap64 (e + 15) = e + 15 := by unfold wrap64; omega
  have w3 : wrap64 (e + 15 - m) = e + 15 - m := by unfold wrap64; omega
  have w4 : wrap64 (e + 15 - m + 4294967296) = e + 15 - m + 4294967296 := by unfold wrap64; omega
  rw [w1, w2, w3, w4, Int.tmod_eq_emod_of_nonneg (by omega)]
  congr 1
  omega
theorem mst_bounds (e o : Int) : 0 ≤ mst e o ∧ mst e o < 4294967296 := by unfold mst; omega
def bh (a b : Int) : Bool := decide ((a - b) % 4294967296 ≥ 1 ∧ (a - b) % 4294967296 ≤ 2147483647)
theorem behind_spec (a b : Int) : window_Behind.f a b = some (bh a b) := by
  unfold window_Behind.f bh wrap32
  congr 1
  rw [decide_eq_decide]
  omega
theorem ref_behind_spec (a b : Int) (ha : 0 ≤ a ∧ a < 4294967296) (hb : 0 ≤ b ∧ b < 4294967296) : headgateref23_Behind.f a b = some (bh a b) := by
  unfold headgateref23_Behind.f bh
  have w1 : wrap64 a = a := by unfold wrap64; omega
  have w2 : wrap64 b = b := by unfold wrap64; omega
  have w3 : wrap64 (a - b) = a - b := by unfold wrap64; omega
  have w4 : wrap64 (a - b + 4294967296) = a - b + 4294967296 := by unfold wrap64; omega
  rw [w1, w2, w3, w4, Int.tmod_eq_emod_of_nonneg (by omega)]
  have e : (a - b + 4294967296) % 4294967296 = (a - b) % 4294967296 := by omega
  rw [e]
  by_cases h : (a - b) % 4294967296 ≥ 1
  · rw [if_pos h]
    congr 1
    rw [decide_eq_decide]
    exact ⟨fun h' => ⟨h, h'⟩, fun h' => h'.2⟩
  · rw [if_neg h]
    congr 1
    symm
    rw [decide_eq_false_iff_not]
    exact fun h' => h h'.1
theorem own_spec (e o : Int) : headgatelaw23_own.f e o = some (e, o) := rfl
theorem same_spec (a b : Int × Int × Bool) (h : a = b) : headgatelaw23_same.f a.1 a.2.1 b.1 b.2.1 = some true := by
  subst h
  unfold headgatelaw23_same.f
  rw [if_pos rfl]
  simp
end Go.Proofs.Ytdcflionefjccaa.Pure
