/- Of two numbers that differ one at most is behind the other one, and adding the same to both turns nothing: for every three numbers of 32 bits. -/
import Derived.Test.YtdcflionefjccaaPWindowOrderx2
namespace Go.Proofs.Ytdcflionefjccaa.Pure
open Go.RowKit Go.Proofs.Ytdcflionefjccaa.PWindowOrder Go.Proofs.YtdcflionefjccaaW.PrintWords Go.Proofs.YtdcflionefjccaaW.PrintLast Go.Proofs.YtdcflionefjccaaW.PrintMore

theorem wakes_ok : headgatelaw23_wakes.f 1 = some true := by decide +kernel

theorem behind_eq (a b : Int) : window_Behind.f a b = some (decide (wrap32 ((a - b) % 4294967296) > 0)) := rfl

theorem u32_bounds {a : Int} (h : (Lit.int .u32 a).wf = true) : 0 ≤ a ∧ a < 4294967296 := by
  simp [Lit.wf, IntKind.min, IntKind.max, IntKind.signed, IntKind.bits] at h
  omega

theorem j0_ok (a b y : Int) (ha : 0 ≤ a ∧ a < 4294967296) (hb : 0 ≤ b ∧ b < 4294967296) :
    headgatelaw23_WindowOrder.j0 2 a b y false = some true := by
  have e1 : decide (wrap32 (((a + y) % 4294967296 - (b + y) % 4294967296) % 4294967296) > 0) = decide (wrap32 ((a - b) % 4294967296) > 0) := by
    have : ((a + y) % 4294967296 - (b + y) % 4294967296) % 4294967296 = (a - b) % 4294967296 := by omega
    rw [this]
  simp only [headgatelaw23_WindowOrder.j0, behind_eq, Option.bind_some, e1, beq_self_eq_true, if_true, wakes_ok]
  simp only [Bool.false_eq_true, if_false]
  split
  · rfl
  · split
    · rfl
    · rename_i h1 h2
      rw [if_pos]
      unfold wrap32
      simp only [bne_iff_ne, ne_eq, decide_eq_decide]
      omega

theorem WindowOrder : headgatelaw23_WindowOrder.Pure := by
  intro a b y h0 h1 h2
  have ha := u32_bounds h0
  have hb := u32_bounds h1
  refine ⟨2, ?_⟩
  have e0 : window_Behind.f a a = some false := by
    simp only [behind_eq, Int.sub_self]; decide +kernel
  unfold headgatelaw23_WindowOrder.f
  rw [e0]
  simp only [Option.bind_some, j0_ok a b y ha hb, behind_eq]
  by_cases h : wrap32 ((a - b) % 4294967296) > 0
  · have h' : ¬ wrap32 ((b - a) % 4294967296) > 0 := by
      unfold wrap32 at *; omega
    simp [h, h']
  · simp [h]

end Go.Proofs.Ytdcflionefjccaa.Pure
