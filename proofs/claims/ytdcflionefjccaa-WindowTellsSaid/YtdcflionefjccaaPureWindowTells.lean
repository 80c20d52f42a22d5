/- Which numbers are behind others, the greatest one, and which are in a window: the program's and the document's answers are the same, for every two numbers of 32 bits and every window. -/
import Derived.Test.YtdcflionefjccaaPx4
import Derived.Test.YtdcflionefjccaaRq
import Derived.Test.YtdcflionefjccaaLib
namespace Go.Proofs.Ytdcflionefjccaa.Pure
open Go.RowKit Go.Proofs.Ytdcflionefjccaa.P Go.Proofs.YtdcflionefjccaaW.PrintWords Go.Proofs.YtdcflionefjccaaW.PrintLast Go.Proofs.YtdcflionefjccaaW.PrintMore
set_option linter.unusedVariables false
set_option linter.unusedSimpArgs false

theorem within_spec (e o n : Int) (he : 0 ≤ e ∧ e < 4294967296) (hn : 0 ≤ n ∧ n < 4294967296) : headgateref23_Within.f e o n = window_Within.f e o n := by
  unfold headgateref23_Within.f window_Within.f
  rw [ref_behind_spec e n he hn, ref_most_spec e o he, behind_spec, most_spec]
  simp only [Option.bind_some]
  rw [ref_behind_spec n _ hn (mst_bounds e o), behind_spec]

theorem within_some (e o n : Int) : ∃ b, window_Within.f e o n = some b := by
  unfold window_Within.f
  rw [behind_spec, most_spec]
  simp only [Option.bind_some, behind_spec]
  split <;> exact ⟨_, rfl⟩

theorem WindowTells (x0 : Int) (x1 : Int) (x2 : S27) (h0 : (Lit.int .u32 x0).wf = true) (h1 : (Lit.int .u32 x1).wf = true) (h2 : Q27 x2) : ∃ k, headgatelaw23_WindowTells.f k x0 x1 x2.f0 x2.f1 = some true := by
  refine ⟨1, ?_⟩
  have a := u32b h0
  have b := u32b h1
  have c := u32b h2.1
  unfold headgatelaw23_WindowTells.f
  obtain ⟨r, hr⟩ := within_some x2.f0 x2.f1 x0
  rw [behind_spec, ref_behind_spec x0 x1 a b, most_spec, own_spec]
  simp only [Option.bind_some, ref_most_spec _ _ c, within_spec _ _ _ c a, hr, wakes_ok 0, beq_self_eq_true, if_true]

end Go.Proofs.Ytdcflionefjccaa.Pure
