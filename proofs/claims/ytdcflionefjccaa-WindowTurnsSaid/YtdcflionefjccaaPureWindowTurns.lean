/- What a number that comes, and a command that is done, make of any window: the program's and the document's answers are the same, for every window and number. -/
import Derived.Test.YtdcflionefjccaaPx6
import Derived.Test.YtdcflionefjccaaRq
import Derived.Test.YtdcflionefjccaaLib
namespace Go.Proofs.Ytdcflionefjccaa.Pure
open Go.RowKit Go.Proofs.Ytdcflionefjccaa.P Go.Proofs.YtdcflionefjccaaW.PrintWords Go.Proofs.YtdcflionefjccaaW.PrintLast Go.Proofs.YtdcflionefjccaaW.PrintMore
set_option linter.unusedVariables false
set_option linter.unusedSimpArgs false

theorem WindowTurns (x0 : S27) (x1 : Int) (x2 : Bool) (h0 : Q27 x0) (h1 : (Lit.int .u32 x1).wf = true) : ∃ k, headgatelaw23_WindowTurns.f k x0.f0 x0.f1 x1 x2 = some true := by
  refine ⟨1, ?_⟩
  unfold headgatelaw23_WindowTurns.f
  simp only [take_spec 0, ref_take_spec 0, done_spec, ref_done_spec, own_spec, Option.bind_some, same_spec _ _ rfl, beq_self_eq_true, if_true, wakes_ok 0]

end Go.Proofs.Ytdcflionefjccaa.Pure
