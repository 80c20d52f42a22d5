/- The kinds of the laws' parameters, and what is known of their values. -/
import Derived.Test.YtkjdbdjbfoookaaRk
import Derived.Test.YtkjdbdjbfoookaaPx0
namespace Go.Proofs.Ytkjdbdjbfoookaa.P
open Go.RowKit Go.Proofs.YtkjdbdjbfoookaaW.PrintWords

def Q35 (x : S35) : Prop := (Lit.int .i64 x.f0).wf = true ∧ (Lit.int .i64 x.f1).wf = true
theorem o35 : Rk.Opens Try.prog 35 k35 Q35 :=
  Rk.opens_iso (fun p => ⟨p.1, p.2⟩) (fun _ => rfl) (Rk.opens_array Try.underlying35 (l := [(3, 0), (3, 1)]) (by kernel_rfl) (by kernel_rfl) (Rk.fits_cons (Rk.opens_int Try.underlying3) (by kernel_rfl) (Rk.fits_one (Rk.opens_int Try.underlying3) (by kernel_rfl))))
end Go.Proofs.Ytkjdbdjbfoookaa.P
