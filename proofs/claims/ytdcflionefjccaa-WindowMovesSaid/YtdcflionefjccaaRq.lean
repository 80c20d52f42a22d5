/- The kinds of the laws' parameters, and what is known of their values. -/
import Derived.Test.YtdcflionefjccaaRk
import Derived.Test.YtdcflionefjccaaPx0
namespace Go.Proofs.Ytdcflionefjccaa.P
open Go.RowKit Go.Proofs.YtdcflionefjccaaW.PrintWords

def Q27 (x : S27) : Prop := (Lit.int .u32 x.f0).wf = true ∧ (Lit.int .i64 x.f1).wf = true
theorem o27 : Rk.Opens Try.prog 27 k27 Q27 :=
  Rk.opens_iso (fun p => ⟨p.1, p.2⟩) (fun _ => rfl) (Rk.opens_struct Try.underlying27 (l := [(22, 0), (3, 1)]) (by kernel_rfl) (by kernel_rfl) (Rk.fits_cons (Rk.opens_int Try.underlying22) (by kernel_rfl) (Rk.fits_one (Rk.opens_int Try.underlying3) (by kernel_rfl))))
end Go.Proofs.Ytdcflionefjccaa.P
