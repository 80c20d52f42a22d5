/- The kinds of the laws' parameters, and what is known of their values. -/
import Derived.Test.YtfglkgaaafohjaaDoorRk
import Derived.Test.YtfglkgaaafohjaaDoorPx0
namespace Go.Proofs.YtfglkgaaafohjaaDoor.P
open Go.RowKit Go.Proofs.YtfglkgaaafohjaaDoorW.PrintWords

def Q30 (x : S30) : Prop := (Lit.int .u8 x.f0).wf = true ∧ (Lit.int .u8 x.f1).wf = true
theorem o30 : Rk.Opens Tryd.prog 30 k30 Q30 :=
  Rk.opens_iso (fun p => ⟨p.1, p.2⟩) (fun _ => rfl) (Rk.opens_array Tryd.underlying30 (l := [(5, 0), (5, 1)]) (by kernel_rfl) (by kernel_rfl) (Rk.fits_cons (Rk.opens_int Tryd.underlying5) (by kernel_rfl) (Rk.fits_one (Rk.opens_int Tryd.underlying5) (by kernel_rfl))))
end Go.Proofs.YtfglkgaaafohjaaDoor.P
