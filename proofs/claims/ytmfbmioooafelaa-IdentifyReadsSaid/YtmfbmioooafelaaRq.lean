/- The kinds of the laws' parameters, and what is known of their values. -/
import Derived.Test.YtmfbmioooafelaaRk
import Derived.Test.YtmfbmioooafelaaPx0
namespace Go.Proofs.Ytmfbmioooafelaa.P
open Go.RowKit Go.Proofs.YtmfbmioooafelaaW.PrintWords

def Q26 (x : S26) : Prop := (Lit.int .i64 x.f0).wf = true ∧ x.f1.size ≤ 9223372036854775807
theorem o26 : Rk.Opens Try.prog 26 k26 Q26 :=
  Rk.opens_iso (fun p => ⟨p.1, p.2⟩) (fun _ => rfl) (Rk.opens_struct Try.underlying26 (l := [(3, 0), (9, 1)]) (by kernel_rfl) (by kernel_rfl) (Rk.fits_cons (Rk.opens_int Try.underlying3) (by kernel_rfl) (Rk.fits_one (Rk.opens_string Try.underlying9) (by kernel_rfl))))
end Go.Proofs.Ytmfbmioooafelaa.P
