/- The kinds of the laws' parameters, and what is known of their values. -/
import Derived.Test.YtcghbicjhngedaaDoorRk
import Derived.Test.YtcghbicjhngedaaDoorPx0
namespace Go.Proofs.YtcghbicjhngedaaDoor.P
open Go.RowKit Go.Proofs.YtcghbicjhngedaaDoorW.PrintWords

def Q23 (x : S23) : Prop := x.f0.size ≤ 9223372036854775807 ∧ x.f1.size ≤ 9223372036854775807
theorem o23 : Rk.Opens Tryd.prog 23 k23 Q23 :=
  Rk.opens_iso (fun p => ⟨p.1, p.2⟩) (fun _ => rfl) (Rk.opens_struct Tryd.underlying23 (l := [(9, 0), (9, 1)]) (by kernel_rfl) (by kernel_rfl) (Rk.fits_cons (Rk.opens_string Tryd.underlying9) (by kernel_rfl) (Rk.fits_one (Rk.opens_string Tryd.underlying9) (by kernel_rfl))))
def Q45 (x : S45) : Prop := (Lit.int .i64 x.f0).wf = true ∧ (Lit.int .i64 x.f1).wf = true ∧ (Lit.int .i64 x.f2).wf = true
theorem o45 : Rk.Opens Tryd.prog 45 k45 Q45 :=
  Rk.opens_iso (fun p => ⟨p.1, p.2.1, p.2.2⟩) (fun _ => rfl) (Rk.opens_array Tryd.underlying45 (l := [(3, 0), (3, 1), (3, 2)]) (by kernel_rfl) (by kernel_rfl) (Rk.fits_cons (Rk.opens_int Tryd.underlying3) (by kernel_rfl) (Rk.fits_cons (Rk.opens_int Tryd.underlying3) (by kernel_rfl) (Rk.fits_one (Rk.opens_int Tryd.underlying3) (by kernel_rfl)))))
end Go.Proofs.YtcghbicjhngedaaDoor.P
