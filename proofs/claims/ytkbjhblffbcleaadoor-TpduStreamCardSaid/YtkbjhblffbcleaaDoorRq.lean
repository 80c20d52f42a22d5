/- The kinds of the laws' parameters, and what is known of their values. -/
import Derived.Test.YtkbjhblffbcleaaDoorRk
import Derived.Test.YtkbjhblffbcleaaDoorPx0
namespace Go.Proofs.YtkbjhblffbcleaaDoor.P
open Go.RowKit Go.Proofs.YtkbjhblffbcleaaDoorW.PrintWords

def Q24 (x : S24) : Prop := (Lit.int .i64 x.f0).wf = true ∧ (Lit.int .i64 x.f1).wf = true ∧ x.f2.size ≤ 9223372036854775807 ∧ x.f3.size ≤ 9223372036854775807
theorem o24 : Rk.Opens Tryd.prog 24 k24 Q24 :=
  Rk.opens_iso (fun p => ⟨p.1, p.2.1, p.2.2.1, p.2.2.2⟩) (fun _ => rfl) (Rk.opens_struct Tryd.underlying24 (l := [(3, 0), (3, 1), (9, 2), (9, 3)]) (by kernel_rfl) (by kernel_rfl) (Rk.fits_cons (Rk.opens_int Tryd.underlying3) (by kernel_rfl) (Rk.fits_cons (Rk.opens_int Tryd.underlying3) (by kernel_rfl) (Rk.fits_cons (Rk.opens_string Tryd.underlying9) (by kernel_rfl) (Rk.fits_one (Rk.opens_string Tryd.underlying9) (by kernel_rfl))))))
end Go.Proofs.YtkbjhblffbcleaaDoor.P
