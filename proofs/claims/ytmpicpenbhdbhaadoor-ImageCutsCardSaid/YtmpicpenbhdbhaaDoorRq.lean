/- The kinds of the laws' parameters, and what is known of their values. -/
import Derived.Test.YtmpicpenbhdbhaaDoorRk
import Derived.Test.YtmpicpenbhdbhaaDoorPx0
namespace Go.Proofs.YtmpicpenbhdbhaaDoor.P
open Go.RowKit Go.Proofs.YtmpicpenbhdbhaaDoorW.PrintWords

def Q48 (x : S48) : Prop := x.f0.size ≤ 9223372036854775807 ∧ (Lit.int .u64 x.f1).wf = true
theorem o48 : Rk.Opens Tryd.prog 48 k48 Q48 :=
  Rk.opens_iso (fun p => ⟨p.1, p.2⟩) (fun _ => rfl) (Rk.opens_struct Tryd.underlying48 (l := [(9, 0), (46, 1)]) (by kernel_rfl) (by kernel_rfl) (Rk.fits_cons (Rk.opens_string Tryd.underlying9) (by kernel_rfl) (Rk.fits_one (Rk.opens_int Tryd.underlying46) (by kernel_rfl))))
def Q24 (x : S24) : Prop := (Lit.int .i64 x.f0).wf = true ∧ x.f1.size ≤ 9223372036854775807
theorem o24 : Rk.Opens Tryd.prog 24 k24 Q24 :=
  Rk.opens_iso (fun p => ⟨p.1, p.2⟩) (fun _ => rfl) (Rk.opens_struct Tryd.underlying24 (l := [(3, 0), (9, 1)]) (by kernel_rfl) (by kernel_rfl) (Rk.fits_cons (Rk.opens_int Tryd.underlying3) (by kernel_rfl) (Rk.fits_one (Rk.opens_string Tryd.underlying9) (by kernel_rfl))))
def Q27 (x : S27) : Prop := (x.f0.length ≤ 9223372036854775807 ∧ ∀ y0 ∈ x.f0, Q48 y0) ∧ Q24 x.f1 ∧ (Lit.int .u32 x.f2).wf = true ∧ True
theorem o27 : Rk.Opens Tryd.prog 27 k27 Q27 :=
  Rk.opens_iso (fun p => ⟨p.1, p.2.1, p.2.2.1, p.2.2.2⟩) (fun _ => rfl) (Rk.opens_struct Tryd.underlying27 (l := [(22, 0), (24, 1), (25, 3), (4, 4)]) (by kernel_rfl) (by kernel_rfl) (Rk.fits_cons (Rk.opens_slice Tryd.underlying22 (by kernel_rfl) o48) (by kernel_rfl) (Rk.fits_cons o24 (by kernel_rfl) (Rk.fits_cons (Rk.opens_int Tryd.underlying25) (by kernel_rfl) (Rk.fits_one (Rk.opens_bool Tryd.underlying4) (by kernel_rfl))))))
end Go.Proofs.YtmpicpenbhdbhaaDoor.P
