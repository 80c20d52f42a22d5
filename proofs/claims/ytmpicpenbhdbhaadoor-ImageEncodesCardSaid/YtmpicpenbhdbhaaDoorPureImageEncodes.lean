/- The image of every table is the one that the document tells, or there is none. -/
import Derived.Test.YtmpicpenbhdbhaaDoorPx9
import Derived.Test.YtmpicpenbhdbhaaDoorRq
import Derived.Test.YtmpicpenbhdbhaaDoorImageWakes
import Derived.Test.YtmpicpenbhdbhaaDoorImageRef
namespace Go.Proofs.YtmpicpenbhdbhaaDoor.Pure
open Go.RowKit Go.Proofs.YtmpicpenbhdbhaaDoor.P Go.Proofs.YtmpicpenbhdbhaaDoorW.PrintWords Go.Proofs.YtmpicpenbhdbhaaDoorW.PrintLast Go.Proofs.YtmpicpenbhdbhaaDoorW.PrintMore Go.Proofs.YtmpicpenbhdbhaaDoor.Num
set_option linter.unusedVariables false
set_option linter.unusedSimpArgs false

theorem ImageEncodes (x0 : S27) (h0 : Q27 x0) : ∃ k, headgatelaw12_ImageEncodes.f k x0.f0 x0.f1.f0 x0.f1.f1 x0.f2 x0.f3 = some true := by
  have hw := wide_of h0
  refine ⟨8000, ?_⟩
  obtain ⟨z, hz, hzl⟩ := Large_spec 8000 x0.f0 x0.f1.f0 x0.f1.f1 x0.f2 x0.f3 (by decide)
  unfold headgatelaw12_ImageEncodes.f
  rw [hz, Option.bind_some, wakes_ok _ (by decide)]
  cases z with
  | true => rw [if_pos rfl]; rfl
  | false =>
    obtain ⟨hl, ho, hx⟩ := hzl rfl
    obtain ⟨t, ht, hti⟩ := Tables_spec 8000 x0.f0 x0.f1.f0 x0.f1.f1 x0.f2 x0.f3 x0.f0 x0.f1.f0 x0.f1.f1 x0.f2 x0.f3 (by omega) (by decide)
    rw [if_neg (by decide), Copy_spec _ _ _ _ _ hl, Option.bind_some]
    dsimp only
    rw [Encode_spec _ _ _ _ _ (by omega) (fun x h => by have := hx x h; omega) hw 8000 (by decide), Option.bind_some, ref_Encode_spec _ _ _ _ _ hw 8000 (by decide), Option.bind_some, if_pos rfl, if_pos rfl, ht, Option.bind_some, if_pos (hti.mpr ⟨rfl, rfl, rfl, rfl, rfl⟩)]
    rfl

end Go.Proofs.YtmpicpenbhdbhaaDoor.Pure
