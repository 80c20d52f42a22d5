/- Two tables that differ in anything have different images. -/
import Derived.Test.YtmpicpenbhdbhaaDoorPx12
import Derived.Test.YtmpicpenbhdbhaaDoorRq
import Derived.Test.YtmpicpenbhdbhaaDoorImageWakes
namespace Go.Proofs.YtmpicpenbhdbhaaDoor.Pure
open Go.RowKit Go.Proofs.YtmpicpenbhdbhaaDoor.P Go.Proofs.YtmpicpenbhdbhaaDoorW.PrintWords Go.Proofs.YtmpicpenbhdbhaaDoorW.PrintLast Go.Proofs.YtmpicpenbhdbhaaDoorW.PrintMore Go.Proofs.YtmpicpenbhdbhaaDoor.Num
set_option linter.unusedVariables false
set_option linter.unusedSimpArgs false

theorem ImageApart (x0 : S27) (x1 : S27) (h0 : Q27 x0) (h1 : Q27 x1) : ∃ k, headgatelaw12_ImageApart.f k x0.f0 x0.f1.f0 x0.f1.f1 x0.f2 x0.f3 x1.f0 x1.f1.f0 x1.f1.f1 x1.f2 x1.f3 = some true := by
  have hw := wide_of h0
  have hv := wide_of h1
  refine ⟨400, ?_⟩
  obtain ⟨z, hz, hzl⟩ := Large_spec 400 x0.f0 x0.f1.f0 x0.f1.f1 x0.f2 x0.f3 (by decide)
  obtain ⟨y, hy, hyl⟩ := Large_spec 400 x1.f0 x1.f1.f0 x1.f1.f1 x1.f2 x1.f3 (by decide)
  have hyes : headgatelaw12_ImageApart.j0 400 true x0.f0 x0.f1.f0 x0.f1.f1 x0.f2 x0.f3 x1.f0 x1.f1.f0 x1.f1.f1 x1.f2 x1.f3 = some true := by
    rw [headgatelaw12_ImageApart.j0, if_pos rfl, wakes_ok _ (by decide)]
    rfl
  unfold headgatelaw12_ImageApart.f
  rw [hz, Option.bind_some]
  cases z with
  | true => rw [if_pos rfl, hyes]
  | false =>
    obtain ⟨hl, ho, hx⟩ := hzl rfl
    rw [if_neg (by decide), hy, Option.bind_some]
    cases y with
    | true => rw [hyes]
    | false =>
      obtain ⟨hl', ho', hx'⟩ := hyl rfl
      rw [headgatelaw12_ImageApart.j0, if_neg (by decide), Copy_spec _ _ _ _ _ hl, Option.bind_some]
      dsimp only
      rw [Encode_spec _ _ _ _ _ (by omega) (fun x h => by have := hx x h; omega) hw 399 (by decide), Option.bind_some, Copy_spec _ _ _ _ _ hl', Option.bind_some]
      dsimp only
      rw [Encode_spec _ _ _ _ _ (by omega) (fun x h => by have := hx' x h; omega) hv 399 (by decide), Option.bind_some]
      have hem : (⟨#[]⟩ : ByteArray).toList = ([] : List UInt8) := by rw [ByteArray.toList_eq]
      by_cases hg : goodB x0.f0 x0.f1.f0 x0.f1.f1 = true
      · rw [if_pos hg, if_pos rfl]
        by_cases hg' : goodB x1.f0 x1.f1.f0 x1.f1.f1 = true
        · rw [if_pos hg', show (((encT x1.f0 x1.f1.f0 x1.f1.f1 x1.f2 x1.f3, (0 : Int)).2 != 0)) = false from rfl, headgatelaw12_ImageApart.j1, if_neg (by decide)]
          obtain ⟨t, ht, hti⟩ := Tables_spec 398 x0.f0 x0.f1.f0 x0.f1.f1 x0.f2 x0.f3 x1.f0 x1.f1.f0 x1.f1.f1 x1.f2 x1.f3 (by omega) (by decide)
          rw [ht, Option.bind_some, wakes_ok _ (by decide), if_pos]
          · rfl
          · rw [beq_iff_eq, Bool.eq_iff_iff, beq_iff_eq, toList_inj', hti]
            constructor
            · intro e
              obtain ⟨e1, e2, e3, e4, e5, _⟩ := enc_prefix hg hw hg' hv (⟨#[]⟩ : ByteArray) (by rw [append_empty]; exact e)
              exact ⟨e1, e2, e3, e4, e5⟩
            · rintro ⟨e1, e2, e3, e4, e5⟩
              dsimp only
              rw [e1, e2, e3, e4, e5]
        · rw [if_neg hg', show ((((⟨#[]⟩ : ByteArray), (1 : Int)).2 != 0)) = true from rfl, headgatelaw12_ImageApart.j1, if_pos rfl, if_pos rfl, if_neg (show ¬ ((1 : Int) = 0) by decide), if_pos hem, wakes_ok _ (by decide)]
          rfl
      · rw [if_neg hg, if_neg (show ¬ ((1 : Int) = 0) by decide), headgatelaw12_ImageApart.j1, if_pos rfl, if_neg (show ¬ ((1 : Int) = 0) by decide), if_pos hem]
        by_cases hg' : goodB x1.f0 x1.f1.f0 x1.f1.f1 = true
        · rw [if_pos hg', if_pos rfl, wakes_ok _ (by decide)]
          rfl
        · rw [if_neg hg', if_neg (show ¬ ((1 : Int) = 0) by decide), if_pos hem, wakes_ok _ (by decide)]
          rfl

end Go.Proofs.YtmpicpenbhdbhaaDoor.Pure
