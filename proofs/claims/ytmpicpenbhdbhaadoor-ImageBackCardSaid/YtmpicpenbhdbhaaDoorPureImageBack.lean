/- What was kept is read as it was; what is read would be kept as it is. -/
import Derived.Test.YtmpicpenbhdbhaaDoorPx11
import Derived.Test.YtmpicpenbhdbhaaDoorRq
import Derived.Test.YtmpicpenbhdbhaaDoorImageWakes
namespace Go.Proofs.YtmpicpenbhdbhaaDoor.Pure
open Go.RowKit Go.Proofs.YtmpicpenbhdbhaaDoor.P Go.Proofs.YtmpicpenbhdbhaaDoorW.PrintWords Go.Proofs.YtmpicpenbhdbhaaDoorW.PrintLast Go.Proofs.YtmpicpenbhdbhaaDoorW.PrintMore Go.Proofs.YtmpicpenbhdbhaaDoor.Num
set_option linter.unusedVariables false
set_option linter.unusedSimpArgs false

theorem ImageBack (x0 : S27) (x1 : ByteArray) (h0 : Q27 x0) (h1 : x1.size ≤ 9223372036854775807) : ∃ k, headgatelaw12_ImageBack.f k x0.f0 x0.f1.f0 x0.f1.f1 x0.f2 x0.f3 x1 = some true := by
  have hw := wide_of h0
  have hj1 : ∀ k, 60 ≤ k → headgatelaw12_ImageBack.j1 k x1 = some true := by
    intro k hk
    obtain ⟨k, rfl⟩ : ∃ q, k = q + 1 := ⟨k - 1, by omega⟩
    rw [headgatelaw12_ImageBack.j1, wakes_ok _ (by omega)]
    obtain ⟨r, hr, ho⟩ := Decode_any k (by omega) x1
    rw [hr, Option.bind_some]
    rcases ho with ho | ⟨l, typ, host, gen, apt, ho, hg, hwt, he⟩
    · subst ho
      rfl
    · subst ho
      have hz := hold_size hg
      obtain ⟨_, hok, _⟩ := (good_iff l typ host).mp hg
      dsimp only
      rw [if_pos rfl, Encode_spec l typ host gen apt (by omega) (fun x hx => by have := (ok_small hok x hx).1; omega) hwt k (by omega), Option.bind_some, if_pos hg, if_pos rfl, if_pos (by rw [he])]
      rfl
  refine ⟨400, ?_⟩
  have hj1' := hj1 399 (by decide)
  obtain ⟨z, hz, hzl⟩ := Large_spec 400 x0.f0 x0.f1.f0 x0.f1.f1 x0.f2 x0.f3 (by decide)
  have hyes : headgatelaw12_ImageBack.j0 400 x1 true x0.f0 x0.f1.f0 x0.f1.f1 x0.f2 x0.f3 = some true := by
    rw [headgatelaw12_ImageBack.j0, if_pos rfl, wakes_ok _ (by decide)]
    rfl
  unfold headgatelaw12_ImageBack.f
  rw [hz, Option.bind_some]
  cases z with
  | true => rw [if_pos rfl, hyes]
  | false =>
    obtain ⟨hl, ho, hx⟩ := hzl rfl
    rw [if_neg (by decide)]
    by_cases hs : (x1.size : Int) > 5000
    · rw [decide_eq_true hs, hyes]
    · rw [decide_eq_false hs, headgatelaw12_ImageBack.j0, if_neg (by decide), Copy_spec _ _ _ _ _ hl, Option.bind_some]
      dsimp only
      rw [Encode_spec _ _ _ _ _ (by omega) (fun x h => by have := hx x h; omega) hw 399 (by decide), Option.bind_some]
      by_cases hg : goodB x0.f0 x0.f1.f0 x0.f1.f1 = true
      · have hsz := enc_size (gen := x0.f2) (apt := x0.f3) hg
        rw [if_pos hg, if_pos rfl]
        dsimp only
        rw [Decode_img 399 (by decide) _ _ _ _ _ (by omega) hg hw, Option.bind_some, if_pos rfl]
        dsimp only
        obtain ⟨t, ht, hti⟩ := Tables_spec 399 x0.f0 x0.f1.f0 x0.f1.f1 x0.f2 x0.f3 x0.f0 x0.f1.f0 x0.f1.f1 x0.f2 x0.f3 (by omega) (by decide)
        rw [ht, Option.bind_some, if_pos (hti.mpr ⟨rfl, rfl, rfl, rfl, rfl⟩), if_neg (by omega), hj1']
      · rw [if_neg hg, if_neg (show ¬ ((1 : Int) = 0) by decide), hj1']

end Go.Proofs.YtmpicpenbhdbhaaDoor.Pure
