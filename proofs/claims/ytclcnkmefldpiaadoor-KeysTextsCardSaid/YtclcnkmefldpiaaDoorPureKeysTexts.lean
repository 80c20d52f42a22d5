/- The plain law KeysTexts. -/
import Derived.Test.YtclcnkmefldpiaaDoorXbKeysTexts
namespace Go.Proofs.YtclcnkmefldpiaaDoor.Pure
open Go.RowKit Go.Proofs.YtclcnkmefldpiaaDoor.P Go.Proofs.YtclcnkmefldpiaaDoorW.PrintWords Go.Proofs.YtclcnkmefldpiaaDoorW.PrintLast Go.Proofs.YtclcnkmefldpiaaDoorW.PrintMore
set_option linter.unusedVariables false
set_option linter.unusedSimpArgs false

theorem texts_j0 (k : Nat) (hk : 40000 ≤ k) (z : Bool) (l : List S45) (s : ByteArray) (h : z = true ∨ (l.length ≤ 100 ∧ (∀ x ∈ l, x.f0.size ≤ 1000 ∧ x.f1.size ≤ 1000) ∧ s.size ≤ 20000)) : headgatelaw21_KeysTexts.j0 (k + 1) l s z = some true := by
  rw [headgatelaw21_KeysTexts.j0]
  cases z
  case true => rw [if_pos rfl, wakes_ok]; rfl
  obtain ⟨hl, hs, h2⟩ := h.resolve_left (by decide)
  have hsm := small_of hs
  obtain ⟨t, ht⟩ : ∃ t, keys_Text.f l = some t := by
    unfold keys_Text.f
    rw [if_pos hsm]
    split <;> exact ⟨_, rfl⟩
  obtain ⟨L, c, hp⟩ : ∃ L c, pz 18 s.data.toList [] = (L, c) := ⟨_, _, rfl⟩
  have hq : L.length ≤ 1000 := by
    rcases pz_back 18 s.data.toList [] L c hp with ⟨_, h⟩ | ⟨_, h, _⟩
    · rw [h]; decide
    · have := ((goodB_iff _).mp h).1; omega
  rw [if_neg (by decide), few_spec l (by omega), Option.bind_some, ht, Option.bind_some, ref_Text k l (by omega) hsm, ht, Option.bind_some, prog_parse k s (by omega) (by omega), Option.bind_some, ref_parse k s (by omega) (by omega), hp, Option.bind_some]
  rw [if_pos rfl, if_pos rfl, Pairs_same k _ hq (by omega), Option.bind_some, if_pos rfl, if_pos rfl, Pairs_same k l (by omega) (by omega), Option.bind_some, if_pos rfl, wakes_ok]
  rfl
theorem KeysTexts (x0 : List S45) (x1 : ByteArray) (h0 : (x0.length ≤ 9223372036854775807 ∧ ∀ y0 ∈ x0, Q45 y0)) (h1 : x1.size ≤ 9223372036854775807) : ∃ k, headgatelaw21_KeysTexts.f k x0 x1 = some true := by
  refine ⟨40001, ?_⟩
  obtain ⟨z, hz, hl⟩ := Large_spec 40001 x0 (by decide)
  unfold headgatelaw21_KeysTexts.f
  rw [hz, Option.bind_some]
  cases z
  · rw [if_neg (by decide)]
    by_cases h : (x1.size : Int) > 20000
    · rw [decide_eq_true h]; exact texts_j0 40000 (by decide) _ _ _ (Or.inl rfl)
    · rw [decide_eq_false h]; exact texts_j0 40000 (by decide) _ _ _ (Or.inr ⟨(hl rfl).1, (hl rfl).2, by omega⟩)
  · rw [if_pos rfl]
    exact texts_j0 40000 (by decide) _ _ _ (Or.inl rfl)
end Go.Proofs.YtclcnkmefldpiaaDoor.Pure
