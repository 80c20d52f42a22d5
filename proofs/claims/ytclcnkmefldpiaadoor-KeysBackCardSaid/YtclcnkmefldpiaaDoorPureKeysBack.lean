/- The plain law KeysBack. -/
import Derived.Test.YtclcnkmefldpiaaDoorXbKeysBack
import Derived.Test.YtclcnkmefldpiaaDoorLbKeysBack
namespace Go.Proofs.YtclcnkmefldpiaaDoor.Pure
open Go.RowKit Go.Proofs.YtclcnkmefldpiaaDoor.P Go.Proofs.YtclcnkmefldpiaaDoorW.PrintWords Go.Proofs.YtclcnkmefldpiaaDoorW.PrintLast Go.Proofs.YtclcnkmefldpiaaDoorW.PrintMore
set_option linter.unusedVariables false
set_option linter.unusedSimpArgs false

theorem text_good {l : List S45} (h : goodB l = true) : keys_Text.f l = some (bs (textL l), 0) := by
  unfold keys_Text.f
  rw [if_pos (smallB_of fun p hp => by have := good_small h p hp; omega), if_pos h]
  rfl
theorem back_j1 (k : Nat) (hk : 40000 ≤ k) (s : ByteArray) (hs : s.size ≤ 20000) : headgatelaw21_KeysBack.j1 (k + 1) s = some true := by
  obtain ⟨L, c, hp⟩ : ∃ L c, pz 18 s.data.toList [] = (L, c) := ⟨_, _, rfl⟩
  rw [headgatelaw21_KeysBack.j1, prog_parse k s (by omega) (by omega), hp, Option.bind_some]
  dsimp only
  rcases pz_back 18 s.data.toList [] L c hp with ⟨hc, h⟩ | ⟨hc, h, ht⟩
  · rw [hc, h, if_neg (by decide), if_pos rfl, if_pos (by decide), wakes_ok]
    rfl
  · rw [hc, if_pos rfl, text_good h, Option.bind_some, if_pos rfl, if_pos (by rw [ba_list, ba_list, bs_list, ht]; rfl), wakes_ok]
    rfl
theorem back_j0 (k : Nat) (hk : 40001 ≤ k) (z : Bool) (l : List S45) (s : ByteArray) (h : z = true ∨ (l.length ≤ 100 ∧ (∀ x ∈ l, x.f0.size ≤ 1000 ∧ x.f1.size ≤ 1000) ∧ s.size ≤ 20000)) : headgatelaw21_KeysBack.j0 (k + 1) l s z = some true := by
  rw [headgatelaw21_KeysBack.j0]
  cases z
  case true => rw [if_pos rfl, wakes_ok]; rfl
  obtain ⟨hl, hs, h2⟩ := h.resolve_left (by decide)
  have hj : headgatelaw21_KeysBack.j1 k s = some true := by
    obtain ⟨k', rfl⟩ : ∃ k', k = k' + 1 := ⟨k - 1, by omega⟩
    exact back_j1 k' (by omega) s h2
  rw [if_neg (by decide), few_spec l (by omega), Option.bind_some]
  cases hg : goodB l
  · have ht : keys_Text.f l = some ((⟨#[]⟩ : ByteArray), 210) := by
      unfold keys_Text.f
      rw [if_pos (small_of hs), hg, if_neg (by decide)]
    rw [ht, Option.bind_some, if_neg (by decide)]
    exact hj
  · have h16 := ((goodB_iff l).mp hg).1
    have hz := textL_size (good_small hg)
    rw [text_good hg, Option.bind_some, if_pos rfl, prog_parse k _ (by rw [← len_data, bs_list]; omega) (by omega), Option.bind_some, bs_list, pz_text l [] 18 (by simpa using h16) (by omega) (by simpa using hg), if_pos rfl, List.nil_append, Pairs_same k l (by omega) (by omega), Option.bind_some, if_pos rfl]
    exact hj
theorem KeysBack (x0 : List S45) (x1 : ByteArray) (h0 : (x0.length ≤ 9223372036854775807 ∧ ∀ y0 ∈ x0, Q45 y0)) (h1 : x1.size ≤ 9223372036854775807) : ∃ k, headgatelaw21_KeysBack.f k x0 x1 = some true := by
  refine ⟨40002, ?_⟩
  obtain ⟨z, hz, hl⟩ := Large_spec 40002 x0 (by decide)
  unfold headgatelaw21_KeysBack.f
  rw [hz, Option.bind_some]
  cases z
  · rw [if_neg (by decide)]
    by_cases h : (x1.size : Int) > 20000
    · rw [decide_eq_true h]; exact back_j0 40001 (by decide) _ _ _ (Or.inl rfl)
    · rw [decide_eq_false h]; exact back_j0 40001 (by decide) _ _ _ (Or.inr ⟨(hl rfl).1, (hl rfl).2, by omega⟩)
  · rw [if_pos rfl]
    exact back_j0 40001 (by decide) _ _ _ (Or.inl rfl)
end Go.Proofs.YtclcnkmefldpiaaDoor.Pure
