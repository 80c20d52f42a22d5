/- The plain law KeysAnswers. -/
import Derived.Test.YtclcnkmefldpiaaDoorBd7
import Derived.Test.YtclcnkmefldpiaaDoorLdKeysAnswers
namespace Go.Proofs.YtclcnkmefldpiaaDoor.Pure
open Go.RowKit Go.Proofs.YtclcnkmefldpiaaDoor.P Go.Proofs.YtclcnkmefldpiaaDoorW.PrintWords Go.Proofs.YtclcnkmefldpiaaDoorW.PrintLast Go.Proofs.YtclcnkmefldpiaaDoorW.PrintMore
set_option linter.unusedVariables false
set_option linter.unusedSimpArgs false

theorem Same_refl (a b c d : Bool) (e f : Int) (g h : ByteArray) : headgateref21_Same.f a b c d e f g h a b c d e f g h = some true := by
  unfold headgateref21_Same.f
  simp
theorem ansL_some : ∀ (l : List S45) (a : S23) (out : List S45), smallB l = true → ∃ V, ansL a out l = some V ∧ ∀ x, V = some x → x.2.length ≤ out.length + l.length
  | [], a, out, hs => ⟨some (a, out), rfl, fun x hx => by cases hx; exact Nat.le_refl _⟩
  | p :: l, a, out, hs => by
    have hp := smallB_iff hs p (List.mem_cons_self ..)
    have hs' : smallB l = true := smallB_of fun q hq => smallB_iff hs q (List.mem_cons_of_mem _ hq)
    unfold ansL
    cases hf : findR p.f0 with
    | none =>
      dsimp only
      obtain ⟨V, h1, h2⟩ := ansL_some l a (out ++ [⟨p.f0, (⟨#[78, 111, 116, 85, 110, 100, 101, 114, 115, 116, 111, 111, 100]⟩ : ByteArray)⟩]) hs'
      exact ⟨V, h1, fun x hx => by have := h2 x hx; simp at this ⊢; omega⟩
    | some r =>
      dsimp only
      obtain ⟨b, x, o, hF, _, _⟩ := step_ok (findR_in hf).1 a p.f1 hp.2
      rw [hF, Option.bind_some]
      dsimp only
      cases o
      · exact ⟨none, by rw [if_neg (by decide)], fun x hx => by cases hx⟩
      rw [if_pos rfl]
      cases x.toList.isEmpty
      · rw [if_neg (by decide)]
        obtain ⟨V, h1, h2⟩ := ansL_some l b (out ++ [⟨p.f0, x⟩]) hs'
        exact ⟨V, h1, fun x hx => by have := h2 x hx; simp at this ⊢; omega⟩
      · rw [if_pos rfl]
        obtain ⟨V, h1, h2⟩ := ansL_some l b out hs'
        exact ⟨V, h1, fun x hx => by have := h2 x hx; simp at this ⊢; omega⟩
theorem ans_l0 (lim : Nat) (hlim : 10011 ≤ lim) (l : List S45) (hl : l.length ≤ 100) (hs : ∀ x ∈ l, x.f0.size ≤ 1000 ∧ x.f1.size ≤ 1000) : ∀ (d K i : Nat) (a : S23) (out : List S45) (V : Option (S23 × List S45)), i + d = l.length → d + lim + 1 ≤ K → out.length + d ≤ 1000 → ansL a out (l.drop i) = some V →
    headgateref21_Answer.l0 K l out (i : Int) a.f0 a.f1 a.f2 a.f3 a.f4 a.f5 a.f6 a.f7 = some ((ansV V).1.f0, (ansV V).1.f1, (ansV V).1.f2, (ansV V).1.f3, (ansV V).1.f4, (ansV V).1.f5, (ansV V).1.f6, (ansV V).1.f7, (ansV V).2.1, (ansV V).2.2)
  | d, 0, i, a, out, V, hi, hK, ho, h => by omega
  | 0, K + 1, i, a, out, V, hi, hK, ho, h => by
    rw [List.drop_eq_nil_of_le (by omega)] at h
    cases h
    rw [headgateref21_Answer.l0, if_neg (by omega)]
    rfl
  | d + 1, K + 1, i, a, out, V, hi, hK, ho, h => by
    have hlt : i < l.length := by omega
    have hv := (hs l[i] (List.getElem_mem hlt)).2
    rw [List.drop_eq_getElem_cons hlt] at h
    rw [headgateref21_Answer.l0, if_pos (by omega), if_pos (by omega), rd_at l i hlt]
    obtain ⟨b, x, o, hT, hF⟩ := one_fit K a l[i] hv (by omega)
    rw [hT]
    unfold tell
    rw [Option.bind_some]
    dsimp only
    rw [w64 (by omega) (by omega), show ((i : Int) + 1) = ((i + 1 : Nat) : Int) from rfl]
    rcases hF with ⟨hf, rfl, rfl, rfl⟩ | ⟨r, hf, b', x', hr, hsame⟩
    · rw [ansL, hf] at h
      rw [if_pos rfl, if_neg (by rw [ba_list]; decide), if_pos (by omega)]
      exact ans_l0 lim hlim l hl hs d K (i + 1) b _ V (by omega) (by omega) (by simp; omega) h
    · rw [ansL, hf] at h
      dsimp only at h
      rw [hr, Option.bind_some] at h
      dsimp only at h
      cases o
      · rw [if_neg (by decide)] at h
        cases h
        rw [if_neg (by decide)]
        rfl
      · obtain ⟨rfl, rfl⟩ := hsame rfl
        rw [if_pos rfl] at h ⊢
        cases he : x'.toList.isEmpty
        · rw [he, if_neg (by decide)] at h
          have hne : x'.toList ≠ ([] : List UInt8) := fun z => by rw [z] at he; cases he
          rw [if_neg hne, if_pos (by omega)]
          exact ans_l0 lim hlim l hl hs d K (i + 1) b' _ V (by omega) (by omega) (by simp; omega) h
        · rw [he, if_pos rfl] at h
          have hnil : x'.toList = ([] : List UInt8) := List.isEmpty_iff.mp he
          rw [if_pos hnil]
          exact ans_l0 lim hlim l hl hs d K (i + 1) b' out V (by omega) (by omega) (by omega) h
theorem answers_j0 (k : Nat) (hk : 20000 ≤ k) (z : Bool) (l : List S45) (a : S23) (h : z = true ∨ (l.length ≤ 100 ∧ ∀ x ∈ l, x.f0.size ≤ 1000 ∧ x.f1.size ≤ 1000)) : headgatelaw21_KeysAnswers.j0 (k + 1) l z a.f0 a.f1 a.f2 a.f3 a.f4 a.f5 a.f6 a.f7 = some true := by
  rw [headgatelaw21_KeysAnswers.j0]
  cases z
  case true => rw [if_pos rfl, wakes_ok]; rfl
  obtain ⟨hl, hs⟩ := h.resolve_left (by decide)
  have hsm := small_of hs
  have hend : ∀ (t : List S45), t.length ≤ 1000 → headgateref21_Pairs.f k t t = some true := fun t ht => Pairs_same k t ht (by omega)
  rw [if_neg (by decide), few_spec l (by omega), Option.bind_some]
  unfold headgatelaw21_Own.f headgateref21_Answer.f
  rw [Good_spec k l (by omega)]
  cases hg : goodB l
  · rw [Answer_bad a l hsm hg]
    simp only [Option.bind_some]
    rw [if_neg (show ¬ (false = true) by decide)]
    simp only [Option.bind_some]
    rw [Same_refl, Option.bind_some, if_pos rfl, hend [] (by decide), Option.bind_some, if_pos rfl, if_pos (by trivial), hend l (by omega), Option.bind_some, if_pos rfl, show keys_First.f = some (false, false, true, false, 8192, 4096, (⟨#[]⟩ : ByteArray), (⟨#[]⟩ : ByteArray)) from rfl, show headgateref21_First.f = some (false, false, true, false, 8192, 4096, (⟨#[]⟩ : ByteArray), (⟨#[]⟩ : ByteArray)) from rfl]
    simp only [Option.bind_some]
    rw [Same_refl, Option.bind_some, if_pos rfl, wakes_ok]
    rfl
  · obtain ⟨V, hV, hlen⟩ := ansL_some l a [] hsm
    have hA := ans_l0 10011 (Nat.le_refl _) l hl hs l.length k 0 a [] V (by omega) (by omega) (by simp; omega) hV
    have hVl : (ansV V).2.1.length ≤ 1000 := by
      cases V with
      | none => decide
      | some x => have := hlen x rfl; simp at this; show x.2.length ≤ 1000; omega
    rw [Answer_good a l hsm hg hV]
    simp only [Option.bind_some]
    rw [if_pos trivial]
    change Option.bind (headgateref21_Answer.l0 k l [] ((0 : Nat) : Int) a.f0 a.f1 a.f2 a.f3 a.f4 a.f5 a.f6 a.f7) _ = _
    rw [hA]
    simp only [Option.bind_some]
    rw [Same_refl, Option.bind_some, if_pos rfl, hend _ hVl, Option.bind_some, if_pos rfl, if_pos (by trivial), hend l (by omega), Option.bind_some, if_pos rfl, show keys_First.f = some (false, false, true, false, 8192, 4096, (⟨#[]⟩ : ByteArray), (⟨#[]⟩ : ByteArray)) from rfl, show headgateref21_First.f = some (false, false, true, false, 8192, 4096, (⟨#[]⟩ : ByteArray), (⟨#[]⟩ : ByteArray)) from rfl]
    simp only [Option.bind_some]
    rw [Same_refl, Option.bind_some, if_pos rfl, wakes_ok]
    rfl
theorem KeysAnswers (x0 : S23) (x1 : List S45) (h0 : Q23 x0) (h1 : (x1.length ≤ 9223372036854775807 ∧ ∀ y0 ∈ x1, Q45 y0)) : ∃ k, headgatelaw21_KeysAnswers.f k x0.f0 x0.f1 x0.f2 x0.f3 x0.f4 x0.f5 x0.f6 x0.f7 x1 = some true := by
  refine ⟨20001, ?_⟩
  obtain ⟨z, hz, hl⟩ := Large_spec 20001 x1 (by decide)
  unfold headgatelaw21_KeysAnswers.f
  rw [hz, Option.bind_some]
  cases z
  · rw [if_neg (by decide)]
    have hq := hl rfl
    by_cases h6 : (x0.f6.size : Int) > 1000
    · rw [if_pos h6]; exact answers_j0 20000 (by decide) _ _ x0 (Or.inl rfl)
    · rw [if_neg h6]; exact answers_j0 20000 (by decide) _ _ x0 (Or.inr hq)
  · rw [if_pos rfl]
    exact answers_j0 20000 (by decide) _ _ x0 (Or.inl rfl)
end Go.Proofs.YtclcnkmefldpiaaDoor.Pure
