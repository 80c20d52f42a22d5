/- The plain law KeysOffers. -/
import Derived.Test.YtclcnkmefldpiaaDoorXcKeysOffers
import Derived.Test.YtclcnkmefldpiaaDoorLcKeysOffers
namespace Go.Proofs.YtclcnkmefldpiaaDoor.Pure
open Go.RowKit Go.Proofs.YtclcnkmefldpiaaDoor.P Go.Proofs.YtclcnkmefldpiaaDoorW.PrintWords Go.Proofs.YtclcnkmefldpiaaDoorW.PrintLast Go.Proofs.YtclcnkmefldpiaaDoorW.PrintMore
set_option linter.unusedVariables false
set_option linter.unusedSimpArgs false

theorem off_in {l o : List S45} (h : Off l o) : ∀ q ∈ o, ∃ p ∈ l, p.f0 = q.f0 := by
  induction h with
  | nil => intro q hq; exact absurd hq (by simp)
  | ans p v h ih =>
    intro q hq
    rcases List.mem_cons.mp hq with e | hq
    · exact ⟨p, List.mem_cons_self .., by rw [e]⟩
    · obtain ⟨r, hr, e⟩ := ih q hq; exact ⟨r, List.mem_cons_of_mem _ hr, e⟩
  | sil p hs h ih =>
    intro q hq
    obtain ⟨r, hr, e⟩ := ih q hq
    exact ⟨r, List.mem_cons_of_mem _ hr, e⟩
theorem off_len {l o : List S45} (h : Off l o) : o.length ≤ l.length := by
  induction h with
  | nil => exact Nat.le_refl _
  | ans p v h ih => simp only [List.length_cons]; omega
  | sil p hs h ih => simp only [List.length_cons]; omega
theorem goodL_keys : ∀ (l m : List S45), goodL m l = true → (∀ p ∈ l, keyIn m p.f0 = false) ∧ l.Pairwise fun a b => a.f0.toList ≠ b.f0.toList
  | [], m, _ => ⟨fun p hp => absurd hp (by simp), List.Pairwise.nil⟩
  | p :: l, m, h => by
    rw [goodL_cons] at h
    simp only [Bool.and_eq_true, Bool.not_eq_true'] at h
    obtain ⟨h1, h2⟩ := goodL_keys l (m ++ [p]) h.2
    have h3 : ∀ q ∈ l, keyIn m q.f0 = false ∧ (p.f0.toList == q.f0.toList) = false := fun q hq => by
      have := h1 q hq
      rw [keyIn_snoc] at this
      exact Bool.or_eq_false_iff.mp this
    refine ⟨fun q hq => ?_, List.Pairwise.cons (fun q hq => by simpa using (h3 q hq).2) h2⟩
    rcases List.mem_cons.mp hq with e | hq
    · rw [e]; exact h.1.1
    · exact (h3 q hq).1
theorem offers_sil (k : Nat) (l o : List S45) (a i : Nat) (hi : i < l.length) (h100 : l.length ≤ 1000) (hs : silent l[i].f0) : headgatelaw21_KeysOffers.j1 (k + 1) l o (a : Int) (i : Int) false = headgatelaw21_KeysOffers.l0 k l o (a : Int) ((i + 1 : Nat) : Int) := by
  rw [headgatelaw21_KeysOffers.j1, if_neg (by decide), if_pos (by omega), if_pos (by omega), rd_at l i hi, w64 (by omega) (by omega), show ((i : Int) + 1) = ((i + 1 : Nat) : Int) from rfl]
  unfold silent at hs
  repeat' split
  all_goals first | rfl | (exfalso; simp_all; done)
theorem offers_l0 (l o : List S45) (hl : l.length ≤ 100) (hd : l.Pairwise fun a b => a.f0.toList ≠ b.f0.toList) : ∀ (d K i a : Nat), i + d = l.length → 2 * d + 2 ≤ K → a ≤ o.length → o.length ≤ 100 → Off (l.drop i) (o.drop a) → headgatelaw21_KeysOffers.l0 K l o (a : Int) (i : Int) = some true
  | d, 0, i, a, _, hK, _, _, _ => by omega
  | d, 1, i, a, _, hK, _, _, _ => by omega
  | 0, K + 2, i, a, hi, hK, ha, ho, h => by
    rw [headgatelaw21_KeysOffers.l0, if_neg (by omega)]
    rw [List.drop_eq_nil_of_le (show l.length ≤ i by omega)] at h
    have : (o.drop a).length = 0 := by
      generalize o.drop a = q at h
      cases h
      rfl
    rw [List.length_drop] at this
    rw [if_pos (by omega), wakes_ok]
    rfl
  | d + 1, K + 2, i, a, hi, hK, ha, ho, h => by
    have hlt : i < l.length := by omega
    have hlater : ∀ q ∈ l.drop (i + 1), l[i].f0.toList ≠ q.f0.toList := by
      have := List.Pairwise.sublist (List.drop_sublist i l) hd
      rw [List.drop_eq_getElem_cons hlt] at this
      exact (List.pairwise_cons.mp this).1
    rw [List.drop_eq_getElem_cons hlt] at h
    rw [headgatelaw21_KeysOffers.l0, if_pos (by omega)]
    by_cases hao : a < o.length
    · rw [if_pos (by omega), if_pos (by omega), if_pos (by omega), rd_at l i hlt, rd_at o a hao]
      rw [List.drop_eq_getElem_cons hao] at h
      generalize hp : l[i] = p at h hlater
      generalize hr : l.drop (i + 1) = r at h hlater
      generalize hq : o[a] = q at h
      generalize ht : o.drop (a + 1) = t at h
      cases h with
      | ans _ v h =>
        rw [show (p.f0.toList == p.f0.toList) = true from beq_self_eq_true _, headgatelaw21_KeysOffers.j1, if_pos rfl, w64 (by omega) (by omega), w64 (by omega) (by omega), show ((i : Int) + 1) = ((i + 1 : Nat) : Int) from rfl, show ((a : Int) + 1) = ((a + 1 : Nat) : Int) from rfl]
        exact offers_l0 l o hl hd d K (i + 1) (a + 1) (by omega) (by omega) (by omega) ho (by rw [hr, ht]; exact h)
      | sil _ hs h =>
        obtain ⟨z, hz, e⟩ := off_in h q (List.mem_cons_self ..)
        have hne : (q.f0.toList == p.f0.toList) = false := beq_eq_false_iff_ne.mpr fun x => hlater z hz (by rw [e, x])
        rw [hne, offers_sil K l o a i hlt (by omega) (by rw [hp]; exact hs)]
        exact offers_l0 l o hl hd d K (i + 1) a (by omega) (by omega) ha ho (by rw [hr, List.drop_eq_getElem_cons hao, hq, ht]; exact h)
    · rw [if_neg (by omega)]
      rw [List.drop_eq_nil_of_le (show o.length ≤ a by omega)] at h
      generalize hp : l[i] = p at h hlater
      generalize hr : l.drop (i + 1) = r at h hlater
      cases h with
      | sil _ hs h =>
        rw [offers_sil K l o a i hlt (by omega) (by rw [hp]; exact hs)]
        exact offers_l0 l o hl hd d K (i + 1) a (by omega) (by omega) ha ho (by rw [hr, List.drop_eq_nil_of_le (show o.length ≤ a by omega)]; exact h)
theorem KeysOffers (x0 : List S45) (h0 : (x0.length ≤ 9223372036854775807 ∧ ∀ y0 ∈ x0, Q45 y0)) : ∃ k, headgatelaw21_KeysOffers.f k x0 = some true := by
  refine ⟨1000, ?_⟩
  obtain ⟨z, hz, hl⟩ := Large_spec 1000 x0 (by decide)
  unfold headgatelaw21_KeysOffers.f
  rw [hz, Option.bind_some]
  cases z
  case true => rw [if_pos rfl, wakes_ok]; rfl
  obtain ⟨hl, hs⟩ := hl rfl
  have hsm := small_of hs
  rw [if_neg (by decide), show keys_First.f = some (false, false, true, false, 8192, 4096, (⟨#[]⟩ : ByteArray), (⟨#[]⟩ : ByteArray)) from rfl, Option.bind_some, few_spec x0 (by omega), Option.bind_some]
  dsimp only
  cases hg : goodB x0
  · have h := Answer_bad first0 x0 hsm hg
    change keys_Answer.f false false true false 8192 4096 (⟨#[]⟩ : ByteArray) (⟨#[]⟩ : ByteArray) x0 = _ at h
    rw [h, Option.bind_some, if_neg (by decide), if_pos (by decide), wakes_ok]
    rfl
  · obtain ⟨V, hV, _, hI⟩ := ansL_spec x0 first0 [] hsm inv_first
    have h := Answer_good first0 x0 hsm hg hV
    change keys_Answer.f false false true false 8192 4096 (⟨#[]⟩ : ByteArray) (⟨#[]⟩ : ByteArray) x0 = _ at h
    rw [h, Option.bind_some]
    dsimp only
    cases V with
    | none =>
      rw [if_neg (show ¬ (ansV none).2.2 = 0 by decide), if_pos (show (((ansV none).2.1.length : Nat) : Int) = 0 from rfl), wakes_ok]
      rfl
    | some x =>
      obtain ⟨_, ho⟩ := hI x rfl
      have hlen := off_len ho
      rw [if_pos (show (ansV (some x)).2.2 = 0 from rfl)]
      exact offers_l0 x0 x.2 hl (goodL_keys x0 [] ((goodB_iff x0).mp hg).2).2 x0.length 1000 0 0 (by omega) (by omega) (by omega) (by omega) (by simpa using ho)
end Go.Proofs.YtclcnkmefldpiaaDoor.Pure
