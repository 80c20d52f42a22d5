/- The plain law KeysSteps. -/
import Derived.Test.YtclcnkmefldpiaaDoorXcKeysSteps
import Derived.Test.YtclcnkmefldpiaaDoorLcKeysSteps
namespace Go.Proofs.YtclcnkmefldpiaaDoor.Pure
open Go.RowKit Go.Proofs.YtclcnkmefldpiaaDoor.P Go.Proofs.YtclcnkmefldpiaaDoorW.PrintWords Go.Proofs.YtclcnkmefldpiaaDoorW.PrintLast Go.Proofs.YtclcnkmefldpiaaDoorW.PrintMore
set_option linter.unusedVariables false
set_option linter.unusedSimpArgs false

theorem wrap_u64 (n : Int) : IntKind.u64.wrap n = n % 18446744073709551616 := by simp [IntKind.wrap, IntKind.bits, IntKind.signed]
theorem part_nat (len : Nat) (hl : len ≤ 100) (a : Int) : (IntKind.u64.wrap (wrap64 ((len : Int) + 1))) = (len : Int) + 1 ∧ ∃ n : Nat, n ≤ len ∧ (wrap64 (Int.tmod (IntKind.u64.wrap a) (IntKind.u64.wrap (wrap64 ((len : Int) + 1))))) = (n : Int) := by
  have e : IntKind.u64.wrap (wrap64 ((len : Int) + 1)) = (len : Int) + 1 := by rw [w64 (by omega) (by omega), wrap_u64]; omega
  refine ⟨e, ?_⟩
  rw [e, wrap_u64]
  have h0 : 0 ≤ a % 18446744073709551616 := by omega
  have h1 : Int.tmod (a % 18446744073709551616) ((len : Int) + 1) = (a % 18446744073709551616) % ((len : Int) + 1) := Int.tmod_eq_emod_of_nonneg h0
  have h2 : 0 ≤ (a % 18446744073709551616) % ((len : Int) + 1) := Int.emod_nonneg _ (by omega)
  have h3 : (a % 18446744073709551616) % ((len : Int) + 1) < (len : Int) + 1 := Int.emod_lt_of_pos _ (by omega)
  refine ⟨((a % 18446744073709551616) % ((len : Int) + 1)).toNat, by omega, ?_⟩
  rw [h1, w64 (by omega) (by omega)]
  omega
theorem Same_refl (a b c d : Bool) (e f : Int) (g h : ByteArray) : headgateref21_Same.f a b c d e f g h a b c d e f g h = some true := by
  unfold headgateref21_Same.f
  simp
theorem Answer_some (a : S23) (l : List S45) (hs : smallB l = true) (hI : Inv a) : ∃ r, keys_Answer.f a.f0 a.f1 a.f2 a.f3 a.f4 a.f5 a.f6 a.f7 l = some r := by
  cases hg : goodB l
  · exact ⟨_, Answer_bad a l hs hg⟩
  · obtain ⟨V, hV, _⟩ := ansL_spec l a [] hs hI
    exact ⟨_, Answer_good a l hs hg hV⟩
theorem good_take {l : List S45} (n : Nat) (h : goodB l = true) : goodB (l.take n) = true ∧ goodB (l.drop n) = true := by
  obtain ⟨h1, h2⟩ := (goodB_iff l).mp h
  rw [← List.take_append_drop n l, goodL_app, Bool.and_eq_true, List.nil_append] at h2
  exact ⟨(goodB_iff _).mpr ⟨by rw [List.length_take]; omega, h2.1⟩, (goodB_iff _).mpr ⟨by rw [List.length_drop]; omega, goodL_less _ _ _ (fun s hs => absurd hs (by simp [keyIn])) h2.2⟩⟩
theorem off_few {l o : List S45} (h : Off l o) : o.length ≤ l.length := by
  induction h with
  | nil => exact Nat.le_refl _
  | ans p v h ih => simp only [List.length_cons]; omega
  | sil p hs h ih => simp only [List.length_cons]; omega
theorem KeysSteps (x0 : List S45) (x1 : Int) (h0 : (x0.length ≤ 9223372036854775807 ∧ ∀ y0 ∈ x0, Q45 y0)) (h1 : (Lit.int .i64 x1).wf = true) : ∃ k, headgatelaw21_KeysSteps.f k x0 x1 = some true := by
  refine ⟨3000, ?_⟩
  obtain ⟨z, hz, hl⟩ := Large_spec 3000 x0 (by decide)
  unfold headgatelaw21_KeysSteps.f
  rw [hz, Option.bind_some]
  cases z
  case true => rw [if_pos rfl, wakes_ok]; rfl
  obtain ⟨hl, hs⟩ := hl rfl
  have hsm := small_of hs
  obtain ⟨e1, n, hn, e2⟩ := part_nat x0.length hl x1
  have ht : smallB (x0.take n) = true := smallB_of fun p hp => smallB_iff hsm p (List.mem_of_mem_take hp)
  have hd : smallB (x0.drop n) = true := smallB_of fun p hp => smallB_iff hsm p (List.mem_of_mem_drop hp)
  rw [if_neg (by decide), e2, e1, if_neg (by omega), show keys_First.f = some (false, false, true, false, 8192, 4096, (⟨#[]⟩ : ByteArray), (⟨#[]⟩ : ByteArray)) from rfl, Option.bind_some, few_spec x0 (by omega), Option.bind_some]
  dsimp only
  rw [Int.toNat_natCast, few_spec (x0.take n) (by rw [List.length_take]; omega), few_spec (x0.drop n) (by rw [List.length_drop]; omega)]
  obtain ⟨r2, hr2⟩ := Answer_some first0 (x0.take n) ht inv_first
  change keys_Answer.f false false true false 8192 4096 (⟨#[]⟩ : ByteArray) (⟨#[]⟩ : ByteArray) (x0.take n) = _ at hr2
  cases hg : goodB x0
  · have h := Answer_bad first0 x0 hsm hg
    change keys_Answer.f false false true false 8192 4096 (⟨#[]⟩ : ByteArray) (⟨#[]⟩ : ByteArray) x0 = _ at h
    rw [h, Option.bind_some, Option.bind_some, if_pos (by omega), if_pos (by omega), Option.bind_some, hr2, Option.bind_some, if_neg (by decide), if_pos rfl, if_pos (by decide), wakes_ok]
    rfl
  obtain ⟨V, hV, _, hI⟩ := ansL_spec x0 first0 [] hsm inv_first
  have h := Answer_good first0 x0 hsm hg hV
  change keys_Answer.f false false true false 8192 4096 (⟨#[]⟩ : ByteArray) (⟨#[]⟩ : ByteArray) x0 = _ at h
  rw [h, Option.bind_some, Option.bind_some, if_pos (by omega), if_pos (by omega), Option.bind_some]
  cases V with
  | none =>
    rw [hr2, Option.bind_some]
    dsimp only
    rw [if_neg (show ¬ (ansV none).2.2 = 0 by decide), if_pos (show (ansV none).2.2 = 210 from rfl), if_pos (show (((ansV none).2.1.length : Nat) : Int) = 0 from rfl), wakes_ok]
    rfl
  | some x =>
    obtain ⟨a, out⟩ := x
    obtain ⟨hIa, hoa⟩ := hI _ rfl
    obtain ⟨g1, g2⟩ := good_take n hg
    obtain ⟨V2, hV2, _, hI2⟩ := ansL_spec (x0.take n) first0 [] ht inv_first
    have happ := ansL_app (x0.take n) (x0.drop n) first0 []
    rw [List.take_append_drop, hV, hV2, Option.bind_some] at happ
    cases V2 with
    | none => cases happ
    | some x2 =>
      obtain ⟨b, y⟩ := x2
      obtain ⟨hIb, hob⟩ := hI2 _ rfl
      obtain ⟨V3, hV3, hV3', hI3⟩ := ansL_spec (x0.drop n) b y hd hIb
      dsimp only at happ
      rw [hV3'] at happ
      cases V3 with
      | none => cases happ
      | some x3 =>
        obtain ⟨c, w⟩ := x3
        obtain ⟨rfl, rfl⟩ : a = c ∧ out = y ++ w := by
          have := Option.some.inj happ
          simp only [Option.map_some, Option.some.injEq, Prod.mk.injEq] at this
          exact this
        have q2 := Answer_good first0 (x0.take n) ht g1 hV2
        change keys_Answer.f false false true false 8192 4096 (⟨#[]⟩ : ByteArray) (⟨#[]⟩ : ByteArray) (x0.take n) = _ at q2
        have q3 := Answer_good b (x0.drop n) hd g2 hV3
        have l1 : y.length ≤ _ := off_few hob
        have l2 : w.length ≤ _ := off_few (hI3 _ rfl).2
        rw [List.length_take] at l1
        rw [List.length_drop] at l2
        rw [q2, Option.bind_some]
        dsimp only
        rw [if_pos (show (ansV (some (a, y ++ w))).2.2 = 0 from rfl), Option.bind_some]
        change (Option.bind (keys_Answer.f b.f0 b.f1 b.f2 b.f3 b.f4 b.f5 b.f6 b.f7 (x0.drop n)) _) = _
        rw [q3, Option.bind_some]
        dsimp only
        rw [if_pos (show (ansV (some (b, y))).2.2 = 0 from rfl), if_pos (show (ansV (some (a, w))).2.2 = 0 from rfl)]
        dsimp only [ansV]
        unfold headgatelaw21_Own.f
        rw [Option.bind_some, Option.bind_some]
        dsimp only
        rw [Same_refl, Option.bind_some, headgatelaw21_KeysSteps.j0, Bool.not_true, if_neg (by decide), few_spec y (by omega), Option.bind_some, if_pos (by omega), Pairs_same 2999 (y ++ w) (by rw [List.length_append]; omega) (by omega), Option.bind_some, if_pos rfl, if_pos hIa.2.1, if_pos hIa.2.2.1, if_pos hIa.2.2.2.1, if_pos hIa.2.2.2.2, hIa.1, if_neg (by decide), wakes_ok]
        rfl
end Go.Proofs.YtclcnkmefldpiaaDoor.Pure
