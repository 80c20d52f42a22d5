/- What was put is got, whatever follows, and no beginning of it is more than a beginning: for every message, text behind and number. -/
import Derived.Test.YtkbjhblffbcleaaDoorPx10
import Derived.Test.YtkbjhblffbcleaaDoorRq
import Derived.Test.YtkbjhblffbcleaaDoorTpduWire
import Derived.Test.YtkbjhblffbcleaaDoorTpduWakes
namespace Go.Proofs.YtkbjhblffbcleaaDoor.Pure
open Go.RowKit Go.Proofs.YtkbjhblffbcleaaDoor.P Go.Proofs.YtkbjhblffbcleaaDoorW.PrintWords Go.Proofs.YtkbjhblffbcleaaDoorW.PrintLast Go.Proofs.YtkbjhblffbcleaaDoorW.PrintMore Go.Proofs.YtkbjhblffbcleaaDoor.Num
set_option linter.unusedVariables false
set_option linter.unusedSimpArgs false

theorem large_spec (t fl : Int) (H D : ByteArray) : headgatelaw29_large.f t fl H D = some (decide (H.size > 20000 ∨ D.size > 20000)) := by
  unfold headgatelaw29_large.f
  by_cases h1 : (H.size : Int) > 20000
  · rw [if_pos h1, decide_eq_true (Or.inl (by omega))]
  · rw [if_neg h1]
    congr 1
    rw [decide_eq_decide]
    constructor
    · intro h; exact Or.inr (by omega)
    · rintro (h | h) <;> omega

theorem i64_of {n : Int} (h : (Lit.int .i64 n).wf = true) : -9223372036854775808 ≤ n ∧ n < 9223372036854775808 := by
  simp [Lit.wf, IntKind.min, IntKind.max, IntKind.signed, IntKind.bits] at h
  omega

theorem same_self (a b : Int) (c d : ByteArray) : headgateref29_Same.f a b c d a b c d = some true := by
  unfold headgateref29_Same.f
  rw [if_pos rfl, if_pos rfl, if_pos rfl]
  simp


theorem TpduBack (x0 : S24) (x1 : ByteArray) (x2 : Int) (h0 : Q24 x0) (h1 : x1.size ≤ 9223372036854775807) (h2 : (Lit.int .i64 x2).wf = true) : ∃ k, headgatelaw29_TpduBack.f k x0.f0 x0.f1 x0.f2 x0.f3 x1 x2 = some true := by
  obtain ⟨q0, q1, q2, q3⟩ := h0
  have hf := i64_of q1
  refine ⟨100, ?_⟩
  have hj : headgatelaw29_TpduBack.j0 100 x1 x2 true x0.f0 x0.f1 x0.f2 x0.f3 = some true := by
    rw [headgatelaw29_TpduBack.j0, if_pos rfl, wakes_ok _ (by decide)]
    rfl
  unfold headgatelaw29_TpduBack.f
  rw [large_spec, Option.bind_some]
  by_cases hl : x0.f2.size > 20000 ∨ x0.f3.size > 20000
  · rw [decide_eq_true hl, if_pos rfl, hj]
  · rw [decide_eq_false hl, if_neg (by decide)]
    by_cases h3 : (x1.size : Int) > 20000
    · rw [decide_eq_true h3, hj]
    · rw [decide_eq_false h3, headgatelaw29_TpduBack.j0, if_neg (by decide), Put_spec _ _ _ _ _ _ _ (by omega) (by omega) (by decide) hf.1 hf.2, Option.bind_some]
      generalize ((Int.tmod x2 2) == 0) = b1
      generalize ((Int.tmod (wrap64 (Int.tdiv x2 2)) 2) == 0) = b2
      by_cases hc : okT x0.f0 x0.f1 x0.f2 x0.f3
      · rw [putT_ok _ _ _ _ _ _ hc]
        dsimp only
        have hz := wire_size x0.f0 x0.f1 x0.f2 x0.f3 b1 b2 hc.2.1
        have hG := get_wire x0.f0 x0.f1 x0.f2 x0.f3 x1 b1 b2 hc
        have hP := fun k => get_part x0.f0 x0.f1 x0.f2 x0.f3 b1 b2 k hc
        have hal := al_bounds x0.f0 x0.f3.size b1 b2
        have haD := aD_bounds x0.f0 b1
        have hsz := szT_cases x0.f0
        rw [← hz] at hG hal
        generalize wire x0.f0 x0.f1 x0.f2 x0.f3 b1 b2 = s at *
        have hs1 : 8 ≤ s.size := by omega
        have hs2 : s.size ≤ 30000 := by omega
        rw [if_pos rfl, if_neg (fun z => by have := (toList_nil _).mp z; omega), if_pos (by omega), Get_spec _ _ _ _ (by rw [ByteArray.size_append]; omega) (by decide), Option.bind_some, hG]
        dsimp only
        have eu : IntKind.u64.wrap (s.size : Int) = s.size := u64_id (by omega) (by omega)
        have ev := wrap_u64 x2
        have ev0 : 0 ≤ IntKind.u64.wrap x2 := by rw [ev]; omega
        have em0 := Int.emod_nonneg (IntKind.u64.wrap x2) (b := (s.size : Int)) (by omega)
        have em1 := Int.emod_lt_of_pos (IntKind.u64.wrap x2) (b := (s.size : Int)) (by omega)
        obtain ⟨m, hm⟩ : ∃ m : Nat, IntKind.u64.wrap x2 % (s.size : Int) = m := ⟨(IntKind.u64.wrap x2 % (s.size : Int)).toNat, by omega⟩
        have ew : wrap64 (Int.tmod (IntKind.u64.wrap x2) (s.size : Int)) = (m : Int) := by
          rw [Int.tmod_eq_emod_of_nonneg ev0, hm]
          exact w64 (by omega) (by omega)
        have hp := hP m (by omega)
        rw [eu, if_neg (by omega), ew, if_pos (by omega), if_pos (by omega), Int.toNat_natCast, Get_spec _ _ _ _ (by rw [ByteArray.size_extract]; omega) (by decide), Option.bind_some, if_pos rfl, if_pos rfl, same_self, Option.bind_some, if_pos rfl, hp, if_pos (show (none_ 0).2.2.2.2.1 = 0 from rfl), if_pos (show (none_ 0).2.2.2.2.2 = 0 from rfl), wakes_ok _ (by decide)]
        rfl
      · rw [putT_none _ _ _ _ _ _ hc]
        dsimp only
        rw [if_neg (by decide), if_pos ((toList_nil _).mpr rfl), wakes_ok _ (by decide)]
        rfl

end Go.Proofs.YtkbjhblffbcleaaDoor.Pure
