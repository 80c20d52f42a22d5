/- A text filled up, and with other bytes in the place of its own: the program and the document answer the same, for every text, number and text. -/
import Derived.Test.YtkjdbdjbfoookaaPx4
import Derived.Test.YtkjdbdjbfoookaaRq
import Derived.Test.YtkjdbdjbfoookaaRefFields
import Derived.Test.YtkjdbdjbfoookaaFieldsWakes
namespace Go.Proofs.Ytkjdbdjbfoookaa.Pure
open Go.RowKit Go.Proofs.Ytkjdbdjbfoookaa.P Go.Proofs.YtkjdbdjbfoookaaW.PrintWords Go.Proofs.YtkjdbdjbfoookaaW.PrintLast Go.Proofs.YtkjdbdjbfoookaaW.PrintMore Go.Proofs.Ytkjdbdjbfoookaa.Num
set_option linter.unusedVariables false
set_option linter.unusedSimpArgs false

theorem set_same (s : ByteArray) (a : Int) (t : ByteArray) (hs : (s.size : Int) ≤ 100000) (ht : (t.size : Int) ≤ 100000) : ∃ r, fields_Set.f s a t = some r ∧ headgateref01_Set.f s a t = some r := by
  unfold fields_Set.f headgateref01_Set.f
  rw [there_spec s a t.size (by omega)]
  by_cases h : 0 ≤ a ∧ a ≤ s.size - t.size
  · have hw : wrap64 ((s.size : Int) - t.size) = (s.size : Int) - t.size := w64 (by omega) (by omega)
    have hw2 : wrap64 (a + t.size) = a + t.size := w64 (by omega) (by omega)
    have e1 : (s.extract 0 a.toNat).size + t.size ≤ 9223372036854775807 := by rw [ByteArray.size_extract]; omega
    have e2 : (s.extract 0 a.toNat ++ t).size + (s.extract (a + t.size).toNat s.size).size ≤ 9223372036854775807 := by rw [ByteArray.size_append, ByteArray.size_extract, ByteArray.size_extract]; omega
    refine ⟨((s.extract 0 a.toNat ++ t) ++ s.extract (a + t.size).toNat s.size, true), ?_, ?_⟩
    · rw [hw, hw2, if_neg (by omega), if_neg (by omega), if_neg (by omega), if_pos (by omega), if_pos (by omega), if_pos e1, if_pos (by omega), if_pos (by omega), if_pos e2]
    · rw [Option.bind_some, if_pos (decide_eq_true (by omega)), hw2, if_pos (by omega), if_pos (by omega), if_pos e1, if_pos (by omega), if_pos (by omega), if_pos e2]
  · have hw : wrap64 ((s.size : Int) - t.size) = (s.size : Int) - t.size := w64 (by omega) (by omega)
    refine ⟨(⟨#[]⟩, false), ?_, ?_⟩
    · rw [hw]
      by_cases h1 : a < 0
      · rw [if_pos h1]
      · rw [if_neg h1]
        by_cases h2 : (t.size : Int) > s.size
        · rw [if_pos h2]
        · rw [if_neg h2, if_pos (by omega)]
    · rw [Option.bind_some, if_neg (by rw [decide_eq_true_eq]; omega)]
theorem pad_same (s : ByteArray) (n : Int) (hs : (s.size : Int) ≤ 100000) : ∃ r, fields_Pad.f s n = some r ∧ headgateref01_Pad.f s n = some r := by
  unfold fields_Pad.f headgateref01_Pad.f
  by_cases h1 : n < 1
  · exact ⟨s, by rw [if_pos h1], by rw [if_pos h1]⟩
  · rw [if_neg h1]
    by_cases h2 : n > 4096
    · exact ⟨s, by rw [if_pos h2], by rw [if_pos h2]⟩
    · rw [if_neg h2, if_neg (by omega)]
      by_cases h3 : (s.size : Int) % n = 0
      · exact ⟨s, by rw [if_pos h3], by rw [if_pos h3]⟩
      · rw [if_neg h3]
        have b0 := Int.emod_nonneg (s.size : Int) (b := n) (by omega)
        have b1 := Int.emod_lt_of_pos (s.size : Int) (b := n) (by omega)
        have hw : wrap64 (n - (s.size : Int) % n) = n - (s.size : Int) % n := w64 (by omega) (by omega)
        have e : s.size + (strOfNums (List.replicate (n - (s.size : Int) % n).toNat 0)).size ≤ 9223372036854775807 := by rw [strOfNums_size, List.length_replicate]; omega
        rw [hw]
        refine ⟨s ++ strOfNums (List.replicate (n - (s.size : Int) % n).toNat 0), ?_, ?_⟩
        · rw [if_pos (by omega), if_pos (by omega), Option.bind_some, if_pos e]
        · rw [if_pos (by omega), if_pos (by omega), Option.bind_some, if_pos e]

theorem FieldsTexts (x0 : ByteArray) (x1 : Int) (x2 : ByteArray) (h0 : x0.size ≤ 9223372036854775807) (h1 : (Lit.int .i64 x1).wf = true) (h2 : x2.size ≤ 9223372036854775807) : ∃ k, headgatelaw01_FieldsTexts.f k x0 x1 x2 = some true := by
  refine ⟨12, ?_⟩
  have hj : headgatelaw01_FieldsTexts.j0 12 x0 x1 x2 true = some true := by
    rw [headgatelaw01_FieldsTexts.j0, if_pos rfl, wakes_ok _ (by omega)]
    rfl
  unfold headgatelaw01_FieldsTexts.f
  by_cases hs : (x0.size : Int) > 100000
  · rw [if_pos hs, hj]
  · rw [if_neg hs]
    by_cases ht : (x2.size : Int) > 100000
    · rw [decide_eq_true ht, hj]
    · obtain ⟨r, h3, h4⟩ := set_same x0 x1 x2 (by omega) (by omega)
      obtain ⟨q, h5, h6⟩ := pad_same x0 x1 (by omega)
      rw [decide_eq_false ht, headgatelaw01_FieldsTexts.j0, if_neg (by decide), h3, Option.bind_some, h4, Option.bind_some, if_pos rfl, if_pos (by simp), h5, Option.bind_some, h6, Option.bind_some, if_pos rfl, wakes_ok 11 (by omega), Option.bind_some]

end Go.Proofs.Ytkjdbdjbfoookaa.Pure
