/- With digests a message of which one byte of its data, or of its head behind the first eight, is turned is told: for every message, place and byte. -/
import Derived.Test.YtkbjhblffbcleaaDoorPx14
import Derived.Test.YtkbjhblffbcleaaDoorRq
import Derived.Test.YtkbjhblffbcleaaDoorTpduWire
import Derived.Test.YtkbjhblffbcleaaDoorTpduWakes
import Derived.Test.YtkbjhblffbcleaaDoorTurnLib
namespace Go.Proofs.YtkbjhblffbcleaaDoor.Pure
open Go.RowKit Go.Proofs.YtkbjhblffbcleaaDoor.P Go.Proofs.YtkbjhblffbcleaaDoorW.PrintWords Go.Proofs.YtkbjhblffbcleaaDoorW.PrintLast Go.Proofs.YtkbjhblffbcleaaDoorW.PrintMore Go.Proofs.YtkbjhblffbcleaaDoor.Num
set_option linter.unusedVariables false
set_option linter.unusedSimpArgs false

theorem large_spec (t fl : Int) (H D : ByteArray) : headgatelaw29_large.f t fl H D = some (decide (H.size > 20000 ∨ D.size > 20000)) := by
  unfold headgatelaw29_large.f
  by_cases h1 : (H.size : Int) > 20000
  · rw [if_pos h1, decide_eq_true (Or.inl (by omega))]
  · rw [if_neg h1]
    congr 1
    rw [decide_eq_decide]
    constructor
    · intro h; exact Or.inr (by omega)
    · rintro (h | h) <;> omega

theorem i64_of {n : Int} (h : (Lit.int .i64 n).wf = true) : -9223372036854775808 ≤ n ∧ n < 9223372036854775808 := by
  simp [Lit.wf, IntKind.min, IntKind.max, IntKind.signed, IntKind.bits] at h
  omega

theorem turned_wire (t fl : Int) (H D : ByteArray) (m : Nat) (c : UInt8) (ok : okT t fl H D) (ht : 3 < t) (h8 : 8 ≤ m) (hm : m < (wire t fl H D true true).size) (hne : setB (wire t fl H D true true) m c ≠ wire t fl H D true true) :
    (getT (setB (wire t fl H D true true) m c) true true).2.2.2.2 = if (m : Int) < 12 + szT t then (0, 201) else (((wire t fl H D true true).size : Int), 51) := by
  obtain ⟨hz, hH, hDs, hf⟩ := ok
  have hz' := szT_cases t
  have hx : wire t fl H D true true ++ ⟨#[]⟩ = wire t fl H D true true := append_none _ _ rfl
  have w8 := wire_8 t fl H D ⟨#[]⟩ true true
  have wh := wire_head t fl H D ⟨#[]⟩ true true (8 + H.size) rfl
  have wd := wire_hd t fl H D ⟨#[]⟩ true true (8 + H.size) (8 + H.size + 4) rfl rfl ⟨rfl, ht⟩
  have hb := begun_size t fl H D true true hH
  have hw' := wire_size t fl H D true true hH
  have e3 : aD t true = 8 + szT t + 4 := by unfold aD; rw [if_pos ⟨rfl, ht⟩]
  have wD := wire_D t fl H D ⟨#[]⟩ true true (8 + H.size + 4) (8 + H.size + 4 + D.size) (by omega) rfl
  have wq := fun h0 : 0 < D.size => wire_dd t fl H D ⟨#[]⟩ true true (8 + H.size + 4 + D.size) (8 + H.size + 4 + D.size + 4) (by omega) rfl ⟨rfl, ht, h0⟩
  have hhw := hw_size t fl H D true true
  rw [hx] at w8 wh wd wD wq
  have n1 : (8 + szT t).toNat = 8 + H.size := by omega
  have n2 : (aD t true).toNat = 8 + H.size + 4 := by omega
  have hal := al_bounds t D.size true true
  generalize wire t fl H D true true = w at *
  generalize hw t fl H D true true = W at *
  have hsz := setB_size w m c
  rw [get_begun _ t fl D.size true true (by omega) hz (by omega) hDs hf (by rw [set_cut_out _ _ _ _ _ (Or.inr h8), w8])]
  unfold restT
  rw [n1, n2]
  by_cases hc : (m : Int) < 12 + szT t
  · rw [if_pos hc, if_pos]
    · rfl
    refine ⟨rfl, ht, by omega, fun h => ?_⟩
    by_cases hc2 : m < 8 + H.size
    · rw [set_cut_out w m c (8 + H.size) (8 + H.size + 4) (Or.inl hc2), set_cut_in w m c 0 (8 + H.size) (by omega) hc2 (by omega), wh, wd] at h
      have hn := setB_ne_cut w m c 0 (8 + H.size) (by omega) hc2 (by omega) hne
      rw [wh] at hn
      exact dig_set W (m - 0) c (by omega) hn h.symm
    · rw [set_cut_out w m c 0 (8 + H.size) (Or.inr (by omega)), set_cut_in w m c (8 + H.size) (8 + H.size + 4) (by omega) (by omega) (by omega), wh, wd] at h
      have hn := setB_ne_cut w m c (8 + H.size) (8 + H.size + 4) (by omega) (by omega) (by omega) hne
      rw [wd] at hn
      exact hn h
  · rw [if_neg hc]
    have hd0 : 0 < D.size := by
      by_cases h0 : 0 < D.size
      · exact h0
      · have : al t D.size true true = aD t true + D.size := by
          unfold al
          rw [if_neg (fun z => h0 (by have := z.2.2; omega))]
          omega
        omega
    have e4 : al t D.size true true = aD t true + D.size + 4 := by unfold al; rw [if_pos ⟨rfl, ht, by omega⟩]
    have wq' := wq hd0
    have n3 : (aD t true + D.size).toNat = 8 + H.size + 4 + D.size := by omega
    have n4 : (al t D.size true true).toNat = 8 + H.size + 4 + D.size + 4 := by omega
    have c1 : ¬ (true = true ∧ 3 < t ∧ aD t true ≤ ((setB w m c).size : Int) ∧ ¬ ((setB w m c).extract (8 + H.size) (8 + H.size + 4) = dig ((setB w m c).extract 0 (8 + H.size)))) := by
      intro z
      refine z.2.2.2 ?_
      rw [set_cut_out w m c _ _ (Or.inr (by omega)), set_cut_out w m c _ _ (Or.inr (by omega)), wh, wd]
    rw [if_neg c1, if_neg (by omega), n3, n4]
    show (al t D.size true true, _) = _
    rw [if_pos, hw']
    refine ⟨rfl, ht, by omega, fun h => ?_⟩
    by_cases hc2 : m < 8 + H.size + 4 + D.size
    · rw [set_cut_out w m c _ _ (Or.inl hc2), set_cut_in w m c (8 + H.size + 4) (8 + H.size + 4 + D.size) (by omega) hc2 (by omega), wD, wq'] at h
      have hn := setB_ne_cut w m c (8 + H.size + 4) (8 + H.size + 4 + D.size) (by omega) hc2 (by omega) hne
      rw [wD] at hn
      exact dig_set D _ c (by omega) hn h.symm
    · rw [set_cut_out w m c (8 + H.size + 4) (8 + H.size + 4 + D.size) (Or.inr (by omega)), set_cut_in w m c (8 + H.size + 4 + D.size) (8 + H.size + 4 + D.size + 4) (by omega) (by omega) (by omega), wD, wq'] at h
      have hn := setB_ne_cut w m c (8 + H.size + 4 + D.size) (8 + H.size + 4 + D.size + 4) (by omega) (by omega) (by omega) hne
      rw [wq'] at hn
      exact hn h
theorem u8_of {n : Int} (h : (Lit.int .u8 n).wf = true) : 0 ≤ n ∧ n < 256 := by
  simp [Lit.wf, IntKind.min, IntKind.max, IntKind.signed, IntKind.bits] at h
  omega


theorem TpduTurned (x0 : S24) (x1 : Int) (x2 : Int) (h0 : Q24 x0) (h1 : (Lit.int .i64 x1).wf = true) (h2 : (Lit.int .u8 x2).wf = true) : ∃ k, headgatelaw29_TpduTurned.f k x0.f0 x0.f1 x0.f2 x0.f3 x1 x2 = some true := by
  obtain ⟨q0, q1, q2, q3⟩ := h0
  have hf := i64_of q1
  have hb := u8_of h2
  refine ⟨100, ?_⟩
  unfold headgatelaw29_TpduTurned.f
  rw [large_spec, Option.bind_some]
  by_cases hl : x0.f2.size > 20000 ∨ x0.f3.size > 20000
  · rw [if_pos (decide_eq_true hl), wakes_ok _ (by decide)]
  · rw [if_neg (by rw [decide_eq_true_eq]; exact hl)]
    by_cases h4 : x0.f0 < 4
    · rw [if_pos h4, wakes_ok _ (by decide)]
    · rw [if_neg h4, Put_spec _ _ _ _ _ _ _ (by omega) (by omega) (by decide) hf.1 hf.2, Option.bind_some]
      by_cases hc : okT x0.f0 x0.f1 x0.f2 x0.f3
      · obtain ⟨b, hF, hb2⟩ := formOf_spec x0.f0
        have hz := wire_size x0.f0 x0.f1 x0.f2 x0.f3 true true hc.2.1
        have hG := get_wire x0.f0 x0.f1 x0.f2 x0.f3 ⟨#[]⟩ true true hc
        have hal := al_bounds x0.f0 x0.f3.size true true
        have haD := aD_bounds x0.f0 true
        have hsz := szT_cases x0.f0
        have hs0 := hc.1
        rw [append_none _ _ rfl, ← hz] at hG
        have hT := turned_wire x0.f0 x0.f1 x0.f2 x0.f3 (turnedAt (wire x0.f0 x0.f1 x0.f2 x0.f3 true true) x1) (UInt8.ofNat x2.toNat) hc (by omega)
        rw [putT_ok _ _ _ _ _ _ hc]
        dsimp only
        rw [← hz] at hal
        generalize wire x0.f0 x0.f1 x0.f2 x0.f3 true true = s at *
        have em0 := Int.emod_nonneg (IntKind.u64.wrap x1) (b := (s.size : Int) - 8) (by omega)
        have em1 := Int.emod_lt_of_pos (IntKind.u64.wrap x1) (b := (s.size : Int) - 8) (by omega)
        have hm : turnedAt s x1 < s.size := by unfold turnedAt; omega
        have hm8 : 8 ≤ turnedAt s x1 := by unfold turnedAt; omega
        have et : turned s x1 x2 = setB s (turnedAt s x1) (UInt8.ofNat x2.toNat) := rfl
        have hss := setB_size s (turnedAt s x1) (UInt8.ofNat x2.toNat)
        have eS : tpdu_Size.f x0.f0 = some (szT x0.f0) := by
          unfold tpdu_Size.f
          rw [hF, Option.bind_some]
        rw [if_pos rfl, if_pos ⟨by omega, by omega, hb.1, hb.2⟩, et, Get_spec _ _ _ _ (by rw [hss]; omega) (by decide), Option.bind_some, wakes_ok _ (by decide), Option.bind_some, eS, Option.bind_some, if_pos ⟨by omega, by omega⟩]
        by_cases he : setB s (turnedAt s x1) (UInt8.ofNat x2.toNat) = s
        · rw [if_pos he, he, hG, if_pos ⟨rfl, rfl⟩]
        · have hT' := hT hm8 hm he
          rw [if_neg he]
          by_cases hl : (turnedAt s x1 : Int) < 12 + szT x0.f0
          · rw [if_pos hl] at hT' ⊢
            rw [hT', if_pos ⟨rfl, rfl⟩]
          · rw [if_neg hl] at hT' ⊢
            rw [hT', if_pos ⟨rfl, rfl⟩]
      · rw [putT_none _ _ _ _ _ _ hc]
        dsimp only
        rw [if_neg (by decide), if_pos (show ByteArray.size ⟨#[]⟩ = 0 from rfl), wakes_ok _ (by decide)]

end Go.Proofs.YtkbjhblffbcleaaDoor.Pure
