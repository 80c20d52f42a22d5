/- What the document's functions of the second transport answer: heads, where things stand, and what is sent. -/
import Derived.Test.YtkbjhblffbcleaaDoorTpduLib
import Derived.Test.YtkbjhblffbcleaaDoorRefFields
import Derived.Test.YtkbjhblffbcleaaDoorPx5
import Derived.Test.YtkbjhblffbcleaaDoorPx7
import Derived.Test.YtkbjhblffbcleaaDoorPx12
namespace Go.Proofs.YtkbjhblffbcleaaDoor.Pure
open Go.RowKit Go.Proofs.YtkbjhblffbcleaaDoor.P Go.Proofs.YtkbjhblffbcleaaDoorW.PrintWords Go.Proofs.YtkbjhblffbcleaaDoorW.PrintLast Go.Proofs.YtkbjhblffbcleaaDoorW.PrintMore Go.Proofs.YtkbjhblffbcleaaDoor.Num
set_option linter.unusedVariables false
set_option linter.unusedSimpArgs false

theorem ref_Size_spec (k : Nat) (t : Int) (hk : 5 ≤ k) : headgateref29_Size.f k t = some (szT t) := by
  obtain ⟨k, rfl⟩ := Nat.exists_eq_add_of_le' (show 3 ≤ k by omega)
  unfold szT
  by_cases h0 : t = 0
  · subst h0; simp [headgateref29_Size.f, headgateref29_Size.j0]
  by_cases h1 : t = 1
  · subst h1; simp [headgateref29_Size.f, headgateref29_Size.j0]
  by_cases h2 : t = 2
  · subst h2; simp [headgateref29_Size.f, headgateref29_Size.j0, headgateref29_Size.j1]
  by_cases h3 : t = 3
  · subst h3; simp [headgateref29_Size.f, headgateref29_Size.j0, headgateref29_Size.j1]
  by_cases h5 : t = 5
  · subst h5; simp [headgateref29_Size.f, headgateref29_Size.j0, headgateref29_Size.j1]
  by_cases h6 : t = 6
  · subst h6; simp [headgateref29_Size.f, headgateref29_Size.j0, headgateref29_Size.j1]
  by_cases h7 : t = 7
  · subst h7; simp [headgateref29_Size.f, headgateref29_Size.j0, headgateref29_Size.j1]
  by_cases h9 : t = 9
  · subst h9; simp [headgateref29_Size.f, headgateref29_Size.j0, headgateref29_Size.j1]
  by_cases h4 : t = 4
  · subst h4; simp [headgateref29_Size.f, headgateref29_Size.j0, headgateref29_Size.j1]
  simp [headgateref29_Size.f, headgateref29_Size.j0, headgateref29_Size.j1, h0, h1, h2, h3, h4, h5, h6, h7, h9]
theorem ref_most_spec (k : Nat) (t : Int) (hk : 5 ≤ k) : headgateref29_most.f k t = some (mxT t) := by
  obtain ⟨k, rfl⟩ := Nat.exists_eq_add_of_le' (show 3 ≤ k by omega)
  unfold mxT
  by_cases h4 : t = 4
  · subst h4; simp [headgateref29_most.f, headgateref29_most.j0]
  by_cases h6 : t = 6
  · subst h6; simp [headgateref29_most.f, headgateref29_most.j0]
  by_cases h7 : t = 7
  · subst h7; simp [headgateref29_most.f, headgateref29_most.j0]
  by_cases h2 : t = 2
  · subst h2; simp [headgateref29_most.f, headgateref29_most.j0]
  by_cases h3 : t = 3
  · subst h3; simp [headgateref29_most.f, headgateref29_most.j0]
  simp [headgateref29_most.f, headgateref29_most.j0, h2, h3, h4, h6, h7]
theorem planned_spec (k : Nat) (t n : Int) (h d : Bool) (hk : 5 ≤ k) (hn : 0 ≤ n) (hn1 : n ≤ 4294967296) :
    headgateref29_planned.f k t n h d = some (8 + szT t, aD t h, aD t h + n, al t n h d) := by
  have hz := szT_cases t
  unfold headgateref29_planned.f
  rw [ref_Size_spec k t hk, Option.bind_some]
  have w1 : wrap64 (8 + szT t) = 8 + szT t := w64 (by omega) (by omega)
  have w2 : wrap64 (8 + szT t + 4) = 8 + szT t + 4 := w64 (by omega) (by omega)
  rw [w1, w2]
  unfold al aD
  have w3 : wrap64 (8 + szT t + n) = 8 + szT t + n := w64 (by omega) (by omega)
  have w4 : wrap64 (8 + szT t + 4 + n) = 8 + szT t + 4 + n := w64 (by omega) (by omega)
  have w5 : wrap64 (8 + szT t + n + 4) = 8 + szT t + n + 4 := w64 (by omega) (by omega)
  have w6 : wrap64 (8 + szT t + 4 + n + 4) = 8 + szT t + 4 + n + 4 := w64 (by omega) (by omega)
  by_cases ht : 3 < t <;> by_cases h0 : 0 < n <;> cases h <;> cases d <;> simp [ht, h0, w3, w4, w5, w6]
theorem common_spec (k : Nat) (t fl n : Int) (h d : Bool) (hk : 30 ≤ k) (hn : 0 ≤ n) (hn1 : n ≤ 100000) (hf : 0 ≤ fl) (hf1 : fl ≤ 1000) : headgateref29_common.f k t fl n h d = some (pre t fl n h d) := by
  obtain ⟨k, rfl⟩ := Nat.exists_eq_add_of_le' (show 3 ≤ k by omega)
  have hz := szT_cases t
  have ha := aD_bounds t h
  have hl := al_bounds t n h d
  have e1 : IntKind.u64.wrap (al t n h d) = al t n h d := u64_id (by omega) (by omega)
  have e2 : headgateref01_PutLittle.f k (al t n h d) 4 = some (strOfNums (leL (al t n h d) 4)) := by rw [ref_PutLittle_spec _ _ (by omega) (by omega) _ (by omega), if_pos (by decide)]; rfl
  have sz4 : ∀ a b c e : Int, (strOfNums [a, b, c, e]).size = 4 := fun a b c e => by rw [strOfNums_size]; rfl
  have j2 : ∀ (x1 : Int) (b : Bool), 0 ≤ x1 → x1 ≤ 2000 → x1 + (if b = true then 2 else 0) = flg t fl n h d → headgateref29_common.j2 (k + 1) t x1 n b (8 + szT t) (aD t h) (aD t h + n) (al t n h d) = some (pre t fl n h d) := by
    intro x1 b hx0 hx1 hfl
    rw [headgateref29_common.j2, e1]
    unfold pre atD
    cases b with
    | true =>
      rw [if_pos rfl] at hfl
      rw [if_pos rfl, w64 (n := x1 + 2) (by omega) (by omega), hfl]
      by_cases h0 : 0 < n
      · rw [if_pos (show n > 0 from h0), if_pos h0, Option.bind_some, e2, Option.bind_some, if_pos (by rw [sz4, strOfNums_size, leL_length]; omega)]
      · rw [if_neg (show ¬ n > 0 from h0), if_neg h0, Option.bind_some, e2, Option.bind_some, if_pos (by rw [sz4, strOfNums_size, leL_length]; omega)]
        rfl
    | false =>
      rw [if_neg (by decide), Int.add_zero] at hfl
      rw [if_neg (by decide), hfl]
      by_cases h0 : 0 < n
      · rw [if_pos (show n > 0 from h0), if_pos h0, Option.bind_some, e2, Option.bind_some, if_pos (by rw [sz4, strOfNums_size, leL_length]; omega)]
      · rw [if_neg (show ¬ n > 0 from h0), if_neg h0, Option.bind_some, e2, Option.bind_some, if_pos (by rw [sz4, strOfNums_size, leL_length]; omega)]
        rfl
  have j1 : ∀ x1 : Int, 0 ≤ x1 → x1 ≤ 1999 → x1 = fl + (if h = true ∧ 3 < t then 1 else 0) → headgateref29_common.j1 (k + 2) t x1 n d (8 + szT t) (aD t h) (aD t h + n) (al t n h d) = some (pre t fl n h d) := by
    intro x1 hx0 hx1 hx
    rw [headgateref29_common.j1]
    cases d with
    | true =>
      rw [if_pos rfl]
      by_cases ht : t > 3
      · rw [if_pos ht]
        refine j2 x1 _ hx0 (by omega) ?_
        unfold flg
        rw [hx]
        congr 1
        by_cases h0 : 0 < n <;> simp [h0, ht]
      · rw [if_neg ht]
        refine j2 x1 _ hx0 (by omega) ?_
        unfold flg
        rw [hx]
        congr 1
        simp [ht]
    | false =>
      rw [if_neg (by decide)]
      refine j2 x1 _ hx0 (by omega) ?_
      unfold flg
      rw [hx]
      congr 1
  unfold headgateref29_common.f
  rw [planned_spec _ t n h d (by omega) hn (by omega), Option.bind_some]
  dsimp only
  cases h with
  | true =>
    rw [if_pos rfl, headgateref29_common.j0]
    by_cases ht : t > 3
    · rw [if_pos (decide_eq_true ht), w64 (n := fl + 1) (by omega) (by omega)]
      exact j1 _ (by omega) (by omega) (by rw [if_pos ⟨rfl, ht⟩])
    · rw [if_neg (by simpa using ht)]
      exact j1 _ (by omega) (by omega) (by rw [if_neg (fun z => ht z.2)]; omega)
  | false =>
    rw [if_neg (by decide), headgateref29_common.j0, if_neg (by decide)]
    exact j1 _ (by omega) (by omega) (by rw [if_neg (fun z => absurd z.1 (by decide))]; omega)

theorem ref_Put_j1 (k : Nat) (t fl : Int) (H D : ByteArray) (h d b : Bool) (x : ByteArray) (hx : x.size ≤ 100000) (hD : D.size ≤ 20000) (hk : 200000 ≤ k) :
    headgateref29_Put.j1 k d x b t fl H D = some (((x ++ (if b = true then dig x else ⟨#[]⟩)) ++ D) ++ (if d = true ∧ 3 < t ∧ 0 < D.size then dig D else ⟨#[]⟩), 0) := by
  obtain ⟨k, rfl⟩ := Nat.exists_eq_add_of_le' (show 1 ≤ k by omega)
  rw [headgateref29_Put.j1]
  cases b with
  | true =>
    rw [if_pos rfl, if_pos rfl, ref_Digest_spec _ (by omega) _ (by omega), Option.bind_some, if_pos (by rw [dig_size]; omega), if_pos (by rw [ByteArray.size_append, dig_size]; omega)]
    by_cases hc : d = true ∧ 3 < t ∧ 0 < D.size
    · rw [if_pos hc, if_pos hc.1, if_pos hc.2.1, if_neg (show ¬ D.toList = ([] : List UInt8) from fun hn => by have := (toList_nil D).mp hn; have := hc.2.2; omega), ref_Digest_spec _ (by omega) _ (by omega), Option.bind_some, if_pos (by rw [ByteArray.size_append, ByteArray.size_append, dig_size, dig_size]; omega)]
    · rw [if_neg hc, append_none _ ⟨#[]⟩ rfl]
      cases d with
      | false => rw [if_neg (by decide)]
      | true =>
        rw [if_pos rfl]
        by_cases ht : 3 < t
        · rw [if_pos (show t > 3 from ht), if_pos ((toList_nil D).mpr (by have h9 : ¬ 0 < D.size := fun z => hc ⟨rfl, ht, z⟩; omega))]
        · rw [if_neg (show ¬ t > 3 from ht)]
  | false =>
    rw [if_neg (show ¬ (false = true) by decide), if_neg (show ¬ (false = true) by decide), append_none x ⟨#[]⟩ rfl, if_pos (by omega)]
    by_cases hc : d = true ∧ 3 < t ∧ 0 < D.size
    · rw [if_pos hc, if_pos hc.1, if_pos hc.2.1, if_neg (show ¬ D.toList = ([] : List UInt8) from fun hn => by have := (toList_nil D).mp hn; have := hc.2.2; omega), ref_Digest_spec _ (by omega) _ (by omega), Option.bind_some, if_pos (by rw [ByteArray.size_append, dig_size]; omega)]
    · rw [if_neg hc, append_none _ ⟨#[]⟩ rfl]
      cases d with
      | false => rw [if_neg (by decide)]
      | true =>
        rw [if_pos rfl]
        by_cases ht : 3 < t
        · rw [if_pos (show t > 3 from ht), if_pos ((toList_nil D).mpr (by have h9 : ¬ 0 < D.size := fun z => hc ⟨rfl, ht, z⟩; omega))]
        · rw [if_neg (show ¬ t > 3 from ht)]
theorem ref_Put_spec (k : Nat) (t fl : Int) (H D : ByteArray) (h d : Bool) (hH : H.size ≤ 20000) (hD : D.size ≤ 20000) (hk : 300000 ≤ k) (h0 : -9223372036854775808 ≤ fl) (h1 : fl < 9223372036854775808) :
    headgateref29_Put.f k t fl H D h d = some (putT t fl H D h d) := by
  obtain ⟨k, rfl⟩ := Nat.exists_eq_add_of_le' (show 2 ≤ k by omega)
  have hno : headgateref29_Put.j0 (k + 2) h d true t fl H D = some (⟨#[]⟩, 200) := by rw [headgateref29_Put.j0, if_pos rfl]
  unfold headgateref29_Put.f putT
  rw [ref_Size_spec _ _ (by omega), Option.bind_some]
  by_cases c0 : szT t = 0
  · rw [if_pos c0, hno, if_neg (fun z => z.1 c0)]
  · rw [if_neg c0, Option.bind_some]
    by_cases c1 : (H.size : Int) = szT t
    · rw [if_pos c1, ref_most_spec _ _ (by omega), Option.bind_some]
      by_cases c2 : (D.size : Int) > mxT t
      · rw [if_pos c2, hno, if_neg (fun z => absurd z.2.2.1 (by omega))]
      · rw [if_neg c2]
        by_cases c3 : fl < 0
        · rw [if_pos c3, hno, if_neg (fun z => absurd z.2.2.2 (by omega))]
        · rw [if_neg c3]
          by_cases c4 : fl > 15
          · rw [if_pos c4, hno, if_neg (fun z => absurd z.2.2.2 (by omega))]
          · rw [if_neg c4, Int.tmod_eq_emod_of_nonneg (by omega)]
            by_cases c5 : fl % 4 = 0
            · have ok : okT t fl H D := ⟨c0, c1, by omega, by omega⟩
              have hp := pre_size t fl D.size h d
              have hp' : (hw t fl H D h d).size = 8 + H.size := by unfold hw; rw [ByteArray.size_append, pre_size]
              rw [show (fl % 4 != 0) = false from bne_eq_false_iff_eq.mpr c5, headgateref29_Put.j0, if_neg (by decide), common_spec _ _ _ _ _ _ (by omega) (by omega) (by omega) (by omega) (by omega), Option.bind_some, if_pos (by omega), if_pos ok,
                show pre t fl D.size h d ++ H = hw t fl H D h d from rfl]
              unfold wire
              cases h with
              | true =>
                rw [if_pos rfl, ref_Put_j1 (k + 1) t fl H D true d _ _ (by omega) hD (by omega)]
                congr 4
                by_cases ht : 3 < t
                · rw [if_pos (decide_eq_true ht), if_pos ⟨rfl, ht⟩]
                · rw [if_neg (by simpa using ht), if_neg (fun z => ht z.2)]
              | false =>
                rw [if_neg (show ¬ (false = true) by decide), ref_Put_j1 (k + 1) t fl H D false d _ _ (by omega) hD (by omega), if_neg (show ¬ (false = true) by decide), if_neg (show ¬ (false = true ∧ 3 < t) from fun z => absurd z.1 (by decide))]
            · rw [show (fl % 4 != 0) = true from bne_iff_ne.mpr c5, hno, if_neg (fun z => absurd z.2.2.2 (by omega))]
    · rw [if_neg c1, hno, if_neg (fun z => c1 z.2.1)]
end Go.Proofs.YtkbjhblffbcleaaDoor.Pure
