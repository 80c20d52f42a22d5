/- What the document's reading of the second transport's messages answers: the same. -/
import Derived.Test.YtkbjhblffbcleaaDoorTpduGet
import Derived.Test.YtkbjhblffbcleaaDoorTpduRef
import Derived.Test.YtkbjhblffbcleaaDoorPx9
namespace Go.Proofs.YtkbjhblffbcleaaDoor.Pure
open Go.RowKit Go.Proofs.YtkbjhblffbcleaaDoor.P Go.Proofs.YtkbjhblffbcleaaDoorW.PrintWords Go.Proofs.YtkbjhblffbcleaaDoorW.PrintLast Go.Proofs.YtkbjhblffbcleaaDoorW.PrintMore Go.Proofs.YtkbjhblffbcleaaDoor.Num
set_option linter.unusedVariables false
set_option linter.unusedSimpArgs false

theorem bt_ext (a b : ByteArray) (hs : a.size = b.size) (h : ∀ i : Nat, i < a.size → bt a (i : Int) = bt b (i : Int)) : a = b := by
  apply ByteArray.ext
  apply Array.ext (by exact hs)
  intro i h1 h2
  have h3 := h i h1
  rw [Num.bt_at a i h1, Num.bt_at b i h2] at h3
  apply UInt8.toNat_inj.mp
  have h4 : (a.data.toList[i]'(by simpa using h1)).toNat = (b.data.toList[i]'(by simpa using h2)).toNat := by omega
  simpa using h4
theorem al_gt (t n : Int) (h d : Bool) : (al t n h d > aD t h + n) ↔ (d = true ∧ 3 < t ∧ 0 < n) := by
  unfold al
  by_cases hc : d = true ∧ 3 < t ∧ 0 < n
  · rw [if_pos hc]; simp only [hc, and_self, iff_true]; omega
  · rw [if_neg hc]; simp only [hc, iff_false]; omega
theorem j4_spec (k : Nat) (s : ByteArray) (t fl n : Int) (h d : Bool) (hs : s.size ≤ 100000) (hn : 0 ≤ n) (hk : 200000 ≤ k) :
    headgateref29_Get.j4 k s t fl false (8 + szT t) (aD t h) (aD t h + n) (al t n h d) = some (if (s.size : Int) < al t n h d then none_ 0
  else (t, fl, s.extract 8 (8 + szT t).toNat, s.extract (aD t h).toNat (aD t h + n).toNat, al t n h d,
    if d = true ∧ 3 < t ∧ 0 < n ∧ ¬ (s.extract (aD t h + n).toNat (al t n h d).toNat = dig (s.extract (aD t h).toNat (aD t h + n).toNat)) then 51 else 0)) := by
  obtain ⟨k, rfl⟩ := Nat.exists_eq_add_of_le' (show 1 ≤ k by omega)
  have hz := szT_cases t
  have ha := aD_bounds t h
  have hl := al_bounds t n h d
  rw [headgateref29_Get.j4, if_neg (by decide)]
  by_cases c1 : (s.size : Int) < al t n h d
  · rw [if_pos c1, if_pos c1]; rfl
  · rw [if_neg c1, if_neg c1, if_pos (by omega), if_pos (by omega), if_pos (by omega), if_pos (by omega), if_pos (by omega)]
    by_cases c2 : al t n h d > aD t h + n
    · have hc := (al_gt t n h d).mp c2
      rw [if_pos c2, if_pos (by omega), if_pos (by omega), if_pos (by omega), ref_Digest_spec _ (by rw [ByteArray.size_extract]; omega) _ (by rw [ByteArray.size_extract]; omega), Option.bind_some]
      by_cases hd : s.extract (aD t h + n).toNat (al t n h d).toNat = dig (s.extract (aD t h).toNat (aD t h + n).toNat)
      · rw [if_pos ((toList_inj' _ _).mpr hd), if_neg (fun z => z.2.2.2 hd)]
      · rw [if_neg (fun z => hd ((toList_inj' _ _).mp z)), if_pos ⟨hc.1, hc.2.1, hc.2.2, hd⟩]
    · have hc : ¬ (d = true ∧ 3 < t ∧ 0 < n) := fun z => c2 ((al_gt t n h d).mpr z)
      rw [if_neg c2, if_neg (fun z => hc ⟨z.1, z.2.1, z.2.2.1⟩)]
theorem j3_spec (k : Nat) (s : ByteArray) (t fl n : Int) (h d : Bool) (hs : s.size ≤ 100000) (hn : 0 ≤ n) (hn1 : n ≤ 100000) (hk : 200010 ≤ k) : headgateref29_Get.j3 k s h d t fl n false = some (restT s t fl n h d) := by
  obtain ⟨k, rfl⟩ := Nat.exists_eq_add_of_le' (show 1 ≤ k by omega)
  have hz := szT_cases t
  have ha := aD_bounds t h
  have h4 := j4_spec k s t fl n h d hs hn (by omega)
  have h4t : ∀ a b c e : Int, headgateref29_Get.j4 k s t fl true a b c e = some (none_ 201) := fun a b c e => by
    obtain ⟨k, rfl⟩ := Nat.exists_eq_add_of_le' (show 1 ≤ k by omega)
    rw [headgateref29_Get.j4, if_pos rfl]; rfl
  rw [headgateref29_Get.j3, if_neg (by decide), planned_spec _ _ _ _ _ (by omega) hn (by omega), Option.bind_some]
  dsimp only
  rw [h4]
  unfold restT
  by_cases c1 : h = true ∧ 3 < t ∧ aD t h ≤ (s.size : Int)
  · rw [if_pos c1.1, if_pos (show t > 3 from c1.2.1), if_pos (show (s.size : Int) ≥ aD t h from c1.2.2), if_pos (by omega), if_pos (by omega), if_pos (by omega), if_pos (by omega), ref_Digest_spec _ (by rw [ByteArray.size_extract]; omega) _ (by rw [ByteArray.size_extract]; omega), Option.bind_some]
    by_cases hd : s.extract (8 + szT t).toNat (aD t h).toNat = dig (s.extract 0 (8 + szT t).toNat)
    · rw [show ((s.extract (8 + szT t).toNat (aD t h).toNat).toList != (dig (s.extract 0 (8 + szT t).toNat)).toList) = false from bne_eq_false_iff_eq.mpr ((toList_inj' _ _).mpr hd), h4,
        if_neg (show ¬ (h = true ∧ 3 < t ∧ aD t h ≤ (s.size : Int) ∧ ¬ (s.extract (8 + szT t).toNat (aD t h).toNat = dig (s.extract 0 (8 + szT t).toNat))) from fun z => z.2.2.2 hd)]
    · rw [show ((s.extract (8 + szT t).toNat (aD t h).toNat).toList != (dig (s.extract 0 (8 + szT t).toNat)).toList) = true from bne_iff_ne.mpr (fun z => hd ((toList_inj' _ _).mp z)), h4t, if_pos ⟨c1.1, c1.2.1, c1.2.2, hd⟩]
  · rw [if_neg (show ¬ (h = true ∧ 3 < t ∧ aD t h ≤ (s.size : Int) ∧ ¬ (s.extract (8 + szT t).toNat (aD t h).toNat = dig (s.extract 0 (8 + szT t).toNat))) from fun z => c1 ⟨z.1, z.2.1, z.2.2.1⟩)]
    by_cases c2 : h = true
    · rw [if_pos c2]
      by_cases c3 : t > 3
      · rw [if_pos c3, if_neg (show ¬ (s.size : Int) ≥ aD t h from fun z => c1 ⟨c2, c3, z⟩)]
      · rw [if_neg c3]
    · rw [if_neg c2]
/-- What comes behind the search. -/
def aft (s : ByteArray) (t fl x : Int) (h d : Bool) : Res := if 0 ≤ x ∧ fl ≤ 15 ∧ pre t fl x h d = s.extract 0 8 then restT s t fl x h d else none_ 200
theorem j3t (k : Nat) (s : ByteArray) (t fl n : Int) (h d : Bool) (hk : 1 ≤ k) : headgateref29_Get.j3 k s h d t fl n true = some (none_ 200) := by
  obtain ⟨k, rfl⟩ := Nat.exists_eq_add_of_le' hk
  rw [headgateref29_Get.j3, if_pos rfl]; rfl
theorem j2f (k : Nat) (s : ByteArray) (t N fl x n : Int) (h d : Bool) (hs : s.size ≤ 100000) (h8 : 8 ≤ s.size) (hx : x ≤ 100000) (hf : 0 ≤ fl) (hf1 : fl ≤ 1000) (hk : 200100 ≤ k) : headgateref29_Get.j2 k s h d t N fl x n false = some (aft s t fl x h d) := by
  obtain ⟨k, rfl⟩ := Nat.exists_eq_add_of_le' (show 1 ≤ k by omega)
  rw [headgateref29_Get.j2, if_neg (by decide)]
  unfold aft
  by_cases c1 : x < 0
  · rw [if_pos c1, j3t _ _ _ _ _ _ _ (by omega), if_neg (show ¬ (0 ≤ x ∧ fl ≤ 15 ∧ pre t fl x h d = s.extract 0 8) from fun z => absurd z.1 (by omega))]
  · rw [if_neg c1]
    by_cases c2 : fl > 15
    · rw [if_pos c2, j3t _ _ _ _ _ _ _ (by omega), if_neg (show ¬ (0 ≤ x ∧ fl ≤ 15 ∧ pre t fl x h d = s.extract 0 8) from fun z => absurd z.2.1 (by omega))]
    · rw [if_neg c2, common_spec _ _ _ _ _ _ (by omega) (by omega) hx hf hf1, Option.bind_some, if_pos (by decide), if_pos (by omega)]
      by_cases hp : pre t fl x h d = s.extract 0 8
      · rw [show ((pre t fl x h d).toList != (s.extract 0 8).toList) = false from bne_eq_false_iff_eq.mpr ((toList_inj' _ _).mpr hp), j3_spec _ _ _ _ _ _ _ hs (by omega) hx (by omega), if_pos ⟨by omega, by omega, hp⟩]
      · rw [show ((pre t fl x h d).toList != (s.extract 0 8).toList) = true from bne_iff_ne.mpr (fun z => hp ((toList_inj' _ _).mp z)), j3t _ _ _ _ _ _ _ (by omega), if_neg (show ¬ (0 ≤ x ∧ fl ≤ 15 ∧ pre t fl x h d = s.extract 0 8) from fun z => hp z.2.2)]
theorem l0_found (k : Nat) (s : ByteArray) (t N fl x n : Int) (h d : Bool) (hs : s.size ≤ 100000) (h8 : 8 ≤ s.size) (hx0 : 0 ≤ x) (hx : x ≤ 100000) (hf : 0 ≤ fl) (hf1 : fl ≤ 1000) (hk : 200200 ≤ k) : headgateref29_Get.l0 k s h d t N fl x n = some (aft s t fl x h d) := by
  obtain ⟨k, rfl⟩ := Nat.exists_eq_add_of_le' (show 1 ≤ k by omega)
  rw [headgateref29_Get.l0, ref_most_spec _ _ (by omega), Option.bind_some, decide_eq_false (show ¬ x < 0 by omega), j2f k s t N fl x n h d hs h8 hx hf hf1 (by omega)]
  split <;> rfl
theorem l0_spec (s : ByteArray) (t N fl : Int) (h d : Bool) (hs : s.size ≤ 100000) (h8 : 8 ≤ s.size) (hf : 0 ≤ fl) (hf1 : fl ≤ 1000) (hN : 0 ≤ N) (hN1 : N < 4294967296) :
    ∀ (m k : Nat) (n : Int), n + m = mxT t + 1 → 0 ≤ n → 2 * m + 200300 ≤ k →
    (∃ q, n ≤ q ∧ q ≤ mxT t ∧ al t q h d = N ∧ headgateref29_Get.l0 k s h d t N fl (-1) n = some (aft s t fl q h d)) ∨ ((∀ q, n ≤ q → q ≤ mxT t → al t q h d ≠ N) ∧ headgateref29_Get.l0 k s h d t N fl (-1) n = some (none_ 200)) := by
  have hmx := mxT_bounds t
  have hneg : aft s t fl (-1) h d = none_ 200 := if_neg (fun z => absurd z.1 (by decide))
  intro m
  induction m with
  | zero =>
    intro k n hm h0 hk
    obtain ⟨k, rfl⟩ := Nat.exists_eq_add_of_le' (show 1 ≤ k by omega)
    right
    refine ⟨fun q h1 h2 => absurd h1 (by omega), ?_⟩
    rw [headgateref29_Get.l0, ref_most_spec _ _ (by omega), Option.bind_some, if_neg (by omega), j2f k s t N fl (-1) n h d hs h8 (by omega) hf hf1 (by omega), hneg]
  | succ m ih =>
    intro k n hm h0 hk
    obtain ⟨k, rfl⟩ := Nat.exists_eq_add_of_le' (show 2 ≤ k by omega)
    rw [headgateref29_Get.l0, ref_most_spec _ _ (by omega), Option.bind_some, if_pos (by omega), decide_eq_true (show (-1 : Int) < 0 by decide), headgateref29_Get.j2, if_pos rfl, planned_spec _ _ _ _ _ (by omega) h0 (by omega), Option.bind_some]
    dsimp only
    rw [w64 (n := N) (by omega) (by omega), w64 (n := n + 1) (by omega) (by omega)]
    by_cases he : al t n h d = N
    · left
      refine ⟨n, Int.le_refl _, by omega, he, ?_⟩
      rw [if_pos he, l0_found _ _ _ _ _ _ _ _ _ hs h8 h0 (by omega) hf hf1 (by omega)]
    · rw [if_neg he]
      rcases ih k (n + 1) (by omega) (by omega) (by omega) with ⟨q, q1, q2, q3, q4⟩ | ⟨q1, q2⟩
      · exact .inl ⟨q, by omega, q2, q3, q4⟩
      · refine .inr ⟨fun q h1 h2 => ?_, q2⟩
        by_cases hq : q = n
        · rw [hq]; exact he
        · exact q1 q (by omega) h2

theorem fl_low (s : ByteArray) (h : bt s 1 / 4 * 4 ≤ 15) : fl12 s = bt s 1 / 4 * 4 := by
  have hb := bt_bounds s 1
  unfold fl12
  obtain ⟨m, hm⟩ : ∃ m : Nat, bt s 1 = m := ⟨(bt s 1).toNat, by omega⟩
  rw [hm] at h ⊢
  have hm2 : m < 16 := by omega
  have : ∀ m : Fin 16, Go.bits .and .i64 (m.val : Int) 12 = (m.val : Int) / 4 * 4 := by decide +kernel
  exact this ⟨m, hm2⟩
theorem flg_bounds (t fl n : Int) (h d : Bool) : fl ≤ flg t fl n h d ∧ flg t fl n h d ≤ fl + 3 := by
  unfold flg
  split <;> split <;> omega
theorem bt_pre (t fl n : Int) (h d : Bool) (i : Nat) (hi : i < 4) (hl : 0 ≤ fl) : bt (pre t fl n h d) (i : Int) = [t % 256, flg t fl n h d % 256, (8 + szT t) % 256, atD t n h % 256].getD i 0 := by
  unfold pre
  rw [bt_append_left _ _ _ (by omega) (by rw [strOfNums_size]; simp; omega)]
  have hh : i = 0 ∨ i = 1 ∨ i = 2 ∨ i = 3 := by omega
  rcases hh with rfl | rfl | rfl | rfl
  all_goals exact strOfNums_get _ _ (by simp) (by simp; omega)
theorem bt_pre_high (t fl n : Int) (h d : Bool) (i : Nat) (hi : i < 4) : bt (pre t fl n h d) ((4 + i : Nat) : Int) = al t n h d / p i % 256 := by
  unfold pre
  rw [bt_append_right _ _ _ (by rw [strOfNums_size]; simp; omega) (by rw [strOfNums_size, strOfNums_size, leL_length]; simp; omega)]
  have e : ((4 + i : Nat) : Int) - (strOfNums [t % 256, flg t fl n h d % 256, (8 + szT t) % 256, atD t n h % 256]).size = (i : Int) := by rw [strOfNums_size]; simp; omega
  rw [e, bt_leL _ _ _ hi]
theorem le_digits (s : ByteArray) (i : Nat) (hi : i < 4) : le s 4 4 / p i % 256 = bt s ((4 + i : Nat) : Int) := by
  have b0 := bt_bounds s 4
  have b1 := bt_bounds s 5
  have b2 := bt_bounds s 6
  have b3 := bt_bounds s 7
  have p0 : p 0 = 1 := rfl
  have p1 : p 1 = 256 := by decide
  have p2 : p 2 = 65536 := by decide
  have p3 : p 3 = 16777216 := by decide
  have e : le s 4 4 = bt s 4 + bt s 5 * 256 + bt s 6 * 65536 + bt s 7 * 16777216 := by
    show 0 + bt s (4 + ((0 : Nat) : Int)) * p 0 + bt s (4 + ((1 : Nat) : Int)) * p 1 + bt s (4 + ((2 : Nat) : Int)) * p 2 + bt s (4 + ((3 : Nat) : Int)) * p 3 = _
    rw [p0, p1, p2, p3, show (4 : Int) + ((0 : Nat) : Int) = 4 from rfl, show (4 : Int) + ((1 : Nat) : Int) = 5 from rfl, show (4 : Int) + ((2 : Nat) : Int) = 6 from rfl, show (4 : Int) + ((3 : Nat) : Int) = 7 from rfl]
    omega
  have hh : i = 0 ∨ i = 1 ∨ i = 2 ∨ i = 3 := by omega
  rcases hh with rfl | rfl | rfl | rfl
  · rw [e, p0]; show _ = bt s 4; omega
  · rw [e, p1]; show _ = bt s 5; omega
  · rw [e, p2]; show _ = bt s 6; omega
  · rw [e, p3]; show _ = bt s 7; omega
theorem pre_iff (s : ByteArray) (t fl n : Int) (h d : Bool) (h8 : 8 ≤ s.size) (ht : bt s 0 = t) (hn : 0 ≤ n) (hf : 0 ≤ fl) (hf1 : fl ≤ 15) (ha : al t n h d = le s 4 4) :
    pre t fl n h d = s.extract 0 8 ↔ (bt s 1 = flg t fl n h d ∧ bt s 2 = 8 + szT t ∧ bt s 3 = atD t n h) := by
  have hz := szT_cases t
  have hD := aD_bounds t h
  have hg := flg_bounds t fl n h d
  have hat : 0 ≤ atD t n h ∧ atD t n h < 256 := by unfold atD; split <;> omega
  have hb0 := bt_bounds s 0
  have hcut : ∀ i : Nat, i < 8 → bt (s.extract 0 8) (i : Int) = bt s (i : Int) := fun i hi => by
    have := bt_cut s 0 8 i (by omega) h8
    rw [Nat.zero_add] at this
    exact this
  have c0 := hcut 0 (by omega)
  have c1 := hcut 1 (by omega)
  have c2 := hcut 2 (by omega)
  have c3 := hcut 3 (by omega)
  have d0 := bt_pre t fl n h d 0 (by omega) hf
  have d1 := bt_pre t fl n h d 1 (by omega) hf
  have d2 := bt_pre t fl n h d 2 (by omega) hf
  have d3 := bt_pre t fl n h d 3 (by omega) hf
  simp only [List.getD_eq_getElem?_getD, List.getElem?_cons_zero, List.getElem?_cons_succ, Option.getD_some] at d0 d1 d2 d3
  constructor
  · intro he
    rw [he] at d1 d2 d3
    rw [c1] at d1
    rw [c2] at d2
    rw [c3] at d3
    refine ⟨?_, ?_, ?_⟩
    · have : bt s ((1 : Nat) : Int) = bt s 1 := rfl
      omega
    · have : bt s ((2 : Nat) : Int) = bt s 2 := rfl
      omega
    · have : bt s ((3 : Nat) : Int) = bt s 3 := rfl
      omega
  · rintro ⟨e1, e2, e3⟩
    apply bt_ext _ _ (by rw [pre_size, ByteArray.size_extract]; omega)
    intro i hi
    rw [pre_size] at hi
    by_cases h4 : i < 4
    · have hh : i = 0 ∨ i = 1 ∨ i = 2 ∨ i = 3 := by omega
      rcases hh with rfl | rfl | rfl | rfl
      · rw [d0, c0]; show t % 256 = bt s 0; omega
      · rw [d1, c1]; show _ = bt s 1; omega
      · rw [d2, c2]; show _ = bt s 2; omega
      · rw [d3, c3]; show _ = bt s 3; omega
    · obtain ⟨j, rfl⟩ := Nat.exists_eq_add_of_le (show 4 ≤ i by omega)
      rw [bt_pre_high _ _ _ _ _ _ (by omega), ha, le_digits s j (by omega), hcut _ hi]
theorem ref_Get_spec (k : Nat) (s : ByteArray) (h d : Bool) (hs : s.size ≤ 100000) (hk : 400000 ≤ k) : headgateref29_Get.f k s h d = some (getT s h d) := by
  unfold headgateref29_Get.f getT
  by_cases h8 : s.size < 8
  · rw [if_pos (by omega), if_pos h8]; rfl
  · obtain ⟨k, rfl⟩ := Nat.exists_eq_add_of_le' (show 1 ≤ k by omega)
    have hb4 := le_bounds s 4 4
    have hp : p 4 = 4294967296 := by decide
    have e4 : (4 : Int).toNat = 4 := rfl
    have hmx := mxT_bounds (bt s 0)
    have hz := szT_cases (bt s 0)
    have hD := aD_bounds (bt s 0) h
    have hb1 := bt_bounds s 1
    have hno : ∀ a b : Int, headgateref29_Get.j0 (k + 1) s h d a b true = some (none_ 200) := fun a b => by rw [headgateref29_Get.j0, if_pos rfl]; rfl
    rw [if_neg (by omega), if_neg h8, if_pos (by omega), ref_Little_spec _ _ _ (by omega) _ (by omega), if_pos (by unfold there; rw [decide_eq_true_eq]; omega), Option.bind_some, w_bt, ref_Size_spec _ _ (by omega), Option.bind_some]
    dsimp only
    rw [e4]
    by_cases c0 : szT (bt s 0) = 0
    · rw [if_pos c0, hno, if_neg (show ¬ okF s (bt s 0) (fl12 s) (nst (bt s 0) (le s 4 4) h d) (le s 4 4) h d from fun z => z.1 c0)]
    · rw [if_neg c0]
      by_cases c1 : le s 4 4 > 65536
      · rw [decide_eq_true c1, hno, if_neg (show ¬ okF s (bt s 0) (fl12 s) (nst (bt s 0) (le s 4 4) h d) (le s 4 4) h d from fun z => by
          have h2 := z.2.2.1
          have h3 := z.2.2.2.1
          have h4 := al_bounds (bt s 0) (nst (bt s 0) (le s 4 4) h d) h d
          omega)]
      · have e1 : wrap64 (wrap64 (Int.tdiv (wrap64 (bt s 1)) 4) * 4) = bt s 1 / 4 * 4 := by
          rw [w_bt, Int.tdiv_eq_ediv_of_nonneg (by omega), w64 (n := bt s 1 / 4) (by omega) (by omega), w64 (by omega) (by omega)]
        rw [decide_eq_false c1, headgateref29_Get.j0, if_neg (by decide), if_pos (by omega), e1]
        rcases l0_spec s (bt s 0) (le s 4 4) (bt s 1 / 4 * 4) h d hs (by omega) (by omega) (by omega) (by omega) (by omega) (mxT (bt s 0) + 1).toNat k 0 (by omega) (by omega) (by omega) with ⟨q, q1, q2, q3, q4⟩ | ⟨q1, q2⟩
        · rw [q4]
          have hq := nst_of _ _ _ h d q1 q3
          rw [← hq]
          congr 1
          unfold aft
          by_cases c2 : bt s 1 / 4 * 4 ≤ 15
          · have hfl := fl_low s c2
            rw [hfl]
            have hpi := pre_iff s (bt s 0) (bt s 1 / 4 * 4) q h d (by omega) rfl q1 (by omega) c2 q3
            by_cases c3 : pre (bt s 0) (bt s 1 / 4 * 4) q h d = s.extract 0 8
            · obtain ⟨r1, r2, r3⟩ := hpi.mp c3
              rw [if_pos ⟨q1, c2, c3⟩, if_pos (show okF s (bt s 0) (bt s 1 / 4 * 4) q (le s 4 4) h d from ⟨c0, q1, q2, q3, r1, r2, r3⟩)]
            · rw [if_neg (fun z => c3 z.2.2), if_neg (show ¬ okF s (bt s 0) (bt s 1 / 4 * 4) q (le s 4 4) h d from fun z => c3 (hpi.mpr z.2.2.2.2))]
          · rw [if_neg (fun z => c2 z.2.1), if_neg (show ¬ okF s (bt s 0) (fl12 s) q (le s 4 4) h d from fun z => by
              have h1 := z.2.2.2.2.1
              have h2 := fl12_cases s
              have h3 := flg_bounds (bt s 0) (fl12 s) q h d
              omega)]
        · rw [q2, if_neg (show ¬ okF s (bt s 0) (fl12 s) (nst (bt s 0) (le s 4 4) h d) (le s 4 4) h d from fun z => q1 _ z.2.1 z.2.2.1 z.2.2.2.1)]
end Go.Proofs.YtkbjhblffbcleaaDoor.Pure
