/- The first eight bytes of a message, and what they tell. -/
import Derived.Test.YtkbjhblffbcleaaDoorTpduGet
namespace Go.Proofs.YtkbjhblffbcleaaDoor.Pure
open Go.RowKit Go.Proofs.YtkbjhblffbcleaaDoor.P Go.Proofs.YtkbjhblffbcleaaDoorW.PrintWords Go.Proofs.YtkbjhblffbcleaaDoorW.PrintLast Go.Proofs.YtkbjhblffbcleaaDoorW.PrintMore Go.Proofs.YtkbjhblffbcleaaDoor.Num
set_option linter.unusedVariables false
set_option linter.unusedSimpArgs false

theorem bt_ext (a b : ByteArray) (hs : a.size = b.size) (h : ∀ i : Nat, i < a.size → bt a (i : Int) = bt b (i : Int)) : a = b := by
  apply ByteArray.ext
  apply Array.ext (by exact hs)
  intro i h1 h2
  have h3 := h i h1
  rw [Num.bt_at a i h1, Num.bt_at b i h2] at h3
  apply UInt8.toNat_inj.mp
  have h4 : (a.data.toList[i]'(by simpa using h1)).toNat = (b.data.toList[i]'(by simpa using h2)).toNat := by omega
  simpa using h4
theorem fl_low (s : ByteArray) (h : bt s 1 / 4 * 4 ≤ 15) : fl12 s = bt s 1 / 4 * 4 := by
  have hb := bt_bounds s 1
  unfold fl12
  obtain ⟨m, hm⟩ : ∃ m : Nat, bt s 1 = m := ⟨(bt s 1).toNat, by omega⟩
  rw [hm] at h ⊢
  have hm2 : m < 16 := by omega
  have : ∀ m : Fin 16, Go.bits .and .i64 (m.val : Int) 12 = (m.val : Int) / 4 * 4 := by decide +kernel
  exact this ⟨m, hm2⟩
theorem flg_bounds (t fl n : Int) (h d : Bool) : fl ≤ flg t fl n h d ∧ flg t fl n h d ≤ fl + 3 := by
  unfold flg
  split <;> split <;> omega
theorem bt_pre (t fl n : Int) (h d : Bool) (i : Nat) (hi : i < 4) (hl : 0 ≤ fl) : bt (pre t fl n h d) (i : Int) = [t % 256, flg t fl n h d % 256, (8 + szT t) % 256, atD t n h % 256].getD i 0 := by
  unfold pre
  rw [bt_append_left _ _ _ (by omega) (by rw [strOfNums_size]; simp; omega)]
  have hh : i = 0 ∨ i = 1 ∨ i = 2 ∨ i = 3 := by omega
  rcases hh with rfl | rfl | rfl | rfl
  all_goals exact strOfNums_get _ _ (by simp) (by simp; omega)
theorem bt_pre_high (t fl n : Int) (h d : Bool) (i : Nat) (hi : i < 4) : bt (pre t fl n h d) ((4 + i : Nat) : Int) = al t n h d / p i % 256 := by
  unfold pre
  rw [bt_append_right _ _ _ (by rw [strOfNums_size]; simp; omega) (by rw [strOfNums_size, strOfNums_size, leL_length]; simp; omega)]
  have e : ((4 + i : Nat) : Int) - (strOfNums [t % 256, flg t fl n h d % 256, (8 + szT t) % 256, atD t n h % 256]).size = (i : Int) := by rw [strOfNums_size]; simp; omega
  rw [e, bt_leL _ _ _ hi]
theorem le_digits (s : ByteArray) (i : Nat) (hi : i < 4) : le s 4 4 / p i % 256 = bt s ((4 + i : Nat) : Int) := by
  have b0 := bt_bounds s 4
  have b1 := bt_bounds s 5
  have b2 := bt_bounds s 6
  have b3 := bt_bounds s 7
  have p0 : p 0 = 1 := rfl
  have p1 : p 1 = 256 := by decide
  have p2 : p 2 = 65536 := by decide
  have p3 : p 3 = 16777216 := by decide
  have e : le s 4 4 = bt s 4 + bt s 5 * 256 + bt s 6 * 65536 + bt s 7 * 16777216 := by
    show 0 + bt s (4 + ((0 : Nat) : Int)) * p 0 + bt s (4 + ((1 : Nat) : Int)) * p 1 + bt s (4 + ((2 : Nat) : Int)) * p 2 + bt s (4 + ((3 : Nat) : Int)) * p 3 = _
    rw [p0, p1, p2, p3, show (4 : Int) + ((0 : Nat) : Int) = 4 from rfl, show (4 : Int) + ((1 : Nat) : Int) = 5 from rfl, show (4 : Int) + ((2 : Nat) : Int) = 6 from rfl, show (4 : Int) + ((3 : Nat) : Int) = 7 from rfl]
    omega
  have hh : i = 0 ∨ i = 1 ∨ i = 2 ∨ i = 3 := by omega
  rcases hh with rfl | rfl | rfl | rfl
  · rw [e, p0]; show _ = bt s 4; omega
  · rw [e, p1]; show _ = bt s 5; omega
  · rw [e, p2]; show _ = bt s 6; omega
  · rw [e, p3]; show _ = bt s 7; omega
theorem pre_iff (s : ByteArray) (t fl n : Int) (h d : Bool) (h8 : 8 ≤ s.size) (ht : bt s 0 = t) (hn : 0 ≤ n) (hf : 0 ≤ fl) (hf1 : fl ≤ 15) (ha : al t n h d = le s 4 4) :
    pre t fl n h d = s.extract 0 8 ↔ (bt s 1 = flg t fl n h d ∧ bt s 2 = 8 + szT t ∧ bt s 3 = atD t n h) := by
  have hz := szT_cases t
  have hD := aD_bounds t h
  have hg := flg_bounds t fl n h d
  have hat : 0 ≤ atD t n h ∧ atD t n h < 256 := by unfold atD; split <;> omega
  have hb0 := bt_bounds s 0
  have hcut : ∀ i : Nat, i < 8 → bt (s.extract 0 8) (i : Int) = bt s (i : Int) := fun i hi => by
    have := bt_cut s 0 8 i (by omega) h8
    rw [Nat.zero_add] at this
    exact this
  have c0 := hcut 0 (by omega)
  have c1 := hcut 1 (by omega)
  have c2 := hcut 2 (by omega)
  have c3 := hcut 3 (by omega)
  have d0 := bt_pre t fl n h d 0 (by omega) hf
  have d1 := bt_pre t fl n h d 1 (by omega) hf
  have d2 := bt_pre t fl n h d 2 (by omega) hf
  have d3 := bt_pre t fl n h d 3 (by omega) hf
  simp only [List.getD_eq_getElem?_getD, List.getElem?_cons_zero, List.getElem?_cons_succ, Option.getD_some] at d0 d1 d2 d3
  constructor
  · intro he
    rw [he] at d1 d2 d3
    rw [c1] at d1
    rw [c2] at d2
    rw [c3] at d3
    refine ⟨?_, ?_, ?_⟩
    · have : bt s ((1 : Nat) : Int) = bt s 1 := rfl
      omega
    · have : bt s ((2 : Nat) : Int) = bt s 2 := rfl
      omega
    · have : bt s ((3 : Nat) : Int) = bt s 3 := rfl
      omega
  · rintro ⟨e1, e2, e3⟩
    apply bt_ext _ _ (by rw [pre_size, ByteArray.size_extract]; omega)
    intro i hi
    rw [pre_size] at hi
    by_cases h4 : i < 4
    · have hh : i = 0 ∨ i = 1 ∨ i = 2 ∨ i = 3 := by omega
      rcases hh with rfl | rfl | rfl | rfl
      · rw [d0, c0]; show t % 256 = bt s 0; omega
      · rw [d1, c1]; show _ = bt s 1; omega
      · rw [d2, c2]; show _ = bt s 2; omega
      · rw [d3, c3]; show _ = bt s 3; omega
    · obtain ⟨j, rfl⟩ := Nat.exists_eq_add_of_le (show 4 ≤ i by omega)
      rw [bt_pre_high _ _ _ _ _ _ (by omega), ha, le_digits s j (by omega), hcut _ hi]
end Go.Proofs.YtkbjhblffbcleaaDoor.Pure
