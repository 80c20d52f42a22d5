/- What the document's function for names answers. -/
import Derived.Test.YtmpicpenbhdbhaaDoorPx1
import Derived.Test.YtmpicpenbhdbhaaDoorPx5
import Derived.Test.YtmpicpenbhdbhaaDoorNumBack
namespace Go.Proofs.YtmpicpenbhdbhaaDoor.Pure
open Go.RowKit Go.Proofs.YtmpicpenbhdbhaaDoor.P Go.Proofs.YtmpicpenbhdbhaaDoorW.PrintWords Go.Proofs.YtmpicpenbhdbhaaDoorW.PrintLast Go.Proofs.YtmpicpenbhdbhaaDoorW.PrintMore Go.Proofs.YtmpicpenbhdbhaaDoor.Num
set_option linter.unusedVariables false
set_option linter.unusedSimpArgs false

theorem mark5 (c : Nat) : mark_ 5 c = decide ((97 ≤ c ∧ c ≤ 122) ∨ (48 ≤ c ∧ c ≤ 57) ∨ c = 46 ∨ c = 45 ∨ c = 58) := by
  rw [Bool.eq_iff_iff]
  simp only [mark_, lo_, hi_, Bool.false_or, Bool.or_eq_true, decide_eq_true_eq]
  omega
def letter_ (b : Int) : Bool := decide (97 ≤ b ∧ b ≤ 122)
def digit_ (b : Int) : Bool := decide (48 ≤ b ∧ b ≤ 57)
theorem ref_letter (b : Int) : headgateref03_letter.f b = some (letter_ b) := by
  unfold headgateref03_letter.f letter_
  split
  · congr 1
    rw [decide_eq_decide]
    omega
  · rw [decide_eq_false (by omega)]
theorem ref_digit (b : Int) : headgateref03_digit.f b = some (digit_ b) := by
  unfold headgateref03_digit.f digit_
  split
  · congr 1
    rw [decide_eq_decide]
    omega
  · rw [decide_eq_false (by omega)]
theorem ref_Name_l0 (s : ByteArray) (hs : s.size ≤ 64) : ∀ (d k i : Nat), i + d = s.size → d < k → headgateref03_Name.l0 k s (i : Int) = some ((s.data.toList.drop i).all (fun c => mark_ 5 c.toNat))
  | 0, k + 1, i, h, _ => by
    rw [headgateref03_Name.l0, if_neg (by omega), List.drop_eq_nil_of_le (show s.data.toList.length ≤ i by show s.size ≤ i; omega)]
    rfl
  | d + 1, k + 1, i, h, hk => by
    have hi : i < s.size := by omega
    have hl : i < s.data.toList.length := hi
    have e := ref_Name_l0 s hs d k (i + 1) (by omega) (by omega)
    have hw : wrap64 ((i : Int) + 1) = ((i + 1 : Nat) : Int) := by rw [w64 (by omega) (by omega)]; omega
    have hb : bt s (i : Int) = ((s.data.toList[i]'hl).toNat : Int) := bt_at s i hi
    rw [headgateref03_Name.l0, if_pos (by omega), if_pos (by omega), ref_letter, ref_digit, Option.bind_some, Option.bind_some, hw, e, List.drop_eq_getElem_cons hl, List.all_cons, hb, mark5]
    generalize (s.data.toList[i]'hl).toNat = c
    generalize (s.data.toList.drop (i + 1)).all (fun c => mark_ 5 c.toNat) = R
    clear hb e hw
    unfold letter_ digit_
    by_cases a1 : (97 ≤ c ∧ c ≤ 122)
    · rw [decide_eq_true (show (97 : Int) ≤ c ∧ (c : Int) ≤ 122 by omega), if_pos rfl, decide_eq_true (by omega), Bool.true_and]
    rw [decide_eq_false (show ¬ ((97 : Int) ≤ c ∧ (c : Int) ≤ 122) by omega), if_neg (by decide)]
    by_cases a2 : (48 ≤ c ∧ c ≤ 57)
    · rw [decide_eq_true (show (48 : Int) ≤ c ∧ (c : Int) ≤ 57 by omega), if_pos rfl, decide_eq_true (by omega), Bool.true_and]
    rw [decide_eq_false (show ¬ ((48 : Int) ≤ c ∧ (c : Int) ≤ 57) by omega), if_neg (by decide)]
    by_cases a3 : c = 46
    · rw [if_pos (by omega), decide_eq_true (by omega), Bool.true_and]
    rw [if_neg (by omega)]
    by_cases a4 : c = 45
    · rw [if_pos (by omega), decide_eq_true (by omega), Bool.true_and]
    rw [if_neg (by omega)]
    by_cases a5 : c = 58
    · rw [if_pos (by omega), decide_eq_true (by omega), Bool.true_and]
    rw [if_neg (by omega), decide_eq_false (by omega), Bool.false_and]
theorem ref_Name_spec (k : Nat) (s : ByteArray) (hk : 70 ≤ k) : headgateref03_Name.f k s = some (nameB s) := by
  obtain ⟨k, rfl⟩ : ∃ q, k = q + 1 := ⟨k - 1, by omega⟩
  have ht : headgateref03_Name.j0 (k + 1) s true = some false := by rw [headgateref03_Name.j0, if_pos rfl]
  unfold headgateref03_Name.f nameB
  by_cases h1 : s.size < 1
  · rw [if_pos (by omega), ht, decide_eq_false (by omega), Bool.false_and]
  rw [if_neg (by omega)]
  by_cases h2 : s.size > 64
  · rw [if_pos (by omega), ht, decide_eq_false (by omega), Bool.false_and]
  rw [if_neg (by omega), if_pos (by omega), ref_letter, Option.bind_some]
  unfold letter_
  by_cases h3 : 97 ≤ bt s 0 ∧ bt s 0 ≤ 122
  · have e := ref_Name_l0 s (by omega) s.size k 0 (by omega) (by omega)
    rw [decide_eq_true h3, decide_eq_true ⟨by omega, by omega, h3.1, h3.2⟩, headgateref03_Name.j0, if_neg (by decide), Bool.true_and]
    exact e
  · rw [decide_eq_false h3, decide_eq_false (fun h => h3 h.2.2), Bool.false_and]
    exact ht
end Go.Proofs.YtmpicpenbhdbhaaDoor.Pure
