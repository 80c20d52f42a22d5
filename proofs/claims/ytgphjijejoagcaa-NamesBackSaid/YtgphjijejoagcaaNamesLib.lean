/- What the program's and the document's name functions answer. -/
import Derived.Test.YtgphjijejoagcaaPx1
import Derived.Test.YtgphjijejoagcaaPx2
import Derived.Test.YtgphjijejoagcaaPx3
import Derived.Test.YtgphjijejoagcaaNumBack
namespace Go.Proofs.Ytgphjijejoagcaa.Pure
open Go.RowKit Go.Proofs.Ytgphjijejoagcaa.P Go.Proofs.YtgphjijejoagcaaW.PrintWords Go.Proofs.YtgphjijejoagcaaW.PrintLast Go.Proofs.YtgphjijejoagcaaW.PrintMore Go.Proofs.Ytgphjijejoagcaa.Num
set_option linter.unusedVariables false
set_option linter.unusedSimpArgs false

theorem mark5 (c : Nat) : mark_ 5 c = decide ((97 ≤ c ∧ c ≤ 122) ∨ (48 ≤ c ∧ c ≤ 57) ∨ c = 46 ∨ c = 45 ∨ c = 58) := by
  rw [Bool.eq_iff_iff]
  simp only [mark_, lo_, hi_, Bool.false_or, Bool.or_eq_true, decide_eq_true_eq]
  omega
def letter_ (b : Int) : Bool := decide (97 ≤ b ∧ b ≤ 122)
def digit_ (b : Int) : Bool := decide (48 ≤ b ∧ b ≤ 57)
def iqn4 : ByteArray := ⟨#[105, 113, 110, 46]⟩
def nqn4 : ByteArray := ⟨#[110, 113, 110, 46]⟩
def pre4 (s w : ByteArray) : Bool := (s.extract 0 4).toList == w.toList
def datedB (s w : ByteArray) : Bool := nameB s && (decide (12 < s.size) && (pre4 s w && restB s))
def hostB (s : ByteArray) : ByteArray × Int := if datedB s iqn4 = true then (s.extract 12 s.size, 0) else if datedB s nqn4 = true then (s.extract 12 s.size, 0) else ((⟨#[]⟩ : ByteArray), 30)
theorem dated_size {s w : ByteArray} (h : datedB s w = true) : 12 < s.size ∧ s.size ≤ 64 := by
  unfold datedB at h
  rw [Bool.and_eq_true, Bool.and_eq_true] at h
  exact ⟨of_decide_eq_true h.2.1, name_le s h.1⟩
theorem HasPrefix_spec (s w : ByteArray) (h : w.size ≤ s.size) : strings_HasPrefix.f s w = some ((s.extract 0 w.size).toList == w.toList) := by
  unfold strings_HasPrefix.f stringslite_HasPrefix.f
  rw [if_pos (by omega), if_pos (by omega), if_pos (by omega), Option.bind_some]
  rfl
theorem dated_spec (s w w4 : ByteArray) (hw : w.size = 3) (e : w ++ (⟨#[46]⟩ : ByteArray) = w4) : names_dated.f s w = some (datedB s w4) := by
  have h4 : w4.size = 4 := by rw [← e, ByteArray.size_append, hw]; rfl
  unfold names_dated.f datedB pre4
  rw [if_pos (by omega), e]
  cases hn : nameB s
  · rfl
  rw [if_pos rfl]
  by_cases hs : 12 < s.size
  · rw [if_pos hs, HasPrefix_spec s w4 (by omega), Option.bind_some, h4, decide_eq_true hs]
    cases (s.extract 0 4).toList == w4.toList <;> rfl
  · rw [if_neg hs, decide_eq_false hs]
    rfl
theorem Iqn_spec (s : ByteArray) : names_Iqn.f s = some (datedB s iqn4) := by
  unfold names_Iqn.f
  rw [dated_spec s _ iqn4 rfl rfl]
  rfl
theorem Nqn_spec (s : ByteArray) : names_Nqn.f s = some (datedB s nqn4) := by
  unfold names_Nqn.f
  rw [dated_spec s _ nqn4 rfl rfl]
  rfl
theorem Host_spec (s : ByteArray) : names_Host.f s = some (hostB s) := by
  unfold names_Host.f hostB
  rw [Iqn_spec, Nqn_spec, Option.bind_some, Option.bind_some]
  cases h1 : datedB s iqn4
  · cases h2 : datedB s nqn4
    · rfl
    · have := dated_size h2
      have hz : (12 : Int) ≤ (s.size : Int) := by omega
      simp only [Bool.false_eq_true, if_false, if_true, if_pos hz]
  · have := dated_size h1
    have hz : (12 : Int) ≤ (s.size : Int) := by omega
    simp only [if_true, if_pos hz]
-- the document's own
theorem ref_letter (b : Int) : headgateref03_letter.f b = some (letter_ b) := by
  unfold headgateref03_letter.f letter_
  split
  · congr 1
    rw [decide_eq_decide]
    omega
  · rw [decide_eq_false (by omega)]
theorem ref_digit (b : Int) : headgateref03_digit.f b = some (digit_ b) := by
  unfold headgateref03_digit.f digit_
  split
  · congr 1
    rw [decide_eq_decide]
    omega
  · rw [decide_eq_false (by omega)]
theorem ref_Name_l0 (s : ByteArray) (hs : s.size ≤ 64) : ∀ (d k i : Nat), i + d = s.size → d < k → headgateref03_Name.l0 k s (i : Int) = some ((s.data.toList.drop i).all (fun c => mark_ 5 c.toNat))
  | 0, k + 1, i, h, _ => by
    rw [headgateref03_Name.l0, if_neg (by omega), List.drop_eq_nil_of_le (show s.data.toList.length ≤ i by show s.size ≤ i; omega)]
    rfl
  | d + 1, k + 1, i, h, hk => by
    have hi : i < s.size := by omega
    have hl : i < s.data.toList.length := hi
    have e := ref_Name_l0 s hs d k (i + 1) (by omega) (by omega)
    have hw : wrap64 ((i : Int) + 1) = ((i + 1 : Nat) : Int) := by rw [w64 (by omega) (by omega)]; omega
    have hb : bt s (i : Int) = ((s.data.toList[i]'hl).toNat : Int) := bt_at s i hi
    rw [headgateref03_Name.l0, if_pos (by omega), if_pos (by omega), ref_letter, ref_digit, Option.bind_some, Option.bind_some, hw, e, List.drop_eq_getElem_cons hl, List.all_cons, hb, mark5]
    generalize (s.data.toList[i]'hl).toNat = c
    generalize (s.data.toList.drop (i + 1)).all (fun c => mark_ 5 c.toNat) = R
    clear hb e hw
    unfold letter_ digit_
    by_cases a1 : (97 ≤ c ∧ c ≤ 122)
    · rw [decide_eq_true (show (97 : Int) ≤ c ∧ (c : Int) ≤ 122 by omega), if_pos rfl, decide_eq_true (by omega), Bool.true_and]
    rw [decide_eq_false (show ¬ ((97 : Int) ≤ c ∧ (c : Int) ≤ 122) by omega), if_neg (by decide)]
    by_cases a2 : (48 ≤ c ∧ c ≤ 57)
    · rw [decide_eq_true (show (48 : Int) ≤ c ∧ (c : Int) ≤ 57 by omega), if_pos rfl, decide_eq_true (by omega), Bool.true_and]
    rw [decide_eq_false (show ¬ ((48 : Int) ≤ c ∧ (c : Int) ≤ 57) by omega), if_neg (by decide)]
    by_cases a3 : c = 46
    · rw [if_pos (by omega), decide_eq_true (by omega), Bool.true_and]
    rw [if_neg (by omega)]
    by_cases a4 : c = 45
    · rw [if_pos (by omega), decide_eq_true (by omega), Bool.true_and]
    rw [if_neg (by omega)]
    by_cases a5 : c = 58
    · rw [if_pos (by omega), decide_eq_true (by omega), Bool.true_and]
    rw [if_neg (by omega), decide_eq_false (by omega), Bool.false_and]
theorem ref_Name_spec (k : Nat) (s : ByteArray) (hk : 70 ≤ k) : headgateref03_Name.f k s = some (nameB s) := by
  obtain ⟨k, rfl⟩ : ∃ q, k = q + 1 := ⟨k - 1, by omega⟩
  have ht : headgateref03_Name.j0 (k + 1) s true = some false := by rw [headgateref03_Name.j0, if_pos rfl]
  unfold headgateref03_Name.f nameB
  by_cases h1 : s.size < 1
  · rw [if_pos (by omega), ht, decide_eq_false (by omega), Bool.false_and]
  rw [if_neg (by omega)]
  by_cases h2 : s.size > 64
  · rw [if_pos (by omega), ht, decide_eq_false (by omega), Bool.false_and]
  rw [if_neg (by omega), if_pos (by omega), ref_letter, Option.bind_some]
  unfold letter_
  by_cases h3 : 97 ≤ bt s 0 ∧ bt s 0 ≤ 122
  · have e := ref_Name_l0 s (by omega) s.size k 0 (by omega) (by omega)
    rw [decide_eq_true h3, decide_eq_true ⟨by omega, by omega, h3.1, h3.2⟩, headgateref03_Name.j0, if_neg (by decide), Bool.true_and]
    exact e
  · rw [decide_eq_false h3, decide_eq_false (fun h => h3 h.2.2), Bool.false_and]
    exact ht
theorem good_num (s : ByteArray) (j : Nat) (h4 : j ≠ 4) (h7 : j ≠ 7) : good_ s j = digit_ (bt s ((4 + j : Nat) : Int)) := by
  unfold good_ digit_
  rw [if_neg h4, if_neg h7]
theorem range8 (f : Nat → Bool) : (List.range 8).all f = (f 0 && (f 1 && (f 2 && (f 3 && (f 4 && (f 5 && (f 6 && f 7))))))) := by
  have : List.range 8 = [0, 1, 2, 3, 4, 5, 6, 7] := by decide
  rw [this]
  simp only [List.all_cons, List.all_nil, Bool.and_true]
/-- What stands behind the four digits of the year. -/
def tailB (s : ByteArray) : Bool := decide (bt s 8 = 45) && (digit_ (bt s 9) && (digit_ (bt s 10) && (decide (bt s 11 = 46) && (decide (1 ≤ month_ s ∧ month_ s ≤ 12) && nameB (s.extract 12 s.size)))))
theorem restB_eq (s : ByteArray) : restB s = (digit_ (bt s 4) && (digit_ (bt s 5) && (digit_ (bt s 6) && (digit_ (bt s 7) && tailB s)))) := by
  unfold restB tailB
  rw [range8, good_num s 0 (by decide) (by decide), good_num s 1 (by decide) (by decide), good_num s 2 (by decide) (by decide), good_num s 3 (by decide) (by decide), good_num s 5 (by decide) (by decide), good_num s 6 (by decide) (by decide)]
  have e4 : good_ s 4 = decide (bt s 8 = 45) := rfl
  have e7 : good_ s 7 = decide (bt s 11 = 46) := rfl
  rw [e4, e7]
  simp only [Bool.and_assoc]
  rfl
theorem ref_tail (k : Nat) (s : ByteArray) (hk : 70 ≤ k) (hs : 12 < s.size) : headgateref03_dated.l0 (k + 1) s 8 = some (tailB s) := by
  rw [headgateref03_dated.l0, if_neg (by decide), if_pos (by omega)]
  unfold tailB
  by_cases a : bt s 8 = 45
  · rw [if_pos a, decide_eq_true a, Bool.true_and, if_pos (by omega), ref_digit, Option.bind_some]
    cases b : digit_ (bt s 9)
    · rw [if_neg (by decide), Bool.false_and]
    rw [if_pos rfl, Bool.true_and, if_pos (by omega), ref_digit, Option.bind_some]
    cases c : digit_ (bt s 10)
    · rw [if_neg (by decide), Bool.false_and]
    rw [if_pos rfl, Bool.true_and, if_pos (by omega)]
    by_cases d : bt s 11 = 46
    · rw [if_pos d, decide_eq_true d, Bool.true_and]
      have b' := of_decide_eq_true b
      have c' := of_decide_eq_true c
      have em : (bt s 9 - 48) % 256 * 10 + (bt s 10 - 48) % 256 = month_ s := by unfold month_; omega
      rw [em]
      by_cases f : 1 ≤ month_ s
      · rw [if_pos f]
        by_cases g : month_ s ≤ 12
        · rw [if_pos g, if_pos (by omega), decide_eq_true ⟨f, g⟩, Bool.true_and, ref_Name_spec k _ hk, Option.bind_some]
        · rw [if_neg g, decide_eq_false (fun h => g h.2), Bool.false_and]
      · rw [if_neg f, decide_eq_false (fun h => f h.1), Bool.false_and]
    · rw [if_neg d, decide_eq_false d, Bool.false_and]
  · rw [if_neg a, decide_eq_false a, Bool.false_and]
theorem ref_year (k : Nat) (s : ByteArray) (x : Int) (R : Bool) (h4 : 4 ≤ x) (h8 : x < 8) (hs : 12 < s.size) (e : headgateref03_dated.l0 k s (x + 1) = some R) : headgateref03_dated.l0 (k + 1) s x = some (digit_ (bt s x) && R) := by
  rw [headgateref03_dated.l0, if_pos h8, if_pos (by omega), if_pos (by omega), ref_digit, Option.bind_some, w64 (by omega) (by omega), e]
  cases digit_ (bt s x) <;> rfl
theorem ref_dated_spec (k : Nat) (s w4 : ByteArray) (hk : 80 ≤ k) : headgateref03_dated.f k s w4 = some (datedB s w4) := by
  obtain ⟨k, rfl⟩ : ∃ q, k = q + 6 := ⟨k - 6, by omega⟩
  have ht : headgateref03_dated.j0 (k + 6) s true = some false := by rw [headgateref03_dated.j0, if_pos rfl]
  unfold headgateref03_dated.f datedB pre4
  rw [ref_Name_spec _ _ (by omega), Option.bind_some]
  cases hn : nameB s
  · rw [if_neg (by decide), ht]
    rfl
  rw [if_pos rfl, Bool.true_and]
  by_cases hs : 12 < s.size
  · rw [if_neg (by omega), if_pos (by decide), if_pos (by omega), decide_eq_true hs, Bool.true_and]
    cases hp : ((s.extract 0 4).toList == w4.toList)
    · have : ((s.extract 0 4).toList != w4.toList) = true := by rw [bne, hp]; rfl
      rw [this, ht]
      rfl
    · have : ((s.extract 0 4).toList != w4.toList) = false := by rw [bne, hp]; rfl
      have e8 := ref_tail k s (by omega) hs
      have e7 := ref_year (k + 1) s 7 _ (by decide) (by decide) hs e8
      have e6 := ref_year (k + 2) s 6 _ (by decide) (by decide) hs e7
      have e5 := ref_year (k + 3) s 5 _ (by decide) (by decide) hs e6
      have e4 := ref_year (k + 4) s 4 _ (by decide) (by decide) hs e5
      rw [this, headgateref03_dated.j0, if_neg (by decide), e4, restB_eq, Bool.true_and]
  · rw [if_pos (by omega), ht, decide_eq_false hs, Bool.false_and]
theorem ref_Iqn_spec (k : Nat) (s : ByteArray) (hk : 80 ≤ k) : headgateref03_Iqn.f k s = some (datedB s iqn4) := by
  unfold headgateref03_Iqn.f
  rw [ref_dated_spec k s _ hk]
  rfl
theorem ref_Nqn_spec (k : Nat) (s : ByteArray) (hk : 80 ≤ k) : headgateref03_Nqn.f k s = some (datedB s nqn4) := by
  unfold headgateref03_Nqn.f
  rw [ref_dated_spec k s _ hk]
  rfl
theorem wakes_ok : headgatelaw03_wakes.f = some true := by
  unfold headgatelaw03_wakes.f
  rw [Host_spec, Iqn_spec, Nqn_spec]
  have a : datedB (⟨#[105, 113, 110, 46, 50, 48, 50, 48, 45, 48, 49, 46, 97, 58, 98]⟩ : ByteArray) iqn4 = true := by decide +kernel
  have b : datedB (⟨#[105, 113, 110, 46, 50, 48, 50, 48, 45, 49, 51, 46, 97]⟩ : ByteArray) iqn4 = false := by decide +kernel
  have c : datedB (⟨#[110, 113, 110, 46, 50, 48, 50, 48, 45, 49, 50, 46, 97]⟩ : ByteArray) nqn4 = true := by decide +kernel
  unfold hostB
  rw [a, b, c, if_pos rfl, Option.bind_some, if_pos rfl, if_pos (by decide +kernel)]
  rfl
end Go.Proofs.Ytgphjijejoagcaa.Pure
