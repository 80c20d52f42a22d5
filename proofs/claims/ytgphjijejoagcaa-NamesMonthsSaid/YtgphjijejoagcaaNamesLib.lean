/- What the program's and the document's name functions answer. -/
import Derived.Test.YtgphjijejoagcaaPx1
import Derived.Test.YtgphjijejoagcaaNumBack
namespace Go.Proofs.Ytgphjijejoagcaa.Pure
open Go.RowKit Go.Proofs.Ytgphjijejoagcaa.P Go.Proofs.YtgphjijejoagcaaW.PrintWords Go.Proofs.YtgphjijejoagcaaW.PrintLast Go.Proofs.YtgphjijejoagcaaW.PrintMore Go.Proofs.Ytgphjijejoagcaa.Num
set_option linter.unusedVariables false
set_option linter.unusedSimpArgs false

theorem mark5 (c : Nat) : mark_ 5 c = decide ((97 ≤ c ∧ c ≤ 122) ∨ (48 ≤ c ∧ c ≤ 57) ∨ c = 46 ∨ c = 45 ∨ c = 58) := by
  rw [Bool.eq_iff_iff]
  simp only [mark_, lo_, hi_, Bool.false_or, Bool.or_eq_true, decide_eq_true_eq]
  omega
def letter_ (b : Int) : Bool := decide (97 ≤ b ∧ b ≤ 122)
def digit_ (b : Int) : Bool := decide (48 ≤ b ∧ b ≤ 57)
def iqn4 : ByteArray := ⟨#[105, 113, 110, 46]⟩
def nqn4 : ByteArray := ⟨#[110, 113, 110, 46]⟩
def pre4 (s w : ByteArray) : Bool := (s.extract 0 4).toList == w.toList
def datedB (s w : ByteArray) : Bool := nameB s && (decide (12 < s.size) && (pre4 s w && restB s))
def hostB (s : ByteArray) : ByteArray × Int := if datedB s iqn4 = true then (s.extract 12 s.size, 0) else if datedB s nqn4 = true then (s.extract 12 s.size, 0) else ((⟨#[]⟩ : ByteArray), 30)
theorem dated_size {s w : ByteArray} (h : datedB s w = true) : 12 < s.size ∧ s.size ≤ 64 := by
  unfold datedB at h
  rw [Bool.and_eq_true, Bool.and_eq_true] at h
  exact ⟨of_decide_eq_true h.2.1, name_le s h.1⟩
theorem HasPrefix_spec (s w : ByteArray) (h : w.size ≤ s.size) : strings_HasPrefix.f s w = some ((s.extract 0 w.size).toList == w.toList) := by
  unfold strings_HasPrefix.f stringslite_HasPrefix.f
  rw [if_pos (by omega), if_pos (by omega), if_pos (by omega), Option.bind_some]
  rfl
theorem dated_spec (s w w4 : ByteArray) (hw : w.size = 3) (e : w ++ (⟨#[46]⟩ : ByteArray) = w4) : names_dated.f s w = some (datedB s w4) := by
  have h4 : w4.size = 4 := by rw [← e, ByteArray.size_append, hw]; rfl
  unfold names_dated.f datedB pre4
  rw [if_pos (by omega), e]
  cases hn : nameB s
  · rfl
  rw [if_pos rfl]
  by_cases hs : 12 < s.size
  · rw [if_pos hs, HasPrefix_spec s w4 (by omega), Option.bind_some, h4, decide_eq_true hs]
    cases (s.extract 0 4).toList == w4.toList <;> rfl
  · rw [if_neg hs, decide_eq_false hs]
    rfl
theorem Iqn_spec (s : ByteArray) : names_Iqn.f s = some (datedB s iqn4) := by
  unfold names_Iqn.f
  rw [dated_spec s _ iqn4 rfl rfl]
  rfl
theorem Nqn_spec (s : ByteArray) : names_Nqn.f s = some (datedB s nqn4) := by
  unfold names_Nqn.f
  rw [dated_spec s _ nqn4 rfl rfl]
  rfl
theorem Host_spec (s : ByteArray) : names_Host.f s = some (hostB s) := by
  unfold names_Host.f hostB
  rw [Iqn_spec, Nqn_spec, Option.bind_some, Option.bind_some]
  cases h1 : datedB s iqn4
  · cases h2 : datedB s nqn4
    · rfl
    · have := dated_size h2
      have hz : (12 : Int) ≤ (s.size : Int) := by omega
      simp only [Bool.false_eq_true, if_false, if_true, if_pos hz]
  · have := dated_size h1
    have hz : (12 : Int) ≤ (s.size : Int) := by omega
    simp only [if_true, if_pos hz]
theorem good_num (s : ByteArray) (j : Nat) (h4 : j ≠ 4) (h7 : j ≠ 7) : good_ s j = digit_ (bt s ((4 + j : Nat) : Int)) := by
  unfold good_ digit_
  rw [if_neg h4, if_neg h7]
theorem range8 (f : Nat → Bool) : (List.range 8).all f = (f 0 && (f 1 && (f 2 && (f 3 && (f 4 && (f 5 && (f 6 && f 7))))))) := by
  have : List.range 8 = [0, 1, 2, 3, 4, 5, 6, 7] := by decide
  rw [this]
  simp only [List.all_cons, List.all_nil, Bool.and_true]
/-- What stands behind the four digits of the year. -/
def tailB (s : ByteArray) : Bool := decide (bt s 8 = 45) && (digit_ (bt s 9) && (digit_ (bt s 10) && (decide (bt s 11 = 46) && (decide (1 ≤ month_ s ∧ month_ s ≤ 12) && nameB (s.extract 12 s.size)))))
theorem restB_eq (s : ByteArray) : restB s = (digit_ (bt s 4) && (digit_ (bt s 5) && (digit_ (bt s 6) && (digit_ (bt s 7) && tailB s)))) := by
  unfold restB tailB
  rw [range8, good_num s 0 (by decide) (by decide), good_num s 1 (by decide) (by decide), good_num s 2 (by decide) (by decide), good_num s 3 (by decide) (by decide), good_num s 5 (by decide) (by decide), good_num s 6 (by decide) (by decide)]
  have e4 : good_ s 4 = decide (bt s 8 = 45) := rfl
  have e7 : good_ s 7 = decide (bt s 11 = 46) := rfl
  rw [e4, e7]
  simp only [Bool.and_assoc]
  rfl
theorem wakes_ok : headgatelaw03_wakes.f = some true := by
  unfold headgatelaw03_wakes.f
  rw [Host_spec, Iqn_spec, Nqn_spec]
  have a : datedB (⟨#[105, 113, 110, 46, 50, 48, 50, 48, 45, 48, 49, 46, 97, 58, 98]⟩ : ByteArray) iqn4 = true := by decide +kernel
  have b : datedB (⟨#[105, 113, 110, 46, 50, 48, 50, 48, 45, 49, 51, 46, 97]⟩ : ByteArray) iqn4 = false := by decide +kernel
  have c : datedB (⟨#[110, 113, 110, 46, 50, 48, 50, 48, 45, 49, 50, 46, 97]⟩ : ByteArray) nqn4 = true := by decide +kernel
  unfold hostB
  rw [a, b, c, if_pos rfl, Option.bind_some, if_pos rfl, if_pos (by decide +kernel)]
  rfl
end Go.Proofs.Ytgphjijejoagcaa.Pure
