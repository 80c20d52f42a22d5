/- A text of which one byte is turned: its parts, and its digest. -/
import Derived.Test.YtkbjhblffbcleaaDoorCrcLib
import Derived.Test.YtkbjhblffbcleaaDoorNumBack
namespace Go.Proofs.YtkbjhblffbcleaaDoor.Pure
open Go.RowKit Go.Proofs.YtkbjhblffbcleaaDoor.P Go.Proofs.YtkbjhblffbcleaaDoorW.PrintWords Go.Proofs.YtkbjhblffbcleaaDoorW.PrintLast Go.Proofs.YtkbjhblffbcleaaDoorW.PrintMore Go.Proofs.YtkbjhblffbcleaaDoor.Num
set_option linter.unusedVariables false
set_option linter.unusedSimpArgs false

def setB (s : ByteArray) (m : Nat) (c : UInt8) : ByteArray := ⟨(s.data.toList.set m c).toArray⟩
theorem setB_list (s : ByteArray) (m : Nat) (c : UInt8) : (setB s m c).data.toList = s.data.toList.set m c := rfl
theorem setB_size (s : ByteArray) (m : Nat) (c : UInt8) : (setB s m c).size = s.size := by
  show (s.data.toList.set m c).toArray.size = s.data.size
  simp
theorem ext_list {a b : ByteArray} (h : a.data.toList = b.data.toList) : a = b := ByteArray.ext (Array.toList_inj.mp h)
theorem extract_list (s : ByteArray) (i j : Nat) : (s.extract i j).data.toList = (s.data.toList.drop i).take (j - i) := by
  rw [ByteArray.data_extract, Array.toList_extract]
theorem set_cut_out (s : ByteArray) (m : Nat) (c : UInt8) (i j : Nat) (h : m < i ∨ j ≤ m) : (setB s m c).extract i j = s.extract i j := by
  apply ext_list
  rw [extract_list, extract_list, setB_list]
  apply List.ext_getElem?
  intro q
  rw [List.getElem?_take, List.getElem?_take]
  split
  · rw [List.getElem?_drop, List.getElem?_drop, List.getElem?_set]
    rw [if_neg (by omega)]
  · rfl
theorem set_cut_in (s : ByteArray) (m : Nat) (c : UInt8) (i j : Nat) (h0 : i ≤ m) (h1 : m < j) (h2 : j ≤ s.size) : (setB s m c).extract i j = setB (s.extract i j) (m - i) c := by
  apply ext_list
  rw [extract_list, setB_list, setB_list, extract_list]
  have hl : s.data.toList.length = s.size := rfl
  apply List.ext_getElem?
  intro q
  rw [List.getElem?_take, List.getElem?_set, List.getElem?_take]
  simp only [List.getElem?_drop, List.getElem?_set, List.length_take, List.length_drop]
  by_cases hq : q < j - i
  · rw [if_pos hq, if_pos hq]
    by_cases he : m = i + q
    · rw [if_pos he, if_pos (by omega), if_pos (by omega), if_pos (by omega)]
    · rw [if_neg he, if_neg (by omega)]
  · rw [if_neg hq, if_neg hq]
    by_cases he : m - i = q
    · rw [if_pos he, if_neg (by omega)]
    · rw [if_neg he]
theorem dig_inj (x y : ByteArray) (h : dig x = dig y) : Crc.more 0 x.data.toList = Crc.more 0 y.data.toList := by
  have hp : p 4 = 4294967296 := by decide
  have hx := Crc.more_lt (w := 0) (by decide) x.data.toList
  have hy := Crc.more_lt (w := 0) (by decide) y.data.toList
  have h1 := le_leL ((Crc.more 0 x.data.toList : Nat) : Int) 4 (by omega) (by omega)
  have h2 := le_leL ((Crc.more 0 y.data.toList : Nat) : Int) 4 (by omega) (by omega)
  unfold dig at h
  rw [h, h2] at h1
  omega
theorem dig_set (x : ByteArray) (m : Nat) (c : UInt8) (hm : m < x.size) (h : setB x m c ≠ x) : dig (setB x m c) ≠ dig x := by
  intro hd
  have h1 := Crc.more_inj (dig_inj _ _ hd)
  have hl : m < x.data.toList.length := hm
  rw [setB_list] at h1
  have e1 : x.data.toList.set m c = x.data.toList.take m ++ c :: x.data.toList.drop (m + 1) := List.set_eq_take_append_cons_drop.trans (if_pos hl)
  have e2 : x.data.toList = x.data.toList.take m ++ x.data.toList[m] :: x.data.toList.drop (m + 1) := by
    rw [← List.drop_eq_getElem_cons hl, List.take_append_drop]
  have h2 := h1
  rw [e1] at h2
  conv at h2 => rhs; rw [e2]
  have h3 := Crc.turned1 _ _ _ _ _ (by decide) h2
  apply h
  apply ext_list
  rw [setB_list, h3]
  exact List.set_getElem_self hl
/-- Turned anywhere outside of a part: the whole is turned where the part is. -/
theorem setB_ne_cut (s : ByteArray) (m : Nat) (c : UInt8) (i j : Nat) (h0 : i ≤ m) (h1 : m < j) (h2 : j ≤ s.size) (h : setB s m c ≠ s) : setB (s.extract i j) (m - i) c ≠ s.extract i j := by
  intro he
  apply h
  have hl : m < s.data.toList.length := Nat.lt_of_lt_of_le h1 h2
  have h3 := congrArg (fun b : ByteArray => b.data.toList[m - i]?) he
  simp only [setB_list, extract_list] at h3
  rw [List.getElem?_set, if_pos rfl, if_pos (by rw [List.length_take, List.length_drop]; have : s.data.toList.length = s.size := rfl; omega), List.getElem?_take, if_pos (by omega), List.getElem?_drop, show i + (m - i) = m by omega, List.getElem?_eq_getElem hl] at h3
  have h4 := Option.some.inj h3
  apply ext_list
  rw [setB_list, h4]
  exact List.set_getElem_self hl
end Go.Proofs.YtkbjhblffbcleaaDoor.Pure
