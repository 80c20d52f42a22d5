/- A text with another one set at a place: what the functions of chapter 1 answer, and its bytes. -/
import Derived.Test.YtmfbmioooafelaaFieldsLib
import Derived.Test.YtmfbmioooafelaaRefFields
import Derived.Test.YtmfbmioooafelaaNumBack
import Derived.Test.YtmfbmioooafelaaPx2
namespace Go.Proofs.Ytmfbmioooafelaa.Pure
open Go.RowKit Go.Proofs.Ytmfbmioooafelaa.P Go.Proofs.YtmfbmioooafelaaW.PrintWords Go.Proofs.YtmfbmioooafelaaW.PrintLast Go.Proofs.YtmfbmioooafelaaW.PrintMore Go.Proofs.Ytmfbmioooafelaa.Num
set_option linter.unusedVariables false
set_option linter.unusedSimpArgs false

/-- A text with another one set at a place. -/
def setAt (s : ByteArray) (a : Nat) (p : ByteArray) : ByteArray := (s.extract 0 a ++ p) ++ s.extract (a + p.size) s.size
theorem setAt_size (s p : ByteArray) (a : Nat) (h : a + p.size ≤ s.size) : (setAt s a p).size = s.size := by
  unfold setAt
  rw [ByteArray.size_append, ByteArray.size_append, ByteArray.size_extract, ByteArray.size_extract]
  omega
theorem setAt_list (s p : ByteArray) (a : Nat) : (setAt s a p).data.toList = s.data.toList.take a ++ p.data.toList ++ s.data.toList.drop (a + p.size) := by
  unfold setAt
  rw [ByteArray.data_append, ByteArray.data_append, ByteArray.data_extract, ByteArray.data_extract, Array.toList_append, Array.toList_append, Array.toList_extract, Array.toList_extract]
  simp [List.extract]
  rw [List.take_of_length_le]
  rw [List.length_drop]
  exact Nat.le_refl _
theorem bt_setAt (s p : ByteArray) (a i : Nat) (h : a + p.size ≤ s.size) (hi : i < s.size) : bt (setAt s a p) (i : Int) = if a ≤ i ∧ i < a + p.size then bt p ((i - a : Nat) : Int) else bt s (i : Int) := by
  have z1 : (s.extract 0 a).size = a := by rw [ByteArray.size_extract]; omega
  have z2 : (s.extract 0 a ++ p).size = a + p.size := by rw [ByteArray.size_append, z1]
  have z3 : (s.extract (a + p.size) s.size).size = s.size - (a + p.size) := by rw [ByteArray.size_extract]; omega
  unfold setAt
  by_cases h1 : i < a + p.size
  · rw [bt_append_left _ _ _ (by omega) (by omega)]
    by_cases h2 : a ≤ i
    · rw [if_pos ⟨h2, h1⟩, bt_append_right _ _ _ (by omega) (by omega), z1]
      congr 1
      omega
    · rw [if_neg (fun z => h2 z.1), bt_append_left _ _ _ (by omega) (by omega), bt_cut s 0 a i (by omega) (by omega), Nat.zero_add]
  · rw [if_neg (fun z => h1 z.2), bt_append_right _ _ _ (by omega) (by omega), z2]
    have e : (i : Int) - ((a + p.size : Nat) : Int) = ((i - (a + p.size) : Nat) : Int) := by omega
    rw [e, bt_cut s (a + p.size) s.size (i - (a + p.size)) (by omega) (Nat.le_refl _)]
    congr 1
    omega
theorem ref_Set_at (s p : ByteArray) (a : Nat) (hs : s.size ≤ 1000000) (h : a + p.size ≤ s.size) : headgateref01_Set.f s (a : Int) p = some (setAt s a p, true) := by
  unfold headgateref01_Set.f setAt
  have e2 : wrap64 ((a : Int) + (p.size : Int)) = ((a + p.size : Nat) : Int) := by rw [w64 (by omega) (by omega)]; omega
  rw [there_spec _ _ _ (by omega), Option.bind_some, decide_eq_true (by omega), if_pos rfl, e2, if_pos (by omega), if_pos (by omega), if_pos (by rw [ByteArray.size_extract]; omega), if_pos (by omega), if_pos (by omega), if_pos (by rw [ByteArray.size_append, ByteArray.size_extract, ByteArray.size_extract]; omega)]
  simp only [Int.toNat_natCast]
theorem ref_Put_at (s p : ByteArray) (a : Nat) (hs : s.size ≤ 1000000) (h : a + p.size ≤ s.size) : headgateref01_Put.f s (a : Int) p = some (setAt s a p) := by
  unfold headgateref01_Put.f
  rw [ref_Set_at s p a hs h]
  rfl
end Go.Proofs.Ytmfbmioooafelaa.Pure
