/- A whole name made out of a host. -/
import Derived.Test.YtgphjijejoagcaaNamesLib
namespace Go.Proofs.Ytgphjijejoagcaa.Pure
open Go.RowKit Go.Proofs.Ytgphjijejoagcaa.P Go.Proofs.YtgphjijejoagcaaW.PrintWords Go.Proofs.YtgphjijejoagcaaW.PrintLast Go.Proofs.YtgphjijejoagcaaW.PrintMore Go.Proofs.Ytgphjijejoagcaa.Num
set_option linter.unusedVariables false
set_option linter.unusedSimpArgs false

theorem name_front (P a : ByteArray) (hz : P.size = 12) (h0 : 97 ≤ bt P 0 ∧ bt P 0 ≤ 122) (hm : P.data.toList.all (fun c => mark_ 5 c.toNat) = true) : nameB (P ++ a) = (decide (a.size ≤ 52) && a.data.toList.all (fun c => mark_ 5 c.toNat)) := by
  have e0 : bt (P ++ a) 0 = bt P 0 := bt_append_left P a 0 (by decide) (by omega)
  have ez : (P ++ a).size = 12 + a.size := by rw [ByteArray.size_append, hz]
  have el : (P ++ a).data.toList = P.data.toList ++ a.data.toList := by rw [ByteArray.data_append, Array.toList_append]
  unfold nameB
  rw [e0, ez, el, List.all_append, hm, Bool.true_and]
  congr 1
  rw [decide_eq_decide]
  constructor
  · intro h; omega
  · intro h; exact ⟨by omega, by omega, h0.1, h0.2⟩
theorem bt_front (P a : ByteArray) (i : Nat) (h : i < P.size) : bt (P ++ a) (i : Int) = bt P (i : Int) := bt_append_left P a i (by omega) (by omega)
def asB (a : ByteArray) : Bool := decide (a.size ≤ 52) && nameB a
theorem dated_front' (P a w4 : ByteArray) (hz : P.size = 12) (h0 : 97 ≤ bt P 0 ∧ bt P 0 ≤ 122) (hm : P.data.toList.all (fun c => mark_ 5 c.toNat) = true) (h4 : digit_ (bt P 4) = true) (h5 : digit_ (bt P 5) = true) (h6 : digit_ (bt P 6) = true) (h7 : digit_ (bt P 7) = true) (h8 : bt P 8 = 45) (h9 : digit_ (bt P 9) = true) (h10 : digit_ (bt P 10) = true) (M : Int) (hM : (bt P 9 - 48) * 10 + (bt P 10 - 48) = M) (h11 : bt P 11 = 46) :
    datedB (P ++ a) w4 = (pre4 P w4 && (decide (1 ≤ M ∧ M ≤ 12) && asB a)) := by
  have ez : (P ++ a).size = 12 + a.size := by rw [ByteArray.size_append, hz]
  have b4 : bt (P ++ a) 4 = bt P 4 := bt_front P a 4 (by omega)
  have b5 : bt (P ++ a) 5 = bt P 5 := bt_front P a 5 (by omega)
  have b6 : bt (P ++ a) 6 = bt P 6 := bt_front P a 6 (by omega)
  have b7 : bt (P ++ a) 7 = bt P 7 := bt_front P a 7 (by omega)
  have b8 : bt (P ++ a) 8 = bt P 8 := bt_front P a 8 (by omega)
  have b9 : bt (P ++ a) 9 = bt P 9 := bt_front P a 9 (by omega)
  have b10 : bt (P ++ a) 10 = bt P 10 := bt_front P a 10 (by omega)
  have b11 : bt (P ++ a) 11 = bt P 11 := bt_front P a 11 (by omega)
  have ep : pre4 (P ++ a) w4 = pre4 P w4 := by
    unfold pre4
    rw [cut_left P a 0 4 (by omega)]
  have ec : (P ++ a).extract 12 (12 + a.size) = a := by
    rw [cut_right P a 12 _ (by omega), show 12 - P.size = 0 by omega, show 12 + a.size - P.size = a.size by omega, ByteArray.extract_zero_size]
  have et : tailB (P ++ a) = (decide (1 ≤ M ∧ M ≤ 12) && nameB a) := by
    unfold tailB month_
    rw [ez, ec]
    rw [b8, b9, b10, b11, h8, h9, h10, h11, hM]
    rfl
  unfold datedB
  rw [name_front P a hz h0 hm, ez, ep, restB_eq, et]
  rw [b4, b5, b6, b7, h4, h5, h6, h7]
  unfold asB
  cases hn : nameB a
  · simp
  · have h1 := hn
    unfold nameB at h1
    rw [Bool.and_eq_true] at h1
    have h2 := of_decide_eq_true h1.1
    rw [h1.2, decide_eq_true (show 12 < 12 + a.size by omega)]
    cases pre4 P w4 <;> cases decide (a.size ≤ 52) <;> cases decide (1 ≤ M ∧ M ≤ 12) <;> rfl
theorem dated_front (P a w4 : ByteArray) (hz : P.size = 12) (h0 : 97 ≤ bt P 0 ∧ bt P 0 ≤ 122) (hm : P.data.toList.all (fun c => mark_ 5 c.toNat) = true) (h4 : digit_ (bt P 4) = true) (h5 : digit_ (bt P 5) = true) (h6 : digit_ (bt P 6) = true) (h7 : digit_ (bt P 7) = true) (h8 : bt P 8 = 45) (h9 : bt P 9 = 48) (h10 : bt P 10 = 49) (h11 : bt P 11 = 46) :
    datedB (P ++ a) w4 = (pre4 P w4 && asB a) := by
  rw [dated_front' P a w4 hz h0 hm h4 h5 h6 h7 h8 (by rw [h9]; rfl) (by rw [h10]; rfl) 1 (by rw [h9, h10]; rfl) h11]
  rfl
def iqnP : ByteArray := ⟨#[105, 113, 110, 46, 50, 48, 50, 48, 45, 48, 49, 46]⟩
def nqnP : ByteArray := ⟨#[110, 113, 110, 46, 50, 48, 50, 48, 45, 48, 49, 46]⟩
theorem ii (a : ByteArray) : datedB (iqnP ++ a) iqn4 = asB a := (dated_front iqnP a iqn4 rfl (by decide +kernel) (by decide +kernel) (by decide +kernel) (by decide +kernel) (by decide +kernel) (by decide +kernel) (by decide +kernel) (by decide +kernel) (by decide +kernel) (by decide +kernel)).trans (by rw [show pre4 iqnP iqn4 = true by decide +kernel]; rfl)
theorem nn (a : ByteArray) : datedB (nqnP ++ a) nqn4 = asB a := (dated_front nqnP a nqn4 rfl (by decide +kernel) (by decide +kernel) (by decide +kernel) (by decide +kernel) (by decide +kernel) (by decide +kernel) (by decide +kernel) (by decide +kernel) (by decide +kernel) (by decide +kernel)).trans (by rw [show pre4 nqnP nqn4 = true by decide +kernel]; rfl)
theorem i_n (a : ByteArray) : datedB (iqnP ++ a) nqn4 = false := (dated_front iqnP a nqn4 rfl (by decide +kernel) (by decide +kernel) (by decide +kernel) (by decide +kernel) (by decide +kernel) (by decide +kernel) (by decide +kernel) (by decide +kernel) (by decide +kernel) (by decide +kernel)).trans (by rw [show pre4 iqnP nqn4 = false by decide +kernel]; rfl)
theorem n_i (a : ByteArray) : datedB (nqnP ++ a) iqn4 = false := (dated_front nqnP a iqn4 rfl (by decide +kernel) (by decide +kernel) (by decide +kernel) (by decide +kernel) (by decide +kernel) (by decide +kernel) (by decide +kernel) (by decide +kernel) (by decide +kernel) (by decide +kernel)).trans (by rw [show pre4 nqnP iqn4 = false by decide +kernel]; rfl)
theorem cut_P (P a : ByteArray) (hz : P.size = 12) : (P ++ a).extract 12 (P ++ a).size = a := by
  rw [ByteArray.size_append, hz]
  rw [cut_right P a 12 _ (by omega), show 12 - P.size = 0 by omega, show 12 + a.size - P.size = a.size by omega, ByteArray.extract_zero_size]
theorem host_i (a : ByteArray) (h : asB a = true) : hostB (iqnP ++ a) = (a, 0) := by
  unfold hostB
  rw [ii, h, if_pos rfl, cut_P iqnP a rfl]
theorem host_n (a : ByteArray) (h : asB a = true) : hostB (nqnP ++ a) = (a, 0) := by
  unfold hostB
  rw [n_i, nn, h, if_neg (by decide), if_pos rfl, cut_P nqnP a rfl]
theorem asB_big (a : ByteArray) (h : a.size > 64) : asB a = false := by
  unfold asB
  rw [decide_eq_false (by omega), Bool.false_and]
end Go.Proofs.Ytgphjijejoagcaa.Pure
