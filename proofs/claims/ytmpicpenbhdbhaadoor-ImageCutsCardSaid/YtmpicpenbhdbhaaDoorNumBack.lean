/- Numbers that were put into bytes, and cuts of joined texts: plain mathematics, nothing of the program. -/
import Derived.Test.YtmpicpenbhdbhaaDoorNum
import Derived.OpenShut
namespace Go.Proofs.YtmpicpenbhdbhaaDoor.Num
open Go.RowKit Go.Proofs.YtmpicpenbhdbhaaDoorW.PrintWords Go.Proofs.YtmpicpenbhdbhaaDoorW.PrintMore

theorem emod_mul' (v a b : Int) (ha : 0 < a) (hb : 0 < b) : v % (a * b) = v / a % b * a + v % a := by
  have e4 := Int.mul_ediv_add_emod v a
  have e5 := Int.mul_ediv_add_emod (v / a) b
  have c1 := Int.emod_nonneg v (b := a) (by omega)
  have c2 := Int.emod_lt_of_pos v ha
  have c3 := Int.emod_nonneg (v / a) (b := b) (by omega)
  have c4 := Int.emod_lt_of_pos (v / a) hb
  have e6 : v = (a * b) * (v / a / b) + (v / a % b * a + v % a) := by
    calc v = a * (v / a) + v % a := e4.symm
      _ = a * (b * (v / a / b) + v / a % b) + v % a := by rw [e5]
      _ = _ := by rw [Int.mul_add, ← Int.mul_assoc, Int.mul_comm (v / a % b) a]; omega
  conv => lhs; rw [e6]
  rw [Int.mul_add_emod_self_left]
  have h0 := Int.mul_nonneg c3 (Int.le_of_lt ha)
  refine Int.emod_eq_of_lt (by omega) ?_
  have h5 : v / a % b * a ≤ (b - 1) * a := Int.mul_le_mul_of_nonneg_right (by omega) (by omega)
  rw [Int.sub_mul, Int.one_mul, Int.mul_comm b a] at h5
  omega
theorem le_of (t : ByteArray) (a v : Int) (n : Nat) (h : ∀ i : Nat, i < n → bt t (a + i) = v / p i % 256) : ∀ j, j ≤ n → le t a j = v % p j
  | 0, _ => by simp [le, p_zero]
  | j + 1, hj => by
    show le t a j + bt t (a + j) * p j = _
    rw [le_of t a v n h j (by omega), h j (by omega), p_succ, emod_mul' v (p j) 256 (p_pos j) (by decide)]
    omega
theorem be_of (t : ByteArray) (a v : Int) (n : Nat) (h : ∀ i : Nat, i < n → bt t (a + i) = v / p (n - 1 - i) % 256) : ∀ j, j ≤ n → be t a j = v / p (n - j) % p j
  | 0, _ => by simp [be, p_zero]
  | j + 1, hj => by
    show be t a j * 256 + bt t (a + j) = _
    rw [be_of t a v n h j (by omega), h j (by omega), show n - 1 - j = n - (j + 1) by omega, p_succ]
    have e : v / p (n - j) = v / p (n - (j + 1)) / 256 := by
      rw [show n - j = n - (j + 1) + 1 by omega, p_succ, Int.ediv_ediv_of_nonneg (by have := p_pos (n - (j + 1)); omega)]
    rw [e, Int.mul_comm (p j) 256, emod_mul' (v / p (n - (j + 1))) 256 (p j) (by decide) (p_pos j)]
theorem byte_ok (x : Int) : 0 ≤ x % 256 ∧ x % 256 < 256 := by omega
theorem bt_leL (v : Int) (n i : Nat) (hi : i < n) : bt (strOfNums (leL v n)) (i : Int) = v / p i % 256 := by
  have e : (leL v n)[i]'(by rw [leL_length]; exact hi) = v / p i % 256 := by simp [leL]
  rw [strOfNums_get _ i (by rw [leL_length]; exact hi) (by rw [e]; exact byte_ok _), e]
theorem bt_beL (v : Int) (n i : Nat) (hi : i < n) : bt (strOfNums (beL v n)) (i : Int) = v / p (n - 1 - i) % 256 := by
  have e : (beL v n)[i]'(by rw [beL_length]; exact hi) = v / p (n - 1 - i) % 256 := by simp [beL]
  rw [strOfNums_get _ i (by rw [beL_length]; exact hi) (by rw [e]; exact byte_ok _), e]

/-! cuts of joined texts -/
theorem append_none (a b : ByteArray) (h : b.size = 0) : a ++ b = a := by
  apply ByteArray.ext
  have : b.data = #[] := Array.eq_empty_of_size_eq_zero h
  simp [this]
theorem none_append (a b : ByteArray) (h : a.size = 0) : a ++ b = b := by
  apply ByteArray.ext
  have : a.data = #[] := Array.eq_empty_of_size_eq_zero h
  simp [this]
theorem empty_of (a : ByteArray) (h : a.size = 0) : a = ⟨#[]⟩ := ByteArray.ext (Array.eq_empty_of_size_eq_zero h)
theorem cut_left (a b : ByteArray) (i j : Nat) (h : j ≤ a.size) : (a ++ b).extract i j = a.extract i j := by
  rw [ByteArray.extract_append]
  exact append_none _ _ (by rw [ByteArray.size_extract]; omega)
theorem cut_right (a b : ByteArray) (i j : Nat) (h : a.size ≤ i) : (a ++ b).extract i j = b.extract (i - a.size) (j - a.size) := by
  rw [ByteArray.extract_append]
  exact none_append _ _ (by rw [ByteArray.size_extract]; omega)
theorem cut_mid (a b c : ByteArray) (i j : Nat) (hi : i = a.size) (hj : j = a.size + b.size) : (a ++ (b ++ c)).extract i j = b := by
  rw [cut_right _ _ _ _ (by omega), cut_left _ _ _ _ (by omega), show i - a.size = 0 by omega, show j - a.size = b.size by omega, ByteArray.extract_zero_size]
theorem cut_cut (a : ByteArray) (k i j : Nat) (h : j ≤ k) : (a.extract 0 k).extract i j = a.extract i j := by
  rw [ByteArray.extract_extract]
  congr 1 <;> omega
theorem bt_at (s : ByteArray) (i : Nat) (h : i < s.size) : bt s (i : Int) = ((s.data.toList[i]'(by simpa using h)).toNat : Int) := by
  unfold bt
  rw [dif_pos (show ((i : Int)).toNat < s.size by simpa using h)]
  rfl
theorem bt_cut (s : ByteArray) (a b i : Nat) (h : a + i < b) (hb : b ≤ s.size) : bt (s.extract a b) (i : Int) = bt s ((a + i : Nat) : Int) := by
  rw [bt_at (s.extract a b) i (by rw [ByteArray.size_extract]; omega), bt_at s (a + i) (by omega)]
  simp
theorem be_same (s t : ByteArray) (a b : Int) : ∀ j : Nat, (∀ i : Nat, i < j → bt s (a + i) = bt t (b + i)) → be s a j = be t b j
  | 0, _ => rfl
  | j + 1, h => by
    show be s a j * 256 + bt s (a + j) = be t b j * 256 + bt t (b + j)
    rw [be_same s t a b j (fun i hi => h i (by omega)), h j (by omega)]
theorem le_same (s t : ByteArray) (a b : Int) : ∀ j : Nat, (∀ i : Nat, i < j → bt s (a + i) = bt t (b + i)) → le s a j = le t b j
  | 0, _ => rfl
  | j + 1, h => by
    show le s a j + bt s (a + j) * p j = le t b j + bt t (b + j) * p j
    rw [le_same s t a b j (fun i hi => h i (by omega)), h j (by omega)]
theorem be_beL (v : Int) (n : Nat) (h0 : 0 ≤ v) (h1 : v < p n) : be (strOfNums (beL v n)) 0 n = v := by
  rw [be_of (strOfNums (beL v n)) 0 v n (fun i hi => by rw [Int.zero_add]; exact bt_beL v n i hi) n (Nat.le_refl n), Nat.sub_self, p_zero, Int.ediv_one]
  exact Int.emod_eq_of_lt h0 h1
theorem le_leL (v : Int) (n : Nat) (h0 : 0 ≤ v) (h1 : v < p n) : le (strOfNums (leL v n)) 0 n = v := by
  rw [le_of (strOfNums (leL v n)) 0 v n (fun i hi => by rw [Int.zero_add]; exact bt_leL v n i hi) n (Nat.le_refl n)]
  exact Int.emod_eq_of_lt h0 h1
theorem toList_inj' (a b : ByteArray) : a.toList = b.toList ↔ a = b := by
  rw [ByteArray.toList_eq, ByteArray.toList_eq]
  constructor
  · intro h
    apply ByteArray.ext
    exact Array.toList_inj.mp h
  · intro h
    rw [h]
end Go.Proofs.YtmpicpenbhdbhaaDoor.Num
