/- What the functions of the package fields answer. -/
import Derived.Test.YtmpicpenbhdbhaaDoorPx2
import Derived.Test.YtmpicpenbhdbhaaDoorPx4
import Derived.Test.YtmpicpenbhdbhaaDoorNum
namespace Go.Proofs.YtmpicpenbhdbhaaDoor.Pure
open Go.RowKit Go.Proofs.YtmpicpenbhdbhaaDoor.P Go.Proofs.YtmpicpenbhdbhaaDoorW.PrintWords Go.Proofs.YtmpicpenbhdbhaaDoorW.PrintLast Go.Proofs.YtmpicpenbhdbhaaDoorW.PrintMore Go.Proofs.YtmpicpenbhdbhaaDoor.Num
set_option linter.unusedVariables false
set_option linter.unusedSimpArgs false

/-- By how much the bytes are moved. -/
def shs (n : Nat) (b : Bool) : List Int := (List.range n).map fun i => if b = true then 8 * ((n - 1 - i : Nat) : Int) else 8 * (i : Int)
theorem shs_length (n : Nat) (b : Bool) : (shs n b).length = n := by simp [shs]
theorem shifts_l0 (n : Nat) (b : Bool) (hn : n ≤ 8) : ∀ (d k i : Nat), i + d = n → d < k →
    fields_shifts.l0 k n b ((shs n b).take i) n i = some (shs n b) := by
  intro d
  induction d with
  | zero =>
    intro k i hi hk
    obtain ⟨k, rfl⟩ : ∃ q, k = q + 1 := ⟨k - 1, by omega⟩
    rw [fields_shifts.l0, if_neg (by omega), List.take_of_length_le (by rw [shs_length]; omega)]
  | succ d ih =>
    intro k i hi hk
    obtain ⟨k, rfl⟩ : ∃ q, k = q + 1 := ⟨k - 1, by omega⟩
    have hl : ((shs n b).take i).length < 17592186044416 := by rw [List.length_take, shs_length]; omega
    have ht : (shs n b).take (i + 1) = (shs n b).take i ++ [if b = true then 8 * ((n - 1 - i : Nat) : Int) else 8 * (i : Int)] := by
      rw [List.take_succ_eq_append_getElem (by rw [shs_length]; omega)]
      simp [shs]
    have hw : wrap64 ((i : Int) + 1) = ((i + 1 : Nat) : Int) := by rw [w64 (by omega) (by omega)]; omega
    have := ih k (i + 1) (by omega) (by omega)
    rw [ht] at this
    rw [fields_shifts.l0, if_pos (by omega)]
    cases b with
    | true =>
      have e : wrap64 (8 * wrap64 (wrap64 ((n : Int) - 1) - i)) = 8 * ((n - 1 - i : Nat) : Int) := by
        rw [w64 (n := (n : Int) - 1) (by omega) (by omega), w64 (n := (n : Int) - 1 - i) (by omega) (by omega), w64 (by omega) (by omega)]
        omega
      rw [if_pos rfl, if_pos hl, hw, e]
      exact this
    | false =>
      have e : wrap64 (8 * (i : Int)) = 8 * (i : Int) := w64 (by omega) (by omega)
      rw [if_neg (by decide), if_pos hl, hw, e]
      exact this
theorem shifts_spec (n : Nat) (b : Bool) (hn : n ≤ 8) (k : Nat) (hk : n < k) : fields_shifts.f k n b = some (shs n b) := by
  unfold fields_shifts.f
  have := shifts_l0 n b hn n k 0 (by omega) hk
  exact this
theorem rd_shs (n : Nat) (b : Bool) (i : Nat) (hi : i < n) : rd (shs n b) (i : Int) = 8 * ((if b = true then n - 1 - i else i : Nat) : Int) := by
  unfold rd
  rw [List.getD_eq_getElem?_getD, List.getElem?_eq_getElem (by rw [shs_length]; omega)]
  simp [shs]
  cases b <;> simp

/-- The number of n bytes. -/
def val (b : Bool) (s : ByteArray) (a : Int) (n : Nat) : Int := if b = true then be s a n else le s a n
theorem val_bounds (b : Bool) (s : ByteArray) (a : Int) (n : Nat) : 0 ≤ val b s a n ∧ val b s a n < p n := by
  unfold val
  cases b
  · exact le_bounds s a n
  · exact be_bounds s a n
/-- What stands in the variable behind i bytes. -/
def part (b : Bool) (s : ByteArray) (a : Int) (n i : Nat) : Int := if b = true then be s a i * p (n - i) else le s a i
theorem get_l0 (s : ByteArray) (a : Int) (n : Nat) (b : Bool) (hn : n ≤ 8) (ha : 0 ≤ a) (hs : a + n ≤ s.size) (hm : (s.size : Int) ≤ 9223372036854775807) : ∀ (d k i : Nat), i + d = n → d < k →
    fields_get_uint64.l0 k s a (part b s a n i) (shs n b) n i = some (val b s a n, true) := by
  intro d
  induction d with
  | zero =>
    intro k i hi hk
    obtain ⟨k, rfl⟩ : ∃ q, k = q + 1 := ⟨k - 1, by omega⟩
    obtain rfl : i = n := by omega
    rw [fields_get_uint64.l0, if_neg (by omega)]
    unfold part val
    cases b
    · rfl
    · simp [p_zero]
  | succ d ih =>
    intro k i hi hk
    obtain ⟨k, rfl⟩ : ∃ q, k = q + 1 := ⟨k - 1, by omega⟩
    have hw : wrap64 ((i : Int) + 1) = ((i + 1 : Nat) : Int) := by rw [w64 (by omega) (by omega)]; omega
    have hw2 : wrap64 (a + i) = a + i := w64 (by omega) (by omega)
    have hb := bt_bounds s (a + i)
    have hbe := be_bounds s a i
    have hle := le_bounds s a i
    have hu : IntKind.u64.wrap (bt s (a + i)) = bt s (a + i) := u64_id (by omega) (by omega)
    have key : Go.bits .or .u64 (part b s a n i) (shl .u64 (bt s (a + i)) (rd (shs n b) i)) = part b s a n (i + 1) := by
      rw [rd_shs n b i (by omega)]
      unfold part
      cases b with
      | true =>
        simp only [if_true]
        have hq : n - i = (n - 1 - i) + 1 := by omega
        have hq2 : n - (i + 1) = n - 1 - i := by omega
        have hp := p_pos (n - 1 - i)
        have hlt : bt s (a + i) * p (n - 1 - i) < p (n - i) := by
          rw [hq, p_succ]
          have : bt s (a + i) * p (n - 1 - i) ≤ 255 * p (n - 1 - i) := Int.mul_le_mul_of_nonneg_right (by omega) (by omega)
          omega
        have h8 := p_le8 (j := n - i) (by omega)
        rw [shl8 _ (by omega) (by omega) (by omega)]
        have hx : be s a i * p (n - i) < 18446744073709551616 := by
          have h1 : be s a i * p (n - i) < p i * p (n - i) := Int.mul_lt_mul_of_pos_right hbe.2 (p_pos _)
          rw [← p_add] at h1
          have := p_le8 (j := i + (n - i)) (by omega)
          omega
        rw [or_add (n - i) (Int.mul_nonneg hbe.1 (by have := p_pos (n - i); omega)) (Int.mul_emod_left _ _) hx (Int.mul_nonneg hb.1 (by omega)) hlt (by omega)]
        rw [hq2]
        show _ = (be s a i * 256 + bt s (a + i)) * p (n - 1 - i)
        rw [hq, p_succ, Int.add_mul, Int.mul_assoc, Int.mul_comm (p (n - 1 - i)) 256]
      | false =>
        simp only [Bool.false_eq_true, if_false]
        have hp := p_pos i
        have h8 := p_le8 (j := i + 1) (by omega)
        rw [p_succ] at h8
        have hlt : bt s (a + i) * p i < 18446744073709551616 := by
          have : bt s (a + i) * p i ≤ 255 * p i := Int.mul_le_mul_of_nonneg_right (by omega) (by omega)
          omega
        rw [shl8 _ (by omega) hlt (by omega), bor_comm, or_add i (Int.mul_nonneg hb.1 (by omega)) (Int.mul_emod_left _ _) hlt hle.1 hle.2 (by omega)]
        show _ = le s a i + bt s (a + i) * p i
        omega
    have := ih k (i + 1) (by omega) (by omega)
    rw [fields_get_uint64.l0, if_pos (by omega), if_pos (by omega), if_pos (by rw [shs_length]; omega), hw2, if_pos (by omega), if_pos (by omega), if_pos (by rw [rd_shs n b i (by omega)]; omega), hu, key, hw]
    exact this

/-- Do n bytes stand there? -/
def there (s : ByteArray) (a n : Int) : Bool := decide (1 ≤ n ∧ n ≤ 8 ∧ 0 ≤ a ∧ a ≤ s.size - n)
theorem get_spec (s : ByteArray) (a n : Int) (b : Bool) (hm : (s.size : Int) ≤ 9223372036854775807) (k : Nat) (hk : 10 < k) :
    fields_get_uint64.f k s a n b = some (if there s a n = true then (val b s a n.toNat, true) else (0, false)) := by
  obtain ⟨k, rfl⟩ : ∃ q, k = q + 1 := ⟨k - 1, by omega⟩
  have hno : fields_get_uint64.j0 (k + 1) s a n b true = some (0, false) := by rw [fields_get_uint64.j0, if_pos rfl]
  unfold fields_get_uint64.f there
  by_cases h1 : n < 1
  · rw [if_pos h1, hno, if_neg (by simp; omega)]
  · rw [if_neg h1]
    by_cases h2 : n > 8
    · rw [if_pos h2, hno, if_neg (by simp; omega)]
    · rw [if_neg h2]
      by_cases h3 : a < 0
      · rw [if_pos h3, hno, if_neg (by simp; omega)]
      · rw [if_neg h3, w64 (n := (s.size : Int) - n) (by omega) (by omega)]
        by_cases h4 : a > (s.size : Int) - n
        · rw [decide_eq_true h4, hno, if_neg (by simp; omega)]
        · rw [decide_eq_false h4, if_pos (by simp; omega), fields_get_uint64.j0, if_neg (by decide)]
          obtain ⟨m, rfl⟩ : ∃ m : Nat, n = m := ⟨n.toNat, by omega⟩
          rw [shifts_spec m b (by omega) k (by omega)]
          simp only [Option.bind_some, shs_length, Int.toNat_natCast]
          have := get_l0 s a m b (by omega) (by omega) (by omega) hm m k 0 (by omega) (by omega)
          have e : part b s a m 0 = 0 := by unfold part; cases b <;> simp [be, le]
          rw [e] at this
          exact this
theorem Big_spec (s : ByteArray) (a n : Int) (hm : (s.size : Int) ≤ 9223372036854775807) (k : Nat) (hk : 10 < k) :
    fields_Big.f k s a n = some (if there s a n = true then (be s a n.toNat, true) else (0, false)) := by
  unfold fields_Big.f
  rw [get_spec s a n true hm k hk]
  simp only [Option.bind_some]
  rfl
/-- The bytes that are put. -/
def bytesL (b : Bool) (v : Int) (n : Nat) : List Int := if b = true then beL v n else leL v n
theorem bytesL_length (b : Bool) (v : Int) (n : Nat) : (bytesL b v n).length = n := by unfold bytesL; cases b <;> simp [leL_length, beL_length]
theorem put_l0 (v : Int) (n : Nat) (b : Bool) (hn : n ≤ 8) : ∀ (d k i : Nat), i + d = n → d < k →
    fields_put_uint64.l0 k v ((bytesL b v n).take i) (shs n b) n i = some (strOfNums (bytesL b v n)) := by
  intro d
  induction d with
  | zero =>
    intro k i hi hk
    obtain ⟨k, rfl⟩ : ∃ q, k = q + 1 := ⟨k - 1, by omega⟩
    rw [fields_put_uint64.l0, if_neg (by omega), List.take_of_length_le (by rw [bytesL_length]; omega)]
  | succ d ih =>
    intro k i hi hk
    obtain ⟨k, rfl⟩ : ∃ q, k = q + 1 := ⟨k - 1, by omega⟩
    have hl : ((bytesL b v n).take i).length < 140737488355328 := by rw [List.length_take, bytesL_length]; omega
    have hw : wrap64 ((i : Int) + 1) = ((i + 1 : Nat) : Int) := by rw [w64 (by omega) (by omega)]; omega
    have ht : (bytesL b v n).take (i + 1) = (bytesL b v n).take i ++ [(shr .u64 v (rd (shs n b) i)) % 256] := by
      rw [List.take_succ_eq_append_getElem (by rw [bytesL_length]; omega), rd_shs n b i (by omega), shr8 _ _ (by cases b <;> simp <;> omega)]
      unfold bytesL
      cases b <;> simp [leL, beL]
    have := ih k (i + 1) (by omega) (by omega)
    rw [ht] at this
    rw [fields_put_uint64.l0, if_pos (by omega), if_pos (by omega), if_pos (by rw [shs_length]; omega), if_pos (by rw [rd_shs n b i (by omega)]; omega), if_pos hl, hw]
    exact this
theorem put_spec (v n : Int) (b : Bool) (k : Nat) (hk : 10 < k) :
    fields_put_uint64.f k v n b = some (if 1 ≤ n ∧ n ≤ 8 then strOfNums (bytesL b v n.toNat) else ⟨#[]⟩) := by
  obtain ⟨k, rfl⟩ : ∃ q, k = q + 1 := ⟨k - 1, by omega⟩
  have hno : fields_put_uint64.j0 (k + 1) v n b true = some ⟨#[]⟩ := by rw [fields_put_uint64.j0, if_pos rfl]
  unfold fields_put_uint64.f
  by_cases h1 : n < 1
  · rw [if_pos h1, hno, if_neg (by omega)]
  · rw [if_neg h1]
    by_cases h2 : n > 8
    · rw [decide_eq_true h2, hno, if_neg (by omega)]
    · rw [decide_eq_false h2, if_pos (by omega), fields_put_uint64.j0, if_neg (by decide)]
      obtain ⟨m, rfl⟩ : ∃ m : Nat, n = m := ⟨n.toNat, by omega⟩
      rw [shifts_spec m b (by omega) k (by omega)]
      simp only [Option.bind_some, shs_length, Int.toNat_natCast]
      exact put_l0 v m b (by omega) m k 0 (by omega) (by omega)
theorem PutBig_spec (v n : Int) (k : Nat) (hk : 10 < k) : fields_PutBig.f k v n = some (if 1 ≤ n ∧ n ≤ 8 then strOfNums (beL v n.toNat) else ⟨#[]⟩) := by
  unfold fields_PutBig.f
  rw [put_spec v n true k hk]
  rfl
theorem PutLittle_spec (v n : Int) (k : Nat) (hk : 10 < k) : fields_PutLittle.f k v n = some (if 1 ≤ n ∧ n ≤ 8 then strOfNums (leL v n.toNat) else ⟨#[]⟩) := by
  unfold fields_PutLittle.f
  rw [put_spec v n false k hk]
  rfl
end Go.Proofs.YtmpicpenbhdbhaaDoor.Pure
