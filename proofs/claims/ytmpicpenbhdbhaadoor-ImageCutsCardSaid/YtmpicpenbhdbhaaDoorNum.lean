/- Numbers in bytes: plain mathematics, nothing of the program. -/
import Derived.Test.YtmpicpenbhdbhaaDoorWMore
import Derived.Laws.BytesArg
import Derived.Laws.BitsLemmas
namespace Go.Proofs.YtmpicpenbhdbhaaDoor.Num
open Go.RowKit Go.Proofs.YtmpicpenbhdbhaaDoorW.PrintWords Go.Proofs.YtmpicpenbhdbhaaDoorW.PrintMore

theorem wrap_u64 (n : Int) : IntKind.u64.wrap n = n % 18446744073709551616 := by simp [IntKind.wrap, IntKind.bits, IntKind.signed]
theorem u64_id {n : Int} (h0 : 0 ≤ n) (h1 : n < 18446744073709551616) : IntKind.u64.wrap n = n := by rw [wrap_u64]; omega
theorem w64 {n : Int} (h0 : -9223372036854775808 ≤ n) (h1 : n < 9223372036854775808) : wrap64 n = n := by unfold wrap64; omega

/-- 256 to the j. -/
def p (j : Nat) : Int := 256 ^ j
theorem p_zero : p 0 = 1 := rfl
theorem p_succ (j : Nat) : p (j + 1) = p j * 256 := Int.pow_succ 256 j
theorem p_pos (j : Nat) : 0 < p j := Int.pow_pos (by decide)
theorem p_add (i j : Nat) : p (i + j) = p i * p j := Int.pow_add 256 i j
theorem p_le {i j : Nat} (h : i ≤ j) : p i ≤ p j := by
  obtain ⟨d, rfl⟩ := Nat.exists_eq_add_of_le h
  rw [p_add]
  have h1 := p_pos i
  have h2 := p_pos d
  calc p i = p i * 1 := (Int.mul_one _).symm
    _ ≤ p i * p d := Int.mul_le_mul_of_nonneg_left (by omega) (by omega)
theorem p8 : p 8 = 18446744073709551616 := by decide
theorem p_two (j : Nat) : (2 : Int) ^ (8 * j) = p j := by
  unfold p
  rw [Int.pow_mul]
  rfl
theorem p_le8 {j : Nat} (h : j ≤ 8) : p j ≤ 18446744073709551616 := by rw [← p8]; exact p_le h

theorem bt_bounds (s : ByteArray) (i : Int) : 0 ≤ bt s i ∧ bt s i < 256 := by
  unfold bt
  split
  · rename_i h
    have := (s[i.toNat]'h).toNat_lt
    omega
  · omega

/-- The number of the first j bytes from a place on, the first one lowest. -/
def le (s : ByteArray) (a : Int) : Nat → Int
  | 0 => 0
  | j + 1 => le s a j + bt s (a + j) * p j
/-- The same, the first one highest. -/
def be (s : ByteArray) (a : Int) : Nat → Int
  | 0 => 0
  | j + 1 => be s a j * 256 + bt s (a + j)
theorem le_bounds (s : ByteArray) (a : Int) : ∀ j, 0 ≤ le s a j ∧ le s a j < p j
  | 0 => by simp [le, p_zero]
  | j + 1 => by
    have h := le_bounds s a j
    have hb := bt_bounds s (a + j)
    have hp := p_pos j
    rw [p_succ]
    unfold le
    have h1 : bt s (a + j) * p j ≤ 255 * p j := Int.mul_le_mul_of_nonneg_right (by omega) (by omega)
    have h2 : 0 ≤ bt s (a + j) * p j := Int.mul_nonneg hb.1 (by omega)
    omega
theorem be_bounds (s : ByteArray) (a : Int) : ∀ j, 0 ≤ be s a j ∧ be s a j < p j
  | 0 => by simp [be, p_zero]
  | j + 1 => by
    have h := be_bounds s a j
    have hb := bt_bounds s (a + j)
    rw [p_succ]
    unfold be
    omega

theorem bor_comm (k : IntKind) (x y : Int) : Go.bits .or k x y = Go.bits .or k y x := by
  unfold bits
  simp only [BitVec.or_comm]
theorem or_add {x y : Int} (i : Nat) (hx0 : 0 ≤ x) (hx : x % p i = 0) (hx1 : x < 18446744073709551616) (hy0 : 0 ≤ y) (hy : y < p i) (hi : i ≤ 8) : Go.bits .or .u64 x y = x + y := by
  have e := p_two i
  have hl := p_le8 hi
  exact bits_join .u64 64 (by decide) (fun n h0 h1 => u64_id h0 (by simpa using h1)) (8 * i) x y hx0 (by rw [e]; exact hx) (by simpa using hx1) hy0 (by rw [e]; exact hy) (by
    have : (2 : Int) ^ 64 = 18446744073709551616 := by decide
    omega)
theorem shl8 {x : Int} (j : Nat) (h0 : 0 ≤ x) (h1 : x * p j < 18446744073709551616) (hj : j ≤ 8) : shl .u64 x (8 * (j : Int)) = x * p j := by
  unfold shl
  have e : min (8 * (j : Int)).toNat (IntKind.u64).bits = 8 * j := by
    have : (IntKind.u64).bits = 64 := rfl
    omega
  rw [e, p_two, u64_id (Int.mul_nonneg h0 (by have := p_pos j; omega)) h1]
theorem shr8 (x : Int) (j : Nat) (hj : j ≤ 8) : shr .u64 x (8 * (j : Int)) = x / p j := by
  unfold shr
  have e : min (8 * (j : Int)).toNat (IntKind.u64).bits = 8 * j := by
    have : (IntKind.u64).bits = 64 := rfl
    omega
  rw [e, p_two]

/-- The bytes of a number, the lowest first. -/
def leL (v : Int) (n : Nat) : List Int := (List.range n).map fun i => v / p i % 256
/-- The highest first. -/
def beL (v : Int) (n : Nat) : List Int := (List.range n).map fun i => v / p (n - 1 - i) % 256
theorem leL_length (v : Int) (n : Nat) : (leL v n).length = n := by simp [leL]
theorem beL_length (v : Int) (n : Nat) : (beL v n).length = n := by simp [beL]
theorem beL_reverse (v : Int) (n : Nat) : beL v n = (leL v n).reverse := by
  apply List.ext_getElem (by simp [leL_length, beL_length])
  intro i h1 h2
  simp [beL, leL]

theorem strOfNums_get (l : List Int) (i : Nat) (hi : i < l.length) (hb : 0 ≤ l[i] ∧ l[i] < 256) : bt (strOfNums l) (i : Int) = l[i] := by
  have hs : i < (strOfNums l).size := by rw [strOfNums_size]; exact hi
  unfold bt
  rw [dif_pos (show ((i : Int)).toNat < (strOfNums l).size by simpa using hs)]
  have e : (strOfNums l)[((i : Int)).toNat]'(by simpa using hs) = UInt8.ofNat (l[i]).toNat := by
    show (strOfNums l).data[((i : Int)).toNat]'(by simpa using hs) = _
    simp [strOfNums]
  rw [e, UInt8.toNat_ofNat']
  omega
theorem bt_append_left (a b : ByteArray) (i : Int) (h0 : 0 ≤ i) (h1 : i < a.size) : bt (a ++ b) i = bt a i := by
  have h : i.toNat < a.size := by omega
  have h2 : i.toNat < (a ++ b).size := by rw [ByteArray.size_append]; omega
  unfold bt
  rw [dif_pos h2, dif_pos h]
  congr 2
  exact ByteArray.getElem_append_left h
theorem bt_append_right (a b : ByteArray) (i : Int) (h0 : (a.size : Int) ≤ i) (h1 : i < a.size + b.size) : bt (a ++ b) i = bt b (i - a.size) := by
  have h : (i - a.size).toNat < b.size := by omega
  have h2 : i.toNat < (a ++ b).size := by rw [ByteArray.size_append]; omega
  unfold bt
  rw [dif_pos h2, dif_pos h]
  congr 2
  have e : i.toNat - a.size = (i - a.size).toNat := by omega
  rw [ByteArray.getElem_append_right (by omega)]
  simp only [e]
end Go.Proofs.YtmpicpenbhdbhaaDoor.Num
