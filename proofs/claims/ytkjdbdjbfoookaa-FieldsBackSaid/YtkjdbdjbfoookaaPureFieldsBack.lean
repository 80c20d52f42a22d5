/- What was put is got, cut to its bytes, and the one way is the other one turned round: for every number, number of bytes and text. -/
import Derived.Test.YtkjdbdjbfoookaaPx3
import Derived.Test.YtkjdbdjbfoookaaRq
import Derived.Test.YtkjdbdjbfoookaaRefFields
import Derived.Test.YtkjdbdjbfoookaaFieldsWakes
namespace Go.Proofs.Ytkjdbdjbfoookaa.Pure
open Go.RowKit Go.Proofs.Ytkjdbdjbfoookaa.P Go.Proofs.YtkjdbdjbfoookaaW.PrintWords Go.Proofs.YtkjdbdjbfoookaaW.PrintLast Go.Proofs.YtkjdbdjbfoookaaW.PrintMore Go.Proofs.Ytkjdbdjbfoookaa.Num
set_option linter.unusedVariables false
set_option linter.unusedSimpArgs false

theorem emod_mul' (v a b : Int) (ha : 0 < a) (hb : 0 < b) : v % (a * b) = v / a % b * a + v % a := by
  have e4 := Int.mul_ediv_add_emod v a
  have e5 := Int.mul_ediv_add_emod (v / a) b
  have c1 := Int.emod_nonneg v (b := a) (by omega)
  have c2 := Int.emod_lt_of_pos v ha
  have c3 := Int.emod_nonneg (v / a) (b := b) (by omega)
  have c4 := Int.emod_lt_of_pos (v / a) hb
  have e6 : v = (a * b) * (v / a / b) + (v / a % b * a + v % a) := by
    calc v = a * (v / a) + v % a := e4.symm
      _ = a * (b * (v / a / b) + v / a % b) + v % a := by rw [e5]
      _ = _ := by rw [Int.mul_add, ← Int.mul_assoc, Int.mul_comm (v / a % b) a]; omega
  conv => lhs; rw [e6]
  rw [Int.mul_add_emod_self_left]
  have h0 := Int.mul_nonneg c3 (Int.le_of_lt ha)
  refine Int.emod_eq_of_lt (by omega) ?_
  have h5 : v / a % b * a ≤ (b - 1) * a := Int.mul_le_mul_of_nonneg_right (by omega) (by omega)
  rw [Int.sub_mul, Int.one_mul, Int.mul_comm b a] at h5
  omega
theorem le_of (t : ByteArray) (a v : Int) (n : Nat) (h : ∀ i : Nat, i < n → bt t (a + i) = v / p i % 256) : ∀ j, j ≤ n → le t a j = v % p j
  | 0, _ => by simp [le, p_zero]
  | j + 1, hj => by
    show le t a j + bt t (a + j) * p j = _
    rw [le_of t a v n h j (by omega), h j (by omega), p_succ, emod_mul' v (p j) 256 (p_pos j) (by decide)]
    omega
theorem be_of (t : ByteArray) (a v : Int) (n : Nat) (h : ∀ i : Nat, i < n → bt t (a + i) = v / p (n - 1 - i) % 256) : ∀ j, j ≤ n → be t a j = v / p (n - j) % p j
  | 0, _ => by simp [be, p_zero]
  | j + 1, hj => by
    show be t a j * 256 + bt t (a + j) = _
    rw [be_of t a v n h j (by omega), h j (by omega), show n - 1 - j = n - (j + 1) by omega, p_succ]
    have e : v / p (n - j) = v / p (n - (j + 1)) / 256 := by
      rw [show n - j = n - (j + 1) + 1 by omega, p_succ, Int.ediv_ediv_of_nonneg (by have := p_pos (n - (j + 1)); omega)]
    rw [e, Int.mul_comm (p j) 256, emod_mul' (v / p (n - (j + 1))) 256 (p j) (by decide) (p_pos j)]
theorem byte_ok (x : Int) : 0 ≤ x % 256 ∧ x % 256 < 256 := by omega
theorem bt_leL (v : Int) (n i : Nat) (hi : i < n) : bt (strOfNums (leL v n)) (i : Int) = v / p i % 256 := by
  have e : (leL v n)[i]'(by rw [leL_length]; exact hi) = v / p i % 256 := by simp [leL]
  rw [strOfNums_get _ i (by rw [leL_length]; exact hi) (by rw [e]; exact byte_ok _), e]
theorem bt_beL (v : Int) (n i : Nat) (hi : i < n) : bt (strOfNums (beL v n)) (i : Int) = v / p (n - 1 - i) % 256 := by
  have e : (beL v n)[i]'(by rw [beL_length]; exact hi) = v / p (n - 1 - i) % 256 := by simp [beL]
  rw [strOfNums_get _ i (by rw [beL_length]; exact hi) (by rw [e]; exact byte_ok _), e]
theorem loop (v : Int) (n : Nat) (hn : n ≤ 8) : ∀ (d k i : Nat), i + d = n → d + 11 < k → headgatelaw01_FieldsBack.l0 k n (strOfNums (beL v n)) (strOfNums (leL v n)) i = some true := by
  intro d
  induction d with
  | zero =>
    intro k i hi hk
    obtain ⟨k, rfl⟩ : ∃ z, k = z + 1 := ⟨k - 1, by omega⟩
    rw [headgatelaw01_FieldsBack.l0, if_neg (by omega), wakes_ok k (by omega)]
    rfl
  | succ d ih =>
    intro k i hi hk
    obtain ⟨k, rfl⟩ : ∃ z, k = z + 1 := ⟨k - 1, by omega⟩
    have hw : wrap64 ((i : Int) + 1) = ((i + 1 : Nat) : Int) := by rw [w64 (by omega) (by omega)]; omega
    have hw2 : wrap64 (wrap64 ((n : Int) - 1) - i) = ((n - 1 - i : Nat) : Int) := by rw [w64 (n := (n : Int) - 1) (by omega) (by omega), w64 (by omega) (by omega)]; omega
    rw [headgatelaw01_FieldsBack.l0, if_pos (by omega), if_pos (by omega), if_pos (by rw [strOfNums_size, beL_length]; omega), hw2, if_pos (by omega), if_pos (by rw [strOfNums_size, leL_length]; omega), bt_beL v n i (by omega), bt_leL v n _ (by omega), if_pos rfl, hw]
    exact ih k (i + 1) (by omega) (by omega)

theorem FieldsBack (x0 : Int) (x1 : Int) (x2 : ByteArray) (h0 : (Lit.int .u64 x0).wf = true) (h1 : (Lit.int .i64 x1).wf = true) (h2 : x2.size ≤ 9223372036854775807) : ∃ k, headgatelaw01_FieldsBack.f k x0 x1 x2 = some true := by
  refine ⟨40, ?_⟩
  have hv := bounds_u64 h0
  unfold headgatelaw01_FieldsBack.f
  by_cases hs : (x2.size : Int) > 100000
  · rw [if_pos hs, wakes_ok _ (by omega)]
    rfl
  · rw [if_neg hs]
    obtain ⟨m, hm, hm1, hm8⟩ : ∃ m : Nat, wrap64 (1 + wrap64 (Int.tmod (IntKind.u64.wrap x1) 8)) = m ∧ 1 ≤ m ∧ m ≤ 8 := by
      have hu : 0 ≤ IntKind.u64.wrap x1 := by rw [wrap_u64]; omega
      rw [Int.tmod_eq_emod_of_nonneg hu]
      refine ⟨(1 + IntKind.u64.wrap x1 % 8).toNat, ?_, by omega, by omega⟩
      rw [w64 (n := IntKind.u64.wrap x1 % 8) (by omega) (by omega), w64 (by omega) (by omega)]
      omega
    have sb : (strOfNums (beL x0 m)).size = m := by rw [strOfNums_size, beL_length]
    have sl : (strOfNums (leL x0 m)).size = m := by rw [strOfNums_size, leL_length]
    have t1 : there (x2 ++ strOfNums (beL x0 m)) (x2.size : Int) m = true := by
      unfold there
      rw [decide_eq_true_eq, ByteArray.size_append, sb]
      omega
    have t2 : there (strOfNums (leL x0 m) ++ x2) 0 m = true := by
      unfold there
      rw [decide_eq_true_eq, ByteArray.size_append, sl]
      omega
    have vb : be (x2 ++ strOfNums (beL x0 m)) (x2.size : Int) m = x0 % p m := by
      rw [be_of _ _ x0 m (fun i hi => ?_) m (Nat.le_refl m), Nat.sub_self, p_zero, Int.ediv_one]
      rw [bt_append_right _ _ _ (by omega) (by rw [sb]; omega), show (x2.size : Int) + i - x2.size = i by omega, bt_beL x0 m i hi]
    have vl : le (strOfNums (leL x0 m) ++ x2) 0 m = x0 % p m := by
      rw [le_of _ _ x0 m (fun i hi => ?_) m (Nat.le_refl m)]
      rw [bt_append_left _ _ _ (by omega) (by rw [sl]; omega), show (0 : Int) + i = i by omega, bt_leL x0 m i hi]
    have hbig : fields_Big.f 40 (x2 ++ strOfNums (beL x0 m)) (x2.size : Int) m = some (x0 % p m, true) := by
      rw [Big_spec _ _ _ (by rw [ByteArray.size_append, sb]; omega) 40 (by omega), if_pos t1, Int.toNat_natCast, vb]
    have hlit : fields_Little.f 40 (strOfNums (leL x0 m) ++ x2) 0 m = some (x0 % p m, true) := by
      rw [Little_spec _ _ _ (by rw [ByteArray.size_append, sl]; omega) 40 (by omega), if_pos t2, Int.toNat_natCast, vl]
    have hj : headgatelaw01_FieldsBack.j0 40 m (strOfNums (beL x0 m)) (strOfNums (leL x0 m)) (x0 % p m) true (x0 % p m) true (x0 % p m) = some true := by
      rw [headgatelaw01_FieldsBack.j0, if_pos rfl, if_pos rfl, if_pos rfl, if_pos rfl, if_pos (by rw [sb]), show (((strOfNums (leL x0 m)).size : Int) != (m : Int)) = false by rw [sl]; simp, headgatelaw01_FieldsBack.j1, if_neg (by decide)]
      exact loop x0 m hm8 m 38 0 (by omega) (by omega)
    have pb : fields_PutBig.f 40 x0 (m : Int) = some (strOfNums (beL x0 m)) := by
      rw [PutBig_spec _ _ 40 (by omega), if_pos (by omega), Int.toNat_natCast]
    have pl : fields_PutLittle.f 40 x0 (m : Int) = some (strOfNums (leL x0 m)) := by
      rw [PutLittle_spec _ _ 40 (by omega), if_pos (by omega), Int.toNat_natCast]
    have c1 : x2.size + (strOfNums (beL x0 m)).size ≤ 9223372036854775807 := by rw [sb]; omega
    have c2 : (strOfNums (leL x0 m)).size + x2.size ≤ 9223372036854775807 := by rw [sl]; omega
    rw [hm, pb, Option.bind_some, pl, Option.bind_some, if_pos c1, hbig, Option.bind_some, if_pos c2, hlit, Option.bind_some]
    by_cases h8 : m < 8
    · have e1 : IntKind.u64.wrap (8 * IntKind.u64.wrap (m : Int)) = 8 * (m : Int) := by rw [u64_id (n := (m : Int)) (by omega) (by omega), u64_id (by omega) (by omega)]
      have hp := p_pos m
      have h7 := p_le (i := m) (j := 7) (by omega)
      have e7 : p 7 = 72057594037927936 := by decide
      have e2 : shl .u64 1 (8 * (m : Int)) = p m := by rw [shl8 m (by omega) (by omega) (by omega)]; omega
      have e3 : IntKind.u64.wrap (p m - 1) = p m - 1 := u64_id (by omega) (by omega)
      have e4 : Go.bits .and .u64 x0 (p m - 1) = x0 % p m := by
        have h := bits_mask .u64 64 (by decide) (fun n h0 h1 => u64_id h0 (by simpa using h1)) (8 * m) (by omega) x0 hv.1 (by have := hv.2; have e : (2 : Int) ^ 64 = 18446744073709551616 := (by decide); omega)
        rw [p_two] at h
        exact h
      rw [if_pos (by omega), e1, if_pos (by omega), e2, e3, e4]
      exact hj
    · have e : x0 % p m = x0 := by
        obtain rfl : m = 8 := by omega
        rw [p8]
        omega
      rw [if_neg (by omega)]
      rw [e] at hj ⊢
      exact hj

end Go.Proofs.Ytkjdbdjbfoookaa.Pure
