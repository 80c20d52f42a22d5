/- Any bits of any number: the program and the document answer the same, for every number and every two numbers that say which bits. -/
import Derived.Test.YtkjdbdjbfoookaaPx5
import Derived.Test.YtkjdbdjbfoookaaRq
import Derived.Test.YtkjdbdjbfoookaaRefFields
import Derived.Test.YtkjdbdjbfoookaaFieldsWakes
namespace Go.Proofs.Ytkjdbdjbfoookaa.Pure
open Go.RowKit Go.Proofs.Ytkjdbdjbfoookaa.P Go.Proofs.YtkjdbdjbfoookaaW.PrintWords Go.Proofs.YtkjdbdjbfoookaaW.PrintLast Go.Proofs.YtkjdbdjbfoookaaW.PrintMore Go.Proofs.Ytkjdbdjbfoookaa.Num
set_option linter.unusedVariables false
set_option linter.unusedSimpArgs false

def q (j : Nat) : Int := 2 ^ j
theorem q_pos (j : Nat) : 0 < q j := Int.pow_pos (by decide)
theorem q_succ (j : Nat) : q (j + 1) = q j * 2 := Int.pow_succ 2 j
theorem q_add (i j : Nat) : q (i + j) = q i * q j := Int.pow_add 2 i j
theorem q64 : q 64 = 18446744073709551616 := by decide
theorem q_le {i j : Nat} (h : i ≤ j) : q i ≤ q j := by
  obtain ⟨d, rfl⟩ := Nat.exists_eq_add_of_le h
  rw [q_add]
  have h1 := q_pos i
  have h2 := q_pos d
  calc q i = q i * 1 := (Int.mul_one _).symm
    _ ≤ q i * q d := Int.mul_le_mul_of_nonneg_left (by omega) (by omega)
theorem half_v {v : Int} (h0 : 0 ≤ v) (h1 : v < 18446744073709551616) : IntKind.u64.wrap (Int.tdiv v 2) = v / 2 := by
  rw [Int.tdiv_eq_ediv_of_nonneg h0]
  exact u64_id (by omega) (by omega)
theorem vq_bounds {v : Int} (i : Nat) (h0 : 0 ≤ v) (h1 : v < 18446744073709551616) : 0 ≤ v / q i ∧ v / q i < 18446744073709551616 := by
  have hp := q_pos i
  refine ⟨Int.ediv_nonneg h0 (by omega), ?_⟩
  have := Int.ediv_le_self (q i) h0
  omega
theorem div_q (v : Int) (i : Nat) : v / q i / 2 = v / q (i + 1) := by
  rw [q_succ, Int.ediv_ediv_of_nonneg (by have := q_pos i; omega)]
theorem mod_q (v : Int) (i : Nat) (h : 0 ≤ v) : v % q (i + 1) = v % q i + v / q i % 2 * q i := by
  rw [q_succ]
  have e1 := Int.mul_ediv_add_emod v (q i)
  have e2 := Int.mul_ediv_add_emod (v / q i) 2
  have hp := q_pos i
  have b1 := Int.emod_nonneg v (b := q i) (by omega)
  have b2 := Int.emod_lt_of_pos v hp
  have e3 : v = (q i * 2) * (v / q i / 2) + (v % q i + v / q i % 2 * q i) := by
    calc v = q i * (v / q i) + v % q i := e1.symm
      _ = q i * (2 * (v / q i / 2) + v / q i % 2) + v % q i := by rw [e2]
      _ = _ := by rw [Int.mul_add, ← Int.mul_assoc, Int.mul_comm (v / q i % 2)]; omega
  have b3 : 0 ≤ v / q i % 2 * q i ∧ v / q i % 2 * q i ≤ q i := by
    have : v / q i % 2 = 0 ∨ v / q i % 2 = 1 := by omega
    rcases this with h | h <;> rw [h] <;> omega
  conv => lhs; rw [e3]
  rw [Int.mul_add_emod_self_left]
  exact Int.emod_eq_of_lt (by omega) (by
    have : v / q i % 2 = 0 ∨ v / q i % 2 = 1 := by omega
    rcases this with h | h <;> rw [h] <;> omega)
theorem bits_l1 (v : Int) (n : Nat) (hv0 : 0 ≤ v) (hv1 : v < 18446744073709551616) (hn : n ≤ 64) : ∀ (d k i : Nat), i + d = n → d < k →
    headgateref01_Bits.l1 k (v / q i) n (v % q i) (IntKind.u64.wrap (q i)) i = some (v % q n) := by
  intro d
  induction d with
  | zero =>
    intro k i hi hk
    obtain ⟨k, rfl⟩ : ∃ z, k = z + 1 := ⟨k - 1, by omega⟩
    obtain rfl : i = n := by omega
    rw [headgateref01_Bits.l1, if_neg (by omega)]
  | succ d ih =>
    intro k i hi hk
    obtain ⟨k, rfl⟩ : ∃ z, k = z + 1 := ⟨k - 1, by omega⟩
    have hb := vq_bounds i hv0 hv1
    have hp := q_pos i
    have hq63 := q_le (i := i) (j := 63) (by omega)
    have e63 : q 63 = 9223372036854775808 := by decide
    have hw : wrap64 ((i : Int) + 1) = ((i + 1 : Nat) : Int) := by rw [w64 (by omega) (by omega)]; omega
    have e1 : IntKind.u64.wrap (q i) = q i := u64_id (by omega) (by omega)
    have e2 : IntKind.u64.wrap (q i * 2) = IntKind.u64.wrap (q (i + 1)) := by rw [q_succ]
    have b1 := Int.emod_nonneg v (b := q i) (by omega)
    have b2 := Int.emod_lt_of_pos v hp
    have e4 : Int.tmod (v / q i) 2 = v / q i % 2 := Int.tmod_eq_emod_of_nonneg hb.1
    have b3 : 0 ≤ v / q i % 2 * q i ∧ v / q i % 2 * q i ≤ q i := by
      have : v / q i % 2 = 0 ∨ v / q i % 2 = 1 := by omega
      rcases this with h | h <;> rw [h] <;> omega
    have e5 : IntKind.u64.wrap (v / q i % 2 * q i) = v / q i % 2 * q i := u64_id (by omega) (by omega)
    have e6 : IntKind.u64.wrap (v % q i + v / q i % 2 * q i) = v % q (i + 1) := by rw [mod_q v i hv0]; exact u64_id (by omega) (by omega)
    rw [headgateref01_Bits.l1, if_pos (by omega), half_v hb.1 hb.2, div_q, e4, e1, e5, e6, e2, hw]
    exact ih k (i + 1) (by omega) (by omega)
theorem bits_l0 (v : Int) (lo n : Nat) (hv0 : 0 ≤ v) (hv1 : v < 18446744073709551616) (hl : lo ≤ 63) (hn : n ≤ 64) : ∀ (d k i : Nat), i + d = lo → d + n + 1 < k →
    headgateref01_Bits.l0 k (v / q i) lo n i = some (v / q lo % q n) := by
  intro d
  induction d with
  | zero =>
    intro k i hi hk
    obtain ⟨k, rfl⟩ : ∃ z, k = z + 1 := ⟨k - 1, by omega⟩
    obtain rfl : i = lo := by omega
    rw [headgateref01_Bits.l0, if_neg (by omega)]
    have hb := vq_bounds i hv0 hv1
    have := bits_l1 (v / q i) n hb.1 hb.2 hn n k 0 (by omega) (by omega)
    have e1 : IntKind.u64.wrap (q 0) = 1 := by decide +kernel
    have e2 : q 0 = 1 := rfl
    rw [e1, e2, Int.ediv_one, Int.emod_one] at this
    exact this
  | succ d ih =>
    intro k i hi hk
    obtain ⟨k, rfl⟩ : ∃ z, k = z + 1 := ⟨k - 1, by omega⟩
    have hb := vq_bounds i hv0 hv1
    have hw : wrap64 ((i : Int) + 1) = ((i + 1 : Nat) : Int) := by rw [w64 (by omega) (by omega)]; omega
    rw [headgateref01_Bits.l0, if_pos (by omega), half_v hb.1 hb.2, div_q, hw]
    exact ih k (i + 1) (by omega) (by omega)
theorem ref_Bits_spec (v lo n : Int) (hv0 : 0 ≤ v) (hv1 : v < 18446744073709551616) (k : Nat) (hk : 140 < k) :
    headgateref01_Bits.f k v lo n = some (if 0 ≤ lo ∧ 1 ≤ n ∧ lo + n ≤ 64 then v / q lo.toNat % q n.toNat else 0) := by
  obtain ⟨k, rfl⟩ : ∃ z, k = z + 1 := ⟨k - 1, by omega⟩
  have hno : headgateref01_Bits.j0 (k + 1) v lo n true = some 0 := by rw [headgateref01_Bits.j0, if_pos rfl]
  unfold headgateref01_Bits.f
  by_cases h1 : lo < 0
  · rw [if_pos h1, hno, if_neg (by omega)]
  · rw [if_neg h1]
    by_cases h2 : n < 1
    · rw [if_pos h2, hno, if_neg (by omega)]
    · rw [if_neg h2]
      by_cases h3 : lo > 63
      · rw [if_pos h3, hno, if_neg (by omega)]
      · rw [if_neg h3, w64 (by omega) (by omega)]
        by_cases h4 : n > 64 - lo
        · rw [decide_eq_true h4, hno, if_neg (by omega)]
        · rw [decide_eq_false h4, if_pos (by omega), headgateref01_Bits.j0, if_neg (by decide)]
          obtain ⟨a, rfl⟩ : ∃ a : Nat, lo = a := ⟨lo.toNat, by omega⟩
          obtain ⟨b, rfl⟩ : ∃ b : Nat, n = b := ⟨n.toNat, by omega⟩
          have := bits_l0 v a b hv0 hv1 (by omega) (by omega) a k 0 (by omega) (by omega)
          have e2 : q 0 = 1 := rfl
          rw [e2, Int.ediv_one] at this
          exact this
theorem Bits_spec (v lo n : Int) (hv0 : 0 ≤ v) (hv1 : v < 18446744073709551616) :
    fields_Bits.f v lo n = some (if 0 ≤ lo ∧ 1 ≤ n ∧ lo + n ≤ 64 then v / q lo.toNat % q n.toNat else 0) := by
  unfold fields_Bits.f
  by_cases h1 : lo < 0
  · rw [if_pos h1, if_neg (by omega)]
  · rw [if_neg h1]
    by_cases h2 : n < 1
    · rw [if_pos h2, if_neg (by omega)]
    · rw [if_neg h2]
      by_cases h3 : 64 < n
      · rw [if_pos h3, if_neg (by omega)]
      · rw [if_neg h3]
        by_cases h4 : 64 - n < lo
        · rw [if_pos h4, if_neg (by omega)]
        · rw [if_neg h4, if_pos (by omega)]
          obtain ⟨a, rfl⟩ : ∃ a : Nat, lo = a := ⟨lo.toNat, by omega⟩
          obtain ⟨b, rfl⟩ : ∃ b : Nat, n = b := ⟨n.toNat, by omega⟩
          congr 1
          unfold shr shl
          have hb64 : (IntKind.u64).bits = 64 := rfl
          have e1 : min (64 - (b : Int) - (a : Int)).toNat (IntKind.u64).bits = 64 - b - a := by omega
          have e2 : min (64 - (b : Int)).toNat (IntKind.u64).bits = (64 - b - a) + a := by omega
          rw [e1, e2, wrap_u64, ← q64]
          show v * q (64 - b - a) % q 64 / q (64 - b - a + a) = v / q a % q b
          have e3 : q 64 = q (a + b) * q (64 - b - a) := by rw [← q_add]; congr 1; omega
          have hp := q_pos (64 - b - a)
          have hpa := q_pos a
          have hpb := q_pos b
          rw [e3, Int.mul_comm v, Int.mul_comm (q (a + b)), Int.mul_emod_mul_of_pos _ _ hp, q_add (64 - b - a) a, Int.mul_ediv_mul_of_pos _ _ hp, q_add a b]
          have e4 := Int.mul_ediv_add_emod v (q a)
          have e5 := Int.mul_ediv_add_emod (v / q a) (q b)
          have c1 := Int.emod_nonneg v (b := q a) (by omega)
          have c2 := Int.emod_lt_of_pos v hpa
          have c3 := Int.emod_nonneg (v / q a) (b := q b) (by omega)
          have c4 := Int.emod_lt_of_pos (v / q a) hpb
          have e6 : v = (q a * q b) * (v / q a / q b) + (q a * (v / q a % q b) + v % q a) := by
            calc v = q a * (v / q a) + v % q a := e4.symm
              _ = q a * (q b * (v / q a / q b) + v / q a % q b) + v % q a := by rw [e5]
              _ = _ := by rw [Int.mul_add, ← Int.mul_assoc]; omega
          have e7 : v % (q a * q b) = q a * (v / q a % q b) + v % q a := by
            conv => lhs; rw [e6]
            rw [Int.mul_add_emod_self_left]
            refine Int.emod_eq_of_lt (by have := Int.mul_nonneg (Int.le_of_lt hpa) c3; omega) ?_
            have h5 : q a * (v / q a % q b) ≤ q a * (q b - 1) := Int.mul_le_mul_of_nonneg_left (by omega) (by omega)
            rw [Int.mul_sub, Int.mul_one] at h5
            omega
          rw [e7, Int.mul_add_ediv_left _ _ (by omega), Int.ediv_eq_zero_of_lt c1 c2, Int.add_zero]
theorem and1 {x : Int} (h0 : 0 ≤ x) (h1 : x < 18446744073709551616) : Go.bits .and .u64 x 1 = x % 2 := by
  have h := bits_mask .u64 64 (by decide) (fun n h0 h1 => u64_id h0 (by simpa using h1)) 1 (by decide) x h0 (by simpa using h1)
  simpa using h
theorem Bit_spec (v lo : Int) (hv0 : 0 ≤ v) (hv1 : v < 18446744073709551616) (k : Nat) (hk : 140 < k) : fields_Bit.f v lo = headgateref01_Bit.f k v lo := by
  unfold fields_Bit.f headgateref01_Bit.f
  rw [ref_Bits_spec v lo 1 hv0 hv1 k hk, Option.bind_some]
  by_cases h1 : lo ≥ 0
  · rw [if_pos h1]
    by_cases h2 : lo < 64
    · rw [if_pos h2, if_pos h1, if_pos (by omega)]
      obtain ⟨a, rfl⟩ : ∃ a : Nat, lo = a := ⟨lo.toNat, by omega⟩
      have e : shr .u64 v (a : Int) = v / q a := by
        unfold shr q
        have : min (a : Int).toNat (IntKind.u64).bits = a := by
          have : (IntKind.u64).bits = 64 := rfl
          omega
        rw [this]
      have hb := vq_bounds a hv0 hv1
      rw [e, and1 hb.1 hb.2]
      rfl
    · rw [if_neg h2, if_neg (by omega)]
      rfl
  · rw [if_neg h1, if_neg (by omega)]
    rfl

theorem FieldsBits (x0 : Int) (x1 : Int) (x2 : Int) (h0 : (Lit.int .u64 x0).wf = true) (h1 : (Lit.int .i64 x1).wf = true) (h2 : (Lit.int .i64 x2).wf = true) : ∃ k, headgatelaw01_FieldsBits.f k x0 x1 x2 = some true := by
  refine ⟨141, ?_⟩
  have h := bounds_u64 h0
  unfold headgatelaw01_FieldsBits.f
  rw [Bits_spec x0 x1 x2 h.1 (by omega), ref_Bits_spec x0 x1 x2 h.1 (by omega) _ (by omega), Option.bind_some, Option.bind_some, if_pos rfl, Bit_spec x0 x1 h.1 (by omega) 141 (by omega), wakes_ok 141 (by omega)]
  have e : ∃ b, headgateref01_Bit.f 141 x0 x1 = some b := by
    unfold headgateref01_Bit.f
    rw [ref_Bits_spec x0 x1 1 h.1 (by omega) _ (by omega)]
    exact ⟨_, rfl⟩
  obtain ⟨b, hb⟩ := e
  rw [hb, Option.bind_some, Option.bind_some, if_pos (by simp), Option.bind_some]

end Go.Proofs.Ytkjdbdjbfoookaa.Pure
