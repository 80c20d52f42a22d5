/- A number of two parts is put together from theirs, either way: for every text, place and two numbers of bytes. -/
import Derived.Test.YtkjdbdjbfoookaaPx6
import Derived.Test.YtkjdbdjbfoookaaRq
import Derived.Test.YtkjdbdjbfoookaaRefFields
import Derived.Test.YtkjdbdjbfoookaaFieldsWakes
namespace Go.Proofs.Ytkjdbdjbfoookaa.Pure
open Go.RowKit Go.Proofs.Ytkjdbdjbfoookaa.P Go.Proofs.YtkjdbdjbfoookaaW.PrintWords Go.Proofs.YtkjdbdjbfoookaaW.PrintLast Go.Proofs.YtkjdbdjbfoookaaW.PrintMore Go.Proofs.Ytkjdbdjbfoookaa.Num
set_option linter.unusedVariables false
set_option linter.unusedSimpArgs false

def q (j : Nat) : Int := 2 ^ j
theorem q_pos (j : Nat) : 0 < q j := Int.pow_pos (by decide)
theorem q_succ (j : Nat) : q (j + 1) = q j * 2 := Int.pow_succ 2 j
theorem q_add (i j : Nat) : q (i + j) = q i * q j := Int.pow_add 2 i j
theorem q64 : q 64 = 18446744073709551616 := by decide
theorem q_le {i j : Nat} (h : i ≤ j) : q i ≤ q j := by
  obtain ⟨d, rfl⟩ := Nat.exists_eq_add_of_le h
  rw [q_add]
  have h1 := q_pos i
  have h2 := q_pos d
  calc q i = q i * 1 := (Int.mul_one _).symm
    _ ≤ q i * q d := Int.mul_le_mul_of_nonneg_left (by omega) (by omega)
theorem half_v {v : Int} (h0 : 0 ≤ v) (h1 : v < 18446744073709551616) : IntKind.u64.wrap (Int.tdiv v 2) = v / 2 := by
  rw [Int.tdiv_eq_ediv_of_nonneg h0]
  exact u64_id (by omega) (by omega)
theorem vq_bounds {v : Int} (i : Nat) (h0 : 0 ≤ v) (h1 : v < 18446744073709551616) : 0 ≤ v / q i ∧ v / q i < 18446744073709551616 := by
  have hp := q_pos i
  refine ⟨Int.ediv_nonneg h0 (by omega), ?_⟩
  have := Int.ediv_le_self (q i) h0
  omega
theorem div_q (v : Int) (i : Nat) : v / q i / 2 = v / q (i + 1) := by
  rw [q_succ, Int.ediv_ediv_of_nonneg (by have := q_pos i; omega)]
theorem mod_q (v : Int) (i : Nat) (h : 0 ≤ v) : v % q (i + 1) = v % q i + v / q i % 2 * q i := by
  rw [q_succ]
  have e1 := Int.mul_ediv_add_emod v (q i)
  have e2 := Int.mul_ediv_add_emod (v / q i) 2
  have hp := q_pos i
  have b1 := Int.emod_nonneg v (b := q i) (by omega)
  have b2 := Int.emod_lt_of_pos v hp
  have e3 : v = (q i * 2) * (v / q i / 2) + (v % q i + v / q i % 2 * q i) := by
    calc v = q i * (v / q i) + v % q i := e1.symm
      _ = q i * (2 * (v / q i / 2) + v / q i % 2) + v % q i := by rw [e2]
      _ = _ := by rw [Int.mul_add, ← Int.mul_assoc, Int.mul_comm (v / q i % 2)]; omega
  have b3 : 0 ≤ v / q i % 2 * q i ∧ v / q i % 2 * q i ≤ q i := by
    have : v / q i % 2 = 0 ∨ v / q i % 2 = 1 := by omega
    rcases this with h | h <;> rw [h] <;> omega
  conv => lhs; rw [e3]
  rw [Int.mul_add_emod_self_left]
  exact Int.emod_eq_of_lt (by omega) (by
    have : v / q i % 2 = 0 ∨ v / q i % 2 = 1 := by omega
    rcases this with h | h <;> rw [h] <;> omega)
theorem bits_l1 (v : Int) (n : Nat) (hv0 : 0 ≤ v) (hv1 : v < 18446744073709551616) (hn : n ≤ 64) : ∀ (d k i : Nat), i + d = n → d < k →
    headgateref01_Bits.l1 k (v / q i) n (v % q i) (IntKind.u64.wrap (q i)) i = some (v % q n) := by
  intro d
  induction d with
  | zero =>
    intro k i hi hk
    obtain ⟨k, rfl⟩ : ∃ z, k = z + 1 := ⟨k - 1, by omega⟩
    obtain rfl : i = n := by omega
    rw [headgateref01_Bits.l1, if_neg (by omega)]
  | succ d ih =>
    intro k i hi hk
    obtain ⟨k, rfl⟩ : ∃ z, k = z + 1 := ⟨k - 1, by omega⟩
    have hb := vq_bounds i hv0 hv1
    have hp := q_pos i
    have hq63 := q_le (i := i) (j := 63) (by omega)
    have e63 : q 63 = 9223372036854775808 := by decide
    have hw : wrap64 ((i : Int) + 1) = ((i + 1 : Nat) : Int) := by rw [w64 (by omega) (by omega)]; omega
    have e1 : IntKind.u64.wrap (q i) = q i := u64_id (by omega) (by omega)
    have e2 : IntKind.u64.wrap (q i * 2) = IntKind.u64.wrap (q (i + 1)) := by rw [q_succ]
    have b1 := Int.emod_nonneg v (b := q i) (by omega)
    have b2 := Int.emod_lt_of_pos v hp
    have e4 : Int.tmod (v / q i) 2 = v / q i % 2 := Int.tmod_eq_emod_of_nonneg hb.1
    have b3 : 0 ≤ v / q i % 2 * q i ∧ v / q i % 2 * q i ≤ q i := by
      have : v / q i % 2 = 0 ∨ v / q i % 2 = 1 := by omega
      rcases this with h | h <;> rw [h] <;> omega
    have e5 : IntKind.u64.wrap (v / q i % 2 * q i) = v / q i % 2 * q i := u64_id (by omega) (by omega)
    have e6 : IntKind.u64.wrap (v % q i + v / q i % 2 * q i) = v % q (i + 1) := by rw [mod_q v i hv0]; exact u64_id (by omega) (by omega)
    rw [headgateref01_Bits.l1, if_pos (by omega), half_v hb.1 hb.2, div_q, e4, e1, e5, e6, e2, hw]
    exact ih k (i + 1) (by omega) (by omega)
theorem bits_l0 (v : Int) (lo n : Nat) (hv0 : 0 ≤ v) (hv1 : v < 18446744073709551616) (hl : lo ≤ 63) (hn : n ≤ 64) : ∀ (d k i : Nat), i + d = lo → d + n + 1 < k →
    headgateref01_Bits.l0 k (v / q i) lo n i = some (v / q lo % q n) := by
  intro d
  induction d with
  | zero =>
    intro k i hi hk
    obtain ⟨k, rfl⟩ : ∃ z, k = z + 1 := ⟨k - 1, by omega⟩
    obtain rfl : i = lo := by omega
    rw [headgateref01_Bits.l0, if_neg (by omega)]
    have hb := vq_bounds i hv0 hv1
    have := bits_l1 (v / q i) n hb.1 hb.2 hn n k 0 (by omega) (by omega)
    have e1 : IntKind.u64.wrap (q 0) = 1 := by decide +kernel
    have e2 : q 0 = 1 := rfl
    rw [e1, e2, Int.ediv_one, Int.emod_one] at this
    exact this
  | succ d ih =>
    intro k i hi hk
    obtain ⟨k, rfl⟩ : ∃ z, k = z + 1 := ⟨k - 1, by omega⟩
    have hb := vq_bounds i hv0 hv1
    have hw : wrap64 ((i : Int) + 1) = ((i + 1 : Nat) : Int) := by rw [w64 (by omega) (by omega)]; omega
    rw [headgateref01_Bits.l0, if_pos (by omega), half_v hb.1 hb.2, div_q, hw]
    exact ih k (i + 1) (by omega) (by omega)
theorem ref_Bits_spec (v lo n : Int) (hv0 : 0 ≤ v) (hv1 : v < 18446744073709551616) (k : Nat) (hk : 140 < k) :
    headgateref01_Bits.f k v lo n = some (if 0 ≤ lo ∧ 1 ≤ n ∧ lo + n ≤ 64 then v / q lo.toNat % q n.toNat else 0) := by
  obtain ⟨k, rfl⟩ : ∃ z, k = z + 1 := ⟨k - 1, by omega⟩
  have hno : headgateref01_Bits.j0 (k + 1) v lo n true = some 0 := by rw [headgateref01_Bits.j0, if_pos rfl]
  unfold headgateref01_Bits.f
  by_cases h1 : lo < 0
  · rw [if_pos h1, hno, if_neg (by omega)]
  · rw [if_neg h1]
    by_cases h2 : n < 1
    · rw [if_pos h2, hno, if_neg (by omega)]
    · rw [if_neg h2]
      by_cases h3 : lo > 63
      · rw [if_pos h3, hno, if_neg (by omega)]
      · rw [if_neg h3, w64 (by omega) (by omega)]
        by_cases h4 : n > 64 - lo
        · rw [decide_eq_true h4, hno, if_neg (by omega)]
        · rw [decide_eq_false h4, if_pos (by omega), headgateref01_Bits.j0, if_neg (by decide)]
          obtain ⟨a, rfl⟩ : ∃ a : Nat, lo = a := ⟨lo.toNat, by omega⟩
          obtain ⟨b, rfl⟩ : ∃ b : Nat, n = b := ⟨n.toNat, by omega⟩
          have := bits_l0 v a b hv0 hv1 (by omega) (by omega) a k 0 (by omega) (by omega)
          have e2 : q 0 = 1 := rfl
          rw [e2, Int.ediv_one] at this
          exact this
theorem Bits_spec (v lo n : Int) (hv0 : 0 ≤ v) (hv1 : v < 18446744073709551616) :
    fields_Bits.f v lo n = some (if 0 ≤ lo ∧ 1 ≤ n ∧ lo + n ≤ 64 then v / q lo.toNat % q n.toNat else 0) := by
  unfold fields_Bits.f
  by_cases h1 : lo < 0
  · rw [if_pos h1, if_neg (by omega)]
  · rw [if_neg h1]
    by_cases h2 : n < 1
    · rw [if_pos h2, if_neg (by omega)]
    · rw [if_neg h2]
      by_cases h3 : 64 < n
      · rw [if_pos h3, if_neg (by omega)]
      · rw [if_neg h3]
        by_cases h4 : 64 - n < lo
        · rw [if_pos h4, if_neg (by omega)]
        · rw [if_neg h4, if_pos (by omega)]
          obtain ⟨a, rfl⟩ : ∃ a : Nat, lo = a := ⟨lo.toNat, by omega⟩
          obtain ⟨b, rfl⟩ : ∃ b : Nat, n = b := ⟨n.toNat, by omega⟩
          congr 1
          unfold shr shl
          have hb64 : (IntKind.u64).bits = 64 := rfl
          have e1 : min (64 - (b : Int) - (a : Int)).toNat (IntKind.u64).bits = 64 - b - a := by omega
          have e2 : min (64 - (b : Int)).toNat (IntKind.u64).bits = (64 - b - a) + a := by omega
          rw [e1, e2, wrap_u64, ← q64]
          show v * q (64 - b - a) % q 64 / q (64 - b - a + a) = v / q a % q b
          have e3 : q 64 = q (a + b) * q (64 - b - a) := by rw [← q_add]; congr 1; omega
          have hp := q_pos (64 - b - a)
          have hpa := q_pos a
          have hpb := q_pos b
          rw [e3, Int.mul_comm v, Int.mul_comm (q (a + b)), Int.mul_emod_mul_of_pos _ _ hp, q_add (64 - b - a) a, Int.mul_ediv_mul_of_pos _ _ hp, q_add a b]
          have e4 := Int.mul_ediv_add_emod v (q a)
          have e5 := Int.mul_ediv_add_emod (v / q a) (q b)
          have c1 := Int.emod_nonneg v (b := q a) (by omega)
          have c2 := Int.emod_lt_of_pos v hpa
          have c3 := Int.emod_nonneg (v / q a) (b := q b) (by omega)
          have c4 := Int.emod_lt_of_pos (v / q a) hpb
          have e6 : v = (q a * q b) * (v / q a / q b) + (q a * (v / q a % q b) + v % q a) := by
            calc v = q a * (v / q a) + v % q a := e4.symm
              _ = q a * (q b * (v / q a / q b) + v / q a % q b) + v % q a := by rw [e5]
              _ = _ := by rw [Int.mul_add, ← Int.mul_assoc]; omega
          have e7 : v % (q a * q b) = q a * (v / q a % q b) + v % q a := by
            conv => lhs; rw [e6]
            rw [Int.mul_add_emod_self_left]
            refine Int.emod_eq_of_lt (by have := Int.mul_nonneg (Int.le_of_lt hpa) c3; omega) ?_
            have h5 : q a * (v / q a % q b) ≤ q a * (q b - 1) := Int.mul_le_mul_of_nonneg_left (by omega) (by omega)
            rw [Int.mul_sub, Int.mul_one] at h5
            omega
          rw [e7, Int.mul_add_ediv_left _ _ (by omega), Int.ediv_eq_zero_of_lt c1 c2, Int.add_zero]
theorem be_parts (s : ByteArray) (k : Int) (a : Nat) : ∀ b : Nat, be s k (a + b) = be s k a * p b + be s (k + a) b
  | 0 => by simp [be, p_zero]
  | b + 1 => by
    show be s k (a + b) * 256 + bt s (k + ((a + b : Nat) : Int)) = be s k a * p (b + 1) + (be s (k + a) b * 256 + bt s (k + a + b))
    rw [be_parts s k a b, p_succ, Int.add_mul, ← Int.mul_assoc, show k + ((a + b : Nat) : Int) = k + a + b by omega]
    omega
theorem le_parts (s : ByteArray) (k : Int) (a : Nat) : ∀ b : Nat, le s k (a + b) = le s k a + le s (k + a) b * p a
  | 0 => by simp [le]
  | b + 1 => by
    show le s k (a + b) + bt s (k + ((a + b : Nat) : Int)) * p (a + b) = le s k a + (le s (k + a) b + bt s (k + a + b) * p b) * p a
    rw [le_parts s k a b, p_add, Int.add_mul, show k + ((a + b : Nat) : Int) = k + a + b by omega, Int.mul_comm (p a) (p b), ← Int.mul_assoc]
    omega
theorem q_p (j : Nat) : q (8 * j) = p j := p_two j
theorem join_lt (x : Int) (a b : Nat) (hx : x < p a) (hab : a + b ≤ 8) : x * p b < 18446744073709551616 := by
  have h3 : x * p b < p a * p b := Int.mul_lt_mul_of_pos_right hx (p_pos b)
  rw [← p_add] at h3
  exact Int.lt_of_lt_of_le h3 (p_le8 hab)
theorem join_or (x y : Int) (a b : Nat) (hx0 : 0 ≤ x) (hx : x < p a) (hy0 : 0 ≤ y) (hy : y < p b) (hab : a + b ≤ 8) (hb : b ≤ 8) : Go.bits .or .u64 (shl .u64 x (8 * (b : Int))) y = x * p b + y := by
  have h1 := join_lt x a b hx hab
  rw [shl8 b hx0 h1 hb, or_add b (Int.mul_nonneg hx0 (Int.le_of_lt (p_pos b))) (Int.mul_emod_left _ _) h1 hy0 hy hb]
theorem bits_join (x y : Int) (a b : Nat) (hx0 : 0 ≤ x) (hx : x < p a) (hy0 : 0 ≤ y) (hy : y < p b) (hab : a + b ≤ 8) (ha : 1 ≤ a) (hb : 1 ≤ b) : fields_Bits.f (x * p b + y) (wrap64 (8 * (b : Int))) (wrap64 (8 * (a : Int))) = some x := by
  have hpb := p_pos b
  have e : (x * p b + y) < 18446744073709551616 := by
    have h3 : (x + 1) * p b ≤ p a * p b := Int.mul_le_mul_of_nonneg_right (by omega) (Int.le_of_lt hpb)
    rw [← p_add, Int.add_mul, Int.one_mul] at h3
    have h4 := p_le8 hab
    generalize x * p b = z at *
    omega
  have e0 : 0 ≤ x * p b + y := Int.add_nonneg (Int.mul_nonneg hx0 (Int.le_of_lt hpb)) hy0
  rw [w64 (n := 8 * (b : Int)) (by omega) (by omega), w64 (n := 8 * (a : Int)) (by omega) (by omega), Bits_spec _ _ _ e0 e, if_pos (by omega), show (8 * (b : Int)).toNat = 8 * b by omega, show (8 * (a : Int)).toNat = 8 * a by omega, q_p, q_p]
  rw [Int.add_comm (x * p b) y, Int.add_mul_ediv_right _ _ (Int.ne_of_gt hpb), Int.ediv_eq_zero_of_lt hy0 hy, Int.zero_add, Int.emod_eq_of_lt hx0 hx]

theorem FieldsParts (x0 : ByteArray) (x1 : Int) (x2 : S35) (h0 : x0.size ≤ 9223372036854775807) (h1 : (Lit.int .i64 x1).wf = true) (h2 : Q35 x2) : ∃ k, headgatelaw01_FieldsParts.f k x0 x1 x2.f0 x2.f1 = some true := by
  refine ⟨40, ?_⟩
  unfold headgatelaw01_FieldsParts.f
  have part : ∀ z : Int, ∃ m : Nat, wrap64 (1 + wrap64 (Int.tmod (IntKind.u64.wrap z) 4)) = m ∧ 1 ≤ m ∧ m ≤ 4 := fun z => by
    have hu : 0 ≤ IntKind.u64.wrap z := by rw [wrap_u64]; omega
    rw [Int.tmod_eq_emod_of_nonneg hu]
    refine ⟨(1 + IntKind.u64.wrap z % 4).toNat, ?_, by omega, by omega⟩
    rw [w64 (n := IntKind.u64.wrap z % 4) (by omega) (by omega), w64 (by omega) (by omega)]
    omega
  obtain ⟨a, ha, ha1, ha4⟩ := part x2.f0
  obtain ⟨b, hb, hb1, hb4⟩ := part x2.f1
  rw [ha, hb]
  have hj : headgatelaw01_FieldsParts.j0 40 x0 x1 a b true = some true := by
    rw [headgatelaw01_FieldsParts.j0, if_pos rfl, wakes_ok _ (by omega)]
    rfl
  by_cases hs : (x0.size : Int) > 100000
  · rw [if_pos hs, hj]
  · rw [if_neg hs, w64 (n := (a : Int) + b) (by omega) (by omega)]
    by_cases hl : (x0.size : Int) < (a : Int) + b
    · rw [decide_eq_true hl, hj]
    · have e0 : wrap64 (wrap64 (wrap64 ((x0.size : Int) - a) - b) + 1) = (x0.size : Int) - a - b + 1 := by
        rw [w64 (n := (x0.size : Int) - a) (by omega) (by omega), w64 (n := (x0.size : Int) - a - b) (by omega) (by omega), w64 (by omega) (by omega)]
      have e1 : IntKind.u64.wrap ((x0.size : Int) - a - b + 1) = (x0.size : Int) - a - b + 1 := u64_id (by omega) (by omega)
      obtain ⟨kk, hkk, hlt⟩ : ∃ kk : Nat, wrap64 (Int.tmod (IntKind.u64.wrap x1) (IntKind.u64.wrap (wrap64 (wrap64 (wrap64 ((x0.size : Int) - a) - b) + 1)))) = kk ∧ kk + a + b ≤ x0.size := by
        have hu : 0 ≤ IntKind.u64.wrap x1 := by rw [wrap_u64]; omega
        rw [e0, e1, Int.tmod_eq_emod_of_nonneg hu]
        have b0 := Int.emod_nonneg (IntKind.u64.wrap x1) (b := (x0.size : Int) - a - b + 1) (by omega)
        have b1 := Int.emod_lt_of_pos (IntKind.u64.wrap x1) (b := (x0.size : Int) - a - b + 1) (by omega)
        refine ⟨(IntKind.u64.wrap x1 % ((x0.size : Int) - a - b + 1)).toNat, ?_, by omega⟩
        rw [w64 (by omega) (by omega)]
        omega
      have hnz : ¬ IntKind.u64.wrap (wrap64 (wrap64 (wrap64 ((x0.size : Int) - a) - b) + 1)) = 0 := by rw [e0, e1]; omega
      have hab : wrap64 ((a : Int) + b) = ((a + b : Nat) : Int) := by rw [w64 (by omega) (by omega)]; omega
      have hka : wrap64 ((kk : Int) + a) = (kk : Int) + a := w64 (by omega) (by omega)
      have th : ∀ (at' : Int) (n : Nat), 1 ≤ n → n ≤ 8 → 0 ≤ at' → at' + n ≤ x0.size → there x0 at' n = true := fun at' n h1 h2 h3 h4 => by
        unfold there
        rw [decide_eq_true_eq]
        omega
      have B : ∀ (at' : Int) (n : Nat), 1 ≤ n → n ≤ 8 → 0 ≤ at' → at' + n ≤ x0.size → fields_Big.f 39 x0 at' n = some (be x0 at' n, true) := fun at' n h1 h2 h3 h4 => by
        rw [Big_spec _ _ _ (by omega) 39 (by omega), if_pos (th at' n h1 h2 h3 h4), Int.toNat_natCast]
      have L : ∀ (at' : Int) (n : Nat), 1 ≤ n → n ≤ 8 → 0 ≤ at' → at' + n ≤ x0.size → fields_Little.f 39 x0 at' n = some (le x0 at' n, true) := fun at' n h1 h2 h3 h4 => by
        rw [Little_spec _ _ _ (by omega) 39 (by omega), if_pos (th at' n h1 h2 h3 h4), Int.toNat_natCast]
      have u1 : ∀ m : Nat, m ≤ 4 → IntKind.u64.wrap (8 * IntKind.u64.wrap (m : Int)) = 8 * (m : Int) := fun m hm => by
        rw [u64_id (n := (m : Int)) (by omega) (by omega), u64_id (by omega) (by omega)]
      have by1 := be_bounds x0 kk a
      have by2 := be_bounds x0 (kk + a) b
      have ly1 := le_bounds x0 kk a
      have ly2 := le_bounds x0 (kk + a) b
      have hab8 : a + b ≤ 8 := Nat.add_le_add ha4 hb4
      have hba8 : b + a ≤ 8 := Nat.add_le_add hb4 ha4
      have hb8 : b ≤ 8 := Nat.le_trans hb4 (by decide)
      have ha8 : a ≤ 8 := Nat.le_trans ha4 (by decide)
      have c1 : be x0 kk (a + b) = Go.bits .or .u64 (shl .u64 (be x0 kk a) (8 * (b : Int))) (be x0 (kk + a) b) :=
        (be_parts x0 kk a b).trans (join_or _ _ a b by1.1 by1.2 by2.1 by2.2 hab8 hb8).symm
      have c2 : le x0 kk (a + b) = Go.bits .or .u64 (shl .u64 (le x0 (kk + a) b) (8 * (a : Int))) (le x0 kk a) :=
        (le_parts x0 kk a b).trans ((Int.add_comm _ _).trans (join_or _ _ b a ly2.1 ly2.2 ly1.1 ly1.2 hba8 ha8).symm)
      have c3 : fields_Bits.f (be x0 kk (a + b)) (wrap64 (8 * (b : Int))) (wrap64 (8 * (a : Int))) = some (be x0 kk a) := by
        rw [be_parts]
        exact bits_join _ _ a b by1.1 by1.2 by2.1 by2.2 hab8 ha1 hb1
      clear by1 by2 ly1 ly2 ha hb
      rw [decide_eq_false hl, headgatelaw01_FieldsParts.j0, if_neg (by decide), if_neg hnz, hkk, hab, hka, B kk (a + b) (by omega) (by omega) (by omega) (by omega), Option.bind_some, B kk a (by omega) (by omega) (by omega) (by omega), Option.bind_some, B (kk + a) b (by omega) (by omega) (by omega) (by omega), Option.bind_some, L kk (a + b) (by omega) (by omega) (by omega) (by omega), Option.bind_some, L kk a (by omega) (by omega) (by omega) (by omega), Option.bind_some, L (kk + a) b (by omega) (by omega) (by omega) (by omega), Option.bind_some, if_pos rfl, if_pos rfl, if_pos rfl, u1 b (by omega), if_pos (by omega), if_pos c1, u1 a (by omega), if_pos (by omega), if_pos c2, c3, Option.bind_some, if_pos rfl, wakes_ok _ (by omega), Option.bind_some]

end Go.Proofs.Ytkjdbdjbfoookaa.Pure
