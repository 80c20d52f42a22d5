/- What the second transport's messages are, and what the program's Put answers. -/
import Derived.Test.YtkbjhblffbcleaaDoorCrcLib
import Derived.Test.YtkbjhblffbcleaaDoorFieldsLib
import Derived.Test.YtkbjhblffbcleaaDoorNumBack
import Derived.Test.YtkbjhblffbcleaaDoorPx1
import Derived.Test.YtkbjhblffbcleaaDoorPx4
namespace Go.Proofs.YtkbjhblffbcleaaDoor.Pure
open Go.RowKit Go.Proofs.YtkbjhblffbcleaaDoor.P Go.Proofs.YtkbjhblffbcleaaDoorW.PrintWords Go.Proofs.YtkbjhblffbcleaaDoorW.PrintLast Go.Proofs.YtkbjhblffbcleaaDoorW.PrintMore Go.Proofs.YtkbjhblffbcleaaDoor.Num
set_option linter.unusedVariables false
set_option linter.unusedSimpArgs false

/-- A type's head, and how long its data may be. -/
def szT (t : Int) : Int := if t = 0 ∨ t = 1 then 120 else if t = 4 then 64 else if t = 2 ∨ t = 3 ∨ t = 5 ∨ t = 6 ∨ t = 7 ∨ t = 9 then 16 else 0
def mxT (t : Int) : Int := if t = 4 ∨ t = 6 ∨ t = 7 then 16384 else if t = 2 ∨ t = 3 then 128 else 0
theorem szT_cases (t : Int) : szT t = 0 ∨ szT t = 16 ∨ szT t = 64 ∨ szT t = 120 := by
  unfold szT
  split
  · omega
  · split
    · omega
    · split <;> omega
theorem mxT_bounds (t : Int) : 0 ≤ mxT t ∧ mxT t ≤ 16384 := by
  unfold mxT
  split
  · omega
  · split <;> omega
theorem szT_pos {t : Int} (h : szT t ≠ 0) : 0 ≤ t ∧ t < 10 := by
  unfold szT at h
  by_cases h1 : t = 0 ∨ t = 1
  · omega
  · rw [if_neg h1] at h
    by_cases h2 : t = 4
    · omega
    · rw [if_neg h2] at h
      by_cases h3 : t = 2 ∨ t = 3 ∨ t = 5 ∨ t = 6 ∨ t = 7 ∨ t = 9
      · omega
      · rw [if_neg h3] at h
        exact absurd rfl h
theorem formOf_spec (t : Int) : ∃ b : Bool, tpdu_formOf.f t = some (szT t, mxT t, b) ∧ (szT t ≠ 0 → b = decide (3 < t)) := by
  unfold tpdu_formOf.f
  by_cases h0 : 0 ≤ t
  · rw [if_pos h0]
    by_cases h1 : t < 10
    · rw [if_pos h1]
      have hh : t = 0 ∨ t = 1 ∨ t = 2 ∨ t = 3 ∨ t = 4 ∨ t = 5 ∨ t = 6 ∨ t = 7 ∨ t = 8 ∨ t = 9 := by omega
      rcases hh with rfl | rfl | rfl | rfl | rfl | rfl | rfl | rfl | rfl | rfl
      all_goals exact ⟨_, rfl, fun h => by first | rfl | exact absurd rfl h⟩
    · rw [if_neg h1]
      refine ⟨false, ?_, fun h => absurd (szT_pos h) (by omega)⟩
      unfold szT mxT
      rw [if_neg (by omega), if_neg (by omega), if_neg (by omega), if_neg (by omega), if_neg (by omega)]
  · rw [if_neg h0]
    refine ⟨false, ?_, fun h => absurd (szT_pos h) (by omega)⟩
    unfold szT mxT
    rw [if_neg (by omega), if_neg (by omega), if_neg (by omega), if_neg (by omega), if_neg (by omega)]

/-- Where data begin, how long a message is, its second byte, and its fourth. -/
def aD (t : Int) (h : Bool) : Int := 8 + szT t + (if h = true ∧ 3 < t then 4 else 0)
def al (t n : Int) (h d : Bool) : Int := aD t h + n + (if d = true ∧ 3 < t ∧ 0 < n then 4 else 0)
def flg (t fl n : Int) (h d : Bool) : Int := fl + (if h = true ∧ 3 < t then 1 else 0) + (if d = true ∧ 3 < t ∧ 0 < n then 2 else 0)
def atD (t n : Int) (h : Bool) : Int := if 0 < n then aD t h else 0
theorem aD_bounds (t : Int) (h : Bool) : 8 + szT t ≤ aD t h ∧ aD t h ≤ 8 + szT t + 4 := by
  unfold aD
  split <;> omega
theorem al_bounds (t n : Int) (h d : Bool) : aD t h + n ≤ al t n h d ∧ al t n h d ≤ aD t h + n + 4 := by
  unfold al
  split <;> omega
theorem measure_spec (t m n : Int) (h d : Bool) (hn : 0 ≤ n) (hn1 : n ≤ 4294967296) :
    tpdu_form_measure.f (szT t) m (decide (3 < t)) n h d = some (8 + szT t, atD t n h, al t n h d, h && decide (3 < t), d && decide (3 < t) && decide (0 < n)) := by
  have hz := szT_cases t
  unfold tpdu_form_measure.f al atD aD
  have w1 : wrap64 (8 + szT t) = 8 + szT t := w64 (by omega) (by omega)
  have w2 : wrap64 (8 + szT t + 4) = 8 + szT t + 4 := w64 (by omega) (by omega)
  rw [w1, w2]
  have w3 : wrap64 (8 + szT t + n) = 8 + szT t + n := w64 (by omega) (by omega)
  have w4 : wrap64 (8 + szT t + 4 + n) = 8 + szT t + 4 + n := w64 (by omega) (by omega)
  have w5 : wrap64 (8 + szT t + n + 4) = 8 + szT t + n + 4 := w64 (by omega) (by omega)
  have w6 : wrap64 (8 + szT t + 4 + n + 4) = 8 + szT t + 4 + n + 4 := w64 (by omega) (by omega)
  by_cases ht : 3 < t <;> by_cases h0 : 0 < n <;> cases h <;> cases d <;> simp [ht, h0, w3, w4, w5, w6]
  all_goals omega

theorem flags_spec (x0 x1 x2 fl : Int) (b1 b2 : Bool) (hf : fl = 0 ∨ fl = 4 ∨ fl = 8 ∨ fl = 12) : tpdu_measured_flags.f x0 x1 x2 b1 b2 fl = some (fl + (if b1 = true then 1 else 0) + (if b2 = true then 2 else 0)) := by
  unfold tpdu_measured_flags.f
  rcases hf with rfl | rfl | rfl | rfl <;> cases b1 <;> cases b2 <;> exact congrArg some (by decide)
theorem flg_eq (t fl n : Int) (h d : Bool) : fl + (if (h && decide (3 < t)) = true then 1 else 0) + (if (d && decide (3 < t) && decide (0 < n)) = true then 2 else 0) = flg t fl n h d := by
  unfold flg
  cases h <;> cases d <;> by_cases ht : 3 < t <;> by_cases h0 : 0 < n <;> simp [ht, h0]

/-- The first eight bytes. -/
def pre (t fl n : Int) (h d : Bool) : ByteArray := strOfNums [t % 256, flg t fl n h d % 256, (8 + szT t) % 256, atD t n h % 256] ++ strOfNums (leL (al t n h d) 4)
theorem pre_size (t fl n : Int) (h d : Bool) : (pre t fl n h d).size = 8 := by
  unfold pre
  rw [ByteArray.size_append, strOfNums_size, strOfNums_size, leL_length]
  rfl
/-- May it be sent? -/
def okT (t fl : Int) (H D : ByteArray) : Prop := szT t ≠ 0 ∧ (H.size : Int) = szT t ∧ (D.size : Int) ≤ mxT t ∧ (fl = 0 ∨ fl = 4 ∨ fl = 8 ∨ fl = 12)
instance (t fl : Int) (H D : ByteArray) : Decidable (okT t fl H D) := by unfold okT; exact inferInstance
/-- The head's bytes, their digest, data, and theirs. -/
def hw (t fl : Int) (H D : ByteArray) (h d : Bool) : ByteArray := pre t fl D.size h d ++ H
def wire (t fl : Int) (H D : ByteArray) (h d : Bool) : ByteArray :=
  ((hw t fl H D h d ++ (if h = true ∧ 3 < t then dig (hw t fl H D h d) else ⟨#[]⟩)) ++ D) ++ (if d = true ∧ 3 < t ∧ 0 < D.size then dig D else ⟨#[]⟩)
def putT (t fl : Int) (H D : ByteArray) (h d : Bool) : ByteArray × Int := if okT t fl H D then (wire t fl H D h d, 0) else (⟨#[]⟩, 200)

theorem dig_size (s : ByteArray) : (dig s).size = 4 := by
  unfold dig
  rw [strOfNums_size]
  simp [leL_length, beL_length]
theorem and_le64 (a b : BitVec 64) : (a &&& b).toNat ≤ b.toNat := by
  rw [BitVec.toNat_and]
  exact Nat.and_le_right
theorem andNot_12 (x : Int) (h0 : -9223372036854775808 ≤ x) (h1 : x < 9223372036854775808) : (Go.bits .andNot .i64 x 12 != 0) = decide (¬ (x = 0 ∨ x = 4 ∨ x = 8 ∨ x = 12)) := by
  have e : Go.bits .andNot .i64 x 12 = IntKind.i64.wrap ((BitVec.ofInt 64 x &&& ~~~ 12#64).toNat : Int) := rfl
  by_cases hx : x = 0 ∨ x = 4 ∨ x = 8 ∨ x = 12
  · rw [decide_eq_false (fun z => z hx)]
    rcases hx with rfl | rfl | rfl | rfl <;> decide
  · rw [decide_eq_true hx, bne_iff_ne]
    intro hz
    apply hx
    have hl := (BitVec.ofInt 64 x &&& ~~~ 12#64).isLt
    have hn : (BitVec.ofInt 64 x &&& ~~~ 12#64).toNat = 0 := by
      rw [e, IntKind.wrap_i64] at hz
      omega
    have hb : BitVec.ofInt 64 x &&& ~~~ 12#64 = 0#64 := BitVec.eq_of_toNat_eq (by simpa using hn)
    have hb2 : BitVec.ofInt 64 x = BitVec.ofInt 64 x &&& 12#64 := by
      have h2 : (BitVec.ofInt 64 x &&& 12#64) ||| (BitVec.ofInt 64 x &&& ~~~ 12#64) = BitVec.ofInt 64 x := by
        rw [← BitVec.and_or_distrib_left, show (12#64 ||| ~~~ 12#64 : BitVec 64) = BitVec.allOnes 64 from by decide, BitVec.and_allOnes]
      rw [hb, BitVec.or_zero] at h2
      exact h2.symm
    have h3 : (BitVec.ofInt 64 x).toNat ≤ 12 := by
      rw [hb2]
      exact Nat.le_trans (and_le64 _ _) (by decide)
    have h5 : ((BitVec.ofInt 64 x).toNat : Int) = x % 18446744073709551616 := by
      rw [BitVec.toNat_ofInt]
      have : (0 : Int) ≤ x % ((2 ^ 64 : Nat) : Int) := Int.emod_nonneg _ (by decide)
      rw [Int.toNat_of_nonneg this]
      rfl
    have h4 : 0 ≤ x ∧ x ≤ 12 := by omega
    have hh : x = 0 ∨ x = 1 ∨ x = 2 ∨ x = 3 ∨ x = 4 ∨ x = 5 ∨ x = 6 ∨ x = 7 ∨ x = 8 ∨ x = 9 ∨ x = 10 ∨ x = 11 ∨ x = 12 := by omega
    rcases hh with rfl | rfl | rfl | rfl | rfl | rfl | rfl | rfl | rfl | rfl | rfl | rfl | rfl
    all_goals first | omega | exact absurd hz (by decide)

theorem toList_nil (d : ByteArray) : d.toList = ([] : List UInt8) ↔ d.size = 0 := by
  rw [ByteArray.toList_eq]
  constructor
  · intro h
    have := congrArg List.length h
    simpa using this
  · intro h
    apply List.eq_nil_of_length_eq_zero
    simpa using h

theorem Put_j0 (k : Nat) (t fl : Int) (H D : ByteArray) (h d : Bool) (hH : H.size ≤ 20000) (hD : D.size ≤ 20000) (hk : 20 ≤ k) (ok : okT t fl H D) (b : Bool) (hb : b = decide (3 < t)) :
    tpdu_Put.j0 k h d false t fl H D (szT t) (mxT t) b = some (wire t fl H D h d, 0) := by
  obtain ⟨k, rfl⟩ := Nat.exists_eq_add_of_le' (show 1 ≤ k by omega)
  obtain ⟨hz, hHs, hDs, hf⟩ := ok
  have hz' := szT_cases t
  have ha := aD_bounds t h
  have hl := al_bounds t D.size h d
  have e1 : IntKind.u64.wrap (al t D.size h d) = al t D.size h d := u64_id (by omega) (by omega)
  have e2 : fields_PutLittle.f k (al t D.size h d) 4 = some (strOfNums (leL (al t D.size h d) 4)) := by rw [PutLittle_spec _ _ _ (by omega), if_pos (by decide)]; rfl
  have hp : (hw t fl H D h d).size = 8 + H.size := by unfold hw; rw [ByteArray.size_append, pre_size]
  have hp' := pre_size t fl D.size h d
  subst hb
  rw [tpdu_Put.j0, if_neg (by decide), measure_spec t _ _ h d (by omega) (by omega), Option.bind_some]
  dsimp only
  rw [flags_spec _ _ _ _ _ _ hf, Option.bind_some, flg_eq, Option.bind_some, e1, e2, Option.bind_some, if_pos (by rw [strOfNums_size, strOfNums_size, leL_length]; simp), show strOfNums [t % 256, flg t fl D.size h d % 256, (8 + szT t) % 256, atD t D.size h % 256] ++ strOfNums (leL (al t D.size h d) 4) = pre t fl D.size h d from rfl,
    if_pos (by omega), show pre t fl D.size h d ++ H = hw t fl H D h d from rfl]
  unfold wire
  by_cases c1 : (h && decide (3 < t)) = true
  · have c1' : h = true ∧ 3 < t := by simpa using c1
    rw [if_pos c1, if_pos c1', Digest_spec _ (by omega) _ (by omega), Option.bind_some, if_pos (by rw [dig_size]; omega), if_pos (by rw [ByteArray.size_append, dig_size]; omega)]
    by_cases c2 : (d && decide (3 < t) && decide ((0 : Int) < D.size)) = true
    · have c2' : d = true ∧ 3 < t ∧ 0 < D.size := by simpa [and_assoc] using c2
      rw [if_pos c2, if_pos c2', Digest_spec _ (by omega) _ (by omega), Option.bind_some, if_pos (by rw [ByteArray.size_append, ByteArray.size_append, dig_size, dig_size]; omega)]
    · have c2' : ¬ (d = true ∧ 3 < t ∧ 0 < D.size) := by simpa [and_assoc] using c2
      rw [if_neg c2, if_neg c2', append_none _ ⟨#[]⟩ rfl]
  · have c1' : ¬ (h = true ∧ 3 < t) := by simpa using c1
    rw [if_neg c1, if_neg c1', if_pos (by omega), append_none _ ⟨#[]⟩ rfl]
    by_cases c2 : (d && decide (3 < t) && decide ((0 : Int) < D.size)) = true
    · have c2' : d = true ∧ 3 < t ∧ 0 < D.size := by simpa [and_assoc] using c2
      rw [if_pos c2, if_pos c2', Digest_spec _ (by omega) _ (by omega), Option.bind_some, if_pos (by rw [ByteArray.size_append, dig_size]; omega)]
    · have c2' : ¬ (d = true ∧ 3 < t ∧ 0 < D.size) := by simpa [and_assoc] using c2
      rw [if_neg c2, if_neg c2', append_none _ ⟨#[]⟩ rfl]
theorem Put_spec (k : Nat) (t fl : Int) (H D : ByteArray) (h d : Bool) (hH : H.size ≤ 20000) (hD : D.size ≤ 20000) (hk : 21 ≤ k) (h0 : -9223372036854775808 ≤ fl) (h1 : fl < 9223372036854775808) :
    tpdu_Put.f k t fl H D h d = some (putT t fl H D h d) := by
  obtain ⟨k, rfl⟩ := Nat.exists_eq_add_of_le' (show 1 ≤ k by omega)
  obtain ⟨b, hb, hb2⟩ := formOf_spec t
  have hno : tpdu_Put.j0 (k + 1) h d true t fl H D (szT t) (mxT t) b = some (⟨#[]⟩, 200) := by rw [tpdu_Put.j0, if_pos rfl]
  unfold tpdu_Put.f putT
  rw [hb, Option.bind_some]
  dsimp only
  by_cases c0 : szT t = 0
  · rw [if_pos c0, hno, if_neg (fun z => z.1 c0)]
  · rw [if_neg c0]
    by_cases c1 : (H.size : Int) = szT t
    · rw [if_pos c1]
      by_cases c2 : (D.size : Int) > mxT t
      · rw [if_pos c2, hno, if_neg (fun z => absurd z.2.2.1 (by omega))]
      · rw [if_neg c2, andNot_12 fl h0 h1]
        by_cases c3 : fl = 0 ∨ fl = 4 ∨ fl = 8 ∨ fl = 12
        · have ok : okT t fl H D := ⟨c0, c1, by omega, c3⟩
          rw [decide_eq_false (fun z => z c3), if_pos ok, Put_j0 (k + 1) t fl H D h d hH hD (by omega) ok b (hb2 c0)]
        · rw [decide_eq_true c3, hno, if_neg (fun z => c3 z.2.2.2)]
    · rw [if_neg c1, hno, if_neg (fun z => c1 z.2.1)]
end Go.Proofs.YtkbjhblffbcleaaDoor.Pure
