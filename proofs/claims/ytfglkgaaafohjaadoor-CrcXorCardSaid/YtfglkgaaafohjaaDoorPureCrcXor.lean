/- The sum of three texts of one length, taken together bit by bit, is their sums taken together. -/
import Derived.Test.YtfglkgaaafohjaaDoorPx2
import Derived.Test.YtfglkgaaafohjaaDoorCrcWakes
namespace Go.Proofs.YtfglkgaaafohjaaDoor.Pure
open Go.RowKit Go.Proofs.YtfglkgaaafohjaaDoor.P Go.Proofs.YtfglkgaaafohjaaDoorW.PrintWords Go.Proofs.YtfglkgaaafohjaaDoorW.PrintLast Go.Proofs.YtfglkgaaafohjaaDoorW.PrintMore Go.Proofs.YtfglkgaaafohjaaDoor.Num
set_option linter.unusedVariables false
set_option linter.unusedSimpArgs false

theorem bits_xor8 (p q : UInt8) : Go.bits .xor .u8 (p.toNat : Int) (q.toNat : Int) = ((p ^^^ q).toNat : Int) := by
  have hp := p.toNat_lt
  have hq := q.toNat_lt
  have ha' : p.toNat % 2 ^ 8 = p.toNat := Nat.mod_eq_of_lt (by omega)
  have hb' : q.toNat % 2 ^ 8 = q.toNat := Nat.mod_eq_of_lt (by omega)
  have hk : (IntKind.u8).bits = 8 := rfl
  have hx : p.toNat ^^^ q.toNat < 2 ^ 8 := Nat.xor_lt_two_pow (by omega) (by omega)
  simp only [bits, BitVec.ofInt_natCast, BitVec.toNat_xor, BitVec.toNat_ofNat, hk, ha', hb']
  rw [IntKind.wrap_u8, UInt8.toNat_xor]
  omega
/-- The three taken together. -/
def zs (a b c : List UInt8) : List UInt8 := List.zipWith (· ^^^ ·) (List.zipWith (· ^^^ ·) a b) c
def zi (a b c : List UInt8) : List Int := (zs a b c).map fun b => (b.toNat : Int)
theorem str_zi (l : List UInt8) : strOfNums (l.map fun b => (b.toNat : Int)) = ⟨l.toArray⟩ := by
  unfold strOfNums
  congr 2
  rw [List.map_map]
  conv => rhs; rw [← List.map_id l]
  apply List.map_congr_left
  intro b _
  simp
theorem take_data (s : ByteArray) (n : Nat) : (s.extract 0 n).data.toList = s.data.toList.take n := by
  rw [ByteArray.data_extract, Array.toList_extract]
  simp
theorem end_ok (x0 x1 x2 : ByteArray) (n k : Nat) (a b c : List UInt8) (la : a.length = n) (lb : b.length = n) (lc : c.length = n) (hn : n ≤ 20000) (h0 : n ≤ x0.size) (h1 : n ≤ x1.size) (h2 : n ≤ x2.size)
    (ea : (x0.extract 0 n).data.toList = a) (eb : (x1.extract 0 n).data.toList = b) (ec : (x2.extract 0 n).data.toList = c) (i : Nat) (hi : n ≤ i) (hk : 20 < k) :
    headgatelaw02_CrcXor.l0 (k + 1) x0 x1 x2 (n : Int) (zi a b c) (i : Int) = some true := by
  have p0 : ¬ ((i : Int) < (n : Int)) := by omega
  have p1 : (0 : Int) ≤ (n : Int) := by omega
  have p2 : (n : Int) ≤ (x0.size : Int) := by omega
  have p3 : (n : Int) ≤ (x1.size : Int) := by omega
  have p4 : (n : Int) ≤ (x2.size : Int) := by omega
  have wk := wakes_ok k (by omega)
  have s0 := Sum_spec (x0.extract 0 n) (by rw [ByteArray.size_extract]; omega)
  have s1 := Sum_spec (x1.extract 0 n) (by rw [ByteArray.size_extract]; omega)
  have s2 := Sum_spec (x2.extract 0 n) (by rw [ByteArray.size_extract]; omega)
  rw [ea] at s0
  rw [eb] at s1
  rw [ec] at s2
  have lz : (zs a b c).length ≤ 9223372036854775807 := by
    unfold zs
    rw [List.length_zipWith, List.length_zipWith]
    omega
  have s3 := Sum_spec ⟨(zs a b c).toArray⟩ lz
  clear lz hn h0 h1 h2 hi hk
  have e3 : (⟨(zs a b c).toArray⟩ : ByteArray).data.toList = zs a b c := rfl
  rw [e3] at s3
  have m3 := Crc.more_xor3 a b c (la.trans lb.symm) (lb.trans lc.symm)
  have b0 := Crc.more_lt (w := 0) (by decide) a
  have b1 := Crc.more_lt (w := 0) (by decide) b
  have b2 := Crc.more_lt (w := 0) (by decide) c
  have m4 : Crc.more 0 (zs a b c) = Crc.more 0 a ^^^ Crc.more 0 b ^^^ Crc.more 0 c := m3
  rw [m4] at s3
  rw [headgatelaw02_CrcXor.l0, if_neg p0]
  unfold zi
  rw [str_zi, s3, Option.bind_some, if_pos p1, if_pos p2, Int.toNat_natCast, s0, Option.bind_some, if_pos p3, s1, Option.bind_some, if_pos p4, s2, Option.bind_some, Crc.bits_xor32 b0 b1, Crc.bits_xor32 (Crc.xor_lt b0 b1) b2, if_pos rfl, wk]
  rfl
theorem loop (x0 x1 x2 : ByteArray) (n : Nat) (a b c : List UInt8) (la : a.length = n) (lb : b.length = n) (lc : c.length = n) (hn : n ≤ 20000) (h0 : n ≤ x0.size) (h1 : n ≤ x1.size) (h2 : n ≤ x2.size)
    (ea : (x0.extract 0 n).data.toList = a) (eb : (x1.extract 0 n).data.toList = b) (ec : (x2.extract 0 n).data.toList = c)
    (ga : ∀ i : Nat, (h : i < n) → bt x0 (i : Int) = ((a[i]'(by omega)).toNat : Int)) (gb : ∀ i : Nat, (h : i < n) → bt x1 (i : Int) = ((b[i]'(by omega)).toNat : Int)) (gc : ∀ i : Nat, (h : i < n) → bt x2 (i : Int) = ((c[i]'(by omega)).toNat : Int)) :
    ∀ (d k i : Nat), i + d = n → d + 22 < k → headgatelaw02_CrcXor.l0 k x0 x1 x2 (n : Int) ((zi a b c).take i ++ List.replicate (n - i) 0) (i : Int) = some true := by
  have hz : (zi a b c).length = n := by
    unfold zi zs
    rw [List.length_map, List.length_zipWith, List.length_zipWith]
    omega
  intro d
  induction d with
  | zero =>
    intro k i hi hk
    obtain ⟨k, rfl⟩ : ∃ q, k = q + 1 := ⟨k - 1, by omega⟩
    rw [List.take_of_length_le (by omega), show n - i = 0 by omega, List.replicate_zero, List.append_nil]
    exact end_ok x0 x1 x2 n k a b c la lb lc hn h0 h1 h2 ea eb ec i (by omega) (by omega)
  | succ d ih =>
    intro k i hi hk
    obtain ⟨k, rfl⟩ : ∃ q, k = q + 1 := ⟨k - 1, by omega⟩
    have hi' : i < n := by omega
    have a1 : i + 1 + d = n := by omega
    have a2 : d + 22 < k := by omega
    have p0 : (i : Int) < (n : Int) := by omega
    have p1 : (0 : Int) ≤ (i : Int) := by omega
    have p2 : (i : Int) < (x0.size : Int) := by omega
    have p3 : (i : Int) < (x1.size : Int) := by omega
    have p4 : (i : Int) < (x2.size : Int) := by omega
    have hiz : i < (zi a b c).length := by omega
    have hsub : n - i = (n - (i + 1)) + 1 := by omega
    have hl : ((zi a b c).take i).length = i := by rw [List.length_take, hz]; omega
    have hlen : ((zi a b c).take i ++ List.replicate (n - i) (0 : Int)).length = n := by rw [List.length_append, hl, List.length_replicate]; omega
    have p5 : (i : Int) < (((zi a b c).take i ++ List.replicate (n - i) (0 : Int)).length : Int) := by rw [hlen]; exact p0
    have hle : ((zi a b c).take i).length ≤ i := Nat.le_of_eq hl
    have hv : Go.bits .xor .u8 (Go.bits .xor .u8 (bt x0 (i : Int)) (bt x1 (i : Int))) (bt x2 (i : Int)) = (zi a b c)[i]'hiz := by
      rw [ga i hi', gb i hi', gc i hi', bits_xor8, bits_xor8]
      simp [zi, zs]
    have hset : ((zi a b c).take i ++ List.replicate (n - i) (0 : Int)).set (i : Int).toNat ((zi a b c)[i]'hiz) = (zi a b c).take (i + 1) ++ List.replicate (n - (i + 1)) 0 := by
      rw [Int.toNat_natCast, List.set_append_right _ _ hle, hl, Nat.sub_self, List.take_succ_eq_append_getElem hiz, hsub, List.replicate_succ, List.set_cons_zero, List.append_assoc]
      rfl
    have hw : wrap64 ((i : Int) + 1) = ((i + 1 : Nat) : Int) := by rw [w64 (by omega) (by omega)]; omega
    rw [headgatelaw02_CrcXor.l0, if_pos p0, if_pos p1, if_pos p2, if_pos p3, if_pos p4, if_pos p5, hv, hset, hw]
    exact ih k (i + 1) a1 a2

theorem CrcXor (x0 : ByteArray) (x1 : ByteArray) (x2 : ByteArray) (h0 : x0.size ≤ 9223372036854775807) (h1 : x1.size ≤ 9223372036854775807) (h2 : x2.size ≤ 9223372036854775807) : ∃ k, headgatelaw02_CrcXor.f k x0 x1 x2 = some true := by
  refine ⟨30000, ?_⟩
  obtain ⟨n, hn, hn0, hn1, hn2⟩ : ∃ n : Nat, mn (mn (x0.size : Int) (x1.size : Int)) (x2.size : Int) = (n : Int) ∧ n ≤ x0.size ∧ n ≤ x1.size ∧ n ≤ x2.size := by
    refine ⟨min (min x0.size x1.size) x2.size, ?_, by omega, by omega, by omega⟩
    unfold mn
    split <;> split <;> omega
  unfold headgatelaw02_CrcXor.f
  rw [hn]
  by_cases h3 : (n : Int) > 20000
  · rw [if_pos h3, wakes_ok _ (by decide)]
    rfl
  · rw [if_neg h3, if_pos (by omega), Int.toNat_natCast, if_pos (by omega)]
    have lt : ∀ s : ByteArray, n ≤ s.size → (s.data.toList.take n).length = n := fun s hs => by rw [List.length_take]; exact Nat.min_eq_left hs
    have gt : ∀ s : ByteArray, (hs : n ≤ s.size) → ∀ i : Nat, (h : i < n) → bt s (i : Int) = (((s.data.toList.take n)[i]'(by rw [lt s hs]; exact h)).toNat : Int) := fun s hs i h => by
      rw [bt_list s i (by omega)]
      simp
    have := loop x0 x1 x2 n _ _ _ (lt x0 hn0) (lt x1 hn1) (lt x2 hn2) (by omega) hn0 hn1 hn2 (take_data x0 n) (take_data x1 n) (take_data x2 n) (gt x0 hn0) (gt x1 hn1) (gt x2 hn2) n 30000 0 (by omega) (by omega)
    rw [List.take_zero, List.nil_append, Nat.sub_zero] at this
    exact this

end Go.Proofs.YtfglkgaaafohjaaDoor.Pure
