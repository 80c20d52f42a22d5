/- What the document's own functions of chapter 1 answer. -/
import Derived.Test.YtmpicpenbhdbhaaDoorPx9
import Derived.Test.YtmpicpenbhdbhaaDoorPx7
import Derived.Test.YtmpicpenbhdbhaaDoorFieldsLib
namespace Go.Proofs.YtmpicpenbhdbhaaDoor.Pure
open Go.RowKit Go.Proofs.YtmpicpenbhdbhaaDoor.P Go.Proofs.YtmpicpenbhdbhaaDoorW.PrintWords Go.Proofs.YtmpicpenbhdbhaaDoorW.PrintLast Go.Proofs.YtmpicpenbhdbhaaDoorW.PrintMore Go.Proofs.YtmpicpenbhdbhaaDoor.Num
set_option linter.unusedVariables false
set_option linter.unusedSimpArgs false

theorem there_spec (s : ByteArray) (a n : Int) (hm : (s.size : Int) ≤ 9223372036854775807) : headgateref01_there.f s a n = some (decide (0 ≤ a ∧ 0 ≤ n ∧ a ≤ s.size - n)) := by
  unfold headgateref01_there.f
  by_cases h1 : a ≥ 0
  · rw [if_pos h1]
    by_cases h2 : n ≥ 0
    · rw [if_pos h2]
      by_cases h3 : a ≤ (s.size : Int)
      · rw [if_pos h3, w64 (by omega) (by omega)]
        congr 1
        rw [decide_eq_decide]
        omega
      · rw [if_neg h3, decide_eq_false (by omega)]
    · rw [if_neg h2, decide_eq_false (by omega)]
  · rw [if_neg h1, decide_eq_false (by omega)]

theorem ref_Big_l0 (s : ByteArray) (a : Int) (n : Nat) (hn : n ≤ 8) (ha : 0 ≤ a) (hs : a + n ≤ s.size) (hm : (s.size : Int) ≤ 9223372036854775807) : ∀ (d k i : Nat), i + d = n → d < k →
    headgateref01_Big.l0 k s a n (be s a i) i = some (be s a n, true) := by
  intro d
  induction d with
  | zero =>
    intro k i hi hk
    obtain ⟨k, rfl⟩ : ∃ q, k = q + 1 := ⟨k - 1, by omega⟩
    obtain rfl : i = n := by omega
    rw [headgateref01_Big.l0, if_neg (by omega)]
  | succ d ih =>
    intro k i hi hk
    obtain ⟨k, rfl⟩ : ∃ q, k = q + 1 := ⟨k - 1, by omega⟩
    have hw : wrap64 ((i : Int) + 1) = ((i + 1 : Nat) : Int) := by rw [w64 (by omega) (by omega)]; omega
    have hw2 : wrap64 (a + i) = a + i := w64 (by omega) (by omega)
    have hb := bt_bounds s (a + i)
    have hbe := be_bounds s a i
    have hbe1 := be_bounds s a (i + 1)
    have h8 := p_le8 (j := i + 1) (by omega)
    have hd : be s a (i + 1) = be s a i * 256 + bt s (a + i) := rfl
    have hu : IntKind.u64.wrap (bt s (a + i)) = bt s (a + i) := u64_id (by omega) (by omega)
    have hu2 : IntKind.u64.wrap (be s a i * 256) = be s a i * 256 := u64_id (by omega) (by omega)
    have hu3 : IntKind.u64.wrap (be s a i * 256 + bt s (a + i)) = be s a (i + 1) := by rw [← hd]; exact u64_id (by omega) (by omega)
    rw [headgateref01_Big.l0, if_pos (by omega), hw2, if_pos (by omega), if_pos (by omega), hu, hu2, hu3, hw]
    exact ih k (i + 1) (by omega) (by omega)
theorem ref_Big_spec (s : ByteArray) (a n : Int) (hm : (s.size : Int) ≤ 9223372036854775807) (k : Nat) (hk : 10 < k) :
    headgateref01_Big.f k s a n = some (if there s a n = true then (be s a n.toNat, true) else (0, false)) := by
  obtain ⟨k, rfl⟩ : ∃ q, k = q + 1 := ⟨k - 1, by omega⟩
  have hno : headgateref01_Big.j0 (k + 1) s a n true = some (0, false) := by rw [headgateref01_Big.j0, if_pos rfl]
  unfold headgateref01_Big.f there
  by_cases h1 : n < 1
  · rw [if_pos h1, hno, if_neg (by simp; omega)]
  · rw [if_neg h1]
    by_cases h2 : n > 8
    · rw [if_pos h2, hno, if_neg (by simp; omega)]
    · rw [if_neg h2, there_spec s a n hm]
      simp only [Option.bind_some]
      by_cases h3 : 0 ≤ a ∧ 0 ≤ n ∧ a ≤ s.size - n
      · rw [decide_eq_true h3, if_pos (by simp; omega), headgateref01_Big.j0, if_neg (by decide)]
        obtain ⟨m, rfl⟩ : ∃ m : Nat, n = m := ⟨n.toNat, by omega⟩
        exact ref_Big_l0 s a m (by omega) (by omega) (by omega) hm m k 0 (by omega) (by omega)
      · rw [decide_eq_false h3, if_neg (by simp; omega)]
        exact hno

theorem div_p (v : Int) (i : Nat) : v / p i / 256 = v / p (i + 1) := by
  rw [p_succ, Int.ediv_ediv_of_nonneg (by have := p_pos i; omega)]
theorem tdiv_v {v : Int} (h0 : 0 ≤ v) (h1 : v < 18446744073709551616) : IntKind.u64.wrap (Int.tdiv v 256) = v / 256 := by
  rw [Int.tdiv_eq_ediv_of_nonneg h0]
  exact u64_id (by omega) (by omega)
theorem tmod_v {v : Int} (h0 : 0 ≤ v) : Int.tmod v 256 % 256 = v % 256 := by
  rw [Int.tmod_eq_emod_of_nonneg h0]
  omega
theorem vdiv_bounds {v : Int} (i : Nat) (h0 : 0 ≤ v) (h1 : v < 18446744073709551616) : 0 ≤ v / p i ∧ v / p i < 18446744073709551616 := by
  have hp := p_pos i
  refine ⟨Int.ediv_nonneg h0 (by omega), ?_⟩
  have := Int.ediv_le_self (p i) h0
  omega
theorem ref_PutLittle_l0 (v : Int) (h0 : 0 ≤ v) (h1 : v < 18446744073709551616) (n : Nat) (hn : n ≤ 8) : ∀ (d k i : Nat), i + d = n → d < k →
    headgateref01_PutLittle.l0 k (v / p i) n ((leL v n).take i ++ List.replicate (n - i) 0) i = some (strOfNums (leL v n)) := by
  intro d
  induction d with
  | zero =>
    intro k i hi hk
    obtain ⟨k, rfl⟩ : ∃ q, k = q + 1 := ⟨k - 1, by omega⟩
    rw [headgateref01_PutLittle.l0, if_neg (by omega), List.take_of_length_le (by rw [leL_length]; omega), show n - i = 0 by omega]
    simp
  | succ d ih =>
    intro k i hi hk
    obtain ⟨k, rfl⟩ : ∃ q, k = q + 1 := ⟨k - 1, by omega⟩
    have hv := vdiv_bounds i h0 h1
    have hw : wrap64 ((i : Int) + 1) = ((i + 1 : Nat) : Int) := by rw [w64 (by omega) (by omega)]; omega
    have hlen : ((leL v n).take i ++ List.replicate (n - i) (0 : Int)).length = n := by simp [leL_length]; omega
    have hset : ((leL v n).take i ++ List.replicate (n - i) (0 : Int)).set (i : Int).toNat (v / p i % 256) = (leL v n).take (i + 1) ++ List.replicate (n - (i + 1)) 0 := by
      have hl : ((leL v n).take i).length = i := by rw [List.length_take, leL_length]; omega
      rw [Int.toNat_natCast, List.set_append_right _ _ (by omega), hl, Nat.sub_self, List.take_succ_eq_append_getElem (by rw [leL_length]; omega), show n - i = (n - (i + 1)) + 1 by omega, List.replicate_succ]
      simp [leL]
    rw [headgateref01_PutLittle.l0, if_pos (by omega), if_pos (by omega), if_pos (by rw [hlen]; omega), tdiv_v hv.1 hv.2, tmod_v hv.1, hset, div_p, hw]
    exact ih k (i + 1) (by omega) (by omega)
theorem ref_PutLittle_spec (v n : Int) (h0 : 0 ≤ v) (h1 : v < 18446744073709551616) (k : Nat) (hk : 10 < k) :
    headgateref01_PutLittle.f k v n = some (if 1 ≤ n ∧ n ≤ 8 then strOfNums (leL v n.toNat) else ⟨#[]⟩) := by
  obtain ⟨k, rfl⟩ : ∃ q, k = q + 1 := ⟨k - 1, by omega⟩
  have hno : headgateref01_PutLittle.j0 (k + 1) v n true = some ⟨#[]⟩ := by rw [headgateref01_PutLittle.j0, if_pos rfl]
  unfold headgateref01_PutLittle.f
  by_cases c1 : n < 1
  · rw [if_pos c1, hno, if_neg (by omega)]
  · rw [if_neg c1]
    by_cases c2 : n > 8
    · rw [decide_eq_true c2, hno, if_neg (by omega)]
    · rw [decide_eq_false c2, if_pos (by omega), headgateref01_PutLittle.j0, if_neg (by decide), if_pos (by omega), if_pos (by omega)]
      obtain ⟨m, rfl⟩ : ∃ m : Nat, n = m := ⟨n.toNat, by omega⟩
      have := ref_PutLittle_l0 v h0 h1 m (by omega) m k 0 (by omega) (by omega)
      simpa [p_zero] using this
theorem ref_PutBig_l0 (v : Int) (h0 : 0 ≤ v) (h1 : v < 18446744073709551616) (n : Nat) (hn : n ≤ 8) : ∀ (i k : Nat), i ≤ n → i < k →
    headgateref01_PutBig.l0 k (v / p (n - i)) (List.replicate i 0 ++ (beL v n).drop i) ((i : Int) - 1) = some (strOfNums (beL v n)) := by
  intro i
  induction i with
  | zero =>
    intro k hi hk
    obtain ⟨k, rfl⟩ : ∃ q, k = q + 1 := ⟨k - 1, by omega⟩
    rw [headgateref01_PutBig.l0, if_neg (by omega)]
    simp
  | succ i ih =>
    intro k hi hk
    obtain ⟨k, rfl⟩ : ∃ q, k = q + 1 := ⟨k - 1, by omega⟩
    have hv := vdiv_bounds (n - (i + 1)) h0 h1
    have e1 : (((i + 1 : Nat) : Int) - 1) = (i : Int) := by omega
    have hw : wrap64 ((i : Int) - 1) = (i : Int) - 1 := w64 (by omega) (by omega)
    have hlen : (List.replicate (i + 1) (0 : Int) ++ (beL v n).drop (i + 1)).length = n := by simp [beL_length]; omega
    have hset : (List.replicate (i + 1) (0 : Int) ++ (beL v n).drop (i + 1)).set (i : Int).toNat (v / p (n - (i + 1)) % 256) = List.replicate i 0 ++ (beL v n).drop i := by
      rw [Int.toNat_natCast, List.replicate_succ', List.append_assoc, List.set_append_right _ _ (by simp), List.length_replicate, Nat.sub_self, List.drop_eq_getElem_cons (i := i) (by rw [beL_length]; omega)]
      simp [beL]
      congr 3
      omega
    have hn1 : n - (i + 1) + 1 = n - i := by omega
    rw [e1, headgateref01_PutBig.l0, if_pos (by omega), if_pos (by omega), if_pos (by rw [hlen]; omega), tdiv_v hv.1 hv.2, tmod_v hv.1, hset, div_p, hn1, hw]
    exact ih k (by omega) (by omega)
theorem ref_PutBig_spec (v n : Int) (h0 : 0 ≤ v) (h1 : v < 18446744073709551616) (k : Nat) (hk : 10 < k) :
    headgateref01_PutBig.f k v n = some (if 1 ≤ n ∧ n ≤ 8 then strOfNums (beL v n.toNat) else ⟨#[]⟩) := by
  obtain ⟨k, rfl⟩ : ∃ q, k = q + 1 := ⟨k - 1, by omega⟩
  have hno : headgateref01_PutBig.j0 (k + 1) v n true = some ⟨#[]⟩ := by rw [headgateref01_PutBig.j0, if_pos rfl]
  unfold headgateref01_PutBig.f
  by_cases c1 : n < 1
  · rw [if_pos c1, hno, if_neg (by omega)]
  · rw [if_neg c1]
    by_cases c2 : n > 8
    · rw [decide_eq_true c2, hno, if_neg (by omega)]
    · rw [decide_eq_false c2, if_pos (by omega), headgateref01_PutBig.j0, if_neg (by decide), if_pos (by omega), if_pos (by omega)]
      obtain ⟨m, rfl⟩ : ∃ m : Nat, n = m := ⟨n.toNat, by omega⟩
      rw [w64 (by omega) (by omega)]
      have := ref_PutBig_l0 v h0 h1 m (by omega) m k (by omega) (by omega)
      rw [List.drop_of_length_le (by rw [beL_length]; omega)] at this
      simpa [p_zero] using this
end Go.Proofs.YtmpicpenbhdbhaaDoor.Pure
