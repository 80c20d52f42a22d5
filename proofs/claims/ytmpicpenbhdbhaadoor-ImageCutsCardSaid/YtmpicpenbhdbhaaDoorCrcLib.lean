/- What the functions of the package crc, and the document's, answer. -/
import Derived.Test.YtmpicpenbhdbhaaDoorPx2
import Derived.Test.YtmpicpenbhdbhaaDoorPx7
import Derived.Test.YtmpicpenbhdbhaaDoorCrc
import Derived.Test.YtmpicpenbhdbhaaDoorRefFields
namespace Go.Proofs.YtmpicpenbhdbhaaDoor.Pure
open Go.RowKit Go.Proofs.YtmpicpenbhdbhaaDoor.P Go.Proofs.YtmpicpenbhdbhaaDoorW.PrintWords Go.Proofs.YtmpicpenbhdbhaaDoorW.PrintLast Go.Proofs.YtmpicpenbhdbhaaDoorW.PrintMore Go.Proofs.YtmpicpenbhdbhaaDoor.Num
set_option linter.unusedVariables false
set_option linter.unusedSimpArgs false

theorem More_spec (w : Nat) (s : ByteArray) (hw : w < 4294967296) (hs : s.size ≤ 9223372036854775807) : crc_More.f (w : Int) s = some ((Crc.more w s.data.toList : Nat) : Int) := by
  unfold crc_More.f
  rw [if_pos ⟨hs, by omega, by omega⟩]
  have h1 : Go.bits .xor .u32 4294967295 (w : Int) = ((4294967295 ^^^ w : Nat) : Int) := Crc.bits_xor32 (a := 4294967295) (by decide) hw
  have h2 := Crc.xor_lt (a := 4294967295) (by decide) hw
  rw [h1, Crc.fold_nat _ h2]
  have h3 := Crc.bits_xor32 (a := 4294967295) (b := Crc.g (4294967295 ^^^ w) s.data.toList) (by decide) (Crc.g_lt _ h2)
  exact congrArg some h3
theorem Sum_spec (s : ByteArray) (hs : s.size ≤ 9223372036854775807) : crc_Sum.f s = some ((Crc.more 0 s.data.toList : Nat) : Int) := by
  unfold crc_Sum.f
  have := More_spec 0 s (by decide) hs
  rw [show ((0 : Nat) : Int) = 0 from rfl] at this
  rw [this]
  rfl

theorem odd_xor (x : Nat) (h : x % 2 = 1) : Crc.f x = x / 2 ^^^ 2197175160 := by
  unfold Crc.f
  rw [if_pos h, Crc.shift1]
  rfl
theorem even_half (x : Nat) (h : ¬ x % 2 = 1) : Crc.f x = x / 2 := by
  unfold Crc.f
  rw [if_neg h, Nat.xor_zero, Crc.shift1]
theorem ref_step_l0 : ∀ (d k x : Nat), x < 4294967296 → d ≤ 8 → d < k → headgateref02_step.l0 k (x : Int) ((8 - d : Nat) : Int) = some ((Crc.it d x : Nat) : Int) := by
  intro d
  induction d with
  | zero =>
    intro k x hx hd hk
    obtain ⟨k, rfl⟩ : ∃ q, k = q + 1 := ⟨k - 1, by omega⟩
    rw [headgateref02_step.l0, if_neg (by omega)]
    rfl
  | succ d ih =>
    intro k x hx hd hk
    obtain ⟨k, rfl⟩ : ∃ q, k = q + 1 := ⟨k - 1, by omega⟩
    have hw : wrap64 (((8 - (d + 1) : Nat) : Int) + 1) = ((8 - d : Nat) : Int) := by rw [w64 (by omega) (by omega)]; omega
    have hm : Int.tmod (x : Int) 2 = ((x % 2 : Nat) : Int) := by rw [Int.tmod_eq_emod_of_nonneg (by omega)]; omega
    have hq : Int.tdiv (x : Int) 2 % 4294967296 = ((x / 2 : Nat) : Int) := by rw [Int.tdiv_eq_ediv_of_nonneg (by omega)]; omega
    rw [headgateref02_step.l0, if_pos (by omega), hm, hq, hw]
    by_cases h : x % 2 = 1
    · have hxor : Go.bits .xor .u32 ((x / 2 : Nat) : Int) 2197175160 = ((x / 2 ^^^ 2197175160 : Nat) : Int) := Crc.bits_xor32 (b := 2197175160) (by omega) (by decide)
      rw [if_pos (by omega), hxor, ← odd_xor x h]
      exact ih k _ (Crc.f_lt hx) (by omega) (by omega)
    · rw [if_neg (by omega), ← even_half x h]
      exact ih k _ (Crc.f_lt hx) (by omega) (by omega)
theorem ref_step_spec (x c : Nat) (hx : x < 4294967296) (hc : c < 256) (k : Nat) (hk : 8 < k) : headgateref02_step.f k (x : Int) (c : Int) = some ((Crc.it 8 (x ^^^ c) : Nat) : Int) := by
  unfold headgateref02_step.f
  have e : ((c : Int)) % 4294967296 = (c : Int) := by omega
  rw [e, Crc.bits_xor32 hx (by omega)]
  exact ref_step_l0 8 k _ (Crc.xor_lt hx (by omega)) (by omega) hk
theorem bt_list (s : ByteArray) (i : Nat) (h : i < s.size) : bt s (i : Int) = ((s.data.toList[i]'(by simpa using h)).toNat : Int) := by
  unfold bt
  rw [dif_pos (show ((i : Int)).toNat < s.size by simpa using h)]
  rfl
theorem ref_More_l0 (s : ByteArray) (hs : s.size ≤ 9223372036854775807) : ∀ (d k i x : Nat), x < 4294967296 → i + d = s.size → d + 10 < k →
    headgateref02_More.l0 k (x : Int) s i = some (((4294967295 ^^^ Crc.g x (s.data.toList.drop i) : Nat)) : Int) := by
  intro d
  induction d with
  | zero =>
    intro k i x hx hi hk
    obtain ⟨k, rfl⟩ : ∃ q, k = q + 1 := ⟨k - 1, by omega⟩
    rw [headgateref02_More.l0, if_neg (by omega), List.drop_of_length_le (by simp; omega)]
    exact congrArg some (Crc.bits_xor32 (a := 4294967295) (by decide) hx)
  | succ d ih =>
    intro k i x hx hi hk
    obtain ⟨k, rfl⟩ : ∃ q, k = q + 1 := ⟨k - 1, by omega⟩
    have hw : wrap64 ((i : Int) + 1) = ((i + 1 : Nat) : Int) := by rw [w64 (by omega) (by omega)]; omega
    have hc := (s.data.toList[i]'(by simp; omega)).toNat_lt
    rw [headgateref02_More.l0, if_pos (by omega), if_pos (by omega), bt_list s i (by omega), ref_step_spec x _ hx (by omega) k (by omega), hw]
    simp only [Option.bind_some]
    rw [ih k (i + 1) _ (Crc.it_lt 8 (Crc.xor_lt hx (by omega))) (by omega) (by omega), List.drop_eq_getElem_cons (i := i) (by simp; omega), Crc.g_cons]
theorem ref_More_spec (w : Nat) (s : ByteArray) (hw : w < 4294967296) (hs : s.size ≤ 9223372036854775807) (k : Nat) (hk : s.size + 10 < k) :
    headgateref02_More.f k (w : Int) s = some ((Crc.more w s.data.toList : Nat) : Int) := by
  unfold headgateref02_More.f
  have h1 : Go.bits .xor .u32 4294967295 (w : Int) = ((4294967295 ^^^ w : Nat) : Int) := Crc.bits_xor32 (a := 4294967295) (by decide) hw
  rw [h1]
  have := ref_More_l0 s hs s.size k 0 _ (Crc.xor_lt (a := 4294967295) (by decide) hw) (by omega) hk
  simpa [Crc.more] using this
theorem ref_Sum_spec (s : ByteArray) (hs : s.size ≤ 9223372036854775807) (k : Nat) (hk : s.size + 10 < k) : headgateref02_Sum.f k s = some ((Crc.more 0 s.data.toList : Nat) : Int) := by
  unfold headgateref02_Sum.f
  have := ref_More_spec 0 s (by decide) hs k hk
  rw [show ((0 : Nat) : Int) = 0 from rfl] at this
  rw [this]
  rfl
/-- The digest. -/
def dig (s : ByteArray) : ByteArray := strOfNums (leL ((Crc.more 0 s.data.toList : Nat) : Int) 4)
theorem sum_u64 (s : ByteArray) : IntKind.u64.wrap ((Crc.more 0 s.data.toList : Nat) : Int) = ((Crc.more 0 s.data.toList : Nat) : Int) := by
  have := Crc.more_lt (w := 0) (by decide) s.data.toList
  exact u64_id (by omega) (by omega)
theorem Digest_spec (s : ByteArray) (hs : s.size ≤ 9223372036854775807) (k : Nat) (hk : 10 < k) : crc_Digest.f k s = some (dig s) := by
  unfold crc_Digest.f
  rw [Sum_spec s hs]
  simp only [Option.bind_some, sum_u64]
  rw [PutLittle_spec _ _ k hk]
  rfl
theorem ref_Digest_spec (s : ByteArray) (hs : s.size ≤ 9223372036854775807) (k : Nat) (hk : s.size + 10 < k) : headgateref02_Digest.f k s = some (dig s) := by
  unfold headgateref02_Digest.f
  rw [ref_Sum_spec s hs k hk]
  have := Crc.more_lt (w := 0) (by decide) s.data.toList
  simp only [Option.bind_some, sum_u64]
  rw [ref_PutLittle_spec _ _ (by omega) (by omega) k (by omega)]
  rfl
end Go.Proofs.YtmpicpenbhdbhaaDoor.Pure
