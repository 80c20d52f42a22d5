/- The small input is answered; what came in is as wide as told. -/
import Derived.Test.YtmpicpenbhdbhaaDoorImageBack
import Derived.Test.YtmpicpenbhdbhaaDoorPx5
import Derived.Test.YtmpicpenbhdbhaaDoorRq
namespace Go.Proofs.YtmpicpenbhdbhaaDoor.Pure
open Go.RowKit Go.Proofs.YtmpicpenbhdbhaaDoor.P Go.Proofs.YtmpicpenbhdbhaaDoorW.PrintWords Go.Proofs.YtmpicpenbhdbhaaDoorW.PrintLast Go.Proofs.YtmpicpenbhdbhaaDoorW.PrintMore Go.Proofs.YtmpicpenbhdbhaaDoor.Num
set_option linter.unusedVariables false
set_option linter.unusedSimpArgs false

theorem u32_of {n : Int} (h : (Lit.int .u32 n).wf = true) : 0 ≤ n ∧ n < 4294967296 := by
  simp [Lit.wf, IntKind.min, IntKind.max, IntKind.signed, IntKind.bits] at h
  omega
theorem u64_of {n : Int} (h : (Lit.int .u64 n).wf = true) : 0 ≤ n ∧ n < 18446744073709551616 := by
  simp [Lit.wf, IntKind.min, IntKind.max, IntKind.signed, IntKind.bits] at h
  omega
theorem wide_of {x : S27} (h : Q27 x) : wideT x.f0 x.f2 := by
  obtain ⟨⟨_, h1⟩, _, h2, _⟩ := h
  have := u32_of h2
  exact ⟨this.1, this.2, fun y hy => u64_of (h1 y hy).2⟩
theorem good_none : goodB [] 0 (⟨#[]⟩ : ByteArray) = true := by
  rw [good_iff]
  refine ⟨Nat.zero_le _, fun j hj => absurd hj (Nat.not_lt_zero j), ?_⟩
  unfold holdOk_
  rw [if_pos rfl, ByteArray.toList_eq]
  rfl
theorem wide_none : wideT [] 0 := ⟨by decide, by decide, fun x hx => by cases hx⟩
theorem bits_none : (headW 0 0 0 0 0).toList = ([72, 71, 82, 84, 0, 0, 0, 0, 0, 0, 0, 0] : List UInt8) := by
  rw [ByteArray.toList_eq]
  decide +kernel
theorem wakes_ok (k : Nat) (hk : 40 ≤ k) : headgatelaw12_wakes.f k = some true := by
  unfold headgatelaw12_wakes.f
  have hp : pos [] (⟨#[]⟩ : ByteArray) = 0 := rfl
  have he : encT [] 0 (⟨#[]⟩ : ByteArray) 0 false = headW 0 0 0 0 0 ++ dig (headW 0 0 0 0 0) := by
    unfold encT imgW bodyW
    rw [hp]
    show (headW 0 0 0 0 0 ++ regsW []) ++ dig (headW 0 0 0 0 0 ++ regsW []) = _
    rw [show regsW [] = (⟨#[]⟩ : ByteArray) from rfl, append_empty]
  have hs : (encT [] 0 (⟨#[]⟩ : ByteArray) 0 false).size = 16 := by rw [he, ByteArray.size_append, headW_size, dig_size]
  rw [Encode_spec [] 0 (⟨#[]⟩ : ByteArray) 0 false (Nat.zero_le _) (fun x hx => by cases hx) wide_none k hk, if_pos good_none, Option.bind_some]
  dsimp only
  rw [Decode_img k hk [] 0 (⟨#[]⟩ : ByteArray) 0 false (Nat.zero_le _) good_none wide_none, Option.bind_some, if_pos rfl, if_pos rfl, if_pos (by rw [hs]; rfl), if_pos (by decide), if_pos (by rw [hs]; decide), if_pos]
  · rfl
  · rw [he, cut_left _ _ _ _ (by rw [headW_size]; omega), show (12 : Nat) = (headW 0 0 0 0 0).size from (headW_size _ _ _ _ _).symm, ByteArray.extract_zero_size]
    exact bits_none
theorem enc_size {l : List S48} {typ : Int} {host : ByteArray} {gen : Int} {apt : Bool} (hg : goodB l typ host = true) : (encT l typ host gen apt).size ≤ 1200 ∧ 16 ≤ (encT l typ host gen apt).size := by
  obtain ⟨h16, hok, _⟩ := (good_iff l typ host).mp hg
  have hr := regsW_size l (fun x hx => (ok_small hok x hx).1)
  have e : (encT l typ host gen apt).size = 12 + (regsW l).size + 4 := by
    unfold encT imgW
    rw [ByteArray.size_append, dig_size]
    unfold bodyW
    rw [ByteArray.size_append, headW_size]
  omega
theorem hold_size {l : List S48} {typ : Int} {host : ByteArray} (hg : goodB l typ host = true) : host.size ≤ 64 := by
  obtain ⟨h16, hok, hh⟩ := (good_iff l typ host).mp hg
  have h := hold_host hok hh
  have hp := pos_le l host
  rw [← h]
  by_cases h0 : 0 < ((pos l host : Nat) : Int)
  · rw [if_pos h0]
    exact (ok_small hok _ (rd_mem l _ (by omega) (by omega))).1
  · rw [if_neg h0]
    exact Nat.zero_le _
end Go.Proofs.YtmpicpenbhdbhaaDoor.Pure
