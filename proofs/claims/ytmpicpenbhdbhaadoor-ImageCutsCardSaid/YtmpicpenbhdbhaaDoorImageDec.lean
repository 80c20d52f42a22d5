/- What image.Decode makes of a text. -/
import Derived.Test.YtmpicpenbhdbhaaDoorImageLib
import Derived.Test.YtmpicpenbhdbhaaDoorPx4
namespace Go.Proofs.YtmpicpenbhdbhaaDoor.Pure
open Go.RowKit Go.Proofs.YtmpicpenbhdbhaaDoor.P Go.Proofs.YtmpicpenbhdbhaaDoorW.PrintWords Go.Proofs.YtmpicpenbhdbhaaDoorW.PrintLast Go.Proofs.YtmpicpenbhdbhaaDoorW.PrintMore Go.Proofs.YtmpicpenbhdbhaaDoor.Num
set_option linter.unusedVariables false
set_option linter.unusedSimpArgs false

theorem tkS_size (rest : ByteArray) (bad : Bool) (n : Nat) : (tkS rest bad n).size = n := by
  unfold tkS
  by_cases h : tkB rest bad n = true
  · rw [if_pos h, strOfNums_size, List.length_replicate, Int.toNat_natCast]
  · rw [if_neg h, ByteArray.size_extract, Int.toNat_natCast]
    unfold tkB at h
    simp only [Bool.or_eq_true, decide_eq_true_eq, not_or] at h
    omega
theorem tkR_size (rest : ByteArray) (bad : Bool) (n : Int) : (tkR rest bad n).size ≤ rest.size := by
  unfold tkR
  by_cases h : tkB rest bad n = true
  · rw [if_pos h]
    exact Nat.le_refl _
  · rw [if_neg h, ByteArray.size_extract]
    omega
theorem dnum_any (k : Nat) (rest : ByteArray) (bad : Bool) (n : Nat) (h1 : 1 ≤ n) (h8 : n ≤ 8) (hk : 10 < k) : dnum k rest bad n (p n) = some (be (tkS rest bad n) 0 n, tkR rest bad n, tkB rest bad n) := by
  unfold dnum
  have hs := tkS_size rest bad n
  rw [Big_spec _ _ _ (by rw [hs]; omega) k hk, if_pos (by unfold there; rw [hs]; exact decide_eq_true ⟨by omega, by omega, by omega, by omega⟩), Option.bind_some]
  have hb := be_bounds (tkS rest bad n) 0 n
  rw [Int.toNat_natCast, if_pos hb]
theorem p1 : p 1 = 256 := by decide
theorem p4 : p 4 = 4294967296 := by decide
theorem dnum1 (k : Nat) (rest : ByteArray) (bad : Bool) (hk : 10 < k) : dnum k rest bad 1 256 = some (be (tkS rest bad 1) 0 1, tkR rest bad 1, tkB rest bad 1) := by rw [← p1]; exact dnum_any k rest bad 1 (by omega) (by omega) hk
theorem dnum4 (k : Nat) (rest : ByteArray) (bad : Bool) (hk : 10 < k) : dnum k rest bad 4 4294967296 = some (be (tkS rest bad 4) 0 4, tkR rest bad 4, tkB rest bad 4) := by rw [← p4]; exact dnum_any k rest bad 4 (by omega) (by omega) hk
theorem dnum8 (k : Nat) (rest : ByteArray) (bad : Bool) (hk : 10 < k) : dnum k rest bad 8 18446744073709551616 = some (be (tkS rest bad 8) 0 8, tkR rest bad 8, tkB rest bad 8) := by rw [← p8]; exact dnum_any k rest bad 8 (by omega) (by omega) hk
theorem num_range (s : ByteArray) : 0 ≤ be s 0 1 ∧ be s 0 1 < 256 := by have := be_bounds s 0 1; rwa [p1] at this
/-- What is read of any bytes. -/
theorem dregs_any (k : Nat) (hk : 10 < k) : ∀ (m : Nat) (rest : ByteArray) (bad : Bool), ∃ t, dregs k m rest bad = some t ∧ ∀ x ∈ t.1, (0 ≤ x.f1 ∧ x.f1 < 18446744073709551616) ∧ x.f0.size ≤ 255
  | 0, rest, bad => ⟨([], rest, bad), rfl, fun x hx => by cases hx⟩
  | m + 1, rest, bad => by
    have hn := num_range (tkS (tkR rest bad 8) (tkB rest bad 8) 1)
    obtain ⟨c, hc⟩ : ∃ c : Nat, be (tkS (tkR rest bad 8) (tkB rest bad 8) 1) 0 1 = c := ⟨_, (Int.toNat_of_nonneg hn.1).symm⟩
    obtain ⟨t, ht, hx⟩ := dregs_any k hk m (tkR (tkR (tkR rest bad 8) (tkB rest bad 8) 1) (tkB (tkR rest bad 8) (tkB rest bad 8) 1) c) (tkB (tkR (tkR rest bad 8) (tkB rest bad 8) 1) (tkB (tkR rest bad 8) (tkB rest bad 8) 1) c)
    refine ⟨(⟨tkS (tkR (tkR rest bad 8) (tkB rest bad 8) 1) (tkB (tkR rest bad 8) (tkB rest bad 8) 1) c, be (tkS rest bad 8) 0 8⟩ :: t.1, t.2), ?_, ?_⟩
    · unfold dregs
      rw [dnum8 k _ _ hk, Option.bind_some, dnum1 k _ _ hk, Option.bind_some]
      simp only [hc]
      rw [ht, Option.bind_some]
    · intro x hx'
      rcases List.mem_cons.mp hx' with rfl | h
      · have hb := be_bounds (tkS rest bad 8) 0 8
        rw [p8] at hb
        exact ⟨hb, by rw [show (S48.f0 ⟨tkS (tkR (tkR rest bad 8) (tkB rest bad 8) 1) (tkB (tkR rest bad 8) (tkB rest bad 8) 1) c, be (tkS rest bad 8) 0 8⟩).size = c from tkS_size _ _ c]; omega⟩
      · exact hx x h
/-- What is answered to what is no image. -/
def errT : List S48 × Int × ByteArray × Int × Bool × Int := ([], 0, (⟨#[]⟩ : ByteArray), 0, false, 61)
/-- An answer is right: none, or the table whose image the text is. -/
def okR (s : ByteArray) (r : List S48 × Int × ByteArray × Int × Bool × Int) : Prop :=
  r = errT ∨ ∃ l typ host gen apt, r = (l, typ, host, gen, apt, 0) ∧ goodB l typ host = true ∧ wideT l gen ∧ encT l typ host gen apt = s
theorem rd_mem (l : List S48) (i : Int) (h0 : 0 ≤ i) (h1 : i < l.length) : rd_T48 l i ∈ l := by
  obtain ⟨j, rfl⟩ := Int.eq_ofNat_of_zero_le h0
  rw [rd_at l j (by omega)]
  exact List.getElem_mem _
theorem dend_any (k : Nat) (hk : 40 ≤ k) (s head : ByteArray) (gen typ host apt : Int) (l : List S48) (bad : Bool) (hw : wideT l gen) (hl : ∀ x ∈ l, x.f0.size ≤ 255) : ∃ r, dend k s head gen typ host apt l bad = some r ∧ okR s r := by
  unfold dend
  by_cases hA : bad = true ∨ head.toList ≠ ([72, 71, 82, 84] : List UInt8) ∨ (l.length : Int) < host
  · rw [if_pos hA]
    exact ⟨_, rfl, Or.inl rfl⟩
  · rw [if_neg hA]
    have hle : host ≤ (l.length : Int) := by
      have : ¬ (l.length : Int) < host := fun z => hA (Or.inr (Or.inr z))
      omega
    obtain ⟨hh, hhh⟩ : ∃ hh, hh = (if 0 < host then (rd_T48 l (host - 1)).f0 else (⟨#[]⟩ : ByteArray)) := ⟨_, rfl⟩
    rw [← hhh]
    have hsz : hh.size ≤ 255 := by
      rw [hhh]
      by_cases h0 : 0 < host
      · rw [if_pos h0]
        exact hl _ (rd_mem l (host - 1) (by omega) (by omega))
      · rw [if_neg h0]
        exact Nat.zero_le _
    rw [Encode_spec l typ hh gen (apt == 1) (by omega) (fun x hx => by have := hl x hx; omega) hw k hk, Option.bind_some]
    by_cases hg : goodB l typ hh = true
    · rw [if_pos hg]
      by_cases he : (encT l typ hh gen (apt == 1)).toList = s.toList
      · rw [if_neg (by simp [he])]
        exact ⟨_, rfl, Or.inr ⟨l, typ, hh, gen, (apt == 1), rfl, hg, hw, (toList_inj' _ _).mp he⟩⟩
      · rw [if_pos (Or.inr he)]
        exact ⟨_, rfl, Or.inl rfl⟩
    · rw [if_neg hg, if_pos (Or.inl (show (1 : Int) ≠ 0 by decide))]
      exact ⟨_, rfl, Or.inl rfl⟩
theorem bind_regs (k : Nat) (hk : 10 < k) (s : ByteArray) (m : Nat) (rest : ByteArray) (bad : Bool) (F : List S48 × ByteArray × Bool → Option (List S48 × Int × ByteArray × Int × Bool × Int)) (hF : ∀ t, (∀ x ∈ t.1, (0 ≤ x.f1 ∧ x.f1 < 18446744073709551616) ∧ x.f0.size ≤ 255) → ∃ r, F t = some r ∧ okR s r) : ∃ r, (dregs k m rest bad).bind F = some r ∧ okR s r := by
  obtain ⟨t, ht, hx⟩ := dregs_any k hk m rest bad
  rw [ht, Option.bind_some]
  exact hF t hx
theorem Decode_any (k : Nat) (hk : 40 ≤ k) (s : ByteArray) : ∃ r, image_Decode.f k s = some r ∧ okR s r := by
  unfold image_Decode.f
  rw [dnum4 k _ _ (by omega), Option.bind_some, dnum1 k _ _ (by omega), Option.bind_some, dnum1 k _ _ (by omega), Option.bind_some, dnum1 k _ _ (by omega), Option.bind_some, dnum1 k _ _ (by omega), Option.bind_some]
  have hg := be_bounds (tkS (tkR s false 4) (tkB s false 4) 4) 0 4
  rw [p4] at hg
  exact bind_regs k (by omega) s _ _ _ _ (fun t hx => dend_any k hk s _ _ _ _ _ t.1 _ ⟨hg.1, hg.2, fun x h => (hx x h).1⟩ (fun x h => (hx x h).2))
end Go.Proofs.YtmpicpenbhdbhaaDoor.Pure
