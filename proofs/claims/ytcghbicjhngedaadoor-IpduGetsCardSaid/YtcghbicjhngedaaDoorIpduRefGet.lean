/- What the document's reading of a message answers. -/
import Derived.Test.YtcghbicjhngedaaDoorIpduGet
import Derived.Test.YtcghbicjhngedaaDoorPx7
import Derived.Test.YtcghbicjhngedaaDoorPx6
namespace Go.Proofs.YtcghbicjhngedaaDoor.Pure
open Go.RowKit Go.Proofs.YtcghbicjhngedaaDoor.P Go.Proofs.YtcghbicjhngedaaDoorW.PrintWords Go.Proofs.YtcghbicjhngedaaDoorW.PrintLast Go.Proofs.YtcghbicjhngedaaDoorW.PrintMore Go.Proofs.YtcghbicjhngedaaDoor.Num
set_option linter.unusedVariables false
set_option linter.unusedSimpArgs false

theorem good_cut (s : ByteArray) (h : 48 ≤ s.size) : good (s.extract 0 48) = decide (bt s 0 < 128 ∧ bt s 4 = 0) := by
  have hb : ∀ i : Nat, i < 48 → bt (s.extract 0 48) (i : Int) = bt s (i : Int) := fun i hi => by
    rw [bt_list (s.extract 0 48) i (by rw [ByteArray.size_extract]; omega), bt_list s i (by omega)]
    simp
  have h0 := hb 0 (by omega)
  have h4 := hb 4 (by omega)
  unfold good
  rw [decide_eq_decide, ByteArray.size_extract]
  rw [show ((0 : Nat) : Int) = 0 from rfl] at h0
  rw [show ((4 : Nat) : Int) = 4 from rfl] at h4
  rw [h0, h4]
  omega
theorem ref_head_spec (k : Nat) (s : ByteArray) (hs : s.size ≤ 100000) (h : 48 ≤ s.size) (hk : 20 ≤ k) : headgateref20_head.f k s = some (be s 5 3, decide (good (s.extract 0 48) = true ∧ be s 5 3 ≤ 8192)) := by
  have hb := be_bounds s 5 3
  have hp : p 3 = 16777216 := by decide
  have ht : there s 5 3 = true := by unfold there; rw [decide_eq_true_eq]; omega
  have hB : headgateref01_Big.f k s 5 3 = some (be s 5 3, true) := by rw [ref_Big_spec _ _ _ (by omega) _ (by omega), if_pos ht]; rfl
  unfold headgateref20_head.f
  rw [hB, Option.bind_some, good_cut s h, if_pos (by omega)]
  dsimp only
  rw [w64 (n := be s 5 3) (by omega) (by omega)]
  by_cases h0 : bt s 0 < 128
  · rw [if_pos h0, if_pos (by omega)]
    by_cases h4 : bt s 4 = 0
    · rw [if_pos h4]
      congr 2
      rw [decide_eq_decide, decide_eq_true_eq]
      omega
    · rw [if_neg h4, decide_eq_false (by rw [decide_eq_true_eq]; omega)]
  · rw [if_neg h0, decide_eq_false (by rw [decide_eq_true_eq]; omega)]
theorem pad_zeros (n : Nat) (hn : n ≤ 8192) : headgateref01_Pad.f (strOfNums (List.replicate n 0)) 4 = some (pad4 (strOfNums (List.replicate n 0))) ∧ (pad4 (strOfNums (List.replicate n 0))).size = (n + 3) / 4 * 4 := by
  have hz : (strOfNums (List.replicate n 0)).size = n := by rw [strOfNums_size, List.length_replicate]
  refine ⟨ref_Pad_four _ (by omega), ?_⟩
  rw [pad4_size, hz]
theorem ref_Get_j2 (k : Nat) (s : ByteArray) (b2 : Bool) (at' n : Nat) (hs : s.size ≤ 100000) (h48 : 48 ≤ s.size) (ha : at' ≤ 52) (hn : n ≤ 8192) (hk : 120000 ≤ k) :
    headgateref20_Get.j2 k s b2 (at' : Int) (n : Int) ((at' + (n + 3) / 4 * 4 + (if b2 = true ∧ 0 < n then 4 else 0) : Nat) : Int) ((at' + (n + 3) / 4 * 4 : Nat) : Int)
      = some (bodyOf s at' n (at' + (n + 3) / 4 * 4) (at' + (n + 3) / 4 * 4 + (if b2 = true ∧ 0 < n then 4 else 0))) := by
  obtain ⟨k, rfl⟩ := Nat.exists_eq_add_of_le' (show 1 ≤ k by omega)
  obtain ⟨e, he⟩ : ∃ e, e = at' + (n + 3) / 4 * 4 := ⟨_, rfl⟩
  rw [← he]
  have e1 : wrap64 ((at' : Int) + n) = ((at' + n : Nat) : Int) := by rw [w64 (by omega) (by omega)]; omega
  unfold bodyOf
  rw [headgateref20_Get.j2]
  by_cases h0 : 0 < n
  · cases b2 with
    | false =>
      rw [if_neg (show ¬ (false = true ∧ 0 < n) by simp), Nat.add_zero]
      by_cases hz : s.size < e
      · rw [if_pos (by omega), if_pos hz]
      · rw [if_neg (by omega), if_neg hz, if_pos (by decide), if_pos (by omega), if_neg (by omega), if_pos (by omega), e1, if_pos (by omega), if_pos (by omega), if_neg (by decide), if_neg (fun x => absurd x.1 (by omega))]
        simp only [Int.toNat_natCast]
    | true =>
      rw [if_pos (show (true = true ∧ 0 < n) from ⟨rfl, h0⟩)]
      by_cases hz : s.size < e + 4
      · rw [if_pos (by omega), if_pos hz]
      · rw [if_neg (by omega), if_neg hz, if_pos (by decide), if_pos (by omega), if_neg (by omega), if_pos (by omega), e1, if_pos (by omega), if_pos (by omega), if_pos rfl, if_pos (by omega), if_pos (by omega), if_pos (by omega), if_pos (by omega), if_pos (by omega)]
        simp only [Int.toNat_natCast]
        rw [ref_Digest_spec _ (by rw [ByteArray.size_extract]; omega) _ (by rw [ByteArray.size_extract]; omega), Option.bind_some]
        by_cases hd : (s.extract e (e + 4)).toList = (dig (s.extract at' e)).toList
        · rw [if_pos hd, if_neg (fun x => x.2 hd)]
        · rw [if_neg hd, if_pos (show e < e + 4 ∧ ¬ (s.extract e (e + 4)).toList = (dig (s.extract at' e)).toList from ⟨by omega, hd⟩)]
  · have n0 : n = 0 := by omega
    subst n0
    have ee : e = at' := by omega
    rw [if_neg (show ¬ (b2 = true ∧ 0 < 0) by simp), Nat.add_zero]
    by_cases hz : s.size < e
    · rw [if_pos (by omega), if_pos hz]
    · rw [if_neg (by omega), if_neg hz, if_pos (by decide), if_pos (by omega), if_pos (show ((0 : Nat) : Int) = 0 from rfl), if_neg (fun x => absurd x.1 (by omega))]
      have he0 : s.extract at' (at' + 0) = ⟨#[]⟩ := by
        apply ByteArray.ext
        exact Array.eq_empty_of_size_eq_zero (by show (s.extract at' (at' + 0)).size = 0; rw [ByteArray.size_extract]; omega)
      rw [he0]
theorem ref_Get_j1 (k : Nat) (s : ByteArray) (b2 z : Bool) (at' : Nat) (hs : s.size ≤ 100000) (ha : at' ≤ 52) (hk : 130000 ≤ k) :
    headgateref20_Get.j1 k s b2 (at' : Int) z = some (if z = true then (⟨#[]⟩, ⟨#[]⟩, 0, 201) else if s.size < 48 then (⟨#[]⟩, ⟨#[]⟩, 0, 0) else if good (s.extract 0 48) = true ∧ be s 5 3 ≤ 8192 then
    bodyOf s at' (be s 5 3).toNat (at' + ((be s 5 3).toNat + 3) / 4 * 4) (at' + ((be s 5 3).toNat + 3) / 4 * 4 + (if b2 = true ∧ 0 < (be s 5 3).toNat then 4 else 0)) else (⟨#[]⟩, ⟨#[]⟩, 0, 200)) := by
  obtain ⟨k, rfl⟩ := Nat.exists_eq_add_of_le' (show 1 ≤ k by omega)
  rw [headgateref20_Get.j1]
  cases z with
  | true => rw [if_pos rfl, if_pos rfl]
  | false =>
    rw [if_neg (show ¬ false = true by decide), if_neg (show ¬ false = true by decide)]
    by_cases h48 : s.size < 48
    · rw [if_pos (by omega), if_pos h48]
    · have hb := be_bounds s 5 3
      rw [if_neg (by omega), if_neg h48, ref_head_spec k s hs (by omega) (by omega), Option.bind_some]
      dsimp only
      by_cases hg : good (s.extract 0 48) = true ∧ be s 5 3 ≤ 8192
      · obtain ⟨n, hn⟩ : ∃ n : Nat, be s 5 3 = n := ⟨(be s 5 3).toNat, by omega⟩
        rw [decide_eq_true hg, if_pos rfl, if_pos hg]
        have h8 := hg.2
        rw [hn] at h8 ⊢
        obtain ⟨q1, q2⟩ := pad_zeros n (by omega)
        have j2 := ref_Get_j2 k s b2 at' n hs (by omega) ha (by omega) (by omega)
        have eE : wrap64 ((at' : Int) + ((pad4 (strOfNums (List.replicate n 0))).size : Int)) = ((at' + (n + 3) / 4 * 4 : Nat) : Int) := by rw [q2, w64 (by omega) (by omega)]; omega
        have e4 : wrap64 (((at' + (n + 3) / 4 * 4 : Nat) : Int) + 4) = ((at' + (n + 3) / 4 * 4 + 4 : Nat) : Int) := by rw [w64 (by omega) (by omega)]; omega
        rw [if_pos (by omega), Int.toNat_natCast, if_pos (by omega), q1, Option.bind_some, eE, e4]
        by_cases h0 : 0 < n
        · rw [if_pos (show (n : Int) > 0 by omega)]
          cases b2 with
          | false => rw [if_neg (by decide)]; rw [if_neg (show ¬ (false = true ∧ 0 < n) by simp)] at j2 ⊢; exact j2
          | true => rw [if_pos rfl]; rw [if_pos (show (true = true ∧ 0 < n) from ⟨rfl, h0⟩)] at j2 ⊢; exact j2
        · have n0 : n = 0 := by omega
          subst n0
          rw [if_neg (by decide)]
          rw [if_neg (show ¬ (b2 = true ∧ 0 < 0) by simp)] at j2 ⊢
          exact j2
      · rw [decide_eq_false hg, if_neg (by decide), if_neg hg]
theorem ref_Get_spec (k : Nat) (s : ByteArray) (b1 b2 : Bool) (hs : s.size ≤ 100000) (hk : 140000 ≤ k) : headgateref20_Get.f k s b1 b2 = some (getOf s b1 b2) := by
  obtain ⟨k, rfl⟩ := Nat.exists_eq_add_of_le' (show 1 ≤ k by omega)
  have j1a : ∀ z, headgateref20_Get.j1 k s b2 52 z = _ := fun z => ref_Get_j1 k s b2 z 52 hs (by omega) (by omega)
  have j1b : ∀ z, headgateref20_Get.j1 k s b2 48 z = _ := fun z => ref_Get_j1 k s b2 z 48 hs (by omega) (by omega)
  unfold headgateref20_Get.f getOf
  cases b1 with
  | false =>
    rw [if_neg (show ¬ false = true by decide), headgateref20_Get.j0, if_neg (show ¬ false = true by decide), j1b]
    simp
  | true =>
    rw [if_pos rfl, headgateref20_Get.j0, if_pos rfl]
    by_cases h52 : 52 ≤ s.size
    · rw [if_pos (show (s.size : Int) ≥ 52 by omega), if_pos (by decide), if_pos (by omega), if_pos (by decide), if_pos (by omega), ref_Digest_spec _ (by rw [ByteArray.size_extract]; omega) _ (by rw [ByteArray.size_extract]; omega), Option.bind_some, j1a]
      by_cases hd : (s.extract 48 52).toList = (dig (s.extract 0 48)).toList
      · have e : ((s.extract 48 52).toList != (dig (s.extract 0 48)).toList) = false := bne_eq_false_iff_eq.mpr hd
        rw [e]
        simp [hd]
      · have e : ((s.extract 48 52).toList != (dig (s.extract 0 48)).toList) = true := bne_iff_ne.mpr hd
        rw [e, if_pos rfl, if_neg (show ¬ s.size < 48 by omega), if_pos (show true = true ∧ 52 ≤ s.size ∧ ¬ (s.extract 48 52).toList = (dig (s.extract 0 48)).toList from ⟨rfl, h52, hd⟩)]
    · rw [if_neg (show ¬ (s.size : Int) ≥ 52 by omega), j1a]
      simp [h52]
end Go.Proofs.YtcghbicjhngedaaDoor.Pure
