/- What was put is got: of any message that may be sent, whatever follows it; and of its beginnings nothing. -/
import Derived.Test.YtcghbicjhngedaaDoorIpduGet
import Derived.Test.YtcghbicjhngedaaDoorNumBack
namespace Go.Proofs.YtcghbicjhngedaaDoor.Pure
open Go.RowKit Go.Proofs.YtcghbicjhngedaaDoor.P Go.Proofs.YtcghbicjhngedaaDoorW.PrintWords Go.Proofs.YtcghbicjhngedaaDoorW.PrintLast Go.Proofs.YtcghbicjhngedaaDoorW.PrintMore Go.Proofs.YtcghbicjhngedaaDoor.Num
set_option linter.unusedVariables false
set_option linter.unusedSimpArgs false

/-- A head with its data's length. -/
def hd (h : ByteArray) (n : Nat) : ByteArray := setAt h 5 (strOfNums (beL n 3))
theorem three (n : Nat) : (strOfNums (beL (n : Int) 3)).size = 3 := by rw [strOfNums_size, beL_length]
theorem hd_size (h : ByteArray) (n : Nat) (hh : h.size = 48) : (hd h n).size = 48 := by
  unfold hd
  rw [setAt_size _ _ _ (by rw [three]; omega), hh]
theorem hd_left (h : ByteArray) (n : Nat) (hh : h.size = 48) (i j : Nat) (hj : j ≤ 5) : (hd h n).extract i j = h.extract i j := by
  unfold hd setAt
  rw [ByteArray.append_assoc, cut_left _ _ _ _ (by rw [ByteArray.size_extract]; omega), cut_cut _ _ _ _ hj]
theorem hd_right (h : ByteArray) (n : Nat) (hh : h.size = 48) : (hd h n).extract 8 48 = h.extract 8 48 := by
  unfold hd setAt
  have h5 : (h.extract 0 5).size = 5 := by rw [ByteArray.size_extract]; omega
  rw [three, cut_right _ _ _ _ (by rw [ByteArray.size_append, h5, three]; omega), ByteArray.size_append, h5, three, hh, ByteArray.extract_extract]
  rfl
theorem hd_bt (h : ByteArray) (n i : Nat) (hh : h.size = 48) (hi : i < 5) : bt (hd h n) (i : Int) = bt h (i : Int) := by
  have h1 := bt_cut (hd h n) 0 5 i (by omega) (by rw [hd_size h n hh]; omega)
  have h2 := bt_cut h 0 5 i (by omega) (by omega)
  rw [hd_left h n hh 0 5 (by omega)] at h1
  rw [h1, Nat.zero_add] at h2
  exact h2
theorem hd_good (h : ByteArray) (n : Nat) (hg : good h = true) : good (hd h n) = true := by
  have hh := of_decide_eq_true hg
  have b0 := hd_bt h n 0 hh.1 (by omega)
  have b4 := hd_bt h n 4 hh.1 (by omega)
  rw [show ((0 : Nat) : Int) = 0 from rfl] at b0
  rw [show ((4 : Nat) : Int) = 4 from rfl] at b4
  exact decide_eq_true ⟨hd_size h n hh.1, by rw [b0]; exact hh.2.1, by rw [b4]; exact hh.2.2⟩
theorem hd_be (h : ByteArray) (n : Nat) (hh : h.size = 48) (hn : n ≤ 8192) : be (hd h n) 5 3 = n := by
  have hp : p 3 = 16777216 := by decide
  have e : (hd h n).extract 5 8 = strOfNums (beL (n : Int) 3) := by
    unfold hd setAt
    rw [ByteArray.append_assoc]
    exact cut_mid _ _ _ _ _ (by rw [ByteArray.size_extract]; omega) (by rw [ByteArray.size_extract, three]; omega)
  have h1 := be_beL (n : Int) 3 (by omega) (by omega)
  rw [← e] at h1
  rw [← h1]
  refine be_same _ _ _ _ 3 (fun i hi => ?_)
  rw [Int.zero_add, bt_cut _ 5 8 i (by omega) (by rw [hd_size h n hh]; omega)]
  congr 1

/-- A text that begins with a head, and goes on with its digest if there is one, is read so. -/
theorem get_begun (s h : ByteArray) (n : Nat) (b1 b2 : Bool) (hg : good h = true) (hn : n ≤ 8192) (h48 : 48 ≤ s.size) (e1 : s.extract 0 48 = hd h n) (e2 : b1 = true → 52 ≤ s.size → s.extract 48 52 = dig (hd h n)) :
    getOf s b1 b2 = bodyOf s (if b1 = true then 52 else 48) n ((if b1 = true then 52 else 48) + (n + 3) / 4 * 4) ((if b1 = true then 52 else 48) + (n + 3) / 4 * 4 + (if b2 = true ∧ 0 < n then 4 else 0)) := by
  have hh := of_decide_eq_true hg
  have hb : be s 5 3 = n := by
    rw [← hd_be h n hh.1 hn, ← e1]
    refine be_same _ _ _ _ 3 (fun i hi => ?_)
    have := bt_cut s 0 48 (5 + i) (by omega) h48
    rw [Nat.zero_add] at this
    rw [show (5 : Int) + (i : Int) = ((5 + i : Nat) : Int) by omega, this]
  unfold getOf
  rw [if_neg (by omega), if_neg (fun z => z.2.2 (by rw [e2 z.1 z.2.1, e1])), if_pos ⟨by rw [e1]; exact hd_good h n hg, by rw [hb]; omega⟩, hb, Int.toNat_natCast]

/-- What is sent of a message that may be sent, and whatever follows. -/
def wire (h d : ByteArray) (b1 b2 : Bool) : ByteArray := headOf h d.size b1 ++ tailOf d b2
theorem putOf_ok (h d : ByteArray) (b1 b2 : Bool) (hg : good h = true) (hd' : d.size ≤ 8192) : putOf h d b1 b2 = (wire h d b1 b2, 0) := by
  unfold putOf wire
  rw [if_pos ⟨hg, hd'⟩]
theorem putOf_err (h d : ByteArray) (b1 b2 : Bool) : (putOf h d b1 b2).2 = 0 ↔ (good h = true ∧ d.size ≤ 8192) := by
  unfold putOf
  split
  · rename_i hc
    exact ⟨fun _ => hc, fun _ => rfl⟩
  · rename_i hc
    exact ⟨fun x => absurd x (show ¬ (200 : Int) = 0 by decide), fun x => absurd x hc⟩
theorem putOf_none (h d : ByteArray) (b1 b2 : Bool) (hc : ¬ (good h = true ∧ d.size ≤ 8192)) : putOf h d b1 b2 = (⟨#[]⟩, 200) := by
  unfold putOf
  rw [if_neg hc]
theorem headOf_eq (h : ByteArray) (n : Nat) (b1 : Bool) : headOf h n b1 = hd h n ++ (if b1 = true then dig (hd h n) else ⟨#[]⟩) := by
  unfold headOf hd
  cases b1
  · rw [if_neg (by decide), if_neg (by decide), append_none _ _ rfl]
  · rw [if_pos rfl, if_pos rfl]
theorem headOf_size (h : ByteArray) (n : Nat) (b1 : Bool) (hh : h.size = 48) : (headOf h n b1).size = if b1 = true then 52 else 48 := by
  rw [headOf_eq, ByteArray.size_append, hd_size h n hh]
  cases b1
  · rfl
  · rw [if_pos rfl, if_pos rfl, dig_size]
theorem tailOf_eq (d : ByteArray) (b2 : Bool) : tailOf d b2 = pad4 d ++ (if b2 = true ∧ 0 < d.size then dig (pad4 d) else ⟨#[]⟩) := by
  unfold tailOf
  by_cases h : b2 = true ∧ 0 < d.size
  · rw [if_pos ⟨h.1, by omega⟩, if_pos h]
  · rw [if_neg (fun z => h ⟨z.1, by omega⟩), if_neg h, append_none _ _ rfl]
theorem wire_size (h d : ByteArray) (b1 b2 : Bool) (hh : h.size = 48) : (wire h d b1 b2).size = (if b1 = true then 52 else 48) + (d.size + 3) / 4 * 4 + (if b2 = true ∧ 0 < d.size then 4 else 0) := by
  unfold wire
  rw [ByteArray.size_append, headOf_size h d.size b1 hh, tailOf_eq, ByteArray.size_append, pad4_size]
  by_cases h : b2 = true ∧ 0 < d.size
  · rw [if_pos h, if_pos h, dig_size]; omega
  · rw [if_neg h, if_neg h]; rfl
theorem wire_48 (h d x : ByteArray) (b1 b2 : Bool) (hh : h.size = 48) : (wire h d b1 b2 ++ x).extract 0 48 = hd h d.size := by
  unfold wire
  rw [headOf_eq, ByteArray.append_assoc, ByteArray.append_assoc, cut_left _ _ _ _ (by rw [hd_size _ _ hh]; omega)]
  have := @ByteArray.extract_zero_size (hd h d.size)
  rw [hd_size _ _ hh] at this
  exact this
theorem wire_52 (h d x : ByteArray) (b2 : Bool) (hh : h.size = 48) : (wire h d true b2 ++ x).extract 48 52 = dig (hd h d.size) := by
  unfold wire
  rw [headOf_eq, if_pos rfl, ByteArray.append_assoc, ByteArray.append_assoc]
  exact cut_mid _ _ _ _ _ (by rw [hd_size _ _ hh]) (by rw [hd_size _ _ hh, dig_size])
theorem pad4_cut (d : ByteArray) : (pad4 d).extract 0 d.size = d := by
  unfold pad4
  split
  · exact ByteArray.extract_zero_size
  · rw [cut_left _ _ _ _ (Nat.le_refl _)]
    exact ByteArray.extract_zero_size
theorem get_wire (h d x : ByteArray) (b1 b2 : Bool) (hg : good h = true) (hd' : d.size ≤ 8192) : getOf (wire h d b1 b2 ++ x) b1 b2 = (hd h d.size, d, ((wire h d b1 b2).size : Int), 0) := by
  have hh := (of_decide_eq_true hg).1
  have hz := wire_size h d b1 b2 hh
  have hA := headOf_size h d.size b1 hh
  have hA' : (if b1 = true then 52 else 48) = (headOf h d.size b1).size := hA.symm
  have hs : (wire h d b1 b2 ++ x).size = (wire h d b1 b2).size + x.size := ByteArray.size_append
  have h48 : 48 ≤ (headOf h d.size b1).size := by rw [hA]; split <;> omega
  have hp := pad4_size d
  rw [hA'] at hz
  have hcut : (wire h d b1 b2 ++ x).extract (headOf h d.size b1).size ((headOf h d.size b1).size + (d.size + 3) / 4 * 4) = pad4 d := by
    unfold wire
    rw [tailOf_eq, ByteArray.append_assoc, ByteArray.append_assoc]
    exact cut_mid _ _ _ _ _ rfl (by omega)
  have hdata : (wire h d b1 b2 ++ x).extract (headOf h d.size b1).size ((headOf h d.size b1).size + d.size) = d := by
    have e : (wire h d b1 b2 ++ x).extract (headOf h d.size b1).size ((headOf h d.size b1).size + d.size) = ((wire h d b1 b2 ++ x).extract (headOf h d.size b1).size ((headOf h d.size b1).size + (d.size + 3) / 4 * 4)).extract 0 d.size := by
      rw [ByteArray.extract_extract]
      congr 1
      omega
    rw [e, hcut, pad4_cut]
  rw [get_begun _ h d.size b1 b2 hg hd' (by omega) (wire_48 h d x b1 b2 hh) (fun hb _ => by subst hb; exact wire_52 h d x b2 hh), hA', ← hz]
  unfold bodyOf
  rw [if_neg (by omega)]
  have hw : ¬ ((headOf h d.size b1).size + (d.size + 3) / 4 * 4 < (wire h d b1 b2).size ∧ ¬ ((wire h d b1 b2 ++ x).extract ((headOf h d.size b1).size + (d.size + 3) / 4 * 4) (wire h d b1 b2).size).toList = (dig ((wire h d b1 b2 ++ x).extract (headOf h d.size b1).size ((headOf h d.size b1).size + (d.size + 3) / 4 * 4))).toList) := by
    intro z
    refine z.2 ?_
    rw [hcut]
    have hc : b2 = true ∧ 0 < d.size := by
      by_cases hc : b2 = true ∧ 0 < d.size
      · exact hc
      · rw [if_neg hc] at hz
        omega
    rw [if_pos hc] at hz
    congr 1
    unfold wire
    rw [tailOf_eq, if_pos hc, ByteArray.append_assoc, ByteArray.append_assoc, ← ByteArray.append_assoc]
    have hq : (headOf h d.size b1 ++ pad4 d).size = (headOf h d.size b1).size + (d.size + 3) / 4 * 4 := by rw [ByteArray.size_append]; omega
    exact cut_mid _ _ _ _ _ hq.symm (by rw [hq, dig_size, ByteArray.size_append, ByteArray.size_append, dig_size]; omega)
  rw [if_neg hw, wire_48 h d x b1 b2 hh, hdata]
theorem get_part (h d : ByteArray) (b1 b2 : Bool) (k : Nat) (hg : good h = true) (hd' : d.size ≤ 8192) (hk : k < (wire h d b1 b2).size) : (getOf ((wire h d b1 b2).extract 0 k) b1 b2).2.2 = (0, 0) := by
  have hh := (of_decide_eq_true hg).1
  have hz := wire_size h d b1 b2 hh
  have hs : ((wire h d b1 b2).extract 0 k).size = k := by rw [ByteArray.size_extract]; omega
  have hw : wire h d b1 b2 ++ ⟨#[]⟩ = wire h d b1 b2 := append_none _ _ rfl
  by_cases h48 : k < 48
  · unfold getOf
    rw [if_pos (by omega)]
  · have e1 : ((wire h d b1 b2).extract 0 k).extract 0 48 = hd h d.size := by
      have := wire_48 h d ⟨#[]⟩ b1 b2 hh
      rw [hw] at this
      rw [cut_cut _ _ _ _ (by omega), this]
    rw [get_begun _ h d.size b1 b2 hg hd' (by omega) e1 (fun hb h52 => by
      subst hb
      have := wire_52 h d ⟨#[]⟩ b2 hh
      rw [hw] at this
      rw [cut_cut _ _ _ _ (by omega), this])]
    unfold bodyOf
    rw [if_pos (by omega)]
end Go.Proofs.YtcghbicjhngedaaDoor.Pure
