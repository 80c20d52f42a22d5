/- What was put is got: of any message that may be sent, whatever follows it; and of its beginnings nothing. -/
import Derived.Test.YtkbjhblffbcleaaDoorTpduPre
namespace Go.Proofs.YtkbjhblffbcleaaDoor.Pure
open Go.RowKit Go.Proofs.YtkbjhblffbcleaaDoor.P Go.Proofs.YtkbjhblffbcleaaDoorW.PrintWords Go.Proofs.YtkbjhblffbcleaaDoorW.PrintLast Go.Proofs.YtkbjhblffbcleaaDoorW.PrintMore Go.Proofs.YtkbjhblffbcleaaDoor.Num
set_option linter.unusedVariables false
set_option linter.unusedSimpArgs false

/-- A text that begins with the eight bytes of a message that may be sent is read so. -/
theorem get_begun (s : ByteArray) (t fl n : Int) (h d : Bool) (h8 : 8 ≤ s.size) (hz : szT t ≠ 0) (hn : 0 ≤ n) (hn1 : n ≤ mxT t) (hf : fl = 0 ∨ fl = 4 ∨ fl = 8 ∨ fl = 12) (e : s.extract 0 8 = pre t fl n h d) :
    getT s h d = restT s t fl n h d := by
  have hz' := szT_cases t
  have ht := szT_pos hz
  have hD := aD_bounds t h
  have hal := al_bounds t n h d
  have hmx := mxT_bounds t
  have hg := flg_bounds t fl n h d
  have hp4 : p 4 = 4294967296 := by decide
  have hcut : ∀ i : Nat, i < 8 → bt (pre t fl n h d) (i : Int) = bt s (i : Int) := fun i hi => by
    have := bt_cut s 0 8 i (by omega) h8
    rw [Nat.zero_add, e] at this
    exact this
  have d0 := bt_pre t fl n h d 0 (by omega) (by omega)
  have d1 := bt_pre t fl n h d 1 (by omega) (by omega)
  rw [hcut 0 (by omega)] at d0
  rw [hcut 1 (by omega)] at d1
  have e0 : bt s 0 = t := by
    have : bt s ((0 : Nat) : Int) = t % 256 := d0
    have h0 : bt s ((0 : Nat) : Int) = bt s 0 := rfl
    omega
  have e1 : bt s 1 = flg t fl n h d := by
    have : bt s ((1 : Nat) : Int) = flg t fl n h d % 256 := d1
    have h0 : bt s ((1 : Nat) : Int) = bt s 1 := rfl
    omega
  have el : le s 4 4 = al t n h d := by
    have := le_of s 4 (al t n h d) 4 (fun i hi => by
      rw [← bt_pre_high t fl n h d i hi, show (4 : Int) + (i : Int) = ((4 + i : Nat) : Int) by omega]
      exact (hcut (4 + i) (by omega)).symm) 4 (Nat.le_refl 4)
    rw [this, hp4]
    omega
  have ef : fl12 s = fl := by
    have h4 : bt s 1 / 4 * 4 = fl := by rw [e1]; omega
    rw [fl_low s (by omega), h4]
  have en : nst t (al t n h d) h d = n := (nst_of t n _ h d hn rfl).symm
  have hpre := (pre_iff s t fl n h d h8 e0 hn (by omega) (by omega) el.symm).mp e.symm
  unfold getT
  rw [if_neg (by omega), e0, el, ef, en, if_pos ⟨hz, hn, hn1, rfl, hpre.1, hpre.2.1, hpre.2.2⟩]

theorem hw_size (t fl : Int) (H D : ByteArray) (h d : Bool) : (hw t fl H D h d).size = 8 + H.size := by unfold hw; rw [ByteArray.size_append, pre_size]
def hdg (t fl : Int) (H D : ByteArray) (h d : Bool) : ByteArray := if h = true ∧ 3 < t then dig (hw t fl H D h d) else ⟨#[]⟩
def ddg (t : Int) (D : ByteArray) (d : Bool) : ByteArray := if d = true ∧ 3 < t ∧ 0 < D.size then dig D else ⟨#[]⟩
theorem wire_eq (t fl : Int) (H D : ByteArray) (h d : Bool) : wire t fl H D h d = ((hw t fl H D h d ++ hdg t fl H D h d) ++ D) ++ ddg t D d := rfl
theorem hdg_size (t fl : Int) (H D : ByteArray) (h d : Bool) : (hdg t fl H D h d).size = if h = true ∧ 3 < t then 4 else 0 := by
  unfold hdg
  split
  · rw [dig_size]
  · rfl
theorem ddg_size (t : Int) (D : ByteArray) (d : Bool) : (ddg t D d).size = if d = true ∧ 3 < t ∧ 0 < D.size then 4 else 0 := by
  unfold ddg
  split
  · rw [dig_size]
  · rfl
theorem begun_size (t fl : Int) (H D : ByteArray) (h d : Bool) (hH : (H.size : Int) = szT t) : ((hw t fl H D h d ++ hdg t fl H D h d).size : Int) = aD t h := by
  rw [ByteArray.size_append, hw_size, hdg_size]
  unfold aD
  by_cases hc : h = true ∧ 3 < t
  · rw [if_pos hc, if_pos hc]; omega
  · rw [if_neg hc, if_neg hc]; omega
theorem wire_size (t fl : Int) (H D : ByteArray) (h d : Bool) (hH : (H.size : Int) = szT t) : ((wire t fl H D h d).size : Int) = al t D.size h d := by
  have hb := begun_size t fl H D h d hH
  rw [wire_eq, ByteArray.size_append, ByteArray.size_append, ddg_size]
  unfold al
  by_cases hc : d = true ∧ 3 < t ∧ 0 < D.size
  · rw [if_pos hc, if_pos ⟨hc.1, hc.2.1, by omega⟩]; omega
  · rw [if_neg hc, if_neg (fun z => hc ⟨z.1, z.2.1, by omega⟩)]; omega
theorem self_cut (a : ByteArray) (n : Nat) (h : n = a.size) : a.extract 0 n = a := by rw [h]; exact ByteArray.extract_zero_size
theorem wire_8 (t fl : Int) (H D x : ByteArray) (h d : Bool) : (wire t fl H D h d ++ x).extract 0 8 = pre t fl D.size h d := by
  rw [wire_eq]
  unfold hw
  rw [ByteArray.append_assoc, ByteArray.append_assoc, ByteArray.append_assoc, ByteArray.append_assoc, cut_left _ _ _ _ (by rw [pre_size]; omega)]
  exact self_cut _ _ (pre_size _ _ _ _ _).symm
theorem wire_head (t fl : Int) (H D x : ByteArray) (h d : Bool) (m : Nat) (hm : m = 8 + H.size) : (wire t fl H D h d ++ x).extract 0 m = hw t fl H D h d := by
  rw [wire_eq, ByteArray.append_assoc, ByteArray.append_assoc, ByteArray.append_assoc, cut_left _ _ _ _ (by rw [hw_size]; omega)]
  exact self_cut _ _ (by rw [hw_size]; exact hm)
theorem wire_H (t fl : Int) (H D x : ByteArray) (h d : Bool) (m : Nat) (hm : m = 8 + H.size) : (wire t fl H D h d ++ x).extract 8 m = H := by
  rw [wire_eq]
  unfold hw
  rw [ByteArray.append_assoc, ByteArray.append_assoc, ByteArray.append_assoc, ByteArray.append_assoc]
  exact cut_mid _ _ _ _ _ (by rw [pre_size]) (by rw [pre_size]; exact hm)
theorem wire_hd (t fl : Int) (H D x : ByteArray) (h d : Bool) (i j : Nat) (hi : i = 8 + H.size) (hj : j = 8 + H.size + 4) (hc : h = true ∧ 3 < t) : (wire t fl H D h d ++ x).extract i j = dig (hw t fl H D h d) := by
  have e : hdg t fl H D h d = dig (hw t fl H D h d) := if_pos hc
  rw [wire_eq, e, ByteArray.append_assoc, ByteArray.append_assoc, ByteArray.append_assoc]
  exact cut_mid _ _ _ _ _ (by rw [hw_size]; exact hi) (by rw [hw_size, dig_size]; exact hj)
theorem wire_D (t fl : Int) (H D x : ByteArray) (h d : Bool) (i j : Nat) (hi : i = (hw t fl H D h d ++ hdg t fl H D h d).size) (hj : j = i + D.size) : (wire t fl H D h d ++ x).extract i j = D := by
  rw [wire_eq, ByteArray.append_assoc, ByteArray.append_assoc]
  exact cut_mid _ _ _ _ _ hi (by rw [← hi]; exact hj)
theorem wire_dd (t fl : Int) (H D x : ByteArray) (h d : Bool) (i j : Nat) (hi : i = (hw t fl H D h d ++ hdg t fl H D h d).size + D.size) (hj : j = i + 4) (hc : d = true ∧ 3 < t ∧ 0 < D.size) : (wire t fl H D h d ++ x).extract i j = dig D := by
  have e : ddg t D d = dig D := if_pos hc
  rw [wire_eq, e, ByteArray.append_assoc]
  exact cut_mid _ _ _ _ _ (by rw [ByteArray.size_append]; exact hi) (by rw [ByteArray.size_append, ← hi, dig_size]; exact hj)
theorem get_wire (t fl : Int) (H D x : ByteArray) (h d : Bool) (ok : okT t fl H D) : getT (wire t fl H D h d ++ x) h d = (t, fl, H, D, al t D.size h d, 0) := by
  obtain ⟨hz, hH, hDs, hf⟩ := ok
  have hz' := szT_cases t
  have ha := aD_bounds t h
  have hl := al_bounds t D.size h d
  have hb := begun_size t fl H D h d hH
  have hw' := wire_size t fl H D h d hH
  have hs : (wire t fl H D h d ++ x).size = (wire t fl H D h d).size + x.size := ByteArray.size_append
  rw [get_begun _ t fl D.size h d (by omega) hz (by omega) hDs hf (wire_8 t fl H D x h d)]
  unfold restT
  have c1 : ¬ (h = true ∧ 3 < t ∧ aD t h ≤ ((wire t fl H D h d ++ x).size : Int) ∧ ¬ ((wire t fl H D h d ++ x).extract (8 + szT t).toNat (aD t h).toNat = dig ((wire t fl H D h d ++ x).extract 0 (8 + szT t).toNat))) := by
    intro z
    refine z.2.2.2 ?_
    have e3 : aD t h = 8 + szT t + 4 := by unfold aD; rw [if_pos ⟨z.1, z.2.1⟩]
    rw [wire_head t fl H D x h d _ (by omega), wire_hd t fl H D x h d _ _ (by omega) (by omega) ⟨z.1, z.2.1⟩]
  have c2 : ¬ (d = true ∧ 3 < t ∧ 0 < (D.size : Int) ∧ ¬ ((wire t fl H D h d ++ x).extract (aD t h + D.size).toNat (al t D.size h d).toNat = dig ((wire t fl H D h d ++ x).extract (aD t h).toNat (aD t h + D.size).toNat))) := by
    intro z
    refine z.2.2.2 ?_
    have e3 : al t D.size h d = aD t h + D.size + 4 := by unfold al; rw [if_pos ⟨z.1, z.2.1, z.2.2.1⟩]
    rw [wire_dd t fl H D x h d _ _ (by omega) (by omega) ⟨z.1, z.2.1, by have := z.2.2.1; omega⟩, wire_D t fl H D x h d _ _ (by omega) (by omega)]
  rw [if_neg c1, if_neg (by omega), if_neg c2, wire_H t fl H D x h d _ (by omega), wire_D t fl H D x h d _ _ (by omega) (by omega)]
theorem get_part (t fl : Int) (H D : ByteArray) (h d : Bool) (k : Nat) (ok : okT t fl H D) (hk : k < (wire t fl H D h d).size) : getT ((wire t fl H D h d).extract 0 k) h d = none_ 0 := by
  obtain ⟨hz, hH, hDs, hf⟩ := ok
  have hz' := szT_cases t
  have ha := aD_bounds t h
  have hl := al_bounds t D.size h d
  have hw' := wire_size t fl H D h d hH
  have hs : ((wire t fl H D h d).extract 0 k).size = k := by rw [ByteArray.size_extract]; omega
  have hx : wire t fl H D h d ++ ⟨#[]⟩ = wire t fl H D h d := append_none _ _ rfl
  by_cases h8 : k < 8
  · unfold getT
    rw [if_pos (by omega)]
  · rw [get_begun _ t fl D.size h d (by omega) hz (by omega) hDs hf (by
      rw [cut_cut _ _ _ _ (by omega), ← wire_8 t fl H D ⟨#[]⟩ h d, hx])]
    unfold restT
    have c1 : ¬ (h = true ∧ 3 < t ∧ aD t h ≤ (((wire t fl H D h d).extract 0 k).size : Int) ∧ ¬ (((wire t fl H D h d).extract 0 k).extract (8 + szT t).toNat (aD t h).toNat = dig (((wire t fl H D h d).extract 0 k).extract 0 (8 + szT t).toNat))) := by
      intro z
      have z3 := z.2.2.1
      refine z.2.2.2 ?_
      have e3 : aD t h = 8 + szT t + 4 := by unfold aD; rw [if_pos ⟨z.1, z.2.1⟩]
      rw [cut_cut _ _ _ _ (by omega), cut_cut _ _ _ _ (by omega)]
      have a1 := wire_head t fl H D ⟨#[]⟩ h d (8 + szT t).toNat (by omega)
      have a2 := wire_hd t fl H D ⟨#[]⟩ h d (8 + szT t).toNat (aD t h).toNat (by omega) (by omega) ⟨z.1, z.2.1⟩
      rw [hx] at a1 a2
      rw [a1, a2]
    rw [if_neg c1, if_pos (by omega)]
theorem putT_ok (t fl : Int) (H D : ByteArray) (h d : Bool) (ok : okT t fl H D) : putT t fl H D h d = (wire t fl H D h d, 0) := if_pos ok
theorem putT_none (t fl : Int) (H D : ByteArray) (h d : Bool) (ok : ¬ okT t fl H D) : putT t fl H D h d = (⟨#[]⟩, 200) := if_neg ok
end Go.Proofs.YtkbjhblffbcleaaDoor.Pure
