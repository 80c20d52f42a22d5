/- With digests a message of which one byte is turned is none, or is told: for every message, place and byte. -/
import Derived.Test.YtcghbicjhngedaaDoorPx4
import Derived.Test.YtcghbicjhngedaaDoorRq
import Derived.Test.YtcghbicjhngedaaDoorIpduWakes
import Derived.Test.YtcghbicjhngedaaDoorIpduWire
import Derived.Test.YtcghbicjhngedaaDoorTurnLib
namespace Go.Proofs.YtcghbicjhngedaaDoor.Pure
open Go.RowKit Go.Proofs.YtcghbicjhngedaaDoor.P Go.Proofs.YtcghbicjhngedaaDoorW.PrintWords Go.Proofs.YtcghbicjhngedaaDoorW.PrintLast Go.Proofs.YtcghbicjhngedaaDoorW.PrintMore Go.Proofs.YtcghbicjhngedaaDoor.Num
set_option linter.unusedVariables false
set_option linter.unusedSimpArgs false

theorem turned_head (s : ByteArray) (m : Nat) (c : UInt8) (b2 : Bool) (H : ByteArray) (hs : 52 ≤ s.size) (hm : m < 52) (h1 : s.extract 0 48 = H) (h2 : s.extract 48 52 = dig H) (hne : setB s m c ≠ s) : (getOf (setB s m c) true b2).2.2 = (0, 201) := by
  have hz := setB_size s m c
  unfold getOf
  rw [if_neg (by omega), if_pos]
  refine ⟨rfl, by omega, fun h => ?_⟩
  rw [toList_inj'] at h
  by_cases hc : m < 48
  · rw [set_cut_out s m c 48 52 (Or.inl hc), set_cut_in s m c 0 48 (by omega) hc (by omega), h1, h2] at h
    have hn := setB_ne_cut s m c 0 48 (by omega) hc (by omega) hne
    rw [h1] at hn
    have hH : H.size = 48 := by rw [← h1, ByteArray.size_extract]; omega
    exact dig_set H (m - 0) c (by omega) hn h.symm
  · rw [set_cut_out s m c 0 48 (Or.inr (by omega)), set_cut_in s m c 48 52 (by omega) hm (by omega), h1, h2] at h
    have hn := setB_ne_cut s m c 48 52 (by omega) hm (by omega) hne
    rw [h2] at hn
    exact hn h
theorem turned_wire (h d : ByteArray) (m : Nat) (c : UInt8) (hg : good h = true) (hd' : d.size ≤ 8192) (hm : m < (wire h d true true).size) (hne : setB (wire h d true true) m c ≠ wire h d true true) :
    (getOf (setB (wire h d true true) m c) true true).2.2 = if m < 52 then (0, 201) else (((wire h d true true).size : Int), 51) := by
  have hh := (of_decide_eq_true hg).1
  have hz := wire_size h d true true hh
  have hw : wire h d true true ++ ⟨#[]⟩ = wire h d true true := append_none _ _ rfl
  have w48 := wire_48 h d ⟨#[]⟩ true true hh
  have w52 := wire_52 h d ⟨#[]⟩ true hh
  rw [hw] at w48 w52
  rw [if_pos rfl] at hz
  have hs52 : 52 ≤ (wire h d true true).size := by omega
  by_cases hc : m < 52
  · rw [if_pos hc]
    exact turned_head _ m c true _ hs52 hc w48 w52 hne
  · rw [if_neg hc]
    have hd0 : 0 < d.size := by
      by_cases h0 : 0 < d.size
      · exact h0
      · rw [if_neg (fun z => h0 z.2)] at hz
        omega
    rw [if_pos ⟨rfl, hd0⟩] at hz
    have hA := headOf_size h d.size true hh
    rw [if_pos rfl] at hA
    have hp := pad4_size d
    have c1 : (wire h d true true).extract 52 (52 + (d.size + 3) / 4 * 4) = pad4 d := by
      unfold wire
      rw [tailOf_eq]
      exact cut_mid _ _ _ _ _ hA.symm (by omega)
    have c2 : (wire h d true true).extract (52 + (d.size + 3) / 4 * 4) (52 + (d.size + 3) / 4 * 4 + 4) = dig (pad4 d) := by
      unfold wire
      rw [tailOf_eq, if_pos ⟨rfl, hd0⟩, ← ByteArray.append_assoc]
      have hq : (headOf h d.size true ++ pad4 d).size = 52 + (d.size + 3) / 4 * 4 := by rw [ByteArray.size_append]; omega
      exact ByteArray.extract_append_eq_right hq.symm (by rw [hq, dig_size])
    have hsz := setB_size (wire h d true true) m c
    rw [get_begun (setB (wire h d true true) m c) h d.size true true hg hd' (by omega) (by rw [set_cut_out _ _ _ _ _ (Or.inr (by omega)), w48]) (fun _ _ => by rw [set_cut_out _ _ _ _ _ (Or.inr (by omega)), w52]), if_pos rfl, if_pos ⟨rfl, hd0⟩]
    generalize hS : wire h d true true = s at *
    obtain ⟨e, he⟩ : ∃ e, e = 52 + (d.size + 3) / 4 * 4 := ⟨_, rfl⟩
    rw [← he] at hz c1 c2 ⊢
    unfold bodyOf
    rw [if_neg (by omega), if_pos, ← hz]
    refine ⟨by omega, fun hx => ?_⟩
    rw [toList_inj'] at hx
    by_cases hme : m < e
    · rw [set_cut_out s m c e (e + 4) (Or.inl hme), set_cut_in s m c 52 e (by omega) hme (by omega), c1, c2] at hx
      have hn := setB_ne_cut s m c 52 e (by omega) hme (by omega) hne
      rw [c1] at hn
      exact dig_set (pad4 d) (m - 52) c (by omega) hn hx.symm
    · rw [set_cut_out s m c 52 e (Or.inr (by omega)), set_cut_in s m c e (e + 4) (by omega) (by omega) (by omega), c1, c2] at hx
      have hn := setB_ne_cut s m c e (e + 4) (by omega) (by omega) (by omega) hne
      rw [c2] at hn
      exact hn hx

theorem IpduTurned (x0 : S23) (x1 : Int) (x2 : Int) (h0 : Q23 x0) (h1 : (Lit.int .i64 x1).wf = true) (h2 : (Lit.int .u8 x2).wf = true) : ∃ k, headgatelaw20_IpduTurned.f k x0.f0 x0.f1 x1 x2 = some true := by
  refine ⟨100, ?_⟩
  have q2 := bounds_u8 h2
  unfold headgatelaw20_IpduTurned.f
  by_cases h1 : x0.f0.size > 20000
  · rw [if_pos h1, wakes_ok _ (by decide)]
  · rw [if_neg h1]
    by_cases h3 : x0.f1.size > 20000
    · rw [if_pos h3, wakes_ok _ (by decide)]
    · rw [if_neg h3, Put_spec _ _ _ _ _ (by omega) (by omega) (by decide), Option.bind_some]
      by_cases hc : good x0.f0 = true ∧ x0.f1.size ≤ 8192
      · have hh := (of_decide_eq_true hc.1).1
        have hz := wire_size x0.f0 x0.f1 true true hh
        have hG := get_wire x0.f0 x0.f1 ⟨#[]⟩ true true hc.1 hc.2
        rw [append_none _ _ rfl] at hG
        have hT := turned_wire x0.f0 x0.f1 (turnedAt (wire x0.f0 x0.f1 true true) x1) (UInt8.ofNat x2.toNat) hc.1 hc.2
        rw [putOf_ok _ _ _ _ hc.1 hc.2]
        dsimp only
        rw [if_pos rfl] at hz
        have hz2 : (wire x0.f0 x0.f1 true true).size ≤ 9000 := by rw [hz]; split <;> omega
        have hz1 : 52 ≤ (wire x0.f0 x0.f1 true true).size := by rw [hz]; omega
        generalize wire x0.f0 x0.f1 true true = s at *
        have em0 := Int.emod_nonneg (IntKind.u64.wrap x1) (b := (s.size : Int)) (by omega)
        have em1 := Int.emod_lt_of_pos (IntKind.u64.wrap x1) (b := (s.size : Int)) (by omega)
        have hm : turnedAt s x1 < s.size := by unfold turnedAt; omega
        have et : turned s x1 x2 = setB s (turnedAt s x1) (UInt8.ofNat x2.toNat) := rfl
        have hsz := setB_size s (turnedAt s x1) (UInt8.ofNat x2.toNat)
        rw [if_pos rfl, if_pos ⟨by omega, by omega, q2.1, by omega⟩, et, Get_spec _ _ _ _ (by rw [hsz]; omega) (by decide), Option.bind_some, wakes_ok _ (by decide), Option.bind_some]
        by_cases he : setB s (turnedAt s x1) (UInt8.ofNat x2.toNat) = s
        · rw [if_pos he, he, hG, if_pos ⟨rfl, rfl⟩]
        · have hT' := hT hm he
          rw [if_neg he]
          by_cases hl : turnedAt s x1 < 52
          · rw [if_pos hl] at hT' ⊢
            rw [hT', if_pos ⟨rfl, rfl⟩]
          · rw [if_neg hl] at hT' ⊢
            rw [hT', if_pos ⟨rfl, rfl⟩]
      · rw [putOf_none _ _ _ _ hc]
        dsimp only
        rw [if_neg (by decide), if_pos (show ByteArray.size ⟨#[]⟩ = 0 from rfl), wakes_ok _ (by decide)]

end Go.Proofs.YtcghbicjhngedaaDoor.Pure
