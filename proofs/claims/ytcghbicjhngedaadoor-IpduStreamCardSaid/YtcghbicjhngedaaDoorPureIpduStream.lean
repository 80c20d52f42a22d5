/- Messages that are sent one behind the other are read one by one: for every list of messages, with and without digests. -/
import Derived.Test.YtcghbicjhngedaaDoorPx10
import Derived.Test.YtcghbicjhngedaaDoorRq
import Derived.Test.YtcghbicjhngedaaDoorIpduWakes
import Derived.Test.YtcghbicjhngedaaDoorIpduWire
namespace Go.Proofs.YtcghbicjhngedaaDoor.Pure
open Go.RowKit Go.Proofs.YtcghbicjhngedaaDoor.P Go.Proofs.YtcghbicjhngedaaDoorW.PrintWords Go.Proofs.YtcghbicjhngedaaDoorW.PrintLast Go.Proofs.YtcghbicjhngedaaDoorW.PrintMore Go.Proofs.YtcghbicjhngedaaDoor.Num
set_option linter.unusedVariables false
set_option linter.unusedSimpArgs false

theorem rd_at (l : List S23) (i : Nat) (h : i < l.length) : rd_T23 l (i : Int) = l[i] := by
  unfold rd_T23
  rw [List.getD_eq_getElem?_getD, Int.toNat_natCast, List.getElem?_eq_getElem h]
  rfl
/-- What is sent of messages, one behind the other. -/
def flow (b1 b2 : Bool) : List S23 → ByteArray
  | [] => ⟨#[]⟩
  | p :: l => wire p.f0 p.f1 b1 b2 ++ flow b1 b2 l
theorem flow_snoc (b1 b2 : Bool) (p : S23) : ∀ l, flow b1 b2 (l ++ [p]) = flow b1 b2 l ++ wire p.f0 p.f1 b1 b2
  | [] => by
    show wire p.f0 p.f1 b1 b2 ++ ⟨#[]⟩ = ⟨#[]⟩ ++ wire p.f0 p.f1 b1 b2
    rw [append_none _ _ rfl, none_append _ _ rfl]
  | q :: l => by
    show wire q.f0 q.f1 b1 b2 ++ flow b1 b2 (l ++ [p]) = wire q.f0 q.f1 b1 b2 ++ flow b1 b2 l ++ wire p.f0 p.f1 b1 b2
    rw [flow_snoc b1 b2 p l, ByteArray.append_assoc]
/-- A message that was sent. -/
def sent1 (p : S23) : Prop := good p.f0 = true ∧ p.f1.size ≤ 2000
theorem wire_le (p : S23) (b1 b2 : Bool) (h : sent1 p) : 48 ≤ (wire p.f0 p.f1 b1 b2).size ∧ (wire p.f0 p.f1 b1 b2).size ≤ 2100 := by
  have hz := wire_size p.f0 p.f1 b1 b2 (of_decide_eq_true h.1).1
  have h2 := h.2
  rw [hz]
  split <;> split <;> omega
theorem flow_le (b1 b2 : Bool) : ∀ l : List S23, (∀ p ∈ l, sent1 p) → (flow b1 b2 l).size ≤ 2100 * l.length
  | [], _ => Nat.zero_le _
  | p :: l, h => by
    have h1 := wire_le p b1 b2 (h p List.mem_cons_self)
    have h2 := flow_le b1 b2 l (fun q hq => h q (List.mem_cons_of_mem _ hq))
    show (wire p.f0 p.f1 b1 b2 ++ flow b1 b2 l).size ≤ _
    rw [ByteArray.size_append, List.length_cons]
    omega
theorem read_all (b1 b2 : Bool) (l : List S23) (hl : ∀ p ∈ l, sent1 p) (h20 : l.length ≤ 20) : ∀ (d k i : Nat), i + d = l.length → d + 100 ≤ k →
    headgatelaw20_IpduStream.l1 k b1 b2 (flow b1 b2 (l.drop i)) l (i : Int) = some true := by
  intro d
  induction d with
  | zero =>
    intro k i hi hk
    obtain ⟨k, rfl⟩ : ∃ q, k = q + 1 := ⟨k - 1, by omega⟩
    rw [headgatelaw20_IpduStream.l1, if_neg (by omega), List.drop_eq_nil_of_le (by omega), if_pos ((toList_nil _).mpr rfl), wakes_ok _ (by omega)]
    rfl
  | succ d ih =>
    intro k i hi hk
    obtain ⟨k, rfl⟩ : ∃ q, k = q + 1 := ⟨k - 1, by omega⟩
    have hlt : i < l.length := by omega
    have hp := hl l[i] (List.getElem_mem hlt)
    have hw := wire_le l[i] b1 b2 hp
    have hh := (of_decide_eq_true hp.1).1
    have hr := flow_le b1 b2 (l.drop (i + 1)) (fun q hq => hl q (List.mem_of_mem_drop hq))
    have hrl : (l.drop (i + 1)).length ≤ 20 := by rw [List.length_drop]; omega
    have hd := hd_size l[i].f0 l[i].f1.size hh
    have h8 := hd_right l[i].f0 l[i].f1.size hh
    have ih' := ih k (i + 1) (by omega) (by omega)
    rw [List.drop_eq_getElem_cons hlt]
    show headgatelaw20_IpduStream.l1 (k + 1) b1 b2 (wire l[i].f0 l[i].f1 b1 b2 ++ flow b1 b2 (l.drop (i + 1))) l (i : Int) = some true
    have hG := get_wire l[i].f0 l[i].f1 (flow b1 b2 (l.drop (i + 1))) b1 b2 hp.1 (by have := hp.2; omega)
    have hsz : (wire l[i].f0 l[i].f1 b1 b2 ++ flow b1 b2 (l.drop (i + 1))).size = (wire l[i].f0 l[i].f1 b1 b2).size + (flow b1 b2 (l.drop (i + 1))).size := ByteArray.size_append
    rw [headgatelaw20_IpduStream.l1, if_pos (by omega), Get_spec _ _ _ _ (by omega) (by omega), Option.bind_some, hG]
    dsimp only
    rw [if_pos rfl, if_neg (by omega), if_neg (by omega), if_pos (by omega), rd_at l i hlt, if_pos rfl, if_pos (by omega), if_pos (by omega), if_pos (by rw [hd, h8, hh]), if_pos (by omega), if_pos (by omega), Int.toNat_natCast, w64 (by omega) (by omega), ByteArray.extract_append_eq_right rfl hsz]
    exact ih'
theorem put_all (b1 b2 : Bool) (l : List S23) (h20 : l.length ≤ 20) : ∀ (d k i : Nat) (o : List S23), i + d = l.length → (∀ p ∈ o, sent1 p) → o.length ≤ i → 2 * d + 200 ≤ k →
    headgatelaw20_IpduStream.l0 k l b1 b2 (flow b1 b2 o) o (i : Int) = some true := by
  intro d
  induction d with
  | zero =>
    intro k i o hi ho hlen hk
    obtain ⟨k, rfl⟩ : ∃ q, k = q + 1 := ⟨k - 1, by omega⟩
    rw [headgatelaw20_IpduStream.l0, if_neg (by omega)]
    have := read_all b1 b2 o ho (by omega) o.length k 0 (by omega) (by omega)
    rw [List.drop_zero] at this
    exact this
  | succ d ih =>
    intro k i o hi ho hlen hk
    obtain ⟨k, rfl⟩ : ∃ q, k = q + 2 := ⟨k - 2, by omega⟩
    have hlt : i < l.length := by omega
    have hj : headgatelaw20_IpduStream.j1 (k + 1) l b1 b2 (flow b1 b2 o) o (i : Int) true = some true := by
      rw [headgatelaw20_IpduStream.j1, if_pos rfl, wakes_ok _ (by omega)]
      rfl
    rw [headgatelaw20_IpduStream.l0, if_pos (by omega), if_pos (by omega), rd_at l i hlt]
    by_cases h1 : (l[i].f0.size : Int) > 20000
    · rw [if_pos h1, hj]
    · rw [if_neg h1]
      by_cases h2 : (l[i].f1.size : Int) > 2000
      · rw [decide_eq_true h2, hj]
      · have hf := flow_le b1 b2 o ho
        rw [decide_eq_false h2, headgatelaw20_IpduStream.j1, if_neg (by decide), if_pos (by omega), if_pos (by omega), rd_at l i hlt, Put_spec _ _ _ _ _ (by omega) (by omega) (by omega), Option.bind_some, w64 (by omega) (by omega)]
        by_cases hc : good l[i].f0 = true ∧ l[i].f1.size ≤ 8192
        · have hp : sent1 l[i] := ⟨hc.1, by omega⟩
          have hw := wire_le l[i] b1 b2 hp
          rw [putOf_ok _ _ _ _ hc.1 hc.2]
          dsimp only
          rw [if_pos rfl, if_pos (by omega), if_pos (by omega), ← flow_snoc]
          exact ih k (i + 1) (o ++ [l[i]]) (by omega) (fun q hq => by
            rcases List.mem_append.mp hq with hq | hq
            · exact ho q hq
            · rw [List.mem_singleton.mp hq]; exact hp) (by rw [List.length_append]; simp; omega) (by omega)
        · rw [putOf_none _ _ _ _ hc]
          dsimp only
          rw [if_neg (by decide)]
          exact ih k (i + 1) o (by omega) ho (by omega) (by omega)

theorem IpduStream (x0 : List S23) (x1 : Bool) (x2 : Bool) (h0 : (x0.length ≤ 9223372036854775807 ∧ ∀ y0 ∈ x0, Q23 y0)) : ∃ k, headgatelaw20_IpduStream.f k x0 x1 x2 = some true := by
  refine ⟨1000, ?_⟩
  unfold headgatelaw20_IpduStream.f
  by_cases h1 : (x0.length : Int) > 20
  · rw [if_pos h1, wakes_ok _ (by decide)]
    rfl
  · rw [if_neg h1]
    exact put_all x1 x2 x0 (by omega) x0.length 1000 0 [] (by omega) (fun p hp => absurd hp (by simp)) (by simp) (by omega)

end Go.Proofs.YtcghbicjhngedaaDoor.Pure
