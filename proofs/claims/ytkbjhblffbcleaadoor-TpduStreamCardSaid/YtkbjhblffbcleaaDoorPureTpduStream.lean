/- Messages that are sent one behind the other are read one by one: for every list of messages, with and without digests. -/
import Derived.Test.YtkbjhblffbcleaaDoorPx11
import Derived.Test.YtkbjhblffbcleaaDoorRq
import Derived.Test.YtkbjhblffbcleaaDoorTpduWire
import Derived.Test.YtkbjhblffbcleaaDoorTpduWakes
namespace Go.Proofs.YtkbjhblffbcleaaDoor.Pure
open Go.RowKit Go.Proofs.YtkbjhblffbcleaaDoor.P Go.Proofs.YtkbjhblffbcleaaDoorW.PrintWords Go.Proofs.YtkbjhblffbcleaaDoorW.PrintLast Go.Proofs.YtkbjhblffbcleaaDoorW.PrintMore Go.Proofs.YtkbjhblffbcleaaDoor.Num
set_option linter.unusedVariables false
set_option linter.unusedSimpArgs false

theorem i64_of {n : Int} (h : (Lit.int .i64 n).wf = true) : -9223372036854775808 ≤ n ∧ n < 9223372036854775808 := by
  simp [Lit.wf, IntKind.min, IntKind.max, IntKind.signed, IntKind.bits] at h
  omega

theorem same_self (a b : Int) (c d : ByteArray) : headgateref29_Same.f a b c d a b c d = some true := by
  unfold headgateref29_Same.f
  rw [if_pos rfl, if_pos rfl, if_pos rfl]
  simp

theorem rd_at (l : List S24) (i : Nat) (h : i < l.length) : rd_T24 l (i : Int) = l[i] := by
  unfold rd_T24
  rw [List.getD_eq_getElem?_getD, Int.toNat_natCast, List.getElem?_eq_getElem h]
  rfl
/-- What is sent of messages, one behind the other. -/
def flow (b1 b2 : Bool) : List S24 → ByteArray
  | [] => ⟨#[]⟩
  | p :: l => wire p.f0 p.f1 p.f2 p.f3 b1 b2 ++ flow b1 b2 l
theorem flow_snoc (b1 b2 : Bool) (p : S24) : ∀ l, flow b1 b2 (l ++ [p]) = flow b1 b2 l ++ wire p.f0 p.f1 p.f2 p.f3 b1 b2
  | [] => by
    show wire p.f0 p.f1 p.f2 p.f3 b1 b2 ++ ⟨#[]⟩ = ⟨#[]⟩ ++ wire p.f0 p.f1 p.f2 p.f3 b1 b2
    rw [append_none _ _ rfl, none_append _ _ rfl]
  | q :: l => by
    show wire q.f0 q.f1 q.f2 q.f3 b1 b2 ++ flow b1 b2 (l ++ [p]) = wire q.f0 q.f1 q.f2 q.f3 b1 b2 ++ flow b1 b2 l ++ wire p.f0 p.f1 p.f2 p.f3 b1 b2
    rw [flow_snoc b1 b2 p l, ByteArray.append_assoc]
/-- A message that was sent. -/
def sent1 (p : S24) : Prop := okT p.f0 p.f1 p.f2 p.f3 ∧ p.f3.size ≤ 2000
theorem wire_le (p : S24) (b1 b2 : Bool) (h : sent1 p) : 8 ≤ (wire p.f0 p.f1 p.f2 p.f3 b1 b2).size ∧ (wire p.f0 p.f1 p.f2 p.f3 b1 b2).size ≤ 2200 := by
  have hz := wire_size p.f0 p.f1 p.f2 p.f3 b1 b2 h.1.2.1
  have h2 := h.2
  have hal := al_bounds p.f0 p.f3.size b1 b2
  have haD := aD_bounds p.f0 b1
  have hsz := szT_cases p.f0
  omega
theorem flow_le (b1 b2 : Bool) : ∀ l : List S24, (∀ p ∈ l, sent1 p) → (flow b1 b2 l).size ≤ 2200 * l.length
  | [], _ => Nat.zero_le _
  | p :: l, h => by
    have h1 := wire_le p b1 b2 (h p List.mem_cons_self)
    have h2 := flow_le b1 b2 l (fun q hq => h q (List.mem_cons_of_mem _ hq))
    show (wire p.f0 p.f1 p.f2 p.f3 b1 b2 ++ flow b1 b2 l).size ≤ _
    rw [ByteArray.size_append, List.length_cons]
    omega
theorem read_all (b1 b2 : Bool) (l : List S24) (hl : ∀ p ∈ l, sent1 p) (h20 : l.length ≤ 20) : ∀ (d k i : Nat), i + d = l.length → d + 100 ≤ k →
    headgatelaw29_TpduStream.l1 k b1 b2 (flow b1 b2 (l.drop i)) l (i : Int) = some true := by
  intro d
  induction d with
  | zero =>
    intro k i hi hk
    obtain ⟨k, rfl⟩ : ∃ q, k = q + 1 := ⟨k - 1, by omega⟩
    rw [headgatelaw29_TpduStream.l1, if_neg (by omega), List.drop_eq_nil_of_le (by omega), if_pos ((toList_nil _).mpr rfl), wakes_ok _ (by omega)]
    rfl
  | succ d ih =>
    intro k i hi hk
    obtain ⟨k, rfl⟩ : ∃ q, k = q + 1 := ⟨k - 1, by omega⟩
    have hlt : i < l.length := by omega
    have hp := hl l[i] (List.getElem_mem hlt)
    have hw := wire_le l[i] b1 b2 hp
    have hr := flow_le b1 b2 (l.drop (i + 1)) (fun q hq => hl q (List.mem_of_mem_drop hq))
    have hrl : (l.drop (i + 1)).length ≤ 20 := by rw [List.length_drop]; omega
    have ih' := ih k (i + 1) (by omega) (by omega)
    rw [List.drop_eq_getElem_cons hlt]
    show headgatelaw29_TpduStream.l1 (k + 1) b1 b2 (wire l[i].f0 l[i].f1 l[i].f2 l[i].f3 b1 b2 ++ flow b1 b2 (l.drop (i + 1))) l (i : Int) = some true
    have hG := get_wire l[i].f0 l[i].f1 l[i].f2 l[i].f3 (flow b1 b2 (l.drop (i + 1))) b1 b2 hp.1
    rw [← wire_size l[i].f0 l[i].f1 l[i].f2 l[i].f3 b1 b2 hp.1.2.1] at hG
    have hsz : (wire l[i].f0 l[i].f1 l[i].f2 l[i].f3 b1 b2 ++ flow b1 b2 (l.drop (i + 1))).size = (wire l[i].f0 l[i].f1 l[i].f2 l[i].f3 b1 b2).size + (flow b1 b2 (l.drop (i + 1))).size := ByteArray.size_append
    rw [headgatelaw29_TpduStream.l1, if_pos (by omega), Get_spec _ _ _ _ (by omega) (by omega), Option.bind_some, hG]
    dsimp only
    rw [if_pos rfl, if_neg (by omega), if_neg (by omega), if_pos (by omega), rd_at l i hlt, same_self, Option.bind_some, if_pos rfl, if_pos (by omega), if_pos (by omega), Int.toNat_natCast, w64 (by omega) (by omega), ByteArray.extract_append_eq_right rfl hsz]
    exact ih'
theorem put_all (b1 b2 : Bool) (l : List S24) (hq : ∀ p ∈ l, Q24 p) (h20 : l.length ≤ 20) : ∀ (d k i : Nat) (o : List S24), i + d = l.length → (∀ p ∈ o, sent1 p) → o.length ≤ i → 2 * d + 200 ≤ k →
    headgatelaw29_TpduStream.l0 k l b1 b2 (flow b1 b2 o) o (i : Int) = some true := by
  intro d
  induction d with
  | zero =>
    intro k i o hi ho hlen hk
    obtain ⟨k, rfl⟩ : ∃ q, k = q + 1 := ⟨k - 1, by omega⟩
    rw [headgatelaw29_TpduStream.l0, if_neg (by omega)]
    have := read_all b1 b2 o ho (by omega) o.length k 0 (by omega) (by omega)
    rw [List.drop_zero] at this
    exact this
  | succ d ih =>
    intro k i o hi ho hlen hk
    obtain ⟨k, rfl⟩ : ∃ q, k = q + 2 := ⟨k - 2, by omega⟩
    have hlt : i < l.length := by omega
    obtain ⟨q0, q1, q2, q3⟩ := hq l[i] (List.getElem_mem hlt)
    have hfl := i64_of q1
    have hj : headgatelaw29_TpduStream.j1 (k + 1) l b1 b2 (flow b1 b2 o) o (i : Int) true = some true := by
      rw [headgatelaw29_TpduStream.j1, if_pos rfl, wakes_ok _ (by omega)]
      rfl
    rw [headgatelaw29_TpduStream.l0, if_pos (by omega), if_pos (by omega), rd_at l i hlt]
    by_cases h1 : (l[i].f2.size : Int) > 20000
    · rw [if_pos h1, hj]
    · rw [if_neg h1]
      by_cases h2 : (l[i].f3.size : Int) > 2000
      · rw [decide_eq_true h2, hj]
      · have hf := flow_le b1 b2 o ho
        rw [decide_eq_false h2, headgatelaw29_TpduStream.j1, if_neg (by decide), if_pos (by omega), if_pos (by omega), rd_at l i hlt, Put_spec _ _ _ _ _ _ _ (by omega) (by omega) (by omega) hfl.1 hfl.2, Option.bind_some, w64 (by omega) (by omega)]
        by_cases hc : okT l[i].f0 l[i].f1 l[i].f2 l[i].f3
        · have hp : sent1 l[i] := ⟨hc, by omega⟩
          have hw := wire_le l[i] b1 b2 hp
          rw [putT_ok _ _ _ _ _ _ hc]
          dsimp only
          rw [if_pos rfl, if_pos (by omega), if_pos (by omega), ← flow_snoc]
          exact ih k (i + 1) (o ++ [l[i]]) (by omega) (fun q hq => by
            rcases List.mem_append.mp hq with hq | hq
            · exact ho q hq
            · rw [List.mem_singleton.mp hq]; exact hp) (by rw [List.length_append]; simp; omega) (by omega)
        · rw [putT_none _ _ _ _ _ _ hc]
          dsimp only
          rw [if_neg (by decide)]
          exact ih k (i + 1) o (by omega) ho (by omega) (by omega)


theorem TpduStream (x0 : List S24) (x1 : Bool) (x2 : Bool) (h0 : (x0.length ≤ 9223372036854775807 ∧ ∀ y0 ∈ x0, Q24 y0)) : ∃ k, headgatelaw29_TpduStream.f k x0 x1 x2 = some true := by
  refine ⟨1000, ?_⟩
  unfold headgatelaw29_TpduStream.f
  by_cases h1 : (x0.length : Int) > 20
  · rw [if_pos h1, wakes_ok _ (by decide)]
    rfl
  · rw [if_neg h1]
    exact put_all x1 x2 x0 h0.2 (by omega) x0.length 1000 0 [] (by omega) (fun p hp => absurd hp (by simp)) (by simp) (by omega)

end Go.Proofs.YtkbjhblffbcleaaDoor.Pure
