/- Bytes that a conversion made out of a text: their block read, written, and turned back into a text. -/
import Derived.Test.YtkbjhblffbcleaaDoorWMore
import Derived.Laws.IdiomStrings
import Derived.Laws.BytesArg
namespace Go.Proofs.YtkbjhblffbcleaaDoorW.PrintWords
open Go.RowKit

/-- A block whose first cells are these bytes; its mark, if it has one, lies behind them. -/
def BytesAt (w : World) (g e : Nat) (l : List UInt8) : Prop :=
  ∃ (rest : Array Value) (m : Nat × Nat), l.length ≤ m.1 ∧ w.heap[g]? = some (.cells ((l.map fun b => Value.int .u8 (b.toNat : Int)).toArray ++ rest) e m)
namespace BytesAt
variable {w w1 : World} {g e : Nat} {l : List UInt8}
theorem cell (h : BytesAt w g e l) (j : Nat) (hj : j < l.length) : w.cell? ⟨g, j, none⟩ = some (.int .u8 (l[j].toNat : Int)) := by
  obtain ⟨rest, m, hm, hh⟩ := h
  rw [cell_of_row w g j _ e m hh, Array.getElem?_append_left (by simpa using hj)]
  simp [List.getElem?_eq_getElem hj]
theorem frozen (h : BytesAt w g e l) (j : Nat) (hj : j < l.length) : w.frozen? ⟨g, j, none⟩ = false := by
  obtain ⟨rest, m, hm, hh⟩ := h
  obtain ⟨m1, m2⟩ := m
  have hm' : l.length ≤ m1 := hm
  unfold World.frozen?
  rw [hh]
  simp
  intro h1
  omega
theorem lt (h : BytesAt w g e l) : g < w.heap.size := by
  obtain ⟨rest, m, hm, hh⟩ := h
  exact blk_lt hh
theorem put (h : BytesAt w g e l) (j : Nat) (c : UInt8) (hj : j < l.length) : BytesAt (w.setCell ⟨g, j, none⟩ (.int .u8 (c.toNat : Int))) g e (l.set j c) := by
  obtain ⟨rest, m, hm, hh⟩ := h
  refine ⟨rest, m, by rw [List.length_set]; exact hm, ?_⟩
  simp only [World.setCell, Array.getElem?_modify, hh]
  simp
  rw [Array.setIfInBounds_append_left (by simpa using hj)]
  simp
theorem far (h : BytesAt w g e l) {p : Addr} (hp : g ≠ p.block) (u : Value) : BytesAt (w.setCell p u) g e l := by
  obtain ⟨rest, m, hm, hh⟩ := h
  exact ⟨rest, m, hm, (Below.heap_setCell w p u g hp).trans hh⟩
theorem below (h : BytesAt w g e l) (hb : Below w.heap.size w w1) : BytesAt w1 g e l := by
  obtain ⟨rest, m, hm, hh⟩ := h
  exact ⟨rest, m, hm, blk_below hh hb⟩
theorem alloc (h : BytesAt w g e l) (o : Obj) : BytesAt (w.alloc o) g e l := by
  obtain ⟨rest, m, hm, hh⟩ := h
  exact ⟨rest, m, hm, blk_alloc hh o⟩
theorem drew (h : BytesAt w g e l) : BytesAt w.drew g e l := h
theorem drewN (h : BytesAt w g e l) (n : Nat) : BytesAt (w.drewN n) g e l := h
end BytesAt
section
variable {P : Program} {ops : Array Oper} {rest : List Oper} {o : Oper} {a : Act} {Q : Exit → Act → World → Prop}
/-- '[]byte(s)'. -/
theorem bytes_event {W : World} (hgd : o.guard = none) {N : Tmp} (_hd : o.dst = some N) {src dst e : TypeId} (x : Operand) (ho : o.op = .convert src dst x) (s : ByteArray) (hx : a.eval x = .string s)
    (hs : P.underlying src = some .string) (hd : P.underlying dst = some (.slice e)) (he : P.underlying e = some (.int .u8))
    (h : ∀ g c w1, g = W.heap.size → BytesAt w1 g e s.data.toList → Below W.heap.size W w1 → wpList P ops Q rest (a.put o.dst (.slice (some ⟨g, 0, none⟩) s.size c)) w1) : wpList P ops Q (o :: rest) a W := by
  have hrun := run_bytes_of_string (P := P) W src dst e s hs hd he
  obtain ⟨W1, hW1⟩ : ∃ W1, W1 = W.drew.alloc (.cells (bytesRow s (grownCap W s.size 0 e)) e ((bytesRow s (grownCap W s.size 0 e)).size, (bytesRow s (grownCap W s.size 0 e)).size + 1)) := ⟨_, rfl⟩
  rw [← hW1] at hrun
  refine Kd.event_run (w1 := W1) (v := .slice (some ⟨W.heap.size, 0, none⟩) s.size (grownCap W s.size 0 e)) hgd (by simp [execOp, ho, hx, hrun]) (h W.heap.size _ _ rfl ?_ ?_)
  · refine ⟨Array.replicate (grownCap W s.size 0 e - s.size) (.int .u8 0), ((bytesRow s (grownCap W s.size 0 e)).size, (bytesRow s (grownCap W s.size 0 e)).size + 1), ?_, ?_⟩
    · simp [bytesRow]
    · have e1 : W.heap.size = W.drew.heap.size := rfl
      rw [hW1, e1, blk_new]
      have e2 : (s.data.toList.map fun b => Value.int .u8 (b.toNat : Int)).toArray = s.data.map fun b => Value.int .u8 (b.toNat : Int) := by
        apply Array.toList_inj.mp
        simp
      rw [e2]
      rfl
  · rw [hW1]
    exact below_alloc (below_drew1 (Below.refl _ _)) _
/-- 'string(b)' of such bytes. -/
theorem back_event {W : World} (hgd : o.guard = none) {N : Tmp} (_hd : o.dst = some N) {src dst e : TypeId} (x : Operand) (ho : o.op = .convert src dst x) (l : List UInt8) (g n c : Nat) (hx : a.eval x = .slice (some ⟨g, 0, none⟩) n c) (hn : n = l.length)
    (hb : BytesAt W g e l) (hs : P.underlying src = some (.slice e)) (he : P.underlying e = some (.int .u8)) (hd : P.underlying dst = some .string)
    (h : wpList P ops Q rest (a.put o.dst (.string ⟨l.toArray⟩)) W) : wpList P ops Q (o :: rest) a W := by
  subst hn
  have hrun := run_convert_bytes_back (P := P) W src dst e ⟨g, 0, none⟩ c l hs he hd (fun j hj => by
    have e1 : (⟨g, 0, none⟩ : Addr).add j = ⟨g, j, none⟩ := by
      unfold Addr.add
      by_cases hz : j = 0
      · subst hz; rfl
      · rw [if_neg hz]; simp
    rw [e1]
    exact hb.cell j hj)
  exact Kd.event_run hgd (by simp [execOp, ho, hx, hrun]) h
end
end Go.Proofs.YtkbjhblffbcleaaDoorW.PrintWords
