/- A literal's row, and a row of bools, in the walk. -/
import Derived.Test.YtmpicpenbhdbhaaDoorWMore
import Derived.Laws.RangeAny
namespace Go.Proofs.YtmpicpenbhdbhaaDoorW.PrintWords
open Go.RowKit
section
variable {P : Program} {ops : Array Oper} {rest : List Oper} {o : Oper} {a : Act} {Q : Exit → Act → World → Prop}
theorem lit_event {W : World} (hgd : o.guard = none) {N : Tmp} (_hd : o.dst = some N) {cs : Array Value} {t : TypeId} {n : Nat}
    (hrun : (execOp a.eval o).run P W = .ok (.value (.slice (some ⟨W.heap.size, 0, none⟩) n n)) (W.alloc (.cells cs t (0, 0))))
    (h : ∀ g, g = W.heap.size → ∀ w1, w1.heap[g]? = some (.cells cs t (0, 0)) → Below W.heap.size W w1 → wpList P ops Q rest (a.put o.dst (.slice (some ⟨g, 0, none⟩) n n)) w1) : wpList P ops Q (o :: rest) a W :=
  Kd.event_run hgd hrun (h _ rfl _ (blk_new W _) (below_alloc (Below.refl _ _) _))
end
/-- n bools. -/
def rowN (n : Nat) (f : Nat → Bool) : Array Value := ((List.range n).map fun i => Value.bool (f i)).toArray
theorem rowN_size (n : Nat) (f : Nat → Bool) : (rowN n f).size = n := by simp [rowN]
theorem rowN_get (n : Nat) (f : Nat → Bool) (i : Nat) (h : i < n) : (rowN n f)[i]? = some (.bool (f i)) := by
  unfold rowN
  rw [List.getElem?_toArray, List.getElem?_map, List.getElem?_range h]
  rfl
theorem rowN_set (n : Nat) (f : Nat → Bool) (c : Nat) (_h : c < n) : (rowN n f).setIfInBounds c (.bool true) = rowN n (fun i => f i || decide (i = c)) := by
  apply Array.ext
  · simp [rowN]
  · intro i h1 h2
    have hi : i < n := by simpa [rowN] using h2
    rw [Array.getElem_setIfInBounds (by rw [rowN_size]; exact hi)]
    simp only [rowN, List.getElem_toArray, List.getElem_map, List.getElem_range]
    by_cases hc : c = i
    · subst hc
      simp
    · rw [if_neg hc, decide_eq_false (Ne.symm hc)]
      simp
end Go.Proofs.YtmpicpenbhdbhaaDoorW.PrintWords
