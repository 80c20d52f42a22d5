/- Steps through a region that draws its order, each in one row: what a step asks is shown by the row itself. -/
import Derived.Test.YtmpicpenbhdbhaaDoorWTab
import Derived.Test.YtmpicpenbhdbhaaDoorWMore
import Derived.WalkKit
namespace Go.Proofs.YtmpicpenbhdbhaaDoorW.PrintLast
open Go.Proofs.YtmpicpenbhdbhaaDoorW.PrintWords (Aside0)
section
variable {P : Program} {ops : Array Oper} {Q : Exit → Act → World → Prop} {md : Region.Mode} {S : World → Prop} {ds : List Nat} {T : Bool × List (List Nat × List Nat)} {B : List Nat}
/-- Which of n operations have come up, as bits. -/
def dB (n m : Nat) : Array Bool := ((List.range n).map fun i => m.testBit i).toArray
theorem neg_first {p q : Prop} (hn : ¬ p → q) (hp : p → q) : q := (Classical.em p).elim hp hn
theorem la_ {α : Type} (l : List α) (i : Nat) (a : α) : l.toArray.setIfInBounds i a = (l.set i a).toArray := by simp
theorem lb_ {α : Type} (a x : α) (l : List α) : (a :: l).set 0 x = x :: l := rfl
theorem lc_ {α : Type} (a x : α) (l : List α) (i : Nat) : (a :: l).set (i + 1) x = a :: l.set i x := rfl
/-- An operation that is carried out and yields in every world. -/
theorem pon_ (i : Nat) (N : Option Tmp) {oi : Oper} {v : Value} {fuel : Nat} {l : Array Bool} {a : Act} {w : World} (l' : Array Bool) (hT : rtab md ops = T) {a' : Act} (h : wpAnyLast P md ops Q S ds fuel l' a' w)
    (hi : ops[i]? = some oi := by rfl) (hN : oi.dst = N := by rfl) (hc : anyT T l.toList l'.toList i = true := by kernel_rfl) (hQ : ∀ c a w, Q (.panic c) (a.put oi.dst v) w → Q (.panic c) a w := by exact (fun _ _ _ h => h))
    (hw : Region.wanted oi (yielded ops a.tmps) = true := by rfl) (hy : ∀ w', (execOp a.eval oi).run P w' = .ok (.value v) w' := by intro w'; go_simp; with_reducible rfl)
    (ha : a.put N v = a' := by simp only [Act.put, la_, lb_, lc_, i64_w, i32_w]; rfl) : wpAnyLast P md ops Q S ds (fuel + 1) l a w :=
  pure_ (i := i) (N := N) (v := v) l' hi hN (any_of hT hc) hQ (Or.inl ⟨hw, hy⟩) ha h
/-- An operation whose guard is off. -/
theorem pof_ (i : Nat) (N : Option Tmp) {oi : Oper} {fuel : Nat} {l : Array Bool} {a : Act} {w : World} (l' : Array Bool) (hT : rtab md ops = T) {a' : Act} (h : wpAnyLast P md ops Q S ds fuel l' a' w)
    (hi : ops[i]? = some oi := by rfl) (hN : oi.dst = N := by rfl) (hc : anyT T l.toList l'.toList i = true := by kernel_rfl) (hQ : ∀ c a w, Q (.panic c) (a.put oi.dst undef) w → Q (.panic c) a w := by exact (fun _ _ _ h => h))
    (hw : Region.wanted oi (yielded ops a.tmps) = false := by rfl)
    (ha : a.put N undef = a' := by simp only [Act.put, la_, lb_, lc_, i64_w, i32_w]; rfl) : wpAnyLast P md ops Q S ds (fuel + 1) l a w :=
  pure_ (i := i) (N := N) (v := undef) l' hi hN (any_of hT hc) hQ (Or.inr ⟨hw, rfl⟩) ha h
/-- A read of what is held. -/
theorem ptk_ (i : Nat) (N : Option Tmp) {oi : Oper} {v : Value} {fuel : Nat} {l : Array Bool} {a : Act} {w : World} (l' : Array Bool) (hT : rtab md ops = T) (hB : waitsOk T.2 B = true) (hS : S w) {a' : Act} (h : wpAnyLast P md ops Q S ds fuel l' a' w)
    (hi : ops[i]? = some oi := by rfl) (hN : oi.dst = N := by rfl) (hc : takeW T B ds l.toList l'.toList i = true := by kernel_rfl) (hQ : ∀ c a w, Q (.panic c) (a.put oi.dst v) w → Q (.panic c) a w := by exact (fun _ _ _ h => h))
    (hw : Region.wanted oi (yielded ops a.tmps) = true := by rfl) (hy : ∀ w', S w' → (execOp a.eval oi).run P w' = .ok (.value v) w' := by intro w' hs_; (try dsimp only at hs_); (repeat (obtain ⟨_, hs_⟩ := hs_)); go_simp; with_reducible rfl)
    (ha : a.put N v = a' := by simp only [Act.put, la_, lb_, lc_, i64_w, i32_w]; rfl) : wpAnyLast P md ops Q S ds (fuel + 1) l a w :=
  take_ (i := i) (N := N) (v := v) l' hi hN (take_ofW hT hB hc) hQ (Or.inl ⟨hw, hy⟩) hS ha h
/-- The same without a table. -/
theorem qon_ (i : Nat) (N : Option Tmp) {oi : Oper} {v : Value} {fuel : Nat} {l : Array Bool} {a : Act} {w : World} (l' : Array Bool) {a' : Act} (h : wpAnyLast P md ops Q S ds fuel l' a' w)
    (hi : ops[i]? = some oi := by rfl) (hN : oi.dst = N := by rfl) (hc : anyB md ops l l' i = true := by kernel_rfl) (hQ : ∀ c a w, Q (.panic c) (a.put oi.dst v) w → Q (.panic c) a w := by exact (fun _ _ _ h => h))
    (hw : Region.wanted oi (yielded ops a.tmps) = true := by rfl) (hy : ∀ w', (execOp a.eval oi).run P w' = .ok (.value v) w' := by intro w'; go_simp; with_reducible rfl)
    (ha : a.put N v = a' := by simp only [Act.put, la_, lb_, lc_, i64_w, i32_w]; rfl) : wpAnyLast P md ops Q S ds (fuel + 1) l a w :=
  pure_ (i := i) (N := N) (v := v) l' hi hN hc hQ (Or.inl ⟨hw, hy⟩) ha h
theorem qof_ (i : Nat) (N : Option Tmp) {oi : Oper} {fuel : Nat} {l : Array Bool} {a : Act} {w : World} (l' : Array Bool) {a' : Act} (h : wpAnyLast P md ops Q S ds fuel l' a' w)
    (hi : ops[i]? = some oi := by rfl) (hN : oi.dst = N := by rfl) (hc : anyB md ops l l' i = true := by kernel_rfl) (hQ : ∀ c a w, Q (.panic c) (a.put oi.dst undef) w → Q (.panic c) a w := by exact (fun _ _ _ h => h))
    (hw : Region.wanted oi (yielded ops a.tmps) = false := by rfl)
    (ha : a.put N undef = a' := by simp only [Act.put, la_, lb_, lc_, i64_w, i32_w]; rfl) : wpAnyLast P md ops Q S ds (fuel + 1) l a w :=
  pure_ (i := i) (N := N) (v := undef) l' hi hN hc hQ (Or.inr ⟨hw, rfl⟩) ha h
theorem qtk_ (i : Nat) (N : Option Tmp) {oi : Oper} {v : Value} {fuel : Nat} {l : Array Bool} {a : Act} {w : World} (l' : Array Bool) (hS : S w) {a' : Act} (h : wpAnyLast P md ops Q S ds fuel l' a' w)
    (hi : ops[i]? = some oi := by rfl) (hN : oi.dst = N := by rfl) (hc : takeB md ops ds l l' i = true := by kernel_rfl) (hQ : ∀ c a w, Q (.panic c) (a.put oi.dst v) w → Q (.panic c) a w := by exact (fun _ _ _ h => h))
    (hw : Region.wanted oi (yielded ops a.tmps) = true := by rfl) (hy : ∀ w', S w' → (execOp a.eval oi).run P w' = .ok (.value v) w' := by intro w' hs_; (try dsimp only at hs_); (repeat (obtain ⟨_, hs_⟩ := hs_)); go_simp; with_reducible rfl)
    (ha : a.put N v = a' := by simp only [Act.put, la_, lb_, lc_, i64_w, i32_w]; rfl) : wpAnyLast P md ops Q S ds (fuel + 1) l a w :=
  take_ (i := i) (N := N) (v := v) l' hi hN hc hQ (Or.inl ⟨hw, hy⟩) hS ha h
end
section
open Go.RowKit Go.Proofs.YtmpicpenbhdbhaaDoorW.PrintWords
/-- What lies in w' lies in w, too. -/
def Up (w' w : World) : Prop := ∀ (g : Nat) (o : Obj), w'.heap[g]? = some o → w.heap[g]? = some o
theorem up_refl {w : World} : Up w w := fun _ _ h => h
theorem up_drewN {w' w : World} {m : Nat} (h : Up w' w) : Up w' (w.drewN m) := fun g o x => blk_drewN (h g o x) m
theorem up_drew {w' w : World} (h : Up w' w) : Up w' w.drew := fun g o x => blk_drew (h g o x)
theorem up_alloc {w' w : World} {q : Obj} (h : Up w' w) : Up w' (w.alloc q) := fun g o x => blk_alloc (h g o x) q
theorem bk_ {w' w : World} {g : Nat} {o : Obj} (h : Aside0 (w'.heap[g]? = some o)) (e : Up w' w := by (with_reducible repeat (first | exact up_refl | refine up_drewN ?_ | refine up_drew ?_ | refine up_alloc ?_))) : w.heap[g]? = some o := e g o h.out
/-- From w' to w nothing of w0's is turned. -/
def UpB (w0 w' w : World) : Prop := Below w0.heap.size w0 w' → Below w0.heap.size w0 w
theorem upb_refl {w0 w : World} : UpB w0 w w := fun h => h
theorem upb_drewN {w0 w' w : World} {m : Nat} (h : UpB w0 w' w) : UpB w0 w' (w.drewN m) := fun x => pw_below_drewN (h x) m
theorem upb_drew {w0 w' w : World} (h : UpB w0 w' w) : UpB w0 w' w.drew := fun x => below_drew1 (h x)
theorem upb_alloc {w0 w' w : World} {q : Obj} (h : UpB w0 w' w) : UpB w0 w' (w.alloc q) := fun x => below_alloc (h x) q
theorem upb_set {w0 w' w : World} {g j : Nat} {v : Value} (h : UpB w0 w' w) (hg : w0.heap.size ≤ g) : UpB w0 w' (w.setCell ⟨g, j, none⟩ v) := fun x => below_set (h x) hg
theorem hb_ {w0 w' w : World} (h : Aside0 (Below w0.heap.size w0 w')) (e : UpB w0 w' w := by (with_reducible repeat (first | exact upb_refl | refine upb_drewN ?_ | refine upb_drew ?_ | refine upb_alloc ?_ | refine upb_set ?_ (Aside0.out (by assumption))))) : Below w0.heap.size w0 w := e h.out
end
end Go.Proofs.YtmpicpenbhdbhaaDoorW.PrintLast
