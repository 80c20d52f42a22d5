-- joined by this session's wip/tools/pack.py: words of the kit's print, cut to what the claim names; functions printed by a patched copy of the printer; walks and lemmas of this session; Lean checks it
import Derived.Test.YtjogkfcjlljjcaaDoorBc0
import Derived.Test.YtjogkfcjlljjcaaDoorProg
import Derived.WalkKit
import Derived.RegionTactic
import Derived.Deep.QuietTactic
import Derived.BigQuiet
import Derived.Laws.RangeAny
import Derived.Below
import Derived.Deep.Draws
import Derived.Deep.AppendLies
import Derived.Maps.AppendAt
import Derived.OwnWalk
import Derived.Laws.BytesArg
import Derived.Laws.MakeOwn
import Derived.Laws.OwnMore
import Derived.Deep.OwnRows
import Derived.Tactics
import Derived.Lib.ConvBytes
import Derived.Laws.Slices
import Derived.KernelRfl
import Derived.RowKit3
import Derived.Deep.LoopGhost
import Derived.WideLaws
import Derived.Deep.DeepCutAuto
import Derived.Deep.CutBlock
import Derived.Deep.RegionHeld3
import Derived.Laws.Rows
import Derived.Lib.AppendStr
import Derived.ArgAppend
import Derived.Laws.IdiomCopy
import Derived.OrdersHeld
import Derived.Laws.BitsLemmas
import Derived.RowKit
import Derived.Maps.Own
import Derived.Maps.OwnOps
import Derived.Maps.Views
import Derived.Carry
import Derived.Lib.SliceRun
set_option maxHeartbeats 40000000
set_option maxRecDepth 100000
namespace Go.Proofs.YtjogkfcjlljjcaaDoor.P
open Go.RowKit Go.Proofs.YtjogkfcjlljjcaaDoorW.PrintWords Go.Proofs.YtjogkfcjlljjcaaDoorW.PrintLast Go.Proofs.YtjogkfcjlljjcaaDoorW.PrintMore
theorem aS_ {p : Prop} (h : p) : Aside0 p := ⟨h⟩
theorem bF_ {w : World} {g : Nat} {t : TypeId} {cs : Array Value} (h : w.heap[g]? = some (.cells cs t (0, 0))) (i : Nat) : w.frozen? ⟨g, i, none⟩ = false := blk_frozen h i
theorem bC_ {w : World} {g : Nat} {t : TypeId} {cs : Array Value} {v : Option Value} (h : w.heap[g]? = some (.cells cs t (0, 0))) (i : Nat) (e : cs[i]? = v) : w.cell? ⟨g, i, none⟩ = v := (blk_cell h i).trans e
theorem bX_ {P : Program} {ops : Array Oper} {rest : List Oper} {o : Oper} {a : Act} {Q : Exit → Act → World → Prop} {W : World} {N : Tmp} {cs : Array Value} {t : TypeId}
    (hrun : (execOp a.eval o).run P W = .ok (.value (.pointer (some ⟨W.heap.size, 0, none⟩))) (W.alloc (.cells cs t (0, 0))))
    (h : ∀ g, g = W.heap.size → ∀ w1, w1.heap[g]? = some (.cells cs t (0, 0)) → Below W.heap.size W w1 → wpList P ops Q rest (a.put o.dst (.pointer (some ⟨g, 0, none⟩))) w1) (hgd : o.guard = none := by rfl) (hd : o.dst = some N := by rfl) : wpList P ops Q (o :: rest) a W :=
  box_event hgd hd hrun h
theorem nE_ {W : World} {a : Addr} {v : Value} {g : Nat} (h : W.cell? a = some v) (hg : W.heap.size ≤ g) : a.block ≠ g := Nat.ne_of_lt (Nat.lt_of_lt_of_le (World.block_lt_of_cell? W _ h) hg)
theorem cB_ {w w' : World} {a : Addr} {v : Value} (hb : Below w.heap.size w w') (h : w.cell? a = some v) : w'.cell? a = some v := (hb.cell (World.block_lt_of_cell? w _ h)).trans h
theorem cf_ {W : World} {a : Addr} {g i : Nat} {u : Value} {v : Option Value} (h : a.block ≠ g) (r : W.cell? a = v) : (W.setCell ⟨g, i, none⟩ u).cell? a = v := (cell_far (p := ⟨g, i, none⟩) h u).trans r
theorem cf5_ {W : World} {a : Addr} {g i0 i1 i2 i3 i4 : Nat} {u0 u1 u2 u3 u4 : Value} {v : Option Value} (h : a.block ≠ g) (r : W.cell? a = v) : (((((W.setCell ⟨g, i0, none⟩ u0).setCell ⟨g, i1, none⟩ u1).setCell ⟨g, i2, none⟩ u2).setCell ⟨g, i3, none⟩ u3).setCell ⟨g, i4, none⟩ u4).cell? a = v := cf_ h (cf_ h (cf_ h (cf_ h (cf_ h r))))
theorem cf7_ {W : World} {a : Addr} {g i0 i1 i2 i3 i4 i5 i6 : Nat} {u0 u1 u2 u3 u4 u5 u6 : Value} {v : Option Value} (h : a.block ≠ g) (r : W.cell? a = v) : (((((((W.setCell ⟨g, i0, none⟩ u0).setCell ⟨g, i1, none⟩ u1).setCell ⟨g, i2, none⟩ u2).setCell ⟨g, i3, none⟩ u3).setCell ⟨g, i4, none⟩ u4).setCell ⟨g, i5, none⟩ u5).setCell ⟨g, i6, none⟩ u6).cell? a = v := cf_ h (cf_ h (cf5_ h r))
theorem Vf5_ {α : Type} {d : Kd α} {e base : Nat} {ok : Nat → Prop} {W : World} {v : Value} {xs : List α} {g i0 i1 i2 i3 i4 : Nat} {u0 u1 u2 u3 u4 : Value} (h : Kd.V d e W base ok v xs) (hk : ∀ k, ok k → k ≠ g) : Kd.V d e (((((W.setCell ⟨g, i0, none⟩ u0).setCell ⟨g, i1, none⟩ u1).setCell ⟨g, i2, none⟩ u2).setCell ⟨g, i3, none⟩ u3).setCell ⟨g, i4, none⟩ u4) base ok v xs := Kd.V_far (p := ⟨g, i4, none⟩) (Kd.V_far (p := ⟨g, i3, none⟩) (Kd.V_far (p := ⟨g, i2, none⟩) (Kd.V_far (p := ⟨g, i1, none⟩) (Kd.V_far (p := ⟨g, i0, none⟩) h hk u0) hk u1) hk u2) hk u3) hk u4
theorem Vf7_ {α : Type} {d : Kd α} {e base : Nat} {ok : Nat → Prop} {W : World} {v : Value} {xs : List α} {g i0 i1 i2 i3 i4 i5 i6 : Nat} {u0 u1 u2 u3 u4 u5 u6 : Value} (h : Kd.V d e W base ok v xs) (hk : ∀ k, ok k → k ≠ g) : Kd.V d e (((((((W.setCell ⟨g, i0, none⟩ u0).setCell ⟨g, i1, none⟩ u1).setCell ⟨g, i2, none⟩ u2).setCell ⟨g, i3, none⟩ u3).setCell ⟨g, i4, none⟩ u4).setCell ⟨g, i5, none⟩ u5).setCell ⟨g, i6, none⟩ u6) base ok v xs := Kd.V_far (p := ⟨g, i6, none⟩) (Kd.V_far (p := ⟨g, i5, none⟩) (Vf5_ h hk) hk u5) hk u6
theorem Rf5_ {α : Type} {d : Kd α} {e base : Nat} {ok : Nat → Prop} {W : World} {v : Value} {xs : List α} {g i0 i1 i2 i3 i4 : Nat} {u0 u1 u2 u3 u4 : Value} (h : Kd.R d e W base ok v xs) (hk : ∀ k, ok k → k ≠ g) : Kd.R d e (((((W.setCell ⟨g, i0, none⟩ u0).setCell ⟨g, i1, none⟩ u1).setCell ⟨g, i2, none⟩ u2).setCell ⟨g, i3, none⟩ u3).setCell ⟨g, i4, none⟩ u4) base ok v xs := Kd.R_far (p := ⟨g, i4, none⟩) (Kd.R_far (p := ⟨g, i3, none⟩) (Kd.R_far (p := ⟨g, i2, none⟩) (Kd.R_far (p := ⟨g, i1, none⟩) (Kd.R_far (p := ⟨g, i0, none⟩) h hk u0) hk u1) hk u2) hk u3) hk u4
theorem Rf7_ {α : Type} {d : Kd α} {e base : Nat} {ok : Nat → Prop} {W : World} {v : Value} {xs : List α} {g i0 i1 i2 i3 i4 i5 i6 : Nat} {u0 u1 u2 u3 u4 u5 u6 : Value} (h : Kd.R d e W base ok v xs) (hk : ∀ k, ok k → k ≠ g) : Kd.R d e (((((((W.setCell ⟨g, i0, none⟩ u0).setCell ⟨g, i1, none⟩ u1).setCell ⟨g, i2, none⟩ u2).setCell ⟨g, i3, none⟩ u3).setCell ⟨g, i4, none⟩ u4).setCell ⟨g, i5, none⟩ u5).setCell ⟨g, i6, none⟩ u6) base ok v xs := Kd.R_far (p := ⟨g, i6, none⟩) (Kd.R_far (p := ⟨g, i5, none⟩) (Rf5_ h hk) hk u5) hk u6
end Go.Proofs.YtjogkfcjlljjcaaDoor.P
namespace Go.Proofs.YtjogkfcjlljjcaaDoorW.PrintLast
open Go.Proofs.YtjogkfcjlljjcaaDoorW.PrintWords (Aside0)
section
variable {P : Program} {ops : Array Oper} {Q : Exit → Act → World → Prop} {md : Region.Mode} {S : World → Prop} {ds : List Nat} {T : Bool × List (List Nat × List Nat)} {B : List Nat}
def dB (n m : Nat) : Array Bool := ((List.range n).map fun i => m.testBit i).toArray
theorem neg_first {p q : Prop} (hn : ¬ p → q) (hp : p → q) : q := (Classical.em p).elim hp hn
theorem la_ {α : Type} (l : List α) (i : Nat) (a : α) : l.toArray.setIfInBounds i a = (l.set i a).toArray := by simp
theorem lb_ {α : Type} (a x : α) (l : List α) : (a :: l).set 0 x = x :: l := rfl
theorem lc_ {α : Type} (a x : α) (l : List α) (i : Nat) : (a :: l).set (i + 1) x = a :: l.set i x := rfl
theorem pon_ (i : Nat) (N : Option Tmp) {oi : Oper} {v : Value} {fuel : Nat} {l : Array Bool} {a : Act} {w : World} (l' : Array Bool) (hT : rtab md ops = T) {a' : Act} (h : wpAnyLast P md ops Q S ds fuel l' a' w)
    (hi : ops[i]? = some oi := by rfl) (hN : oi.dst = N := by rfl) (hc : anyT T l.toList l'.toList i = true := by kernel_rfl) (hQ : ∀ c a w, Q (.panic c) (a.put oi.dst v) w → Q (.panic c) a w := by exact (fun _ _ _ h => h))
    (hw : Region.wanted oi (yielded ops a.tmps) = true := by rfl) (hy : ∀ w', (execOp a.eval oi).run P w' = .ok (.value v) w' := by intro w'; go_simp; with_reducible rfl)
    (ha : a.put N v = a' := by simp only [Act.put, la_, lb_, lc_, i64_w, i32_w]; rfl) : wpAnyLast P md ops Q S ds (fuel + 1) l a w :=
  pure_ (i := i) (N := N) (v := v) l' hi hN (any_of hT hc) hQ (Or.inl ⟨hw, hy⟩) ha h
theorem ptk_ (i : Nat) (N : Option Tmp) {oi : Oper} {v : Value} {fuel : Nat} {l : Array Bool} {a : Act} {w : World} (l' : Array Bool) (hT : rtab md ops = T) (hB : waitsOk T.2 B = true) (hS : S w) {a' : Act} (h : wpAnyLast P md ops Q S ds fuel l' a' w)
    (hi : ops[i]? = some oi := by rfl) (hN : oi.dst = N := by rfl) (hc : takeW T B ds l.toList l'.toList i = true := by kernel_rfl) (hQ : ∀ c a w, Q (.panic c) (a.put oi.dst v) w → Q (.panic c) a w := by exact (fun _ _ _ h => h))
    (hw : Region.wanted oi (yielded ops a.tmps) = true := by rfl) (hy : ∀ w', S w' → (execOp a.eval oi).run P w' = .ok (.value v) w' := by intro w' hs_; (try dsimp only at hs_); (repeat (obtain ⟨_, hs_⟩ := hs_)); go_simp; with_reducible rfl)
    (ha : a.put N v = a' := by simp only [Act.put, la_, lb_, lc_, i64_w, i32_w]; rfl) : wpAnyLast P md ops Q S ds (fuel + 1) l a w :=
  take_ (i := i) (N := N) (v := v) l' hi hN (take_ofW hT hB hc) hQ (Or.inl ⟨hw, hy⟩) hS ha h
theorem qon_ (i : Nat) (N : Option Tmp) {oi : Oper} {v : Value} {fuel : Nat} {l : Array Bool} {a : Act} {w : World} (l' : Array Bool) {a' : Act} (h : wpAnyLast P md ops Q S ds fuel l' a' w)
    (hi : ops[i]? = some oi := by rfl) (hN : oi.dst = N := by rfl) (hc : anyB md ops l l' i = true := by kernel_rfl) (hQ : ∀ c a w, Q (.panic c) (a.put oi.dst v) w → Q (.panic c) a w := by exact (fun _ _ _ h => h))
    (hw : Region.wanted oi (yielded ops a.tmps) = true := by rfl) (hy : ∀ w', (execOp a.eval oi).run P w' = .ok (.value v) w' := by intro w'; go_simp; with_reducible rfl)
    (ha : a.put N v = a' := by simp only [Act.put, la_, lb_, lc_, i64_w, i32_w]; rfl) : wpAnyLast P md ops Q S ds (fuel + 1) l a w :=
  pure_ (i := i) (N := N) (v := v) l' hi hN hc hQ (Or.inl ⟨hw, hy⟩) ha h
theorem qof_ (i : Nat) (N : Option Tmp) {oi : Oper} {fuel : Nat} {l : Array Bool} {a : Act} {w : World} (l' : Array Bool) {a' : Act} (h : wpAnyLast P md ops Q S ds fuel l' a' w)
    (hi : ops[i]? = some oi := by rfl) (hN : oi.dst = N := by rfl) (hc : anyB md ops l l' i = true := by kernel_rfl) (hQ : ∀ c a w, Q (.panic c) (a.put oi.dst undef) w → Q (.panic c) a w := by exact (fun _ _ _ h => h))
    (hw : Region.wanted oi (yielded ops a.tmps) = false := by rfl)
    (ha : a.put N undef = a' := by simp only [Act.put, la_, lb_, lc_, i64_w, i32_w]; rfl) : wpAnyLast P md ops Q S ds (fuel + 1) l a w :=
  pure_ (i := i) (N := N) (v := undef) l' hi hN hc hQ (Or.inr ⟨hw, rfl⟩) ha h
theorem qtk_ (i : Nat) (N : Option Tmp) {oi : Oper} {v : Value} {fuel : Nat} {l : Array Bool} {a : Act} {w : World} (l' : Array Bool) (hS : S w) {a' : Act} (h : wpAnyLast P md ops Q S ds fuel l' a' w)
    (hi : ops[i]? = some oi := by rfl) (hN : oi.dst = N := by rfl) (hc : takeB md ops ds l l' i = true := by kernel_rfl) (hQ : ∀ c a w, Q (.panic c) (a.put oi.dst v) w → Q (.panic c) a w := by exact (fun _ _ _ h => h))
    (hw : Region.wanted oi (yielded ops a.tmps) = true := by rfl) (hy : ∀ w', S w' → (execOp a.eval oi).run P w' = .ok (.value v) w' := by intro w' hs_; (try dsimp only at hs_); (repeat (obtain ⟨_, hs_⟩ := hs_)); go_simp; with_reducible rfl)
    (ha : a.put N v = a' := by simp only [Act.put, la_, lb_, lc_, i64_w, i32_w]; rfl) : wpAnyLast P md ops Q S ds (fuel + 1) l a w :=
  take_ (i := i) (N := N) (v := v) l' hi hN hc hQ (Or.inl ⟨hw, hy⟩) hS ha h
end
section
open Go.RowKit Go.Proofs.YtjogkfcjlljjcaaDoorW.PrintWords
def Up (w' w : World) : Prop := ∀ (g : Nat) (o : Obj), w'.heap[g]? = some o → w.heap[g]? = some o
theorem up_refl {w : World} : Up w w := fun _ _ h => h
theorem up_drewN {w' w : World} {m : Nat} (h : Up w' w) : Up w' (w.drewN m) := fun g o x => blk_drewN (h g o x) m
theorem up_drew {w' w : World} (h : Up w' w) : Up w' w.drew := fun g o x => blk_drew (h g o x)
theorem up_alloc {w' w : World} {q : Obj} (h : Up w' w) : Up w' (w.alloc q) := fun g o x => blk_alloc (h g o x) q
theorem bk_ {w' w : World} {g : Nat} {o : Obj} (h : Aside0 (w'.heap[g]? = some o)) (e : Up w' w := by (with_reducible repeat (first | exact up_refl | refine up_drewN ?_ | refine up_drew ?_ | refine up_alloc ?_))) : w.heap[g]? = some o := e g o h.out
def UpB (w0 w' w : World) : Prop := Below w0.heap.size w0 w' → Below w0.heap.size w0 w
theorem upb_refl {w0 w : World} : UpB w0 w w := fun h => h
theorem upb_drewN {w0 w' w : World} {m : Nat} (h : UpB w0 w' w) : UpB w0 w' (w.drewN m) := fun x => pw_below_drewN (h x) m
theorem upb_drew {w0 w' w : World} (h : UpB w0 w' w) : UpB w0 w' w.drew := fun x => below_drew1 (h x)
theorem upb_alloc {w0 w' w : World} {q : Obj} (h : UpB w0 w' w) : UpB w0 w' (w.alloc q) := fun x => below_alloc (h x) q
theorem upb_set {w0 w' w : World} {g j : Nat} {v : Value} (h : UpB w0 w' w) (hg : w0.heap.size ≤ g) : UpB w0 w' (w.setCell ⟨g, j, none⟩ v) := fun x => below_set (h x) hg
theorem hb_ {w0 w' w : World} (h : Aside0 (Below w0.heap.size w0 w')) (e : UpB w0 w' w := by (with_reducible repeat (first | exact upb_refl | refine upb_drewN ?_ | refine upb_drew ?_ | refine upb_alloc ?_ | refine upb_set ?_ (Aside0.out (by assumption))))) : Below w0.heap.size w0 w := e h.out
end
end Go.Proofs.YtjogkfcjlljjcaaDoorW.PrintLast
namespace Go.Proofs.YtjogkfcjlljjcaaDoor.P.Hand
open Go.RowKit Go.Proofs.YtjogkfcjlljjcaaDoorW.PrintWords Go.Proofs.YtjogkfcjlljjcaaDoorW.PrintLast Go.Proofs.YtjogkfcjlljjcaaDoorW.PrintMore
theorem at_world {P : Program} {c : Code} {Q : Exit → Act → World → Prop} {a : Act} {w : World} (S : World → Prop) (hS : S w) (h : ∀ w', S w' → Code.wp P c Q a w') : Code.wp P c Q a w := h w hS
end Go.Proofs.YtjogkfcjlljjcaaDoor.P.Hand
namespace Go.Proofs.YtjogkfcjlljjcaaDoorW.PrintWords
open Go.RowKit
section
variable {P : Program} {ops : Array Oper} {rest : List Oper} {o : Oper} {a : Act} {Q : Exit → Act → World → Prop}
theorem lit_event {W : World} (hgd : o.guard = none) {N : Tmp} (_hd : o.dst = some N) {cs : Array Value} {t : TypeId} {n : Nat}
    (hrun : (execOp a.eval o).run P W = .ok (.value (.slice (some ⟨W.heap.size, 0, none⟩) n n)) (W.alloc (.cells cs t (0, 0))))
    (h : ∀ g, g = W.heap.size → ∀ w1, w1.heap[g]? = some (.cells cs t (0, 0)) → Below W.heap.size W w1 → wpList P ops Q rest (a.put o.dst (.slice (some ⟨g, 0, none⟩) n n)) w1) : wpList P ops Q (o :: rest) a W :=
  Kd.event_run hgd hrun (h _ rfl _ (blk_new W _) (below_alloc (Below.refl _ _) _))
end
def rowN (n : Nat) (f : Nat → Bool) : Array Value := ((List.range n).map fun i => Value.bool (f i)).toArray
theorem rowN_size (n : Nat) (f : Nat → Bool) : (rowN n f).size = n := by simp [rowN]
theorem rowN_get (n : Nat) (f : Nat → Bool) (i : Nat) (h : i < n) : (rowN n f)[i]? = some (.bool (f i)) := by
  unfold rowN;rw [List.getElem?_toArray, List.getElem?_map, List.getElem?_range h];rfl
theorem rowN_set (n : Nat) (f : Nat → Bool) (c : Nat) (_h : c < n) : (rowN n f).setIfInBounds c (.bool true) = rowN n (fun i => f i || decide (i = c)) := by
  apply Array.ext
  · simp [rowN]
  · intro i h1 h2
    have hi : i < n := by simpa [rowN] using h2
    rw [Array.getElem_setIfInBounds (by rw [rowN_size]; exact hi)];simp only [rowN, List.getElem_toArray, List.getElem_map, List.getElem_range];by_cases hc : c = i
    · subst hc;simp
    · rw [if_neg hc, decide_eq_false (Ne.symm hc)];simp
end Go.Proofs.YtjogkfcjlljjcaaDoorW.PrintWords
namespace Go.Proofs.YtjogkfcjlljjcaaDoor.P
open Go.RowKit Go.Proofs.YtjogkfcjlljjcaaDoorW.PrintWords Go.Proofs.YtjogkfcjlljjcaaDoorW.PrintLast Go.Proofs.YtjogkfcjlljjcaaDoorW.PrintMore
attribute [local go_sem] max2_int min2_int max_two min_two max_three min_three max_four min_four   -- for this text's walks alone
set_option linter.unusedVariables false
set_option linter.unusedSimpArgs false
set_option linter.unnecessarySimpa false
def errW : Option Int → Value
  | none => .nilIface
  | some c => .iface 0 (.int .i64 c)
theorem errW_none : errW none = .nilIface := rfl
theorem errW_some (c : Int) : errW (some c) = .iface 0 (.int .i64 c) := rfl
theorem info46 : (Tryd.prog.info? 46).map (fun i => (i.zero, i.size, i.bytes)) = some (some (.agg #[(.string ⟨#[]⟩), (.int .i64 0)]), 2, 24) := by kernel_rfl
theorem info53 : (Tryd.prog.info? 53).map (fun i => (i.zero, i.size, i.bytes)) = some (some (.agg #[(.string ⟨#[]⟩), (.int .u64 0)]), 2, 24) := by kernel_rfl
structure S53 where
  f0 : ByteArray
  f1 : Int
def z53 : S53 := ⟨(⟨#[]⟩ : ByteArray), (0 : Int)⟩
def k53 : Kd S53 := Kd.iso (Kd.pair Kd.string (Kd.int .u64)) (fun x : S53 => (x.f0, x.f1))
theorem k53_open {w : World} {x : S53} {cs : List Value} (h : k53.K w x cs) : cs = [.string x.f0, .int .u64 x.f1] := by
  obtain ⟨_, _, rfl, rfl, rfl⟩ := h;exact rfl
theorem k53_openM {w : World} {base : Nat} {ok : Nat → Prop} {x : S53} {cs : List Value} (h : k53.M w base ok x cs) : cs = [.string x.f0, .int .u64 x.f1] := by
  obtain ⟨_, _, rfl, rfl, rfl⟩ := h;exact rfl
theorem k53_mkM (w : World) (base : Nat) (ok : Nat → Prop) (x : S53)  : k53.M w base ok x [.string x.f0, .int .u64 x.f1] := ⟨[.string x.f0], [.int .u64 x.f1], rfl, rfl, rfl⟩
def rd_T53 (xs : List S53) (i : Int) : S53 := xs.getD i.toNat z53
theorem at_T53 {w : World} {A : Option Addr} {n : Nat} {xs : List S53} (h : Kd.C k53 w A n xs) (i : Int) (h0 : 0 ≤ i) (h1 : i < n) : ∃ ad , A = some ad ∧ w.cell? (ad.add (i.toNat * 2)) = some (.string (rd_T53 xs i).f0) ∧ w.cell? ⟨(ad.add (i.toNat * 2)).block, (ad.add (i.toNat * 2)).off + 1, none⟩ = some (.int .u64 (rd_T53 xs i).f1) := by
  obtain ⟨ad, c, e, _, hK, hc0⟩ := Kd.C_get h z53 i h0 h1;have hc : ∀ j u, c[j]? = some u → w.cell? (ad.add (i.toNat * 2 + j)) = some u := hc0;obtain rfl := k53_open hK;exact ⟨ad, e, hc 0 _ rfl, by rw [← add_field _ _ 1 (by omega)]; exact hc 1 _ rfl⟩
structure S100 where
  f0 : Int
  f1 : Int
def k100 : Kd S100 := Kd.iso (Kd.pair (Kd.int .i64) (Kd.int .i64)) (fun x : S100 => (x.f0, x.f1))
structure S46 where
  f0 : ByteArray
  f1 : Int
def z46 : S46 := ⟨(⟨#[]⟩ : ByteArray), (0 : Int)⟩
def k46 : Kd S46 := Kd.iso (Kd.pair Kd.string (Kd.int .i64)) (fun x : S46 => (x.f0, x.f1))
theorem k46_open {w : World} {x : S46} {cs : List Value} (h : k46.K w x cs) : cs = [.string x.f0, .int .i64 x.f1] := by
  obtain ⟨_, _, rfl, rfl, rfl⟩ := h;exact rfl
theorem k46_openM {w : World} {base : Nat} {ok : Nat → Prop} {x : S46} {cs : List Value} (h : k46.M w base ok x cs) : cs = [.string x.f0, .int .i64 x.f1] := by
  obtain ⟨_, _, rfl, rfl, rfl⟩ := h;exact rfl
theorem k46_mkM (w : World) (base : Nat) (ok : Nat → Prop) (x : S46)  : k46.M w base ok x [.string x.f0, .int .i64 x.f1] := ⟨[.string x.f0], [.int .i64 x.f1], rfl, rfl, rfl⟩
def rd_T46 (xs : List S46) (i : Int) : S46 := xs.getD i.toNat z46
theorem at_T46 {w : World} {A : Option Addr} {n : Nat} {xs : List S46} (h : Kd.C k46 w A n xs) (i : Int) (h0 : 0 ≤ i) (h1 : i < n) : ∃ ad , A = some ad ∧ w.cell? (ad.add (i.toNat * 2)) = some (.string (rd_T46 xs i).f0) ∧ w.cell? ⟨(ad.add (i.toNat * 2)).block, (ad.add (i.toNat * 2)).off + 1, none⟩ = some (.int .i64 (rd_T46 xs i).f1) := by
  obtain ⟨ad, c, e, _, hK, hc0⟩ := Kd.C_get h z46 i h0 h1;have hc : ∀ j u, c[j]? = some u → w.cell? (ad.add (i.toNat * 2 + j)) = some u := hc0;obtain rfl := k46_open hK;exact ⟨ad, e, hc 0 _ rfl, by rw [← add_field _ _ 1 (by omega)]; exact hc 1 _ rfl⟩
structure S31 where
  f0 : Int
  f1 : Int
  f2 : ByteArray
  f3 : Int
  f4 : Int
  f5 : ByteArray
  f6 : Bool
  f7 : (List S100)
  f8 : Int
  f9 : Int
  f10 : Int
  f11 : Int
  f12 : Bool
  f13 : Int
def z31 : S31 := ⟨(0 : Int), (0 : Int), (⟨#[]⟩ : ByteArray), (0 : Int), (0 : Int), (⟨#[]⟩ : ByteArray), false, ([] : List S100), (0 : Int), (0 : Int), (0 : Int), (0 : Int), false, (0 : Int)⟩
def k31 : Kd S31 := Kd.iso (Kd.pair (Kd.int .i64) (Kd.pair (Kd.int .i64) (Kd.pair Kd.string (Kd.pair (Kd.int .i64) (Kd.pair (Kd.int .i64) (Kd.pair Kd.string (Kd.pair Kd.bool (Kd.pair (Kd.slice 100 k100) (Kd.pair (Kd.int .u64) (Kd.pair (Kd.int .u64) (Kd.pair (Kd.int .u64) (Kd.pair (Kd.int .i64) (Kd.pair Kd.bool (Kd.int .i64)))))))))))))) (fun x : S31 => (x.f0, x.f1, x.f2, x.f3, x.f4, x.f5, x.f6, x.f7, x.f8, x.f9, x.f10, x.f11, x.f12, x.f13))
theorem k31_open {w : World} {x : S31} {cs : List Value} (h : k31.K w x cs) : ∃ A7 c7, cs = [.int .i64 x.f0, .int .i64 x.f1, .string x.f2, .int .i64 x.f3, .int .i64 x.f4, .string x.f5, .bool x.f6, .slice A7 x.f7.length c7, .int .u64 x.f8, .int .u64 x.f9, .int .u64 x.f10, .int .i64 x.f11, .bool x.f12, .int .i64 x.f13] ∧ x.f7.length ≤ c7 ∧ k100.C w A7 x.f7.length x.f7 := by
  obtain ⟨_, _, rfl, rfl, ⟨_, _, rfl, rfl, ⟨_, _, rfl, rfl, ⟨_, _, rfl, rfl, ⟨_, _, rfl, rfl, ⟨_, _, rfl, rfl, ⟨_, _, rfl, rfl, ⟨_, _, rfl, ⟨A7, c7, rfl, l7, g7⟩, ⟨_, _, rfl, rfl, ⟨_, _, rfl, rfl, ⟨_, _, rfl, rfl, ⟨_, _, rfl, rfl, ⟨_, _, rfl, rfl, rfl⟩⟩⟩⟩⟩⟩⟩⟩⟩⟩⟩⟩⟩ := h;exact ⟨A7, c7, rfl, l7, g7⟩
def rd_T31 (xs : List S31) (i : Int) : S31 := xs.getD i.toNat z31
theorem at_T31 {w : World} {A : Option Addr} {n : Nat} {xs : List S31} (h : Kd.C k31 w A n xs) (i : Int) (h0 : 0 ≤ i) (h1 : i < n) : ∃ ad A7 c7, A = some ad ∧ w.cell? (ad.add (i.toNat * 14)) = some (.int .i64 (rd_T31 xs i).f0) ∧ w.cell? ⟨(ad.add (i.toNat * 14)).block, (ad.add (i.toNat * 14)).off + 1, none⟩ = some (.int .i64 (rd_T31 xs i).f1) ∧ w.cell? ⟨(ad.add (i.toNat * 14)).block, (ad.add (i.toNat * 14)).off + 2, none⟩ = some (.string (rd_T31 xs i).f2) ∧ w.cell? ⟨(ad.add (i.toNat * 14)).block, (ad.add (i.toNat * 14)).off + 3, none⟩ = some (.int .i64 (rd_T31 xs i).f3) ∧ w.cell? ⟨(ad.add (i.toNat * 14)).block, (ad.add (i.toNat * 14)).off + 4, none⟩ = some (.int .i64 (rd_T31 xs i).f4) ∧ w.cell? ⟨(ad.add (i.toNat * 14)).block, (ad.add (i.toNat * 14)).off + 5, none⟩ = some (.string (rd_T31 xs i).f5) ∧ w.cell? ⟨(ad.add (i.toNat * 14)).block, (ad.add (i.toNat * 14)).off + 6, none⟩ = some (.bool (rd_T31 xs i).f6) ∧ w.cell? ⟨(ad.add (i.toNat * 14)).block, (ad.add (i.toNat * 14)).off + 7, none⟩ = some (.slice A7 (rd_T31 xs i).f7.length c7) ∧ w.cell? ⟨(ad.add (i.toNat * 14)).block, (ad.add (i.toNat * 14)).off + 8, none⟩ = some (.int .u64 (rd_T31 xs i).f8) ∧ w.cell? ⟨(ad.add (i.toNat * 14)).block, (ad.add (i.toNat * 14)).off + 9, none⟩ = some (.int .u64 (rd_T31 xs i).f9) ∧ w.cell? ⟨(ad.add (i.toNat * 14)).block, (ad.add (i.toNat * 14)).off + 10, none⟩ = some (.int .u64 (rd_T31 xs i).f10) ∧ w.cell? ⟨(ad.add (i.toNat * 14)).block, (ad.add (i.toNat * 14)).off + 11, none⟩ = some (.int .i64 (rd_T31 xs i).f11) ∧ w.cell? ⟨(ad.add (i.toNat * 14)).block, (ad.add (i.toNat * 14)).off + 12, none⟩ = some (.bool (rd_T31 xs i).f12) ∧ w.cell? ⟨(ad.add (i.toNat * 14)).block, (ad.add (i.toNat * 14)).off + 13, none⟩ = some (.int .i64 (rd_T31 xs i).f13) ∧ (rd_T31 xs i).f7.length ≤ c7 ∧ k100.C w A7 (rd_T31 xs i).f7.length (rd_T31 xs i).f7 := by
  obtain ⟨ad, c, e, _, hK, hc0⟩ := Kd.C_get h z31 i h0 h1;have hc : ∀ j u, c[j]? = some u → w.cell? (ad.add (i.toNat * 14 + j)) = some u := hc0;obtain ⟨A7, c7, rfl, l7, g7⟩ := k31_open hK;exact ⟨ad, A7, c7, e, hc 0 _ rfl, by rw [← add_field _ _ 1 (by omega)]; exact hc 1 _ rfl, by rw [← add_field _ _ 2 (by omega)]; exact hc 2 _ rfl, by rw [← add_field _ _ 3 (by omega)]; exact hc 3 _ rfl, by rw [← add_field _ _ 4 (by omega)]; exact hc 4 _ rfl, by rw [← add_field _ _ 5 (by omega)]; exact hc 5 _ rfl, by rw [← add_field _ _ 6 (by omega)]; exact hc 6 _ rfl, by rw [← add_field _ _ 7 (by omega)]; exact hc 7 _ rfl, by rw [← add_field _ _ 8 (by omega)]; exact hc 8 _ rfl, by rw [← add_field _ _ 9 (by omega)]; exact hc 9 _ rfl, by rw [← add_field _ _ 10 (by omega)]; exact hc 10 _ rfl, by rw [← add_field _ _ 11 (by omega)]; exact hc 11 _ rfl, by rw [← add_field _ _ 12 (by omega)]; exact hc 12 _ rfl, by rw [← add_field _ _ 13 (by omega)]; exact hc 13 _ rfl, l7, g7⟩
def G_access_lets.tab : List Int := [0, 1, 0, 5, 6, 13, 14]
def G_access_lets (w : World) : Prop := ∀ i : Nat, i < 7 → w.cell? ⟨0, i, none⟩ = some (.int .i64 (G_access_lets.tab.getD i 0))
theorem G_access_lets.keep {w w' : World} (h : G_access_lets w) (hb : Below w.heap.size w w') : G_access_lets w' := fun i hi => (hb.cell (World.block_lt_of_cell? w _ (h i hi))).trans (h i hi)
theorem G_access_lets.of_laid {w : World} (h : ∀ i, i < G_access_lets.tab.length → w.cell? ⟨0, i, none⟩ = some (.int .i64 (G_access_lets.tab.getD i 0))) : G_access_lets w := h
theorem G_access_lets.reads {w : World} (h : G_access_lets w) : Kd.C (Kd.int .i64) w (some ⟨0, 0, none⟩) G_access_lets.tab.length G_access_lets.tab := by
 refine ⟨rfl, by decide, fun _ => ⟨_, rfl, fun j p hp => ⟨[.int .i64 p], rfl, rfl, fun i u hu => ?_⟩⟩⟩;have hj : j < 7 := (List.getElem?_eq_some_iff.mp hp).1;have h1 := h j hj
 have h2 : G_access_lets.tab.getD j 0 = p := by
  show G_access_lets.tab.getD j 0 = p
  rw [List.getD_eq_getElem?_getD, hp];rfl
 rw [h2] at h1
 match i, hu with
 | 0, hu =>
  cases hu;rw [← h1]
  show w.cell? (Addr.add _ (j * 1 + 0)) = _
  unfold Addr.add;by_cases hz : j = 0
  ·subst hz;rfl
  ·rw [if_neg (by omega)];simp
def Glob (w : World) : Prop := G_access_lets w
theorem Glob.access_lets {w : World} (h : Glob w) : G_access_lets w := h
theorem Glob.keep {w w1 : World} (h : Glob w) (hb : Below w.heap.size w w1) : Glob w1 := G_access_lets.keep h hb
end Go.Proofs.YtjogkfcjlljjcaaDoor.P
namespace Go.Proofs.YtjogkfcjlljjcaaDoor.P
open Go.RowKit Go.Proofs.YtjogkfcjlljjcaaDoorW.PrintWords Go.Proofs.YtjogkfcjlljjcaaDoorW.PrintLast Go.Proofs.YtjogkfcjlljjcaaDoorW.PrintMore
attribute [local go_sem] max2_int min2_int max_two min_two max_three min_three max_four min_four   -- for this text's walks alone
set_option linter.unusedVariables false
set_option linter.unusedSimpArgs false
set_option linter.unnecessarySimpa false
def headgatelaw11_large.f (a0_0 : Int) (a0_1 : Int) (a0_2 : ByteArray) (a0_3 : Int) (a0_4 : Int) (a0_5 : ByteArray) (a0_6 : Bool) (l0_7 : List (S100)) (a0_8 : Int) (a0_9 : Int) (a0_10 : Int) (a0_11 : Int) (a0_12 : Bool) (a0_13 : Int) : Option (Bool) := some (decide ((a0_2.size : Int) > 1000))
theorem headgatelaw11_large.calls (a0_0 : Int) (a0_1 : Int) (a0_2 : ByteArray) (a0_3 : Int) (a0_4 : Int) (a0_5 : ByteArray) (a0_6 : Bool) (A0_7 : Option Addr) (c0_7 : Nat) (l0_7 : List (S100)) (a0_8 : Int) (a0_9 : Int) (a0_10 : Int) (a0_11 : Int) (a0_12 : Bool) (a0_13 : Int) (r : Bool) (w : World) (hr0_7 : Kd.C k100 w A0_7 l0_7.length l0_7) (hc0_7 : l0_7.length ≤ c0_7) (h : headgatelaw11_large.f a0_0 a0_1 a0_2 a0_3 a0_4 a0_5 a0_6 l0_7 a0_8 a0_9 a0_10 a0_11 a0_12 a0_13 = some r) :
  Calls Tryd.prog 12 #[.agg #[.int .i64 a0_0, .int .i64 a0_1, .string a0_2, .int .i64 a0_3, .int .i64 a0_4, .string a0_5, .bool a0_6, .slice A0_7 l0_7.length c0_7, .int .u64 a0_8, .int .u64 a0_9, .int .u64 a0_10, .int .i64 a0_11, .bool a0_12, .int .i64 a0_13]] w fun e w' => e = .returned (.bool r) ∧ Below w.heap.size w w' := by
 have hu31 := Tryd.underlying31;have HR0_7 := aS_ hr0_7;have HC0_7 := aS_ hc0_7;clear hr0_7 hc0_7;have HB := aS_ (Below.refl w.heap.size w);have H : (some (decide ((a0_2.size : Int) > 1000))) = some r := h;clear h;obtain rfl := Option.some.inj H;go_enter Tryd.func12, Tryd.ntmps12
 go_wp2_with (first | ((with_reducible refine gate_dst (N := 1) rfl ?_); refine bX_ (N := 1) (cs := #[.int .i64 a0_0, .int .i64 a0_1, .string a0_2, .int .i64 a0_3, .int .i64 a0_4, .string a0_5, .bool a0_6, .slice A0_7 l0_7.length c0_7, .int .u64 a0_8, .int .u64 a0_9, .int .u64 a0_10, .int .i64 a0_11, .bool a0_12, .int .i64 a0_13]) (t := 31) ?hr ?_; (case hr => first | (go_simp; done) | (go_simp; rfl)); intro gb103 hg w2 hbox hb; have n0_ := aS_ (below_step (by repeat (first | (with_reducible first | exact HB.out | apply below_alloc | apply pw_below_drewN | apply below_drew1) | exact HB.out)) hb); have n1_ := aS_ (hbox); have n2_ := aS_ ((by rw [hg]; exact (below_size (by repeat (first | (with_reducible first | exact HB.out | apply below_alloc | apply pw_below_drewN | apply below_drew1) | exact HB.out))) : w.heap.size ≤ gb103)); have n3_ := aS_ ((by rw [hg]; exact (below_size (by repeat (first | (with_reducible first | exact HB.out | apply below_alloc | apply pw_below_drewN | apply below_drew1) | exact HB.out))) : w.heap.size ≤ gb103)); clear HB; have HB := n0_; have BK103 := n1_; have GW103 := n2_; have GE103 := n3_; clear n0_ n1_ n2_ n3_; clear hb hbox hg; have hcz3_0 : w2.cell? ⟨gb103, 0, none⟩ = some (.int .i64 a0_0) := bC_ BK103.out 0 rfl; have hcz3_1 : w2.cell? ⟨gb103, 1, none⟩ = some (.int .i64 a0_1) := bC_ BK103.out 1 rfl; have hcz3_2 : w2.cell? ⟨gb103, 2, none⟩ = some (.string a0_2) := bC_ BK103.out 2 rfl; have hcz3_3 : w2.cell? ⟨gb103, 3, none⟩ = some (.int .i64 a0_3) := bC_ BK103.out 3 rfl; have hcz3_4 : w2.cell? ⟨gb103, 4, none⟩ = some (.int .i64 a0_4) := bC_ BK103.out 4 rfl; have hcz3_5 : w2.cell? ⟨gb103, 5, none⟩ = some (.string a0_5) := bC_ BK103.out 5 rfl; have hcz3_6 : w2.cell? ⟨gb103, 6, none⟩ = some (.bool a0_6) := bC_ BK103.out 6 rfl; have hcz3_7 : w2.cell? ⟨gb103, 7, none⟩ = some (.slice A0_7 l0_7.length c0_7) := bC_ BK103.out 7 rfl; have hcz3_8 : w2.cell? ⟨gb103, 8, none⟩ = some (.int .u64 a0_8) := bC_ BK103.out 8 rfl; have hcz3_9 : w2.cell? ⟨gb103, 9, none⟩ = some (.int .u64 a0_9) := bC_ BK103.out 9 rfl; have hcz3_10 : w2.cell? ⟨gb103, 10, none⟩ = some (.int .u64 a0_10) := bC_ BK103.out 10 rfl; have hcz3_11 : w2.cell? ⟨gb103, 11, none⟩ = some (.int .i64 a0_11) := bC_ BK103.out 11 rfl; have hcz3_12 : w2.cell? ⟨gb103, 12, none⟩ = some (.bool a0_12) := bC_ BK103.out 12 rfl; have hcz3_13 : w2.cell? ⟨gb103, 13, none⟩ = some (.int .i64 a0_13) := bC_ BK103.out 13 rfl; have hfz3_0 := bF_ BK103.out))
 go_ret;exact ⟨by first | rfl | (simp [errW_none, errW_some] <;> rfl) | (simp [*, errW_none, errW_some] <;> rfl) | (simp [bt, *]; done) | (unfold bt; simp [*]; done), by repeat (first | (with_reducible first | exact HB.out | apply below_alloc | apply pw_below_drewN | apply below_drew1 | refine below_set ?_ GE103.out) | exact HB.out)⟩
def lo_ : Nat → Nat
  | 0 => 97 | 1 => 48 | 2 => 46 | 3 => 45 | _ => 58
def hi_ : Nat → Nat
  | 0 => 122 | 1 => 57 | 2 => 46 | 3 => 45 | _ => 58
def lit_ (k : Nat) : ByteArray := ⟨#[UInt8.ofNat (lo_ k), UInt8.ofNat (hi_ k)]⟩
def mark_ : Nat → Nat → Bool
  | 0, _ => false
  | k + 1, i => mark_ k i || decide (lo_ k ≤ i ∧ i < hi_ k + 1)
theorem lohi_ : ∀ k, k < 5 → 0 < lo_ k ∧ lo_ k ≤ hi_ k ∧ hi_ k < 256 := by decide
theorem lit_0 (k : Nat) (hk : k < 5) : ∀ h : 0 < (lit_ k).size, (((lit_ k)[0]'h).toNat : Int) = (lo_ k : Int) := by
  intro h;have := lohi_ k hk
  show ((UInt8.ofNat (lo_ k)).toNat : Int) = _
  rw [UInt8.toNat_ofNat'];omega
theorem lit_1 (k : Nat) (hk : k < 5) : ∀ h : 1 < (lit_ k).size, (((lit_ k)[1]'h).toNat : Int) = (hi_ k : Int) := by
  intro h;have := lohi_ k hk
  show ((UInt8.ofNat (hi_ k)).toNat : Int) = _
  rw [UInt8.toNat_ofNat'];omega
theorem names_letters.calls (w : World) : Calls Tryd.prog 61 #[] w fun e w' => ∃ g, e = .returned (.pointer (some ⟨g, 0, none⟩)) ∧ w.heap.size ≤ g ∧ w'.heap[g]? = some (.cells (rowN 256 (mark_ 5)) 83 (0, 0)) ∧ Below w.heap.size w w' := by
 have HB := aS_ (Below.refl w.heap.size w);go_enter Tryd.func61, Tryd.ntmps61
 go_wp2_with (first
  | ((with_reducible refine gate_dst (N := 1) rfl ?_); refine bX_ (N := 1) (cs := rowN 256 (fun _ => false)) (t := 83) ?hr ?_; (case hr => first | (kernel_rfl) | (go_simp; done) | (go_simp; rfl)); intro g hg w1 hbox hb; have GE := aS_ (show w.heap.size ≤ g by rw [hg]; exact below_size HB.out); have n1_ := aS_ (below_step HB.out hb); have BK := aS_ hbox; clear HB; have HB := n1_; clear n1_ hb hbox hg)
  | ((with_reducible refine gate_dst (N := 5) rfl ?_); refine lit_event ?hg (N := 5) ?hd (cs := #[.string (lit_ 0), .string (lit_ 1), .string (lit_ 2), .string (lit_ 3), .string (lit_ 4)]) (t := 9) (n := 5) ?hr ?_; (case hd => rfl); (case hg => rfl); (case hr => first | (go_simp; done) | (go_simp; rfl)); intro gs hg w2 hbox hb; have NE := aS_ (show g ≠ gs by rw [hg]; exact Nat.ne_of_lt (blk_lt BK.out)); have n1_ := aS_ (below_step HB.out hb); have n2_ := aS_ (blk_below BK.out hb); have BS := aS_ hbox; clear HB BK; have HB := n1_; have BK := n2_; clear n1_ n2_ hb hbox hg))
 go_loopw [7] (fun kv wr => ∃ k : Nat, k ≤ 5 ∧ kv = .int .i64 k ∧ Aside0 (wr.heap[g]? = some (.cells (rowN 256 (mark_ k)) 83 (0, 0))) ∧ Aside0 (wr.heap[gs]? = some (.cells #[.string (lit_ 0), .string (lit_ 1), .string (lit_ 2), .string (lit_ 3), .string (lit_ 4)] 9 (0, 0))) ∧ Aside0 (Below w.heap.size w wr)) (fun kv _ => 5 - (intOf kv).toNat)
 case atStart => exact ⟨0, by omega, rfl, BK, BS, HB⟩
 case round =>
  clear HB BK BS;obtain ⟨k, hk, rfl, BK, BS, HB⟩ := hrel
  obtain ⟨wo, hwo⟩ : ∃ wo : World, wo = wr := ⟨_, rfl⟩
  subst hwo;by_cases hlt : k < 5
  ·obtain ⟨lo, hlo⟩ : ∃ lo, lo = lo_ k := ⟨_, rfl⟩
   obtain ⟨hi, hhi⟩ : ∃ hi, hi = hi_ k := ⟨_, rfl⟩
   have hb := lohi_ k hlt;have hx0 := lit_0 k hlt;have hx1 := lit_1 k hlt;have hz : (lit_ k).size = 2 := rfl
   have hcell : wo.cell? ⟨gs, k, none⟩ = some (.string (lit_ k)) := by
    rw [blk_cell BS.out k]
    match k, hlt with
    | 0, _ => rfl
    | 1, _ => rfl
    | 2, _ => rfl
    | 3, _ => rfl
    | 4, _ => rfl
   rw [← hlo, ← hhi] at hb;rw [← hlo] at hx0;rw [← hhi] at hx1
   have hmk : Aside0 (mark_ (k + 1) = fun i => mark_ k i || decide (lo ≤ i ∧ i < hi + 1)) := ⟨by rw [hlo, hhi]; rfl⟩
   obtain ⟨s, hs⟩ : ∃ s, s = lit_ k := ⟨_, rfl⟩
   rw [← hs] at hcell;rw [← hs] at hz
   have hy0 : ∀ h : 0 < s.size, ((s[0]'h).toNat : Int) = (lo : Int) := by rw [hs]; exact hx0
   have hy1 : ∀ h : 1 < s.size, ((s[1]'h).toNat : Int) = (hi : Int) := by rw [hs]; exact hx1
   have hz0 : (0 < s.size) = True := eq_true (by omega);have hz1 : (1 < s.size) = True := eq_true (by omega);have hz2 : ((0 : Int) < (s.size : Int)) = True := eq_true (by omega);have hz3 : ((1 : Int) < (s.size : Int)) = True := eq_true (by omega);obtain ⟨hb1, hb2, hb3⟩ := hb;clear hs hlo hhi hx0 hx1 hz;go_wp2
   go_loopw [4] (fun cv wr => ∃ c : Nat, lo ≤ c ∧ c ≤ hi + 1 ∧ cv = .int .i64 c ∧ Aside0 (wr.heap[g]? = some (.cells (rowN 256 (fun i => mark_ k i || decide (lo ≤ i ∧ i < c))) 83 (0, 0))) ∧ Aside0 (wr.heap[gs]? = some (.cells #[.string (lit_ 0), .string (lit_ 1), .string (lit_ 2), .string (lit_ 3), .string (lit_ 4)] 9 (0, 0))) ∧ Aside0 (Below w.heap.size w wr)) (fun cv _ => hi + 1 - (intOf cv).toNat)
   case atStart =>
    refine ⟨lo, by omega, by omega, rfl, ⟨?_⟩, BS, HB⟩
    have e : (fun i => mark_ k i || decide (lo ≤ i ∧ i < lo)) = mark_ k := by
     funext i
     rw [decide_eq_false (by omega), Bool.or_false]
    rw [e];exact BK.out
   case round =>
    clear HB BK BS hcell;obtain ⟨c, hc1, hc2, rfl, BK, BS, HB⟩ := hrel;by_cases hcl : c < hi + 1
    ·have hd : decide ((c : Int) ≤ (hi : Int)) = true := decide_eq_true (by omega);have hcc : wr.cell? ⟨g, c, none⟩ = some (.bool (mark_ k c || decide (lo ≤ c ∧ c < c))) := (blk_cell BK.out c).trans (rowN_get 256 _ c (by omega));have hcf := bF_ BK.out c
     have hc0 : (0 : Int) ≤ (c : Int) := by omega
     have hc256 : (c : Int) < 256 := by omega
     go_wp2
     go_roundw
     case rel =>
      refine ⟨c + 1, by omega, by omega, by go_num, ⟨?_⟩, ⟨blk_far BS.out (Ne.symm NE.out) _⟩, ⟨below_set HB.out GE.out⟩⟩;refine blk_put BK.out c _ ?_;rw [rowN_set 256 _ c (by omega)]
      congr 1
      funext i
      rw [Bool.or_assoc]
      congr 1
      rw [Bool.eq_iff_iff];simp;omega
     case measure => simp [intOf]; omega
    ·have hd : decide ((c : Int) ≤ (hi : Int)) = false := decide_eq_false (by omega)
     have hce : c = hi + 1 := by omega
     subst hce;go_wp2
     go_roundw
     case rel => exact ⟨k + 1, by omega, by go_num, ⟨by rw [hmk.out]; exact BK.out⟩, BS, HB⟩
     case measure => simp [intOf]; omega
  ·have hk5 : k = 5 := by omega
   subst hk5;go_wp2;go_ret;exact ⟨g, rfl, GE.out, BK.out, HB.out⟩
def nameB (s : ByteArray) : Bool := decide (1 ≤ s.size ∧ s.size ≤ 64 ∧ 97 ≤ bt s 0 ∧ bt s 0 ≤ 122) && s.data.toList.all (fun c => mark_ 5 c.toNat)
def names_Name.f (a0 : ByteArray) : Option Bool := some (nameB a0)
theorem names_Name.calls (a0 : ByteArray) (r : Bool) (w : World) (h : names_Name.f a0 = some r) :
  Calls Tryd.prog 35 #[.string a0] w fun e w' => e = .returned (.bool r) ∧ Below w.heap.size w w' := by
 obtain rfl := Option.some.inj h;clear h;have HB := aS_ (Below.refl w.heap.size w);by_cases h1 : a0.size < 1
 ·have er : nameB a0 = false := by
   unfold nameB;rw [decide_eq_false (by omega)];rfl
  rw [er];clear er;have e0 : a0 = ByteArray.empty := ByteArray.ext (Array.eq_empty_of_size_eq_zero (show a0.size = 0 by omega));subst e0;clear h1;go_enter Tryd.func35, Tryd.ntmps35;go_wp2;go_ret;exact ⟨rfl, HB.out⟩
 ·have d1 : decide (a0.size < 1) = false := decide_eq_false h1;have d2 : decide ((a0.size : Int) < 1) = false := decide_eq_false (by omega);have d3 : (a0 = ByteArray.empty) = False := eq_false (fun h_ => by rw [h_] at h1; exact h1 (by decide));by_cases h2 : a0.size > 64
  ·have er : nameB a0 = false := by
    unfold nameB;rw [decide_eq_false (by omega)];rfl
   rw [er];have d4 : decide (64 < a0.size) = true := decide_eq_true h2;have d5 : decide ((64 : Int) < (a0.size : Int)) = true := decide_eq_true (by omega);clear er h1 h2;go_enter Tryd.func35, Tryd.ntmps35;go_wp2;go_ret;exact ⟨rfl, HB.out⟩
  ·have d4 : decide (64 < a0.size) = false := decide_eq_false h2;have d5 : decide ((64 : Int) < (a0.size : Int)) = false := decide_eq_false (by omega);have hx0 := bt_at a0 0;have hx : ∀ h : 0 < a0.size, ((a0[0]'h).toNat : Int) = bt a0 0 := bt_at a0 0;have z0 : (0 < a0.size) = True := eq_true (by omega);have z1 : ((0 : Int) < (a0.size : Int)) = True := eq_true (by omega);clear hx0
   have er0 := (rfl : nameB a0 = nameB a0)
   obtain ⟨b, hb⟩ : ∃ b, b = bt a0 0 := ⟨_, rfl⟩
   rw [← hb] at hx;by_cases h3 : b < 97
   ·have er : nameB a0 = false := by
     unfold nameB;rw [decide_eq_false (by rw [← hb]; omega)];rfl
    rw [er];have d6 : decide (b < 97) = true := decide_eq_true h3;clear er h1 h2 h3 hb er0;go_enter Tryd.func35, Tryd.ntmps35;go_wp2;go_ret;exact ⟨rfl, HB.out⟩
   ·have d6 : decide (b < 97) = false := decide_eq_false h3;by_cases h4 : b > 122
    ·have er : nameB a0 = false := by
      unfold nameB;rw [decide_eq_false (by rw [← hb]; omega)];rfl
     rw [er];have d7 : decide (122 < b) = true := decide_eq_true h4;clear er h1 h2 h3 h4 hb er0;go_enter Tryd.func35, Tryd.ntmps35;go_wp2;go_ret;exact ⟨rfl, HB.out⟩
    ·have d7 : decide (122 < b) = false := decide_eq_false h4
     have er : Aside0 (nameB a0 = a0.data.toList.all (fun c => mark_ 5 c.toNat)) := ⟨by
      unfold nameB;rw [decide_eq_true (by rw [← hb]; omega)]
      rfl⟩
     have hsz : a0.data.toList.length = a0.size := rfl;clear er0 hb h3 h4;generalize hR : nameB a0 = R at er ⊢;clear hR;go_enter Tryd.func35, Tryd.ntmps35
     go_wp2_with (first
      | (go_at_call 61; refine (names_letters.calls _).mono ?_; rintro e w1 ⟨g, rfl, hge, hbk, hb⟩; have GE := aS_ (show w.heap.size ≤ g from Nat.le_trans (below_size HB.out) hge); have n1_ := aS_ (below_step HB.out hb); have BK := aS_ hbk; clear HB; have HB := n1_; clear n1_ hb hbk hge))
     clear hx z0 z1
     go_loopw [26] (fun iv wr => ∃ k : Nat, k ≤ a0.size ∧ iv = .int .i64 k ∧ Aside0 ((a0.data.toList.drop k).all (fun c => mark_ 5 c.toNat) = R) ∧ Aside0 (wr.heap[g]? = some (.cells (rowN 256 (mark_ 5)) 83 (0, 0))) ∧ Aside0 (Below w.heap.size w wr)) (fun iv _ => a0.size - (intOf iv).toNat)
     case atStart => exact ⟨0, Nat.zero_le _, rfl, ⟨er.out.symm⟩, BK, HB⟩
     case round =>
      clear HB BK er;obtain ⟨k, hk, rfl, er, BK, HB⟩ := hrel;by_cases hlt : k < a0.size
      ·have hl : k < a0.data.toList.length := hlt
       obtain ⟨c, hc⟩ : ∃ c : Nat, c = (a0[k]'hlt).toNat := ⟨_, rfl⟩
       have hc256 : c < 256 := by rw [hc]; exact (a0[k]'hlt).toNat_lt
       have hx : ∀ h : k < a0.size, ((a0[k]'h).toNat : Int) = (c : Int) := fun h => by rw [hc]
       have er2 : Aside0 ((mark_ 5 c && (a0.data.toList.drop (k + 1)).all (fun c => mark_ 5 c.toNat)) = R) := ⟨by
        have := er.out;rw [List.drop_eq_getElem_cons hl, List.all_cons] at this;rw [← this, hc]
        rfl⟩
       have hcell : wr.cell? ⟨g, c, none⟩ = some (.bool (mark_ 5 c)) := (blk_cell BK.out c).trans (rowN_get 256 _ c hc256);have k0 : (0 : Int) ≤ (k : Int) := Int.natCast_nonneg k;have c0 : (0 : Int) ≤ (c : Int) := Int.natCast_nonneg c
       have c1 : (c : Int) < 256 := by omega
       have k1 : ((k : Int) < (a0.size : Int)) = True := eq_true (by omega);have k2 : (k < a0.size) = True := eq_true hlt;clear hc er hc256 hl;cases hm : mark_ 5 c
       ·rw [hm] at hcell er2;have er3 : R = false := er2.out.symm;go_wp2
        go_quiet (fail)
        go_wp2;go_ret;exact ⟨by rw [er3]; rfl, pw_below_drewN HB.out _⟩
       ·rw [hm] at hcell er2;go_wp2
        go_quiet (fail)
        go_wp2
        go_roundw
        case rel => exact ⟨k + 1, by omega, by go_num, ⟨er2.out⟩, ⟨blk_drewN BK.out _⟩, ⟨pw_below_drewN HB.out _⟩⟩
        case measure => simp [intOf]; omega
      ·have er3 : R = true := by
        have := er.out;rw [List.drop_eq_nil_of_le (by omega)] at this;exact this.symm
       go_wp2;go_ret;exact ⟨by rw [er3]; rfl, HB.out⟩
def access_Type.f (a0 : Int) : Option (Bool) := if a0 ≥ 1 then (some (decide (a0 ≤ 6))) else (some false)
theorem access_Type.calls (a0 : Int) (r : Bool) (w : World) (h : access_Type.f a0 = some r) :
  Calls Tryd.prog 45 #[.int .i64 a0] w fun e w' => e = .returned (.bool r) ∧ Drawn0 w w' := by
 have H : (if a0 ≥ 1 then (some (decide (a0 ≤ 6))) else (some false)) = some r := h;clear h;by_cases c2 : a0 ≥ 1
 ·rw [if_pos c2] at H;have c2b0 : decide (1 ≤ a0) = true := decide_eq_true c2;clear c2;obtain rfl := Option.some.inj H;go_enter Tryd.func45, Tryd.ntmps45;go_wp2;go_ret;exact ⟨by first | rfl | (simp; done) | (simp [*]; done), by repeat (first | exact Drawn0.refl _ | apply Drawn0.step)⟩
 ·rw [if_neg c2] at H;have c2b0 : decide (1 ≤ a0) = false := decide_eq_false c2;clear c2;obtain rfl := Option.some.inj H;go_enter Tryd.func45, Tryd.ntmps45;go_wp2;go_ret;exact ⟨by first | rfl | (simp; done) | (simp [*]; done), by repeat (first | exact Drawn0.refl _ | apply Drawn0.step)⟩
def resv_everybody.f (a0 : Int) : Option (Bool) := if a0 = 5 then (some true) else (some (a0 == 6))
theorem resv_everybody.calls (a0 : Int) (r : Bool) (w : World) (h : resv_everybody.f a0 = some r) :
  Calls Tryd.prog 46 #[.int .i64 a0] w fun e w' => e = .returned (.bool r) ∧ Drawn0 w w' := by
 have H : (if a0 = 5 then (some true) else (some (a0 == 6))) = some r := h;clear h;by_cases c2 : a0 = 5
 ·rw [if_pos c2] at H;have c2b0 : (a0 == 5) = true := beq_iff_eq.mpr c2;have c2b1 : (a0 != 5) = false := bne_eq_false_iff_eq.mpr c2;clear c2;obtain rfl := Option.some.inj H;go_enter Tryd.func46, Tryd.ntmps46;go_wp2;go_ret;exact ⟨by first | rfl | (simp; done) | (simp [*]; done), by repeat (first | exact Drawn0.refl _ | apply Drawn0.step)⟩
 ·rw [if_neg c2] at H;have c2b0 : (a0 == 5) = false := beq_eq_false_iff_ne.mpr c2;have c2b1 : (a0 != 5) = true := bne_iff_ne.mpr c2;obtain rfl := Option.some.inj H;go_enter Tryd.func46, Tryd.ntmps46;go_wp2;go_ret;exact ⟨by first | rfl | (simp; done) | (simp [*]; done), by repeat (first | exact Drawn0.refl _ | apply Drawn0.step)⟩
end Go.Proofs.YtjogkfcjlljjcaaDoor.P
namespace Go.Proofs.YtjogkfcjlljjcaaDoor.P
open Go.RowKit Go.Proofs.YtjogkfcjlljjcaaDoorW.PrintWords Go.Proofs.YtjogkfcjlljjcaaDoorW.PrintLast Go.Proofs.YtjogkfcjlljjcaaDoorW.PrintMore
attribute [local go_sem] max2_int min2_int max_two min_two max_three min_three max_four min_four   -- for this text's walks alone
set_option linter.unusedVariables false
set_option linter.unusedSimpArgs false
set_option linter.unnecessarySimpa false
open Go.Maps in
theorem good_key : Keyed Tryd.prog 9 := string_keyed Tryd.underlying9
theorem good_zero (w : World) : (zeroValue 3).run Tryd.prog w = .ok (.int .i64 0) w := by kernel_rfl
theorem good_world {P : Program} {ops : Array Oper} {rest : List Oper} {a : Act} {Q : Exit → Act → World → Prop} {w : World} (S : World → Prop) (hS : S w) (h : ∀ w', S w' → wpList P ops Q rest a w') : wpList P ops Q rest a w := h w hS
def hosts_ (l : List S53) (i : Nat) : List (List UInt8) := (l.take i).map fun x => x.f0.data.toList
def okAt_ (l : List S53) (i : Nat) : Prop := (rd_T53 l i).f0.data.toList ∉ hosts_ l i ∧ nameB (rd_T53 l i).f0 = true ∧ (rd_T53 l i).f1 ≠ 0
instance (l : List S53) (i : Nat) : Decidable (okAt_ l i) := by unfold okAt_; exact inferInstance
def okAll_ (l : List S53) : Prop := ∀ i, i < l.length → okAt_ l i
instance (l : List S53) : Decidable (okAll_ l) := by unfold okAll_; exact inferInstance
def holdOk_ (l : List S53) (typ : Int) (host : ByteArray) : Bool :=
  if typ = 0 then host.toList == ([] : List UInt8) else if typ < 1 ∨ 6 < typ then false else if typ = 5 ∨ typ = 6 then (host.toList == ([] : List UInt8)) && decide (0 < l.length) else decide (host.data.toList ∈ hosts_ l l.length)
def resv_Good.f (l : List S53) (typ : Int) (host : ByteArray) (gen : Int) (apt : Bool) : Option Bool :=
 if host.size ≤ 9223372036854775807 ∧ ∀ x ∈ l, x.f0.size ≤ 9223372036854775807 then
  some (if (l.length : Int) > 16 then false else if okAll_ l then holdOk_ l typ host else false)
 else none
def Met_ (l : List S53) (i : Nat) (D : DataW Nat) : Prop := Go.Maps.IsMap D ∧ ∀ s : ByteArray, s.size ≤ 9223372036854775807 → D.atKey (.string s.data.toList) (.lit (.int .i64 0)) = .lit (.int .i64 (if s.data.toList ∈ hosts_ l i then 1 else 0))
theorem hosts_succ (l : List S53) (i : Nat) (hi : i < l.length) : hosts_ l (i + 1) = hosts_ l i ++ [(rd_T53 l i).f0.data.toList] := by
  unfold hosts_ rd_T53;rw [List.take_add_one, List.map_append, List.getD_eq_getElem?_getD, Int.toNat_natCast, List.getElem?_eq_getElem hi];rfl
theorem Met_.start (l : List S53) : Met_ l 0 (.map []) := ⟨Go.Maps.isMap_empty, fun s _ => by
  have : s.data.toList ∉ hosts_ l 0 := by unfold hosts_; simp
  rw [if_neg this]
  exact Go.Maps.atKey_of_not_has rfl _⟩
theorem Met_.put {l : List S53} {i : Nat} {D : DataW Nat} (h : Met_ l i D) (hi : i < l.length) (hn : (rd_T53 l i).f0.data.toList ∉ hosts_ l i) : Met_ l (i + 1) (D.put (.string (rd_T53 l i).f0.data.toList) (.lit (.int .i64 1))) := by
 refine ⟨h.1.put _ _, fun s hs => ?_⟩;rw [hosts_succ l i hi];by_cases he : s.data.toList = (rd_T53 l i).f0.data.toList
 ·rw [he, if_pos (by simp)];exact Go.Maps.atKey_put_same h.1 (by exact True.intro) _ _
 ·have e1 : (Lit.string s.data.toList) ≠ .string (rd_T53 l i).f0.data.toList := fun z => he (Lit.string.inj z)
  rw [Go.Maps.atKey_put_other e1, h.2 s hs]
  have : (s.data.toList ∈ hosts_ l i ++ [(rd_T53 l i).f0.data.toList]) ↔ s.data.toList ∈ hosts_ l i := by simp [he]
  simp only [this]
theorem good_step (i : Nat) (h : i ≤ 16) : wrap64 ((i : Int) + 1) = (i : Int) + 1 := by unfold wrap64; omega
theorem good_less (i n : Nat) (h : i ≤ 16) (hn : i < n) : n - (intOf (.int .i64 (wrap64 ((i : Int) + 1)))).toNat < n - (intOf (.int .i64 (i : Int))).toNat := by
  rw [good_step i h];simp [intOf];omega
theorem made_event {P : Program} {ops : Array Oper} {rest : List Oper} {o : Oper} {a : Act} {Q : Exit → Act → World → Prop} {W : World} {k e t : TypeId} (hgd : o.guard = none) {N : Tmp} (_hd : o.dst = some N) (ho : o.op = .makeMap t none)
  (h : ∀ g, g = W.heap.size → ∀ w1, World.ownsMap w1 P k (plainElem (H := Nat) P e) g 0 (.map []) → Below W.heap.size W w1 → wpList P ops Q rest (a.put o.dst (.map (some g))) w1) : wpList P ops Q (o :: rest) a W :=
 Kd.event_run (w1 := W.alloc (.map #[] 0)) (v := .map (some W.heap.size)) hgd (by simp [execOp, ho, run_makeMap]) (h _ rfl _ (World.ownsMap_made _ _ _ _) (below_alloc (Below.refl _ _) _))
theorem owns_below {P : Program} {k e b n : Nat} {D : DataW Nat} {w w1 : World} (h : w.ownsMap P k (plainElem (H := Nat) P e) b n D) (hb : Below w.heap.size w w1) : w1.ownsMap P k (plainElem (H := Nat) P e) b n D := by
  have hl := h.lt;obtain ⟨es, clock, h1, h2⟩ := h;exact ⟨es, clock, (hb.block b hl).trans h1, h2⟩
theorem owns_set {P : Program} {k e b n : Nat} {D : DataW Nat} {w : World} {p : Addr} {v : Value} (h : w.ownsMap P k (plainElem (H := Nat) P e) b n D) (hp : b ≠ p.block) : (w.setCell p v).ownsMap P k (plainElem (H := Nat) P e) b n D := by
  obtain ⟨es, clock, h1, h2⟩ := h;exact ⟨es, clock, (Below.heap_setCell w p v b hp).trans h1, h2⟩
theorem blk_put2 {w : World} {g t : Nat} {x y u v : Value} (h : w.heap[g]? = some (.cells #[x, y] t (0, 0))) : ((w.setCell ⟨g, 0, none⟩ u).setCell ⟨g, 1, none⟩ v).heap[g]? = some (.cells #[u, v] t (0, 0)) :=
  blk_put (blk_put h 0 u rfl) 1 v rfl
theorem resv_Good.calls (A0 : Option Addr) (c0 : Nat) (l : List S53) (typ : Int) (host : ByteArray) (gen : Int) (apt : Bool) (r : Bool) (w : World) (hr0 : Kd.C k53 w A0 l.length l) (hc0 : l.length ≤ c0) (h : resv_Good.f l typ host gen apt = some r) :
  Calls Tryd.prog 21 #[.agg #[.slice A0 l.length c0, .int .i64 typ, .string host, .int .u32 gen, .bool apt]] w fun e w' => e = .returned (.bool r) ∧ Below w.heap.size w w' := by
 have hu27 := Tryd.underlying27;have hu24 := Tryd.underlying24;have hu48 := Tryd.underlying53;have hu22 := Tryd.underlying22;have HC := aS_ hr0;have HC0 := aS_ hc0;clear hr0 hc0;have HB := aS_ (Below.refl w.heap.size w);have hmm := @run_makeMap Tryd.prog;unfold resv_Good.f at h;by_cases hsz : host.size ≤ 9223372036854775807 ∧ ∀ x ∈ l, x.f0.size ≤ 9223372036854775807
 case neg => rw [if_neg hsz] at h; exact absurd h (by simp)
 rw [if_pos hsz] at h;have hr' := Option.some.inj h;clear h;obtain ⟨hsh, hsl⟩ := hsz;have HSL := aS_ hsl;clear hsl;by_cases h16 : (l.length : Int) > 16
 ·rw [if_pos h16] at hr';subst hr';have d1 : decide (16 < (l.length : Int)) = true := decide_eq_true h16;have d2 : decide (16 < l.length) = true := decide_eq_true (by omega);clear h16;go_enter Tryd.func21, Tryd.ntmps21
  go_wp2_with (first
   | ((with_reducible refine gate_dst (N := 1) rfl ?_); refine bX_ (N := 1) (cs := #[.slice A0 l.length c0, .int .i64 typ, .string host, .int .u32 gen, .bool apt]) (t := 27) ?hr ?_; (case hr => first | (go_simp; done) | (go_simp; rfl)); intro gb hg w1 hbox hb; have n1_ := aS_ (below_step HB.out hb); clear HB; have HB := n1_; have BK := aS_ hbox; have hcz0 : w1.cell? ⟨gb, 0, none⟩ = some (.slice A0 l.length c0) := bC_ BK.out 0 rfl; have hcz1 : w1.cell? ⟨gb, 1, none⟩ = some (.int .i64 typ) := bC_ BK.out 1 rfl; have hcz2 : w1.cell? ⟨gb, 2, none⟩ = some (.string host) := bC_ BK.out 2 rfl; have hcz3 : w1.cell? ⟨gb, 3, none⟩ = some (.int .u32 gen) := bC_ BK.out 3 rfl; have hcz4 : w1.cell? ⟨gb, 4, none⟩ = some (.bool apt) := bC_ BK.out 4 rfl; clear n1_ hb hbox hg))
  go_ret;exact ⟨rfl, HB.out⟩
 rw [if_neg h16] at hr';have HR := aS_ hr';clear hr';have d1 : decide (16 < (l.length : Int)) = false := decide_eq_false h16;have d2 : decide (16 < l.length) = false := decide_eq_false (by omega);have HI16 := aS_ (show l.length ≤ 16 by omega);clear h16;go_enter Tryd.func21, Tryd.ntmps21
 go_wp2_with (first
  | ((with_reducible refine gate_dst (N := 1) rfl ?_); refine bX_ (N := 1) (cs := #[.slice A0 l.length c0, .int .i64 typ, .string host, .int .u32 gen, .bool apt]) (t := 27) ?hr ?_; (case hr => first | (go_simp; done) | (go_simp; rfl)); intro gb hg w1 hbox hb; have n1_ := aS_ (below_step HB.out hb); clear HB; have HB := n1_; have BK := aS_ hbox; have hcz0 : w1.cell? ⟨gb, 0, none⟩ = some (.slice A0 l.length c0) := bC_ BK.out 0 rfl; have hcz1 : w1.cell? ⟨gb, 1, none⟩ = some (.int .i64 typ) := bC_ BK.out 1 rfl; have hcz2 : w1.cell? ⟨gb, 2, none⟩ = some (.string host) := bC_ BK.out 2 rfl; have hcz3 : w1.cell? ⟨gb, 3, none⟩ = some (.int .u32 gen) := bC_ BK.out 3 rfl; have hcz4 : w1.cell? ⟨gb, 4, none⟩ = some (.bool apt) := bC_ BK.out 4 rfl; clear n1_ hb hbox hg)
  | ((with_reducible refine gate_dst (N := 10) rfl ?_); refine made_event (k := 9) (e := 3) rfl (N := 10) rfl rfl ?_; intro gm hg w2 hown hb; have NB := aS_ (show gb ≠ gm by rw [hg]; exact Nat.ne_of_lt (blk_lt BK.out)); have GM := aS_ (show w.heap.size ≤ gm by rw [hg]; exact below_size HB.out); have n1_ := aS_ (below_step HB.out hb); have n2_ := aS_ (blk_below BK.out hb); clear HB BK hcz0 hcz1 hcz2 hcz3 hcz4; have HB := n1_; have BK := n2_; have HM := aS_ hown; clear n1_ n2_ hown hb hg; have hcz0 : w2.cell? ⟨gb, 0, none⟩ = some (.slice A0 l.length c0) := bC_ BK.out 0 rfl; have hcz1 : w2.cell? ⟨gb, 1, none⟩ = some (.int .i64 typ) := bC_ BK.out 1 rfl; have hcz2 : w2.cell? ⟨gb, 2, none⟩ = some (.string host) := bC_ BK.out 2 rfl; have hcz3 : w2.cell? ⟨gb, 3, none⟩ = some (.int .u32 gen) := bC_ BK.out 3 rfl; have hcz4 : w2.cell? ⟨gb, 4, none⟩ = some (.bool apt) := bC_ BK.out 4 rfl))
 go_loopw [14] (fun iv wr => ∃ i : Nat, i ≤ l.length ∧ iv = .int .i64 i ∧ Aside0 (∀ j, j < i → okAt_ l j) ∧ Aside0 (wr.heap[gb]? = some (.cells #[.slice A0 l.length c0, .int .i64 typ, .string host, .int .u32 gen, .bool apt] 27 (0, 0))) ∧ Aside0 (∃ D, wr.ownsMap Tryd.prog 9 (plainElem (H := Nat) Tryd.prog 3) gm i D ∧ Met_ l i D) ∧ Aside0 (Below w.heap.size w wr)) (fun iv _ => l.length - (intOf iv).toNat)
 case atStart => exact ⟨0, by omega, rfl, ⟨fun j hj => absurd hj (by omega)⟩, BK, ⟨_, HM.out, Met_.start l⟩, HB⟩
 case round =>
  clear HB BK HM hcz0 hcz1 hcz2 hcz3 hcz4;obtain ⟨i, hi, rfl, OK, BK, HMD, HB⟩ := hrel;obtain ⟨D, hmD, hMet⟩ := HMD.out;have HM := aS_ hmD;have MET := aS_ hMet;clear HMD hmD hMet;by_cases hlt : i < l.length
  ·have HI := aS_ (show i ≤ 16 by have := HI16.out; omega);have HLT := aS_ hlt;have p0 : (0 : Int) ≤ (i : Int) := Int.natCast_nonneg i
   have q0 : (i : Int) < (l.length : Int) := by omega
   obtain ⟨ad, ea, hx0, hx1⟩ := at_T53 HC.out (i : Int) p0 q0;cases ea;replace hx0 := cB_ HB.out hx0;replace hx1 := cB_ HB.out hx1
   obtain ⟨s, hs⟩ : ∃ s, s = (rd_T53 l i).f0 := ⟨_, rfl⟩
   obtain ⟨ky, hky⟩ : ∃ ky, ky = (rd_T53 l i).f1 := ⟨_, rfl⟩
   rw [← hs] at hx0;rw [← hky] at hx1;simp only [Int.toNat_natCast] at hx0 hx1
   have hsz : s.size ≤ 9223372036854775807 := by
    rw [hs];unfold rd_T53;rw [List.getD_eq_getElem?_getD, Int.toNat_natCast, List.getElem?_eq_getElem hlt];exact HSL.out _ (List.getElem_mem hlt)
   have HKEY : Aside0 (keyOf Tryd.prog 9 (.string s) = some (.string s.data.toList)) := ⟨Go.WideMaps.keyOf_string_mk Tryd.underlying9 (by unfold maxLen; omega)⟩
   have hat0 := MET.out.2 s hsz;have d3 : decide ((i : Int) < (l.length : Int)) = true := decide_eq_true q0;by_cases hmem : s.data.toList ∈ hosts_ l i
   ·rw [if_pos hmem] at hat0;have HAT := aS_ hat0;have HPUT := aS_ (Go.Maps.atKey_put_same (H := Nat) (k := .string s.data.toList) MET.out.1 trivial (.lit (.int .i64 2)) (.lit (.int .i64 0)))
    have hr2 : r = false := by rw [← HR.out, if_neg]; intro z; exact (z i hlt).1 (by rw [← hs]; exact hmem)
    have HS := aS_ hs;have HKY := aS_ hky;subst hr2;clear hat0 hsz hs hky HR
    go_wp2_with (first
     | ((with_reducible refine gate_dst (N := 5) rfl ?_); refine bX_ (N := 5) (cs := #[.string (⟨#[]⟩ : ByteArray), .int .u64 0]) (t := 53) ?hr ?_; (case hr => first | (go_simp; done) | (go_simp; rfl)); intro gr hg w5 hbox hb; have NE := aS_ (show gb ≠ gr by rw [hg]; exact Nat.ne_of_lt (blk_lt BK.out)); have NM := aS_ (show gm ≠ gr by rw [hg]; exact Nat.ne_of_lt (HM.out.lt)); have GR := aS_ (show w.heap.size ≤ gr by rw [hg]; exact below_size HB.out); have n1_ := aS_ (below_step HB.out hb); have n2_ := aS_ (blk_below BK.out hb); have n3_ := aS_ (owns_below HM.out hb); have BR := aS_ hbox; clear HB BK HM; have HB := n1_; have BK := n2_; have HM := n3_; have hcr0 : w5.cell? ⟨gr, 0, none⟩ = some (.string (⟨#[]⟩ : ByteArray)) := bC_ hbox 0 rfl; have hcr1 : w5.cell? ⟨gr, 1, none⟩ = some (.int .u64 0) := bC_ hbox 1 rfl; have hfr0 := bF_ hbox; clear n1_ n2_ n3_ hb hbox hg)
     | (at_lookup; (with_reducible refine gate_dst (N := 21) rfl ?_); (refine good_world (fun w' => w'.heap[gr]? = some (.cells #[.string s, .int .u64 ky] 53 (0, 0)) ∧ w'.heap[gb]? = some (.cells #[.slice (some ad) l.length c0, .int .i64 typ, .string host, .int .u32 gen, .bool apt] 27 (0, 0)) ∧ w'.ownsMap Tryd.prog 9 (plainElem (H := Nat) Tryd.prog 3) gm i D ∧ Below w.heap.size w w') ⟨blk_put2 BR.out, (Below.heap_setCell _ ⟨gr, 1, none⟩ _ gb NE.out).trans ((Below.heap_setCell _ ⟨gr, 0, none⟩ _ gb NE.out).trans BK.out), owns_set (owns_set HM.out NM.out) NM.out, below_set (below_set HB.out GR.out) GR.out⟩ ?_; rintro w6 ⟨hr_, hk_, hm_, hb_⟩; clear HB BK HM BR hcr0 hcr1 hfr0; have HB := aS_ hb_; have BK := aS_ hk_; have HM := aS_ hm_; have BR := aS_ hr_; clear hr_ hk_ hm_ hb_; have hcr0 : w6.cell? ⟨gr, 0, none⟩ = some (.string s) := bC_ BR.out 0 rfl; have hcr1 : w6.cell? ⟨gr, 1, none⟩ = some (.int .u64 ky) := bC_ BR.out 1 rfl; refine wpList_lookup_own_int _ rfl _ _ 70 rfl 9 3 .i64 good_key Tryd.underlying70 Tryd.underlying3 (good_zero _) gm i D rfl HM.out _ _ rfl HKEY.out ?_; intro c hat hwc; have hce := Lit.int.inj (DataW.lit.inj (hat.symm.trans HAT.out)); obtain ⟨_, hce⟩ := hce; subst hce; clear hat hwc))
     | (at_mapUpdate; (refine wpList_mapUpdate_own _ rfl _ _ _ 70 rfl 9 3 good_key Tryd.underlying70 _ gm i D rfl HM.out (by unfold maxLen; have := HI.out; omega) _ _ _ rfl rfl HKEY.out _ [] (plainElem_int Tryd.underlying3 (by decide)) ?_; intro w7 hown1 hgrow1; have n1_ := aS_ (HB.out.grown hgrow1 (below_size HB.out) (fun k_ hk_ => by cases hk_; exact GM.out)); have n2_ := aS_ ((hgrow1.block gb (blk_lt BK.out) (fun z_ => NB.out (Option.some.inj z_))).trans BK.out); have n3_ := aS_ ((hgrow1.block gr (blk_lt BR.out) (fun z_ => NM.out (Option.some.inj z_).symm)).trans BR.out); clear HB BK HM BR hcr0 hcr1 HAT; have HB := n1_; have BK := n2_; have BR := n3_; have HM := aS_ hown1; have HAT := aS_ (HPUT.out); clear n1_ n2_ n3_ hown1 hgrow1; have hcr0 : w7.cell? ⟨gr, 0, none⟩ = some (.string s) := bC_ BR.out 0 rfl; have hcr1 : w7.cell? ⟨gr, 1, none⟩ = some (.int .u64 ky) := bC_ BR.out 1 rfl))
     | (at_lookup; (with_reducible refine gate_dst (N := 26) rfl ?_); (refine wpList_lookup_own_int _ rfl _ _ 70 rfl 9 3 .i64 good_key Tryd.underlying70 Tryd.underlying3 (good_zero _) gm (i + 1) _ rfl HM.out _ _ rfl HKEY.out ?_; intro c hat hwc; have hce := Lit.int.inj (DataW.lit.inj (hat.symm.trans HAT.out)); obtain ⟨_, hce⟩ := hce; subst hce; clear hat hwc)))
    go_ret;exact ⟨rfl, HB.out⟩
   ·rw [if_neg hmem] at hat0;have HAT := aS_ hat0;have HPUT := aS_ (Go.Maps.atKey_put_same (H := Nat) (k := .string s.data.toList) MET.out.1 trivial (.lit (.int .i64 1)) (.lit (.int .i64 0)));have hmp := MET.out.put hlt (by rw [← hs]; exact hmem);rw [← hs] at hmp;have MP := aS_ hmp;have HS := aS_ hs;have HKY := aS_ hky;have HMEM := aS_ hmem;clear hat0 hsz hs hky hmp hmem;by_cases hn : nameB s = true
    ·have HN : Aside0 (names_Name.f s = some true) := ⟨congrArg some hn⟩
     have HNB := aS_ hn;clear hn;by_cases hk : ky = 0
     ·have d5 : (ky == 0) = true := beq_iff_eq.mpr hk
      have hr2 : r = false := by
       rw [← HR.out, if_neg];intro z;exact (z i hlt).2.2 (by rw [← HKY.out]; exact hk)
      subst hr2;clear hk HR
      go_wp2_with (first
       | ((with_reducible refine gate_dst (N := 5) rfl ?_); refine bX_ (N := 5) (cs := #[.string (⟨#[]⟩ : ByteArray), .int .u64 0]) (t := 53) ?hr ?_; (case hr => first | (go_simp; done) | (go_simp; rfl)); intro gr hg w5 hbox hb; have NE := aS_ (show gb ≠ gr by rw [hg]; exact Nat.ne_of_lt (blk_lt BK.out)); have NM := aS_ (show gm ≠ gr by rw [hg]; exact Nat.ne_of_lt (HM.out.lt)); have GR := aS_ (show w.heap.size ≤ gr by rw [hg]; exact below_size HB.out); have n1_ := aS_ (below_step HB.out hb); have n2_ := aS_ (blk_below BK.out hb); have n3_ := aS_ (owns_below HM.out hb); have BR := aS_ hbox; clear HB BK HM; have HB := n1_; have BK := n2_; have HM := n3_; have hcr0 : w5.cell? ⟨gr, 0, none⟩ = some (.string (⟨#[]⟩ : ByteArray)) := bC_ hbox 0 rfl; have hcr1 : w5.cell? ⟨gr, 1, none⟩ = some (.int .u64 0) := bC_ hbox 1 rfl; have hfr0 := bF_ hbox; clear n1_ n2_ n3_ hb hbox hg)
       | (at_lookup; (with_reducible refine gate_dst (N := 21) rfl ?_); (refine good_world (fun w' => w'.heap[gr]? = some (.cells #[.string s, .int .u64 ky] 53 (0, 0)) ∧ w'.heap[gb]? = some (.cells #[.slice (some ad) l.length c0, .int .i64 typ, .string host, .int .u32 gen, .bool apt] 27 (0, 0)) ∧ w'.ownsMap Tryd.prog 9 (plainElem (H := Nat) Tryd.prog 3) gm i D ∧ Below w.heap.size w w') ⟨blk_put2 BR.out, (Below.heap_setCell _ ⟨gr, 1, none⟩ _ gb NE.out).trans ((Below.heap_setCell _ ⟨gr, 0, none⟩ _ gb NE.out).trans BK.out), owns_set (owns_set HM.out NM.out) NM.out, below_set (below_set HB.out GR.out) GR.out⟩ ?_; rintro w6 ⟨hr_, hk_, hm_, hb_⟩; clear HB BK HM BR hcr0 hcr1 hfr0; have HB := aS_ hb_; have BK := aS_ hk_; have HM := aS_ hm_; have BR := aS_ hr_; clear hr_ hk_ hm_ hb_; have hcr0 : w6.cell? ⟨gr, 0, none⟩ = some (.string s) := bC_ BR.out 0 rfl; have hcr1 : w6.cell? ⟨gr, 1, none⟩ = some (.int .u64 ky) := bC_ BR.out 1 rfl; refine wpList_lookup_own_int _ rfl _ _ 70 rfl 9 3 .i64 good_key Tryd.underlying70 Tryd.underlying3 (good_zero _) gm i D rfl HM.out _ _ rfl HKEY.out ?_; intro c hat hwc; have hce := Lit.int.inj (DataW.lit.inj (hat.symm.trans HAT.out)); obtain ⟨_, hce⟩ := hce; subst hce; clear hat hwc))
       | (at_mapUpdate; (refine wpList_mapUpdate_own _ rfl _ _ _ 70 rfl 9 3 good_key Tryd.underlying70 _ gm i D rfl HM.out (by unfold maxLen; have := HI.out; omega) _ _ _ rfl rfl HKEY.out _ [] (plainElem_int Tryd.underlying3 (by decide)) ?_; intro w7 hown1 hgrow1; have n1_ := aS_ (HB.out.grown hgrow1 (below_size HB.out) (fun k_ hk_ => by cases hk_; exact GM.out)); have n2_ := aS_ ((hgrow1.block gb (blk_lt BK.out) (fun z_ => NB.out (Option.some.inj z_))).trans BK.out); have n3_ := aS_ ((hgrow1.block gr (blk_lt BR.out) (fun z_ => NM.out (Option.some.inj z_).symm)).trans BR.out); clear HB BK HM BR hcr0 hcr1 HAT; have HB := n1_; have BK := n2_; have BR := n3_; have HM := aS_ hown1; have HAT := aS_ (HPUT.out); clear n1_ n2_ n3_ hown1 hgrow1; have hcr0 : w7.cell? ⟨gr, 0, none⟩ = some (.string s) := bC_ BR.out 0 rfl; have hcr1 : w7.cell? ⟨gr, 1, none⟩ = some (.int .u64 ky) := bC_ BR.out 1 rfl))
       | (at_lookup; (with_reducible refine gate_dst (N := 26) rfl ?_); (refine wpList_lookup_own_int _ rfl _ _ 70 rfl 9 3 .i64 good_key Tryd.underlying70 Tryd.underlying3 (good_zero _) gm (i + 1) _ rfl HM.out _ _ rfl HKEY.out ?_; intro c hat hwc; have hce := Lit.int.inj (DataW.lit.inj (hat.symm.trans HAT.out)); obtain ⟨_, hce⟩ := hce; subst hce; clear hat hwc))
       | (go_at_call 35; refine (names_Name.calls s true _ HN.out).mono ?_; rintro e w8 ⟨rfl, hb⟩; have n1_ := aS_ (below_step HB.out hb); have n2_ := aS_ (blk_below BK.out hb); have n3_ := aS_ (blk_below BR.out hb); have n4_ := aS_ (owns_below HM.out hb); clear HB BK BR HM hb hcr0 hcr1; have HB := n1_; have BK := n2_; have BR := n3_; have HM := n4_; clear n1_ n2_ n3_ n4_; have hcr0 : w8.cell? ⟨gr, 0, none⟩ = some (.string s) := bC_ BR.out 0 rfl; have hcr1 : w8.cell? ⟨gr, 1, none⟩ = some (.int .u64 ky) := bC_ BR.out 1 rfl))
      go_ret;exact ⟨rfl, HB.out⟩
     ·have d5 : (ky == 0) = false := beq_eq_false_iff_ne.mpr hk;have HK0 := aS_ hk;clear hk
      go_wp2_with (first
       | ((with_reducible refine gate_dst (N := 5) rfl ?_); refine bX_ (N := 5) (cs := #[.string (⟨#[]⟩ : ByteArray), .int .u64 0]) (t := 53) ?hr ?_; (case hr => first | (go_simp; done) | (go_simp; rfl)); intro gr hg w5 hbox hb; have NE := aS_ (show gb ≠ gr by rw [hg]; exact Nat.ne_of_lt (blk_lt BK.out)); have NM := aS_ (show gm ≠ gr by rw [hg]; exact Nat.ne_of_lt (HM.out.lt)); have GR := aS_ (show w.heap.size ≤ gr by rw [hg]; exact below_size HB.out); have n1_ := aS_ (below_step HB.out hb); have n2_ := aS_ (blk_below BK.out hb); have n3_ := aS_ (owns_below HM.out hb); have BR := aS_ hbox; clear HB BK HM; have HB := n1_; have BK := n2_; have HM := n3_; have hcr0 : w5.cell? ⟨gr, 0, none⟩ = some (.string (⟨#[]⟩ : ByteArray)) := bC_ hbox 0 rfl; have hcr1 : w5.cell? ⟨gr, 1, none⟩ = some (.int .u64 0) := bC_ hbox 1 rfl; have hfr0 := bF_ hbox; clear n1_ n2_ n3_ hb hbox hg)
       | (at_lookup; (with_reducible refine gate_dst (N := 21) rfl ?_); (refine good_world (fun w' => w'.heap[gr]? = some (.cells #[.string s, .int .u64 ky] 53 (0, 0)) ∧ w'.heap[gb]? = some (.cells #[.slice (some ad) l.length c0, .int .i64 typ, .string host, .int .u32 gen, .bool apt] 27 (0, 0)) ∧ w'.ownsMap Tryd.prog 9 (plainElem (H := Nat) Tryd.prog 3) gm i D ∧ Below w.heap.size w w') ⟨blk_put2 BR.out, (Below.heap_setCell _ ⟨gr, 1, none⟩ _ gb NE.out).trans ((Below.heap_setCell _ ⟨gr, 0, none⟩ _ gb NE.out).trans BK.out), owns_set (owns_set HM.out NM.out) NM.out, below_set (below_set HB.out GR.out) GR.out⟩ ?_; rintro w6 ⟨hr_, hk_, hm_, hb_⟩; clear HB BK HM BR hcr0 hcr1 hfr0; have HB := aS_ hb_; have BK := aS_ hk_; have HM := aS_ hm_; have BR := aS_ hr_; clear hr_ hk_ hm_ hb_; have hcr0 : w6.cell? ⟨gr, 0, none⟩ = some (.string s) := bC_ BR.out 0 rfl; have hcr1 : w6.cell? ⟨gr, 1, none⟩ = some (.int .u64 ky) := bC_ BR.out 1 rfl; refine wpList_lookup_own_int _ rfl _ _ 70 rfl 9 3 .i64 good_key Tryd.underlying70 Tryd.underlying3 (good_zero _) gm i D rfl HM.out _ _ rfl HKEY.out ?_; intro c hat hwc; have hce := Lit.int.inj (DataW.lit.inj (hat.symm.trans HAT.out)); obtain ⟨_, hce⟩ := hce; subst hce; clear hat hwc))
       | (at_mapUpdate; (refine wpList_mapUpdate_own _ rfl _ _ _ 70 rfl 9 3 good_key Tryd.underlying70 _ gm i D rfl HM.out (by unfold maxLen; have := HI.out; omega) _ _ _ rfl rfl HKEY.out _ [] (plainElem_int Tryd.underlying3 (by decide)) ?_; intro w7 hown1 hgrow1; have n1_ := aS_ (HB.out.grown hgrow1 (below_size HB.out) (fun k_ hk_ => by cases hk_; exact GM.out)); have n2_ := aS_ ((hgrow1.block gb (blk_lt BK.out) (fun z_ => NB.out (Option.some.inj z_))).trans BK.out); have n3_ := aS_ ((hgrow1.block gr (blk_lt BR.out) (fun z_ => NM.out (Option.some.inj z_).symm)).trans BR.out); clear HB BK HM BR hcr0 hcr1 HAT; have HB := n1_; have BK := n2_; have BR := n3_; have HM := aS_ hown1; have HAT := aS_ (HPUT.out); clear n1_ n2_ n3_ hown1 hgrow1; have hcr0 : w7.cell? ⟨gr, 0, none⟩ = some (.string s) := bC_ BR.out 0 rfl; have hcr1 : w7.cell? ⟨gr, 1, none⟩ = some (.int .u64 ky) := bC_ BR.out 1 rfl))
       | (at_lookup; (with_reducible refine gate_dst (N := 26) rfl ?_); (refine wpList_lookup_own_int _ rfl _ _ 70 rfl 9 3 .i64 good_key Tryd.underlying70 Tryd.underlying3 (good_zero _) gm (i + 1) _ rfl HM.out _ _ rfl HKEY.out ?_; intro c hat hwc; have hce := Lit.int.inj (DataW.lit.inj (hat.symm.trans HAT.out)); obtain ⟨_, hce⟩ := hce; subst hce; clear hat hwc))
       | (go_at_call 35; refine (names_Name.calls s true _ HN.out).mono ?_; rintro e w8 ⟨rfl, hb⟩; have n1_ := aS_ (below_step HB.out hb); have n2_ := aS_ (blk_below BK.out hb); have n3_ := aS_ (blk_below BR.out hb); have n4_ := aS_ (owns_below HM.out hb); clear HB BK BR HM hb hcr0 hcr1; have HB := n1_; have BK := n2_; have BR := n3_; have HM := n4_; clear n1_ n2_ n3_ n4_; have hcr0 : w8.cell? ⟨gr, 0, none⟩ = some (.string s) := bC_ BR.out 0 rfl; have hcr1 : w8.cell? ⟨gr, 1, none⟩ = some (.int .u64 ky) := bC_ BR.out 1 rfl))
      go_roundw
      case rel =>
       have h16_ := HI.out;have e_ := good_step i h16_;refine ⟨i + 1, by omega, by rw [e_, Int.natCast_add]; rfl, ⟨fun j hj => ?_⟩, BK, ⟨_, HM.out, MP.out⟩, HB⟩;by_cases hji : j = i
       ·subst hji;exact ⟨by rw [← HS.out]; exact HMEM.out, by rw [← HS.out]; exact HNB.out, by rw [← HKY.out]; exact HK0.out⟩
       ·exact OK.out j (by omega)
      case measure =>
       have h16_ := HI.out;have e_ := good_step i h16_;exact good_less i l.length h16_ hlt
    ·have HN : Aside0 (names_Name.f s = some false) := ⟨congrArg some (Bool.eq_false_iff.mpr hn)⟩
     have hr2 : r = false := by
      rw [← HR.out, if_neg];intro z;exact hn (by rw [HS.out]; exact (z i hlt).2.1)
     subst hr2;clear hn HR
     go_wp2_with (first
      | ((with_reducible refine gate_dst (N := 5) rfl ?_); refine bX_ (N := 5) (cs := #[.string (⟨#[]⟩ : ByteArray), .int .u64 0]) (t := 53) ?hr ?_; (case hr => first | (go_simp; done) | (go_simp; rfl)); intro gr hg w5 hbox hb; have NE := aS_ (show gb ≠ gr by rw [hg]; exact Nat.ne_of_lt (blk_lt BK.out)); have NM := aS_ (show gm ≠ gr by rw [hg]; exact Nat.ne_of_lt (HM.out.lt)); have GR := aS_ (show w.heap.size ≤ gr by rw [hg]; exact below_size HB.out); have n1_ := aS_ (below_step HB.out hb); have n2_ := aS_ (blk_below BK.out hb); have n3_ := aS_ (owns_below HM.out hb); have BR := aS_ hbox; clear HB BK HM; have HB := n1_; have BK := n2_; have HM := n3_; have hcr0 : w5.cell? ⟨gr, 0, none⟩ = some (.string (⟨#[]⟩ : ByteArray)) := bC_ hbox 0 rfl; have hcr1 : w5.cell? ⟨gr, 1, none⟩ = some (.int .u64 0) := bC_ hbox 1 rfl; have hfr0 := bF_ hbox; clear n1_ n2_ n3_ hb hbox hg)
      | (at_lookup; (with_reducible refine gate_dst (N := 21) rfl ?_); (refine good_world (fun w' => w'.heap[gr]? = some (.cells #[.string s, .int .u64 ky] 53 (0, 0)) ∧ w'.heap[gb]? = some (.cells #[.slice (some ad) l.length c0, .int .i64 typ, .string host, .int .u32 gen, .bool apt] 27 (0, 0)) ∧ w'.ownsMap Tryd.prog 9 (plainElem (H := Nat) Tryd.prog 3) gm i D ∧ Below w.heap.size w w') ⟨blk_put2 BR.out, (Below.heap_setCell _ ⟨gr, 1, none⟩ _ gb NE.out).trans ((Below.heap_setCell _ ⟨gr, 0, none⟩ _ gb NE.out).trans BK.out), owns_set (owns_set HM.out NM.out) NM.out, below_set (below_set HB.out GR.out) GR.out⟩ ?_; rintro w6 ⟨hr_, hk_, hm_, hb_⟩; clear HB BK HM BR hcr0 hcr1 hfr0; have HB := aS_ hb_; have BK := aS_ hk_; have HM := aS_ hm_; have BR := aS_ hr_; clear hr_ hk_ hm_ hb_; have hcr0 : w6.cell? ⟨gr, 0, none⟩ = some (.string s) := bC_ BR.out 0 rfl; have hcr1 : w6.cell? ⟨gr, 1, none⟩ = some (.int .u64 ky) := bC_ BR.out 1 rfl; refine wpList_lookup_own_int _ rfl _ _ 70 rfl 9 3 .i64 good_key Tryd.underlying70 Tryd.underlying3 (good_zero _) gm i D rfl HM.out _ _ rfl HKEY.out ?_; intro c hat hwc; have hce := Lit.int.inj (DataW.lit.inj (hat.symm.trans HAT.out)); obtain ⟨_, hce⟩ := hce; subst hce; clear hat hwc))
      | (at_mapUpdate; (refine wpList_mapUpdate_own _ rfl _ _ _ 70 rfl 9 3 good_key Tryd.underlying70 _ gm i D rfl HM.out (by unfold maxLen; have := HI.out; omega) _ _ _ rfl rfl HKEY.out _ [] (plainElem_int Tryd.underlying3 (by decide)) ?_; intro w7 hown1 hgrow1; have n1_ := aS_ (HB.out.grown hgrow1 (below_size HB.out) (fun k_ hk_ => by cases hk_; exact GM.out)); have n2_ := aS_ ((hgrow1.block gb (blk_lt BK.out) (fun z_ => NB.out (Option.some.inj z_))).trans BK.out); have n3_ := aS_ ((hgrow1.block gr (blk_lt BR.out) (fun z_ => NM.out (Option.some.inj z_).symm)).trans BR.out); clear HB BK HM BR hcr0 hcr1 HAT; have HB := n1_; have BK := n2_; have BR := n3_; have HM := aS_ hown1; have HAT := aS_ (HPUT.out); clear n1_ n2_ n3_ hown1 hgrow1; have hcr0 : w7.cell? ⟨gr, 0, none⟩ = some (.string s) := bC_ BR.out 0 rfl; have hcr1 : w7.cell? ⟨gr, 1, none⟩ = some (.int .u64 ky) := bC_ BR.out 1 rfl))
      | (at_lookup; (with_reducible refine gate_dst (N := 26) rfl ?_); (refine wpList_lookup_own_int _ rfl _ _ 70 rfl 9 3 .i64 good_key Tryd.underlying70 Tryd.underlying3 (good_zero _) gm (i + 1) _ rfl HM.out _ _ rfl HKEY.out ?_; intro c hat hwc; have hce := Lit.int.inj (DataW.lit.inj (hat.symm.trans HAT.out)); obtain ⟨_, hce⟩ := hce; subst hce; clear hat hwc))
      | (go_at_call 35; refine (names_Name.calls s false _ HN.out).mono ?_; rintro e w8 ⟨rfl, hb⟩; have n1_ := aS_ (below_step HB.out hb); have n2_ := aS_ (blk_below BK.out hb); have n3_ := aS_ (blk_below BR.out hb); have n4_ := aS_ (owns_below HM.out hb); clear HB BK BR HM hb hcr0 hcr1; have HB := n1_; have BK := n2_; have BR := n3_; have HM := n4_; clear n1_ n2_ n3_ n4_; have hcr0 : w8.cell? ⟨gr, 0, none⟩ = some (.string s) := bC_ BR.out 0 rfl; have hcr1 : w8.cell? ⟨gr, 1, none⟩ = some (.int .u64 ky) := bC_ BR.out 1 rfl))
     go_ret;exact ⟨rfl, HB.out⟩
  ·have hil : i = l.length := by omega
   subst hil;have d3 : decide ((l.length : Int) < (l.length : Int)) = false := decide_eq_false (by omega);have hr2 := HR.out;rw [if_pos (show okAll_ l from fun j hj => OK.out j hj)] at hr2;clear HR;have hcz0 : wr.cell? ⟨gb, 0, none⟩ = some (.slice A0 l.length c0) := bC_ BK.out 0 rfl;have hcz1 : wr.cell? ⟨gb, 1, none⟩ = some (.int .i64 typ) := bC_ BK.out 1 rfl;have hcz2 : wr.cell? ⟨gb, 2, none⟩ = some (.string host) := bC_ BK.out 2 rfl;have hcz3 : wr.cell? ⟨gb, 3, none⟩ = some (.int .u32 gen) := bC_ BK.out 3 rfl;have hcz4 : wr.cell? ⟨gb, 4, none⟩ = some (.bool apt) := bC_ BK.out 4 rfl;unfold holdOk_ at hr2;by_cases t0 : typ = 0
   ·rw [if_pos t0] at hr2;have d4 : (typ == 0) = true := beq_iff_eq.mpr t0;clear t0;cases hb : (host.toList == ([] : List UInt8))
    all_goals
     rw [hb] at hr2;subst hr2;go_wp2;go_ret;exact ⟨rfl, HB.out⟩
   ·rw [if_neg t0] at hr2;have d4 : (typ == 0) = false := beq_eq_false_iff_ne.mpr t0;by_cases t1 : typ < 1 ∨ 6 < typ
    ·rw [if_pos t1] at hr2;subst hr2
     have HT : Aside0 (access_Type.f typ = some false) := ⟨by
      unfold access_Type.f;by_cases h1 : typ ≥ 1
      ·rw [if_pos h1, decide_eq_false (by omega)]
      ·rw [if_neg h1]⟩
     clear t0 t1
     go_wp2_with (first
      | (go_at_call 45; refine (access_Type.calls typ false _ HT.out).mono ?_; rintro e w9 ⟨rfl, hd⟩; have hb := hd.below; have n1_ := aS_ (below_step HB.out hb); have n2_ := aS_ (blk_below BK.out hb); have n4_ := aS_ (owns_below HM.out hb); clear HB BK HM hd hb hcz0 hcz1 hcz2 hcz3 hcz4; have HB := n1_; have BK := n2_; have HM := n4_; clear n1_ n2_ n4_; have hcz0 : w9.cell? ⟨gb, 0, none⟩ = some (.slice A0 l.length c0) := bC_ BK.out 0 rfl; have hcz1 : w9.cell? ⟨gb, 1, none⟩ = some (.int .i64 typ) := bC_ BK.out 1 rfl; have hcz2 : w9.cell? ⟨gb, 2, none⟩ = some (.string host) := bC_ BK.out 2 rfl; have hcz3 : w9.cell? ⟨gb, 3, none⟩ = some (.int .u32 gen) := bC_ BK.out 3 rfl; have hcz4 : w9.cell? ⟨gb, 4, none⟩ = some (.bool apt) := bC_ BK.out 4 rfl))
     go_ret;exact ⟨rfl, HB.out⟩
    ·rw [if_neg t1] at hr2
     have HT : Aside0 (access_Type.f typ = some true) := ⟨by
      unfold access_Type.f
      rw [if_pos (by omega), decide_eq_true (by omega)]⟩
     clear t1 t0;by_cases t5 : typ = 5 ∨ typ = 6
     ·rw [if_pos t5] at hr2
      have HE : Aside0 (resv_everybody.f typ = some true) := ⟨by
       unfold resv_everybody.f;by_cases h5 : typ = 5
       ·rw [if_pos h5]
       ·rw [if_neg h5, beq_iff_eq.mpr (show typ = 6 by omega)]⟩
      clear t5;cases hb : (host.toList == ([] : List UInt8))
      ·rw [hb] at hr2;subst hr2
       go_wp2_with (first
        | (go_at_call 45; refine (access_Type.calls typ true _ HT.out).mono ?_; rintro e w9 ⟨rfl, hd⟩; have hb := hd.below; have n1_ := aS_ (below_step HB.out hb); have n2_ := aS_ (blk_below BK.out hb); have n4_ := aS_ (owns_below HM.out hb); clear HB BK HM hd hb hcz0 hcz1 hcz2 hcz3 hcz4; have HB := n1_; have BK := n2_; have HM := n4_; clear n1_ n2_ n4_; have hcz0 : w9.cell? ⟨gb, 0, none⟩ = some (.slice A0 l.length c0) := bC_ BK.out 0 rfl; have hcz1 : w9.cell? ⟨gb, 1, none⟩ = some (.int .i64 typ) := bC_ BK.out 1 rfl; have hcz2 : w9.cell? ⟨gb, 2, none⟩ = some (.string host) := bC_ BK.out 2 rfl; have hcz3 : w9.cell? ⟨gb, 3, none⟩ = some (.int .u32 gen) := bC_ BK.out 3 rfl; have hcz4 : w9.cell? ⟨gb, 4, none⟩ = some (.bool apt) := bC_ BK.out 4 rfl)
        | (go_at_call 46; refine (resv_everybody.calls typ true _ HE.out).mono ?_; rintro e w9 ⟨rfl, hd⟩; have hb := hd.below; have n1_ := aS_ (below_step HB.out hb); have n2_ := aS_ (blk_below BK.out hb); have n4_ := aS_ (owns_below HM.out hb); clear HB BK HM hd hb hcz0 hcz1 hcz2 hcz3 hcz4; have HB := n1_; have BK := n2_; have HM := n4_; clear n1_ n2_ n4_; have hcz0 : w9.cell? ⟨gb, 0, none⟩ = some (.slice A0 l.length c0) := bC_ BK.out 0 rfl; have hcz1 : w9.cell? ⟨gb, 1, none⟩ = some (.int .i64 typ) := bC_ BK.out 1 rfl; have hcz2 : w9.cell? ⟨gb, 2, none⟩ = some (.string host) := bC_ BK.out 2 rfl; have hcz3 : w9.cell? ⟨gb, 3, none⟩ = some (.int .u32 gen) := bC_ BK.out 3 rfl; have hcz4 : w9.cell? ⟨gb, 4, none⟩ = some (.bool apt) := bC_ BK.out 4 rfl))
       go_ret;exact ⟨rfl, HB.out⟩
      ·rw [hb] at hr2
       have e1 : decide ((0 : Int) < (l.length : Int)) = decide (0 < l.length) := by rw [decide_eq_decide]; omega
       subst hr2
       go_wp2_with (first
        | (go_at_call 45; refine (access_Type.calls typ true _ HT.out).mono ?_; rintro e w9 ⟨rfl, hd⟩; have hb := hd.below; have n1_ := aS_ (below_step HB.out hb); have n2_ := aS_ (blk_below BK.out hb); have n4_ := aS_ (owns_below HM.out hb); clear HB BK HM hd hb hcz0 hcz1 hcz2 hcz3 hcz4; have HB := n1_; have BK := n2_; have HM := n4_; clear n1_ n2_ n4_; have hcz0 : w9.cell? ⟨gb, 0, none⟩ = some (.slice A0 l.length c0) := bC_ BK.out 0 rfl; have hcz1 : w9.cell? ⟨gb, 1, none⟩ = some (.int .i64 typ) := bC_ BK.out 1 rfl; have hcz2 : w9.cell? ⟨gb, 2, none⟩ = some (.string host) := bC_ BK.out 2 rfl; have hcz3 : w9.cell? ⟨gb, 3, none⟩ = some (.int .u32 gen) := bC_ BK.out 3 rfl; have hcz4 : w9.cell? ⟨gb, 4, none⟩ = some (.bool apt) := bC_ BK.out 4 rfl)
        | (go_at_call 46; refine (resv_everybody.calls typ true _ HE.out).mono ?_; rintro e w9 ⟨rfl, hd⟩; have hb := hd.below; have n1_ := aS_ (below_step HB.out hb); have n2_ := aS_ (blk_below BK.out hb); have n4_ := aS_ (owns_below HM.out hb); clear HB BK HM hd hb hcz0 hcz1 hcz2 hcz3 hcz4; have HB := n1_; have BK := n2_; have HM := n4_; clear n1_ n2_ n4_; have hcz0 : w9.cell? ⟨gb, 0, none⟩ = some (.slice A0 l.length c0) := bC_ BK.out 0 rfl; have hcz1 : w9.cell? ⟨gb, 1, none⟩ = some (.int .i64 typ) := bC_ BK.out 1 rfl; have hcz2 : w9.cell? ⟨gb, 2, none⟩ = some (.string host) := bC_ BK.out 2 rfl; have hcz3 : w9.cell? ⟨gb, 3, none⟩ = some (.int .u32 gen) := bC_ BK.out 3 rfl; have hcz4 : w9.cell? ⟨gb, 4, none⟩ = some (.bool apt) := bC_ BK.out 4 rfl))
       go_ret;exact ⟨rfl, HB.out⟩
     ·rw [if_neg t5] at hr2
      have HE : Aside0 (resv_everybody.f typ = some false) := ⟨by
       unfold resv_everybody.f
       rw [if_neg (by omega), beq_eq_false_iff_ne.mpr (show typ ≠ 6 by omega)]⟩
      have HKH : Aside0 (keyOf Tryd.prog 9 (.string host) = some (.string host.data.toList)) := ⟨Go.WideMaps.keyOf_string_mk Tryd.underlying9 (by unfold maxLen; omega)⟩
      have hah := MET.out.2 host hsh;clear t5;by_cases hmem : host.data.toList ∈ hosts_ l l.length
      ·rw [if_pos hmem] at hah;have HAH := aS_ hah;rw [decide_eq_true hmem] at hr2;subst hr2;clear hmem hah
       go_wp2_with (first
        | (go_at_call 45; refine (access_Type.calls typ true _ HT.out).mono ?_; rintro e w9 ⟨rfl, hd⟩; have hb := hd.below; have n1_ := aS_ (below_step HB.out hb); have n2_ := aS_ (blk_below BK.out hb); have n4_ := aS_ (owns_below HM.out hb); clear HB BK HM hd hb hcz0 hcz1 hcz2 hcz3 hcz4; have HB := n1_; have BK := n2_; have HM := n4_; clear n1_ n2_ n4_; have hcz0 : w9.cell? ⟨gb, 0, none⟩ = some (.slice A0 l.length c0) := bC_ BK.out 0 rfl; have hcz1 : w9.cell? ⟨gb, 1, none⟩ = some (.int .i64 typ) := bC_ BK.out 1 rfl; have hcz2 : w9.cell? ⟨gb, 2, none⟩ = some (.string host) := bC_ BK.out 2 rfl; have hcz3 : w9.cell? ⟨gb, 3, none⟩ = some (.int .u32 gen) := bC_ BK.out 3 rfl; have hcz4 : w9.cell? ⟨gb, 4, none⟩ = some (.bool apt) := bC_ BK.out 4 rfl)
        | (go_at_call 46; refine (resv_everybody.calls typ false _ HE.out).mono ?_; rintro e w9 ⟨rfl, hd⟩; have hb := hd.below; have n1_ := aS_ (below_step HB.out hb); have n2_ := aS_ (blk_below BK.out hb); have n4_ := aS_ (owns_below HM.out hb); clear HB BK HM hd hb hcz0 hcz1 hcz2 hcz3 hcz4; have HB := n1_; have BK := n2_; have HM := n4_; clear n1_ n2_ n4_; have hcz0 : w9.cell? ⟨gb, 0, none⟩ = some (.slice A0 l.length c0) := bC_ BK.out 0 rfl; have hcz1 : w9.cell? ⟨gb, 1, none⟩ = some (.int .i64 typ) := bC_ BK.out 1 rfl; have hcz2 : w9.cell? ⟨gb, 2, none⟩ = some (.string host) := bC_ BK.out 2 rfl; have hcz3 : w9.cell? ⟨gb, 3, none⟩ = some (.int .u32 gen) := bC_ BK.out 3 rfl; have hcz4 : w9.cell? ⟨gb, 4, none⟩ = some (.bool apt) := bC_ BK.out 4 rfl)
        | (at_lookup; refine wpList_lookup_own_int _ rfl _ _ 70 rfl 9 3 .i64 good_key Tryd.underlying70 Tryd.underlying3 (good_zero _) gm _ D rfl HM.out _ _ rfl HKH.out ?_; intro c hat hwc; have hce := Lit.int.inj (DataW.lit.inj (hat.symm.trans HAH.out)); obtain ⟨_, hce⟩ := hce; subst hce; clear hat hwc))
       go_ret;exact ⟨rfl, HB.out⟩
      ·rw [if_neg hmem] at hah;have HAH := aS_ hah;rw [decide_eq_false hmem] at hr2;subst hr2;clear hmem hah
       go_wp2_with (first
        | (go_at_call 45; refine (access_Type.calls typ true _ HT.out).mono ?_; rintro e w9 ⟨rfl, hd⟩; have hb := hd.below; have n1_ := aS_ (below_step HB.out hb); have n2_ := aS_ (blk_below BK.out hb); have n4_ := aS_ (owns_below HM.out hb); clear HB BK HM hd hb hcz0 hcz1 hcz2 hcz3 hcz4; have HB := n1_; have BK := n2_; have HM := n4_; clear n1_ n2_ n4_; have hcz0 : w9.cell? ⟨gb, 0, none⟩ = some (.slice A0 l.length c0) := bC_ BK.out 0 rfl; have hcz1 : w9.cell? ⟨gb, 1, none⟩ = some (.int .i64 typ) := bC_ BK.out 1 rfl; have hcz2 : w9.cell? ⟨gb, 2, none⟩ = some (.string host) := bC_ BK.out 2 rfl; have hcz3 : w9.cell? ⟨gb, 3, none⟩ = some (.int .u32 gen) := bC_ BK.out 3 rfl; have hcz4 : w9.cell? ⟨gb, 4, none⟩ = some (.bool apt) := bC_ BK.out 4 rfl)
        | (go_at_call 46; refine (resv_everybody.calls typ false _ HE.out).mono ?_; rintro e w9 ⟨rfl, hd⟩; have hb := hd.below; have n1_ := aS_ (below_step HB.out hb); have n2_ := aS_ (blk_below BK.out hb); have n4_ := aS_ (owns_below HM.out hb); clear HB BK HM hd hb hcz0 hcz1 hcz2 hcz3 hcz4; have HB := n1_; have BK := n2_; have HM := n4_; clear n1_ n2_ n4_; have hcz0 : w9.cell? ⟨gb, 0, none⟩ = some (.slice A0 l.length c0) := bC_ BK.out 0 rfl; have hcz1 : w9.cell? ⟨gb, 1, none⟩ = some (.int .i64 typ) := bC_ BK.out 1 rfl; have hcz2 : w9.cell? ⟨gb, 2, none⟩ = some (.string host) := bC_ BK.out 2 rfl; have hcz3 : w9.cell? ⟨gb, 3, none⟩ = some (.int .u32 gen) := bC_ BK.out 3 rfl; have hcz4 : w9.cell? ⟨gb, 4, none⟩ = some (.bool apt) := bC_ BK.out 4 rfl)
        | (at_lookup; refine wpList_lookup_own_int _ rfl _ _ 70 rfl 9 3 .i64 good_key Tryd.underlying70 Tryd.underlying3 (good_zero _) gm _ D rfl HM.out _ _ rfl HKH.out ?_; intro c hat hwc; have hce := Lit.int.inj (DataW.lit.inj (hat.symm.trans HAH.out)); obtain ⟨_, hce⟩ := hce; subst hce; clear hat hwc))
       go_ret;exact ⟨rfl, HB.out⟩
theorem clone_calls (A : Option Addr) (c0 : Nat) (l : List S53) (w : World) (hr0 : Kd.C k53 w A l.length l) (hn : l.length ≤ 1000) :
  Calls Tryd.prog 36 #[.slice A l.length c0] w fun e w' => ∃ v, e = .returned v ∧ Kd.R k53 53 w' w.heap.size (fun _ => True) v l ∧ Below w.heap.size w w' := by
 have HC := aS_ hr0;have HN := aS_ hn
 cases A with
 | none =>
  have h0 : l.length = 0 := by
   rcases Nat.eq_zero_or_pos l.length with h0 | h0
   ·exact h0
   ·obtain ⟨ad, h, _⟩ := hr0.2.2 h0;cases h
  have hl : l = [] := List.eq_nil_of_length_eq_zero h0;subst hl;clear hr0 hn h0
  have heq : ∀ w, (binOp .eql 22 (.slice none ([] : List S53).length c0) (.slice none 0 0)).run Tryd.prog w = .ok (.bool true) w := fun w => Go.Lib.run_eql_slice_nil w _ _ _ _ _ _ _ Tryd.underlying22
  simp only [List.length_nil] at heq;go_enter Tryd.func36, Tryd.ntmps36;go_wp2;go_ret;exact ⟨_, rfl, Kd.R_nil _ _ _ _ _, Below.refl _ _⟩
 | some a =>
  have heq : ∀ w, (binOp .eql 22 (.slice (some a) l.length c0) (.slice none 0 0)).run Tryd.prog w = .ok (.bool false) w := fun w => Go.Lib.run_eql_slice_nil w _ _ _ _ _ _ _ Tryd.underlying22
  clear hr0 hn;go_enter Tryd.func36, Tryd.ntmps36
  go_wp2_with (first
   | ((with_reducible refine gate_dst (N := 5) rfl ?_); refine Kd.R_lit k53 (w0 := w) w.heap.size 53 ?hg (N := 5) ?hd (xs := []) (inner := []) (ok := fun _ => True) (okp := fun _ => True) ?hr ?hrep (fun _ h => h) trivial (Below.refl _ _) (Nat.le_refl _) (Nat.zero_le _) ?_; (case hd => rfl); (case hg => rfl); (case hr => first | (go_simp; done) | (go_simp; rfl)); (case hrep => exact Reps.none _ _); intro v1 w1 ho hb hg_ hat; have HO := aS_ ho; have HB := aS_ hb; clear ho hb hg_ hat)
   | ((with_reducible refine gate_builtin (b := .append) (xs := #[.tmp 5, .tmp 6]) rfl ?_); at_builtin; refine Kd.R_append_rows k53 (w0 := w) w.heap.size rfl (.tmp 5) (.tmp 6) 22 53 (.agg #[(.string ⟨#[]⟩), (.int .u64 0)]) 24 rfl Tryd.underlying22 info53 rfl (by decide) (by omega) v1 [] l _ _ _ (fun _ => True) (fun _ => False) rfl rfl ?aO ?aR (fun _ _ h => h) (fun _ h => h.elim) ?aF ?aB ?aS ?aL ?_; (case aR => exact Kd.C_below HC.out HB.out); (case aB => exact HB.out); (case aF => exact (fun _ _ => trivial)); (case aO => exact HO.out); (case aS => exact below_size HB.out); (case aL => have := HN.out; simp only [List.length_nil]; omega); intro v2 w2 ho hb hg_ hat; have n1_ := aS_ ho; have n2_ := aS_ hb; clear HO HB ho hb hg_ hat; have HO := n1_; have HB := n2_; clear n1_ n2_))
  go_ret;exact ⟨_, rfl, HO.out, HB.out⟩
def headgatekeep_CopyTable.f (l0_0 : List (S53)) (a0_1 : Int) (a0_2 : ByteArray) (a0_3 : Int) (a0_4 : Bool) : Option ((List (S53)) × Int × ByteArray × Int × Bool) := (some (([] : List (S53)) : List (S53))).bind fun y113 => (if y113.length + l0_0.length < 5864062014805 then (some ((y113 ++ l0_0), a0_1, a0_2, a0_3, a0_4)) else (none))
theorem headgatekeep_CopyTable.calls (qk : Option Addr) (ql : Nat) (qd : List (S53)) (qf : Int) (qg : ByteArray) (qh : Int) (qi : Bool) (r1 : List (S53)) (r2 : Int) (r3 : ByteArray) (r4 : Int) (r5 : Bool) (w : World) (hr0_0 : Kd.C k53 w qk qd.length qd) (qr : qd.length ≤ ql) (h : headgatekeep_CopyTable.f qd qf qg qh qi = some (r1, r2, r3, r4, r5)) :
  Calls Tryd.prog 14 #[.agg #[.slice qk qd.length ql, .int .i64 qf, .string qg, .int .u32 qh, .bool qi]] w fun e w' => ∃ v0_ : Value, e = .returned (.agg #[v0_, .int .i64 r2, .string r3, .int .u32 r4, .bool r5]) ∧ Kd.R k53 53 w' w.heap.size (fun _ => True) v0_ r1 ∧ Below w.heap.size w w' := by
 have hu27 := Tryd.underlying27;have qt := aS_ hr0_0;have HC0_0 := aS_ qr;clear hr0_0 qr;have HB := aS_ (Below.refl w.heap.size w);have H : ((some (([] : List (S53)) : List (S53))).bind fun y113 => (if y113.length + qd.length < 5864062014805 then (some ((y113 ++ qd), qf, qg, qh, qi)) else (none))) = some (r1, r2, r3, r4, r5) := h;clear h
 obtain ⟨y113, hy113⟩ : ∃ y_ : List (S53), y_ = (([] : List (S53))) := ⟨_, rfl⟩
 replace H : (if y113.length + qd.length < 5864062014805 then (some ((y113 ++ qd), qf, qg, qh, qi)) else (none)) = some (r1, r2, r3, r4, r5) := by first | (rw [hy113]; with_reducible exact H) | (have H2_ := (Option.bind_some _ _).symm.trans H; rw [hy113]; with_reducible exact H2_) | (have H2_ := (Option.bind_some _ _).symm.trans H; with_reducible exact H2_) | with_reducible exact H | (rw [hy113]; exact H) | exact H
 have Ny113 := aS_ hy113;clear hy113;refine neg_first (p := (y113.length + qd.length < 5864062014805)) (fun c2 => ?_) (fun c2 => ?_)
 ·rw [if_neg c2] at H;exact absurd H (by simp)
 rw [if_pos c2] at H;have LMc2 := aS_ c2;clear c2
 obtain ⟨y116, hy116⟩ : ∃ y_ : List (S53), y_ = (y113 ++ qd) := ⟨_, rfl⟩
 replace H : (some (y116, qf, qg, qh, qi)) = some (r1, r2, r3, r4, r5) := by first | (rw [hy116]; with_reducible exact H) | (have H2_ := (Option.bind_some _ _).symm.trans H; rw [hy116]; with_reducible exact H2_) | (have H2_ := (Option.bind_some _ _).symm.trans H; with_reducible exact H2_) | with_reducible exact H | (rw [hy116]; exact H) | exact H
 have Ny116 := aS_ hy116;clear hy116;simp only [Option.some.injEq, Prod.mk.injEq] at H;obtain ⟨rfl, rfl, rfl, rfl, rfl⟩ := H;go_enter Tryd.func14, Tryd.ntmps14
 go_wp2_with (first | ((with_reducible refine gate_dst (N := 1) rfl ?_); refine bX_ (N := 1) (cs := #[.slice qk qd.length ql, .int .i64 qf, .string qg, .int .u32 qh, .bool qi]) (t := 27) ?hr ?_; (case hr => first | (go_simp; done) | (go_simp; rfl)); intro qb hg w3 hbox hb; have n0_ := aS_ (below_step (hb_ HB) hb); have n1_ := aS_ (hbox); have n2_ := aS_ ((by rw [hg]; exact (below_size (hb_ HB)) : w.heap.size ≤ qb)); have n3_ := aS_ ((by rw [hg]; exact (below_size (hb_ HB)) : w.heap.size ≤ qb)); clear HB; have HB := n0_; have qa := n1_; have GW111 := n2_; have qu := n3_; clear n0_ n1_ n2_ n3_; clear hb hbox hg) | ((with_reducible refine gate_dst (N := 2) rfl ?_); refine bX_ (N := 2) (cs := #[.slice none 0 0, .int .i64 0, .string (⟨#[]⟩ : ByteArray), .int .u32 0, .bool false]) (t := 27) ?hr ?_; (case hr => first | (go_simp; done) | (go_simp; rfl)); intro qe hg w4 hbox hb; have n0_ := aS_ (blk_below (bk_ qa) hb); have n1_ := aS_ (below_step (hb_ HB) hb); have n2_ := aS_ (hbox); have n3_ := aS_ ((by rw [hg]; exact (below_size (hb_ HB)) : w.heap.size ≤ qe)); have n4_ := aS_ ((by rw [hg]; exact (below_size (hb_ HB)) : w.heap.size ≤ qe)); have n5_ := aS_ ((by rw [hg]; exact Nat.ne_of_lt (blk_lt (g := qb) (o := .cells #[.slice qk qd.length ql, .int .i64 qf, .string qg, .int .u32 qh, .bool qi] 27 (0, 0)) (bk_ qa)) : qb ≠ qe)); have n6_ := aS_ ((by rw [hg]; exact Nat.ne_of_gt (blk_lt (g := qb) (o := .cells #[.slice qk qd.length ql, .int .i64 qf, .string qg, .int .u32 qh, .bool qi] 27 (0, 0)) (bk_ qa)) : qe ≠ qb)); clear qa; clear HB; have qa := n0_; have HB := n1_; have qc := n2_; have GW112 := n3_; have qv := n4_; have qn := n5_; have qj := n6_; clear n0_ n1_ n2_ n3_ n4_ n5_ n6_; clear hb hbox hg) | ((with_reducible refine gate_dst (N := 3) rfl ?_); refine Kd.R_lit k53 _ 53 ?hg (N := 3) ?hd (xs := ([] : List (S53))) (inner := []) (ok := fun _ => True) (okp := fun _ => True) ?hr ?hp (fun _ hk => hk) trivial (Below.refl _ _) (Nat.le_refl _) (by simp) ?_; (case hd => rfl); (case hg => rfl); (case hr => first | (go_simp; done) | (go_simp; rfl)); (case hp => exact (Reps.none _ _)); intro v114 w5 ho6 hb hg_ hnew_; clear hg_ hnew_; (first | rw [← Ny113.out] at ho6 | (simp only [Int.reduceToNat] at ho6; rw [← Ny113.out] at ho6)); have n0_ := aS_ (Kd.R_lower ho6 (below_size (hb_ HB))); have n1_ := aS_ (blk_below (bk_ qa) hb); have n2_ := aS_ (blk_below (bk_ qc) hb); have n3_ := aS_ (below_step (hb_ HB) hb); clear qa; clear qc; clear HB; have qm := n0_; have qa := n1_; have qc := n2_; have HB := n3_; clear n0_ n1_ n2_ n3_; clear hb ho6; have hnb7 := qn.out; have hnc7 := qj.out; have hcz8_0 : w5.cell? ⟨qb, 0, none⟩ = some (.slice qk qd.length ql) := bC_ qa.out 0 rfl; have hcz8_1 : w5.cell? ⟨qb, 1, none⟩ = some (.int .i64 qf) := bC_ qa.out 1 rfl; have hcz8_2 : w5.cell? ⟨qb, 2, none⟩ = some (.string qg) := bC_ qa.out 2 rfl; have hcz8_3 : w5.cell? ⟨qb, 3, none⟩ = some (.int .u32 qh) := bC_ qa.out 3 rfl; have hcz8_4 : w5.cell? ⟨qb, 4, none⟩ = some (.bool qi) := bC_ qa.out 4 rfl; have hfz8_0 := bF_ qa.out) | ((with_reducible refine gate_builtin (b := .append) (xs := #[.tmp 3, .tmp 5]) rfl ?_); at_builtin; refine Kd.R_append_rows k53 (w0 := w) w.heap.size rfl (.tmp 3) (.tmp 5) 22 53 (.agg #[(.string ⟨#[]⟩), (.int .u64 0)]) 24 rfl Tryd.underlying22 info53 rfl (by decide) (by omega) v114 y113 qd _ _ _ (fun _ => True) (fun _ => False) rfl rfl ?aO ?aR (fun _ _ h => h) (fun _ h => h.elim) ?aF ?aB ?aS ?aL ?_; (case aR => repeat (first | exact (Kd.C_below qt.out HB.out) | (with_reducible refine Kd.C_alloc ?_ _) | (with_reducible refine Kd.C_drewN ?_ _) | (with_reducible refine Kd.C_drew ?_))); (case aB => exact (hb_ HB)); (case aF => exact (fun _ _ => trivial)); (case aO => exact (by (with_reducible repeat (first | apply Kd.R_alloc | apply Kd.R_drewN | apply Kd.R_drew)); exact qm.out)); (case aS => exact (below_size (hb_ HB))); (case aL => have := LMc2.out; omega); intro v117 w9 ho hb hg hat; rw [← Ny116.out] at ho; have n0_ := aS_ (blk_grown (g := qb) (o := .cells #[.slice qk qd.length ql, .int .i64 qf, .string qg, .int .u32 qh, .bool qi] 27 (0, 0)) (bk_ qa) hg (Kd.R_ne qm.out qa.out (by decide))); have n1_ := aS_ (blk_grown (g := qe) (o := .cells #[.slice none 0 0, .int .i64 0, .string (⟨#[]⟩ : ByteArray), .int .u32 0, .bool false] 27 (0, 0)) (bk_ qc) hg (Kd.R_ne qm.out qc.out (by decide))); have n2_ := aS_ (hb); have n3_ := aS_ (ho); clear qa; clear qc; clear HB; clear qm; have qa := n0_; have qc := n1_; have HB := n2_; have qs := n3_; clear n0_ n1_ n2_ n3_; clear ho hb hg hat; obtain ⟨qp, qq, eo10⟩ := Kd.R_slice qs.out; subst eo10; have hcz11_0 : w9.cell? ⟨qb, 0, none⟩ = some (.slice qk qd.length ql) := bC_ qa.out 0 rfl; have hcz11_1 : w9.cell? ⟨qb, 1, none⟩ = some (.int .i64 qf) := bC_ qa.out 1 rfl; have hcz11_2 : w9.cell? ⟨qb, 2, none⟩ = some (.string qg) := bC_ qa.out 2 rfl; have hcz11_3 : w9.cell? ⟨qb, 3, none⟩ = some (.int .u32 qh) := bC_ qa.out 3 rfl; have hcz11_4 : w9.cell? ⟨qb, 4, none⟩ = some (.bool qi) := bC_ qa.out 4 rfl; have hfz11_0 := bF_ qa.out; have hcz12_0 : w9.cell? ⟨qe, 0, none⟩ = some (.slice none 0 0) := bC_ qc.out 0 rfl; have hcz12_1 : w9.cell? ⟨qe, 1, none⟩ = some (.int .i64 0) := bC_ qc.out 1 rfl; have hcz12_2 : w9.cell? ⟨qe, 2, none⟩ = some (.string (⟨#[]⟩ : ByteArray)) := bC_ qc.out 2 rfl; have hcz12_3 : w9.cell? ⟨qe, 3, none⟩ = some (.int .u32 0) := bC_ qc.out 3 rfl; have hcz12_4 : w9.cell? ⟨qe, 4, none⟩ = some (.bool false) := bC_ qc.out 4 rfl; have hfz12_0 := bF_ qc.out))
 refine bodyPost_ret (results_cell_row rfl _ _ qe 27 #[.slice qp y116.length qq, .int .i64 qf, .string qg, .int .u32 qh, .bool qi] (0, 0) _ rfl (by (with_reducible repeat (first | refine blk_drewN ?_ _ | refine blk_drew ?_ | refine blk_alloc ?_ _)); refine blk_put (cs := #[.slice qp y116.length qq, .int .i64 qf, .string qg, .int .u32 qh, .bool false]) ?_ 4 _ rfl; (with_reducible repeat (first | refine blk_drewN ?_ _ | refine blk_drew ?_ | refine blk_alloc ?_ _)); refine blk_put (cs := #[.slice qp y116.length qq, .int .i64 qf, .string qg, .int .u32 0, .bool false]) ?_ 3 _ rfl; (with_reducible repeat (first | refine blk_drewN ?_ _ | refine blk_drew ?_ | refine blk_alloc ?_ _)); refine blk_put (cs := #[.slice qp y116.length qq, .int .i64 qf, .string (⟨#[]⟩ : ByteArray), .int .u32 0, .bool false]) ?_ 2 _ rfl; (with_reducible repeat (first | refine blk_drewN ?_ _ | refine blk_drew ?_ | refine blk_alloc ?_ _)); refine blk_put (cs := #[.slice qp y116.length qq, .int .i64 0, .string (⟨#[]⟩ : ByteArray), .int .u32 0, .bool false]) ?_ 1 _ rfl; (with_reducible repeat (first | refine blk_drewN ?_ _ | refine blk_drew ?_ | refine blk_alloc ?_ _)); refine blk_put (cs := #[.slice none 0 0, .int .i64 0, .string (⟨#[]⟩ : ByteArray), .int .u32 0, .bool false]) ?_ 0 _ rfl; (with_reducible repeat (first | refine blk_drewN ?_ _ | refine blk_drew ?_ | refine blk_alloc ?_ _ | refine blk_far ?_ qj.out _)); exact qc.out) Tryd.underlying27 rfl (by kernel_rfl)) rfl ?_;exact ⟨_, by first | rfl | (simp [errW_none, errW_some] <;> rfl) | (simp [*, errW_none, errW_some] <;> rfl) | (simp [bt, *]; done) | (unfold bt; simp [*]; done), by (with_reducible repeat (first | apply Kd.R_alloc | apply Kd.R_drewN | apply Kd.R_drew)); exact Kd.R_mono (Rf5_ (Kd.R_far (p := ⟨qb, 0, none⟩) (Kd.R_types (Kd.R_types qs.out qa.out (by decide)) qc.out (by decide)) (fun _ hk => hk.1.2) (.slice qp y116.length qq)) (fun _ hk => hk.2)) (fun _ hk => trivial), by repeat (first | (with_reducible first | exact HB.out | apply below_alloc | apply pw_below_drewN | apply below_drew1 | refine below_set ?_ qu.out | refine below_set ?_ qv.out) | exact HB.out)⟩
def headgateref11_Key.l0 : Nat → ByteArray → Int → List (S53) → Int → ByteArray → Int → Bool → Option (Int)
  | 0, _, _, _, _, _, _, _ => none
  | k + 1, x1, x5, x120000, x120001, x120002, x120003, x120004 => if x5 < (x120000.length : Int) then (if 0 ≤ x5 then (if ((rd_T53 x120000 x5).f0).toList = x1.toList then (some ((rd_T53 x120000 x5).f1)) else (headgateref11_Key.l0 k x1 (wrap64 (x5 + 1)) x120000 x120001 x120002 x120003 x120004)) else (none)) else (some 0)
def headgateref11_Key.f (k : Nat) (l0_0 : List (S53)) (a0_1 : Int) (a0_2 : ByteArray) (a0_3 : Int) (a0_4 : Bool) (a1 : ByteArray) : Option (Int) := headgateref11_Key.l0 k a1 0 l0_0 a0_1 a0_2 a0_3 a0_4
theorem headgateref11_Key.mono_l : ∀ k, (∀ y0 y1 y2 y3 y4 y5 y6, LeO (headgateref11_Key.l0 k y0 y1 y2 y3 y4 y5 y6) (headgateref11_Key.l0 (k + 1) y0 y1 y2 y3 y4 y5 y6))
 | 0 => fun _ _ _ _ _ _ _ r h => by simp [headgateref11_Key.l0] at h
 | k + 1 => by
  have ih0 := headgateref11_Key.mono_l k
  ·intro y0 y1 y2 y3 y4 y5 y6
   unfold headgateref11_Key.l0
   repeat' first
   | (with_reducible exact ih0 _ _ _ _ _ _ _)
   | (with_reducible exact LeO.refl _)
   | (with_reducible exact LeO.none _)
   | (with_reducible refine LeO.ite ?_ ?_)
   | (with_reducible refine LeO.bind ?_ (fun _ => ?_))
   | exact ih0 _ _ _ _ _ _ _
   | exact LeO.none _
   | refine LeO.ite ?_ ?_
   | refine LeO.bind ?_ (fun _ => ?_)
theorem headgateref11_Key.mono : ∀ a0 a1 a2 a3 a4 a5 k, LeO (headgateref11_Key.f k a0 a1 a2 a3 a4 a5) (headgateref11_Key.f (k + 1) a0 a1 a2 a3 a4 a5) := by
 intro a0 a1 a2 a3 a4 a5 k;have ih0 := headgateref11_Key.mono_l k;unfold headgateref11_Key.f
 repeat' first
   | (with_reducible exact ih0 _ _ _ _ _ _ _)
   | (with_reducible exact LeO.refl _)
   | (with_reducible exact LeO.none _)
   | (with_reducible refine LeO.ite ?_ ?_)
   | (with_reducible refine LeO.bind ?_ (fun _ => ?_))
   | exact ih0 _ _ _ _ _ _ _
   | exact LeO.none _
   | refine LeO.ite ?_ ?_
   | refine LeO.bind ?_ (fun _ => ?_)
theorem headgateref11_Key.calls (k : Nat) (qk : Option Addr) (ql : Nat) (qc : List (S53)) (qg : Int) (qh : ByteArray) (qi : Int) (qj : Bool) (a1 : ByteArray) (r : Int) (w : World) (hr0_0 : Kd.C k53 w qk qc.length qc) (qr : qc.length ≤ ql) (h : headgateref11_Key.f k qc qg qh qi qj a1 = some r) :
  Calls Tryd.prog 19 #[.agg #[.slice qk qc.length ql, .int .i64 qg, .string qh, .int .u32 qi, .bool qj], .string a1] w fun e w' => e = .returned (.int .u64 r) ∧ Below w.heap.size w w' := by
 have hu27 := Tryd.underlying27;have qq := aS_ hr0_0;have HC0_0 := aS_ qr;clear hr0_0 qr;have HB := aS_ (Below.refl w.heap.size w);have H : (headgateref11_Key.l0 k a1 0 qc qg qh qi qj) = some r := h;clear h;have H' := aS_ H;clear H;go_enter Tryd.func19, Tryd.ntmps19
 go_wp2_with (first | ((with_reducible refine gate_dst (N := 2) rfl ?_); refine bX_ (N := 2) (cs := #[.slice qk qc.length ql, .int .i64 qg, .string qh, .int .u32 qi, .bool qj]) (t := 27) ?hr ?_; (case hr => first | (go_simp; done) | (go_simp; rfl)); intro qb hg w3 hbox hb; have n0_ := aS_ (below_step (by repeat (first | (with_reducible first | exact HB.out | apply below_alloc | apply pw_below_drewN | apply below_drew1) | exact HB.out)) hb); have n1_ := aS_ (hbox); have n2_ := aS_ ((by rw [hg]; exact (below_size (by repeat (first | (with_reducible first | exact HB.out | apply below_alloc | apply pw_below_drewN | apply below_drew1) | exact HB.out))) : w.heap.size ≤ qb)); have n3_ := aS_ ((by rw [hg]; exact (below_size (by repeat (first | (with_reducible first | exact HB.out | apply below_alloc | apply pw_below_drewN | apply below_drew1) | exact HB.out))) : w.heap.size ≤ qb)); clear HB; have HB := n0_; have qa := n1_; have GW119 := n2_; have qm := n3_; clear n0_ n1_ n2_ n3_; clear hb hbox hg))
 go_loopg [5] k (fun kq v5 w' => ∃ (qd : Int), v5 = .int .i64 qd ∧ Aside0 (headgateref11_Key.l0 kq a1 qd qc qg qh qi qj = some r) ∧ Aside0 (kq ≤ k) ∧ Aside0 (w'.heap[qb]? = some (.cells #[(.slice qk qc.length ql), .int .i64 qg, .string qh, .int .u32 qi, .bool qj] 27 (0, 0))) ∧ Aside0 (Below w.heap.size w w'))
 case atStart => exact ⟨(0), (by first | rfl | (simp; done) | (simp [*]; done)), H', ⟨Nat.le_refl _⟩, ⟨by (with_reducible repeat (first | refine blk_drewN ?_ _ | refine blk_drew ?_ | refine blk_alloc ?_ _)); exact qa.out⟩, ⟨by repeat (first | (with_reducible first | exact HB.out | apply below_alloc | apply pw_below_drewN | apply below_drew1 | refine below_set ?_ qm.out) | exact HB.out)⟩⟩
 case round =>
  clear H'
  try clear c1
  try clear p2
  obtain ⟨qd, rfl, HA, HK1, qa, HB⟩ := hrel
  cases gk with
  | zero => exact absurd HA.out (by simp [headgateref11_Key.l0])
  | succ k1 =>
   have H := HA.out;clear HA;simp only [headgateref11_Key.l0] at H;by_cases c4 : qd < (qc.length : Int)
   ·rw [if_pos c4] at H;have c4b0 : decide (qd < (qc.length : Int)) = true := decide_eq_true c4;clear c4;by_cases c5 : 0 ≤ qd
    ·rw [if_pos c5] at H;have c5b0 : decide (0 ≤ qd) = true := decide_eq_true c5;clear c5;by_cases c6 : ((rd_T53 qc qd).f0).toList = a1.toList
     ·rw [if_pos c6] at H;have c6b0 : (((rd_T53 qc qd).f0).toList == a1.toList) = true := beq_iff_eq.mpr c6;have c6b1 : (((rd_T53 qc qd).f0).toList != a1.toList) = false := bne_eq_false_iff_eq.mpr c6;clear c6;obtain rfl := Option.some.inj H;have hcz7_0 : wr.cell? ⟨qb, 0, none⟩ = some (.slice qk qc.length ql) := bC_ qa.out 0 rfl;have hcz7_1 : wr.cell? ⟨qb, 1, none⟩ = some (.int .i64 qg) := bC_ qa.out 1 rfl;have hcz7_2 : wr.cell? ⟨qb, 2, none⟩ = some (.string qh) := bC_ qa.out 2 rfl;have hcz7_3 : wr.cell? ⟨qb, 3, none⟩ = some (.int .u32 qi) := bC_ qa.out 3 rfl;have hcz7_4 : wr.cell? ⟨qb, 4, none⟩ = some (.bool qj) := bC_ qa.out 4 rfl;have hfz7_0 := bF_ qa.out 0;have hfz7_1 := bF_ qa.out 1;have hfz7_2 := bF_ qa.out 2;have hfz7_3 := bF_ qa.out 3;have hfz7_4 := bF_ qa.out 4;have p120 : 0 ≤ (qd : Int) := of_decide_eq_true (by first | (with_reducible assumption) | assumption);have q120 : qd < (qc.length : Int) := of_decide_eq_true (by first | (with_reducible assumption) | assumption);obtain ⟨qs, e120, qe, qf⟩ := at_T53 qq.out qd p120 q120;cases e120;replace qe := cB_ HB.out qe;replace qf := cB_ HB.out qf;replace p120 := eq_true p120;replace q120 := eq_true q120;have p121 : 0 ≤ (qd : Int) := of_decide_eq_true (by first | (with_reducible assumption) | assumption);have q121 : qd < (qc.length : Int) := of_decide_eq_true (by first | (with_reducible assumption) | assumption);obtain ⟨qt, e121, qn, qp⟩ := at_T53 qq.out qd p121 q121
      obtain rfl : qs = qt := (by injection e121)
      replace qn := cB_ HB.out qn;replace qp := cB_ HB.out qp;replace p121 := eq_true p121;replace q121 := eq_true q121;go_wp2;go_ret;exact ⟨by first | rfl | (simp [errW_none, errW_some] <;> rfl) | (simp [*, errW_none, errW_some] <;> rfl) | (simp [bt, *]; done) | (unfold bt; simp [*]; done), by repeat (first | (with_reducible first | exact HB.out | apply below_alloc | apply pw_below_drewN | apply below_drew1 | refine below_set ?_ qm.out) | exact HB.out)⟩
     ·rw [if_neg c6] at H;have c6b0 : (((rd_T53 qc qd).f0).toList == a1.toList) = false := beq_eq_false_iff_ne.mpr c6;have c6b1 : (((rd_T53 qc qd).f0).toList != a1.toList) = true := bne_iff_ne.mpr c6;have H' := aS_ H;clear H;have hcz8_0 : wr.cell? ⟨qb, 0, none⟩ = some (.slice qk qc.length ql) := bC_ qa.out 0 rfl;have hcz8_1 : wr.cell? ⟨qb, 1, none⟩ = some (.int .i64 qg) := bC_ qa.out 1 rfl;have hcz8_2 : wr.cell? ⟨qb, 2, none⟩ = some (.string qh) := bC_ qa.out 2 rfl;have hcz8_3 : wr.cell? ⟨qb, 3, none⟩ = some (.int .u32 qi) := bC_ qa.out 3 rfl;have hcz8_4 : wr.cell? ⟨qb, 4, none⟩ = some (.bool qj) := bC_ qa.out 4 rfl;have hfz8_0 := bF_ qa.out 0;have hfz8_1 := bF_ qa.out 1;have hfz8_2 := bF_ qa.out 2;have hfz8_3 := bF_ qa.out 3;have hfz8_4 := bF_ qa.out 4;have p120 : 0 ≤ (qd : Int) := of_decide_eq_true (by first | (with_reducible assumption) | assumption);have q120 : qd < (qc.length : Int) := of_decide_eq_true (by first | (with_reducible assumption) | assumption);obtain ⟨qs, e120, qe, qf⟩ := at_T53 qq.out qd p120 q120;cases e120;replace qe := cB_ HB.out qe;replace qf := cB_ HB.out qf;replace p120 := eq_true p120;replace q120 := eq_true q120;go_wp2
      go_roundg k1
      case measure => have := HK1.out; omega
      case rel => exact ⟨(wrap64 (qd + 1)), (by first | rfl | (simp; done) | (simp [*]; done)), H', ⟨by have := HK1.out; omega⟩, ⟨by (with_reducible repeat (first | refine blk_drewN ?_ _ | refine blk_drew ?_ | refine blk_alloc ?_ _)); exact qa.out⟩, ⟨by repeat (first | (with_reducible first | exact HB.out | apply below_alloc | apply pw_below_drewN | apply below_drew1 | refine below_set ?_ qm.out) | exact HB.out)⟩⟩
    ·rw [if_neg c5] at H;exact absurd H (by simp)
   ·rw [if_neg c4] at H;have c4b0 : decide (qd < (qc.length : Int)) = false := decide_eq_false c4;clear c4;obtain rfl := Option.some.inj H;have hcz9_0 : wr.cell? ⟨qb, 0, none⟩ = some (.slice qk qc.length ql) := bC_ qa.out 0 rfl;have hcz9_1 : wr.cell? ⟨qb, 1, none⟩ = some (.int .i64 qg) := bC_ qa.out 1 rfl;have hcz9_2 : wr.cell? ⟨qb, 2, none⟩ = some (.string qh) := bC_ qa.out 2 rfl;have hcz9_3 : wr.cell? ⟨qb, 3, none⟩ = some (.int .u32 qi) := bC_ qa.out 3 rfl;have hcz9_4 : wr.cell? ⟨qb, 4, none⟩ = some (.bool qj) := bC_ qa.out 4 rfl;have hfz9_0 := bF_ qa.out 0;have hfz9_1 := bF_ qa.out 1;have hfz9_2 := bF_ qa.out 2;have hfz9_3 := bF_ qa.out 3;have hfz9_4 := bF_ qa.out 4;go_wp2;go_ret;exact ⟨by first | rfl | (simp [errW_none, errW_some] <;> rfl) | (simp [*, errW_none, errW_some] <;> rfl) | (simp [bt, *]; done) | (unfold bt; simp [*]; done), by repeat (first | (with_reducible first | exact HB.out | apply below_alloc | apply pw_below_drewN | apply below_drew1 | refine below_set ?_ qm.out) | exact HB.out)⟩
def headgateref03_letter.f (a0 : Int) : Option (Bool) := if a0 ≥ 97 then (some (decide (a0 ≤ 122))) else (some false)
theorem headgateref03_letter.calls (a0 : Int) (r : Bool) (w : World) (h : headgateref03_letter.f a0 = some r) :
  Calls Tryd.prog 47 #[.int .u8 a0] w fun e w' => e = .returned (.bool r) ∧ Drawn0 w w' := by
 have H : (if a0 ≥ 97 then (some (decide (a0 ≤ 122))) else (some false)) = some r := h;clear h;by_cases c2 : a0 ≥ 97
 ·rw [if_pos c2] at H;have c2b0 : decide (97 ≤ a0) = true := decide_eq_true c2;clear c2;obtain rfl := Option.some.inj H;go_enter Tryd.func47, Tryd.ntmps47;go_wp2;go_ret;exact ⟨by first | rfl | (simp; done) | (simp [*]; done), by repeat (first | exact Drawn0.refl _ | apply Drawn0.step)⟩
 ·rw [if_neg c2] at H;have c2b0 : decide (97 ≤ a0) = false := decide_eq_false c2;clear c2;obtain rfl := Option.some.inj H;go_enter Tryd.func47, Tryd.ntmps47;go_wp2;go_ret;exact ⟨by first | rfl | (simp; done) | (simp [*]; done), by repeat (first | exact Drawn0.refl _ | apply Drawn0.step)⟩
def headgateref03_digit.f (a0 : Int) : Option (Bool) := if a0 ≥ 48 then (some (decide (a0 ≤ 57))) else (some false)
theorem headgateref03_digit.calls (a0 : Int) (r : Bool) (w : World) (h : headgateref03_digit.f a0 = some r) :
  Calls Tryd.prog 48 #[.int .u8 a0] w fun e w' => e = .returned (.bool r) ∧ Drawn0 w w' := by
 have H : (if a0 ≥ 48 then (some (decide (a0 ≤ 57))) else (some false)) = some r := h;clear h;by_cases c2 : a0 ≥ 48
 ·rw [if_pos c2] at H;have c2b0 : decide (48 ≤ a0) = true := decide_eq_true c2;clear c2;obtain rfl := Option.some.inj H;go_enter Tryd.func48, Tryd.ntmps48;go_wp2;go_ret;exact ⟨by first | rfl | (simp; done) | (simp [*]; done), by repeat (first | exact Drawn0.refl _ | apply Drawn0.step)⟩
 ·rw [if_neg c2] at H;have c2b0 : decide (48 ≤ a0) = false := decide_eq_false c2;clear c2;obtain rfl := Option.some.inj H;go_enter Tryd.func48, Tryd.ntmps48;go_wp2;go_ret;exact ⟨by first | rfl | (simp; done) | (simp [*]; done), by repeat (first | exact Drawn0.refl _ | apply Drawn0.step)⟩
end Go.Proofs.YtjogkfcjlljjcaaDoor.P
namespace Go.Proofs.YtjogkfcjlljjcaaDoor.P
open Go.RowKit Go.Proofs.YtjogkfcjlljjcaaDoorW.PrintWords Go.Proofs.YtjogkfcjlljjcaaDoorW.PrintLast Go.Proofs.YtjogkfcjlljjcaaDoorW.PrintMore
attribute [local go_sem] max2_int min2_int max_two min_two max_three min_three max_four min_four   -- for this text's walks alone
set_option linter.unusedVariables false
set_option linter.unusedSimpArgs false
set_option linter.unnecessarySimpa false
mutual
def headgateref03_Name.j0 : Nat → ByteArray → Bool → Option (Bool)
 | 0, _, _ => none
 | k + 1, x0, x17 => if x17 = true then (some false) else (headgateref03_Name.l0 k x0 0)
def headgateref03_Name.l0 : Nat → ByteArray → Int → Option (Bool)
 | 0, _, _ => none
 | k + 1, x0, x3 => if x3 < (x0.size : Int) then (if 0 ≤ x3 then ((headgateref03_letter.f (bt x0 x3)).bind fun t123 => (if t123 = true then (headgateref03_Name.l0 k x0 (wrap64 (x3 + 1))) else ((headgateref03_digit.f (bt x0 x3)).bind fun t124 => (if t124 = true then (headgateref03_Name.l0 k x0 (wrap64 (x3 + 1))) else (if (bt x0 x3) = 46 then (headgateref03_Name.l0 k x0 (wrap64 (x3 + 1))) else (if (bt x0 x3) = 45 then (headgateref03_Name.l0 k x0 (wrap64 (x3 + 1))) else (if (bt x0 x3) = 58 then (headgateref03_Name.l0 k x0 (wrap64 (x3 + 1))) else (some false)))))))) else (none)) else (some true)
end
def headgateref03_Name.f (k : Nat) (a0 : ByteArray) : Option (Bool) := if (a0.size : Int) < 1 then (headgateref03_Name.j0 k a0 true) else (if (a0.size : Int) > 64 then (headgateref03_Name.j0 k a0 true) else (if 0 < (a0.size : Int) then ((headgateref03_letter.f (bt a0 0)).bind fun t122 => (headgateref03_Name.j0 k a0 (!t122))) else (none)))
theorem headgateref03_Name.mono_l : ∀ k, (∀ y0 y1, LeO (headgateref03_Name.j0 k y0 y1) (headgateref03_Name.j0 (k + 1) y0 y1)) ∧ (∀ y0 y1, LeO (headgateref03_Name.l0 k y0 y1) (headgateref03_Name.l0 (k + 1) y0 y1))
 | 0 => ⟨fun _ _ r h => by simp [headgateref03_Name.j0] at h, fun _ _ r h => by simp [headgateref03_Name.l0] at h⟩
 | k + 1 => by
  obtain ⟨ih0, ih1⟩ := headgateref03_Name.mono_l k
  refine ⟨?_, ?_⟩
  ·intro y0 y1
   unfold headgateref03_Name.j0
   repeat' first
   | (with_reducible exact ih0 _ _)
   | (with_reducible exact ih1 _ _)
   | (with_reducible exact LeO.refl _)
   | (with_reducible exact LeO.none _)
   | (with_reducible refine LeO.ite ?_ ?_)
   | (with_reducible refine LeO.bind ?_ (fun _ => ?_))
   | exact ih0 _ _
   | exact ih1 _ _
   | exact LeO.none _
   | refine LeO.ite ?_ ?_
   | refine LeO.bind ?_ (fun _ => ?_)
  ·intro y0 y1
   unfold headgateref03_Name.l0
   repeat' first
   | (with_reducible exact ih0 _ _)
   | (with_reducible exact ih1 _ _)
   | (with_reducible exact LeO.refl _)
   | (with_reducible exact LeO.none _)
   | (with_reducible refine LeO.ite ?_ ?_)
   | (with_reducible refine LeO.bind ?_ (fun _ => ?_))
   | exact ih0 _ _
   | exact ih1 _ _
   | exact LeO.none _
   | refine LeO.ite ?_ ?_
   | refine LeO.bind ?_ (fun _ => ?_)
theorem headgateref03_Name.mono : ∀ a0 k, LeO (headgateref03_Name.f k a0) (headgateref03_Name.f (k + 1) a0) := by
 intro a0 k;obtain ⟨ih0, ih1⟩ := headgateref03_Name.mono_l k;unfold headgateref03_Name.f
 repeat' first
   | (with_reducible exact ih0 _ _)
   | (with_reducible exact ih1 _ _)
   | (with_reducible exact LeO.refl _)
   | (with_reducible exact LeO.none _)
   | (with_reducible refine LeO.ite ?_ ?_)
   | (with_reducible refine LeO.bind ?_ (fun _ => ?_))
   | exact ih0 _ _
   | exact ih1 _ _
   | exact LeO.none _
   | refine LeO.ite ?_ ?_
   | refine LeO.bind ?_ (fun _ => ?_)
theorem headgateref03_Name.calls (k : Nat) (a0 : ByteArray) (r : Bool) (w : World) (h : headgateref03_Name.f k a0 = some r) :
  Calls Tryd.prog 27 #[.string a0] w fun e w' => e = .returned (.bool r) ∧ Drawn0 w w' := by
 have H : (if (a0.size : Int) < 1 then (headgateref03_Name.j0 k a0 true) else (if (a0.size : Int) > 64 then (headgateref03_Name.j0 k a0 true) else (if 0 < (a0.size : Int) then ((headgateref03_letter.f (bt a0 0)).bind fun t122 => (headgateref03_Name.j0 k a0 (!t122))) else (none)))) = some r := h;clear h;have HC2 := aS_ H;clear H;go_enter Tryd.func27, Tryd.ntmps27
 go_upto_region 1 with (fail)
 go_cut [17] (fun v17 wc => ∃ (kq : Nat) (qb : Bool), v17 = .bool qb ∧ Aside0 (headgateref03_Name.j0 kq a0 qb = some r) ∧ Aside0 (kq ≤ k) ∧ Drawn0 w wc)
 case first =>
  have H := HC2.out;clear HC2;by_cases c3 : (a0.size : Int) < 1
  ·rw [if_pos c3] at H;have c3b0 : decide ((a0.size : Int) < 1) = true := decide_eq_true c3;have c3b1 : decide (a0.size < 1) = true := decide_eq_true (by omega);clear c3
   (first | rw [c3b0] | (simp only [i64_w, i32_w]; rw [c3b0]) | skip)
   have H' := aS_ H;clear H;go_wp2;go_meet
   case rel => exact ⟨_, (true), (by first | rfl | (simp; done) | (simp [*]; done)), H', ⟨by first | omega | exact Nat.le_refl _⟩, by repeat (first | exact Drawn0.refl _ | apply Drawn0.step)⟩
  rw [if_neg c3] at H;have c3b0 : decide ((a0.size : Int) < 1) = false := decide_eq_false c3;have c3b1 : decide (a0.size < 1) = false := decide_eq_false (by omega);clear c3
  (first | rw [c3b0] | (simp only [i64_w, i32_w]; rw [c3b0]) | skip)
  by_cases c4 : (a0.size : Int) > 64
  ·rw [if_pos c4] at H;have c4b0 : decide (64 < (a0.size : Int)) = true := decide_eq_true c4;have c4b1 : decide (64 < a0.size) = true := decide_eq_true (by omega);clear c4;have H' := aS_ H;clear H;go_wp2;go_meet
   case rel => exact ⟨_, (true), (by first | rfl | (simp; done) | (simp [*]; done)), H', ⟨by first | omega | exact Nat.le_refl _⟩, by repeat (first | exact Drawn0.refl _ | apply Drawn0.step)⟩
  rw [if_neg c4] at H;have c4b0 : decide (64 < (a0.size : Int)) = false := decide_eq_false c4;have c4b1 : decide (64 < a0.size) = false := decide_eq_false (by omega);clear c4;refine neg_first (p := (0 < (a0.size : Int))) (fun c5 => ?_) (fun c5 => ?_)
  ·rw [if_neg c5] at H;exact absurd H (by simp)
  rw [if_pos c5] at H;have c5b0 : decide (0 < (a0.size : Int)) = true := decide_eq_true c5;have c5b1 : decide (0 < a0.size) = true := decide_eq_true (by omega);clear c5;replace H := Option.bind_eq_some_iff.mp H;obtain ⟨t122, A70, H⟩ := H
  try dsimp only at H
  have A7 := aS_ A70;clear A70;have H' := aS_ H;clear H
  have p6 : 0 ≤ (0 : Int) := (by omega)
  have q6 : 0 < a0.size := (by have : (0 : Int) < (a0.size : Int) := of_decide_eq_true (by first | (with_reducible assumption) | assumption); omega)
  have hx6 : ∀ h : 0 < a0.size, ((a0[0]'h).toNat : Int) = bt a0 0 := bt_at a0 0;clear p6;have qi6 : (0 < (a0.size : Int)) = True := eq_true (of_decide_eq_true (by first | (with_reducible assumption) | assumption));replace q6 := eq_true q6
  go_wp2_with (first | (go_at_call 47; (with_reducible refine (headgateref03_letter.calls (bt a0 0) t122 _ A7.out).mono ?_); rintro e w' ⟨rfl, ⟨nd, rfl⟩⟩))
  go_meet
  case rel => exact ⟨_, (!t122), (by first | rfl | (simp; done) | (simp [*]; done)), H', ⟨by first | omega | exact Nat.le_refl _⟩, by repeat (first | exact Drawn0.refl _ | apply Drawn0.step)⟩
 case rest =>
  clear HC2
  try clear c2
  try clear p2
  try clear c3
  try clear c3b0
  try clear c3b1
  try clear c4
  try clear c4b0
  try clear c4b1
  try clear c5
  try clear c5b0
  try clear c5b1
  try clear p6
  try clear q6
  try clear hx6
  try clear qi6
  try clear p6
  try clear q6
  obtain ⟨kq, qb, rfl, HA, HJ1, ⟨mc1, rfl⟩⟩ := hcut
  cases kq with
  | zero => exact absurd HA.out (by simp [headgateref03_Name.j0])
  | succ kj1 =>
   have H := HA.out;clear HA;simp only [headgateref03_Name.j0] at H;by_cases c8 : qb = true
   ·subst c8;have H1 := H;rw [if_pos rfl] at H1;clear H;have H := H1;clear H1;obtain rfl := Option.some.inj H;go_wp2;go_ret;exact ⟨by first | rfl | (simp; done) | (simp [*]; done), by repeat (first | exact Drawn0.refl _ | apply Drawn0.step)⟩
   replace c8 := Bool.eq_false_iff.mpr c8;subst c8;have H1 := H;rw [if_neg (show ¬ (false = true) by decide)] at H1;clear H;have H := H1;clear H1;have H' := aS_ H;clear H;go_wp2
   go_loopg [3] kj1 (fun kq v3 w' => ∃ (qa : Int), v3 = .int .i64 qa ∧ Aside0 (headgateref03_Name.l0 kq a0 qa = some r) ∧ Aside0 (kq ≤ kj1) ∧ Drawn0 w w')
   case atStart => exact ⟨(0), (by first | rfl | (simp; done) | (simp [*]; done)), H', ⟨Nat.le_refl _⟩, by repeat (first | exact Drawn0.refl _ | apply Drawn0.step)⟩
   case round =>
    clear H'
    try clear c1
    try clear c2
    try clear p2
    try clear c3
    try clear c3b0
    try clear c3b1
    try clear c4
    try clear c4b0
    try clear c4b1
    try clear c5
    try clear c5b0
    try clear c5b1
    try clear p6
    try clear q6
    try clear hx6
    try clear qi6
    try clear c8
    try clear p2
    try clear p6
    try clear q6
    obtain ⟨qa, rfl, HA, HK2, ⟨m2, rfl⟩⟩ := hrel
    cases gk with
    | zero => exact absurd HA.out (by simp [headgateref03_Name.l0])
    | succ k2 =>
     have H := HA.out;clear HA;simp only [headgateref03_Name.l0] at H;refine neg_first (p := (qa < (a0.size : Int))) (fun c9 => ?_) (fun c9 => ?_)
     ·rw [if_neg c9] at H;have c9b0 : decide (qa < (a0.size : Int)) = false := decide_eq_false c9;clear c9;obtain rfl := Option.some.inj H;go_wp2;go_ret;exact ⟨by first | rfl | (simp; done) | (simp [*]; done), by repeat (first | exact Drawn0.refl _ | apply Drawn0.step)⟩
     rw [if_pos c9] at H;have c9b0 : decide (qa < (a0.size : Int)) = true := decide_eq_true c9;clear c9;refine neg_first (p := (0 ≤ qa)) (fun c10 => ?_) (fun c10 => ?_)
     ·rw [if_neg c10] at H;exact absurd H (by simp)
     rw [if_pos c10] at H;have c10b0 : decide (0 ≤ qa) = true := decide_eq_true c10;clear c10;replace H := Option.bind_eq_some_iff.mp H;obtain ⟨t123, A120, H⟩ := H
     try dsimp only at H
     have A12 := aS_ A120;clear A120;by_cases c13 : t123 = true
     ·subst c13;have H1 := H;rw [if_pos rfl] at H1;clear H;have H := H1;clear H1;have H' := aS_ H;clear H;have p11 : 0 ≤ (qa : Int) := of_decide_eq_true (by first | (with_reducible assumption) | assumption);have q11 : qa < (a0.size : Int) := of_decide_eq_true (by first | (with_reducible assumption) | assumption);have hx11 := bt_at a0 qa;replace p11 := eq_true p11;replace q11 := eq_true q11
      go_wp2_with (first | ((with_reducible refine gate_callee (f := 47) rfl ?_); refine goesL_ (some 27) rfl rfl Tryd.func47 (by kernel_rfl) rfl #[.int .u8 (bt a0 qa)] rfl (by (try simp only [List.map_toArray, List.map_cons, List.map_nil]); first | done | rfl | (simp only [List.length_drop, List.length_take]; rfl)) ?_; (with_reducible refine (headgateref03_letter.calls (bt a0 qa) true _ A12.out).mono ?_); rintro e w' ⟨rfl, ⟨nd, rfl⟩⟩; refine ⟨_, rfl, ?_⟩))
      go_roundg k2
      case measure => have := HJ1.out; have := HK2.out; omega
      case rel => exact ⟨(wrap64 (qa + 1)), (by first | rfl | (simp; done) | (simp [*]; done)), H', ⟨by have := HJ1.out; have := HK2.out; omega⟩, by repeat (first | exact Drawn0.refl _ | apply Drawn0.step)⟩
     replace c13 := Bool.eq_false_iff.mpr c13;subst c13;have H1 := H;rw [if_neg (show ¬ (false = true) by decide)] at H1;clear H;have H := H1;clear H1;replace H := Option.bind_eq_some_iff.mp H;obtain ⟨t124, A150, H⟩ := H
     try dsimp only at H
     have A15 := aS_ A150;clear A150;by_cases c16 : t124 = true
     ·subst c16;have H1 := H;rw [if_pos rfl] at H1;clear H;have H := H1;clear H1;have H' := aS_ H;clear H;have p11 : 0 ≤ (qa : Int) := of_decide_eq_true (by first | (with_reducible assumption) | assumption);have q11 : qa < (a0.size : Int) := of_decide_eq_true (by first | (with_reducible assumption) | assumption);have hx11 := bt_at a0 qa;replace p11 := eq_true p11;replace q11 := eq_true q11
      go_wp2_with (first | ((with_reducible refine gate_callee (f := 47) rfl ?_); refine goesL_ (some 27) rfl rfl Tryd.func47 (by kernel_rfl) rfl #[.int .u8 (bt a0 qa)] rfl (by (try simp only [List.map_toArray, List.map_cons, List.map_nil]); first | done | rfl | (simp only [List.length_drop, List.length_take]; rfl)) ?_; (with_reducible refine (headgateref03_letter.calls (bt a0 qa) false _ A12.out).mono ?_); rintro e w' ⟨rfl, ⟨nd, rfl⟩⟩; refine ⟨_, rfl, ?_⟩; have p14 : 0 ≤ (qa : Int) := of_decide_eq_true (by first | (with_reducible assumption) | assumption); have q14 : qa < (a0.size : Int) := of_decide_eq_true (by first | (with_reducible assumption) | assumption); have hx14 := bt_at a0 qa; replace p14 := eq_true p14; replace q14 := eq_true q14) | (go_at_call 48; (with_reducible refine (headgateref03_digit.calls (bt a0 qa) true _ A15.out).mono ?_); rintro e w' ⟨rfl, ⟨nd, rfl⟩⟩))
      go_roundg k2
      case measure => have := HJ1.out; have := HK2.out; omega
      case rel => exact ⟨(wrap64 (qa + 1)), (by first | rfl | (simp; done) | (simp [*]; done)), H', ⟨by have := HJ1.out; have := HK2.out; omega⟩, by repeat (first | exact Drawn0.refl _ | apply Drawn0.step)⟩
     replace c16 := Bool.eq_false_iff.mpr c16;subst c16;have H1 := H;rw [if_neg (show ¬ (false = true) by decide)] at H1;clear H;have H := H1;clear H1;by_cases c18 : (bt a0 qa) = 46
     ·rw [if_pos c18] at H;have c18b0 : ((bt a0 qa) == 46) = true := beq_iff_eq.mpr c18;have c18b1 : ((bt a0 qa) != 46) = false := bne_eq_false_iff_eq.mpr c18;clear c18;have H' := aS_ H;clear H;have p11 : 0 ≤ (qa : Int) := of_decide_eq_true (by first | (with_reducible assumption) | assumption);have q11 : qa < (a0.size : Int) := of_decide_eq_true (by first | (with_reducible assumption) | assumption);have hx11 := bt_at a0 qa;replace p11 := eq_true p11;replace q11 := eq_true q11
      go_wp2_with (first | ((with_reducible refine gate_callee (f := 47) rfl ?_); refine goesL_ (some 27) rfl rfl Tryd.func47 (by kernel_rfl) rfl #[.int .u8 (bt a0 qa)] rfl (by (try simp only [List.map_toArray, List.map_cons, List.map_nil]); first | done | rfl | (simp only [List.length_drop, List.length_take]; rfl)) ?_; (with_reducible refine (headgateref03_letter.calls (bt a0 qa) false _ A12.out).mono ?_); rintro e w' ⟨rfl, ⟨nd, rfl⟩⟩; refine ⟨_, rfl, ?_⟩; have p14 : 0 ≤ (qa : Int) := of_decide_eq_true (by first | (with_reducible assumption) | assumption); have q14 : qa < (a0.size : Int) := of_decide_eq_true (by first | (with_reducible assumption) | assumption); have hx14 := bt_at a0 qa; replace p14 := eq_true p14; replace q14 := eq_true q14) | (go_at_call 48; (with_reducible refine (headgateref03_digit.calls (bt a0 qa) false _ A15.out).mono ?_); rintro e w' ⟨rfl, ⟨nd, rfl⟩⟩; have p17 : 0 ≤ (qa : Int) := of_decide_eq_true (by first | (with_reducible assumption) | assumption); have q17 : qa < (a0.size : Int) := of_decide_eq_true (by first | (with_reducible assumption) | assumption); have hx17 := bt_at a0 qa; replace p17 := eq_true p17; replace q17 := eq_true q17))
      go_roundg k2
      case measure => have := HJ1.out; have := HK2.out; omega
      case rel => exact ⟨(wrap64 (qa + 1)), (by first | rfl | (simp; done) | (simp [*]; done)), H', ⟨by have := HJ1.out; have := HK2.out; omega⟩, by repeat (first | exact Drawn0.refl _ | apply Drawn0.step)⟩
     rw [if_neg c18] at H;have c18b0 : ((bt a0 qa) == 46) = false := beq_eq_false_iff_ne.mpr c18;have c18b1 : ((bt a0 qa) != 46) = true := bne_iff_ne.mpr c18;by_cases c20 : (bt a0 qa) = 45
     ·rw [if_pos c20] at H;have c20b0 : ((bt a0 qa) == 45) = true := beq_iff_eq.mpr c20;have c20b1 : ((bt a0 qa) != 45) = false := bne_eq_false_iff_eq.mpr c20;clear c20;have H' := aS_ H;clear H;have p11 : 0 ≤ (qa : Int) := of_decide_eq_true (by first | (with_reducible assumption) | assumption);have q11 : qa < (a0.size : Int) := of_decide_eq_true (by first | (with_reducible assumption) | assumption);have hx11 := bt_at a0 qa;replace p11 := eq_true p11;replace q11 := eq_true q11
      go_wp2_with (first | ((with_reducible refine gate_callee (f := 47) rfl ?_); refine goesL_ (some 27) rfl rfl Tryd.func47 (by kernel_rfl) rfl #[.int .u8 (bt a0 qa)] rfl (by (try simp only [List.map_toArray, List.map_cons, List.map_nil]); first | done | rfl | (simp only [List.length_drop, List.length_take]; rfl)) ?_; (with_reducible refine (headgateref03_letter.calls (bt a0 qa) false _ A12.out).mono ?_); rintro e w' ⟨rfl, ⟨nd, rfl⟩⟩; refine ⟨_, rfl, ?_⟩; have p14 : 0 ≤ (qa : Int) := of_decide_eq_true (by first | (with_reducible assumption) | assumption); have q14 : qa < (a0.size : Int) := of_decide_eq_true (by first | (with_reducible assumption) | assumption); have hx14 := bt_at a0 qa; replace p14 := eq_true p14; replace q14 := eq_true q14) | (go_at_call 48; (with_reducible refine (headgateref03_digit.calls (bt a0 qa) false _ A15.out).mono ?_); rintro e w' ⟨rfl, ⟨nd, rfl⟩⟩; have p17 : 0 ≤ (qa : Int) := of_decide_eq_true (by first | (with_reducible assumption) | assumption); have q17 : qa < (a0.size : Int) := of_decide_eq_true (by first | (with_reducible assumption) | assumption); have hx17 := bt_at a0 qa; replace p17 := eq_true p17; replace q17 := eq_true q17; have p19 : 0 ≤ (qa : Int) := of_decide_eq_true (by first | (with_reducible assumption) | assumption); have q19 : qa < (a0.size : Int) := of_decide_eq_true (by first | (with_reducible assumption) | assumption); have hx19 := bt_at a0 qa; replace p19 := eq_true p19; replace q19 := eq_true q19))
      go_roundg k2
      case measure => have := HJ1.out; have := HK2.out; omega
      case rel => exact ⟨(wrap64 (qa + 1)), (by first | rfl | (simp; done) | (simp [*]; done)), H', ⟨by have := HJ1.out; have := HK2.out; omega⟩, by repeat (first | exact Drawn0.refl _ | apply Drawn0.step)⟩
     rw [if_neg c20] at H;have c20b0 : ((bt a0 qa) == 45) = false := beq_eq_false_iff_ne.mpr c20;have c20b1 : ((bt a0 qa) != 45) = true := bne_iff_ne.mpr c20;refine neg_first (p := ((bt a0 qa) = 58)) (fun c22 => ?_) (fun c22 => ?_)
     ·rw [if_neg c22] at H;have c22b0 : ((bt a0 qa) == 58) = false := beq_eq_false_iff_ne.mpr c22;have c22b1 : ((bt a0 qa) != 58) = true := bne_iff_ne.mpr c22;obtain rfl := Option.some.inj H;have p11 : 0 ≤ (qa : Int) := of_decide_eq_true (by first | (with_reducible assumption) | assumption);have q11 : qa < (a0.size : Int) := of_decide_eq_true (by first | (with_reducible assumption) | assumption);have hx11 := bt_at a0 qa;replace p11 := eq_true p11;replace q11 := eq_true q11
      go_wp2_with (first | ((with_reducible refine gate_callee (f := 47) rfl ?_); refine goesL_ (some 27) rfl rfl Tryd.func47 (by kernel_rfl) rfl #[.int .u8 (bt a0 qa)] rfl (by (try simp only [List.map_toArray, List.map_cons, List.map_nil]); first | done | rfl | (simp only [List.length_drop, List.length_take]; rfl)) ?_; (with_reducible refine (headgateref03_letter.calls (bt a0 qa) false _ A12.out).mono ?_); rintro e w' ⟨rfl, ⟨nd, rfl⟩⟩; refine ⟨_, rfl, ?_⟩; have p14 : 0 ≤ (qa : Int) := of_decide_eq_true (by first | (with_reducible assumption) | assumption); have q14 : qa < (a0.size : Int) := of_decide_eq_true (by first | (with_reducible assumption) | assumption); have hx14 := bt_at a0 qa; replace p14 := eq_true p14; replace q14 := eq_true q14) | (go_at_call 48; (with_reducible refine (headgateref03_digit.calls (bt a0 qa) false _ A15.out).mono ?_); rintro e w' ⟨rfl, ⟨nd, rfl⟩⟩; have p17 : 0 ≤ (qa : Int) := of_decide_eq_true (by first | (with_reducible assumption) | assumption); have q17 : qa < (a0.size : Int) := of_decide_eq_true (by first | (with_reducible assumption) | assumption); have hx17 := bt_at a0 qa; replace p17 := eq_true p17; replace q17 := eq_true q17; have p19 : 0 ≤ (qa : Int) := of_decide_eq_true (by first | (with_reducible assumption) | assumption); have q19 : qa < (a0.size : Int) := of_decide_eq_true (by first | (with_reducible assumption) | assumption); have hx19 := bt_at a0 qa; replace p19 := eq_true p19; replace q19 := eq_true q19; have p21 : 0 ≤ (qa : Int) := of_decide_eq_true (by first | (with_reducible assumption) | assumption); have q21 : qa < (a0.size : Int) := of_decide_eq_true (by first | (with_reducible assumption) | assumption); have hx21 := bt_at a0 qa; replace p21 := eq_true p21; replace q21 := eq_true q21))
      go_ret;exact ⟨by first | rfl | (simp; done) | (simp [*]; done), by repeat (first | exact Drawn0.refl _ | apply Drawn0.step)⟩
     rw [if_pos c22] at H;have c22b0 : ((bt a0 qa) == 58) = true := beq_iff_eq.mpr c22;have c22b1 : ((bt a0 qa) != 58) = false := bne_eq_false_iff_eq.mpr c22;clear c22;have H' := aS_ H;clear H;have p11 : 0 ≤ (qa : Int) := of_decide_eq_true (by first | (with_reducible assumption) | assumption);have q11 : qa < (a0.size : Int) := of_decide_eq_true (by first | (with_reducible assumption) | assumption);have hx11 := bt_at a0 qa;replace p11 := eq_true p11;replace q11 := eq_true q11
     go_wp2_with (first | ((with_reducible refine gate_callee (f := 47) rfl ?_); refine goesL_ (some 27) rfl rfl Tryd.func47 (by kernel_rfl) rfl #[.int .u8 (bt a0 qa)] rfl (by (try simp only [List.map_toArray, List.map_cons, List.map_nil]); first | done | rfl | (simp only [List.length_drop, List.length_take]; rfl)) ?_; (with_reducible refine (headgateref03_letter.calls (bt a0 qa) false _ A12.out).mono ?_); rintro e w' ⟨rfl, ⟨nd, rfl⟩⟩; refine ⟨_, rfl, ?_⟩; have p14 : 0 ≤ (qa : Int) := of_decide_eq_true (by first | (with_reducible assumption) | assumption); have q14 : qa < (a0.size : Int) := of_decide_eq_true (by first | (with_reducible assumption) | assumption); have hx14 := bt_at a0 qa; replace p14 := eq_true p14; replace q14 := eq_true q14) | (go_at_call 48; (with_reducible refine (headgateref03_digit.calls (bt a0 qa) false _ A15.out).mono ?_); rintro e w' ⟨rfl, ⟨nd, rfl⟩⟩; have p17 : 0 ≤ (qa : Int) := of_decide_eq_true (by first | (with_reducible assumption) | assumption); have q17 : qa < (a0.size : Int) := of_decide_eq_true (by first | (with_reducible assumption) | assumption); have hx17 := bt_at a0 qa; replace p17 := eq_true p17; replace q17 := eq_true q17; have p19 : 0 ≤ (qa : Int) := of_decide_eq_true (by first | (with_reducible assumption) | assumption); have q19 : qa < (a0.size : Int) := of_decide_eq_true (by first | (with_reducible assumption) | assumption); have hx19 := bt_at a0 qa; replace p19 := eq_true p19; replace q19 := eq_true q19; have p21 : 0 ≤ (qa : Int) := of_decide_eq_true (by first | (with_reducible assumption) | assumption); have q21 : qa < (a0.size : Int) := of_decide_eq_true (by first | (with_reducible assumption) | assumption); have hx21 := bt_at a0 qa; replace p21 := eq_true p21; replace q21 := eq_true q21))
     go_roundg k2
     case measure => have := HJ1.out; have := HK2.out; omega
     case rel => exact ⟨(wrap64 (qa + 1)), (by first | rfl | (simp; done) | (simp [*]; done)), H', ⟨by have := HJ1.out; have := HK2.out; omega⟩, by repeat (first | exact Drawn0.refl _ | apply Drawn0.step)⟩
def headgateref10_Type.f (a0 : Int) : Option (Bool) := if a0 ≥ 1 then (some (decide (a0 ≤ 6))) else (some false)
theorem headgateref10_Type.calls (a0 : Int) (r : Bool) (w : World) (h : headgateref10_Type.f a0 = some r) :
  Calls Tryd.prog 38 #[.int .i64 a0] w fun e w' => e = .returned (.bool r) ∧ Drawn0 w w' := by
 have H : (if a0 ≥ 1 then (some (decide (a0 ≤ 6))) else (some false)) = some r := h;clear h;by_cases c2 : a0 ≥ 1
 ·rw [if_pos c2] at H;have c2b0 : decide (1 ≤ a0) = true := decide_eq_true c2;clear c2;obtain rfl := Option.some.inj H;go_enter Tryd.func38, Tryd.ntmps38;go_wp2;go_ret;exact ⟨by first | rfl | (simp; done) | (simp [*]; done), by repeat (first | exact Drawn0.refl _ | apply Drawn0.step)⟩
 ·rw [if_neg c2] at H;have c2b0 : decide (1 ≤ a0) = false := decide_eq_false c2;clear c2;obtain rfl := Option.some.inj H;go_enter Tryd.func38, Tryd.ntmps38;go_wp2;go_ret;exact ⟨by first | rfl | (simp; done) | (simp [*]; done), by repeat (first | exact Drawn0.refl _ | apply Drawn0.step)⟩
def headgateref11_alone.f (a0 : Int) : Option (Bool) := if a0 ≥ 1 then (some (decide (a0 ≤ 4))) else (some false)
theorem headgateref11_alone.calls (a0 : Int) (r : Bool) (w : World) (h : headgateref11_alone.f a0 = some r) :
  Calls Tryd.prog 43 #[.int .i64 a0] w fun e w' => e = .returned (.bool r) ∧ Drawn0 w w' := by
 have H : (if a0 ≥ 1 then (some (decide (a0 ≤ 4))) else (some false)) = some r := h;clear h;by_cases c2 : a0 ≥ 1
 ·rw [if_pos c2] at H;have c2b0 : decide (1 ≤ a0) = true := decide_eq_true c2;clear c2;obtain rfl := Option.some.inj H;go_enter Tryd.func43, Tryd.ntmps43;go_wp2;go_ret;exact ⟨by first | rfl | (simp; done) | (simp [*]; done), by repeat (first | exact Drawn0.refl _ | apply Drawn0.step)⟩
 ·rw [if_neg c2] at H;have c2b0 : decide (1 ≤ a0) = false := decide_eq_false c2;clear c2;obtain rfl := Option.some.inj H;go_enter Tryd.func43, Tryd.ntmps43;go_wp2;go_ret;exact ⟨by first | rfl | (simp; done) | (simp [*]; done), by repeat (first | exact Drawn0.refl _ | apply Drawn0.step)⟩
def headgateref10_Registered.l0 : Nat → ByteArray → Int → List (S53) → Int → ByteArray → Int → Bool → Option (Bool)
  | 0, _, _, _, _, _, _, _ => none
  | k + 1, x1, x5, x126000, x126001, x126002, x126003, x126004 => if x5 < (x126000.length : Int) then (if 0 ≤ x5 then (if ((rd_T53 x126000 x5).f0).toList = x1.toList then (some true) else (headgateref10_Registered.l0 k x1 (wrap64 (x5 + 1)) x126000 x126001 x126002 x126003 x126004)) else (none)) else (some false)
def headgateref10_Registered.f (k : Nat) (l0_0 : List (S53)) (a0_1 : Int) (a0_2 : ByteArray) (a0_3 : Int) (a0_4 : Bool) (a1 : ByteArray) : Option (Bool) := headgateref10_Registered.l0 k a1 0 l0_0 a0_1 a0_2 a0_3 a0_4
theorem headgateref10_Registered.mono_l : ∀ k, (∀ y0 y1 y2 y3 y4 y5 y6, LeO (headgateref10_Registered.l0 k y0 y1 y2 y3 y4 y5 y6) (headgateref10_Registered.l0 (k + 1) y0 y1 y2 y3 y4 y5 y6))
 | 0 => fun _ _ _ _ _ _ _ r h => by simp [headgateref10_Registered.l0] at h
 | k + 1 => by
  have ih0 := headgateref10_Registered.mono_l k
  ·intro y0 y1 y2 y3 y4 y5 y6
   unfold headgateref10_Registered.l0
   repeat' first
   | (with_reducible exact ih0 _ _ _ _ _ _ _)
   | (with_reducible exact LeO.refl _)
   | (with_reducible exact LeO.none _)
   | (with_reducible refine LeO.ite ?_ ?_)
   | (with_reducible refine LeO.bind ?_ (fun _ => ?_))
   | exact ih0 _ _ _ _ _ _ _
   | exact LeO.none _
   | refine LeO.ite ?_ ?_
   | refine LeO.bind ?_ (fun _ => ?_)
theorem headgateref10_Registered.mono : ∀ a0 a1 a2 a3 a4 a5 k, LeO (headgateref10_Registered.f k a0 a1 a2 a3 a4 a5) (headgateref10_Registered.f (k + 1) a0 a1 a2 a3 a4 a5) := by
 intro a0 a1 a2 a3 a4 a5 k;have ih0 := headgateref10_Registered.mono_l k;unfold headgateref10_Registered.f
 repeat' first
   | (with_reducible exact ih0 _ _ _ _ _ _ _)
   | (with_reducible exact LeO.refl _)
   | (with_reducible exact LeO.none _)
   | (with_reducible refine LeO.ite ?_ ?_)
   | (with_reducible refine LeO.bind ?_ (fun _ => ?_))
   | exact ih0 _ _ _ _ _ _ _
   | exact LeO.none _
   | refine LeO.ite ?_ ?_
   | refine LeO.bind ?_ (fun _ => ?_)
theorem headgateref10_Registered.calls (k : Nat) (A0_0 : Option Addr) (c0_0 : Nat) (l0_0 : List (S53)) (a0_1 : Int) (a0_2 : ByteArray) (a0_3 : Int) (a0_4 : Bool) (a1 : ByteArray) (r : Bool) (w : World) (hr0_0 : Kd.C k53 w A0_0 l0_0.length l0_0) (hc0_0 : l0_0.length ≤ c0_0) (h : headgateref10_Registered.f k l0_0 a0_1 a0_2 a0_3 a0_4 a1 = some r) :
  Calls Tryd.prog 44 #[.agg #[.slice A0_0 l0_0.length c0_0, .int .i64 a0_1, .string a0_2, .int .u32 a0_3, .bool a0_4], .string a1] w fun e w' => e = .returned (.bool r) ∧ Below w.heap.size w w' := by
 have hu27 := Tryd.underlying27;have HR0_0 := aS_ hr0_0;have HC0_0 := aS_ hc0_0;clear hr0_0 hc0_0;have HB := aS_ (Below.refl w.heap.size w);have H : (headgateref10_Registered.l0 k a1 0 l0_0 a0_1 a0_2 a0_3 a0_4) = some r := h;clear h;have H' := aS_ H;clear H;go_enter Tryd.func44, Tryd.ntmps44
 go_wp2_with (first | ((with_reducible refine gate_dst (N := 2) rfl ?_); refine bX_ (N := 2) (cs := #[.slice A0_0 l0_0.length c0_0, .int .i64 a0_1, .string a0_2, .int .u32 a0_3, .bool a0_4]) (t := 27) ?hr ?_; (case hr => first | (go_simp; done) | (go_simp; rfl)); intro gb125 hg w3 hbox hb; have n0_ := aS_ (below_step (by repeat (first | (with_reducible first | exact HB.out | apply below_alloc | apply pw_below_drewN | apply below_drew1) | exact HB.out)) hb); have n1_ := aS_ (hbox); have n2_ := aS_ ((by rw [hg]; exact (below_size (by repeat (first | (with_reducible first | exact HB.out | apply below_alloc | apply pw_below_drewN | apply below_drew1) | exact HB.out))) : w.heap.size ≤ gb125)); have n3_ := aS_ ((by rw [hg]; exact (below_size (by repeat (first | (with_reducible first | exact HB.out | apply below_alloc | apply pw_below_drewN | apply below_drew1) | exact HB.out))) : w.heap.size ≤ gb125)); clear HB; have HB := n0_; have BK125 := n1_; have GW125 := n2_; have GE125 := n3_; clear n0_ n1_ n2_ n3_; clear hb hbox hg))
 go_loopg [5] k (fun kq v5 w' => ∃ (x5_1 : Int), v5 = .int .i64 x5_1 ∧ Aside0 (headgateref10_Registered.l0 kq a1 x5_1 l0_0 a0_1 a0_2 a0_3 a0_4 = some r) ∧ Aside0 (kq ≤ k) ∧ Aside0 (w'.heap[gb125]? = some (.cells #[(.slice A0_0 l0_0.length c0_0), .int .i64 a0_1, .string a0_2, .int .u32 a0_3, .bool a0_4] 27 (0, 0))) ∧ Aside0 (Below w.heap.size w w'))
 case atStart => exact ⟨(0), (by first | rfl | (simp; done) | (simp [*]; done)), H', ⟨Nat.le_refl _⟩, ⟨by (with_reducible repeat (first | refine blk_drewN ?_ _ | refine blk_drew ?_ | refine blk_alloc ?_ _)); exact BK125.out⟩, ⟨by repeat (first | (with_reducible first | exact HB.out | apply below_alloc | apply pw_below_drewN | apply below_drew1 | refine below_set ?_ GE125.out) | exact HB.out)⟩⟩
 case round =>
  clear H'
  try clear p2
  obtain ⟨x5_1, rfl, HA, HK1, BK125, HB⟩ := hrel
  cases gk with
  | zero => exact absurd HA.out (by simp [headgateref10_Registered.l0])
  | succ k1 =>
   have H := HA.out;clear HA;simp only [headgateref10_Registered.l0] at H;by_cases c4 : x5_1 < (l0_0.length : Int)
   ·rw [if_pos c4] at H;have c4b0 : decide (x5_1 < (l0_0.length : Int)) = true := decide_eq_true c4;clear c4;by_cases c5 : 0 ≤ x5_1
    ·rw [if_pos c5] at H;have c5b0 : decide (0 ≤ x5_1) = true := decide_eq_true c5;clear c5;by_cases c6 : ((rd_T53 l0_0 x5_1).f0).toList = a1.toList
     ·rw [if_pos c6] at H;have c6b0 : (((rd_T53 l0_0 x5_1).f0).toList == a1.toList) = true := beq_iff_eq.mpr c6;have c6b1 : (((rd_T53 l0_0 x5_1).f0).toList != a1.toList) = false := bne_eq_false_iff_eq.mpr c6;clear c6;obtain rfl := Option.some.inj H;have hcz7_0 : wr.cell? ⟨gb125, 0, none⟩ = some (.slice A0_0 l0_0.length c0_0) := bC_ BK125.out 0 rfl;have hcz7_1 : wr.cell? ⟨gb125, 1, none⟩ = some (.int .i64 a0_1) := bC_ BK125.out 1 rfl;have hcz7_2 : wr.cell? ⟨gb125, 2, none⟩ = some (.string a0_2) := bC_ BK125.out 2 rfl;have hcz7_3 : wr.cell? ⟨gb125, 3, none⟩ = some (.int .u32 a0_3) := bC_ BK125.out 3 rfl;have hcz7_4 : wr.cell? ⟨gb125, 4, none⟩ = some (.bool a0_4) := bC_ BK125.out 4 rfl;have hfz7_0 := bF_ BK125.out 0;have hfz7_1 := bF_ BK125.out 1;have hfz7_2 := bF_ BK125.out 2;have hfz7_3 := bF_ BK125.out 3;have hfz7_4 := bF_ BK125.out 4;have p126 : 0 ≤ (x5_1 : Int) := of_decide_eq_true (by first | (with_reducible assumption) | assumption);have q126 : x5_1 < (l0_0.length : Int) := of_decide_eq_true (by first | (with_reducible assumption) | assumption);obtain ⟨ad126, e126, hx126_0, hx126_1⟩ := at_T53 HR0_0.out x5_1 p126 q126;cases e126;replace hx126_0 := cB_ HB.out hx126_0;replace hx126_1 := cB_ HB.out hx126_1;replace p126 := eq_true p126;replace q126 := eq_true q126;go_wp2;go_ret;exact ⟨by first | rfl | (simp [errW_none, errW_some] <;> rfl) | (simp [*, errW_none, errW_some] <;> rfl) | (simp [bt, *]; done) | (unfold bt; simp [*]; done), by repeat (first | (with_reducible first | exact HB.out | apply below_alloc | apply pw_below_drewN | apply below_drew1 | refine below_set ?_ GE125.out) | exact HB.out)⟩
     ·rw [if_neg c6] at H;have c6b0 : (((rd_T53 l0_0 x5_1).f0).toList == a1.toList) = false := beq_eq_false_iff_ne.mpr c6;have c6b1 : (((rd_T53 l0_0 x5_1).f0).toList != a1.toList) = true := bne_iff_ne.mpr c6;have H' := aS_ H;clear H;have hcz8_0 : wr.cell? ⟨gb125, 0, none⟩ = some (.slice A0_0 l0_0.length c0_0) := bC_ BK125.out 0 rfl;have hcz8_1 : wr.cell? ⟨gb125, 1, none⟩ = some (.int .i64 a0_1) := bC_ BK125.out 1 rfl;have hcz8_2 : wr.cell? ⟨gb125, 2, none⟩ = some (.string a0_2) := bC_ BK125.out 2 rfl;have hcz8_3 : wr.cell? ⟨gb125, 3, none⟩ = some (.int .u32 a0_3) := bC_ BK125.out 3 rfl;have hcz8_4 : wr.cell? ⟨gb125, 4, none⟩ = some (.bool a0_4) := bC_ BK125.out 4 rfl;have hfz8_0 := bF_ BK125.out 0;have hfz8_1 := bF_ BK125.out 1;have hfz8_2 := bF_ BK125.out 2;have hfz8_3 := bF_ BK125.out 3;have hfz8_4 := bF_ BK125.out 4;have p126 : 0 ≤ (x5_1 : Int) := of_decide_eq_true (by first | (with_reducible assumption) | assumption);have q126 : x5_1 < (l0_0.length : Int) := of_decide_eq_true (by first | (with_reducible assumption) | assumption);obtain ⟨ad126, e126, hx126_0, hx126_1⟩ := at_T53 HR0_0.out x5_1 p126 q126;cases e126;replace hx126_0 := cB_ HB.out hx126_0;replace hx126_1 := cB_ HB.out hx126_1;replace p126 := eq_true p126;replace q126 := eq_true q126;go_wp2
      go_roundg k1
      case measure => have := HK1.out; omega
      case rel => exact ⟨(wrap64 (x5_1 + 1)), (by first | rfl | (simp; done) | (simp [*]; done)), H', ⟨by have := HK1.out; omega⟩, ⟨by (with_reducible repeat (first | refine blk_drewN ?_ _ | refine blk_drew ?_ | refine blk_alloc ?_ _)); exact BK125.out⟩, ⟨by repeat (first | (with_reducible first | exact HB.out | apply below_alloc | apply pw_below_drewN | apply below_drew1 | refine below_set ?_ GE125.out) | exact HB.out)⟩⟩
    ·rw [if_neg c5] at H;exact absurd H (by simp)
   ·rw [if_neg c4] at H;have c4b0 : decide (x5_1 < (l0_0.length : Int)) = false := decide_eq_false c4;clear c4;obtain rfl := Option.some.inj H;have hcz9_0 : wr.cell? ⟨gb125, 0, none⟩ = some (.slice A0_0 l0_0.length c0_0) := bC_ BK125.out 0 rfl;have hcz9_1 : wr.cell? ⟨gb125, 1, none⟩ = some (.int .i64 a0_1) := bC_ BK125.out 1 rfl;have hcz9_2 : wr.cell? ⟨gb125, 2, none⟩ = some (.string a0_2) := bC_ BK125.out 2 rfl;have hcz9_3 : wr.cell? ⟨gb125, 3, none⟩ = some (.int .u32 a0_3) := bC_ BK125.out 3 rfl;have hcz9_4 : wr.cell? ⟨gb125, 4, none⟩ = some (.bool a0_4) := bC_ BK125.out 4 rfl;have hfz9_0 := bF_ BK125.out 0;have hfz9_1 := bF_ BK125.out 1;have hfz9_2 := bF_ BK125.out 2;have hfz9_3 := bF_ BK125.out 3;have hfz9_4 := bF_ BK125.out 4;go_wp2;go_ret;exact ⟨by first | rfl | (simp [errW_none, errW_some] <;> rfl) | (simp [*, errW_none, errW_some] <;> rfl) | (simp [bt, *]; done) | (unfold bt; simp [*]; done), by repeat (first | (with_reducible first | exact HB.out | apply below_alloc | apply pw_below_drewN | apply below_drew1 | refine below_set ?_ GE125.out) | exact HB.out)⟩
end Go.Proofs.YtjogkfcjlljjcaaDoor.P
