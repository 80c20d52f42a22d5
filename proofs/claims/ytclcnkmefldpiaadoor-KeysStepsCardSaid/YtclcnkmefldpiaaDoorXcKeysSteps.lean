-- joined by this session's wip/tools/pack.py: words of the kit's print, cut to what the claim names; functions printed by a patched copy of the printer; walks and lemmas of this session; Lean checks it
import Derived.Test.YtclcnkmefldpiaaDoorBc3
import Derived.WalkKit
import Derived.Lib.IndexLaws
import Derived.Lib.IndexBytes
import Derived.Lib.Split
import Derived.RegionTactic
import Derived.Deep.QuietTactic
import Derived.BigQuiet
import Derived.Maps.Own
import Derived.Maps.OwnOps
import Derived.Maps.Views
import Derived.Carry
import Derived.Lib.SliceRun
namespace Go.Proofs.YtclcnkmefldpiaaDoorW.PrintLast
open Go.Proofs.YtclcnkmefldpiaaDoorW.PrintWords (Aside0)
section
variable {P : Program} {ops : Array Oper} {Q : Exit → Act → World → Prop} {md : Region.Mode} {S : World → Prop} {ds : List Nat} {T : Bool × List (List Nat × List Nat)} {B : List Nat}
def dB (n m : Nat) : Array Bool := ((List.range n).map fun i => m.testBit i).toArray
theorem la_ {α : Type} (l : List α) (i : Nat) (a : α) : l.toArray.setIfInBounds i a = (l.set i a).toArray := by simp
theorem lb_ {α : Type} (a x : α) (l : List α) : (a :: l).set 0 x = x :: l := rfl
theorem lc_ {α : Type} (a x : α) (l : List α) (i : Nat) : (a :: l).set (i + 1) x = a :: l.set i x := rfl
theorem pon_ (i : Nat) (N : Option Tmp) {oi : Oper} {v : Value} {fuel : Nat} {l : Array Bool} {a : Act} {w : World} (l' : Array Bool) (hT : rtab md ops = T) {a' : Act} (h : wpAnyLast P md ops Q S ds fuel l' a' w)
    (hi : ops[i]? = some oi := by rfl) (hN : oi.dst = N := by rfl) (hc : anyT T l.toList l'.toList i = true := by kernel_rfl) (hQ : ∀ c a w, Q (.panic c) (a.put oi.dst v) w → Q (.panic c) a w := by exact (fun _ _ _ h => h))
    (hw : Region.wanted oi (yielded ops a.tmps) = true := by rfl) (hy : ∀ w', (execOp a.eval oi).run P w' = .ok (.value v) w' := by intro w'; go_simp; with_reducible rfl)
    (ha : a.put N v = a' := by simp only [Act.put, la_, lb_, lc_, i64_w, i32_w]; rfl) : wpAnyLast P md ops Q S ds (fuel + 1) l a w :=
  pure_ (i := i) (N := N) (v := v) l' hi hN (any_of hT hc) hQ (Or.inl ⟨hw, hy⟩) ha h
theorem pof_ (i : Nat) (N : Option Tmp) {oi : Oper} {fuel : Nat} {l : Array Bool} {a : Act} {w : World} (l' : Array Bool) (hT : rtab md ops = T) {a' : Act} (h : wpAnyLast P md ops Q S ds fuel l' a' w)
    (hi : ops[i]? = some oi := by rfl) (hN : oi.dst = N := by rfl) (hc : anyT T l.toList l'.toList i = true := by kernel_rfl) (hQ : ∀ c a w, Q (.panic c) (a.put oi.dst undef) w → Q (.panic c) a w := by exact (fun _ _ _ h => h))
    (hw : Region.wanted oi (yielded ops a.tmps) = false := by rfl)
    (ha : a.put N undef = a' := by simp only [Act.put, la_, lb_, lc_, i64_w, i32_w]; rfl) : wpAnyLast P md ops Q S ds (fuel + 1) l a w :=
  pure_ (i := i) (N := N) (v := undef) l' hi hN (any_of hT hc) hQ (Or.inr ⟨hw, rfl⟩) ha h
theorem ptk_ (i : Nat) (N : Option Tmp) {oi : Oper} {v : Value} {fuel : Nat} {l : Array Bool} {a : Act} {w : World} (l' : Array Bool) (hT : rtab md ops = T) (hB : waitsOk T.2 B = true) (hS : S w) {a' : Act} (h : wpAnyLast P md ops Q S ds fuel l' a' w)
    (hi : ops[i]? = some oi := by rfl) (hN : oi.dst = N := by rfl) (hc : takeW T B ds l.toList l'.toList i = true := by kernel_rfl) (hQ : ∀ c a w, Q (.panic c) (a.put oi.dst v) w → Q (.panic c) a w := by exact (fun _ _ _ h => h))
    (hw : Region.wanted oi (yielded ops a.tmps) = true := by rfl) (hy : ∀ w', S w' → (execOp a.eval oi).run P w' = .ok (.value v) w' := by intro w' hs_; (try dsimp only at hs_); (repeat (obtain ⟨_, hs_⟩ := hs_)); go_simp; with_reducible rfl)
    (ha : a.put N v = a' := by simp only [Act.put, la_, lb_, lc_, i64_w, i32_w]; rfl) : wpAnyLast P md ops Q S ds (fuel + 1) l a w :=
  take_ (i := i) (N := N) (v := v) l' hi hN (take_ofW hT hB hc) hQ (Or.inl ⟨hw, hy⟩) hS ha h
end
end Go.Proofs.YtclcnkmefldpiaaDoorW.PrintLast
namespace Go.Proofs.YtclcnkmefldpiaaDoor.P
open Go.RowKit Go.Proofs.YtclcnkmefldpiaaDoorW.PrintWords Go.Proofs.YtclcnkmefldpiaaDoorW.PrintLast Go.Proofs.YtclcnkmefldpiaaDoorW.PrintMore
attribute [local go_sem] max2_int min2_int max_two min_two max_three min_three max_four min_four   -- for this text's walks alone
set_option linter.unusedVariables false
set_option linter.unusedSimpArgs false
set_option linter.unnecessarySimpa false
theorem IsS23.apart {w0 W : World} {g : Nat} {f0 : Bool} {f1 : Bool} {f2 : Bool} {f3 : Bool} {f4 : Int} {f5 : Int} {f6 : ByteArray} {f7 : ByteArray} {α : Type} {d : Kd α} {e : Nat} {base : Nat} {ok : Nat → Prop} {v : Value} {xs : List α} (h : IsS23 w0 W g f0 f1 f2 f3 f4 f5 f6 f7) (ho : d.R e W base ok v xs) (ht : ∀ q, q ∈ e :: d.E → q ≠ 23) : d.R e W base (fun k => ok k ∧ k ≠ g) v xs := by
 obtain ⟨hb, hg⟩ := h
 exact Kd.R_types ho hb ht
end Go.Proofs.YtclcnkmefldpiaaDoor.P
namespace Go.Proofs.YtclcnkmefldpiaaDoor.P
open Go.RowKit Go.Proofs.YtclcnkmefldpiaaDoorW.PrintWords Go.Proofs.YtclcnkmefldpiaaDoorW.PrintLast Go.Proofs.YtclcnkmefldpiaaDoorW.PrintMore
attribute [local go_sem] max2_int min2_int max_two min_two max_three min_three max_four min_four   -- for this text's walks alone
set_option linter.unusedVariables false
set_option linter.unusedSimpArgs false
set_option linter.unnecessarySimpa false
def headgatelaw21_Own.f (a0_0 : Bool) (a0_1 : Bool) (a0_2 : Bool) (a0_3 : Bool) (a0_4 : Int) (a0_5 : Int) (a0_6 : ByteArray) (a0_7 : ByteArray) : Option (Bool × Bool × Bool × Bool × Int × Int × ByteArray × ByteArray) := some (a0_0, a0_1, a0_2, a0_3, a0_4, a0_5, a0_6, a0_7)
set_option maxHeartbeats 8000000 in
set_option maxRecDepth 100000 in
theorem headgatelaw21_Own.calls (a0_0 : Bool) (a0_1 : Bool) (a0_2 : Bool) (a0_3 : Bool) (a0_4 : Int) (a0_5 : Int) (a0_6 : ByteArray) (a0_7 : ByteArray) (r1 : Bool) (r2 : Bool) (r3 : Bool) (r4 : Bool) (r5 : Int) (r6 : Int) (r7 : ByteArray) (r8 : ByteArray) (w : World) (h : headgatelaw21_Own.f a0_0 a0_1 a0_2 a0_3 a0_4 a0_5 a0_6 a0_7 = some (r1, r2, r3, r4, r5, r6, r7, r8)) :
    Calls Tryd.prog 13 #[.agg #[.bool a0_0, .bool a0_1, .bool a0_2, .bool a0_3, .int .i64 a0_4, .int .i64 a0_5, .string a0_6, .string a0_7]] w fun e w' => e = .returned (.agg #[.bool r1, .bool r2, .bool r3, .bool r4, .int .i64 r5, .int .i64 r6, .string r7, .string r8]) ∧ Below w.heap.size w w' := by
  have hu23 := Tryd.underlying23
  have hu31 := Tryd.underlying31
  have HB := Aside0.mk (Below.refl w.heap.size w)
  have H : (some (a0_0, a0_1, a0_2, a0_3, a0_4, a0_5, a0_6, a0_7)) = some (r1, r2, r3, r4, r5, r6, r7, r8) := h
  clear h
  simp only [Option.some.injEq, Prod.mk.injEq] at H
  obtain ⟨rfl, rfl, rfl, rfl, rfl, rfl, rfl, rfl⟩ := H
  go_enter Tryd.func13, Tryd.ntmps13
  go_wp2_with (first | ((with_reducible refine gate_dst (N := 1) rfl ?_); refine box_event ?hg (N := 1) ?hd (cs := #[.bool a0_0, .bool a0_1, .bool a0_2, .bool a0_3, .int .i64 a0_4, .int .i64 a0_5, .string a0_6, .string a0_7]) (t := 23) ?hr ?_; (case hd => rfl); (case hg => rfl); (case hr => first | (go_simp; done) | (go_simp; rfl)); intro gb243 hg w2 hbox hb; have n0_ := Aside0.mk (below_step (by repeat (first | (with_reducible first | exact HB.out | apply below_alloc | apply pw_below_drewN | apply below_drew1) | exact HB.out)) hb); have n1_ := Aside0.mk (hbox); have n2_ := Aside0.mk ((by rw [hg]; exact (below_size (by repeat (first | (with_reducible first | exact HB.out | apply below_alloc | apply pw_below_drewN | apply below_drew1) | exact HB.out))) : w.heap.size ≤ gb243)); have n3_ := Aside0.mk ((by rw [hg]; exact (below_size (by repeat (first | (with_reducible first | exact HB.out | apply below_alloc | apply pw_below_drewN | apply below_drew1) | exact HB.out))) : w.heap.size ≤ gb243)); clear HB; have HB := n0_; have BK243 := n1_; have GW243 := n2_; have GE243 := n3_; clear n0_ n1_ n2_ n3_; clear hb hbox hg) | ((with_reducible refine gate_dst (N := 2) rfl ?_); refine box_event ?hg (N := 2) ?hd (cs := #[.bool false, .bool false, .bool false, .bool false, .int .i64 0, .int .i64 0, .string (⟨#[]⟩ : ByteArray), .string (⟨#[]⟩ : ByteArray)]) (t := 31) ?hr ?_; (case hd => rfl); (case hg => rfl); (case hr => first | (go_simp; done) | (go_simp; rfl)); intro gb244 hg w3 hbox hb; have n0_ := Aside0.mk (blk_below (g := gb243) (o := .cells #[.bool a0_0, .bool a0_1, .bool a0_2, .bool a0_3, .int .i64 a0_4, .int .i64 a0_5, .string a0_6, .string a0_7] 23 (0, 0)) (by (with_reducible repeat (first | refine blk_drewN ?_ _ | refine blk_drew ?_ | refine blk_alloc ?_ _)); exact BK243.out) hb); have n1_ := Aside0.mk (below_step (by repeat (first | (with_reducible first | exact HB.out | apply below_alloc | apply pw_below_drewN | apply below_drew1 | refine below_set ?_ GE243.out) | exact HB.out)) hb); have n2_ := Aside0.mk (hbox); have n3_ := Aside0.mk ((by rw [hg]; exact (below_size (by repeat (first | (with_reducible first | exact HB.out | apply below_alloc | apply pw_below_drewN | apply below_drew1 | refine below_set ?_ GE243.out) | exact HB.out))) : w.heap.size ≤ gb244)); have n4_ := Aside0.mk ((by rw [hg]; exact (below_size (by repeat (first | (with_reducible first | exact HB.out | apply below_alloc | apply pw_below_drewN | apply below_drew1 | refine below_set ?_ GE243.out) | exact HB.out))) : w.heap.size ≤ gb244)); have n5_ := Aside0.mk ((by rw [hg]; exact Nat.ne_of_lt (blk_lt (g := gb243) (o := .cells #[.bool a0_0, .bool a0_1, .bool a0_2, .bool a0_3, .int .i64 a0_4, .int .i64 a0_5, .string a0_6, .string a0_7] 23 (0, 0)) (by (with_reducible repeat (first | refine blk_drewN ?_ _ | refine blk_drew ?_ | refine blk_alloc ?_ _)); exact BK243.out)) : gb243 ≠ gb244)); have n6_ := Aside0.mk ((by rw [hg]; exact Nat.ne_of_gt (blk_lt (g := gb243) (o := .cells #[.bool a0_0, .bool a0_1, .bool a0_2, .bool a0_3, .int .i64 a0_4, .int .i64 a0_5, .string a0_6, .string a0_7] 23 (0, 0)) (by (with_reducible repeat (first | refine blk_drewN ?_ _ | refine blk_drew ?_ | refine blk_alloc ?_ _)); exact BK243.out)) : gb244 ≠ gb243)); clear BK243; clear HB; have BK243 := n0_; have HB := n1_; have BK244 := n2_; have GW244 := n3_; have GE244 := n4_; have NB243_244 := n5_; have NB244_243 := n6_; clear n0_ n1_ n2_ n3_ n4_ n5_ n6_; clear hb hbox hg; have hnb4 := NB243_244.out; have hnc4 := NB244_243.out; have hcz5_0 : w3.cell? ⟨gb243, 0, none⟩ = some (.bool a0_0) := (blk_cell BK243.out 0).trans rfl; have hcz5_1 : w3.cell? ⟨gb243, 1, none⟩ = some (.bool a0_1) := (blk_cell BK243.out 1).trans rfl; have hcz5_2 : w3.cell? ⟨gb243, 2, none⟩ = some (.bool a0_2) := (blk_cell BK243.out 2).trans rfl; have hcz5_3 : w3.cell? ⟨gb243, 3, none⟩ = some (.bool a0_3) := (blk_cell BK243.out 3).trans rfl; have hcz5_4 : w3.cell? ⟨gb243, 4, none⟩ = some (.int .i64 a0_4) := (blk_cell BK243.out 4).trans rfl; have hcz5_5 : w3.cell? ⟨gb243, 5, none⟩ = some (.int .i64 a0_5) := (blk_cell BK243.out 5).trans rfl; have hcz5_6 : w3.cell? ⟨gb243, 6, none⟩ = some (.string a0_6) := (blk_cell BK243.out 6).trans rfl; have hcz5_7 : w3.cell? ⟨gb243, 7, none⟩ = some (.string a0_7) := (blk_cell BK243.out 7).trans rfl; have hfz5_0 := blk_frozen BK243.out 0; have hfz5_1 := blk_frozen BK243.out 1; have hfz5_2 := blk_frozen BK243.out 2; have hfz5_3 := blk_frozen BK243.out 3; have hfz5_4 := blk_frozen BK243.out 4; have hfz5_5 := blk_frozen BK243.out 5; have hfz5_6 := blk_frozen BK243.out 6; have hfz5_7 := blk_frozen BK243.out 7; have hcz6_0 : w3.cell? ⟨gb244, 0, none⟩ = some (.bool false) := (blk_cell BK244.out 0).trans rfl; have hcz6_1 : w3.cell? ⟨gb244, 1, none⟩ = some (.bool false) := (blk_cell BK244.out 1).trans rfl; have hcz6_2 : w3.cell? ⟨gb244, 2, none⟩ = some (.bool false) := (blk_cell BK244.out 2).trans rfl; have hcz6_3 : w3.cell? ⟨gb244, 3, none⟩ = some (.bool false) := (blk_cell BK244.out 3).trans rfl; have hcz6_4 : w3.cell? ⟨gb244, 4, none⟩ = some (.int .i64 0) := (blk_cell BK244.out 4).trans rfl; have hcz6_5 : w3.cell? ⟨gb244, 5, none⟩ = some (.int .i64 0) := (blk_cell BK244.out 5).trans rfl; have hcz6_6 : w3.cell? ⟨gb244, 6, none⟩ = some (.string (⟨#[]⟩ : ByteArray)) := (blk_cell BK244.out 6).trans rfl; have hcz6_7 : w3.cell? ⟨gb244, 7, none⟩ = some (.string (⟨#[]⟩ : ByteArray)) := (blk_cell BK244.out 7).trans rfl; have hfz6_0 := blk_frozen BK244.out 0; have hfz6_1 := blk_frozen BK244.out 1; have hfz6_2 := blk_frozen BK244.out 2; have hfz6_3 := blk_frozen BK244.out 3; have hfz6_4 := blk_frozen BK244.out 4; have hfz6_5 := blk_frozen BK244.out 5; have hfz6_6 := blk_frozen BK244.out 6; have hfz6_7 := blk_frozen BK244.out 7))
  refine bodyPost_ret (results_cell_row rfl _ _ gb244 31 #[.bool a0_0, .bool a0_1, .bool a0_2, .bool a0_3, .int .i64 a0_4, .int .i64 a0_5, .string a0_6, .string a0_7] (0, 0) _ rfl (by (with_reducible repeat (first | refine blk_drewN ?_ _ | refine blk_drew ?_ | refine blk_alloc ?_ _)); refine blk_put (cs := #[.bool a0_0, .bool a0_1, .bool a0_2, .bool a0_3, .int .i64 a0_4, .int .i64 a0_5, .string a0_6, .string (⟨#[]⟩ : ByteArray)]) ?_ 7 _ rfl; (with_reducible repeat (first | refine blk_drewN ?_ _ | refine blk_drew ?_ | refine blk_alloc ?_ _)); refine blk_put (cs := #[.bool a0_0, .bool a0_1, .bool a0_2, .bool a0_3, .int .i64 a0_4, .int .i64 a0_5, .string (⟨#[]⟩ : ByteArray), .string (⟨#[]⟩ : ByteArray)]) ?_ 6 _ rfl; (with_reducible repeat (first | refine blk_drewN ?_ _ | refine blk_drew ?_ | refine blk_alloc ?_ _)); refine blk_put (cs := #[.bool a0_0, .bool a0_1, .bool a0_2, .bool a0_3, .int .i64 a0_4, .int .i64 0, .string (⟨#[]⟩ : ByteArray), .string (⟨#[]⟩ : ByteArray)]) ?_ 5 _ rfl; (with_reducible repeat (first | refine blk_drewN ?_ _ | refine blk_drew ?_ | refine blk_alloc ?_ _)); refine blk_put (cs := #[.bool a0_0, .bool a0_1, .bool a0_2, .bool a0_3, .int .i64 0, .int .i64 0, .string (⟨#[]⟩ : ByteArray), .string (⟨#[]⟩ : ByteArray)]) ?_ 4 _ rfl; (with_reducible repeat (first | refine blk_drewN ?_ _ | refine blk_drew ?_ | refine blk_alloc ?_ _)); refine blk_put (cs := #[.bool a0_0, .bool a0_1, .bool a0_2, .bool false, .int .i64 0, .int .i64 0, .string (⟨#[]⟩ : ByteArray), .string (⟨#[]⟩ : ByteArray)]) ?_ 3 _ rfl; (with_reducible repeat (first | refine blk_drewN ?_ _ | refine blk_drew ?_ | refine blk_alloc ?_ _)); refine blk_put (cs := #[.bool a0_0, .bool a0_1, .bool false, .bool false, .int .i64 0, .int .i64 0, .string (⟨#[]⟩ : ByteArray), .string (⟨#[]⟩ : ByteArray)]) ?_ 2 _ rfl; (with_reducible repeat (first | refine blk_drewN ?_ _ | refine blk_drew ?_ | refine blk_alloc ?_ _)); refine blk_put (cs := #[.bool a0_0, .bool false, .bool false, .bool false, .int .i64 0, .int .i64 0, .string (⟨#[]⟩ : ByteArray), .string (⟨#[]⟩ : ByteArray)]) ?_ 1 _ rfl; (with_reducible repeat (first | refine blk_drewN ?_ _ | refine blk_drew ?_ | refine blk_alloc ?_ _)); refine blk_put (cs := #[.bool false, .bool false, .bool false, .bool false, .int .i64 0, .int .i64 0, .string (⟨#[]⟩ : ByteArray), .string (⟨#[]⟩ : ByteArray)]) ?_ 0 _ rfl; (with_reducible repeat (first | refine blk_drewN ?_ _ | refine blk_drew ?_ | refine blk_alloc ?_ _)); exact BK244.out) Tryd.underlying31 rfl (by kernel_rfl)) rfl ?_
  exact ⟨by first | rfl | (simp [errW_none, errW_some] <;> rfl) | (simp [*, errW_none, errW_some] <;> rfl) | (simp [bt, *]; done) | (unfold bt; simp [*]; done), by repeat (first | (with_reducible first | exact HB.out | apply below_alloc | apply pw_below_drewN | apply below_drew1 | refine below_set ?_ GE243.out | refine below_set ?_ GE244.out) | exact HB.out)⟩
def headgateref21_Same.f (a0_0 : Bool) (a0_1 : Bool) (a0_2 : Bool) (a0_3 : Bool) (a0_4 : Int) (a0_5 : Int) (a0_6 : ByteArray) (a0_7 : ByteArray) (a1_0 : Bool) (a1_1 : Bool) (a1_2 : Bool) (a1_3 : Bool) (a1_4 : Int) (a1_5 : Int) (a1_6 : ByteArray) (a1_7 : ByteArray) : Option (Bool) := if (a0_0 == a1_0) = true then (if (a0_1 == a1_1) = true then (if (a0_2 == a1_2) = true then (if (a0_3 == a1_3) = true then (if a0_4 = a1_4 then (if a0_5 = a1_5 then (if a0_6.toList = a1_6.toList then (some (a0_7.toList == a1_7.toList)) else (some false)) else (some false)) else (some false)) else (some false)) else (some false)) else (some false)) else (some false)
set_option maxHeartbeats 8000000 in
set_option maxRecDepth 100000 in
theorem headgateref21_Same.calls (a0_0 : Bool) (a0_1 : Bool) (a0_2 : Bool) (a0_3 : Bool) (a0_4 : Int) (a0_5 : Int) (a0_6 : ByteArray) (a0_7 : ByteArray) (a1_0 : Bool) (a1_1 : Bool) (a1_2 : Bool) (a1_3 : Bool) (a1_4 : Int) (a1_5 : Int) (a1_6 : ByteArray) (a1_7 : ByteArray) (r : Bool) (w : World) (h : headgateref21_Same.f a0_0 a0_1 a0_2 a0_3 a0_4 a0_5 a0_6 a0_7 a1_0 a1_1 a1_2 a1_3 a1_4 a1_5 a1_6 a1_7 = some r) :
  Calls Tryd.prog 14 #[.agg #[.bool a0_0, .bool a0_1, .bool a0_2, .bool a0_3, .int .i64 a0_4, .int .i64 a0_5, .string a0_6, .string a0_7], .agg #[.bool a1_0, .bool a1_1, .bool a1_2, .bool a1_3, .int .i64 a1_4, .int .i64 a1_5, .string a1_6, .string a1_7]] w fun e w' => e = .returned (.bool r) ∧ Below w.heap.size w w' := by
 have hu31 := Tryd.underlying31
 have HB := Aside0.mk (Below.refl w.heap.size w)
 have H : (if (a0_0 == a1_0) = true then (if (a0_1 == a1_1) = true then (if (a0_2 == a1_2) = true then (if (a0_3 == a1_3) = true then (if a0_4 = a1_4 then (if a0_5 = a1_5 then (if a0_6.toList = a1_6.toList then (some (a0_7.toList == a1_7.toList)) else (some false)) else (some false)) else (some false)) else (some false)) else (some false)) else (some false)) else (some false)) = some r := h
 clear h
 refine neg_first (p := ((a0_0 == a1_0) = true)) (fun c3 => ?_) (fun c3 => ?_)
 ·rw [if_neg c3] at H
  have c3b0 : (a0_0 == a1_0) = false := by simpa using c3
  (try (have c3b1 : decide (a0_0 = a1_0) = false := by simpa using c3))
  (try (have c3b2 : (a0_0 == a1_0) = false := by simpa using c3))
  (try (have c3b3 : ¬ (a0_0 = a1_0) := by simpa using c3))
  clear c3
  obtain rfl := Option.some.inj H
  go_enter Tryd.func14, Tryd.ntmps14
  go_wp2_with (first | ((with_reducible refine gate_dst (N := 2) rfl ?_); refine box_event ?hg (N := 2) ?hd (cs := #[.bool a0_0, .bool a0_1, .bool a0_2, .bool a0_3, .int .i64 a0_4, .int .i64 a0_5, .string a0_6, .string a0_7]) (t := 31) ?hr ?_; (case hd => rfl); (case hg => rfl); (case hr => first | (go_simp; done) | (go_simp; rfl)); intro gb245 hg w45 hbox hb; have n0_ := Aside0.mk (below_step (hb_ HB) hb); have n1_ := Aside0.mk (hbox); have n2_ := Aside0.mk ((by rw [hg]; exact (below_size (hb_ HB)) : w.heap.size ≤ gb245)); have n3_ := Aside0.mk ((by rw [hg]; exact (below_size (hb_ HB)) : w.heap.size ≤ gb245)); clear HB; have HB := n0_; have BK245 := n1_; have GW245 := n2_; have GE245 := n3_; clear n0_ n1_ n2_ n3_; clear hb hbox hg) | ((with_reducible refine gate_dst (N := 3) rfl ?_); refine box_event ?hg (N := 3) ?hd (cs := #[.bool a1_0, .bool a1_1, .bool a1_2, .bool a1_3, .int .i64 a1_4, .int .i64 a1_5, .string a1_6, .string a1_7]) (t := 31) ?hr ?_; (case hd => rfl); (case hg => rfl); (case hr => first | (go_simp; done) | (go_simp; rfl)); intro gb246 hg w46 hbox hb; have n0_ := Aside0.mk (blk_below (bk_ BK245) hb); have n1_ := Aside0.mk (below_step (hb_ HB) hb); have n2_ := Aside0.mk (hbox); have n3_ := Aside0.mk ((by rw [hg]; exact (below_size (hb_ HB)) : w.heap.size ≤ gb246)); have n4_ := Aside0.mk ((by rw [hg]; exact (below_size (hb_ HB)) : w.heap.size ≤ gb246)); have n5_ := Aside0.mk ((by rw [hg]; exact Nat.ne_of_lt (blk_lt (g := gb245) (o := .cells #[.bool a0_0, .bool a0_1, .bool a0_2, .bool a0_3, .int .i64 a0_4, .int .i64 a0_5, .string a0_6, .string a0_7] 31 (0, 0)) (bk_ BK245)) : gb245 ≠ gb246)); have n6_ := Aside0.mk ((by rw [hg]; exact Nat.ne_of_gt (blk_lt (g := gb245) (o := .cells #[.bool a0_0, .bool a0_1, .bool a0_2, .bool a0_3, .int .i64 a0_4, .int .i64 a0_5, .string a0_6, .string a0_7] 31 (0, 0)) (bk_ BK245)) : gb246 ≠ gb245)); clear BK245; clear HB; have BK245 := n0_; have HB := n1_; have BK246 := n2_; have GW246 := n3_; have GE246 := n4_; have NB245_246 := n5_; have NB246_245 := n6_; clear n0_ n1_ n2_ n3_ n4_ n5_ n6_; clear hb hbox hg; have hnb47 := NB245_246.out; have hnc47 := NB246_245.out; have hcz48_0 : w46.cell? ⟨gb245, 0, none⟩ = some (.bool a0_0) := (blk_cell BK245.out 0).trans rfl; have hcz48_1 : w46.cell? ⟨gb245, 1, none⟩ = some (.bool a0_1) := (blk_cell BK245.out 1).trans rfl; have hcz48_2 : w46.cell? ⟨gb245, 2, none⟩ = some (.bool a0_2) := (blk_cell BK245.out 2).trans rfl; have hcz48_3 : w46.cell? ⟨gb245, 3, none⟩ = some (.bool a0_3) := (blk_cell BK245.out 3).trans rfl; have hcz48_4 : w46.cell? ⟨gb245, 4, none⟩ = some (.int .i64 a0_4) := (blk_cell BK245.out 4).trans rfl; have hcz48_5 : w46.cell? ⟨gb245, 5, none⟩ = some (.int .i64 a0_5) := (blk_cell BK245.out 5).trans rfl; have hcz48_6 : w46.cell? ⟨gb245, 6, none⟩ = some (.string a0_6) := (blk_cell BK245.out 6).trans rfl; have hcz48_7 : w46.cell? ⟨gb245, 7, none⟩ = some (.string a0_7) := (blk_cell BK245.out 7).trans rfl; have hfz48_0 := blk_frozen BK245.out 0; have hfz48_1 := blk_frozen BK245.out 1; have hfz48_2 := blk_frozen BK245.out 2; have hfz48_3 := blk_frozen BK245.out 3; have hfz48_4 := blk_frozen BK245.out 4; have hfz48_5 := blk_frozen BK245.out 5; have hfz48_6 := blk_frozen BK245.out 6; have hfz48_7 := blk_frozen BK245.out 7; have hcz49_0 : w46.cell? ⟨gb246, 0, none⟩ = some (.bool a1_0) := (blk_cell BK246.out 0).trans rfl; have hcz49_1 : w46.cell? ⟨gb246, 1, none⟩ = some (.bool a1_1) := (blk_cell BK246.out 1).trans rfl; have hcz49_2 : w46.cell? ⟨gb246, 2, none⟩ = some (.bool a1_2) := (blk_cell BK246.out 2).trans rfl; have hcz49_3 : w46.cell? ⟨gb246, 3, none⟩ = some (.bool a1_3) := (blk_cell BK246.out 3).trans rfl; have hcz49_4 : w46.cell? ⟨gb246, 4, none⟩ = some (.int .i64 a1_4) := (blk_cell BK246.out 4).trans rfl; have hcz49_5 : w46.cell? ⟨gb246, 5, none⟩ = some (.int .i64 a1_5) := (blk_cell BK246.out 5).trans rfl; have hcz49_6 : w46.cell? ⟨gb246, 6, none⟩ = some (.string a1_6) := (blk_cell BK246.out 6).trans rfl; have hcz49_7 : w46.cell? ⟨gb246, 7, none⟩ = some (.string a1_7) := (blk_cell BK246.out 7).trans rfl; have hfz49_0 := blk_frozen BK246.out 0; have hfz49_1 := blk_frozen BK246.out 1; have hfz49_2 := blk_frozen BK246.out 2; have hfz49_3 := blk_frozen BK246.out 3; have hfz49_4 := blk_frozen BK246.out 4; have hfz49_5 := blk_frozen BK246.out 5; have hfz49_6 := blk_frozen BK246.out 6; have hfz49_7 := blk_frozen BK246.out 7))
  go_ret
  exact ⟨by first | rfl | (simp [errW_none, errW_some] <;> rfl) | (simp [*, errW_none, errW_some] <;> rfl) | (simp [bt, *]; done) | (unfold bt; simp [*]; done), by repeat (first | (with_reducible first | exact HB.out | apply below_alloc | apply pw_below_drewN | apply below_drew1 | refine below_set ?_ GE245.out | refine below_set ?_ GE246.out) | exact HB.out)⟩
 rw [if_pos c3] at H
 have c3b0 : (a0_0 == a1_0) = true := c3
 (try (have c3b1 : decide (a0_0 = a1_0) = true := by simpa using c3))
 (try (have c3b2 : (a0_0 == a1_0) = true := by simpa using c3))
 clear c3
 refine neg_first (p := ((a0_1 == a1_1) = true)) (fun c4 => ?_) (fun c4 => ?_)
 ·rw [if_neg c4] at H
  have c4b0 : (a0_1 == a1_1) = false := by simpa using c4
  (try (have c4b1 : decide (a0_1 = a1_1) = false := by simpa using c4))
  (try (have c4b2 : (a0_1 == a1_1) = false := by simpa using c4))
  (try (have c4b3 : ¬ (a0_1 = a1_1) := by simpa using c4))
  clear c4
  obtain rfl := Option.some.inj H
  go_enter Tryd.func14, Tryd.ntmps14
  go_wp2_with (first | ((with_reducible refine gate_dst (N := 2) rfl ?_); refine box_event ?hg (N := 2) ?hd (cs := #[.bool a0_0, .bool a0_1, .bool a0_2, .bool a0_3, .int .i64 a0_4, .int .i64 a0_5, .string a0_6, .string a0_7]) (t := 31) ?hr ?_; (case hd => rfl); (case hg => rfl); (case hr => first | (go_simp; done) | (go_simp; rfl)); intro gb245 hg w40 hbox hb; have n0_ := Aside0.mk (below_step (hb_ HB) hb); have n1_ := Aside0.mk (hbox); have n2_ := Aside0.mk ((by rw [hg]; exact (below_size (hb_ HB)) : w.heap.size ≤ gb245)); have n3_ := Aside0.mk ((by rw [hg]; exact (below_size (hb_ HB)) : w.heap.size ≤ gb245)); clear HB; have HB := n0_; have BK245 := n1_; have GW245 := n2_; have GE245 := n3_; clear n0_ n1_ n2_ n3_; clear hb hbox hg) | ((with_reducible refine gate_dst (N := 3) rfl ?_); refine box_event ?hg (N := 3) ?hd (cs := #[.bool a1_0, .bool a1_1, .bool a1_2, .bool a1_3, .int .i64 a1_4, .int .i64 a1_5, .string a1_6, .string a1_7]) (t := 31) ?hr ?_; (case hd => rfl); (case hg => rfl); (case hr => first | (go_simp; done) | (go_simp; rfl)); intro gb246 hg w41 hbox hb; have n0_ := Aside0.mk (blk_below (bk_ BK245) hb); have n1_ := Aside0.mk (below_step (hb_ HB) hb); have n2_ := Aside0.mk (hbox); have n3_ := Aside0.mk ((by rw [hg]; exact (below_size (hb_ HB)) : w.heap.size ≤ gb246)); have n4_ := Aside0.mk ((by rw [hg]; exact (below_size (hb_ HB)) : w.heap.size ≤ gb246)); have n5_ := Aside0.mk ((by rw [hg]; exact Nat.ne_of_lt (blk_lt (g := gb245) (o := .cells #[.bool a0_0, .bool a0_1, .bool a0_2, .bool a0_3, .int .i64 a0_4, .int .i64 a0_5, .string a0_6, .string a0_7] 31 (0, 0)) (bk_ BK245)) : gb245 ≠ gb246)); have n6_ := Aside0.mk ((by rw [hg]; exact Nat.ne_of_gt (blk_lt (g := gb245) (o := .cells #[.bool a0_0, .bool a0_1, .bool a0_2, .bool a0_3, .int .i64 a0_4, .int .i64 a0_5, .string a0_6, .string a0_7] 31 (0, 0)) (bk_ BK245)) : gb246 ≠ gb245)); clear BK245; clear HB; have BK245 := n0_; have HB := n1_; have BK246 := n2_; have GW246 := n3_; have GE246 := n4_; have NB245_246 := n5_; have NB246_245 := n6_; clear n0_ n1_ n2_ n3_ n4_ n5_ n6_; clear hb hbox hg; have hnb42 := NB245_246.out; have hnc42 := NB246_245.out; have hcz43_0 : w41.cell? ⟨gb245, 0, none⟩ = some (.bool a0_0) := (blk_cell BK245.out 0).trans rfl; have hcz43_1 : w41.cell? ⟨gb245, 1, none⟩ = some (.bool a0_1) := (blk_cell BK245.out 1).trans rfl; have hcz43_2 : w41.cell? ⟨gb245, 2, none⟩ = some (.bool a0_2) := (blk_cell BK245.out 2).trans rfl; have hcz43_3 : w41.cell? ⟨gb245, 3, none⟩ = some (.bool a0_3) := (blk_cell BK245.out 3).trans rfl; have hcz43_4 : w41.cell? ⟨gb245, 4, none⟩ = some (.int .i64 a0_4) := (blk_cell BK245.out 4).trans rfl; have hcz43_5 : w41.cell? ⟨gb245, 5, none⟩ = some (.int .i64 a0_5) := (blk_cell BK245.out 5).trans rfl; have hcz43_6 : w41.cell? ⟨gb245, 6, none⟩ = some (.string a0_6) := (blk_cell BK245.out 6).trans rfl; have hcz43_7 : w41.cell? ⟨gb245, 7, none⟩ = some (.string a0_7) := (blk_cell BK245.out 7).trans rfl; have hfz43_0 := blk_frozen BK245.out 0; have hfz43_1 := blk_frozen BK245.out 1; have hfz43_2 := blk_frozen BK245.out 2; have hfz43_3 := blk_frozen BK245.out 3; have hfz43_4 := blk_frozen BK245.out 4; have hfz43_5 := blk_frozen BK245.out 5; have hfz43_6 := blk_frozen BK245.out 6; have hfz43_7 := blk_frozen BK245.out 7; have hcz44_0 : w41.cell? ⟨gb246, 0, none⟩ = some (.bool a1_0) := (blk_cell BK246.out 0).trans rfl; have hcz44_1 : w41.cell? ⟨gb246, 1, none⟩ = some (.bool a1_1) := (blk_cell BK246.out 1).trans rfl; have hcz44_2 : w41.cell? ⟨gb246, 2, none⟩ = some (.bool a1_2) := (blk_cell BK246.out 2).trans rfl; have hcz44_3 : w41.cell? ⟨gb246, 3, none⟩ = some (.bool a1_3) := (blk_cell BK246.out 3).trans rfl; have hcz44_4 : w41.cell? ⟨gb246, 4, none⟩ = some (.int .i64 a1_4) := (blk_cell BK246.out 4).trans rfl; have hcz44_5 : w41.cell? ⟨gb246, 5, none⟩ = some (.int .i64 a1_5) := (blk_cell BK246.out 5).trans rfl; have hcz44_6 : w41.cell? ⟨gb246, 6, none⟩ = some (.string a1_6) := (blk_cell BK246.out 6).trans rfl; have hcz44_7 : w41.cell? ⟨gb246, 7, none⟩ = some (.string a1_7) := (blk_cell BK246.out 7).trans rfl; have hfz44_0 := blk_frozen BK246.out 0; have hfz44_1 := blk_frozen BK246.out 1; have hfz44_2 := blk_frozen BK246.out 2; have hfz44_3 := blk_frozen BK246.out 3; have hfz44_4 := blk_frozen BK246.out 4; have hfz44_5 := blk_frozen BK246.out 5; have hfz44_6 := blk_frozen BK246.out 6; have hfz44_7 := blk_frozen BK246.out 7))
  go_ret
  exact ⟨by first | rfl | (simp [errW_none, errW_some] <;> rfl) | (simp [*, errW_none, errW_some] <;> rfl) | (simp [bt, *]; done) | (unfold bt; simp [*]; done), by repeat (first | (with_reducible first | exact HB.out | apply below_alloc | apply pw_below_drewN | apply below_drew1 | refine below_set ?_ GE245.out | refine below_set ?_ GE246.out) | exact HB.out)⟩
 rw [if_pos c4] at H
 have c4b0 : (a0_1 == a1_1) = true := c4
 (try (have c4b1 : decide (a0_1 = a1_1) = true := by simpa using c4))
 (try (have c4b2 : (a0_1 == a1_1) = true := by simpa using c4))
 clear c4
 refine neg_first (p := ((a0_2 == a1_2) = true)) (fun c5 => ?_) (fun c5 => ?_)
 ·rw [if_neg c5] at H
  have c5b0 : (a0_2 == a1_2) = false := by simpa using c5
  (try (have c5b1 : decide (a0_2 = a1_2) = false := by simpa using c5))
  (try (have c5b2 : (a0_2 == a1_2) = false := by simpa using c5))
  (try (have c5b3 : ¬ (a0_2 = a1_2) := by simpa using c5))
  clear c5
  obtain rfl := Option.some.inj H
  go_enter Tryd.func14, Tryd.ntmps14
  go_wp2_with (first | ((with_reducible refine gate_dst (N := 2) rfl ?_); refine box_event ?hg (N := 2) ?hd (cs := #[.bool a0_0, .bool a0_1, .bool a0_2, .bool a0_3, .int .i64 a0_4, .int .i64 a0_5, .string a0_6, .string a0_7]) (t := 31) ?hr ?_; (case hd => rfl); (case hg => rfl); (case hr => first | (go_simp; done) | (go_simp; rfl)); intro gb245 hg w35 hbox hb; have n0_ := Aside0.mk (below_step (hb_ HB) hb); have n1_ := Aside0.mk (hbox); have n2_ := Aside0.mk ((by rw [hg]; exact (below_size (hb_ HB)) : w.heap.size ≤ gb245)); have n3_ := Aside0.mk ((by rw [hg]; exact (below_size (hb_ HB)) : w.heap.size ≤ gb245)); clear HB; have HB := n0_; have BK245 := n1_; have GW245 := n2_; have GE245 := n3_; clear n0_ n1_ n2_ n3_; clear hb hbox hg) | ((with_reducible refine gate_dst (N := 3) rfl ?_); refine box_event ?hg (N := 3) ?hd (cs := #[.bool a1_0, .bool a1_1, .bool a1_2, .bool a1_3, .int .i64 a1_4, .int .i64 a1_5, .string a1_6, .string a1_7]) (t := 31) ?hr ?_; (case hd => rfl); (case hg => rfl); (case hr => first | (go_simp; done) | (go_simp; rfl)); intro gb246 hg w36 hbox hb; have n0_ := Aside0.mk (blk_below (bk_ BK245) hb); have n1_ := Aside0.mk (below_step (hb_ HB) hb); have n2_ := Aside0.mk (hbox); have n3_ := Aside0.mk ((by rw [hg]; exact (below_size (hb_ HB)) : w.heap.size ≤ gb246)); have n4_ := Aside0.mk ((by rw [hg]; exact (below_size (hb_ HB)) : w.heap.size ≤ gb246)); have n5_ := Aside0.mk ((by rw [hg]; exact Nat.ne_of_lt (blk_lt (g := gb245) (o := .cells #[.bool a0_0, .bool a0_1, .bool a0_2, .bool a0_3, .int .i64 a0_4, .int .i64 a0_5, .string a0_6, .string a0_7] 31 (0, 0)) (bk_ BK245)) : gb245 ≠ gb246)); have n6_ := Aside0.mk ((by rw [hg]; exact Nat.ne_of_gt (blk_lt (g := gb245) (o := .cells #[.bool a0_0, .bool a0_1, .bool a0_2, .bool a0_3, .int .i64 a0_4, .int .i64 a0_5, .string a0_6, .string a0_7] 31 (0, 0)) (bk_ BK245)) : gb246 ≠ gb245)); clear BK245; clear HB; have BK245 := n0_; have HB := n1_; have BK246 := n2_; have GW246 := n3_; have GE246 := n4_; have NB245_246 := n5_; have NB246_245 := n6_; clear n0_ n1_ n2_ n3_ n4_ n5_ n6_; clear hb hbox hg; have hnb37 := NB245_246.out; have hnc37 := NB246_245.out; have hcz38_0 : w36.cell? ⟨gb245, 0, none⟩ = some (.bool a0_0) := (blk_cell BK245.out 0).trans rfl; have hcz38_1 : w36.cell? ⟨gb245, 1, none⟩ = some (.bool a0_1) := (blk_cell BK245.out 1).trans rfl; have hcz38_2 : w36.cell? ⟨gb245, 2, none⟩ = some (.bool a0_2) := (blk_cell BK245.out 2).trans rfl; have hcz38_3 : w36.cell? ⟨gb245, 3, none⟩ = some (.bool a0_3) := (blk_cell BK245.out 3).trans rfl; have hcz38_4 : w36.cell? ⟨gb245, 4, none⟩ = some (.int .i64 a0_4) := (blk_cell BK245.out 4).trans rfl; have hcz38_5 : w36.cell? ⟨gb245, 5, none⟩ = some (.int .i64 a0_5) := (blk_cell BK245.out 5).trans rfl; have hcz38_6 : w36.cell? ⟨gb245, 6, none⟩ = some (.string a0_6) := (blk_cell BK245.out 6).trans rfl; have hcz38_7 : w36.cell? ⟨gb245, 7, none⟩ = some (.string a0_7) := (blk_cell BK245.out 7).trans rfl; have hfz38_0 := blk_frozen BK245.out 0; have hfz38_1 := blk_frozen BK245.out 1; have hfz38_2 := blk_frozen BK245.out 2; have hfz38_3 := blk_frozen BK245.out 3; have hfz38_4 := blk_frozen BK245.out 4; have hfz38_5 := blk_frozen BK245.out 5; have hfz38_6 := blk_frozen BK245.out 6; have hfz38_7 := blk_frozen BK245.out 7; have hcz39_0 : w36.cell? ⟨gb246, 0, none⟩ = some (.bool a1_0) := (blk_cell BK246.out 0).trans rfl; have hcz39_1 : w36.cell? ⟨gb246, 1, none⟩ = some (.bool a1_1) := (blk_cell BK246.out 1).trans rfl; have hcz39_2 : w36.cell? ⟨gb246, 2, none⟩ = some (.bool a1_2) := (blk_cell BK246.out 2).trans rfl; have hcz39_3 : w36.cell? ⟨gb246, 3, none⟩ = some (.bool a1_3) := (blk_cell BK246.out 3).trans rfl; have hcz39_4 : w36.cell? ⟨gb246, 4, none⟩ = some (.int .i64 a1_4) := (blk_cell BK246.out 4).trans rfl; have hcz39_5 : w36.cell? ⟨gb246, 5, none⟩ = some (.int .i64 a1_5) := (blk_cell BK246.out 5).trans rfl; have hcz39_6 : w36.cell? ⟨gb246, 6, none⟩ = some (.string a1_6) := (blk_cell BK246.out 6).trans rfl; have hcz39_7 : w36.cell? ⟨gb246, 7, none⟩ = some (.string a1_7) := (blk_cell BK246.out 7).trans rfl; have hfz39_0 := blk_frozen BK246.out 0; have hfz39_1 := blk_frozen BK246.out 1; have hfz39_2 := blk_frozen BK246.out 2; have hfz39_3 := blk_frozen BK246.out 3; have hfz39_4 := blk_frozen BK246.out 4; have hfz39_5 := blk_frozen BK246.out 5; have hfz39_6 := blk_frozen BK246.out 6; have hfz39_7 := blk_frozen BK246.out 7))
  go_ret
  exact ⟨by first | rfl | (simp [errW_none, errW_some] <;> rfl) | (simp [*, errW_none, errW_some] <;> rfl) | (simp [bt, *]; done) | (unfold bt; simp [*]; done), by repeat (first | (with_reducible first | exact HB.out | apply below_alloc | apply pw_below_drewN | apply below_drew1 | refine below_set ?_ GE245.out | refine below_set ?_ GE246.out) | exact HB.out)⟩
 rw [if_pos c5] at H
 have c5b0 : (a0_2 == a1_2) = true := c5
 (try (have c5b1 : decide (a0_2 = a1_2) = true := by simpa using c5))
 (try (have c5b2 : (a0_2 == a1_2) = true := by simpa using c5))
 clear c5
 refine neg_first (p := ((a0_3 == a1_3) = true)) (fun c6 => ?_) (fun c6 => ?_)
 ·rw [if_neg c6] at H
  have c6b0 : (a0_3 == a1_3) = false := by simpa using c6
  (try (have c6b1 : decide (a0_3 = a1_3) = false := by simpa using c6))
  (try (have c6b2 : (a0_3 == a1_3) = false := by simpa using c6))
  (try (have c6b3 : ¬ (a0_3 = a1_3) := by simpa using c6))
  clear c6
  obtain rfl := Option.some.inj H
  go_enter Tryd.func14, Tryd.ntmps14
  go_wp2_with (first | ((with_reducible refine gate_dst (N := 2) rfl ?_); refine box_event ?hg (N := 2) ?hd (cs := #[.bool a0_0, .bool a0_1, .bool a0_2, .bool a0_3, .int .i64 a0_4, .int .i64 a0_5, .string a0_6, .string a0_7]) (t := 31) ?hr ?_; (case hd => rfl); (case hg => rfl); (case hr => first | (go_simp; done) | (go_simp; rfl)); intro gb245 hg w30 hbox hb; have n0_ := Aside0.mk (below_step (hb_ HB) hb); have n1_ := Aside0.mk (hbox); have n2_ := Aside0.mk ((by rw [hg]; exact (below_size (hb_ HB)) : w.heap.size ≤ gb245)); have n3_ := Aside0.mk ((by rw [hg]; exact (below_size (hb_ HB)) : w.heap.size ≤ gb245)); clear HB; have HB := n0_; have BK245 := n1_; have GW245 := n2_; have GE245 := n3_; clear n0_ n1_ n2_ n3_; clear hb hbox hg) | ((with_reducible refine gate_dst (N := 3) rfl ?_); refine box_event ?hg (N := 3) ?hd (cs := #[.bool a1_0, .bool a1_1, .bool a1_2, .bool a1_3, .int .i64 a1_4, .int .i64 a1_5, .string a1_6, .string a1_7]) (t := 31) ?hr ?_; (case hd => rfl); (case hg => rfl); (case hr => first | (go_simp; done) | (go_simp; rfl)); intro gb246 hg w31 hbox hb; have n0_ := Aside0.mk (blk_below (bk_ BK245) hb); have n1_ := Aside0.mk (below_step (hb_ HB) hb); have n2_ := Aside0.mk (hbox); have n3_ := Aside0.mk ((by rw [hg]; exact (below_size (hb_ HB)) : w.heap.size ≤ gb246)); have n4_ := Aside0.mk ((by rw [hg]; exact (below_size (hb_ HB)) : w.heap.size ≤ gb246)); have n5_ := Aside0.mk ((by rw [hg]; exact Nat.ne_of_lt (blk_lt (g := gb245) (o := .cells #[.bool a0_0, .bool a0_1, .bool a0_2, .bool a0_3, .int .i64 a0_4, .int .i64 a0_5, .string a0_6, .string a0_7] 31 (0, 0)) (bk_ BK245)) : gb245 ≠ gb246)); have n6_ := Aside0.mk ((by rw [hg]; exact Nat.ne_of_gt (blk_lt (g := gb245) (o := .cells #[.bool a0_0, .bool a0_1, .bool a0_2, .bool a0_3, .int .i64 a0_4, .int .i64 a0_5, .string a0_6, .string a0_7] 31 (0, 0)) (bk_ BK245)) : gb246 ≠ gb245)); clear BK245; clear HB; have BK245 := n0_; have HB := n1_; have BK246 := n2_; have GW246 := n3_; have GE246 := n4_; have NB245_246 := n5_; have NB246_245 := n6_; clear n0_ n1_ n2_ n3_ n4_ n5_ n6_; clear hb hbox hg; have hnb32 := NB245_246.out; have hnc32 := NB246_245.out; have hcz33_0 : w31.cell? ⟨gb245, 0, none⟩ = some (.bool a0_0) := (blk_cell BK245.out 0).trans rfl; have hcz33_1 : w31.cell? ⟨gb245, 1, none⟩ = some (.bool a0_1) := (blk_cell BK245.out 1).trans rfl; have hcz33_2 : w31.cell? ⟨gb245, 2, none⟩ = some (.bool a0_2) := (blk_cell BK245.out 2).trans rfl; have hcz33_3 : w31.cell? ⟨gb245, 3, none⟩ = some (.bool a0_3) := (blk_cell BK245.out 3).trans rfl; have hcz33_4 : w31.cell? ⟨gb245, 4, none⟩ = some (.int .i64 a0_4) := (blk_cell BK245.out 4).trans rfl; have hcz33_5 : w31.cell? ⟨gb245, 5, none⟩ = some (.int .i64 a0_5) := (blk_cell BK245.out 5).trans rfl; have hcz33_6 : w31.cell? ⟨gb245, 6, none⟩ = some (.string a0_6) := (blk_cell BK245.out 6).trans rfl; have hcz33_7 : w31.cell? ⟨gb245, 7, none⟩ = some (.string a0_7) := (blk_cell BK245.out 7).trans rfl; have hfz33_0 := blk_frozen BK245.out 0; have hfz33_1 := blk_frozen BK245.out 1; have hfz33_2 := blk_frozen BK245.out 2; have hfz33_3 := blk_frozen BK245.out 3; have hfz33_4 := blk_frozen BK245.out 4; have hfz33_5 := blk_frozen BK245.out 5; have hfz33_6 := blk_frozen BK245.out 6; have hfz33_7 := blk_frozen BK245.out 7; have hcz34_0 : w31.cell? ⟨gb246, 0, none⟩ = some (.bool a1_0) := (blk_cell BK246.out 0).trans rfl; have hcz34_1 : w31.cell? ⟨gb246, 1, none⟩ = some (.bool a1_1) := (blk_cell BK246.out 1).trans rfl; have hcz34_2 : w31.cell? ⟨gb246, 2, none⟩ = some (.bool a1_2) := (blk_cell BK246.out 2).trans rfl; have hcz34_3 : w31.cell? ⟨gb246, 3, none⟩ = some (.bool a1_3) := (blk_cell BK246.out 3).trans rfl; have hcz34_4 : w31.cell? ⟨gb246, 4, none⟩ = some (.int .i64 a1_4) := (blk_cell BK246.out 4).trans rfl; have hcz34_5 : w31.cell? ⟨gb246, 5, none⟩ = some (.int .i64 a1_5) := (blk_cell BK246.out 5).trans rfl; have hcz34_6 : w31.cell? ⟨gb246, 6, none⟩ = some (.string a1_6) := (blk_cell BK246.out 6).trans rfl; have hcz34_7 : w31.cell? ⟨gb246, 7, none⟩ = some (.string a1_7) := (blk_cell BK246.out 7).trans rfl; have hfz34_0 := blk_frozen BK246.out 0; have hfz34_1 := blk_frozen BK246.out 1; have hfz34_2 := blk_frozen BK246.out 2; have hfz34_3 := blk_frozen BK246.out 3; have hfz34_4 := blk_frozen BK246.out 4; have hfz34_5 := blk_frozen BK246.out 5; have hfz34_6 := blk_frozen BK246.out 6; have hfz34_7 := blk_frozen BK246.out 7))
  go_ret
  exact ⟨by first | rfl | (simp [errW_none, errW_some] <;> rfl) | (simp [*, errW_none, errW_some] <;> rfl) | (simp [bt, *]; done) | (unfold bt; simp [*]; done), by repeat (first | (with_reducible first | exact HB.out | apply below_alloc | apply pw_below_drewN | apply below_drew1 | refine below_set ?_ GE245.out | refine below_set ?_ GE246.out) | exact HB.out)⟩
 rw [if_pos c6] at H
 have c6b0 : (a0_3 == a1_3) = true := c6
 (try (have c6b1 : decide (a0_3 = a1_3) = true := by simpa using c6))
 (try (have c6b2 : (a0_3 == a1_3) = true := by simpa using c6))
 clear c6
 refine neg_first (p := (a0_4 = a1_4)) (fun c7 => ?_) (fun c7 => ?_)
 ·rw [if_neg c7] at H
  have c7b0 : (a0_4 == a1_4) = false := beq_eq_false_iff_ne.mpr c7
  have c7b1 : (a0_4 != a1_4) = true := bne_iff_ne.mpr c7
  obtain rfl := Option.some.inj H
  go_enter Tryd.func14, Tryd.ntmps14
  go_wp2_with (first | ((with_reducible refine gate_dst (N := 2) rfl ?_); refine box_event ?hg (N := 2) ?hd (cs := #[.bool a0_0, .bool a0_1, .bool a0_2, .bool a0_3, .int .i64 a0_4, .int .i64 a0_5, .string a0_6, .string a0_7]) (t := 31) ?hr ?_; (case hd => rfl); (case hg => rfl); (case hr => first | (go_simp; done) | (go_simp; rfl)); intro gb245 hg w25 hbox hb; have n0_ := Aside0.mk (below_step (hb_ HB) hb); have n1_ := Aside0.mk (hbox); have n2_ := Aside0.mk ((by rw [hg]; exact (below_size (hb_ HB)) : w.heap.size ≤ gb245)); have n3_ := Aside0.mk ((by rw [hg]; exact (below_size (hb_ HB)) : w.heap.size ≤ gb245)); clear HB; have HB := n0_; have BK245 := n1_; have GW245 := n2_; have GE245 := n3_; clear n0_ n1_ n2_ n3_; clear hb hbox hg) | ((with_reducible refine gate_dst (N := 3) rfl ?_); refine box_event ?hg (N := 3) ?hd (cs := #[.bool a1_0, .bool a1_1, .bool a1_2, .bool a1_3, .int .i64 a1_4, .int .i64 a1_5, .string a1_6, .string a1_7]) (t := 31) ?hr ?_; (case hd => rfl); (case hg => rfl); (case hr => first | (go_simp; done) | (go_simp; rfl)); intro gb246 hg w26 hbox hb; have n0_ := Aside0.mk (blk_below (bk_ BK245) hb); have n1_ := Aside0.mk (below_step (hb_ HB) hb); have n2_ := Aside0.mk (hbox); have n3_ := Aside0.mk ((by rw [hg]; exact (below_size (hb_ HB)) : w.heap.size ≤ gb246)); have n4_ := Aside0.mk ((by rw [hg]; exact (below_size (hb_ HB)) : w.heap.size ≤ gb246)); have n5_ := Aside0.mk ((by rw [hg]; exact Nat.ne_of_lt (blk_lt (g := gb245) (o := .cells #[.bool a0_0, .bool a0_1, .bool a0_2, .bool a0_3, .int .i64 a0_4, .int .i64 a0_5, .string a0_6, .string a0_7] 31 (0, 0)) (bk_ BK245)) : gb245 ≠ gb246)); have n6_ := Aside0.mk ((by rw [hg]; exact Nat.ne_of_gt (blk_lt (g := gb245) (o := .cells #[.bool a0_0, .bool a0_1, .bool a0_2, .bool a0_3, .int .i64 a0_4, .int .i64 a0_5, .string a0_6, .string a0_7] 31 (0, 0)) (bk_ BK245)) : gb246 ≠ gb245)); clear BK245; clear HB; have BK245 := n0_; have HB := n1_; have BK246 := n2_; have GW246 := n3_; have GE246 := n4_; have NB245_246 := n5_; have NB246_245 := n6_; clear n0_ n1_ n2_ n3_ n4_ n5_ n6_; clear hb hbox hg; have hnb27 := NB245_246.out; have hnc27 := NB246_245.out; have hcz28_0 : w26.cell? ⟨gb245, 0, none⟩ = some (.bool a0_0) := (blk_cell BK245.out 0).trans rfl; have hcz28_1 : w26.cell? ⟨gb245, 1, none⟩ = some (.bool a0_1) := (blk_cell BK245.out 1).trans rfl; have hcz28_2 : w26.cell? ⟨gb245, 2, none⟩ = some (.bool a0_2) := (blk_cell BK245.out 2).trans rfl; have hcz28_3 : w26.cell? ⟨gb245, 3, none⟩ = some (.bool a0_3) := (blk_cell BK245.out 3).trans rfl; have hcz28_4 : w26.cell? ⟨gb245, 4, none⟩ = some (.int .i64 a0_4) := (blk_cell BK245.out 4).trans rfl; have hcz28_5 : w26.cell? ⟨gb245, 5, none⟩ = some (.int .i64 a0_5) := (blk_cell BK245.out 5).trans rfl; have hcz28_6 : w26.cell? ⟨gb245, 6, none⟩ = some (.string a0_6) := (blk_cell BK245.out 6).trans rfl; have hcz28_7 : w26.cell? ⟨gb245, 7, none⟩ = some (.string a0_7) := (blk_cell BK245.out 7).trans rfl; have hfz28_0 := blk_frozen BK245.out 0; have hfz28_1 := blk_frozen BK245.out 1; have hfz28_2 := blk_frozen BK245.out 2; have hfz28_3 := blk_frozen BK245.out 3; have hfz28_4 := blk_frozen BK245.out 4; have hfz28_5 := blk_frozen BK245.out 5; have hfz28_6 := blk_frozen BK245.out 6; have hfz28_7 := blk_frozen BK245.out 7; have hcz29_0 : w26.cell? ⟨gb246, 0, none⟩ = some (.bool a1_0) := (blk_cell BK246.out 0).trans rfl; have hcz29_1 : w26.cell? ⟨gb246, 1, none⟩ = some (.bool a1_1) := (blk_cell BK246.out 1).trans rfl; have hcz29_2 : w26.cell? ⟨gb246, 2, none⟩ = some (.bool a1_2) := (blk_cell BK246.out 2).trans rfl; have hcz29_3 : w26.cell? ⟨gb246, 3, none⟩ = some (.bool a1_3) := (blk_cell BK246.out 3).trans rfl; have hcz29_4 : w26.cell? ⟨gb246, 4, none⟩ = some (.int .i64 a1_4) := (blk_cell BK246.out 4).trans rfl; have hcz29_5 : w26.cell? ⟨gb246, 5, none⟩ = some (.int .i64 a1_5) := (blk_cell BK246.out 5).trans rfl; have hcz29_6 : w26.cell? ⟨gb246, 6, none⟩ = some (.string a1_6) := (blk_cell BK246.out 6).trans rfl; have hcz29_7 : w26.cell? ⟨gb246, 7, none⟩ = some (.string a1_7) := (blk_cell BK246.out 7).trans rfl; have hfz29_0 := blk_frozen BK246.out 0; have hfz29_1 := blk_frozen BK246.out 1; have hfz29_2 := blk_frozen BK246.out 2; have hfz29_3 := blk_frozen BK246.out 3; have hfz29_4 := blk_frozen BK246.out 4; have hfz29_5 := blk_frozen BK246.out 5; have hfz29_6 := blk_frozen BK246.out 6; have hfz29_7 := blk_frozen BK246.out 7))
  go_ret
  exact ⟨by first | rfl | (simp [errW_none, errW_some] <;> rfl) | (simp [*, errW_none, errW_some] <;> rfl) | (simp [bt, *]; done) | (unfold bt; simp [*]; done), by repeat (first | (with_reducible first | exact HB.out | apply below_alloc | apply pw_below_drewN | apply below_drew1 | refine below_set ?_ GE245.out | refine below_set ?_ GE246.out) | exact HB.out)⟩
 rw [if_pos c7] at H
 have c7b0 : (a0_4 == a1_4) = true := beq_iff_eq.mpr c7
 have c7b1 : (a0_4 != a1_4) = false := bne_eq_false_iff_eq.mpr c7
 clear c7
 refine neg_first (p := (a0_5 = a1_5)) (fun c8 => ?_) (fun c8 => ?_)
 ·rw [if_neg c8] at H
  have c8b0 : (a0_5 == a1_5) = false := beq_eq_false_iff_ne.mpr c8
  have c8b1 : (a0_5 != a1_5) = true := bne_iff_ne.mpr c8
  obtain rfl := Option.some.inj H
  go_enter Tryd.func14, Tryd.ntmps14
  go_wp2_with (first | ((with_reducible refine gate_dst (N := 2) rfl ?_); refine box_event ?hg (N := 2) ?hd (cs := #[.bool a0_0, .bool a0_1, .bool a0_2, .bool a0_3, .int .i64 a0_4, .int .i64 a0_5, .string a0_6, .string a0_7]) (t := 31) ?hr ?_; (case hd => rfl); (case hg => rfl); (case hr => first | (go_simp; done) | (go_simp; rfl)); intro gb245 hg w20 hbox hb; have n0_ := Aside0.mk (below_step (hb_ HB) hb); have n1_ := Aside0.mk (hbox); have n2_ := Aside0.mk ((by rw [hg]; exact (below_size (hb_ HB)) : w.heap.size ≤ gb245)); have n3_ := Aside0.mk ((by rw [hg]; exact (below_size (hb_ HB)) : w.heap.size ≤ gb245)); clear HB; have HB := n0_; have BK245 := n1_; have GW245 := n2_; have GE245 := n3_; clear n0_ n1_ n2_ n3_; clear hb hbox hg) | ((with_reducible refine gate_dst (N := 3) rfl ?_); refine box_event ?hg (N := 3) ?hd (cs := #[.bool a1_0, .bool a1_1, .bool a1_2, .bool a1_3, .int .i64 a1_4, .int .i64 a1_5, .string a1_6, .string a1_7]) (t := 31) ?hr ?_; (case hd => rfl); (case hg => rfl); (case hr => first | (go_simp; done) | (go_simp; rfl)); intro gb246 hg w21 hbox hb; have n0_ := Aside0.mk (blk_below (bk_ BK245) hb); have n1_ := Aside0.mk (below_step (hb_ HB) hb); have n2_ := Aside0.mk (hbox); have n3_ := Aside0.mk ((by rw [hg]; exact (below_size (hb_ HB)) : w.heap.size ≤ gb246)); have n4_ := Aside0.mk ((by rw [hg]; exact (below_size (hb_ HB)) : w.heap.size ≤ gb246)); have n5_ := Aside0.mk ((by rw [hg]; exact Nat.ne_of_lt (blk_lt (g := gb245) (o := .cells #[.bool a0_0, .bool a0_1, .bool a0_2, .bool a0_3, .int .i64 a0_4, .int .i64 a0_5, .string a0_6, .string a0_7] 31 (0, 0)) (bk_ BK245)) : gb245 ≠ gb246)); have n6_ := Aside0.mk ((by rw [hg]; exact Nat.ne_of_gt (blk_lt (g := gb245) (o := .cells #[.bool a0_0, .bool a0_1, .bool a0_2, .bool a0_3, .int .i64 a0_4, .int .i64 a0_5, .string a0_6, .string a0_7] 31 (0, 0)) (bk_ BK245)) : gb246 ≠ gb245)); clear BK245; clear HB; have BK245 := n0_; have HB := n1_; have BK246 := n2_; have GW246 := n3_; have GE246 := n4_; have NB245_246 := n5_; have NB246_245 := n6_; clear n0_ n1_ n2_ n3_ n4_ n5_ n6_; clear hb hbox hg; have hnb22 := NB245_246.out; have hnc22 := NB246_245.out; have hcz23_0 : w21.cell? ⟨gb245, 0, none⟩ = some (.bool a0_0) := (blk_cell BK245.out 0).trans rfl; have hcz23_1 : w21.cell? ⟨gb245, 1, none⟩ = some (.bool a0_1) := (blk_cell BK245.out 1).trans rfl; have hcz23_2 : w21.cell? ⟨gb245, 2, none⟩ = some (.bool a0_2) := (blk_cell BK245.out 2).trans rfl; have hcz23_3 : w21.cell? ⟨gb245, 3, none⟩ = some (.bool a0_3) := (blk_cell BK245.out 3).trans rfl; have hcz23_4 : w21.cell? ⟨gb245, 4, none⟩ = some (.int .i64 a0_4) := (blk_cell BK245.out 4).trans rfl; have hcz23_5 : w21.cell? ⟨gb245, 5, none⟩ = some (.int .i64 a0_5) := (blk_cell BK245.out 5).trans rfl; have hcz23_6 : w21.cell? ⟨gb245, 6, none⟩ = some (.string a0_6) := (blk_cell BK245.out 6).trans rfl; have hcz23_7 : w21.cell? ⟨gb245, 7, none⟩ = some (.string a0_7) := (blk_cell BK245.out 7).trans rfl; have hfz23_0 := blk_frozen BK245.out 0; have hfz23_1 := blk_frozen BK245.out 1; have hfz23_2 := blk_frozen BK245.out 2; have hfz23_3 := blk_frozen BK245.out 3; have hfz23_4 := blk_frozen BK245.out 4; have hfz23_5 := blk_frozen BK245.out 5; have hfz23_6 := blk_frozen BK245.out 6; have hfz23_7 := blk_frozen BK245.out 7; have hcz24_0 : w21.cell? ⟨gb246, 0, none⟩ = some (.bool a1_0) := (blk_cell BK246.out 0).trans rfl; have hcz24_1 : w21.cell? ⟨gb246, 1, none⟩ = some (.bool a1_1) := (blk_cell BK246.out 1).trans rfl; have hcz24_2 : w21.cell? ⟨gb246, 2, none⟩ = some (.bool a1_2) := (blk_cell BK246.out 2).trans rfl; have hcz24_3 : w21.cell? ⟨gb246, 3, none⟩ = some (.bool a1_3) := (blk_cell BK246.out 3).trans rfl; have hcz24_4 : w21.cell? ⟨gb246, 4, none⟩ = some (.int .i64 a1_4) := (blk_cell BK246.out 4).trans rfl; have hcz24_5 : w21.cell? ⟨gb246, 5, none⟩ = some (.int .i64 a1_5) := (blk_cell BK246.out 5).trans rfl; have hcz24_6 : w21.cell? ⟨gb246, 6, none⟩ = some (.string a1_6) := (blk_cell BK246.out 6).trans rfl; have hcz24_7 : w21.cell? ⟨gb246, 7, none⟩ = some (.string a1_7) := (blk_cell BK246.out 7).trans rfl; have hfz24_0 := blk_frozen BK246.out 0; have hfz24_1 := blk_frozen BK246.out 1; have hfz24_2 := blk_frozen BK246.out 2; have hfz24_3 := blk_frozen BK246.out 3; have hfz24_4 := blk_frozen BK246.out 4; have hfz24_5 := blk_frozen BK246.out 5; have hfz24_6 := blk_frozen BK246.out 6; have hfz24_7 := blk_frozen BK246.out 7))
  go_ret
  exact ⟨by first | rfl | (simp [errW_none, errW_some] <;> rfl) | (simp [*, errW_none, errW_some] <;> rfl) | (simp [bt, *]; done) | (unfold bt; simp [*]; done), by repeat (first | (with_reducible first | exact HB.out | apply below_alloc | apply pw_below_drewN | apply below_drew1 | refine below_set ?_ GE245.out | refine below_set ?_ GE246.out) | exact HB.out)⟩
 rw [if_pos c8] at H
 have c8b0 : (a0_5 == a1_5) = true := beq_iff_eq.mpr c8
 have c8b1 : (a0_5 != a1_5) = false := bne_eq_false_iff_eq.mpr c8
 clear c8
 refine neg_first (p := (a0_6.toList = a1_6.toList)) (fun c9 => ?_) (fun c9 => ?_)
 ·rw [if_neg c9] at H
  have c9b0 : (a0_6.toList == a1_6.toList) = false := beq_eq_false_iff_ne.mpr c9
  have c9b1 : (a0_6.toList != a1_6.toList) = true := bne_iff_ne.mpr c9
  obtain rfl := Option.some.inj H
  go_enter Tryd.func14, Tryd.ntmps14
  go_wp2_with (first | ((with_reducible refine gate_dst (N := 2) rfl ?_); refine box_event ?hg (N := 2) ?hd (cs := #[.bool a0_0, .bool a0_1, .bool a0_2, .bool a0_3, .int .i64 a0_4, .int .i64 a0_5, .string a0_6, .string a0_7]) (t := 31) ?hr ?_; (case hd => rfl); (case hg => rfl); (case hr => first | (go_simp; done) | (go_simp; rfl)); intro gb245 hg w15 hbox hb; have n0_ := Aside0.mk (below_step (hb_ HB) hb); have n1_ := Aside0.mk (hbox); have n2_ := Aside0.mk ((by rw [hg]; exact (below_size (hb_ HB)) : w.heap.size ≤ gb245)); have n3_ := Aside0.mk ((by rw [hg]; exact (below_size (hb_ HB)) : w.heap.size ≤ gb245)); clear HB; have HB := n0_; have BK245 := n1_; have GW245 := n2_; have GE245 := n3_; clear n0_ n1_ n2_ n3_; clear hb hbox hg) | ((with_reducible refine gate_dst (N := 3) rfl ?_); refine box_event ?hg (N := 3) ?hd (cs := #[.bool a1_0, .bool a1_1, .bool a1_2, .bool a1_3, .int .i64 a1_4, .int .i64 a1_5, .string a1_6, .string a1_7]) (t := 31) ?hr ?_; (case hd => rfl); (case hg => rfl); (case hr => first | (go_simp; done) | (go_simp; rfl)); intro gb246 hg w16 hbox hb; have n0_ := Aside0.mk (blk_below (bk_ BK245) hb); have n1_ := Aside0.mk (below_step (hb_ HB) hb); have n2_ := Aside0.mk (hbox); have n3_ := Aside0.mk ((by rw [hg]; exact (below_size (hb_ HB)) : w.heap.size ≤ gb246)); have n4_ := Aside0.mk ((by rw [hg]; exact (below_size (hb_ HB)) : w.heap.size ≤ gb246)); have n5_ := Aside0.mk ((by rw [hg]; exact Nat.ne_of_lt (blk_lt (g := gb245) (o := .cells #[.bool a0_0, .bool a0_1, .bool a0_2, .bool a0_3, .int .i64 a0_4, .int .i64 a0_5, .string a0_6, .string a0_7] 31 (0, 0)) (bk_ BK245)) : gb245 ≠ gb246)); have n6_ := Aside0.mk ((by rw [hg]; exact Nat.ne_of_gt (blk_lt (g := gb245) (o := .cells #[.bool a0_0, .bool a0_1, .bool a0_2, .bool a0_3, .int .i64 a0_4, .int .i64 a0_5, .string a0_6, .string a0_7] 31 (0, 0)) (bk_ BK245)) : gb246 ≠ gb245)); clear BK245; clear HB; have BK245 := n0_; have HB := n1_; have BK246 := n2_; have GW246 := n3_; have GE246 := n4_; have NB245_246 := n5_; have NB246_245 := n6_; clear n0_ n1_ n2_ n3_ n4_ n5_ n6_; clear hb hbox hg; have hnb17 := NB245_246.out; have hnc17 := NB246_245.out; have hcz18_0 : w16.cell? ⟨gb245, 0, none⟩ = some (.bool a0_0) := (blk_cell BK245.out 0).trans rfl; have hcz18_1 : w16.cell? ⟨gb245, 1, none⟩ = some (.bool a0_1) := (blk_cell BK245.out 1).trans rfl; have hcz18_2 : w16.cell? ⟨gb245, 2, none⟩ = some (.bool a0_2) := (blk_cell BK245.out 2).trans rfl; have hcz18_3 : w16.cell? ⟨gb245, 3, none⟩ = some (.bool a0_3) := (blk_cell BK245.out 3).trans rfl; have hcz18_4 : w16.cell? ⟨gb245, 4, none⟩ = some (.int .i64 a0_4) := (blk_cell BK245.out 4).trans rfl; have hcz18_5 : w16.cell? ⟨gb245, 5, none⟩ = some (.int .i64 a0_5) := (blk_cell BK245.out 5).trans rfl; have hcz18_6 : w16.cell? ⟨gb245, 6, none⟩ = some (.string a0_6) := (blk_cell BK245.out 6).trans rfl; have hcz18_7 : w16.cell? ⟨gb245, 7, none⟩ = some (.string a0_7) := (blk_cell BK245.out 7).trans rfl; have hfz18_0 := blk_frozen BK245.out 0; have hfz18_1 := blk_frozen BK245.out 1; have hfz18_2 := blk_frozen BK245.out 2; have hfz18_3 := blk_frozen BK245.out 3; have hfz18_4 := blk_frozen BK245.out 4; have hfz18_5 := blk_frozen BK245.out 5; have hfz18_6 := blk_frozen BK245.out 6; have hfz18_7 := blk_frozen BK245.out 7; have hcz19_0 : w16.cell? ⟨gb246, 0, none⟩ = some (.bool a1_0) := (blk_cell BK246.out 0).trans rfl; have hcz19_1 : w16.cell? ⟨gb246, 1, none⟩ = some (.bool a1_1) := (blk_cell BK246.out 1).trans rfl; have hcz19_2 : w16.cell? ⟨gb246, 2, none⟩ = some (.bool a1_2) := (blk_cell BK246.out 2).trans rfl; have hcz19_3 : w16.cell? ⟨gb246, 3, none⟩ = some (.bool a1_3) := (blk_cell BK246.out 3).trans rfl; have hcz19_4 : w16.cell? ⟨gb246, 4, none⟩ = some (.int .i64 a1_4) := (blk_cell BK246.out 4).trans rfl; have hcz19_5 : w16.cell? ⟨gb246, 5, none⟩ = some (.int .i64 a1_5) := (blk_cell BK246.out 5).trans rfl; have hcz19_6 : w16.cell? ⟨gb246, 6, none⟩ = some (.string a1_6) := (blk_cell BK246.out 6).trans rfl; have hcz19_7 : w16.cell? ⟨gb246, 7, none⟩ = some (.string a1_7) := (blk_cell BK246.out 7).trans rfl; have hfz19_0 := blk_frozen BK246.out 0; have hfz19_1 := blk_frozen BK246.out 1; have hfz19_2 := blk_frozen BK246.out 2; have hfz19_3 := blk_frozen BK246.out 3; have hfz19_4 := blk_frozen BK246.out 4; have hfz19_5 := blk_frozen BK246.out 5; have hfz19_6 := blk_frozen BK246.out 6; have hfz19_7 := blk_frozen BK246.out 7))
  go_ret
  exact ⟨by first | rfl | (simp [errW_none, errW_some] <;> rfl) | (simp [*, errW_none, errW_some] <;> rfl) | (simp [bt, *]; done) | (unfold bt; simp [*]; done), by repeat (first | (with_reducible first | exact HB.out | apply below_alloc | apply pw_below_drewN | apply below_drew1 | refine below_set ?_ GE245.out | refine below_set ?_ GE246.out) | exact HB.out)⟩
 rw [if_pos c9] at H
 have c9b0 : (a0_6.toList == a1_6.toList) = true := beq_iff_eq.mpr c9
 have c9b1 : (a0_6.toList != a1_6.toList) = false := bne_eq_false_iff_eq.mpr c9
 clear c9
 obtain rfl := Option.some.inj H
 go_enter Tryd.func14, Tryd.ntmps14
 go_wp2_with (first | ((with_reducible refine gate_dst (N := 2) rfl ?_); refine box_event ?hg (N := 2) ?hd (cs := #[.bool a0_0, .bool a0_1, .bool a0_2, .bool a0_3, .int .i64 a0_4, .int .i64 a0_5, .string a0_6, .string a0_7]) (t := 31) ?hr ?_; (case hd => rfl); (case hg => rfl); (case hr => first | (go_simp; done) | (go_simp; rfl)); intro gb245 hg w10 hbox hb; have n0_ := Aside0.mk (below_step (hb_ HB) hb); have n1_ := Aside0.mk (hbox); have n2_ := Aside0.mk ((by rw [hg]; exact (below_size (hb_ HB)) : w.heap.size ≤ gb245)); have n3_ := Aside0.mk ((by rw [hg]; exact (below_size (hb_ HB)) : w.heap.size ≤ gb245)); clear HB; have HB := n0_; have BK245 := n1_; have GW245 := n2_; have GE245 := n3_; clear n0_ n1_ n2_ n3_; clear hb hbox hg) | ((with_reducible refine gate_dst (N := 3) rfl ?_); refine box_event ?hg (N := 3) ?hd (cs := #[.bool a1_0, .bool a1_1, .bool a1_2, .bool a1_3, .int .i64 a1_4, .int .i64 a1_5, .string a1_6, .string a1_7]) (t := 31) ?hr ?_; (case hd => rfl); (case hg => rfl); (case hr => first | (go_simp; done) | (go_simp; rfl)); intro gb246 hg w11 hbox hb; have n0_ := Aside0.mk (blk_below (bk_ BK245) hb); have n1_ := Aside0.mk (below_step (hb_ HB) hb); have n2_ := Aside0.mk (hbox); have n3_ := Aside0.mk ((by rw [hg]; exact (below_size (hb_ HB)) : w.heap.size ≤ gb246)); have n4_ := Aside0.mk ((by rw [hg]; exact (below_size (hb_ HB)) : w.heap.size ≤ gb246)); have n5_ := Aside0.mk ((by rw [hg]; exact Nat.ne_of_lt (blk_lt (g := gb245) (o := .cells #[.bool a0_0, .bool a0_1, .bool a0_2, .bool a0_3, .int .i64 a0_4, .int .i64 a0_5, .string a0_6, .string a0_7] 31 (0, 0)) (bk_ BK245)) : gb245 ≠ gb246)); have n6_ := Aside0.mk ((by rw [hg]; exact Nat.ne_of_gt (blk_lt (g := gb245) (o := .cells #[.bool a0_0, .bool a0_1, .bool a0_2, .bool a0_3, .int .i64 a0_4, .int .i64 a0_5, .string a0_6, .string a0_7] 31 (0, 0)) (bk_ BK245)) : gb246 ≠ gb245)); clear BK245; clear HB; have BK245 := n0_; have HB := n1_; have BK246 := n2_; have GW246 := n3_; have GE246 := n4_; have NB245_246 := n5_; have NB246_245 := n6_; clear n0_ n1_ n2_ n3_ n4_ n5_ n6_; clear hb hbox hg; have hnb12 := NB245_246.out; have hnc12 := NB246_245.out; have hcz13_0 : w11.cell? ⟨gb245, 0, none⟩ = some (.bool a0_0) := (blk_cell BK245.out 0).trans rfl; have hcz13_1 : w11.cell? ⟨gb245, 1, none⟩ = some (.bool a0_1) := (blk_cell BK245.out 1).trans rfl; have hcz13_2 : w11.cell? ⟨gb245, 2, none⟩ = some (.bool a0_2) := (blk_cell BK245.out 2).trans rfl; have hcz13_3 : w11.cell? ⟨gb245, 3, none⟩ = some (.bool a0_3) := (blk_cell BK245.out 3).trans rfl; have hcz13_4 : w11.cell? ⟨gb245, 4, none⟩ = some (.int .i64 a0_4) := (blk_cell BK245.out 4).trans rfl; have hcz13_5 : w11.cell? ⟨gb245, 5, none⟩ = some (.int .i64 a0_5) := (blk_cell BK245.out 5).trans rfl; have hcz13_6 : w11.cell? ⟨gb245, 6, none⟩ = some (.string a0_6) := (blk_cell BK245.out 6).trans rfl; have hcz13_7 : w11.cell? ⟨gb245, 7, none⟩ = some (.string a0_7) := (blk_cell BK245.out 7).trans rfl; have hfz13_0 := blk_frozen BK245.out 0; have hfz13_1 := blk_frozen BK245.out 1; have hfz13_2 := blk_frozen BK245.out 2; have hfz13_3 := blk_frozen BK245.out 3; have hfz13_4 := blk_frozen BK245.out 4; have hfz13_5 := blk_frozen BK245.out 5; have hfz13_6 := blk_frozen BK245.out 6; have hfz13_7 := blk_frozen BK245.out 7; have hcz14_0 : w11.cell? ⟨gb246, 0, none⟩ = some (.bool a1_0) := (blk_cell BK246.out 0).trans rfl; have hcz14_1 : w11.cell? ⟨gb246, 1, none⟩ = some (.bool a1_1) := (blk_cell BK246.out 1).trans rfl; have hcz14_2 : w11.cell? ⟨gb246, 2, none⟩ = some (.bool a1_2) := (blk_cell BK246.out 2).trans rfl; have hcz14_3 : w11.cell? ⟨gb246, 3, none⟩ = some (.bool a1_3) := (blk_cell BK246.out 3).trans rfl; have hcz14_4 : w11.cell? ⟨gb246, 4, none⟩ = some (.int .i64 a1_4) := (blk_cell BK246.out 4).trans rfl; have hcz14_5 : w11.cell? ⟨gb246, 5, none⟩ = some (.int .i64 a1_5) := (blk_cell BK246.out 5).trans rfl; have hcz14_6 : w11.cell? ⟨gb246, 6, none⟩ = some (.string a1_6) := (blk_cell BK246.out 6).trans rfl; have hcz14_7 : w11.cell? ⟨gb246, 7, none⟩ = some (.string a1_7) := (blk_cell BK246.out 7).trans rfl; have hfz14_0 := blk_frozen BK246.out 0; have hfz14_1 := blk_frozen BK246.out 1; have hfz14_2 := blk_frozen BK246.out 2; have hfz14_3 := blk_frozen BK246.out 3; have hfz14_4 := blk_frozen BK246.out 4; have hfz14_5 := blk_frozen BK246.out 5; have hfz14_6 := blk_frozen BK246.out 6; have hfz14_7 := blk_frozen BK246.out 7))
 go_ret
 exact ⟨by first | rfl | (simp [errW_none, errW_some] <;> rfl) | (simp [*, errW_none, errW_some] <;> rfl) | (simp [bt, *]; done) | (unfold bt; simp [*]; done), by repeat (first | (with_reducible first | exact HB.out | apply below_alloc | apply pw_below_drewN | apply below_drew1 | refine below_set ?_ GE245.out | refine below_set ?_ GE246.out) | exact HB.out)⟩
def headgateref21_Pairs.l0 : Nat → List (S45) → List (S45) → Int → Option (Bool)
  | 0, _, _, _ => none
  | k + 1, x0, x1, x5 => if x5 < (x0.length : Int) then (if 0 ≤ x5 then (if x5 < (x1.length : Int) then (if ((rd_T45 x0 x5).f0).toList = ((rd_T45 x1 x5).f0).toList then (if ((rd_T45 x0 x5).f1).toList = ((rd_T45 x1 x5).f1).toList then (headgateref21_Pairs.l0 k x0 x1 (wrap64 (x5 + 1))) else (some false)) else (some false)) else (none)) else (none)) else (some true)
def headgateref21_Pairs.f (k : Nat) (l0 : List (S45)) (l1 : List (S45)) : Option (Bool) := if (l0.length : Int) = (l1.length : Int) then (headgateref21_Pairs.l0 k l0 l1 0) else (some false)
theorem headgateref21_Pairs.mono_l : ∀ k, (∀ y0 y1 y2, LeO (headgateref21_Pairs.l0 k y0 y1 y2) (headgateref21_Pairs.l0 (k + 1) y0 y1 y2))
  | 0 => fun _ _ _ r h => by simp [headgateref21_Pairs.l0] at h
  | k + 1 => by
    have ih0 := headgateref21_Pairs.mono_l k
    · intro y0 y1 y2
      unfold headgateref21_Pairs.l0
      repeat' first
      | (with_reducible exact ih0 _ _ _)
      | (with_reducible exact LeO.refl _)
      | (with_reducible exact LeO.none _)
      | (with_reducible refine LeO.ite ?_ ?_)
      | (with_reducible refine LeO.bind ?_ (fun _ => ?_))
      | exact ih0 _ _ _
      | exact LeO.none _
      | refine LeO.ite ?_ ?_
      | refine LeO.bind ?_ (fun _ => ?_)
theorem headgateref21_Pairs.mono : ∀ a0 a1 k, LeO (headgateref21_Pairs.f k a0 a1) (headgateref21_Pairs.f (k + 1) a0 a1) := by
  intro a0 a1 k
  have ih0 := headgateref21_Pairs.mono_l k
  unfold headgateref21_Pairs.f
  repeat' first
      | (with_reducible exact ih0 _ _ _)
      | (with_reducible exact LeO.refl _)
      | (with_reducible exact LeO.none _)
      | (with_reducible refine LeO.ite ?_ ?_)
      | (with_reducible refine LeO.bind ?_ (fun _ => ?_))
      | exact ih0 _ _ _
      | exact LeO.none _
      | refine LeO.ite ?_ ?_
      | refine LeO.bind ?_ (fun _ => ?_)
set_option maxHeartbeats 8000000 in
set_option maxRecDepth 100000 in
theorem headgateref21_Pairs.calls (k : Nat) (A0 : Option Addr) (c0 : Nat) (l0 : List (S45)) (A1 : Option Addr) (c1 : Nat) (l1 : List (S45)) (r : Bool) (w : World) (hr0 : Kd.C k45 w A0 l0.length l0) (hc0 : l0.length ≤ c0) (hr1 : Kd.C k45 w A1 l1.length l1) (hc1 : l1.length ≤ c1) (h : headgateref21_Pairs.f k l0 l1 = some r) :
    Calls Tryd.prog 15 #[.slice A0 l0.length c0, .slice A1 l1.length c1] w fun e w' => e = .returned (.bool r) ∧ Drawn0 w w' := by
  have HR0 := Aside0.mk hr0
  have HC0 := Aside0.mk hc0
  clear hr0 hc0
  have HR1 := Aside0.mk hr1
  have HC1 := Aside0.mk hc1
  clear hr1 hc1
  have H : (if (l0.length : Int) = (l1.length : Int) then (headgateref21_Pairs.l0 k l0 l1 0) else (some false)) = some r := h
  clear h
  by_cases c3 : (l0.length : Int) = (l1.length : Int)
  · rw [if_pos c3] at H
    have c3b0 : ((l0.length : Int) == (l1.length : Int)) = true := beq_iff_eq.mpr c3
    have c3b1 : ((l0.length : Int) != (l1.length : Int)) = false := bne_eq_false_iff_eq.mpr c3
    have c3b2 : (l0.length == l1.length) = true := by first | simpa using c3 | (simp at c3 ⊢; omega)
    clear c3
    have H' := Aside0.mk H
    clear H
    go_enter Tryd.func15, Tryd.ntmps15
    go_wp2
    repeat (go_quiet (fail); try go_wp2)
    go_loopg [5] k (fun kq v5 w' => ∃ (x5_1 : Int), v5 = .int .i64 x5_1 ∧ Aside0 (headgateref21_Pairs.l0 kq l0 l1 x5_1 = some r) ∧ Aside0 (kq ≤ k) ∧ Drawn0 w w')
    case atStart => exact ⟨(0), (by first | rfl | (simp; done) | (simp [*]; done)), H', ⟨Nat.le_refl _⟩, by repeat (first | exact Drawn0.refl _ | apply Drawn0.step)⟩
    case round =>
      clear H'
      try clear c1
      try clear p2
      try clear c3
      try clear c3b0
      try clear c3b1
      try clear c3b2
      obtain ⟨x5_1, rfl, HA, HK1, ⟨m1, rfl⟩⟩ := hrel
      cases gk with
      | zero => exact absurd HA.out (by simp [headgateref21_Pairs.l0])
      | succ k1 =>
        have H := HA.out
        clear HA
        simp only [headgateref21_Pairs.l0] at H
        by_cases c4 : x5_1 < (l0.length : Int)
        · rw [if_pos c4] at H
          have c4b0 : decide (x5_1 < (l0.length : Int)) = true := decide_eq_true c4
          clear c4
          by_cases c5 : 0 ≤ x5_1
          · rw [if_pos c5] at H
            have c5b0 : decide (0 ≤ x5_1) = true := decide_eq_true c5
            clear c5
            by_cases c6 : x5_1 < (l1.length : Int)
            · rw [if_pos c6] at H
              have c6b0 : decide (x5_1 < (l1.length : Int)) = true := decide_eq_true c6
              clear c6
              by_cases c7 : ((rd_T45 l0 x5_1).f0).toList = ((rd_T45 l1 x5_1).f0).toList
              · rw [if_pos c7] at H
                have c7b0 : (((rd_T45 l0 x5_1).f0).toList == ((rd_T45 l1 x5_1).f0).toList) = true := beq_iff_eq.mpr c7
                have c7b1 : (((rd_T45 l0 x5_1).f0).toList != ((rd_T45 l1 x5_1).f0).toList) = false := bne_eq_false_iff_eq.mpr c7
                clear c7
                by_cases c8 : ((rd_T45 l0 x5_1).f1).toList = ((rd_T45 l1 x5_1).f1).toList
                · rw [if_pos c8] at H
                  have c8b0 : (((rd_T45 l0 x5_1).f1).toList == ((rd_T45 l1 x5_1).f1).toList) = true := beq_iff_eq.mpr c8
                  have c8b1 : (((rd_T45 l0 x5_1).f1).toList != ((rd_T45 l1 x5_1).f1).toList) = false := bne_eq_false_iff_eq.mpr c8
                  clear c8
                  have H' := Aside0.mk H
                  clear H
                  have p247 : 0 ≤ (x5_1 : Int) := of_decide_eq_true (by first | (with_reducible assumption) | assumption)
                  have q247 : x5_1 < (l0.length : Int) := of_decide_eq_true (by first | (with_reducible assumption) | assumption)
                  obtain ⟨ad247, e247, hx247_0, hx247_1⟩ := at_T45 HR0.out x5_1 p247 q247
                  cases e247
                  replace p247 := eq_true p247
                  replace q247 := eq_true q247
                  have p248 : 0 ≤ (x5_1 : Int) := of_decide_eq_true (by first | (with_reducible assumption) | assumption)
                  have q248 : x5_1 < (l1.length : Int) := of_decide_eq_true (by first | (with_reducible assumption) | assumption)
                  obtain ⟨ad248, e248, hx248_0, hx248_1⟩ := at_T45 HR1.out x5_1 p248 q248
                  cases e248
                  replace p248 := eq_true p248
                  replace q248 := eq_true q248
                  have p249 : 0 ≤ (x5_1 : Int) := of_decide_eq_true (by first | (with_reducible assumption) | assumption)
                  have q249 : x5_1 < (l0.length : Int) := of_decide_eq_true (by first | (with_reducible assumption) | assumption)
                  obtain ⟨ad249, e249, hx249_0, hx249_1⟩ := at_T45 HR0.out x5_1 p249 q249
                  obtain rfl : ad247 = ad249 := (by injection e249)
                  replace p249 := eq_true p249
                  replace q249 := eq_true q249
                  have p250 : 0 ≤ (x5_1 : Int) := of_decide_eq_true (by first | (with_reducible assumption) | assumption)
                  have q250 : x5_1 < (l1.length : Int) := of_decide_eq_true (by first | (with_reducible assumption) | assumption)
                  obtain ⟨ad250, e250, hx250_0, hx250_1⟩ := at_T45 HR1.out x5_1 p250 q250
                  obtain rfl : ad248 = ad250 := (by injection e250)
                  replace p250 := eq_true p250
                  replace q250 := eq_true q250
                  go_wp2
                  repeat (go_quiet (fail); try go_wp2)
                  go_roundg k1
                  case measure => have := HK1.out; omega
                  case rel => exact ⟨(wrap64 (x5_1 + 1)), (by first | rfl | (simp; done) | (simp [*]; done)), H', ⟨by have := HK1.out; omega⟩, by repeat (first | exact Drawn0.refl _ | apply Drawn0.step)⟩
                · rw [if_neg c8] at H
                  have c8b0 : (((rd_T45 l0 x5_1).f1).toList == ((rd_T45 l1 x5_1).f1).toList) = false := beq_eq_false_iff_ne.mpr c8
                  have c8b1 : (((rd_T45 l0 x5_1).f1).toList != ((rd_T45 l1 x5_1).f1).toList) = true := bne_iff_ne.mpr c8
                  obtain rfl := Option.some.inj H
                  have p247 : 0 ≤ (x5_1 : Int) := of_decide_eq_true (by first | (with_reducible assumption) | assumption)
                  have q247 : x5_1 < (l0.length : Int) := of_decide_eq_true (by first | (with_reducible assumption) | assumption)
                  obtain ⟨ad247, e247, hx247_0, hx247_1⟩ := at_T45 HR0.out x5_1 p247 q247
                  cases e247
                  replace p247 := eq_true p247
                  replace q247 := eq_true q247
                  have p248 : 0 ≤ (x5_1 : Int) := of_decide_eq_true (by first | (with_reducible assumption) | assumption)
                  have q248 : x5_1 < (l1.length : Int) := of_decide_eq_true (by first | (with_reducible assumption) | assumption)
                  obtain ⟨ad248, e248, hx248_0, hx248_1⟩ := at_T45 HR1.out x5_1 p248 q248
                  cases e248
                  replace p248 := eq_true p248
                  replace q248 := eq_true q248
                  have p249 : 0 ≤ (x5_1 : Int) := of_decide_eq_true (by first | (with_reducible assumption) | assumption)
                  have q249 : x5_1 < (l0.length : Int) := of_decide_eq_true (by first | (with_reducible assumption) | assumption)
                  obtain ⟨ad249, e249, hx249_0, hx249_1⟩ := at_T45 HR0.out x5_1 p249 q249
                  obtain rfl : ad247 = ad249 := (by injection e249)
                  replace p249 := eq_true p249
                  replace q249 := eq_true q249
                  have p250 : 0 ≤ (x5_1 : Int) := of_decide_eq_true (by first | (with_reducible assumption) | assumption)
                  have q250 : x5_1 < (l1.length : Int) := of_decide_eq_true (by first | (with_reducible assumption) | assumption)
                  obtain ⟨ad250, e250, hx250_0, hx250_1⟩ := at_T45 HR1.out x5_1 p250 q250
                  obtain rfl : ad248 = ad250 := (by injection e250)
                  replace p250 := eq_true p250
                  replace q250 := eq_true q250
                  go_wp2
                  repeat (go_quiet (fail); try go_wp2)
                  go_ret
                  exact ⟨by first | rfl | (simp; done) | (simp [*]; done), by repeat (first | exact Drawn0.refl _ | apply Drawn0.step)⟩
              · rw [if_neg c7] at H
                have c7b0 : (((rd_T45 l0 x5_1).f0).toList == ((rd_T45 l1 x5_1).f0).toList) = false := beq_eq_false_iff_ne.mpr c7
                have c7b1 : (((rd_T45 l0 x5_1).f0).toList != ((rd_T45 l1 x5_1).f0).toList) = true := bne_iff_ne.mpr c7
                obtain rfl := Option.some.inj H
                have p247 : 0 ≤ (x5_1 : Int) := of_decide_eq_true (by first | (with_reducible assumption) | assumption)
                have q247 : x5_1 < (l0.length : Int) := of_decide_eq_true (by first | (with_reducible assumption) | assumption)
                obtain ⟨ad247, e247, hx247_0, hx247_1⟩ := at_T45 HR0.out x5_1 p247 q247
                cases e247
                replace p247 := eq_true p247
                replace q247 := eq_true q247
                have p248 : 0 ≤ (x5_1 : Int) := of_decide_eq_true (by first | (with_reducible assumption) | assumption)
                have q248 : x5_1 < (l1.length : Int) := of_decide_eq_true (by first | (with_reducible assumption) | assumption)
                obtain ⟨ad248, e248, hx248_0, hx248_1⟩ := at_T45 HR1.out x5_1 p248 q248
                cases e248
                replace p248 := eq_true p248
                replace q248 := eq_true q248
                go_wp2
                repeat (go_quiet (fail); try go_wp2)
                go_ret
                exact ⟨by first | rfl | (simp; done) | (simp [*]; done), by repeat (first | exact Drawn0.refl _ | apply Drawn0.step)⟩
            · rw [if_neg c6] at H
              exact absurd H (by simp)
          · rw [if_neg c5] at H
            exact absurd H (by simp)
        · rw [if_neg c4] at H
          have c4b0 : decide (x5_1 < (l0.length : Int)) = false := decide_eq_false c4
          clear c4
          obtain rfl := Option.some.inj H
          go_wp2
          repeat (go_quiet (fail); try go_wp2)
          go_ret
          exact ⟨by first | rfl | (simp; done) | (simp [*]; done), by repeat (first | exact Drawn0.refl _ | apply Drawn0.step)⟩
  · rw [if_neg c3] at H
    have c3b0 : ((l0.length : Int) == (l1.length : Int)) = false := beq_eq_false_iff_ne.mpr c3
    have c3b1 : ((l0.length : Int) != (l1.length : Int)) = true := bne_iff_ne.mpr c3
    have c3b2 : (l0.length == l1.length) = false := by first | simpa using c3 | (simp at c3 ⊢; omega)
    obtain rfl := Option.some.inj H
    go_enter Tryd.func15, Tryd.ntmps15
    go_wp2
    repeat (go_quiet (fail); try go_wp2)
    go_ret
    exact ⟨by first | rfl | (simp; done) | (simp [*]; done), by repeat (first | exact Drawn0.refl _ | apply Drawn0.step)⟩
end Go.Proofs.YtclcnkmefldpiaaDoor.P
namespace Go.Proofs.YtclcnkmefldpiaaDoor.Pure
open Go.RowKit Go.Proofs.YtclcnkmefldpiaaDoor.P Go.Proofs.YtclcnkmefldpiaaDoorW.PrintWords Go.Proofs.YtclcnkmefldpiaaDoorW.PrintLast Go.Proofs.YtclcnkmefldpiaaDoorW.PrintMore
set_option linter.unusedVariables false
set_option linter.unusedSimpArgs false
theorem Pairs_l0 (l : List S45) (hl : l.length ≤ 1000) : ∀ (d k i : Nat), i + d = l.length → d + 1 ≤ k → headgateref21_Pairs.l0 k l l (i : Int) = some true
  | 0, k + 1, i, hi, hk => by rw [headgateref21_Pairs.l0, if_neg (by omega)]
  | d + 1, k + 1, i, hi, hk => by
    rw [headgateref21_Pairs.l0, if_pos (by omega), if_pos (by omega), if_pos (by omega), if_pos rfl, if_pos rfl, w64 (by omega) (by omega)]
    exact Pairs_l0 l hl d k (i + 1) (by omega) (by omega)
theorem Pairs_same (k : Nat) (l : List S45) (hl : l.length ≤ 1000) (hk : 1010 ≤ k) : headgateref21_Pairs.f k l l = some true := by
  unfold headgateref21_Pairs.f
  rw [if_pos rfl]
  exact Pairs_l0 l hl l.length k 0 (by omega) (by omega)
end Go.Proofs.YtclcnkmefldpiaaDoor.Pure
namespace Go.Proofs.YtclcnkmefldpiaaDoor.Pure
open Go.RowKit Go.Proofs.YtclcnkmefldpiaaDoor.P Go.Proofs.YtclcnkmefldpiaaDoorW.PrintWords Go.Proofs.YtclcnkmefldpiaaDoorW.PrintLast Go.Proofs.YtclcnkmefldpiaaDoorW.PrintMore
set_option linter.unusedVariables false
set_option linter.unusedSimpArgs false
theorem goodL_app : ∀ (a m b : List S45), goodL m (a ++ b) = (goodL m a && goodL (m ++ a) b)
  | [], m, b => by rw [List.nil_append, List.append_nil]; rfl
  | p :: a, m, b => by
    rw [List.cons_append, goodL_cons, goodL_cons, goodL_app a (m ++ [p]) b, List.append_assoc, List.singleton_append]
    simp only [Bool.and_assoc]
theorem goodL_less : ∀ (l m m' : List S45), (∀ s, keyIn m' s = true → keyIn m s = true) → goodL m l = true → goodL m' l = true
  | [], m, m', _, _ => rfl
  | p :: l, m, m', hk, h => by
    rw [goodL_cons] at h ⊢
    simp only [Bool.and_eq_true, Bool.not_eq_true'] at h ⊢
    refine ⟨⟨?_, h.1.2⟩, goodL_less l (m ++ [p]) (m' ++ [p]) (fun s hs => ?_) h.2⟩
    · cases hx : keyIn m' p.f0
      · rfl
      · rw [hk _ hx] at h; exact absurd h.1.1 (by simp)
    · rw [keyIn_snoc] at hs ⊢
      rcases Bool.or_eq_true_iff.mp hs with hs | hs
      · rw [hk _ hs]; rfl
      · rw [hs, Bool.or_true]
end Go.Proofs.YtclcnkmefldpiaaDoor.Pure
namespace Go.Proofs.YtclcnkmefldpiaaDoor.Pure
open Go.RowKit Go.Proofs.YtclcnkmefldpiaaDoor.P Go.Proofs.YtclcnkmefldpiaaDoorW.PrintWords Go.Proofs.YtclcnkmefldpiaaDoorW.PrintLast Go.Proofs.YtclcnkmefldpiaaDoorW.PrintMore
set_option linter.unusedVariables false
set_option linter.unusedSimpArgs false
theorem ansL_app : ∀ (l m : List S45) (a : S23) (out : List S45), ansL a out (l ++ m) = (ansL a out l).bind fun V => match V with | none => some none | some x => ansL x.1 x.2 m
  | [], m, a, out => rfl
  | p :: l, m, a, out => by
    rw [List.cons_append, ansL, ansL]
    cases findR p.f0 with
    | none => exact ansL_app l m a _
    | some r =>
      dsimp only
      rw [Option.bind_assoc]
      congr 1
      funext x
      split
      · split
        · exact ansL_app l m _ _
        · exact ansL_app l m _ _
      · rfl
end Go.Proofs.YtclcnkmefldpiaaDoor.Pure
