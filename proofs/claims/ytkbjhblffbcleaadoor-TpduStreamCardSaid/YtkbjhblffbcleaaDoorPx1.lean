-- written by this session's patched copy of the printer (wip/tools/patch_print.py); Lean checks it
import Derived.Test.YtkbjhblffbcleaaDoorPx0
namespace Go.Proofs.YtkbjhblffbcleaaDoor.P
open Go.RowKit Go.Proofs.YtkbjhblffbcleaaDoorW.PrintWords Go.Proofs.YtkbjhblffbcleaaDoorW.PrintLast Go.Proofs.YtkbjhblffbcleaaDoorW.PrintMore
attribute [local go_sem] max2_int min2_int max_two min_two max_three min_three max_four min_four   -- for this text's walks alone
set_option linter.unusedVariables false
set_option linter.unusedSimpArgs false
set_option linter.unnecessarySimpa false

/-! ### tpdu_formOf: function 17 -/
def tpdu_formOf.f (a0 : Int) : Option (Int × Int × Bool) :=
  if 0 ≤ a0 then (if a0 < 10 then some (G_tpdu_forms.tab.getD a0.toNat (0, 0, false)) else some (0, 0, false)) else some (0, 0, false)
set_option maxHeartbeats 4000000 in
set_option maxRecDepth 100000 in
theorem tpdu_formOf.calls (a0 : Int) (r1 r2 : Int) (r3 : Bool) (w : World) (hG : Glob w) (h : tpdu_formOf.f a0 = some (r1, r2, r3)) :
    Calls Tryd.prog 17 #[.int .i64 a0] w fun e w' => e = .returned (.agg #[.int .i64 r1, .int .i64 r2, .bool r3]) ∧ Below w.heap.size w w' := by
  have hu := Tryd.underlying48
  unfold tpdu_formOf.f at h
  by_cases h1 : 0 ≤ a0
  · rw [if_pos h1] at h
    by_cases h2 : a0 < 10
    · rw [if_pos h2] at h
      obtain ⟨k, rfl⟩ : ∃ k : Nat, a0 = k := ⟨a0.toNat, by omega⟩
      have hk : k < 10 := by omega
      have hc := hG.tpdu_forms
      have c0 := hc (3 * k)
      have c1 := hc (3 * k + 1)
      have c2 := hc (3 * k + 2)
      clear hG hc h1 h2
      match k, hk with
      | 0, _ =>
        cases h
        replace c0 := Aside0.mk (c0 _ rfl)
        replace c1 := Aside0.mk (c1 _ rfl)
        replace c2 := Aside0.mk (c2 _ rfl)
        go_enter Tryd.func17, Tryd.ntmps17
        go_wp2_with (first | ((with_reducible refine gate_dst (N := 2) rfl ?_); refine box_event ?hg (N := 2) ?hd (cs := #[.int .i64 0, .int .i64 0, .bool false]) (t := 48) ?hr ?_; (case hd => rfl); (case hg => rfl); (case hr => first | (go_simp; done) | (go_simp; rfl)); intro gb hg w3 hbox hb; have GE := Aside0.mk (show w.heap.size ≤ gb by rw [hg]; exact Nat.le_refl _); have HB := Aside0.mk hb; have BK := Aside0.mk hbox; have hz0 : w3.cell? ⟨gb, 0, none⟩ = some (.int .i64 0) := (blk_cell hbox 0).trans rfl; have hz1 : w3.cell? ⟨gb, 1, none⟩ = some (.int .i64 0) := (blk_cell hbox 1).trans rfl; have hz2 : w3.cell? ⟨gb, 2, none⟩ = some (.bool false) := (blk_cell hbox 2).trans rfl; have hf0 := blk_frozen hbox 0; have hf1 := blk_frozen hbox 1; have hf2 := blk_frozen hbox 2; have g0 := (hb.cell (World.block_lt_of_cell? w _ c0.out)).trans c0.out; have g1 := (hb.cell (World.block_lt_of_cell? w _ c1.out)).trans c1.out; have g2 := (hb.cell (World.block_lt_of_cell? w _ c2.out)).trans c2.out; simp only [Nat.reduceMul, Nat.reduceAdd] at g0 g1 g2; clear hb hbox hg))
        refine bodyPost_ret (results_cell_row rfl _ _ gb 48 #[.int .i64 120, .int .i64 0, .bool false] (0, 0) _ rfl (blk_put (blk_put (blk_put BK.out 0 _ rfl) 1 _ rfl) 2 _ rfl) Tryd.underlying48 rfl (by kernel_rfl)) rfl ?_
        exact ⟨rfl, below_set (below_set (below_set HB.out GE.out) GE.out) GE.out⟩
      | 1, _ =>
        cases h
        replace c0 := Aside0.mk (c0 _ rfl)
        replace c1 := Aside0.mk (c1 _ rfl)
        replace c2 := Aside0.mk (c2 _ rfl)
        go_enter Tryd.func17, Tryd.ntmps17
        go_wp2_with (first | ((with_reducible refine gate_dst (N := 2) rfl ?_); refine box_event ?hg (N := 2) ?hd (cs := #[.int .i64 0, .int .i64 0, .bool false]) (t := 48) ?hr ?_; (case hd => rfl); (case hg => rfl); (case hr => first | (go_simp; done) | (go_simp; rfl)); intro gb hg w3 hbox hb; have GE := Aside0.mk (show w.heap.size ≤ gb by rw [hg]; exact Nat.le_refl _); have HB := Aside0.mk hb; have BK := Aside0.mk hbox; have hz0 : w3.cell? ⟨gb, 0, none⟩ = some (.int .i64 0) := (blk_cell hbox 0).trans rfl; have hz1 : w3.cell? ⟨gb, 1, none⟩ = some (.int .i64 0) := (blk_cell hbox 1).trans rfl; have hz2 : w3.cell? ⟨gb, 2, none⟩ = some (.bool false) := (blk_cell hbox 2).trans rfl; have hf0 := blk_frozen hbox 0; have hf1 := blk_frozen hbox 1; have hf2 := blk_frozen hbox 2; have g0 := (hb.cell (World.block_lt_of_cell? w _ c0.out)).trans c0.out; have g1 := (hb.cell (World.block_lt_of_cell? w _ c1.out)).trans c1.out; have g2 := (hb.cell (World.block_lt_of_cell? w _ c2.out)).trans c2.out; simp only [Nat.reduceMul, Nat.reduceAdd] at g0 g1 g2; clear hb hbox hg))
        refine bodyPost_ret (results_cell_row rfl _ _ gb 48 #[.int .i64 120, .int .i64 0, .bool false] (0, 0) _ rfl (blk_put (blk_put (blk_put BK.out 0 _ rfl) 1 _ rfl) 2 _ rfl) Tryd.underlying48 rfl (by kernel_rfl)) rfl ?_
        exact ⟨rfl, below_set (below_set (below_set HB.out GE.out) GE.out) GE.out⟩
      | 2, _ =>
        cases h
        replace c0 := Aside0.mk (c0 _ rfl)
        replace c1 := Aside0.mk (c1 _ rfl)
        replace c2 := Aside0.mk (c2 _ rfl)
        go_enter Tryd.func17, Tryd.ntmps17
        go_wp2_with (first | ((with_reducible refine gate_dst (N := 2) rfl ?_); refine box_event ?hg (N := 2) ?hd (cs := #[.int .i64 0, .int .i64 0, .bool false]) (t := 48) ?hr ?_; (case hd => rfl); (case hg => rfl); (case hr => first | (go_simp; done) | (go_simp; rfl)); intro gb hg w3 hbox hb; have GE := Aside0.mk (show w.heap.size ≤ gb by rw [hg]; exact Nat.le_refl _); have HB := Aside0.mk hb; have BK := Aside0.mk hbox; have hz0 : w3.cell? ⟨gb, 0, none⟩ = some (.int .i64 0) := (blk_cell hbox 0).trans rfl; have hz1 : w3.cell? ⟨gb, 1, none⟩ = some (.int .i64 0) := (blk_cell hbox 1).trans rfl; have hz2 : w3.cell? ⟨gb, 2, none⟩ = some (.bool false) := (blk_cell hbox 2).trans rfl; have hf0 := blk_frozen hbox 0; have hf1 := blk_frozen hbox 1; have hf2 := blk_frozen hbox 2; have g0 := (hb.cell (World.block_lt_of_cell? w _ c0.out)).trans c0.out; have g1 := (hb.cell (World.block_lt_of_cell? w _ c1.out)).trans c1.out; have g2 := (hb.cell (World.block_lt_of_cell? w _ c2.out)).trans c2.out; simp only [Nat.reduceMul, Nat.reduceAdd] at g0 g1 g2; clear hb hbox hg))
        refine bodyPost_ret (results_cell_row rfl _ _ gb 48 #[.int .i64 16, .int .i64 128, .bool false] (0, 0) _ rfl (blk_put (blk_put (blk_put BK.out 0 _ rfl) 1 _ rfl) 2 _ rfl) Tryd.underlying48 rfl (by kernel_rfl)) rfl ?_
        exact ⟨rfl, below_set (below_set (below_set HB.out GE.out) GE.out) GE.out⟩
      | 3, _ =>
        cases h
        replace c0 := Aside0.mk (c0 _ rfl)
        replace c1 := Aside0.mk (c1 _ rfl)
        replace c2 := Aside0.mk (c2 _ rfl)
        go_enter Tryd.func17, Tryd.ntmps17
        go_wp2_with (first | ((with_reducible refine gate_dst (N := 2) rfl ?_); refine box_event ?hg (N := 2) ?hd (cs := #[.int .i64 0, .int .i64 0, .bool false]) (t := 48) ?hr ?_; (case hd => rfl); (case hg => rfl); (case hr => first | (go_simp; done) | (go_simp; rfl)); intro gb hg w3 hbox hb; have GE := Aside0.mk (show w.heap.size ≤ gb by rw [hg]; exact Nat.le_refl _); have HB := Aside0.mk hb; have BK := Aside0.mk hbox; have hz0 : w3.cell? ⟨gb, 0, none⟩ = some (.int .i64 0) := (blk_cell hbox 0).trans rfl; have hz1 : w3.cell? ⟨gb, 1, none⟩ = some (.int .i64 0) := (blk_cell hbox 1).trans rfl; have hz2 : w3.cell? ⟨gb, 2, none⟩ = some (.bool false) := (blk_cell hbox 2).trans rfl; have hf0 := blk_frozen hbox 0; have hf1 := blk_frozen hbox 1; have hf2 := blk_frozen hbox 2; have g0 := (hb.cell (World.block_lt_of_cell? w _ c0.out)).trans c0.out; have g1 := (hb.cell (World.block_lt_of_cell? w _ c1.out)).trans c1.out; have g2 := (hb.cell (World.block_lt_of_cell? w _ c2.out)).trans c2.out; simp only [Nat.reduceMul, Nat.reduceAdd] at g0 g1 g2; clear hb hbox hg))
        refine bodyPost_ret (results_cell_row rfl _ _ gb 48 #[.int .i64 16, .int .i64 128, .bool false] (0, 0) _ rfl (blk_put (blk_put (blk_put BK.out 0 _ rfl) 1 _ rfl) 2 _ rfl) Tryd.underlying48 rfl (by kernel_rfl)) rfl ?_
        exact ⟨rfl, below_set (below_set (below_set HB.out GE.out) GE.out) GE.out⟩
      | 4, _ =>
        cases h
        replace c0 := Aside0.mk (c0 _ rfl)
        replace c1 := Aside0.mk (c1 _ rfl)
        replace c2 := Aside0.mk (c2 _ rfl)
        go_enter Tryd.func17, Tryd.ntmps17
        go_wp2_with (first | ((with_reducible refine gate_dst (N := 2) rfl ?_); refine box_event ?hg (N := 2) ?hd (cs := #[.int .i64 0, .int .i64 0, .bool false]) (t := 48) ?hr ?_; (case hd => rfl); (case hg => rfl); (case hr => first | (go_simp; done) | (go_simp; rfl)); intro gb hg w3 hbox hb; have GE := Aside0.mk (show w.heap.size ≤ gb by rw [hg]; exact Nat.le_refl _); have HB := Aside0.mk hb; have BK := Aside0.mk hbox; have hz0 : w3.cell? ⟨gb, 0, none⟩ = some (.int .i64 0) := (blk_cell hbox 0).trans rfl; have hz1 : w3.cell? ⟨gb, 1, none⟩ = some (.int .i64 0) := (blk_cell hbox 1).trans rfl; have hz2 : w3.cell? ⟨gb, 2, none⟩ = some (.bool false) := (blk_cell hbox 2).trans rfl; have hf0 := blk_frozen hbox 0; have hf1 := blk_frozen hbox 1; have hf2 := blk_frozen hbox 2; have g0 := (hb.cell (World.block_lt_of_cell? w _ c0.out)).trans c0.out; have g1 := (hb.cell (World.block_lt_of_cell? w _ c1.out)).trans c1.out; have g2 := (hb.cell (World.block_lt_of_cell? w _ c2.out)).trans c2.out; simp only [Nat.reduceMul, Nat.reduceAdd] at g0 g1 g2; clear hb hbox hg))
        refine bodyPost_ret (results_cell_row rfl _ _ gb 48 #[.int .i64 64, .int .i64 16384, .bool true] (0, 0) _ rfl (blk_put (blk_put (blk_put BK.out 0 _ rfl) 1 _ rfl) 2 _ rfl) Tryd.underlying48 rfl (by kernel_rfl)) rfl ?_
        exact ⟨rfl, below_set (below_set (below_set HB.out GE.out) GE.out) GE.out⟩
      | 5, _ =>
        cases h
        replace c0 := Aside0.mk (c0 _ rfl)
        replace c1 := Aside0.mk (c1 _ rfl)
        replace c2 := Aside0.mk (c2 _ rfl)
        go_enter Tryd.func17, Tryd.ntmps17
        go_wp2_with (first | ((with_reducible refine gate_dst (N := 2) rfl ?_); refine box_event ?hg (N := 2) ?hd (cs := #[.int .i64 0, .int .i64 0, .bool false]) (t := 48) ?hr ?_; (case hd => rfl); (case hg => rfl); (case hr => first | (go_simp; done) | (go_simp; rfl)); intro gb hg w3 hbox hb; have GE := Aside0.mk (show w.heap.size ≤ gb by rw [hg]; exact Nat.le_refl _); have HB := Aside0.mk hb; have BK := Aside0.mk hbox; have hz0 : w3.cell? ⟨gb, 0, none⟩ = some (.int .i64 0) := (blk_cell hbox 0).trans rfl; have hz1 : w3.cell? ⟨gb, 1, none⟩ = some (.int .i64 0) := (blk_cell hbox 1).trans rfl; have hz2 : w3.cell? ⟨gb, 2, none⟩ = some (.bool false) := (blk_cell hbox 2).trans rfl; have hf0 := blk_frozen hbox 0; have hf1 := blk_frozen hbox 1; have hf2 := blk_frozen hbox 2; have g0 := (hb.cell (World.block_lt_of_cell? w _ c0.out)).trans c0.out; have g1 := (hb.cell (World.block_lt_of_cell? w _ c1.out)).trans c1.out; have g2 := (hb.cell (World.block_lt_of_cell? w _ c2.out)).trans c2.out; simp only [Nat.reduceMul, Nat.reduceAdd] at g0 g1 g2; clear hb hbox hg))
        refine bodyPost_ret (results_cell_row rfl _ _ gb 48 #[.int .i64 16, .int .i64 0, .bool true] (0, 0) _ rfl (blk_put (blk_put (blk_put BK.out 0 _ rfl) 1 _ rfl) 2 _ rfl) Tryd.underlying48 rfl (by kernel_rfl)) rfl ?_
        exact ⟨rfl, below_set (below_set (below_set HB.out GE.out) GE.out) GE.out⟩
      | 6, _ =>
        cases h
        replace c0 := Aside0.mk (c0 _ rfl)
        replace c1 := Aside0.mk (c1 _ rfl)
        replace c2 := Aside0.mk (c2 _ rfl)
        go_enter Tryd.func17, Tryd.ntmps17
        go_wp2_with (first | ((with_reducible refine gate_dst (N := 2) rfl ?_); refine box_event ?hg (N := 2) ?hd (cs := #[.int .i64 0, .int .i64 0, .bool false]) (t := 48) ?hr ?_; (case hd => rfl); (case hg => rfl); (case hr => first | (go_simp; done) | (go_simp; rfl)); intro gb hg w3 hbox hb; have GE := Aside0.mk (show w.heap.size ≤ gb by rw [hg]; exact Nat.le_refl _); have HB := Aside0.mk hb; have BK := Aside0.mk hbox; have hz0 : w3.cell? ⟨gb, 0, none⟩ = some (.int .i64 0) := (blk_cell hbox 0).trans rfl; have hz1 : w3.cell? ⟨gb, 1, none⟩ = some (.int .i64 0) := (blk_cell hbox 1).trans rfl; have hz2 : w3.cell? ⟨gb, 2, none⟩ = some (.bool false) := (blk_cell hbox 2).trans rfl; have hf0 := blk_frozen hbox 0; have hf1 := blk_frozen hbox 1; have hf2 := blk_frozen hbox 2; have g0 := (hb.cell (World.block_lt_of_cell? w _ c0.out)).trans c0.out; have g1 := (hb.cell (World.block_lt_of_cell? w _ c1.out)).trans c1.out; have g2 := (hb.cell (World.block_lt_of_cell? w _ c2.out)).trans c2.out; simp only [Nat.reduceMul, Nat.reduceAdd] at g0 g1 g2; clear hb hbox hg))
        refine bodyPost_ret (results_cell_row rfl _ _ gb 48 #[.int .i64 16, .int .i64 16384, .bool true] (0, 0) _ rfl (blk_put (blk_put (blk_put BK.out 0 _ rfl) 1 _ rfl) 2 _ rfl) Tryd.underlying48 rfl (by kernel_rfl)) rfl ?_
        exact ⟨rfl, below_set (below_set (below_set HB.out GE.out) GE.out) GE.out⟩
      | 7, _ =>
        cases h
        replace c0 := Aside0.mk (c0 _ rfl)
        replace c1 := Aside0.mk (c1 _ rfl)
        replace c2 := Aside0.mk (c2 _ rfl)
        go_enter Tryd.func17, Tryd.ntmps17
        go_wp2_with (first | ((with_reducible refine gate_dst (N := 2) rfl ?_); refine box_event ?hg (N := 2) ?hd (cs := #[.int .i64 0, .int .i64 0, .bool false]) (t := 48) ?hr ?_; (case hd => rfl); (case hg => rfl); (case hr => first | (go_simp; done) | (go_simp; rfl)); intro gb hg w3 hbox hb; have GE := Aside0.mk (show w.heap.size ≤ gb by rw [hg]; exact Nat.le_refl _); have HB := Aside0.mk hb; have BK := Aside0.mk hbox; have hz0 : w3.cell? ⟨gb, 0, none⟩ = some (.int .i64 0) := (blk_cell hbox 0).trans rfl; have hz1 : w3.cell? ⟨gb, 1, none⟩ = some (.int .i64 0) := (blk_cell hbox 1).trans rfl; have hz2 : w3.cell? ⟨gb, 2, none⟩ = some (.bool false) := (blk_cell hbox 2).trans rfl; have hf0 := blk_frozen hbox 0; have hf1 := blk_frozen hbox 1; have hf2 := blk_frozen hbox 2; have g0 := (hb.cell (World.block_lt_of_cell? w _ c0.out)).trans c0.out; have g1 := (hb.cell (World.block_lt_of_cell? w _ c1.out)).trans c1.out; have g2 := (hb.cell (World.block_lt_of_cell? w _ c2.out)).trans c2.out; simp only [Nat.reduceMul, Nat.reduceAdd] at g0 g1 g2; clear hb hbox hg))
        refine bodyPost_ret (results_cell_row rfl _ _ gb 48 #[.int .i64 16, .int .i64 16384, .bool true] (0, 0) _ rfl (blk_put (blk_put (blk_put BK.out 0 _ rfl) 1 _ rfl) 2 _ rfl) Tryd.underlying48 rfl (by kernel_rfl)) rfl ?_
        exact ⟨rfl, below_set (below_set (below_set HB.out GE.out) GE.out) GE.out⟩
      | 8, _ =>
        cases h
        replace c0 := Aside0.mk (c0 _ rfl)
        replace c1 := Aside0.mk (c1 _ rfl)
        replace c2 := Aside0.mk (c2 _ rfl)
        go_enter Tryd.func17, Tryd.ntmps17
        go_wp2_with (first | ((with_reducible refine gate_dst (N := 2) rfl ?_); refine box_event ?hg (N := 2) ?hd (cs := #[.int .i64 0, .int .i64 0, .bool false]) (t := 48) ?hr ?_; (case hd => rfl); (case hg => rfl); (case hr => first | (go_simp; done) | (go_simp; rfl)); intro gb hg w3 hbox hb; have GE := Aside0.mk (show w.heap.size ≤ gb by rw [hg]; exact Nat.le_refl _); have HB := Aside0.mk hb; have BK := Aside0.mk hbox; have hz0 : w3.cell? ⟨gb, 0, none⟩ = some (.int .i64 0) := (blk_cell hbox 0).trans rfl; have hz1 : w3.cell? ⟨gb, 1, none⟩ = some (.int .i64 0) := (blk_cell hbox 1).trans rfl; have hz2 : w3.cell? ⟨gb, 2, none⟩ = some (.bool false) := (blk_cell hbox 2).trans rfl; have hf0 := blk_frozen hbox 0; have hf1 := blk_frozen hbox 1; have hf2 := blk_frozen hbox 2; have g0 := (hb.cell (World.block_lt_of_cell? w _ c0.out)).trans c0.out; have g1 := (hb.cell (World.block_lt_of_cell? w _ c1.out)).trans c1.out; have g2 := (hb.cell (World.block_lt_of_cell? w _ c2.out)).trans c2.out; simp only [Nat.reduceMul, Nat.reduceAdd] at g0 g1 g2; clear hb hbox hg))
        refine bodyPost_ret (results_cell_row rfl _ _ gb 48 #[.int .i64 0, .int .i64 0, .bool false] (0, 0) _ rfl (blk_put (blk_put (blk_put BK.out 0 _ rfl) 1 _ rfl) 2 _ rfl) Tryd.underlying48 rfl (by kernel_rfl)) rfl ?_
        exact ⟨rfl, below_set (below_set (below_set HB.out GE.out) GE.out) GE.out⟩
      | 9, _ =>
        cases h
        replace c0 := Aside0.mk (c0 _ rfl)
        replace c1 := Aside0.mk (c1 _ rfl)
        replace c2 := Aside0.mk (c2 _ rfl)
        go_enter Tryd.func17, Tryd.ntmps17
        go_wp2_with (first | ((with_reducible refine gate_dst (N := 2) rfl ?_); refine box_event ?hg (N := 2) ?hd (cs := #[.int .i64 0, .int .i64 0, .bool false]) (t := 48) ?hr ?_; (case hd => rfl); (case hg => rfl); (case hr => first | (go_simp; done) | (go_simp; rfl)); intro gb hg w3 hbox hb; have GE := Aside0.mk (show w.heap.size ≤ gb by rw [hg]; exact Nat.le_refl _); have HB := Aside0.mk hb; have BK := Aside0.mk hbox; have hz0 : w3.cell? ⟨gb, 0, none⟩ = some (.int .i64 0) := (blk_cell hbox 0).trans rfl; have hz1 : w3.cell? ⟨gb, 1, none⟩ = some (.int .i64 0) := (blk_cell hbox 1).trans rfl; have hz2 : w3.cell? ⟨gb, 2, none⟩ = some (.bool false) := (blk_cell hbox 2).trans rfl; have hf0 := blk_frozen hbox 0; have hf1 := blk_frozen hbox 1; have hf2 := blk_frozen hbox 2; have g0 := (hb.cell (World.block_lt_of_cell? w _ c0.out)).trans c0.out; have g1 := (hb.cell (World.block_lt_of_cell? w _ c1.out)).trans c1.out; have g2 := (hb.cell (World.block_lt_of_cell? w _ c2.out)).trans c2.out; simp only [Nat.reduceMul, Nat.reduceAdd] at g0 g1 g2; clear hb hbox hg))
        refine bodyPost_ret (results_cell_row rfl _ _ gb 48 #[.int .i64 16, .int .i64 0, .bool true] (0, 0) _ rfl (blk_put (blk_put (blk_put BK.out 0 _ rfl) 1 _ rfl) 2 _ rfl) Tryd.underlying48 rfl (by kernel_rfl)) rfl ?_
        exact ⟨rfl, below_set (below_set (below_set HB.out GE.out) GE.out) GE.out⟩
    · rw [if_neg h2] at h
      cases h
      clear hG
      go_enter Tryd.func17, Tryd.ntmps17
      go_wp2_with (first | ((with_reducible refine gate_dst (N := 2) rfl ?_); refine box_event ?hg (N := 2) ?hd (cs := #[.int .i64 0, .int .i64 0, .bool false]) (t := 48) ?hr ?_; (case hd => rfl); (case hg => rfl); (case hr => first | (go_simp; done) | (go_simp; rfl)); intro gb hg w3 hbox hb; have GE := Aside0.mk (show w.heap.size ≤ gb by rw [hg]; exact Nat.le_refl _); have HB := Aside0.mk hb; have BK := Aside0.mk hbox; have hz0 : w3.cell? ⟨gb, 0, none⟩ = some (.int .i64 0) := (blk_cell hbox 0).trans rfl; have hz1 : w3.cell? ⟨gb, 1, none⟩ = some (.int .i64 0) := (blk_cell hbox 1).trans rfl; have hz2 : w3.cell? ⟨gb, 2, none⟩ = some (.bool false) := (blk_cell hbox 2).trans rfl; have hf0 := blk_frozen hbox 0; have hf1 := blk_frozen hbox 1; have hf2 := blk_frozen hbox 2; clear hb hbox hg))
      refine bodyPost_ret (results_cell_row rfl _ _ gb 48 #[.int .i64 0, .int .i64 0, .bool false] (0, 0) _ rfl (blk_put (blk_put (blk_put BK.out 0 _ rfl) 1 _ rfl) 2 _ rfl) Tryd.underlying48 rfl (by kernel_rfl)) rfl ?_
      exact ⟨rfl, below_set (below_set (below_set HB.out GE.out) GE.out) GE.out⟩
  · rw [if_neg h1] at h
    cases h
    clear hG
    go_enter Tryd.func17, Tryd.ntmps17
    go_wp2_with (first | ((with_reducible refine gate_dst (N := 2) rfl ?_); refine box_event ?hg (N := 2) ?hd (cs := #[.int .i64 0, .int .i64 0, .bool false]) (t := 48) ?hr ?_; (case hd => rfl); (case hg => rfl); (case hr => first | (go_simp; done) | (go_simp; rfl)); intro gb hg w3 hbox hb; have GE := Aside0.mk (show w.heap.size ≤ gb by rw [hg]; exact Nat.le_refl _); have HB := Aside0.mk hb; have BK := Aside0.mk hbox; have hz0 : w3.cell? ⟨gb, 0, none⟩ = some (.int .i64 0) := (blk_cell hbox 0).trans rfl; have hz1 : w3.cell? ⟨gb, 1, none⟩ = some (.int .i64 0) := (blk_cell hbox 1).trans rfl; have hz2 : w3.cell? ⟨gb, 2, none⟩ = some (.bool false) := (blk_cell hbox 2).trans rfl; have hf0 := blk_frozen hbox 0; have hf1 := blk_frozen hbox 1; have hf2 := blk_frozen hbox 2; clear hb hbox hg))
    refine bodyPost_ret (results_cell_row rfl _ _ gb 48 #[.int .i64 0, .int .i64 0, .bool false] (0, 0) _ rfl (blk_put (blk_put (blk_put BK.out 0 _ rfl) 1 _ rfl) 2 _ rfl) Tryd.underlying48 rfl (by kernel_rfl)) rfl ?_
    exact ⟨rfl, below_set (below_set (below_set HB.out GE.out) GE.out) GE.out⟩

/-! ### fields_shifts: function 35 -/
def fields_shifts.l0 : Nat → Int → Bool → List Int → Int → Int → Option (List Int)
  | 0, _, _, _, _, _ => none
  | k + 1, x0, x1, x5, x7, x8 => if x8 < x7 then (if x1 = true then (if x5.length < 17592186044416 then (fields_shifts.l0 k x0 x1 (x5 ++ [wrap64 (8 * (wrap64 ((wrap64 (x0 - 1)) - x8)))]) x7 (wrap64 (x8 + 1))) else (none)) else (if x5.length < 17592186044416 then (fields_shifts.l0 k x0 x1 (x5 ++ [wrap64 (8 * x8)]) x7 (wrap64 (x8 + 1))) else (none))) else (some x5)
def fields_shifts.f (k : Nat) (a0 : Int) (a1 : Bool) : Option (List Int) := fields_shifts.l0 k a0 a1 ([] : List Int) a0 0
theorem fields_shifts.mono_l : ∀ k, (∀ y0 y1 y2 y3 y4, LeO (fields_shifts.l0 k y0 y1 y2 y3 y4) (fields_shifts.l0 (k + 1) y0 y1 y2 y3 y4))
  | 0 => fun _ _ _ _ _ r h => by simp [fields_shifts.l0] at h
  | k + 1 => by
    have ih0 := fields_shifts.mono_l k
    · intro y0 y1 y2 y3 y4
      unfold fields_shifts.l0
      repeat' first
      | (with_reducible exact ih0 _ _ _ _ _)
      | (with_reducible exact LeO.refl _)
      | (with_reducible exact LeO.none _)
      | (with_reducible refine LeO.ite ?_ ?_)
      | (with_reducible refine LeO.bind ?_ (fun _ => ?_))
      | exact ih0 _ _ _ _ _
      | exact LeO.none _
      | refine LeO.ite ?_ ?_
      | refine LeO.bind ?_ (fun _ => ?_)
theorem fields_shifts.mono : ∀ a0 a1 k, LeO (fields_shifts.f k a0 a1) (fields_shifts.f (k + 1) a0 a1) := by
  intro a0 a1 k
  have ih0 := fields_shifts.mono_l k
  unfold fields_shifts.f
  repeat' first
      | (with_reducible exact ih0 _ _ _ _ _)
      | (with_reducible exact LeO.refl _)
      | (with_reducible exact LeO.none _)
      | (with_reducible refine LeO.ite ?_ ?_)
      | (with_reducible refine LeO.bind ?_ (fun _ => ?_))
      | exact ih0 _ _ _ _ _
      | exact LeO.none _
      | refine LeO.ite ?_ ?_
      | refine LeO.bind ?_ (fun _ => ?_)
set_option maxHeartbeats 8000000 in
set_option maxRecDepth 100000 in
theorem fields_shifts.calls (k : Nat) (a0 : Int) (a1 : Bool) (r : List Int) (w : World) (h : fields_shifts.f k a0 a1 = some r) :
    Calls Tryd.prog 35 #[.int .i64 a0, .bool a1] w fun e w' => ∃ v0_ : Value, e = .returned (v0_) ∧ Kd.R (Kd.int .i64) 3 w' w.heap.size (fun _ => True) v0_ r ∧ Below w.heap.size w w' := by
  have HB := Aside0.mk (Below.refl w.heap.size w)
  have H : (fields_shifts.l0 k a0 a1 ([] : List Int) a0 0) = some r := h
  clear h
  have H' := Aside0.mk H
  clear H
  go_enter Tryd.func35, Tryd.ntmps35
  go_wp2
  go_loopg [5, 8] k (fun kq v5 v8 w' => ∃ (x5_1 : List Int) (x8_1 : Int), v8 = .int .i64 x8_1 ∧ Aside0 (fields_shifts.l0 kq a0 a1 x5_1 a0 x8_1 = some r) ∧ Aside0 (kq ≤ k) ∧ Aside0 (Kd.R (Kd.int .i64) 3 w' w.heap.size (fun _ => True) v5 x5_1) ∧ Aside0 (Below w.heap.size w w'))
  case atStart => exact ⟨(([] : List Int)), (0), (by first | rfl | (simp; done) | (simp [*]; done)), H', ⟨Nat.le_refl _⟩, ⟨by first | exact Kd.R_nil _ _ _ _ _ | exact Kd.N_nil _ _ _ _ _ | exact Kd.V_nil _ _ _ _ _ | exact Kd.Q_nil _ _ _ _ _ | exact Kd.S_nil _ _ _ _ _⟩, ⟨by repeat (first | (with_reducible first | exact HB.out | apply below_alloc | apply pw_below_drewN | apply below_drew1) | exact HB.out)⟩⟩
  case round =>
    clear H'
    try clear p2
    obtain ⟨x5_1, x8_1, rfl, HA, HK1, HO_5, HB⟩ := hrel
    cases gk with
    | zero => exact absurd HA.out (by simp [fields_shifts.l0])
    | succ k1 =>
      have H := HA.out
      clear HA
      simp only [fields_shifts.l0] at H
      by_cases c3 : x8_1 < a0
      · rw [if_pos c3] at H
        have c3b0 : decide (x8_1 < a0) = true := decide_eq_true c3
        clear c3
        by_cases c4 : a1 = true
        · subst c4
          have H1 : (if x5_1.length < 17592186044416 then (fields_shifts.l0 k1 a0 true (x5_1 ++ [wrap64 (8 * (wrap64 ((wrap64 (a0 - 1)) - x8_1)))]) a0 (wrap64 (x8_1 + 1))) else (none)) = some r := by rw [if_pos rfl] at H; exact H
          clear H
          have H := H1
          clear H1
          by_cases c5 : x5_1.length < 17592186044416
          · rw [if_pos c5] at H
            have LMc5 := Aside0.mk c5
            clear c5
            obtain ⟨y101, hy101⟩ : ∃ y_ : List Int, y_ = (x5_1 ++ [wrap64 (8 * (wrap64 ((wrap64 (a0 - 1)) - x8_1)))]) := ⟨_, rfl⟩
            replace H : (fields_shifts.l0 k1 a0 true y101 a0 (wrap64 (x8_1 + 1))) = some r := by first | (rw [hy101]; with_reducible exact H) | (have H2_ := (Option.bind_some _ _).symm.trans H; rw [hy101]; with_reducible exact H2_) | (have H2_ := (Option.bind_some _ _).symm.trans H; with_reducible exact H2_) | with_reducible exact H | (rw [hy101]; exact H) | exact H
            have Ny101 := Aside0.mk hy101
            clear hy101
            have H' := Aside0.mk H
            clear H
            go_wp2_with (first | ((with_reducible refine gate_builtin (b := .append) (xs := #[.tmp 12, .tmp 18]) rfl ?_); at_builtin; refine Kd.R_append (Kd.int .i64) (w0 := w) w.heap.size rfl (.tmp 12) (.tmp 18) 69 3 (.int .i64 0) 8 rfl Tryd.underlying69 info3 rfl (by decide) (by omega) u5 x5_1 (wrap64 (8 * (wrap64 ((wrap64 (a0 - 1)) - x8_1)))) [.int .i64 (wrap64 (8 * (wrap64 ((wrap64 (a0 - 1)) - x8_1))))] (fun _ => True) (fun _ => False) rfl rfl ?aP (fun _ hk => hk.elim) ?aF ?aO ?aB ?aS ?aL ?_; (case aP => exact rfl); (case aB => exact (by repeat (first | (with_reducible first | exact HB.out | apply below_alloc | apply pw_below_drewN | apply below_drew1) | exact HB.out))); (case aF => exact (fun _ _ => trivial)); (case aO => exact (by (with_reducible repeat (first | apply Kd.R_alloc | apply Kd.R_drewN | apply Kd.R_drew)); exact HO_5.out)); (case aS => exact (below_size (by repeat (first | (with_reducible first | exact HB.out | apply below_alloc | apply pw_below_drewN | apply below_drew1) | exact HB.out)))); (case aL => have := LMc5.out; omega); intro v102 w6 ho hb hg hat; rw [← Ny101.out] at ho; have n0_ := Aside0.mk (hb); have n1_ := Aside0.mk (ho); clear HB; clear HO_5; have HB := n0_; have HO103 := n1_; clear n0_ n1_; clear ho hb hg hat))
            go_roundg k1
            case measure => have := HK1.out; omega
            case rel => exact ⟨(y101), (wrap64 (x8_1 + 1)), (by first | rfl | (simp; done) | (simp [*]; done)), H', ⟨by have := HK1.out; omega⟩, ⟨by (with_reducible repeat (first | apply Kd.R_alloc | apply Kd.R_drewN | apply Kd.R_drew)); exact HO103.out⟩, ⟨by repeat (first | (with_reducible first | exact HB.out | apply below_alloc | apply pw_below_drewN | apply below_drew1) | exact HB.out)⟩⟩
          · rw [if_neg c5] at H
            exact absurd H (by simp)
        · replace c4 := Bool.eq_false_iff.mpr c4
          subst c4
          have H1 : (if x5_1.length < 17592186044416 then (fields_shifts.l0 k1 a0 false (x5_1 ++ [wrap64 (8 * x8_1)]) a0 (wrap64 (x8_1 + 1))) else (none)) = some r := by rw [if_neg (show ¬ (false = true) by decide)] at H; exact H
          clear H
          have H := H1
          clear H1
          by_cases c7 : x5_1.length < 17592186044416
          · rw [if_pos c7] at H
            have LMc7 := Aside0.mk c7
            clear c7
            obtain ⟨y104, hy104⟩ : ∃ y_ : List Int, y_ = (x5_1 ++ [wrap64 (8 * x8_1)]) := ⟨_, rfl⟩
            replace H : (fields_shifts.l0 k1 a0 false y104 a0 (wrap64 (x8_1 + 1))) = some r := by first | (rw [hy104]; with_reducible exact H) | (have H2_ := (Option.bind_some _ _).symm.trans H; rw [hy104]; with_reducible exact H2_) | (have H2_ := (Option.bind_some _ _).symm.trans H; with_reducible exact H2_) | with_reducible exact H | (rw [hy104]; exact H) | exact H
            have Ny104 := Aside0.mk hy104
            clear hy104
            have H' := Aside0.mk H
            clear H
            go_wp2_with (first | ((with_reducible refine gate_builtin (b := .append) (xs := #[.tmp 20, .tmp 23]) rfl ?_); at_builtin; refine Kd.R_append (Kd.int .i64) (w0 := w) w.heap.size rfl (.tmp 20) (.tmp 23) 69 3 (.int .i64 0) 8 rfl Tryd.underlying69 info3 rfl (by decide) (by omega) u5 x5_1 (wrap64 (8 * x8_1)) [.int .i64 (wrap64 (8 * x8_1))] (fun _ => True) (fun _ => False) rfl rfl ?aP (fun _ hk => hk.elim) ?aF ?aO ?aB ?aS ?aL ?_; (case aP => exact rfl); (case aB => exact (by repeat (first | (with_reducible first | exact HB.out | apply below_alloc | apply pw_below_drewN | apply below_drew1) | exact HB.out))); (case aF => exact (fun _ _ => trivial)); (case aO => exact (by (with_reducible repeat (first | apply Kd.R_alloc | apply Kd.R_drewN | apply Kd.R_drew)); exact HO_5.out)); (case aS => exact (below_size (by repeat (first | (with_reducible first | exact HB.out | apply below_alloc | apply pw_below_drewN | apply below_drew1) | exact HB.out)))); (case aL => have := LMc7.out; omega); intro v105 w8 ho hb hg hat; rw [← Ny104.out] at ho; have n0_ := Aside0.mk (hb); have n1_ := Aside0.mk (ho); clear HB; clear HO_5; have HB := n0_; have HO106 := n1_; clear n0_ n1_; clear ho hb hg hat))
            go_roundg k1
            case measure => have := HK1.out; omega
            case rel => exact ⟨(y104), (wrap64 (x8_1 + 1)), (by first | rfl | (simp; done) | (simp [*]; done)), H', ⟨by have := HK1.out; omega⟩, ⟨by (with_reducible repeat (first | apply Kd.R_alloc | apply Kd.R_drewN | apply Kd.R_drew)); exact HO106.out⟩, ⟨by repeat (first | (with_reducible first | exact HB.out | apply below_alloc | apply pw_below_drewN | apply below_drew1) | exact HB.out)⟩⟩
          · rw [if_neg c7] at H
            exact absurd H (by simp)
      · rw [if_neg c3] at H
        have c3b0 : decide (x8_1 < a0) = false := decide_eq_false c3
        clear c3
        obtain rfl := Option.some.inj H
        go_wp2
        go_ret
        exact ⟨_, by first | rfl | (simp [errW_none, errW_some] <;> rfl) | (simp [*, errW_none, errW_some] <;> rfl) | (simp [bt, *]; done) | (unfold bt; simp [*]; done), by (with_reducible repeat (first | apply Kd.R_alloc | apply Kd.R_drewN | apply Kd.R_drew)); exact HO_5.out, by repeat (first | (with_reducible first | exact HB.out | apply below_alloc | apply pw_below_drewN | apply below_drew1) | exact HB.out)⟩

/-! ### fields_get_uint64: function 29 -/
mutual
def fields_get_uint64.j0 : Nat → ByteArray → Int → Int → Bool → Bool → Option (Int × Bool)
  | 0, _, _, _, _, _ => none
  | k + 1, x0, x1, x2, x3, x30 => if x30 = true then (some (0, false)) else ((fields_shifts.f k x2 x3).bind fun t107 => (fields_get_uint64.l0 k x0 x1 0 t107 (t107.length : Int) 0))
def fields_get_uint64.l0 : Nat → ByteArray → Int → Int → List Int → Int → Int → Option (Int × Bool)
  | 0, _, _, _, _, _, _ => none
  | k + 1, x0, x1, x10, x33, x34, x35 => if x35 < x34 then (if 0 ≤ x35 then (if x35 < (x33.length : Int) then (if 0 ≤ (wrap64 (x1 + x35)) then (if (wrap64 (x1 + x35)) < (x0.size : Int) then (if 0 ≤ (rd x33 x35) then (fields_get_uint64.l0 k x0 x1 (Go.bits .or .u64 x10 (shl .u64 (IntKind.u64.wrap (bt x0 (wrap64 (x1 + x35)))) (rd x33 x35))) x33 x34 (wrap64 (x35 + 1))) else (none)) else (none)) else (none)) else (none)) else (none)) else (some (x10, true))
end
def fields_get_uint64.f (k : Nat) (a0 : ByteArray) (a1 : Int) (a2 : Int) (a3 : Bool) : Option (Int × Bool) := if a2 < 1 then (fields_get_uint64.j0 k a0 a1 a2 a3 true) else (if a2 > 8 then (fields_get_uint64.j0 k a0 a1 a2 a3 true) else (if a1 < 0 then (fields_get_uint64.j0 k a0 a1 a2 a3 true) else (fields_get_uint64.j0 k a0 a1 a2 a3 (decide (a1 > (wrap64 ((a0.size : Int) - a2)))))))
theorem fields_get_uint64.mono_l : ∀ k, (∀ y0 y1 y2 y3 y4, LeO (fields_get_uint64.j0 k y0 y1 y2 y3 y4) (fields_get_uint64.j0 (k + 1) y0 y1 y2 y3 y4)) ∧ (∀ y0 y1 y2 y3 y4 y5, LeO (fields_get_uint64.l0 k y0 y1 y2 y3 y4 y5) (fields_get_uint64.l0 (k + 1) y0 y1 y2 y3 y4 y5))
  | 0 => ⟨fun _ _ _ _ _ r h => by simp [fields_get_uint64.j0] at h, fun _ _ _ _ _ _ r h => by simp [fields_get_uint64.l0] at h⟩
  | k + 1 => by
    obtain ⟨ih0, ih1⟩ := fields_get_uint64.mono_l k
    refine ⟨?_, ?_⟩
    · intro y0 y1 y2 y3 y4
      unfold fields_get_uint64.j0
      repeat' first
      | (with_reducible exact ih0 _ _ _ _ _)
      | (with_reducible exact ih1 _ _ _ _ _ _)
      | (with_reducible exact fields_shifts.mono _ _ _)
      | (with_reducible exact LeO.refl _)
      | (with_reducible exact LeO.none _)
      | (with_reducible refine LeO.ite ?_ ?_)
      | (with_reducible refine LeO.bind ?_ (fun _ => ?_))
      | exact ih0 _ _ _ _ _
      | exact ih1 _ _ _ _ _ _
      | exact fields_shifts.mono _ _ _
      | exact LeO.none _
      | refine LeO.ite ?_ ?_
      | refine LeO.bind ?_ (fun _ => ?_)
    · intro y0 y1 y2 y3 y4 y5
      unfold fields_get_uint64.l0
      repeat' first
      | (with_reducible exact ih0 _ _ _ _ _)
      | (with_reducible exact ih1 _ _ _ _ _ _)
      | (with_reducible exact fields_shifts.mono _ _ _)
      | (with_reducible exact LeO.refl _)
      | (with_reducible exact LeO.none _)
      | (with_reducible refine LeO.ite ?_ ?_)
      | (with_reducible refine LeO.bind ?_ (fun _ => ?_))
      | exact ih0 _ _ _ _ _
      | exact ih1 _ _ _ _ _ _
      | exact fields_shifts.mono _ _ _
      | exact LeO.none _
      | refine LeO.ite ?_ ?_
      | refine LeO.bind ?_ (fun _ => ?_)
theorem fields_get_uint64.mono : ∀ a0 a1 a2 a3 k, LeO (fields_get_uint64.f k a0 a1 a2 a3) (fields_get_uint64.f (k + 1) a0 a1 a2 a3) := by
  intro a0 a1 a2 a3 k
  obtain ⟨ih0, ih1⟩ := fields_get_uint64.mono_l k
  unfold fields_get_uint64.f
  repeat' first
      | (with_reducible exact ih0 _ _ _ _ _)
      | (with_reducible exact ih1 _ _ _ _ _ _)
      | (with_reducible exact fields_shifts.mono _ _ _)
      | (with_reducible exact LeO.refl _)
      | (with_reducible exact LeO.none _)
      | (with_reducible refine LeO.ite ?_ ?_)
      | (with_reducible refine LeO.bind ?_ (fun _ => ?_))
      | exact ih0 _ _ _ _ _
      | exact ih1 _ _ _ _ _ _
      | exact fields_shifts.mono _ _ _
      | exact LeO.none _
      | refine LeO.ite ?_ ?_
      | refine LeO.bind ?_ (fun _ => ?_)
set_option maxHeartbeats 8000000 in
set_option maxRecDepth 100000 in
theorem fields_get_uint64.calls (k : Nat) (a0 : ByteArray) (a1 : Int) (a2 : Int) (a3 : Bool) (r1 : Int) (r2 : Bool) (w : World) (h : fields_get_uint64.f k a0 a1 a2 a3 = some (r1, r2)) :
    Calls Tryd.prog 29 #[.string a0, .int .i64 a1, .int .i64 a2, .bool a3] w fun e w' => e = .returned (.tuple #[.int .u64 r1, .bool r2]) ∧ Below w.heap.size w w' := by
  have HB := Aside0.mk (Below.refl w.heap.size w)
  have H : (if a2 < 1 then (fields_get_uint64.j0 k a0 a1 a2 a3 true) else (if a2 > 8 then (fields_get_uint64.j0 k a0 a1 a2 a3 true) else (if a1 < 0 then (fields_get_uint64.j0 k a0 a1 a2 a3 true) else (fields_get_uint64.j0 k a0 a1 a2 a3 (decide (a1 > (wrap64 ((a0.size : Int) - a2)))))))) = some (r1, r2) := h
  clear h
  have HC5 := Aside0.mk H
  clear H
  go_enter Tryd.func29, Tryd.ntmps29
  go_upto_region 1 with (fail)
  go_cut [30] (fun v30 wc => ∃ (kq : Nat) (x30_4 : Bool), v30 = .bool x30_4 ∧ Aside0 (fields_get_uint64.j0 kq a0 a1 a2 a3 x30_4 = some (r1, r2)) ∧ Aside0 (kq ≤ k) ∧ Aside0 (Below w.heap.size w wc))
  case first =>
    have H := HC5.out
    clear HC5
    by_cases c6 : a2 < 1
    · rw [if_pos c6] at H
      have c6b0 : decide (a2 < 1) = true := decide_eq_true c6
      clear c6
      (first | rw [c6b0] | (simp only [i64_w, i32_w]; rw [c6b0]) | skip)
      have H' := Aside0.mk H
      clear H
      go_wp2
      go_meet
      case rel => exact ⟨_, (true), (by first | rfl | (simp; done) | (simp [*]; done)), H', ⟨by first | omega | exact Nat.le_refl _⟩, ⟨by repeat (first | (with_reducible first | exact HB.out | apply below_alloc | apply pw_below_drewN | apply below_drew1) | exact HB.out)⟩⟩
    · rw [if_neg c6] at H
      have c6b0 : decide (a2 < 1) = false := decide_eq_false c6
      clear c6
      (first | rw [c6b0] | (simp only [i64_w, i32_w]; rw [c6b0]) | skip)
      by_cases c7 : a2 > 8
      · rw [if_pos c7] at H
        have c7b0 : decide (8 < a2) = true := decide_eq_true c7
        clear c7
        have H' := Aside0.mk H
        clear H
        go_wp2
        go_meet
        case rel => exact ⟨_, (true), (by first | rfl | (simp; done) | (simp [*]; done)), H', ⟨by first | omega | exact Nat.le_refl _⟩, ⟨by repeat (first | (with_reducible first | exact HB.out | apply below_alloc | apply pw_below_drewN | apply below_drew1) | exact HB.out)⟩⟩
      · rw [if_neg c7] at H
        have c7b0 : decide (8 < a2) = false := decide_eq_false c7
        clear c7
        by_cases c8 : a1 < 0
        · rw [if_pos c8] at H
          have c8b0 : decide (a1 < 0) = true := decide_eq_true c8
          clear c8
          have H' := Aside0.mk H
          clear H
          go_wp2
          go_meet
          case rel => exact ⟨_, (true), (by first | rfl | (simp; done) | (simp [*]; done)), H', ⟨by first | omega | exact Nat.le_refl _⟩, ⟨by repeat (first | (with_reducible first | exact HB.out | apply below_alloc | apply pw_below_drewN | apply below_drew1) | exact HB.out)⟩⟩
        · rw [if_neg c8] at H
          have c8b0 : decide (a1 < 0) = false := decide_eq_false c8
          clear c8
          have H' := Aside0.mk H
          clear H
          go_wp2
          go_meet
          case rel => exact ⟨_, (decide (a1 > (wrap64 ((a0.size : Int) - a2)))), (by first | rfl | (simp; done) | (simp [*]; done)), H', ⟨by first | omega | exact Nat.le_refl _⟩, ⟨by repeat (first | (with_reducible first | exact HB.out | apply below_alloc | apply pw_below_drewN | apply below_drew1) | exact HB.out)⟩⟩
  case rest =>
    clear HC5
    try clear c2
    try clear p2
    try clear c6
    try clear c6b0
    try clear p6
    try clear c7
    try clear c7b0
    try clear c8
    try clear c8b0
    obtain ⟨kq, x30_4, rfl, HA, HJ4, HB⟩ := hcut
    cases kq with
    | zero => exact absurd HA.out (by simp [fields_get_uint64.j0])
    | succ kj4 =>
      have H := HA.out
      clear HA
      simp only [fields_get_uint64.j0] at H
      by_cases c9 : x30_4 = true
      · subst c9
        have H1 : (some (0, false)) = some (r1, r2) := by rw [if_pos rfl] at H; exact H
        clear H
        have H := H1
        clear H1
        simp only [Option.some.injEq, Prod.mk.injEq] at H
        obtain ⟨rfl, rfl⟩ := H
        go_wp2
        go_ret2
        exact ⟨by first | rfl | (simp [errW_none, errW_some] <;> rfl) | (simp [*, errW_none, errW_some] <;> rfl) | (simp [bt, *]; done) | (unfold bt; simp [*]; done), by repeat (first | (with_reducible first | exact HB.out | apply below_alloc | apply pw_below_drewN | apply below_drew1) | exact HB.out)⟩
      · replace c9 := Bool.eq_false_iff.mpr c9
        subst c9
        have H1 : ((fields_shifts.f kj4 a2 a3).bind fun t107 => (fields_get_uint64.l0 kj4 a0 a1 0 t107 (t107.length : Int) 0)) = some (r1, r2) := by rw [if_neg (show ¬ (false = true) by decide)] at H; exact H
        clear H
        have H := H1
        clear H1
        replace H := Option.bind_eq_some_iff.mp H
        obtain ⟨t107, A100, H⟩ := H
        replace H : (fields_get_uint64.l0 kj4 a0 a1 0 t107 (t107.length : Int) 0) = some (r1, r2) := H
        have A10 := Aside0.mk A100
        clear A100
        have H' := Aside0.mk H
        clear H
        go_wp2_with (first | ((with_reducible refine gate_callee (f := 35) rfl ?_); refine goesL_ (some 33) rfl rfl Tryd.func35 (by kernel_rfl) rfl #[.int .i64 a2, .bool a3] rfl (by (try simp only [List.map_toArray, List.map_cons, List.map_nil]); first | done | rfl | (simp only [List.length_drop, List.length_take]; rfl)) ?_; (with_reducible refine (fields_shifts.calls kj4 a2 a3 t107 _ A10.out).mono ?_); rintro e w11 ⟨v108, rfl, ho0, hb⟩; refine ⟨_, rfl, ?_⟩; have n0_ := Aside0.mk (Kd.R_lower ho0 (below_size (by repeat (first | (with_reducible first | exact HB.out | apply below_alloc | apply pw_below_drewN | apply below_drew1) | exact HB.out)))); have n1_ := Aside0.mk (below_step (by repeat (first | (with_reducible first | exact HB.out | apply below_alloc | apply pw_below_drewN | apply below_drew1) | exact HB.out)) hb); clear HB; have HO109 := n0_; have HB := n1_; clear n0_ n1_; (try clear hb); (try clear hb2); (try clear hk); (try clear hi); (try clear ho0); obtain ⟨Ao12, co12, eo12⟩ := Kd.R_slice HO109.out; subst eo12))
        go_loopg [10, 35] kj4 (fun kq v10 v35 w' => ∃ (x10_2 : Int) (x35_2 : Int), v10 = .int .u64 x10_2 ∧ v35 = .int .i64 x35_2 ∧ Aside0 (fields_get_uint64.l0 kq a0 a1 x10_2 t107 (t107.length : Int) x35_2 = some (r1, r2)) ∧ Aside0 (kq ≤ kj4) ∧ Aside0 (Kd.R (Kd.int .i64) 3 w' w.heap.size (fun _ => True) (.slice Ao12 t107.length co12) t107) ∧ Aside0 (Below w.heap.size w w'))
        case atStart => exact ⟨(0), (0), (by first | rfl | (simp; done) | (simp [*]; done)), (by first | rfl | (simp; done) | (simp [*]; done)), H', ⟨Nat.le_refl _⟩, ⟨by (with_reducible repeat (first | apply Kd.R_alloc | apply Kd.R_drewN | apply Kd.R_drew)); exact HO109.out⟩, ⟨by repeat (first | (with_reducible first | exact HB.out | apply below_alloc | apply pw_below_drewN | apply below_drew1) | exact HB.out)⟩⟩
        case round =>
          clear H'
          try clear c2
          try clear p2
          try clear c3
          try clear c6
          try clear c6b0
          try clear p6
          try clear c7
          try clear c7b0
          try clear c8
          try clear c8b0
          try clear c9
          try clear p2
          try clear p6
          obtain ⟨x10_2, x35_2, rfl, rfl, HA, HK2, HO_33, HB⟩ := hrel
          cases gk with
          | zero => exact absurd HA.out (by simp [fields_get_uint64.l0])
          | succ k2 =>
            have H := HA.out
            clear HA
            simp only [fields_get_uint64.l0] at H
            by_cases c13 : x35_2 < (t107.length : Int)
            · rw [if_pos c13] at H
              have c13b0 : decide (x35_2 < (t107.length : Int)) = true := decide_eq_true c13
              clear c13
              by_cases c14 : 0 ≤ x35_2
              · rw [if_pos c14] at H
                have c14b0 : decide (0 ≤ x35_2) = true := decide_eq_true c14
                clear c14
                by_cases c15 : x35_2 < (t107.length : Int)
                · rw [if_pos c15] at H
                  have c15b0 : decide (x35_2 < (t107.length : Int)) = true := decide_eq_true c15
                  clear c15
                  obtain ⟨ji16, hji16⟩ : ∃ j_ : Int, (wrap64 (a1 + x35_2)) = j_ := ⟨_, rfl⟩
                  replace H : (if 0 ≤ (ji16) then (if (ji16) < (a0.size : Int) then (if 0 ≤ (rd t107 x35_2) then (fields_get_uint64.l0 k2 a0 a1 (Go.bits .or .u64 x10_2 (shl .u64 (IntKind.u64.wrap (bt a0 (ji16))) (rd t107 x35_2))) t107 (t107.length : Int) (wrap64 (x35_2 + 1))) else (none)) else (none)) else (none)) = some (r1, r2) := by first | (rw [hji16] at H; exact H) | (simp only [hji16] at H ⊢; exact H)
                  have hji16w : (IntKind.i64.wrap (a1 + x35_2)) = ji16 := (i64_w _).trans hji16
                  by_cases c17 : 0 ≤ (ji16)
                  · rw [if_pos c17] at H
                    have c17b0 : decide (0 ≤ (ji16)) = true := decide_eq_true c17
                    clear c17
                    by_cases c18 : (ji16) < (a0.size : Int)
                    · rw [if_pos c18] at H
                      have c18b0 : decide ((ji16) < (a0.size : Int)) = true := decide_eq_true c18
                      clear c18
                      by_cases c20 : 0 ≤ (rd t107 x35_2)
                      · rw [if_pos c20] at H
                        have c20b0 := eq_true c20
                        have c20b1 : decide (0 ≤ (rd t107 x35_2)) = true := decide_eq_true c20
                        clear c20
                        obtain ⟨ji21, hji21⟩ : ∃ j_ : Int, (shl .u64 (IntKind.u64.wrap (bt a0 (ji16))) (rd t107 x35_2)) = j_ := ⟨_, rfl⟩
                        replace H : (fields_get_uint64.l0 k2 a0 a1 (Go.bits .or .u64 x10_2 (ji21)) t107 (t107.length : Int) (wrap64 (x35_2 + 1))) = some (r1, r2) := by first | (rw [hji21] at H; exact H) | (simp only [hji21] at H ⊢; exact H)
                        have hji21_ : (IntKind.u64.wrap ((IntKind.u64.wrap (bt a0 (ji16))) * 2 ^ min (rd t107 x35_2).toNat 64)) = ji21 := hji21
                        have hji21z : (rd t107 x35_2) ≤ 64 → (IntKind.u64.wrap ((IntKind.u64.wrap (bt a0 (ji16))) * 2 ^ (rd t107 x35_2).toNat)) = ji21 := shl_small hji21
                        have H' := Aside0.mk H
                        clear H
                        have p110 : 0 ≤ (x35_2 : Int) := of_decide_eq_true (by first | (with_reducible assumption) | assumption)
                        have q110 : x35_2 < (t107.length : Int) := of_decide_eq_true (by first | (with_reducible assumption) | assumption)
                        obtain ⟨ad110, e110, hx110_0⟩ := Kd.at_int (Kd.R_reads' HO_33.out).2.2 x35_2 p110 q110
                        cases e110
                        replace p110 := eq_true p110
                        replace q110 := eq_true q110
                        have p19 : 0 ≤ ((ji16) : Int) := of_decide_eq_true (by first | (with_reducible assumption) | assumption)
                        have q19 : (ji16) < (a0.size : Int) := of_decide_eq_true (by first | (with_reducible assumption) | assumption)
                        have hx19 := bt_at a0 (ji16)
                        replace p19 := eq_true p19
                        replace q19 := eq_true q19
                        go_wp2
                        go_roundg k2
                        case measure => have := HJ4.out; have := HK2.out; omega
                        case rel => exact ⟨(Go.bits .or .u64 x10_2 (ji21)), (wrap64 (x35_2 + 1)), (by first | rfl | (simp; done) | (simp only [← hji21] <;> (first | rfl | simp)) | (simp [*]; done)), (by first | rfl | (simp; done) | (simp [*]; done)), H', ⟨by have := HJ4.out; have := HK2.out; omega⟩, ⟨by (with_reducible repeat (first | apply Kd.R_alloc | apply Kd.R_drewN | apply Kd.R_drew)); exact HO_33.out⟩, ⟨by repeat (first | (with_reducible first | exact HB.out | apply below_alloc | apply pw_below_drewN | apply below_drew1) | exact HB.out)⟩⟩
                      · rw [if_neg c20] at H
                        exact absurd H (by simp)
                    · rw [if_neg c18] at H
                      exact absurd H (by simp)
                  · rw [if_neg c17] at H
                    exact absurd H (by simp)
                · rw [if_neg c15] at H
                  exact absurd H (by simp)
              · rw [if_neg c14] at H
                exact absurd H (by simp)
            · rw [if_neg c13] at H
              have c13b0 : decide (x35_2 < (t107.length : Int)) = false := decide_eq_false c13
              clear c13
              simp only [Option.some.injEq, Prod.mk.injEq] at H
              obtain ⟨rfl, rfl⟩ := H
              go_wp2
              go_ret2
              exact ⟨by first | rfl | (simp [errW_none, errW_some] <;> rfl) | (simp [*, errW_none, errW_some] <;> rfl) | (simp [bt, *]; done) | (unfold bt; simp [*]; done), by repeat (first | (with_reducible first | exact HB.out | apply below_alloc | apply pw_below_drewN | apply below_drew1) | exact HB.out)⟩

/-! ### fields_Little: function 18 -/
def fields_Little.f (k : Nat) (a0 : ByteArray) (a1 : Int) (a2 : Int) : Option (Int × Bool) := (fields_get_uint64.f k a0 a1 a2 false).bind fun bt111 => (some (bt111.1, bt111.2))
theorem fields_Little.mono : ∀ a0 a1 a2 k, LeO (fields_Little.f k a0 a1 a2) (fields_Little.f (k + 1) a0 a1 a2) := by
  intro a0 a1 a2 k
  unfold fields_Little.f
  repeat' first
      | (with_reducible exact fields_get_uint64.mono _ _ _ _ _)
      | (with_reducible exact LeO.refl _)
      | (with_reducible exact LeO.none _)
      | (with_reducible refine LeO.ite ?_ ?_)
      | (with_reducible refine LeO.bind ?_ (fun _ => ?_))
      | exact fields_get_uint64.mono _ _ _ _ _
      | exact LeO.none _
      | refine LeO.ite ?_ ?_
      | refine LeO.bind ?_ (fun _ => ?_)
set_option maxHeartbeats 8000000 in
set_option maxRecDepth 100000 in
theorem fields_Little.calls (k : Nat) (a0 : ByteArray) (a1 : Int) (a2 : Int) (r1 : Int) (r2 : Bool) (w : World) (h : fields_Little.f k a0 a1 a2 = some (r1, r2)) :
    Calls Tryd.prog 18 #[.string a0, .int .i64 a1, .int .i64 a2] w fun e w' => e = .returned (.tuple #[.int .u64 r1, .bool r2]) ∧ Below w.heap.size w w' := by
  have HB := Aside0.mk (Below.refl w.heap.size w)
  have H : ((fields_get_uint64.f k a0 a1 a2 false).bind fun bt111 => (some (bt111.1, bt111.2))) = some (r1, r2) := h
  clear h
  replace H := Option.bind_eq_some_iff.mp H
  obtain ⟨⟨t111, t112⟩, A40, H⟩ := H
  replace H : (some (t111, t112)) = some (r1, r2) := H
  have A4 := Aside0.mk A40
  clear A40
  simp only [Option.some.injEq, Prod.mk.injEq] at H
  obtain ⟨rfl, rfl⟩ := H
  go_enter Tryd.func18, Tryd.ntmps18
  go_wp2_with (first | ((with_reducible refine gate_callee (f := 29) rfl ?_); refine goesL_ (some 11) rfl rfl Tryd.func29 (by kernel_rfl) rfl #[.string a0, .int .i64 a1, .int .i64 a2, .bool false] rfl (by (try simp only [List.map_toArray, List.map_cons, List.map_nil]); first | done | rfl | (simp only [List.length_drop, List.length_take]; rfl)) ?_; (with_reducible refine (fields_get_uint64.calls k a0 a1 a2 false t111 t112 _ A4.out).mono ?_); rintro e w5 ⟨rfl, hb⟩; refine ⟨_, rfl, ?_⟩; have n0_ := Aside0.mk (below_step (by repeat (first | (with_reducible first | exact HB.out | apply below_alloc | apply pw_below_drewN | apply below_drew1) | exact HB.out)) hb); clear HB; have HB := n0_; clear n0_; (try clear hb); (try clear hb2); (try clear hk); (try clear hi)))
  go_ret2
  exact ⟨by first | rfl | (simp [errW_none, errW_some] <;> rfl) | (simp [*, errW_none, errW_some] <;> rfl) | (simp [bt, *]; done) | (unfold bt; simp [*]; done), by repeat (first | (with_reducible first | exact HB.out | apply below_alloc | apply pw_below_drewN | apply below_drew1) | exact HB.out)⟩

/-! ### tpdu_form_measure: function 19 -/
def tpdu_form_measure.f (a0_0 : Int) (a0_1 : Int) (a0_2 : Bool) (a1 : Int) (a2 : Bool) (a3 : Bool) : Option (Int × Int × Int × Bool × Bool) :=
  some (wrap64 (8 + a0_0),
    (if 0 < a1 then (if (a2 && a0_2) = true then wrap64 (wrap64 (8 + a0_0) + 4) else wrap64 (8 + a0_0)) else 0),
    (if (a3 && a0_2 && decide (0 < a1)) = true then wrap64 ((if 0 < a1 then wrap64 ((if (a2 && a0_2) = true then wrap64 (wrap64 (8 + a0_0) + 4) else wrap64 (8 + a0_0)) + a1) else (if (a2 && a0_2) = true then wrap64 (wrap64 (8 + a0_0) + 4) else wrap64 (8 + a0_0))) + 4)
      else (if 0 < a1 then wrap64 ((if (a2 && a0_2) = true then wrap64 (wrap64 (8 + a0_0) + 4) else wrap64 (8 + a0_0)) + a1) else (if (a2 && a0_2) = true then wrap64 (wrap64 (8 + a0_0) + 4) else wrap64 (8 + a0_0)))),
    a2 && a0_2, a3 && a0_2 && decide (0 < a1))
theorem measure_mid (w : World) (o1 o2 o3 : Obj) : (((w.alloc o1).alloc o2).alloc o3).heap[w.heap.size + 1]? = some o2 := by
  have e : (w.alloc o1).heap.size = w.heap.size + 1 := by simp
  have h := blk_alloc (heap_alloc_new (w.alloc o1) o2) o3
  rw [e] at h
  exact h
set_option maxHeartbeats 4000000 in
set_option maxRecDepth 100000 in
theorem tpdu_form_measure.calls (a0_0 : Int) (a0_1 : Int) (a0_2 : Bool) (a1 : Int) (a2 : Bool) (a3 : Bool) (r1 : Int) (r2 : Int) (r3 : Int) (r4 : Bool) (r5 : Bool) (w : World) (h : tpdu_form_measure.f a0_0 a0_1 a0_2 a1 a2 a3 = some (r1, r2, r3, r4, r5)) :
    Calls Tryd.prog 19 #[.agg #[.int .i64 a0_0, .int .i64 a0_1, .bool a0_2], .int .i64 a1, .bool a2, .bool a3] w fun e w' => e = .returned (.agg #[.int .i64 r1, .int .i64 r2, .int .i64 r3, .bool r4, .bool r5]) ∧ Below w.heap.size w w' := by
  have hu1 := Tryd.underlying48
  have hu2 := Tryd.underlying54
  unfold tpdu_form_measure.f at h
  obtain ⟨c, hc⟩ : ∃ c, decide (0 < a1) = c := ⟨_, rfl⟩
  cases a2 <;> cases a3 <;> cases a0_2 <;> cases c
  all_goals
    first
      | (have hp : ¬ 0 < a1 := of_decide_eq_false hc)
      | (have hp : 0 < a1 := of_decide_eq_true hc)
    simp only [hp, Bool.and_true, Bool.and_false, Bool.false_and, Bool.true_and, decide_true, decide_false, if_true, if_false, Bool.false_eq_true, ↓reduceIte, Option.some.injEq, Prod.mk.injEq] at h
    obtain ⟨rfl, rfl, rfl, rfl, rfl⟩ := h
    clear hp
    go_enter Tryd.func19, Tryd.ntmps19
    go_wp2
    refine bodyPost_ret (results_cell_row rfl _ _ (w.heap.size + 1) 54 _ (0, 0) _ rfl (measure_mid w _ _ _) Tryd.underlying54 rfl (by kernel_rfl)) rfl ?_
    exact ⟨rfl, below_alloc (below_alloc (below_alloc (Below.refl _ _) _) _) _⟩

/-! ### tpdu_measured_flags: function 20 -/
def tpdu_measured_flags.f (a0_0 : Int) (a0_1 : Int) (a0_2 : Int) (a0_3 : Bool) (a0_4 : Bool) (a1 : Int) : Option (Int) := if a0_3 = true then (if a0_4 = true then (some (Go.bits .or .i64 (Go.bits .or .i64 a1 1) 2)) else (some (Go.bits .or .i64 a1 1))) else (if a0_4 = true then (some (Go.bits .or .i64 a1 2)) else (some a1))
set_option maxHeartbeats 8000000 in
set_option maxRecDepth 100000 in
theorem tpdu_measured_flags.calls (a0_0 : Int) (a0_1 : Int) (a0_2 : Int) (a0_3 : Bool) (a0_4 : Bool) (a1 : Int) (r : Int) (w : World) (h : tpdu_measured_flags.f a0_0 a0_1 a0_2 a0_3 a0_4 a1 = some r) :
    Calls Tryd.prog 20 #[.agg #[.int .i64 a0_0, .int .i64 a0_1, .int .i64 a0_2, .bool a0_3, .bool a0_4], .int .i64 a1] w fun e w' => e = .returned (.int .i64 r) ∧ Below w.heap.size w w' := by
  have hu54 := Tryd.underlying54
  have HB := Aside0.mk (Below.refl w.heap.size w)
  have H : (if a0_3 = true then (if a0_4 = true then (some (Go.bits .or .i64 (Go.bits .or .i64 a1 1) 2)) else (some (Go.bits .or .i64 a1 1))) else (if a0_4 = true then (some (Go.bits .or .i64 a1 2)) else (some a1))) = some r := h
  clear h
  by_cases c3 : a0_3 = true
  · subst c3
    have H1 : (if a0_4 = true then (some (Go.bits .or .i64 (Go.bits .or .i64 a1 1) 2)) else (some (Go.bits .or .i64 a1 1))) = some r := by rw [if_pos rfl] at H; exact H
    clear H
    have H := H1
    clear H1
    by_cases c4 : a0_4 = true
    · subst c4
      have H1 : (some (Go.bits .or .i64 (Go.bits .or .i64 a1 1) 2)) = some r := by rw [if_pos rfl] at H; exact H
      clear H
      have H := H1
      clear H1
      obtain rfl := Option.some.inj H
      go_enter Tryd.func20, Tryd.ntmps20
      go_wp2_with (first | ((with_reducible refine gate_dst (N := 2) rfl ?_); refine box_event ?hg (N := 2) ?hd (cs := #[.int .i64 a0_0, .int .i64 a0_1, .int .i64 a0_2, .bool true, .bool true]) (t := 54) ?hr ?_; (case hd => rfl); (case hg => rfl); (case hr => first | (go_simp; done) | (go_simp; rfl)); intro gb113 hg w5 hbox hb; have n0_ := Aside0.mk (below_step (by repeat (first | (with_reducible first | exact HB.out | apply below_alloc | apply pw_below_drewN | apply below_drew1) | exact HB.out)) hb); have n1_ := Aside0.mk (hbox); have n2_ := Aside0.mk ((by rw [hg]; exact (below_size (by repeat (first | (with_reducible first | exact HB.out | apply below_alloc | apply pw_below_drewN | apply below_drew1) | exact HB.out))) : w.heap.size ≤ gb113)); have n3_ := Aside0.mk ((by rw [hg]; exact (below_size (by repeat (first | (with_reducible first | exact HB.out | apply below_alloc | apply pw_below_drewN | apply below_drew1) | exact HB.out))) : w.heap.size ≤ gb113)); clear HB; have HB := n0_; have BK113 := n1_; have GW113 := n2_; have GE113 := n3_; clear n0_ n1_ n2_ n3_; clear hb hbox hg; have hcz6_0 : w5.cell? ⟨gb113, 0, none⟩ = some (.int .i64 a0_0) := (blk_cell BK113.out 0).trans rfl; have hcz6_1 : w5.cell? ⟨gb113, 1, none⟩ = some (.int .i64 a0_1) := (blk_cell BK113.out 1).trans rfl; have hcz6_2 : w5.cell? ⟨gb113, 2, none⟩ = some (.int .i64 a0_2) := (blk_cell BK113.out 2).trans rfl; have hcz6_3 : w5.cell? ⟨gb113, 3, none⟩ = some (.bool true) := (blk_cell BK113.out 3).trans rfl; have hcz6_4 : w5.cell? ⟨gb113, 4, none⟩ = some (.bool true) := (blk_cell BK113.out 4).trans rfl; have hfz6_0 := blk_frozen BK113.out 0; have hfz6_1 := blk_frozen BK113.out 1; have hfz6_2 := blk_frozen BK113.out 2; have hfz6_3 := blk_frozen BK113.out 3; have hfz6_4 := blk_frozen BK113.out 4))
      go_ret
      exact ⟨by first | rfl | (simp [errW_none, errW_some] <;> rfl) | (simp [*, errW_none, errW_some] <;> rfl) | (simp [bt, *]; done) | (unfold bt; simp [*]; done), by repeat (first | (with_reducible first | exact HB.out | apply below_alloc | apply pw_below_drewN | apply below_drew1 | refine below_set ?_ GE113.out) | exact HB.out)⟩
    · replace c4 := Bool.eq_false_iff.mpr c4
      subst c4
      have H1 : (some (Go.bits .or .i64 a1 1)) = some r := by rw [if_neg (show ¬ (false = true) by decide)] at H; exact H
      clear H
      have H := H1
      clear H1
      obtain rfl := Option.some.inj H
      go_enter Tryd.func20, Tryd.ntmps20
      go_wp2_with (first | ((with_reducible refine gate_dst (N := 2) rfl ?_); refine box_event ?hg (N := 2) ?hd (cs := #[.int .i64 a0_0, .int .i64 a0_1, .int .i64 a0_2, .bool true, .bool false]) (t := 54) ?hr ?_; (case hd => rfl); (case hg => rfl); (case hr => first | (go_simp; done) | (go_simp; rfl)); intro gb113 hg w7 hbox hb; have n0_ := Aside0.mk (below_step (by repeat (first | (with_reducible first | exact HB.out | apply below_alloc | apply pw_below_drewN | apply below_drew1) | exact HB.out)) hb); have n1_ := Aside0.mk (hbox); have n2_ := Aside0.mk ((by rw [hg]; exact (below_size (by repeat (first | (with_reducible first | exact HB.out | apply below_alloc | apply pw_below_drewN | apply below_drew1) | exact HB.out))) : w.heap.size ≤ gb113)); have n3_ := Aside0.mk ((by rw [hg]; exact (below_size (by repeat (first | (with_reducible first | exact HB.out | apply below_alloc | apply pw_below_drewN | apply below_drew1) | exact HB.out))) : w.heap.size ≤ gb113)); clear HB; have HB := n0_; have BK113 := n1_; have GW113 := n2_; have GE113 := n3_; clear n0_ n1_ n2_ n3_; clear hb hbox hg; have hcz8_0 : w7.cell? ⟨gb113, 0, none⟩ = some (.int .i64 a0_0) := (blk_cell BK113.out 0).trans rfl; have hcz8_1 : w7.cell? ⟨gb113, 1, none⟩ = some (.int .i64 a0_1) := (blk_cell BK113.out 1).trans rfl; have hcz8_2 : w7.cell? ⟨gb113, 2, none⟩ = some (.int .i64 a0_2) := (blk_cell BK113.out 2).trans rfl; have hcz8_3 : w7.cell? ⟨gb113, 3, none⟩ = some (.bool true) := (blk_cell BK113.out 3).trans rfl; have hcz8_4 : w7.cell? ⟨gb113, 4, none⟩ = some (.bool false) := (blk_cell BK113.out 4).trans rfl; have hfz8_0 := blk_frozen BK113.out 0; have hfz8_1 := blk_frozen BK113.out 1; have hfz8_2 := blk_frozen BK113.out 2; have hfz8_3 := blk_frozen BK113.out 3; have hfz8_4 := blk_frozen BK113.out 4))
      go_ret
      exact ⟨by first | rfl | (simp [errW_none, errW_some] <;> rfl) | (simp [*, errW_none, errW_some] <;> rfl) | (simp [bt, *]; done) | (unfold bt; simp [*]; done), by repeat (first | (with_reducible first | exact HB.out | apply below_alloc | apply pw_below_drewN | apply below_drew1 | refine below_set ?_ GE113.out) | exact HB.out)⟩
  · replace c3 := Bool.eq_false_iff.mpr c3
    subst c3
    have H1 : (if a0_4 = true then (some (Go.bits .or .i64 a1 2)) else (some a1)) = some r := by rw [if_neg (show ¬ (false = true) by decide)] at H; exact H
    clear H
    have H := H1
    clear H1
    by_cases c9 : a0_4 = true
    · subst c9
      have H1 : (some (Go.bits .or .i64 a1 2)) = some r := by rw [if_pos rfl] at H; exact H
      clear H
      have H := H1
      clear H1
      obtain rfl := Option.some.inj H
      go_enter Tryd.func20, Tryd.ntmps20
      go_wp2_with (first | ((with_reducible refine gate_dst (N := 2) rfl ?_); refine box_event ?hg (N := 2) ?hd (cs := #[.int .i64 a0_0, .int .i64 a0_1, .int .i64 a0_2, .bool false, .bool true]) (t := 54) ?hr ?_; (case hd => rfl); (case hg => rfl); (case hr => first | (go_simp; done) | (go_simp; rfl)); intro gb113 hg w10 hbox hb; have n0_ := Aside0.mk (below_step (by repeat (first | (with_reducible first | exact HB.out | apply below_alloc | apply pw_below_drewN | apply below_drew1) | exact HB.out)) hb); have n1_ := Aside0.mk (hbox); have n2_ := Aside0.mk ((by rw [hg]; exact (below_size (by repeat (first | (with_reducible first | exact HB.out | apply below_alloc | apply pw_below_drewN | apply below_drew1) | exact HB.out))) : w.heap.size ≤ gb113)); have n3_ := Aside0.mk ((by rw [hg]; exact (below_size (by repeat (first | (with_reducible first | exact HB.out | apply below_alloc | apply pw_below_drewN | apply below_drew1) | exact HB.out))) : w.heap.size ≤ gb113)); clear HB; have HB := n0_; have BK113 := n1_; have GW113 := n2_; have GE113 := n3_; clear n0_ n1_ n2_ n3_; clear hb hbox hg; have hcz11_0 : w10.cell? ⟨gb113, 0, none⟩ = some (.int .i64 a0_0) := (blk_cell BK113.out 0).trans rfl; have hcz11_1 : w10.cell? ⟨gb113, 1, none⟩ = some (.int .i64 a0_1) := (blk_cell BK113.out 1).trans rfl; have hcz11_2 : w10.cell? ⟨gb113, 2, none⟩ = some (.int .i64 a0_2) := (blk_cell BK113.out 2).trans rfl; have hcz11_3 : w10.cell? ⟨gb113, 3, none⟩ = some (.bool false) := (blk_cell BK113.out 3).trans rfl; have hcz11_4 : w10.cell? ⟨gb113, 4, none⟩ = some (.bool true) := (blk_cell BK113.out 4).trans rfl; have hfz11_0 := blk_frozen BK113.out 0; have hfz11_1 := blk_frozen BK113.out 1; have hfz11_2 := blk_frozen BK113.out 2; have hfz11_3 := blk_frozen BK113.out 3; have hfz11_4 := blk_frozen BK113.out 4))
      go_ret
      exact ⟨by first | rfl | (simp [errW_none, errW_some] <;> rfl) | (simp [*, errW_none, errW_some] <;> rfl) | (simp [bt, *]; done) | (unfold bt; simp [*]; done), by repeat (first | (with_reducible first | exact HB.out | apply below_alloc | apply pw_below_drewN | apply below_drew1 | refine below_set ?_ GE113.out) | exact HB.out)⟩
    · replace c9 := Bool.eq_false_iff.mpr c9
      subst c9
      have H1 : (some a1) = some r := by rw [if_neg (show ¬ (false = true) by decide)] at H; exact H
      clear H
      have H := H1
      clear H1
      obtain rfl := Option.some.inj H
      go_enter Tryd.func20, Tryd.ntmps20
      go_wp2_with (first | ((with_reducible refine gate_dst (N := 2) rfl ?_); refine box_event ?hg (N := 2) ?hd (cs := #[.int .i64 a0_0, .int .i64 a0_1, .int .i64 a0_2, .bool false, .bool false]) (t := 54) ?hr ?_; (case hd => rfl); (case hg => rfl); (case hr => first | (go_simp; done) | (go_simp; rfl)); intro gb113 hg w12 hbox hb; have n0_ := Aside0.mk (below_step (by repeat (first | (with_reducible first | exact HB.out | apply below_alloc | apply pw_below_drewN | apply below_drew1) | exact HB.out)) hb); have n1_ := Aside0.mk (hbox); have n2_ := Aside0.mk ((by rw [hg]; exact (below_size (by repeat (first | (with_reducible first | exact HB.out | apply below_alloc | apply pw_below_drewN | apply below_drew1) | exact HB.out))) : w.heap.size ≤ gb113)); have n3_ := Aside0.mk ((by rw [hg]; exact (below_size (by repeat (first | (with_reducible first | exact HB.out | apply below_alloc | apply pw_below_drewN | apply below_drew1) | exact HB.out))) : w.heap.size ≤ gb113)); clear HB; have HB := n0_; have BK113 := n1_; have GW113 := n2_; have GE113 := n3_; clear n0_ n1_ n2_ n3_; clear hb hbox hg; have hcz13_0 : w12.cell? ⟨gb113, 0, none⟩ = some (.int .i64 a0_0) := (blk_cell BK113.out 0).trans rfl; have hcz13_1 : w12.cell? ⟨gb113, 1, none⟩ = some (.int .i64 a0_1) := (blk_cell BK113.out 1).trans rfl; have hcz13_2 : w12.cell? ⟨gb113, 2, none⟩ = some (.int .i64 a0_2) := (blk_cell BK113.out 2).trans rfl; have hcz13_3 : w12.cell? ⟨gb113, 3, none⟩ = some (.bool false) := (blk_cell BK113.out 3).trans rfl; have hcz13_4 : w12.cell? ⟨gb113, 4, none⟩ = some (.bool false) := (blk_cell BK113.out 4).trans rfl; have hfz13_0 := blk_frozen BK113.out 0; have hfz13_1 := blk_frozen BK113.out 1; have hfz13_2 := blk_frozen BK113.out 2; have hfz13_3 := blk_frozen BK113.out 3; have hfz13_4 := blk_frozen BK113.out 4))
      go_ret
      exact ⟨by first | rfl | (simp [errW_none, errW_some] <;> rfl) | (simp [*, errW_none, errW_some] <;> rfl) | (simp [bt, *]; done) | (unfold bt; simp [*]; done), by repeat (first | (with_reducible first | exact HB.out | apply below_alloc | apply pw_below_drewN | apply below_drew1 | refine below_set ?_ GE113.out) | exact HB.out)⟩

/-! ### fields_put_uint64: function 33 -/
mutual
def fields_put_uint64.j0 : Nat → Int → Int → Bool → Bool → Option (ByteArray)
  | 0, _, _, _, _ => none
  | k + 1, x0, x1, x2, x15 => if x15 = true then (some (⟨#[]⟩ : ByteArray)) else ((fields_shifts.f k x1 x2).bind fun t114 => (fields_put_uint64.l0 k x0 ([] : List Int) t114 (t114.length : Int) 0))
def fields_put_uint64.l0 : Nat → Int → List Int → List Int → Int → Int → Option (ByteArray)
  | 0, _, _, _, _, _ => none
  | k + 1, x0, x7, x18, x19, x20 => if x20 < x19 then (if 0 ≤ x20 then (if x20 < (x18.length : Int) then (if 0 ≤ (rd x18 x20) then (if x7.length < 140737488355328 then (fields_put_uint64.l0 k x0 (x7 ++ [(shr .u64 x0 (rd x18 x20)) % 256]) x18 x19 (wrap64 (x20 + 1))) else (none)) else (none)) else (none)) else (none)) else (some (strOfNums x7))
end
def fields_put_uint64.f (k : Nat) (a0 : Int) (a1 : Int) (a2 : Bool) : Option (ByteArray) := if a1 < 1 then (fields_put_uint64.j0 k a0 a1 a2 true) else (fields_put_uint64.j0 k a0 a1 a2 (decide (a1 > 8)))
theorem fields_put_uint64.mono_l : ∀ k, (∀ y0 y1 y2 y3, LeO (fields_put_uint64.j0 k y0 y1 y2 y3) (fields_put_uint64.j0 (k + 1) y0 y1 y2 y3)) ∧ (∀ y0 y1 y2 y3 y4, LeO (fields_put_uint64.l0 k y0 y1 y2 y3 y4) (fields_put_uint64.l0 (k + 1) y0 y1 y2 y3 y4))
  | 0 => ⟨fun _ _ _ _ r h => by simp [fields_put_uint64.j0] at h, fun _ _ _ _ _ r h => by simp [fields_put_uint64.l0] at h⟩
  | k + 1 => by
    obtain ⟨ih0, ih1⟩ := fields_put_uint64.mono_l k
    refine ⟨?_, ?_⟩
    · intro y0 y1 y2 y3
      unfold fields_put_uint64.j0
      repeat' first
      | (with_reducible exact ih0 _ _ _ _)
      | (with_reducible exact ih1 _ _ _ _ _)
      | (with_reducible exact fields_shifts.mono _ _ _)
      | (with_reducible exact LeO.refl _)
      | (with_reducible exact LeO.none _)
      | (with_reducible refine LeO.ite ?_ ?_)
      | (with_reducible refine LeO.bind ?_ (fun _ => ?_))
      | exact ih0 _ _ _ _
      | exact ih1 _ _ _ _ _
      | exact fields_shifts.mono _ _ _
      | exact LeO.none _
      | refine LeO.ite ?_ ?_
      | refine LeO.bind ?_ (fun _ => ?_)
    · intro y0 y1 y2 y3 y4
      unfold fields_put_uint64.l0
      repeat' first
      | (with_reducible exact ih0 _ _ _ _)
      | (with_reducible exact ih1 _ _ _ _ _)
      | (with_reducible exact fields_shifts.mono _ _ _)
      | (with_reducible exact LeO.refl _)
      | (with_reducible exact LeO.none _)
      | (with_reducible refine LeO.ite ?_ ?_)
      | (with_reducible refine LeO.bind ?_ (fun _ => ?_))
      | exact ih0 _ _ _ _
      | exact ih1 _ _ _ _ _
      | exact fields_shifts.mono _ _ _
      | exact LeO.none _
      | refine LeO.ite ?_ ?_
      | refine LeO.bind ?_ (fun _ => ?_)
theorem fields_put_uint64.mono : ∀ a0 a1 a2 k, LeO (fields_put_uint64.f k a0 a1 a2) (fields_put_uint64.f (k + 1) a0 a1 a2) := by
  intro a0 a1 a2 k
  obtain ⟨ih0, ih1⟩ := fields_put_uint64.mono_l k
  unfold fields_put_uint64.f
  repeat' first
      | (with_reducible exact ih0 _ _ _ _)
      | (with_reducible exact ih1 _ _ _ _ _)
      | (with_reducible exact fields_shifts.mono _ _ _)
      | (with_reducible exact LeO.refl _)
      | (with_reducible exact LeO.none _)
      | (with_reducible refine LeO.ite ?_ ?_)
      | (with_reducible refine LeO.bind ?_ (fun _ => ?_))
      | exact ih0 _ _ _ _
      | exact ih1 _ _ _ _ _
      | exact fields_shifts.mono _ _ _
      | exact LeO.none _
      | refine LeO.ite ?_ ?_
      | refine LeO.bind ?_ (fun _ => ?_)
set_option maxHeartbeats 8000000 in
set_option maxRecDepth 100000 in
theorem fields_put_uint64.calls (k : Nat) (a0 : Int) (a1 : Int) (a2 : Bool) (r : ByteArray) (w : World) (h : fields_put_uint64.f k a0 a1 a2 = some r) :
    Calls Tryd.prog 33 #[.int .u64 a0, .int .i64 a1, .bool a2] w fun e w' => e = .returned (.string r) ∧ Below w.heap.size w w' := by
  have HB := Aside0.mk (Below.refl w.heap.size w)
  have H : (if a1 < 1 then (fields_put_uint64.j0 k a0 a1 a2 true) else (fields_put_uint64.j0 k a0 a1 a2 (decide (a1 > 8)))) = some r := h
  clear h
  have HC4 := Aside0.mk H
  clear H
  go_enter Tryd.func33, Tryd.ntmps33
  go_upto_region 1 with (fail)
  go_cut [15] (fun v15 wc => ∃ (kq : Nat) (x15_3 : Bool), v15 = .bool x15_3 ∧ Aside0 (fields_put_uint64.j0 kq a0 a1 a2 x15_3 = some r) ∧ Aside0 (kq ≤ k) ∧ Aside0 (Below w.heap.size w wc))
  case first =>
    have H := HC4.out
    clear HC4
    by_cases c5 : a1 < 1
    · rw [if_pos c5] at H
      have c5b0 : decide (a1 < 1) = true := decide_eq_true c5
      clear c5
      (first | rw [c5b0] | (simp only [i64_w, i32_w]; rw [c5b0]) | skip)
      have H' := Aside0.mk H
      clear H
      go_wp2
      go_meet
      case rel => exact ⟨_, (true), (by first | rfl | (simp; done) | (simp [*]; done)), H', ⟨by first | omega | exact Nat.le_refl _⟩, ⟨by repeat (first | (with_reducible first | exact HB.out | apply below_alloc | apply pw_below_drewN | apply below_drew1) | exact HB.out)⟩⟩
    · rw [if_neg c5] at H
      have c5b0 : decide (a1 < 1) = false := decide_eq_false c5
      clear c5
      (first | rw [c5b0] | (simp only [i64_w, i32_w]; rw [c5b0]) | skip)
      have H' := Aside0.mk H
      clear H
      go_wp2
      go_meet
      case rel => exact ⟨_, (decide (a1 > 8)), (by first | rfl | (simp; done) | (simp [*]; done)), H', ⟨by first | omega | exact Nat.le_refl _⟩, ⟨by repeat (first | (with_reducible first | exact HB.out | apply below_alloc | apply pw_below_drewN | apply below_drew1) | exact HB.out)⟩⟩
  case rest =>
    clear HC4
    try clear p2
    try clear c3
    try clear c5
    try clear c5b0
    obtain ⟨kq, x15_3, rfl, HA, HJ3, HB⟩ := hcut
    cases kq with
    | zero => exact absurd HA.out (by simp [fields_put_uint64.j0])
    | succ kj3 =>
      have H := HA.out
      clear HA
      simp only [fields_put_uint64.j0] at H
      by_cases c6 : x15_3 = true
      · subst c6
        have H1 : (some (⟨#[]⟩ : ByteArray)) = some r := by rw [if_pos rfl] at H; exact H
        clear H
        have H := H1
        clear H1
        obtain rfl := Option.some.inj H
        go_wp2
        go_ret
        exact ⟨by first | rfl | (simp [errW_none, errW_some] <;> rfl) | (simp [*, errW_none, errW_some] <;> rfl) | (simp [bt, *]; done) | (unfold bt; simp [*]; done), by repeat (first | (with_reducible first | exact HB.out | apply below_alloc | apply pw_below_drewN | apply below_drew1) | exact HB.out)⟩
      · replace c6 := Bool.eq_false_iff.mpr c6
        subst c6
        have H1 : ((fields_shifts.f kj3 a1 a2).bind fun t114 => (fields_put_uint64.l0 kj3 a0 ([] : List Int) t114 (t114.length : Int) 0)) = some r := by rw [if_neg (show ¬ (false = true) by decide)] at H; exact H
        clear H
        have H := H1
        clear H1
        replace H := Option.bind_eq_some_iff.mp H
        obtain ⟨t114, A70, H⟩ := H
        replace H : (fields_put_uint64.l0 kj3 a0 ([] : List Int) t114 (t114.length : Int) 0) = some r := H
        have A7 := Aside0.mk A70
        clear A70
        have H' := Aside0.mk H
        clear H
        go_wp2_with (first | ((with_reducible refine gate_callee (f := 35) rfl ?_); refine goesL_ (some 18) rfl rfl Tryd.func35 (by kernel_rfl) rfl #[.int .i64 a1, .bool a2] rfl (by (try simp only [List.map_toArray, List.map_cons, List.map_nil]); first | done | rfl | (simp only [List.length_drop, List.length_take]; rfl)) ?_; (with_reducible refine (fields_shifts.calls kj3 a1 a2 t114 _ A7.out).mono ?_); rintro e w8 ⟨v115, rfl, ho0, hb⟩; refine ⟨_, rfl, ?_⟩; have n0_ := Aside0.mk (Kd.R_lower ho0 (below_size (by repeat (first | (with_reducible first | exact HB.out | apply below_alloc | apply pw_below_drewN | apply below_drew1) | exact HB.out)))); have n1_ := Aside0.mk (below_step (by repeat (first | (with_reducible first | exact HB.out | apply below_alloc | apply pw_below_drewN | apply below_drew1) | exact HB.out)) hb); clear HB; have HO116 := n0_; have HB := n1_; clear n0_ n1_; (try clear hb); (try clear hb2); (try clear hk); (try clear hi); (try clear ho0); obtain ⟨Ao9, co9, eo9⟩ := Kd.R_slice HO116.out; subst eo9))
        go_loopg [7, 20] kj3 (fun kq v7 v20 w' => ∃ (x7_2 : List Int) (x20_2 : Int), v20 = .int .i64 x20_2 ∧ Aside0 (fields_put_uint64.l0 kq a0 x7_2 t114 (t114.length : Int) x20_2 = some r) ∧ Aside0 (kq ≤ kj3) ∧ Aside0 (Kd.R (Kd.int .u8) 5 w' w.heap.size (fun _ => True) v7 x7_2) ∧ Aside0 (Kd.R (Kd.int .i64) 3 w' w.heap.size (fun _ => True) (.slice Ao9 t114.length co9) t114) ∧ Aside0 (Below w.heap.size w w'))
        case atStart => exact ⟨(([] : List Int)), (0), (by first | rfl | (simp; done) | (simp [*]; done)), H', ⟨Nat.le_refl _⟩, ⟨by first | exact Kd.R_nil _ _ _ _ _ | exact Kd.N_nil _ _ _ _ _ | exact Kd.V_nil _ _ _ _ _ | exact Kd.Q_nil _ _ _ _ _ | exact Kd.S_nil _ _ _ _ _⟩, ⟨by (with_reducible repeat (first | apply Kd.R_alloc | apply Kd.R_drewN | apply Kd.R_drew)); exact HO116.out⟩, ⟨by repeat (first | (with_reducible first | exact HB.out | apply below_alloc | apply pw_below_drewN | apply below_drew1) | exact HB.out)⟩⟩
        case round =>
          clear H'
          try clear p2
          try clear c3
          try clear c5
          try clear c5b0
          try clear c6
          try clear p2
          obtain ⟨x7_2, x20_2, rfl, HA, HK2, HO_7, HO_18, HB⟩ := hrel
          cases gk with
          | zero => exact absurd HA.out (by simp [fields_put_uint64.l0])
          | succ k2 =>
            have H := HA.out
            clear HA
            simp only [fields_put_uint64.l0] at H
            by_cases c10 : x20_2 < (t114.length : Int)
            · rw [if_pos c10] at H
              have c10b0 : decide (x20_2 < (t114.length : Int)) = true := decide_eq_true c10
              clear c10
              by_cases c11 : 0 ≤ x20_2
              · rw [if_pos c11] at H
                have c11b0 : decide (0 ≤ x20_2) = true := decide_eq_true c11
                clear c11
                by_cases c12 : x20_2 < (t114.length : Int)
                · rw [if_pos c12] at H
                  have c12b0 : decide (x20_2 < (t114.length : Int)) = true := decide_eq_true c12
                  clear c12
                  by_cases c13 : 0 ≤ (rd t114 x20_2)
                  · rw [if_pos c13] at H
                    have c13b0 := eq_true c13
                    have c13b1 : decide (0 ≤ (rd t114 x20_2)) = true := decide_eq_true c13
                    clear c13
                    obtain ⟨ji14, hji14⟩ : ∃ j_ : Int, (shr .u64 a0 (rd t114 x20_2)) = j_ := ⟨_, rfl⟩
                    replace H : (if x7_2.length < 140737488355328 then (fields_put_uint64.l0 k2 a0 (x7_2 ++ [(ji14) % 256]) t114 (t114.length : Int) (wrap64 (x20_2 + 1))) else (none)) = some r := by first | (rw [hji14] at H; exact H) | (simp only [hji14] at H ⊢; exact H)
                    have hji14_ : (a0 / 2 ^ min (rd t114 x20_2).toNat 64) = ji14 := hji14
                    have hji14z : (rd t114 x20_2) ≤ 64 → (a0 / 2 ^ (rd t114 x20_2).toNat) = ji14 := shr_small hji14
                    by_cases c15 : x7_2.length < 140737488355328
                    · rw [if_pos c15] at H
                      have LMc15 := Aside0.mk c15
                      clear c15
                      obtain ⟨y118, hy118⟩ : ∃ y_ : List Int, y_ = (x7_2 ++ [(ji14) % 256]) := ⟨_, rfl⟩
                      replace H : (fields_put_uint64.l0 k2 a0 y118 t114 (t114.length : Int) (wrap64 (x20_2 + 1))) = some r := by first | (rw [hy118]; with_reducible exact H) | (have H2_ := (Option.bind_some _ _).symm.trans H; rw [hy118]; with_reducible exact H2_) | (have H2_ := (Option.bind_some _ _).symm.trans H; with_reducible exact H2_) | with_reducible exact H | (rw [hy118]; exact H) | exact H
                      have Ny118 := Aside0.mk hy118
                      clear hy118
                      have H' := Aside0.mk H
                      clear H
                      have p117 : 0 ≤ (x20_2 : Int) := of_decide_eq_true (by first | (with_reducible assumption) | assumption)
                      have q117 : x20_2 < (t114.length : Int) := of_decide_eq_true (by first | (with_reducible assumption) | assumption)
                      obtain ⟨ad117, e117, hx117_0⟩ := Kd.at_int (Kd.R_reads' HO_18.out).2.2 x20_2 p117 q117
                      cases e117
                      replace p117 := eq_true p117
                      replace q117 := eq_true q117
                      go_wp2_with (first | ((with_reducible refine gate_builtin (b := .append) (xs := #[.tmp 24, .tmp 29]) rfl ?_); at_builtin; refine Kd.R_append (Kd.int .u8) (w0 := w) w.heap.size rfl (.tmp 24) (.tmp 29) 45 5 (.int .u8 0) 1 rfl Tryd.underlying45 info5 rfl (by decide) (by omega) u7 x7_2 ((ji14) % 256) [.int .u8 ((ji14) % 256)] (fun _ => True) (fun _ => False) rfl rfl ?aP (fun _ hk => hk.elim) ?aF ?aO ?aB ?aS ?aL ?_; (case aP => exact rfl); (case aB => exact (by repeat (first | (with_reducible first | exact HB.out | apply below_alloc | apply pw_below_drewN | apply below_drew1) | exact HB.out))); (case aF => exact (fun _ _ => trivial)); (case aO => exact (by (with_reducible repeat (first | apply Kd.R_alloc | apply Kd.R_drewN | apply Kd.R_drew)); exact HO_7.out)); (case aS => exact (below_size (by repeat (first | (with_reducible first | exact HB.out | apply below_alloc | apply pw_below_drewN | apply below_drew1) | exact HB.out)))); (case aL => have := LMc15.out; omega); intro v119 w16 ho hb hg hat; rw [← Ny118.out] at ho; have n0_ := Aside0.mk (Kd.R_over' (by (with_reducible repeat (first | apply Kd.R_alloc | apply Kd.R_drewN | apply Kd.R_drew)); exact HO_18.out) (Kd.R_typed (by (with_reducible repeat (first | apply Kd.R_alloc | apply Kd.R_drewN | apply Kd.R_drew)); exact HO_7.out)) (by decide) hg); have n1_ := Aside0.mk (hb); have n2_ := Aside0.mk (ho); clear HO_18; clear HB; clear HO_7; have HO_18 := n0_; have HB := n1_; have HO120 := n2_; clear n0_ n1_ n2_; clear ho hb hg hat))
                      go_roundg k2
                      case measure => have := HJ3.out; have := HK2.out; omega
                      case rel => exact ⟨(y118), (wrap64 (x20_2 + 1)), (by first | rfl | (simp; done) | (simp [*]; done)), H', ⟨by have := HJ3.out; have := HK2.out; omega⟩, ⟨by (with_reducible repeat (first | apply Kd.R_alloc | apply Kd.R_drewN | apply Kd.R_drew)); exact HO120.out⟩, ⟨by (with_reducible repeat (first | apply Kd.R_alloc | apply Kd.R_drewN | apply Kd.R_drew)); exact HO_18.out⟩, ⟨by repeat (first | (with_reducible first | exact HB.out | apply below_alloc | apply pw_below_drewN | apply below_drew1) | exact HB.out)⟩⟩
                    · rw [if_neg c15] at H
                      exact absurd H (by simp)
                  · rw [if_neg c13] at H
                    exact absurd H (by simp)
                · rw [if_neg c12] at H
                  exact absurd H (by simp)
              · rw [if_neg c11] at H
                exact absurd H (by simp)
            · rw [if_neg c10] at H
              have c10b0 : decide (x20_2 < (t114.length : Int)) = false := decide_eq_false c10
              clear c10
              obtain rfl := Option.some.inj H
              have hcv17 := own_string (P := Tryd.prog) Tryd.underlying45 Tryd.underlying5 Tryd.underlying9 (Kd.own_of_R HO_7.out)
              go_wp2
              go_ret
              exact ⟨by first | rfl | (simp [errW_none, errW_some] <;> rfl) | (simp [*, errW_none, errW_some] <;> rfl) | (simp [bt, *]; done) | (unfold bt; simp [*]; done), by repeat (first | (with_reducible first | exact HB.out | apply below_alloc | apply pw_below_drewN | apply below_drew1) | exact HB.out)⟩

/-! ### fields_PutLittle: function 27 -/
def fields_PutLittle.f (k : Nat) (a0 : Int) (a1 : Int) : Option (ByteArray) := (fields_put_uint64.f k a0 a1 false).bind fun t121 => (some t121)
theorem fields_PutLittle.mono : ∀ a0 a1 k, LeO (fields_PutLittle.f k a0 a1) (fields_PutLittle.f (k + 1) a0 a1) := by
  intro a0 a1 k
  unfold fields_PutLittle.f
  repeat' first
      | (with_reducible exact fields_put_uint64.mono _ _ _ _)
      | (with_reducible exact LeO.refl _)
      | (with_reducible exact LeO.none _)
      | (with_reducible refine LeO.ite ?_ ?_)
      | (with_reducible refine LeO.bind ?_ (fun _ => ?_))
      | exact fields_put_uint64.mono _ _ _ _
      | exact LeO.none _
      | refine LeO.ite ?_ ?_
      | refine LeO.bind ?_ (fun _ => ?_)
set_option maxHeartbeats 8000000 in
set_option maxRecDepth 100000 in
theorem fields_PutLittle.calls (k : Nat) (a0 : Int) (a1 : Int) (r : ByteArray) (w : World) (h : fields_PutLittle.f k a0 a1 = some r) :
    Calls Tryd.prog 27 #[.int .u64 a0, .int .i64 a1] w fun e w' => e = .returned (.string r) ∧ Below w.heap.size w w' := by
  have HB := Aside0.mk (Below.refl w.heap.size w)
  have H : ((fields_put_uint64.f k a0 a1 false).bind fun t121 => (some t121)) = some r := h
  clear h
  replace H := Option.bind_eq_some_iff.mp H
  obtain ⟨t121, A30, H⟩ := H
  replace H : (some t121) = some r := H
  have A3 := Aside0.mk A30
  clear A30
  obtain rfl := Option.some.inj H
  go_enter Tryd.func27, Tryd.ntmps27
  go_wp2_with (first | ((with_reducible refine gate_callee (f := 33) rfl ?_); refine goesL_ (some 7) rfl rfl Tryd.func33 (by kernel_rfl) rfl #[.int .u64 a0, .int .i64 a1, .bool false] rfl (by (try simp only [List.map_toArray, List.map_cons, List.map_nil]); first | done | rfl | (simp only [List.length_drop, List.length_take]; rfl)) ?_; (with_reducible refine (fields_put_uint64.calls k a0 a1 false t121 _ A3.out).mono ?_); rintro e w4 ⟨rfl, hb⟩; refine ⟨_, rfl, ?_⟩; have n0_ := Aside0.mk (below_step (by repeat (first | (with_reducible first | exact HB.out | apply below_alloc | apply pw_below_drewN | apply below_drew1) | exact HB.out)) hb); clear HB; have HB := n0_; clear n0_; (try clear hb); (try clear hb2); (try clear hk); (try clear hi)))
  go_ret
  exact ⟨by first | rfl | (simp [errW_none, errW_some] <;> rfl) | (simp [*, errW_none, errW_some] <;> rfl) | (simp [bt, *]; done) | (unfold bt; simp [*]; done), by repeat (first | (with_reducible first | exact HB.out | apply below_alloc | apply pw_below_drewN | apply below_drew1) | exact HB.out)⟩

end Go.Proofs.YtkbjhblffbcleaaDoor.P
