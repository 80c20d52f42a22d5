-- joined by this session's wip/tools/pack.py: words of the kit's print, cut to what the claim names; functions printed by a patched copy of the printer; walks and lemmas of this session; Lean checks it
import Derived.Test.YthglbmihbmneaaaGreatDoorBa6
import Derived.Maps.Own
import Derived.Maps.OwnOps
import Derived.Maps.Views
import Derived.Carry
import Derived.Lib.SliceRun
namespace Go.Proofs.YthglbmihbmneaaaGreatDoor.P
open Go.RowKit Go.Proofs.YthglbmihbmneaaaGreatDoorW.PrintWords Go.Proofs.YthglbmihbmneaaaGreatDoorW.PrintLast Go.Proofs.YthglbmihbmneaaaGreatDoorW.PrintMore
attribute [local go_sem] max2_int min2_int max_two min_two max_three min_three max_four min_four   -- for this text's walks alone
set_option linter.unusedVariables false
set_option linter.unusedSimpArgs false
set_option linter.unnecessarySimpa false
def headgateref21_Same.f (a0_0 : Bool) (a0_1 : Bool) (a0_2 : Bool) (a0_3 : Bool) (a0_4 : Int) (a0_5 : Int) (a0_6 : ByteArray) (a0_7 : ByteArray) (a1_0 : Bool) (a1_1 : Bool) (a1_2 : Bool) (a1_3 : Bool) (a1_4 : Int) (a1_5 : Int) (a1_6 : ByteArray) (a1_7 : ByteArray) : Option (Bool) := if (a0_0 == a1_0) = true then (if (a0_1 == a1_1) = true then (if (a0_2 == a1_2) = true then (if (a0_3 == a1_3) = true then (if a0_4 = a1_4 then (if a0_5 = a1_5 then (if a0_6.toList = a1_6.toList then (some (a0_7.toList == a1_7.toList)) else (some false)) else (some false)) else (some false)) else (some false)) else (some false)) else (some false)) else (some false)
set_option maxHeartbeats 8000000 in
set_option maxRecDepth 100000 in
theorem headgateref21_Same.calls (a0_0 : Bool) (a0_1 : Bool) (a0_2 : Bool) (a0_3 : Bool) (a0_4 : Int) (a0_5 : Int) (a0_6 : ByteArray) (a0_7 : ByteArray) (a1_0 : Bool) (a1_1 : Bool) (a1_2 : Bool) (a1_3 : Bool) (a1_4 : Int) (a1_5 : Int) (a1_6 : ByteArray) (a1_7 : ByteArray) (r : Bool) (w : World) (h : headgateref21_Same.f a0_0 a0_1 a0_2 a0_3 a0_4 a0_5 a0_6 a0_7 a1_0 a1_1 a1_2 a1_3 a1_4 a1_5 a1_6 a1_7 = some r) :
  Calls Tryz.prog 34 #[.agg #[.bool a0_0, .bool a0_1, .bool a0_2, .bool a0_3, .int .i64 a0_4, .int .i64 a0_5, .string a0_6, .string a0_7], .agg #[.bool a1_0, .bool a1_1, .bool a1_2, .bool a1_3, .int .i64 a1_4, .int .i64 a1_5, .string a1_6, .string a1_7]] w fun e w' => e = .returned (.bool r) ∧ Below w.heap.size w w' := by
 have hu29 := Tryz.underlying29
 have HB := Aside0.mk (Below.refl w.heap.size w)
 have H : (if (a0_0 == a1_0) = true then (if (a0_1 == a1_1) = true then (if (a0_2 == a1_2) = true then (if (a0_3 == a1_3) = true then (if a0_4 = a1_4 then (if a0_5 = a1_5 then (if a0_6.toList = a1_6.toList then (some (a0_7.toList == a1_7.toList)) else (some false)) else (some false)) else (some false)) else (some false)) else (some false)) else (some false)) else (some false)) = some r := h
 clear h
 refine neg_first (p := ((a0_0 == a1_0) = true)) (fun c3 => ?_) (fun c3 => ?_)
 ·rw [if_neg c3] at H
  have c3b0 : (a0_0 == a1_0) = false := by simpa using c3
  (try (have c3b1 : decide (a0_0 = a1_0) = false := by simpa using c3))
  (try (have c3b2 : (a0_0 == a1_0) = false := by simpa using c3))
  (try (have c3b3 : ¬ (a0_0 = a1_0) := by simpa using c3))
  clear c3
  obtain rfl := Option.some.inj H
  go_enter Tryz.func34, Tryz.ntmps34
  go_wp2_with (first | ((with_reducible refine gate_dst (N := 2) rfl ?_); refine box_event ?hg (N := 2) ?hd (cs := #[.bool a0_0, .bool a0_1, .bool a0_2, .bool a0_3, .int .i64 a0_4, .int .i64 a0_5, .string a0_6, .string a0_7]) (t := 29) ?hr ?_; (case hd => rfl); (case hg => rfl); (case hr => first | (go_simp; done) | (go_simp; rfl)); intro gb235 hg w45 hbox hb; have n0_ := Aside0.mk (below_step (hb_ HB) hb); have n1_ := Aside0.mk (hbox); have n2_ := Aside0.mk ((by rw [hg]; exact (below_size (hb_ HB)) : w.heap.size ≤ gb235)); have n3_ := Aside0.mk ((by rw [hg]; exact (below_size (hb_ HB)) : w.heap.size ≤ gb235)); clear HB; have HB := n0_; have BK235 := n1_; have GW235 := n2_; have GE235 := n3_; clear n0_ n1_ n2_ n3_; clear hb hbox hg) | ((with_reducible refine gate_dst (N := 3) rfl ?_); refine box_event ?hg (N := 3) ?hd (cs := #[.bool a1_0, .bool a1_1, .bool a1_2, .bool a1_3, .int .i64 a1_4, .int .i64 a1_5, .string a1_6, .string a1_7]) (t := 29) ?hr ?_; (case hd => rfl); (case hg => rfl); (case hr => first | (go_simp; done) | (go_simp; rfl)); intro gb236 hg w46 hbox hb; have n0_ := Aside0.mk (blk_below (bk_ BK235) hb); have n1_ := Aside0.mk (below_step (hb_ HB) hb); have n2_ := Aside0.mk (hbox); have n3_ := Aside0.mk ((by rw [hg]; exact (below_size (hb_ HB)) : w.heap.size ≤ gb236)); have n4_ := Aside0.mk ((by rw [hg]; exact (below_size (hb_ HB)) : w.heap.size ≤ gb236)); have n5_ := Aside0.mk ((by rw [hg]; exact Nat.ne_of_lt (blk_lt (g := gb235) (o := .cells #[.bool a0_0, .bool a0_1, .bool a0_2, .bool a0_3, .int .i64 a0_4, .int .i64 a0_5, .string a0_6, .string a0_7] 29 (0, 0)) (bk_ BK235)) : gb235 ≠ gb236)); have n6_ := Aside0.mk ((by rw [hg]; exact Nat.ne_of_gt (blk_lt (g := gb235) (o := .cells #[.bool a0_0, .bool a0_1, .bool a0_2, .bool a0_3, .int .i64 a0_4, .int .i64 a0_5, .string a0_6, .string a0_7] 29 (0, 0)) (bk_ BK235)) : gb236 ≠ gb235)); clear BK235; clear HB; have BK235 := n0_; have HB := n1_; have BK236 := n2_; have GW236 := n3_; have GE236 := n4_; have NB235_236 := n5_; have NB236_235 := n6_; clear n0_ n1_ n2_ n3_ n4_ n5_ n6_; clear hb hbox hg; have hnb47 := NB235_236.out; have hnc47 := NB236_235.out; have hcz48_0 : w46.cell? ⟨gb235, 0, none⟩ = some (.bool a0_0) := (blk_cell BK235.out 0).trans rfl; have hcz48_1 : w46.cell? ⟨gb235, 1, none⟩ = some (.bool a0_1) := (blk_cell BK235.out 1).trans rfl; have hcz48_2 : w46.cell? ⟨gb235, 2, none⟩ = some (.bool a0_2) := (blk_cell BK235.out 2).trans rfl; have hcz48_3 : w46.cell? ⟨gb235, 3, none⟩ = some (.bool a0_3) := (blk_cell BK235.out 3).trans rfl; have hcz48_4 : w46.cell? ⟨gb235, 4, none⟩ = some (.int .i64 a0_4) := (blk_cell BK235.out 4).trans rfl; have hcz48_5 : w46.cell? ⟨gb235, 5, none⟩ = some (.int .i64 a0_5) := (blk_cell BK235.out 5).trans rfl; have hcz48_6 : w46.cell? ⟨gb235, 6, none⟩ = some (.string a0_6) := (blk_cell BK235.out 6).trans rfl; have hcz48_7 : w46.cell? ⟨gb235, 7, none⟩ = some (.string a0_7) := (blk_cell BK235.out 7).trans rfl; have hfz48_0 := blk_frozen BK235.out 0; have hfz48_1 := blk_frozen BK235.out 1; have hfz48_2 := blk_frozen BK235.out 2; have hfz48_3 := blk_frozen BK235.out 3; have hfz48_4 := blk_frozen BK235.out 4; have hfz48_5 := blk_frozen BK235.out 5; have hfz48_6 := blk_frozen BK235.out 6; have hfz48_7 := blk_frozen BK235.out 7; have hcz49_0 : w46.cell? ⟨gb236, 0, none⟩ = some (.bool a1_0) := (blk_cell BK236.out 0).trans rfl; have hcz49_1 : w46.cell? ⟨gb236, 1, none⟩ = some (.bool a1_1) := (blk_cell BK236.out 1).trans rfl; have hcz49_2 : w46.cell? ⟨gb236, 2, none⟩ = some (.bool a1_2) := (blk_cell BK236.out 2).trans rfl; have hcz49_3 : w46.cell? ⟨gb236, 3, none⟩ = some (.bool a1_3) := (blk_cell BK236.out 3).trans rfl; have hcz49_4 : w46.cell? ⟨gb236, 4, none⟩ = some (.int .i64 a1_4) := (blk_cell BK236.out 4).trans rfl; have hcz49_5 : w46.cell? ⟨gb236, 5, none⟩ = some (.int .i64 a1_5) := (blk_cell BK236.out 5).trans rfl; have hcz49_6 : w46.cell? ⟨gb236, 6, none⟩ = some (.string a1_6) := (blk_cell BK236.out 6).trans rfl; have hcz49_7 : w46.cell? ⟨gb236, 7, none⟩ = some (.string a1_7) := (blk_cell BK236.out 7).trans rfl; have hfz49_0 := blk_frozen BK236.out 0; have hfz49_1 := blk_frozen BK236.out 1; have hfz49_2 := blk_frozen BK236.out 2; have hfz49_3 := blk_frozen BK236.out 3; have hfz49_4 := blk_frozen BK236.out 4; have hfz49_5 := blk_frozen BK236.out 5; have hfz49_6 := blk_frozen BK236.out 6; have hfz49_7 := blk_frozen BK236.out 7))
  go_ret
  exact ⟨by first | rfl | (simp [errW_none, errW_some] <;> rfl) | (simp [*, errW_none, errW_some] <;> rfl) | (simp [bt, *]; done) | (unfold bt; simp [*]; done), by repeat (first | (with_reducible first | exact HB.out | apply below_alloc | apply pw_below_drewN | apply below_drew1 | refine below_set ?_ GE235.out | refine below_set ?_ GE236.out) | exact HB.out)⟩
 rw [if_pos c3] at H
 have c3b0 : (a0_0 == a1_0) = true := c3
 (try (have c3b1 : decide (a0_0 = a1_0) = true := by simpa using c3))
 (try (have c3b2 : (a0_0 == a1_0) = true := by simpa using c3))
 clear c3
 refine neg_first (p := ((a0_1 == a1_1) = true)) (fun c4 => ?_) (fun c4 => ?_)
 ·rw [if_neg c4] at H
  have c4b0 : (a0_1 == a1_1) = false := by simpa using c4
  (try (have c4b1 : decide (a0_1 = a1_1) = false := by simpa using c4))
  (try (have c4b2 : (a0_1 == a1_1) = false := by simpa using c4))
  (try (have c4b3 : ¬ (a0_1 = a1_1) := by simpa using c4))
  clear c4
  obtain rfl := Option.some.inj H
  go_enter Tryz.func34, Tryz.ntmps34
  go_wp2_with (first | ((with_reducible refine gate_dst (N := 2) rfl ?_); refine box_event ?hg (N := 2) ?hd (cs := #[.bool a0_0, .bool a0_1, .bool a0_2, .bool a0_3, .int .i64 a0_4, .int .i64 a0_5, .string a0_6, .string a0_7]) (t := 29) ?hr ?_; (case hd => rfl); (case hg => rfl); (case hr => first | (go_simp; done) | (go_simp; rfl)); intro gb235 hg w40 hbox hb; have n0_ := Aside0.mk (below_step (hb_ HB) hb); have n1_ := Aside0.mk (hbox); have n2_ := Aside0.mk ((by rw [hg]; exact (below_size (hb_ HB)) : w.heap.size ≤ gb235)); have n3_ := Aside0.mk ((by rw [hg]; exact (below_size (hb_ HB)) : w.heap.size ≤ gb235)); clear HB; have HB := n0_; have BK235 := n1_; have GW235 := n2_; have GE235 := n3_; clear n0_ n1_ n2_ n3_; clear hb hbox hg) | ((with_reducible refine gate_dst (N := 3) rfl ?_); refine box_event ?hg (N := 3) ?hd (cs := #[.bool a1_0, .bool a1_1, .bool a1_2, .bool a1_3, .int .i64 a1_4, .int .i64 a1_5, .string a1_6, .string a1_7]) (t := 29) ?hr ?_; (case hd => rfl); (case hg => rfl); (case hr => first | (go_simp; done) | (go_simp; rfl)); intro gb236 hg w41 hbox hb; have n0_ := Aside0.mk (blk_below (bk_ BK235) hb); have n1_ := Aside0.mk (below_step (hb_ HB) hb); have n2_ := Aside0.mk (hbox); have n3_ := Aside0.mk ((by rw [hg]; exact (below_size (hb_ HB)) : w.heap.size ≤ gb236)); have n4_ := Aside0.mk ((by rw [hg]; exact (below_size (hb_ HB)) : w.heap.size ≤ gb236)); have n5_ := Aside0.mk ((by rw [hg]; exact Nat.ne_of_lt (blk_lt (g := gb235) (o := .cells #[.bool a0_0, .bool a0_1, .bool a0_2, .bool a0_3, .int .i64 a0_4, .int .i64 a0_5, .string a0_6, .string a0_7] 29 (0, 0)) (bk_ BK235)) : gb235 ≠ gb236)); have n6_ := Aside0.mk ((by rw [hg]; exact Nat.ne_of_gt (blk_lt (g := gb235) (o := .cells #[.bool a0_0, .bool a0_1, .bool a0_2, .bool a0_3, .int .i64 a0_4, .int .i64 a0_5, .string a0_6, .string a0_7] 29 (0, 0)) (bk_ BK235)) : gb236 ≠ gb235)); clear BK235; clear HB; have BK235 := n0_; have HB := n1_; have BK236 := n2_; have GW236 := n3_; have GE236 := n4_; have NB235_236 := n5_; have NB236_235 := n6_; clear n0_ n1_ n2_ n3_ n4_ n5_ n6_; clear hb hbox hg; have hnb42 := NB235_236.out; have hnc42 := NB236_235.out; have hcz43_0 : w41.cell? ⟨gb235, 0, none⟩ = some (.bool a0_0) := (blk_cell BK235.out 0).trans rfl; have hcz43_1 : w41.cell? ⟨gb235, 1, none⟩ = some (.bool a0_1) := (blk_cell BK235.out 1).trans rfl; have hcz43_2 : w41.cell? ⟨gb235, 2, none⟩ = some (.bool a0_2) := (blk_cell BK235.out 2).trans rfl; have hcz43_3 : w41.cell? ⟨gb235, 3, none⟩ = some (.bool a0_3) := (blk_cell BK235.out 3).trans rfl; have hcz43_4 : w41.cell? ⟨gb235, 4, none⟩ = some (.int .i64 a0_4) := (blk_cell BK235.out 4).trans rfl; have hcz43_5 : w41.cell? ⟨gb235, 5, none⟩ = some (.int .i64 a0_5) := (blk_cell BK235.out 5).trans rfl; have hcz43_6 : w41.cell? ⟨gb235, 6, none⟩ = some (.string a0_6) := (blk_cell BK235.out 6).trans rfl; have hcz43_7 : w41.cell? ⟨gb235, 7, none⟩ = some (.string a0_7) := (blk_cell BK235.out 7).trans rfl; have hfz43_0 := blk_frozen BK235.out 0; have hfz43_1 := blk_frozen BK235.out 1; have hfz43_2 := blk_frozen BK235.out 2; have hfz43_3 := blk_frozen BK235.out 3; have hfz43_4 := blk_frozen BK235.out 4; have hfz43_5 := blk_frozen BK235.out 5; have hfz43_6 := blk_frozen BK235.out 6; have hfz43_7 := blk_frozen BK235.out 7; have hcz44_0 : w41.cell? ⟨gb236, 0, none⟩ = some (.bool a1_0) := (blk_cell BK236.out 0).trans rfl; have hcz44_1 : w41.cell? ⟨gb236, 1, none⟩ = some (.bool a1_1) := (blk_cell BK236.out 1).trans rfl; have hcz44_2 : w41.cell? ⟨gb236, 2, none⟩ = some (.bool a1_2) := (blk_cell BK236.out 2).trans rfl; have hcz44_3 : w41.cell? ⟨gb236, 3, none⟩ = some (.bool a1_3) := (blk_cell BK236.out 3).trans rfl; have hcz44_4 : w41.cell? ⟨gb236, 4, none⟩ = some (.int .i64 a1_4) := (blk_cell BK236.out 4).trans rfl; have hcz44_5 : w41.cell? ⟨gb236, 5, none⟩ = some (.int .i64 a1_5) := (blk_cell BK236.out 5).trans rfl; have hcz44_6 : w41.cell? ⟨gb236, 6, none⟩ = some (.string a1_6) := (blk_cell BK236.out 6).trans rfl; have hcz44_7 : w41.cell? ⟨gb236, 7, none⟩ = some (.string a1_7) := (blk_cell BK236.out 7).trans rfl; have hfz44_0 := blk_frozen BK236.out 0; have hfz44_1 := blk_frozen BK236.out 1; have hfz44_2 := blk_frozen BK236.out 2; have hfz44_3 := blk_frozen BK236.out 3; have hfz44_4 := blk_frozen BK236.out 4; have hfz44_5 := blk_frozen BK236.out 5; have hfz44_6 := blk_frozen BK236.out 6; have hfz44_7 := blk_frozen BK236.out 7))
  go_ret
  exact ⟨by first | rfl | (simp [errW_none, errW_some] <;> rfl) | (simp [*, errW_none, errW_some] <;> rfl) | (simp [bt, *]; done) | (unfold bt; simp [*]; done), by repeat (first | (with_reducible first | exact HB.out | apply below_alloc | apply pw_below_drewN | apply below_drew1 | refine below_set ?_ GE235.out | refine below_set ?_ GE236.out) | exact HB.out)⟩
 rw [if_pos c4] at H
 have c4b0 : (a0_1 == a1_1) = true := c4
 (try (have c4b1 : decide (a0_1 = a1_1) = true := by simpa using c4))
 (try (have c4b2 : (a0_1 == a1_1) = true := by simpa using c4))
 clear c4
 refine neg_first (p := ((a0_2 == a1_2) = true)) (fun c5 => ?_) (fun c5 => ?_)
 ·rw [if_neg c5] at H
  have c5b0 : (a0_2 == a1_2) = false := by simpa using c5
  (try (have c5b1 : decide (a0_2 = a1_2) = false := by simpa using c5))
  (try (have c5b2 : (a0_2 == a1_2) = false := by simpa using c5))
  (try (have c5b3 : ¬ (a0_2 = a1_2) := by simpa using c5))
  clear c5
  obtain rfl := Option.some.inj H
  go_enter Tryz.func34, Tryz.ntmps34
  go_wp2_with (first | ((with_reducible refine gate_dst (N := 2) rfl ?_); refine box_event ?hg (N := 2) ?hd (cs := #[.bool a0_0, .bool a0_1, .bool a0_2, .bool a0_3, .int .i64 a0_4, .int .i64 a0_5, .string a0_6, .string a0_7]) (t := 29) ?hr ?_; (case hd => rfl); (case hg => rfl); (case hr => first | (go_simp; done) | (go_simp; rfl)); intro gb235 hg w35 hbox hb; have n0_ := Aside0.mk (below_step (hb_ HB) hb); have n1_ := Aside0.mk (hbox); have n2_ := Aside0.mk ((by rw [hg]; exact (below_size (hb_ HB)) : w.heap.size ≤ gb235)); have n3_ := Aside0.mk ((by rw [hg]; exact (below_size (hb_ HB)) : w.heap.size ≤ gb235)); clear HB; have HB := n0_; have BK235 := n1_; have GW235 := n2_; have GE235 := n3_; clear n0_ n1_ n2_ n3_; clear hb hbox hg) | ((with_reducible refine gate_dst (N := 3) rfl ?_); refine box_event ?hg (N := 3) ?hd (cs := #[.bool a1_0, .bool a1_1, .bool a1_2, .bool a1_3, .int .i64 a1_4, .int .i64 a1_5, .string a1_6, .string a1_7]) (t := 29) ?hr ?_; (case hd => rfl); (case hg => rfl); (case hr => first | (go_simp; done) | (go_simp; rfl)); intro gb236 hg w36 hbox hb; have n0_ := Aside0.mk (blk_below (bk_ BK235) hb); have n1_ := Aside0.mk (below_step (hb_ HB) hb); have n2_ := Aside0.mk (hbox); have n3_ := Aside0.mk ((by rw [hg]; exact (below_size (hb_ HB)) : w.heap.size ≤ gb236)); have n4_ := Aside0.mk ((by rw [hg]; exact (below_size (hb_ HB)) : w.heap.size ≤ gb236)); have n5_ := Aside0.mk ((by rw [hg]; exact Nat.ne_of_lt (blk_lt (g := gb235) (o := .cells #[.bool a0_0, .bool a0_1, .bool a0_2, .bool a0_3, .int .i64 a0_4, .int .i64 a0_5, .string a0_6, .string a0_7] 29 (0, 0)) (bk_ BK235)) : gb235 ≠ gb236)); have n6_ := Aside0.mk ((by rw [hg]; exact Nat.ne_of_gt (blk_lt (g := gb235) (o := .cells #[.bool a0_0, .bool a0_1, .bool a0_2, .bool a0_3, .int .i64 a0_4, .int .i64 a0_5, .string a0_6, .string a0_7] 29 (0, 0)) (bk_ BK235)) : gb236 ≠ gb235)); clear BK235; clear HB; have BK235 := n0_; have HB := n1_; have BK236 := n2_; have GW236 := n3_; have GE236 := n4_; have NB235_236 := n5_; have NB236_235 := n6_; clear n0_ n1_ n2_ n3_ n4_ n5_ n6_; clear hb hbox hg; have hnb37 := NB235_236.out; have hnc37 := NB236_235.out; have hcz38_0 : w36.cell? ⟨gb235, 0, none⟩ = some (.bool a0_0) := (blk_cell BK235.out 0).trans rfl; have hcz38_1 : w36.cell? ⟨gb235, 1, none⟩ = some (.bool a0_1) := (blk_cell BK235.out 1).trans rfl; have hcz38_2 : w36.cell? ⟨gb235, 2, none⟩ = some (.bool a0_2) := (blk_cell BK235.out 2).trans rfl; have hcz38_3 : w36.cell? ⟨gb235, 3, none⟩ = some (.bool a0_3) := (blk_cell BK235.out 3).trans rfl; have hcz38_4 : w36.cell? ⟨gb235, 4, none⟩ = some (.int .i64 a0_4) := (blk_cell BK235.out 4).trans rfl; have hcz38_5 : w36.cell? ⟨gb235, 5, none⟩ = some (.int .i64 a0_5) := (blk_cell BK235.out 5).trans rfl; have hcz38_6 : w36.cell? ⟨gb235, 6, none⟩ = some (.string a0_6) := (blk_cell BK235.out 6).trans rfl; have hcz38_7 : w36.cell? ⟨gb235, 7, none⟩ = some (.string a0_7) := (blk_cell BK235.out 7).trans rfl; have hfz38_0 := blk_frozen BK235.out 0; have hfz38_1 := blk_frozen BK235.out 1; have hfz38_2 := blk_frozen BK235.out 2; have hfz38_3 := blk_frozen BK235.out 3; have hfz38_4 := blk_frozen BK235.out 4; have hfz38_5 := blk_frozen BK235.out 5; have hfz38_6 := blk_frozen BK235.out 6; have hfz38_7 := blk_frozen BK235.out 7; have hcz39_0 : w36.cell? ⟨gb236, 0, none⟩ = some (.bool a1_0) := (blk_cell BK236.out 0).trans rfl; have hcz39_1 : w36.cell? ⟨gb236, 1, none⟩ = some (.bool a1_1) := (blk_cell BK236.out 1).trans rfl; have hcz39_2 : w36.cell? ⟨gb236, 2, none⟩ = some (.bool a1_2) := (blk_cell BK236.out 2).trans rfl; have hcz39_3 : w36.cell? ⟨gb236, 3, none⟩ = some (.bool a1_3) := (blk_cell BK236.out 3).trans rfl; have hcz39_4 : w36.cell? ⟨gb236, 4, none⟩ = some (.int .i64 a1_4) := (blk_cell BK236.out 4).trans rfl; have hcz39_5 : w36.cell? ⟨gb236, 5, none⟩ = some (.int .i64 a1_5) := (blk_cell BK236.out 5).trans rfl; have hcz39_6 : w36.cell? ⟨gb236, 6, none⟩ = some (.string a1_6) := (blk_cell BK236.out 6).trans rfl; have hcz39_7 : w36.cell? ⟨gb236, 7, none⟩ = some (.string a1_7) := (blk_cell BK236.out 7).trans rfl; have hfz39_0 := blk_frozen BK236.out 0; have hfz39_1 := blk_frozen BK236.out 1; have hfz39_2 := blk_frozen BK236.out 2; have hfz39_3 := blk_frozen BK236.out 3; have hfz39_4 := blk_frozen BK236.out 4; have hfz39_5 := blk_frozen BK236.out 5; have hfz39_6 := blk_frozen BK236.out 6; have hfz39_7 := blk_frozen BK236.out 7))
  go_ret
  exact ⟨by first | rfl | (simp [errW_none, errW_some] <;> rfl) | (simp [*, errW_none, errW_some] <;> rfl) | (simp [bt, *]; done) | (unfold bt; simp [*]; done), by repeat (first | (with_reducible first | exact HB.out | apply below_alloc | apply pw_below_drewN | apply below_drew1 | refine below_set ?_ GE235.out | refine below_set ?_ GE236.out) | exact HB.out)⟩
 rw [if_pos c5] at H
 have c5b0 : (a0_2 == a1_2) = true := c5
 (try (have c5b1 : decide (a0_2 = a1_2) = true := by simpa using c5))
 (try (have c5b2 : (a0_2 == a1_2) = true := by simpa using c5))
 clear c5
 refine neg_first (p := ((a0_3 == a1_3) = true)) (fun c6 => ?_) (fun c6 => ?_)
 ·rw [if_neg c6] at H
  have c6b0 : (a0_3 == a1_3) = false := by simpa using c6
  (try (have c6b1 : decide (a0_3 = a1_3) = false := by simpa using c6))
  (try (have c6b2 : (a0_3 == a1_3) = false := by simpa using c6))
  (try (have c6b3 : ¬ (a0_3 = a1_3) := by simpa using c6))
  clear c6
  obtain rfl := Option.some.inj H
  go_enter Tryz.func34, Tryz.ntmps34
  go_wp2_with (first | ((with_reducible refine gate_dst (N := 2) rfl ?_); refine box_event ?hg (N := 2) ?hd (cs := #[.bool a0_0, .bool a0_1, .bool a0_2, .bool a0_3, .int .i64 a0_4, .int .i64 a0_5, .string a0_6, .string a0_7]) (t := 29) ?hr ?_; (case hd => rfl); (case hg => rfl); (case hr => first | (go_simp; done) | (go_simp; rfl)); intro gb235 hg w30 hbox hb; have n0_ := Aside0.mk (below_step (hb_ HB) hb); have n1_ := Aside0.mk (hbox); have n2_ := Aside0.mk ((by rw [hg]; exact (below_size (hb_ HB)) : w.heap.size ≤ gb235)); have n3_ := Aside0.mk ((by rw [hg]; exact (below_size (hb_ HB)) : w.heap.size ≤ gb235)); clear HB; have HB := n0_; have BK235 := n1_; have GW235 := n2_; have GE235 := n3_; clear n0_ n1_ n2_ n3_; clear hb hbox hg) | ((with_reducible refine gate_dst (N := 3) rfl ?_); refine box_event ?hg (N := 3) ?hd (cs := #[.bool a1_0, .bool a1_1, .bool a1_2, .bool a1_3, .int .i64 a1_4, .int .i64 a1_5, .string a1_6, .string a1_7]) (t := 29) ?hr ?_; (case hd => rfl); (case hg => rfl); (case hr => first | (go_simp; done) | (go_simp; rfl)); intro gb236 hg w31 hbox hb; have n0_ := Aside0.mk (blk_below (bk_ BK235) hb); have n1_ := Aside0.mk (below_step (hb_ HB) hb); have n2_ := Aside0.mk (hbox); have n3_ := Aside0.mk ((by rw [hg]; exact (below_size (hb_ HB)) : w.heap.size ≤ gb236)); have n4_ := Aside0.mk ((by rw [hg]; exact (below_size (hb_ HB)) : w.heap.size ≤ gb236)); have n5_ := Aside0.mk ((by rw [hg]; exact Nat.ne_of_lt (blk_lt (g := gb235) (o := .cells #[.bool a0_0, .bool a0_1, .bool a0_2, .bool a0_3, .int .i64 a0_4, .int .i64 a0_5, .string a0_6, .string a0_7] 29 (0, 0)) (bk_ BK235)) : gb235 ≠ gb236)); have n6_ := Aside0.mk ((by rw [hg]; exact Nat.ne_of_gt (blk_lt (g := gb235) (o := .cells #[.bool a0_0, .bool a0_1, .bool a0_2, .bool a0_3, .int .i64 a0_4, .int .i64 a0_5, .string a0_6, .string a0_7] 29 (0, 0)) (bk_ BK235)) : gb236 ≠ gb235)); clear BK235; clear HB; have BK235 := n0_; have HB := n1_; have BK236 := n2_; have GW236 := n3_; have GE236 := n4_; have NB235_236 := n5_; have NB236_235 := n6_; clear n0_ n1_ n2_ n3_ n4_ n5_ n6_; clear hb hbox hg; have hnb32 := NB235_236.out; have hnc32 := NB236_235.out; have hcz33_0 : w31.cell? ⟨gb235, 0, none⟩ = some (.bool a0_0) := (blk_cell BK235.out 0).trans rfl; have hcz33_1 : w31.cell? ⟨gb235, 1, none⟩ = some (.bool a0_1) := (blk_cell BK235.out 1).trans rfl; have hcz33_2 : w31.cell? ⟨gb235, 2, none⟩ = some (.bool a0_2) := (blk_cell BK235.out 2).trans rfl; have hcz33_3 : w31.cell? ⟨gb235, 3, none⟩ = some (.bool a0_3) := (blk_cell BK235.out 3).trans rfl; have hcz33_4 : w31.cell? ⟨gb235, 4, none⟩ = some (.int .i64 a0_4) := (blk_cell BK235.out 4).trans rfl; have hcz33_5 : w31.cell? ⟨gb235, 5, none⟩ = some (.int .i64 a0_5) := (blk_cell BK235.out 5).trans rfl; have hcz33_6 : w31.cell? ⟨gb235, 6, none⟩ = some (.string a0_6) := (blk_cell BK235.out 6).trans rfl; have hcz33_7 : w31.cell? ⟨gb235, 7, none⟩ = some (.string a0_7) := (blk_cell BK235.out 7).trans rfl; have hfz33_0 := blk_frozen BK235.out 0; have hfz33_1 := blk_frozen BK235.out 1; have hfz33_2 := blk_frozen BK235.out 2; have hfz33_3 := blk_frozen BK235.out 3; have hfz33_4 := blk_frozen BK235.out 4; have hfz33_5 := blk_frozen BK235.out 5; have hfz33_6 := blk_frozen BK235.out 6; have hfz33_7 := blk_frozen BK235.out 7; have hcz34_0 : w31.cell? ⟨gb236, 0, none⟩ = some (.bool a1_0) := (blk_cell BK236.out 0).trans rfl; have hcz34_1 : w31.cell? ⟨gb236, 1, none⟩ = some (.bool a1_1) := (blk_cell BK236.out 1).trans rfl; have hcz34_2 : w31.cell? ⟨gb236, 2, none⟩ = some (.bool a1_2) := (blk_cell BK236.out 2).trans rfl; have hcz34_3 : w31.cell? ⟨gb236, 3, none⟩ = some (.bool a1_3) := (blk_cell BK236.out 3).trans rfl; have hcz34_4 : w31.cell? ⟨gb236, 4, none⟩ = some (.int .i64 a1_4) := (blk_cell BK236.out 4).trans rfl; have hcz34_5 : w31.cell? ⟨gb236, 5, none⟩ = some (.int .i64 a1_5) := (blk_cell BK236.out 5).trans rfl; have hcz34_6 : w31.cell? ⟨gb236, 6, none⟩ = some (.string a1_6) := (blk_cell BK236.out 6).trans rfl; have hcz34_7 : w31.cell? ⟨gb236, 7, none⟩ = some (.string a1_7) := (blk_cell BK236.out 7).trans rfl; have hfz34_0 := blk_frozen BK236.out 0; have hfz34_1 := blk_frozen BK236.out 1; have hfz34_2 := blk_frozen BK236.out 2; have hfz34_3 := blk_frozen BK236.out 3; have hfz34_4 := blk_frozen BK236.out 4; have hfz34_5 := blk_frozen BK236.out 5; have hfz34_6 := blk_frozen BK236.out 6; have hfz34_7 := blk_frozen BK236.out 7))
  go_ret
  exact ⟨by first | rfl | (simp [errW_none, errW_some] <;> rfl) | (simp [*, errW_none, errW_some] <;> rfl) | (simp [bt, *]; done) | (unfold bt; simp [*]; done), by repeat (first | (with_reducible first | exact HB.out | apply below_alloc | apply pw_below_drewN | apply below_drew1 | refine below_set ?_ GE235.out | refine below_set ?_ GE236.out) | exact HB.out)⟩
 rw [if_pos c6] at H
 have c6b0 : (a0_3 == a1_3) = true := c6
 (try (have c6b1 : decide (a0_3 = a1_3) = true := by simpa using c6))
 (try (have c6b2 : (a0_3 == a1_3) = true := by simpa using c6))
 clear c6
 refine neg_first (p := (a0_4 = a1_4)) (fun c7 => ?_) (fun c7 => ?_)
 ·rw [if_neg c7] at H
  have c7b0 : (a0_4 == a1_4) = false := beq_eq_false_iff_ne.mpr c7
  have c7b1 : (a0_4 != a1_4) = true := bne_iff_ne.mpr c7
  obtain rfl := Option.some.inj H
  go_enter Tryz.func34, Tryz.ntmps34
  go_wp2_with (first | ((with_reducible refine gate_dst (N := 2) rfl ?_); refine box_event ?hg (N := 2) ?hd (cs := #[.bool a0_0, .bool a0_1, .bool a0_2, .bool a0_3, .int .i64 a0_4, .int .i64 a0_5, .string a0_6, .string a0_7]) (t := 29) ?hr ?_; (case hd => rfl); (case hg => rfl); (case hr => first | (go_simp; done) | (go_simp; rfl)); intro gb235 hg w25 hbox hb; have n0_ := Aside0.mk (below_step (hb_ HB) hb); have n1_ := Aside0.mk (hbox); have n2_ := Aside0.mk ((by rw [hg]; exact (below_size (hb_ HB)) : w.heap.size ≤ gb235)); have n3_ := Aside0.mk ((by rw [hg]; exact (below_size (hb_ HB)) : w.heap.size ≤ gb235)); clear HB; have HB := n0_; have BK235 := n1_; have GW235 := n2_; have GE235 := n3_; clear n0_ n1_ n2_ n3_; clear hb hbox hg) | ((with_reducible refine gate_dst (N := 3) rfl ?_); refine box_event ?hg (N := 3) ?hd (cs := #[.bool a1_0, .bool a1_1, .bool a1_2, .bool a1_3, .int .i64 a1_4, .int .i64 a1_5, .string a1_6, .string a1_7]) (t := 29) ?hr ?_; (case hd => rfl); (case hg => rfl); (case hr => first | (go_simp; done) | (go_simp; rfl)); intro gb236 hg w26 hbox hb; have n0_ := Aside0.mk (blk_below (bk_ BK235) hb); have n1_ := Aside0.mk (below_step (hb_ HB) hb); have n2_ := Aside0.mk (hbox); have n3_ := Aside0.mk ((by rw [hg]; exact (below_size (hb_ HB)) : w.heap.size ≤ gb236)); have n4_ := Aside0.mk ((by rw [hg]; exact (below_size (hb_ HB)) : w.heap.size ≤ gb236)); have n5_ := Aside0.mk ((by rw [hg]; exact Nat.ne_of_lt (blk_lt (g := gb235) (o := .cells #[.bool a0_0, .bool a0_1, .bool a0_2, .bool a0_3, .int .i64 a0_4, .int .i64 a0_5, .string a0_6, .string a0_7] 29 (0, 0)) (bk_ BK235)) : gb235 ≠ gb236)); have n6_ := Aside0.mk ((by rw [hg]; exact Nat.ne_of_gt (blk_lt (g := gb235) (o := .cells #[.bool a0_0, .bool a0_1, .bool a0_2, .bool a0_3, .int .i64 a0_4, .int .i64 a0_5, .string a0_6, .string a0_7] 29 (0, 0)) (bk_ BK235)) : gb236 ≠ gb235)); clear BK235; clear HB; have BK235 := n0_; have HB := n1_; have BK236 := n2_; have GW236 := n3_; have GE236 := n4_; have NB235_236 := n5_; have NB236_235 := n6_; clear n0_ n1_ n2_ n3_ n4_ n5_ n6_; clear hb hbox hg; have hnb27 := NB235_236.out; have hnc27 := NB236_235.out; have hcz28_0 : w26.cell? ⟨gb235, 0, none⟩ = some (.bool a0_0) := (blk_cell BK235.out 0).trans rfl; have hcz28_1 : w26.cell? ⟨gb235, 1, none⟩ = some (.bool a0_1) := (blk_cell BK235.out 1).trans rfl; have hcz28_2 : w26.cell? ⟨gb235, 2, none⟩ = some (.bool a0_2) := (blk_cell BK235.out 2).trans rfl; have hcz28_3 : w26.cell? ⟨gb235, 3, none⟩ = some (.bool a0_3) := (blk_cell BK235.out 3).trans rfl; have hcz28_4 : w26.cell? ⟨gb235, 4, none⟩ = some (.int .i64 a0_4) := (blk_cell BK235.out 4).trans rfl; have hcz28_5 : w26.cell? ⟨gb235, 5, none⟩ = some (.int .i64 a0_5) := (blk_cell BK235.out 5).trans rfl; have hcz28_6 : w26.cell? ⟨gb235, 6, none⟩ = some (.string a0_6) := (blk_cell BK235.out 6).trans rfl; have hcz28_7 : w26.cell? ⟨gb235, 7, none⟩ = some (.string a0_7) := (blk_cell BK235.out 7).trans rfl; have hfz28_0 := blk_frozen BK235.out 0; have hfz28_1 := blk_frozen BK235.out 1; have hfz28_2 := blk_frozen BK235.out 2; have hfz28_3 := blk_frozen BK235.out 3; have hfz28_4 := blk_frozen BK235.out 4; have hfz28_5 := blk_frozen BK235.out 5; have hfz28_6 := blk_frozen BK235.out 6; have hfz28_7 := blk_frozen BK235.out 7; have hcz29_0 : w26.cell? ⟨gb236, 0, none⟩ = some (.bool a1_0) := (blk_cell BK236.out 0).trans rfl; have hcz29_1 : w26.cell? ⟨gb236, 1, none⟩ = some (.bool a1_1) := (blk_cell BK236.out 1).trans rfl; have hcz29_2 : w26.cell? ⟨gb236, 2, none⟩ = some (.bool a1_2) := (blk_cell BK236.out 2).trans rfl; have hcz29_3 : w26.cell? ⟨gb236, 3, none⟩ = some (.bool a1_3) := (blk_cell BK236.out 3).trans rfl; have hcz29_4 : w26.cell? ⟨gb236, 4, none⟩ = some (.int .i64 a1_4) := (blk_cell BK236.out 4).trans rfl; have hcz29_5 : w26.cell? ⟨gb236, 5, none⟩ = some (.int .i64 a1_5) := (blk_cell BK236.out 5).trans rfl; have hcz29_6 : w26.cell? ⟨gb236, 6, none⟩ = some (.string a1_6) := (blk_cell BK236.out 6).trans rfl; have hcz29_7 : w26.cell? ⟨gb236, 7, none⟩ = some (.string a1_7) := (blk_cell BK236.out 7).trans rfl; have hfz29_0 := blk_frozen BK236.out 0; have hfz29_1 := blk_frozen BK236.out 1; have hfz29_2 := blk_frozen BK236.out 2; have hfz29_3 := blk_frozen BK236.out 3; have hfz29_4 := blk_frozen BK236.out 4; have hfz29_5 := blk_frozen BK236.out 5; have hfz29_6 := blk_frozen BK236.out 6; have hfz29_7 := blk_frozen BK236.out 7))
  go_ret
  exact ⟨by first | rfl | (simp [errW_none, errW_some] <;> rfl) | (simp [*, errW_none, errW_some] <;> rfl) | (simp [bt, *]; done) | (unfold bt; simp [*]; done), by repeat (first | (with_reducible first | exact HB.out | apply below_alloc | apply pw_below_drewN | apply below_drew1 | refine below_set ?_ GE235.out | refine below_set ?_ GE236.out) | exact HB.out)⟩
 rw [if_pos c7] at H
 have c7b0 : (a0_4 == a1_4) = true := beq_iff_eq.mpr c7
 have c7b1 : (a0_4 != a1_4) = false := bne_eq_false_iff_eq.mpr c7
 clear c7
 refine neg_first (p := (a0_5 = a1_5)) (fun c8 => ?_) (fun c8 => ?_)
 ·rw [if_neg c8] at H
  have c8b0 : (a0_5 == a1_5) = false := beq_eq_false_iff_ne.mpr c8
  have c8b1 : (a0_5 != a1_5) = true := bne_iff_ne.mpr c8
  obtain rfl := Option.some.inj H
  go_enter Tryz.func34, Tryz.ntmps34
  go_wp2_with (first | ((with_reducible refine gate_dst (N := 2) rfl ?_); refine box_event ?hg (N := 2) ?hd (cs := #[.bool a0_0, .bool a0_1, .bool a0_2, .bool a0_3, .int .i64 a0_4, .int .i64 a0_5, .string a0_6, .string a0_7]) (t := 29) ?hr ?_; (case hd => rfl); (case hg => rfl); (case hr => first | (go_simp; done) | (go_simp; rfl)); intro gb235 hg w20 hbox hb; have n0_ := Aside0.mk (below_step (hb_ HB) hb); have n1_ := Aside0.mk (hbox); have n2_ := Aside0.mk ((by rw [hg]; exact (below_size (hb_ HB)) : w.heap.size ≤ gb235)); have n3_ := Aside0.mk ((by rw [hg]; exact (below_size (hb_ HB)) : w.heap.size ≤ gb235)); clear HB; have HB := n0_; have BK235 := n1_; have GW235 := n2_; have GE235 := n3_; clear n0_ n1_ n2_ n3_; clear hb hbox hg) | ((with_reducible refine gate_dst (N := 3) rfl ?_); refine box_event ?hg (N := 3) ?hd (cs := #[.bool a1_0, .bool a1_1, .bool a1_2, .bool a1_3, .int .i64 a1_4, .int .i64 a1_5, .string a1_6, .string a1_7]) (t := 29) ?hr ?_; (case hd => rfl); (case hg => rfl); (case hr => first | (go_simp; done) | (go_simp; rfl)); intro gb236 hg w21 hbox hb; have n0_ := Aside0.mk (blk_below (bk_ BK235) hb); have n1_ := Aside0.mk (below_step (hb_ HB) hb); have n2_ := Aside0.mk (hbox); have n3_ := Aside0.mk ((by rw [hg]; exact (below_size (hb_ HB)) : w.heap.size ≤ gb236)); have n4_ := Aside0.mk ((by rw [hg]; exact (below_size (hb_ HB)) : w.heap.size ≤ gb236)); have n5_ := Aside0.mk ((by rw [hg]; exact Nat.ne_of_lt (blk_lt (g := gb235) (o := .cells #[.bool a0_0, .bool a0_1, .bool a0_2, .bool a0_3, .int .i64 a0_4, .int .i64 a0_5, .string a0_6, .string a0_7] 29 (0, 0)) (bk_ BK235)) : gb235 ≠ gb236)); have n6_ := Aside0.mk ((by rw [hg]; exact Nat.ne_of_gt (blk_lt (g := gb235) (o := .cells #[.bool a0_0, .bool a0_1, .bool a0_2, .bool a0_3, .int .i64 a0_4, .int .i64 a0_5, .string a0_6, .string a0_7] 29 (0, 0)) (bk_ BK235)) : gb236 ≠ gb235)); clear BK235; clear HB; have BK235 := n0_; have HB := n1_; have BK236 := n2_; have GW236 := n3_; have GE236 := n4_; have NB235_236 := n5_; have NB236_235 := n6_; clear n0_ n1_ n2_ n3_ n4_ n5_ n6_; clear hb hbox hg; have hnb22 := NB235_236.out; have hnc22 := NB236_235.out; have hcz23_0 : w21.cell? ⟨gb235, 0, none⟩ = some (.bool a0_0) := (blk_cell BK235.out 0).trans rfl; have hcz23_1 : w21.cell? ⟨gb235, 1, none⟩ = some (.bool a0_1) := (blk_cell BK235.out 1).trans rfl; have hcz23_2 : w21.cell? ⟨gb235, 2, none⟩ = some (.bool a0_2) := (blk_cell BK235.out 2).trans rfl; have hcz23_3 : w21.cell? ⟨gb235, 3, none⟩ = some (.bool a0_3) := (blk_cell BK235.out 3).trans rfl; have hcz23_4 : w21.cell? ⟨gb235, 4, none⟩ = some (.int .i64 a0_4) := (blk_cell BK235.out 4).trans rfl; have hcz23_5 : w21.cell? ⟨gb235, 5, none⟩ = some (.int .i64 a0_5) := (blk_cell BK235.out 5).trans rfl; have hcz23_6 : w21.cell? ⟨gb235, 6, none⟩ = some (.string a0_6) := (blk_cell BK235.out 6).trans rfl; have hcz23_7 : w21.cell? ⟨gb235, 7, none⟩ = some (.string a0_7) := (blk_cell BK235.out 7).trans rfl; have hfz23_0 := blk_frozen BK235.out 0; have hfz23_1 := blk_frozen BK235.out 1; have hfz23_2 := blk_frozen BK235.out 2; have hfz23_3 := blk_frozen BK235.out 3; have hfz23_4 := blk_frozen BK235.out 4; have hfz23_5 := blk_frozen BK235.out 5; have hfz23_6 := blk_frozen BK235.out 6; have hfz23_7 := blk_frozen BK235.out 7; have hcz24_0 : w21.cell? ⟨gb236, 0, none⟩ = some (.bool a1_0) := (blk_cell BK236.out 0).trans rfl; have hcz24_1 : w21.cell? ⟨gb236, 1, none⟩ = some (.bool a1_1) := (blk_cell BK236.out 1).trans rfl; have hcz24_2 : w21.cell? ⟨gb236, 2, none⟩ = some (.bool a1_2) := (blk_cell BK236.out 2).trans rfl; have hcz24_3 : w21.cell? ⟨gb236, 3, none⟩ = some (.bool a1_3) := (blk_cell BK236.out 3).trans rfl; have hcz24_4 : w21.cell? ⟨gb236, 4, none⟩ = some (.int .i64 a1_4) := (blk_cell BK236.out 4).trans rfl; have hcz24_5 : w21.cell? ⟨gb236, 5, none⟩ = some (.int .i64 a1_5) := (blk_cell BK236.out 5).trans rfl; have hcz24_6 : w21.cell? ⟨gb236, 6, none⟩ = some (.string a1_6) := (blk_cell BK236.out 6).trans rfl; have hcz24_7 : w21.cell? ⟨gb236, 7, none⟩ = some (.string a1_7) := (blk_cell BK236.out 7).trans rfl; have hfz24_0 := blk_frozen BK236.out 0; have hfz24_1 := blk_frozen BK236.out 1; have hfz24_2 := blk_frozen BK236.out 2; have hfz24_3 := blk_frozen BK236.out 3; have hfz24_4 := blk_frozen BK236.out 4; have hfz24_5 := blk_frozen BK236.out 5; have hfz24_6 := blk_frozen BK236.out 6; have hfz24_7 := blk_frozen BK236.out 7))
  go_ret
  exact ⟨by first | rfl | (simp [errW_none, errW_some] <;> rfl) | (simp [*, errW_none, errW_some] <;> rfl) | (simp [bt, *]; done) | (unfold bt; simp [*]; done), by repeat (first | (with_reducible first | exact HB.out | apply below_alloc | apply pw_below_drewN | apply below_drew1 | refine below_set ?_ GE235.out | refine below_set ?_ GE236.out) | exact HB.out)⟩
 rw [if_pos c8] at H
 have c8b0 : (a0_5 == a1_5) = true := beq_iff_eq.mpr c8
 have c8b1 : (a0_5 != a1_5) = false := bne_eq_false_iff_eq.mpr c8
 clear c8
 refine neg_first (p := (a0_6.toList = a1_6.toList)) (fun c9 => ?_) (fun c9 => ?_)
 ·rw [if_neg c9] at H
  have c9b0 : (a0_6.toList == a1_6.toList) = false := beq_eq_false_iff_ne.mpr c9
  have c9b1 : (a0_6.toList != a1_6.toList) = true := bne_iff_ne.mpr c9
  obtain rfl := Option.some.inj H
  go_enter Tryz.func34, Tryz.ntmps34
  go_wp2_with (first | ((with_reducible refine gate_dst (N := 2) rfl ?_); refine box_event ?hg (N := 2) ?hd (cs := #[.bool a0_0, .bool a0_1, .bool a0_2, .bool a0_3, .int .i64 a0_4, .int .i64 a0_5, .string a0_6, .string a0_7]) (t := 29) ?hr ?_; (case hd => rfl); (case hg => rfl); (case hr => first | (go_simp; done) | (go_simp; rfl)); intro gb235 hg w15 hbox hb; have n0_ := Aside0.mk (below_step (hb_ HB) hb); have n1_ := Aside0.mk (hbox); have n2_ := Aside0.mk ((by rw [hg]; exact (below_size (hb_ HB)) : w.heap.size ≤ gb235)); have n3_ := Aside0.mk ((by rw [hg]; exact (below_size (hb_ HB)) : w.heap.size ≤ gb235)); clear HB; have HB := n0_; have BK235 := n1_; have GW235 := n2_; have GE235 := n3_; clear n0_ n1_ n2_ n3_; clear hb hbox hg) | ((with_reducible refine gate_dst (N := 3) rfl ?_); refine box_event ?hg (N := 3) ?hd (cs := #[.bool a1_0, .bool a1_1, .bool a1_2, .bool a1_3, .int .i64 a1_4, .int .i64 a1_5, .string a1_6, .string a1_7]) (t := 29) ?hr ?_; (case hd => rfl); (case hg => rfl); (case hr => first | (go_simp; done) | (go_simp; rfl)); intro gb236 hg w16 hbox hb; have n0_ := Aside0.mk (blk_below (bk_ BK235) hb); have n1_ := Aside0.mk (below_step (hb_ HB) hb); have n2_ := Aside0.mk (hbox); have n3_ := Aside0.mk ((by rw [hg]; exact (below_size (hb_ HB)) : w.heap.size ≤ gb236)); have n4_ := Aside0.mk ((by rw [hg]; exact (below_size (hb_ HB)) : w.heap.size ≤ gb236)); have n5_ := Aside0.mk ((by rw [hg]; exact Nat.ne_of_lt (blk_lt (g := gb235) (o := .cells #[.bool a0_0, .bool a0_1, .bool a0_2, .bool a0_3, .int .i64 a0_4, .int .i64 a0_5, .string a0_6, .string a0_7] 29 (0, 0)) (bk_ BK235)) : gb235 ≠ gb236)); have n6_ := Aside0.mk ((by rw [hg]; exact Nat.ne_of_gt (blk_lt (g := gb235) (o := .cells #[.bool a0_0, .bool a0_1, .bool a0_2, .bool a0_3, .int .i64 a0_4, .int .i64 a0_5, .string a0_6, .string a0_7] 29 (0, 0)) (bk_ BK235)) : gb236 ≠ gb235)); clear BK235; clear HB; have BK235 := n0_; have HB := n1_; have BK236 := n2_; have GW236 := n3_; have GE236 := n4_; have NB235_236 := n5_; have NB236_235 := n6_; clear n0_ n1_ n2_ n3_ n4_ n5_ n6_; clear hb hbox hg; have hnb17 := NB235_236.out; have hnc17 := NB236_235.out; have hcz18_0 : w16.cell? ⟨gb235, 0, none⟩ = some (.bool a0_0) := (blk_cell BK235.out 0).trans rfl; have hcz18_1 : w16.cell? ⟨gb235, 1, none⟩ = some (.bool a0_1) := (blk_cell BK235.out 1).trans rfl; have hcz18_2 : w16.cell? ⟨gb235, 2, none⟩ = some (.bool a0_2) := (blk_cell BK235.out 2).trans rfl; have hcz18_3 : w16.cell? ⟨gb235, 3, none⟩ = some (.bool a0_3) := (blk_cell BK235.out 3).trans rfl; have hcz18_4 : w16.cell? ⟨gb235, 4, none⟩ = some (.int .i64 a0_4) := (blk_cell BK235.out 4).trans rfl; have hcz18_5 : w16.cell? ⟨gb235, 5, none⟩ = some (.int .i64 a0_5) := (blk_cell BK235.out 5).trans rfl; have hcz18_6 : w16.cell? ⟨gb235, 6, none⟩ = some (.string a0_6) := (blk_cell BK235.out 6).trans rfl; have hcz18_7 : w16.cell? ⟨gb235, 7, none⟩ = some (.string a0_7) := (blk_cell BK235.out 7).trans rfl; have hfz18_0 := blk_frozen BK235.out 0; have hfz18_1 := blk_frozen BK235.out 1; have hfz18_2 := blk_frozen BK235.out 2; have hfz18_3 := blk_frozen BK235.out 3; have hfz18_4 := blk_frozen BK235.out 4; have hfz18_5 := blk_frozen BK235.out 5; have hfz18_6 := blk_frozen BK235.out 6; have hfz18_7 := blk_frozen BK235.out 7; have hcz19_0 : w16.cell? ⟨gb236, 0, none⟩ = some (.bool a1_0) := (blk_cell BK236.out 0).trans rfl; have hcz19_1 : w16.cell? ⟨gb236, 1, none⟩ = some (.bool a1_1) := (blk_cell BK236.out 1).trans rfl; have hcz19_2 : w16.cell? ⟨gb236, 2, none⟩ = some (.bool a1_2) := (blk_cell BK236.out 2).trans rfl; have hcz19_3 : w16.cell? ⟨gb236, 3, none⟩ = some (.bool a1_3) := (blk_cell BK236.out 3).trans rfl; have hcz19_4 : w16.cell? ⟨gb236, 4, none⟩ = some (.int .i64 a1_4) := (blk_cell BK236.out 4).trans rfl; have hcz19_5 : w16.cell? ⟨gb236, 5, none⟩ = some (.int .i64 a1_5) := (blk_cell BK236.out 5).trans rfl; have hcz19_6 : w16.cell? ⟨gb236, 6, none⟩ = some (.string a1_6) := (blk_cell BK236.out 6).trans rfl; have hcz19_7 : w16.cell? ⟨gb236, 7, none⟩ = some (.string a1_7) := (blk_cell BK236.out 7).trans rfl; have hfz19_0 := blk_frozen BK236.out 0; have hfz19_1 := blk_frozen BK236.out 1; have hfz19_2 := blk_frozen BK236.out 2; have hfz19_3 := blk_frozen BK236.out 3; have hfz19_4 := blk_frozen BK236.out 4; have hfz19_5 := blk_frozen BK236.out 5; have hfz19_6 := blk_frozen BK236.out 6; have hfz19_7 := blk_frozen BK236.out 7))
  go_ret
  exact ⟨by first | rfl | (simp [errW_none, errW_some] <;> rfl) | (simp [*, errW_none, errW_some] <;> rfl) | (simp [bt, *]; done) | (unfold bt; simp [*]; done), by repeat (first | (with_reducible first | exact HB.out | apply below_alloc | apply pw_below_drewN | apply below_drew1 | refine below_set ?_ GE235.out | refine below_set ?_ GE236.out) | exact HB.out)⟩
 rw [if_pos c9] at H
 have c9b0 : (a0_6.toList == a1_6.toList) = true := beq_iff_eq.mpr c9
 have c9b1 : (a0_6.toList != a1_6.toList) = false := bne_eq_false_iff_eq.mpr c9
 clear c9
 obtain rfl := Option.some.inj H
 go_enter Tryz.func34, Tryz.ntmps34
 go_wp2_with (first | ((with_reducible refine gate_dst (N := 2) rfl ?_); refine box_event ?hg (N := 2) ?hd (cs := #[.bool a0_0, .bool a0_1, .bool a0_2, .bool a0_3, .int .i64 a0_4, .int .i64 a0_5, .string a0_6, .string a0_7]) (t := 29) ?hr ?_; (case hd => rfl); (case hg => rfl); (case hr => first | (go_simp; done) | (go_simp; rfl)); intro gb235 hg w10 hbox hb; have n0_ := Aside0.mk (below_step (hb_ HB) hb); have n1_ := Aside0.mk (hbox); have n2_ := Aside0.mk ((by rw [hg]; exact (below_size (hb_ HB)) : w.heap.size ≤ gb235)); have n3_ := Aside0.mk ((by rw [hg]; exact (below_size (hb_ HB)) : w.heap.size ≤ gb235)); clear HB; have HB := n0_; have BK235 := n1_; have GW235 := n2_; have GE235 := n3_; clear n0_ n1_ n2_ n3_; clear hb hbox hg) | ((with_reducible refine gate_dst (N := 3) rfl ?_); refine box_event ?hg (N := 3) ?hd (cs := #[.bool a1_0, .bool a1_1, .bool a1_2, .bool a1_3, .int .i64 a1_4, .int .i64 a1_5, .string a1_6, .string a1_7]) (t := 29) ?hr ?_; (case hd => rfl); (case hg => rfl); (case hr => first | (go_simp; done) | (go_simp; rfl)); intro gb236 hg w11 hbox hb; have n0_ := Aside0.mk (blk_below (bk_ BK235) hb); have n1_ := Aside0.mk (below_step (hb_ HB) hb); have n2_ := Aside0.mk (hbox); have n3_ := Aside0.mk ((by rw [hg]; exact (below_size (hb_ HB)) : w.heap.size ≤ gb236)); have n4_ := Aside0.mk ((by rw [hg]; exact (below_size (hb_ HB)) : w.heap.size ≤ gb236)); have n5_ := Aside0.mk ((by rw [hg]; exact Nat.ne_of_lt (blk_lt (g := gb235) (o := .cells #[.bool a0_0, .bool a0_1, .bool a0_2, .bool a0_3, .int .i64 a0_4, .int .i64 a0_5, .string a0_6, .string a0_7] 29 (0, 0)) (bk_ BK235)) : gb235 ≠ gb236)); have n6_ := Aside0.mk ((by rw [hg]; exact Nat.ne_of_gt (blk_lt (g := gb235) (o := .cells #[.bool a0_0, .bool a0_1, .bool a0_2, .bool a0_3, .int .i64 a0_4, .int .i64 a0_5, .string a0_6, .string a0_7] 29 (0, 0)) (bk_ BK235)) : gb236 ≠ gb235)); clear BK235; clear HB; have BK235 := n0_; have HB := n1_; have BK236 := n2_; have GW236 := n3_; have GE236 := n4_; have NB235_236 := n5_; have NB236_235 := n6_; clear n0_ n1_ n2_ n3_ n4_ n5_ n6_; clear hb hbox hg; have hnb12 := NB235_236.out; have hnc12 := NB236_235.out; have hcz13_0 : w11.cell? ⟨gb235, 0, none⟩ = some (.bool a0_0) := (blk_cell BK235.out 0).trans rfl; have hcz13_1 : w11.cell? ⟨gb235, 1, none⟩ = some (.bool a0_1) := (blk_cell BK235.out 1).trans rfl; have hcz13_2 : w11.cell? ⟨gb235, 2, none⟩ = some (.bool a0_2) := (blk_cell BK235.out 2).trans rfl; have hcz13_3 : w11.cell? ⟨gb235, 3, none⟩ = some (.bool a0_3) := (blk_cell BK235.out 3).trans rfl; have hcz13_4 : w11.cell? ⟨gb235, 4, none⟩ = some (.int .i64 a0_4) := (blk_cell BK235.out 4).trans rfl; have hcz13_5 : w11.cell? ⟨gb235, 5, none⟩ = some (.int .i64 a0_5) := (blk_cell BK235.out 5).trans rfl; have hcz13_6 : w11.cell? ⟨gb235, 6, none⟩ = some (.string a0_6) := (blk_cell BK235.out 6).trans rfl; have hcz13_7 : w11.cell? ⟨gb235, 7, none⟩ = some (.string a0_7) := (blk_cell BK235.out 7).trans rfl; have hfz13_0 := blk_frozen BK235.out 0; have hfz13_1 := blk_frozen BK235.out 1; have hfz13_2 := blk_frozen BK235.out 2; have hfz13_3 := blk_frozen BK235.out 3; have hfz13_4 := blk_frozen BK235.out 4; have hfz13_5 := blk_frozen BK235.out 5; have hfz13_6 := blk_frozen BK235.out 6; have hfz13_7 := blk_frozen BK235.out 7; have hcz14_0 : w11.cell? ⟨gb236, 0, none⟩ = some (.bool a1_0) := (blk_cell BK236.out 0).trans rfl; have hcz14_1 : w11.cell? ⟨gb236, 1, none⟩ = some (.bool a1_1) := (blk_cell BK236.out 1).trans rfl; have hcz14_2 : w11.cell? ⟨gb236, 2, none⟩ = some (.bool a1_2) := (blk_cell BK236.out 2).trans rfl; have hcz14_3 : w11.cell? ⟨gb236, 3, none⟩ = some (.bool a1_3) := (blk_cell BK236.out 3).trans rfl; have hcz14_4 : w11.cell? ⟨gb236, 4, none⟩ = some (.int .i64 a1_4) := (blk_cell BK236.out 4).trans rfl; have hcz14_5 : w11.cell? ⟨gb236, 5, none⟩ = some (.int .i64 a1_5) := (blk_cell BK236.out 5).trans rfl; have hcz14_6 : w11.cell? ⟨gb236, 6, none⟩ = some (.string a1_6) := (blk_cell BK236.out 6).trans rfl; have hcz14_7 : w11.cell? ⟨gb236, 7, none⟩ = some (.string a1_7) := (blk_cell BK236.out 7).trans rfl; have hfz14_0 := blk_frozen BK236.out 0; have hfz14_1 := blk_frozen BK236.out 1; have hfz14_2 := blk_frozen BK236.out 2; have hfz14_3 := blk_frozen BK236.out 3; have hfz14_4 := blk_frozen BK236.out 4; have hfz14_5 := blk_frozen BK236.out 5; have hfz14_6 := blk_frozen BK236.out 6; have hfz14_7 := blk_frozen BK236.out 7))
 go_ret
 exact ⟨by first | rfl | (simp [errW_none, errW_some] <;> rfl) | (simp [*, errW_none, errW_some] <;> rfl) | (simp [bt, *]; done) | (unfold bt; simp [*]; done), by repeat (first | (with_reducible first | exact HB.out | apply below_alloc | apply pw_below_drewN | apply below_drew1 | refine below_set ?_ GE235.out | refine below_set ?_ GE236.out) | exact HB.out)⟩
def headgateref22_Same.f (a0_0 : Int) (a0_1 : Bool) (a0_2 : Bool) (a0_3 : Bool) (a0_4 : Bool) (a0_5 : Bool) (a0_6 : Int) (a0_7 : Int) (a0_8 : ByteArray) (a0_9 : ByteArray) (a0_10 : Int) (a0_11 : Int) (a1_0 : Int) (a1_1 : Bool) (a1_2 : Bool) (a1_3 : Bool) (a1_4 : Bool) (a1_5 : Bool) (a1_6 : Int) (a1_7 : Int) (a1_8 : ByteArray) (a1_9 : ByteArray) (a1_10 : Int) (a1_11 : Int) : Option (Bool) := if a0_0 = a1_0 then (if (a0_1 == a1_1) = true then ((headgateref21_Same.f a0_2 a0_3 a0_4 a0_5 a0_6 a0_7 a0_8 a0_9 a1_2 a1_3 a1_4 a1_5 a1_6 a1_7 a1_8 a1_9).bind fun t239 => (if t239 = true then (if a0_10 = a1_10 then (some (a0_11 == a1_11)) else (some false)) else (some false))) else (some false)) else (some false)
set_option maxHeartbeats 8000000 in
set_option maxRecDepth 100000 in
theorem headgateref22_Same.calls (a0_0 : Int) (a0_1 : Bool) (a0_2 : Bool) (a0_3 : Bool) (a0_4 : Bool) (a0_5 : Bool) (a0_6 : Int) (a0_7 : Int) (a0_8 : ByteArray) (a0_9 : ByteArray) (a0_10 : Int) (a0_11 : Int) (a1_0 : Int) (a1_1 : Bool) (a1_2 : Bool) (a1_3 : Bool) (a1_4 : Bool) (a1_5 : Bool) (a1_6 : Int) (a1_7 : Int) (a1_8 : ByteArray) (a1_9 : ByteArray) (a1_10 : Int) (a1_11 : Int) (r : Bool) (w : World) (h : headgateref22_Same.f a0_0 a0_1 a0_2 a0_3 a0_4 a0_5 a0_6 a0_7 a0_8 a0_9 a0_10 a0_11 a1_0 a1_1 a1_2 a1_3 a1_4 a1_5 a1_6 a1_7 a1_8 a1_9 a1_10 a1_11 = some r) :
  Calls Tryz.prog 11 #[.agg #[.int .i64 a0_0, .bool a0_1, .bool a0_2, .bool a0_3, .bool a0_4, .bool a0_5, .int .i64 a0_6, .int .i64 a0_7, .string a0_8, .string a0_9, .int .u32 a0_10, .int .u32 a0_11], .agg #[.int .i64 a1_0, .bool a1_1, .bool a1_2, .bool a1_3, .bool a1_4, .bool a1_5, .int .i64 a1_6, .int .i64 a1_7, .string a1_8, .string a1_9, .int .u32 a1_10, .int .u32 a1_11]] w fun e w' => e = .returned (.bool r) ∧ Below w.heap.size w w' := by
 have hu31 := Tryz.underlying31
 have hu29 := Tryz.underlying29
 have HB := Aside0.mk (Below.refl w.heap.size w)
 have H : (if a0_0 = a1_0 then (if (a0_1 == a1_1) = true then ((headgateref21_Same.f a0_2 a0_3 a0_4 a0_5 a0_6 a0_7 a0_8 a0_9 a1_2 a1_3 a1_4 a1_5 a1_6 a1_7 a1_8 a1_9).bind fun t239 => (if t239 = true then (if a0_10 = a1_10 then (some (a0_11 == a1_11)) else (some false)) else (some false))) else (some false)) else (some false)) = some r := h
 clear h
 refine neg_first (p := (a0_0 = a1_0)) (fun c3 => ?_) (fun c3 => ?_)
 ·rw [if_neg c3] at H
  have c3b0 : (a0_0 == a1_0) = false := beq_eq_false_iff_ne.mpr c3
  have c3b1 : (a0_0 != a1_0) = true := bne_iff_ne.mpr c3
  obtain rfl := Option.some.inj H
  go_enter Tryz.func11, Tryz.ntmps11
  go_wp2_with (first | ((with_reducible refine gate_dst (N := 2) rfl ?_); refine box_event ?hg (N := 2) ?hd (cs := #[.int .i64 a0_0, .bool a0_1, .bool a0_2, .bool a0_3, .bool a0_4, .bool a0_5, .int .i64 a0_6, .int .i64 a0_7, .string a0_8, .string a0_9, .int .u32 a0_10, .int .u32 a0_11]) (t := 31) ?hr ?_; (case hd => rfl); (case hg => rfl); (case hr => first | (go_simp; done) | (go_simp; rfl)); intro gb237 hg w35 hbox hb; have n0_ := Aside0.mk (below_step (hb_ HB) hb); have n1_ := Aside0.mk (hbox); have n2_ := Aside0.mk ((by rw [hg]; exact (below_size (hb_ HB)) : w.heap.size ≤ gb237)); have n3_ := Aside0.mk ((by rw [hg]; exact (below_size (hb_ HB)) : w.heap.size ≤ gb237)); clear HB; have HB := n0_; have BK237 := n1_; have GW237 := n2_; have GE237 := n3_; clear n0_ n1_ n2_ n3_; clear hb hbox hg) | ((with_reducible refine gate_dst (N := 3) rfl ?_); refine box_event ?hg (N := 3) ?hd (cs := #[.int .i64 a1_0, .bool a1_1, .bool a1_2, .bool a1_3, .bool a1_4, .bool a1_5, .int .i64 a1_6, .int .i64 a1_7, .string a1_8, .string a1_9, .int .u32 a1_10, .int .u32 a1_11]) (t := 31) ?hr ?_; (case hd => rfl); (case hg => rfl); (case hr => first | (go_simp; done) | (go_simp; rfl)); intro gb238 hg w36 hbox hb; have n0_ := Aside0.mk (blk_below (bk_ BK237) hb); have n1_ := Aside0.mk (below_step (hb_ HB) hb); have n2_ := Aside0.mk (hbox); have n3_ := Aside0.mk ((by rw [hg]; exact (below_size (hb_ HB)) : w.heap.size ≤ gb238)); have n4_ := Aside0.mk ((by rw [hg]; exact (below_size (hb_ HB)) : w.heap.size ≤ gb238)); have n5_ := Aside0.mk ((by rw [hg]; exact Nat.ne_of_lt (blk_lt (g := gb237) (o := .cells #[.int .i64 a0_0, .bool a0_1, .bool a0_2, .bool a0_3, .bool a0_4, .bool a0_5, .int .i64 a0_6, .int .i64 a0_7, .string a0_8, .string a0_9, .int .u32 a0_10, .int .u32 a0_11] 31 (0, 0)) (bk_ BK237)) : gb237 ≠ gb238)); have n6_ := Aside0.mk ((by rw [hg]; exact Nat.ne_of_gt (blk_lt (g := gb237) (o := .cells #[.int .i64 a0_0, .bool a0_1, .bool a0_2, .bool a0_3, .bool a0_4, .bool a0_5, .int .i64 a0_6, .int .i64 a0_7, .string a0_8, .string a0_9, .int .u32 a0_10, .int .u32 a0_11] 31 (0, 0)) (bk_ BK237)) : gb238 ≠ gb237)); clear BK237; clear HB; have BK237 := n0_; have HB := n1_; have BK238 := n2_; have GW238 := n3_; have GE238 := n4_; have NB237_238 := n5_; have NB238_237 := n6_; clear n0_ n1_ n2_ n3_ n4_ n5_ n6_; clear hb hbox hg; have hnb37 := NB237_238.out; have hnc37 := NB238_237.out; have hcz38_0 : w36.cell? ⟨gb237, 0, none⟩ = some (.int .i64 a0_0) := (blk_cell BK237.out 0).trans rfl; have hcz38_1 : w36.cell? ⟨gb237, 1, none⟩ = some (.bool a0_1) := (blk_cell BK237.out 1).trans rfl; have hcz38_2 : w36.cell? ⟨gb237, 2, none⟩ = some (.bool a0_2) := (blk_cell BK237.out 2).trans rfl; have hcz38_3 : w36.cell? ⟨gb237, 3, none⟩ = some (.bool a0_3) := (blk_cell BK237.out 3).trans rfl; have hcz38_4 : w36.cell? ⟨gb237, 4, none⟩ = some (.bool a0_4) := (blk_cell BK237.out 4).trans rfl; have hcz38_5 : w36.cell? ⟨gb237, 5, none⟩ = some (.bool a0_5) := (blk_cell BK237.out 5).trans rfl; have hcz38_6 : w36.cell? ⟨gb237, 6, none⟩ = some (.int .i64 a0_6) := (blk_cell BK237.out 6).trans rfl; have hcz38_7 : w36.cell? ⟨gb237, 7, none⟩ = some (.int .i64 a0_7) := (blk_cell BK237.out 7).trans rfl; have hcz38_8 : w36.cell? ⟨gb237, 8, none⟩ = some (.string a0_8) := (blk_cell BK237.out 8).trans rfl; have hcz38_9 : w36.cell? ⟨gb237, 9, none⟩ = some (.string a0_9) := (blk_cell BK237.out 9).trans rfl; have hcz38_10 : w36.cell? ⟨gb237, 10, none⟩ = some (.int .u32 a0_10) := (blk_cell BK237.out 10).trans rfl; have hcz38_11 : w36.cell? ⟨gb237, 11, none⟩ = some (.int .u32 a0_11) := (blk_cell BK237.out 11).trans rfl; have hfz38_0 := blk_frozen BK237.out 0; have hfz38_1 := blk_frozen BK237.out 1; have hfz38_2 := blk_frozen BK237.out 2; have hfz38_3 := blk_frozen BK237.out 3; have hfz38_4 := blk_frozen BK237.out 4; have hfz38_5 := blk_frozen BK237.out 5; have hfz38_6 := blk_frozen BK237.out 6; have hfz38_7 := blk_frozen BK237.out 7; have hfz38_8 := blk_frozen BK237.out 8; have hfz38_9 := blk_frozen BK237.out 9; have hfz38_10 := blk_frozen BK237.out 10; have hfz38_11 := blk_frozen BK237.out 11; have hcz39_0 : w36.cell? ⟨gb238, 0, none⟩ = some (.int .i64 a1_0) := (blk_cell BK238.out 0).trans rfl; have hcz39_1 : w36.cell? ⟨gb238, 1, none⟩ = some (.bool a1_1) := (blk_cell BK238.out 1).trans rfl; have hcz39_2 : w36.cell? ⟨gb238, 2, none⟩ = some (.bool a1_2) := (blk_cell BK238.out 2).trans rfl; have hcz39_3 : w36.cell? ⟨gb238, 3, none⟩ = some (.bool a1_3) := (blk_cell BK238.out 3).trans rfl; have hcz39_4 : w36.cell? ⟨gb238, 4, none⟩ = some (.bool a1_4) := (blk_cell BK238.out 4).trans rfl; have hcz39_5 : w36.cell? ⟨gb238, 5, none⟩ = some (.bool a1_5) := (blk_cell BK238.out 5).trans rfl; have hcz39_6 : w36.cell? ⟨gb238, 6, none⟩ = some (.int .i64 a1_6) := (blk_cell BK238.out 6).trans rfl; have hcz39_7 : w36.cell? ⟨gb238, 7, none⟩ = some (.int .i64 a1_7) := (blk_cell BK238.out 7).trans rfl; have hcz39_8 : w36.cell? ⟨gb238, 8, none⟩ = some (.string a1_8) := (blk_cell BK238.out 8).trans rfl; have hcz39_9 : w36.cell? ⟨gb238, 9, none⟩ = some (.string a1_9) := (blk_cell BK238.out 9).trans rfl; have hcz39_10 : w36.cell? ⟨gb238, 10, none⟩ = some (.int .u32 a1_10) := (blk_cell BK238.out 10).trans rfl; have hcz39_11 : w36.cell? ⟨gb238, 11, none⟩ = some (.int .u32 a1_11) := (blk_cell BK238.out 11).trans rfl; have hfz39_0 := blk_frozen BK238.out 0; have hfz39_1 := blk_frozen BK238.out 1; have hfz39_2 := blk_frozen BK238.out 2; have hfz39_3 := blk_frozen BK238.out 3; have hfz39_4 := blk_frozen BK238.out 4; have hfz39_5 := blk_frozen BK238.out 5; have hfz39_6 := blk_frozen BK238.out 6; have hfz39_7 := blk_frozen BK238.out 7; have hfz39_8 := blk_frozen BK238.out 8; have hfz39_9 := blk_frozen BK238.out 9; have hfz39_10 := blk_frozen BK238.out 10; have hfz39_11 := blk_frozen BK238.out 11))
  go_ret
  exact ⟨by first | rfl | (simp [errW_none, errW_some] <;> rfl) | (simp [*, errW_none, errW_some] <;> rfl) | (simp [bt, *]; done) | (unfold bt; simp [*]; done), by repeat (first | (with_reducible first | exact HB.out | apply below_alloc | apply pw_below_drewN | apply below_drew1 | refine below_set ?_ GE237.out | refine below_set ?_ GE238.out) | exact HB.out)⟩
 rw [if_pos c3] at H
 have c3b0 : (a0_0 == a1_0) = true := beq_iff_eq.mpr c3
 have c3b1 : (a0_0 != a1_0) = false := bne_eq_false_iff_eq.mpr c3
 clear c3
 refine neg_first (p := ((a0_1 == a1_1) = true)) (fun c4 => ?_) (fun c4 => ?_)
 ·rw [if_neg c4] at H
  have c4b0 : (a0_1 == a1_1) = false := by simpa using c4
  (try (have c4b1 : decide (a0_1 = a1_1) = false := by simpa using c4))
  (try (have c4b2 : (a0_1 == a1_1) = false := by simpa using c4))
  (try (have c4b3 : ¬ (a0_1 = a1_1) := by simpa using c4))
  clear c4
  obtain rfl := Option.some.inj H
  go_enter Tryz.func11, Tryz.ntmps11
  go_wp2_with (first | ((with_reducible refine gate_dst (N := 2) rfl ?_); refine box_event ?hg (N := 2) ?hd (cs := #[.int .i64 a0_0, .bool a0_1, .bool a0_2, .bool a0_3, .bool a0_4, .bool a0_5, .int .i64 a0_6, .int .i64 a0_7, .string a0_8, .string a0_9, .int .u32 a0_10, .int .u32 a0_11]) (t := 31) ?hr ?_; (case hd => rfl); (case hg => rfl); (case hr => first | (go_simp; done) | (go_simp; rfl)); intro gb237 hg w30 hbox hb; have n0_ := Aside0.mk (below_step (hb_ HB) hb); have n1_ := Aside0.mk (hbox); have n2_ := Aside0.mk ((by rw [hg]; exact (below_size (hb_ HB)) : w.heap.size ≤ gb237)); have n3_ := Aside0.mk ((by rw [hg]; exact (below_size (hb_ HB)) : w.heap.size ≤ gb237)); clear HB; have HB := n0_; have BK237 := n1_; have GW237 := n2_; have GE237 := n3_; clear n0_ n1_ n2_ n3_; clear hb hbox hg) | ((with_reducible refine gate_dst (N := 3) rfl ?_); refine box_event ?hg (N := 3) ?hd (cs := #[.int .i64 a1_0, .bool a1_1, .bool a1_2, .bool a1_3, .bool a1_4, .bool a1_5, .int .i64 a1_6, .int .i64 a1_7, .string a1_8, .string a1_9, .int .u32 a1_10, .int .u32 a1_11]) (t := 31) ?hr ?_; (case hd => rfl); (case hg => rfl); (case hr => first | (go_simp; done) | (go_simp; rfl)); intro gb238 hg w31 hbox hb; have n0_ := Aside0.mk (blk_below (bk_ BK237) hb); have n1_ := Aside0.mk (below_step (hb_ HB) hb); have n2_ := Aside0.mk (hbox); have n3_ := Aside0.mk ((by rw [hg]; exact (below_size (hb_ HB)) : w.heap.size ≤ gb238)); have n4_ := Aside0.mk ((by rw [hg]; exact (below_size (hb_ HB)) : w.heap.size ≤ gb238)); have n5_ := Aside0.mk ((by rw [hg]; exact Nat.ne_of_lt (blk_lt (g := gb237) (o := .cells #[.int .i64 a0_0, .bool a0_1, .bool a0_2, .bool a0_3, .bool a0_4, .bool a0_5, .int .i64 a0_6, .int .i64 a0_7, .string a0_8, .string a0_9, .int .u32 a0_10, .int .u32 a0_11] 31 (0, 0)) (bk_ BK237)) : gb237 ≠ gb238)); have n6_ := Aside0.mk ((by rw [hg]; exact Nat.ne_of_gt (blk_lt (g := gb237) (o := .cells #[.int .i64 a0_0, .bool a0_1, .bool a0_2, .bool a0_3, .bool a0_4, .bool a0_5, .int .i64 a0_6, .int .i64 a0_7, .string a0_8, .string a0_9, .int .u32 a0_10, .int .u32 a0_11] 31 (0, 0)) (bk_ BK237)) : gb238 ≠ gb237)); clear BK237; clear HB; have BK237 := n0_; have HB := n1_; have BK238 := n2_; have GW238 := n3_; have GE238 := n4_; have NB237_238 := n5_; have NB238_237 := n6_; clear n0_ n1_ n2_ n3_ n4_ n5_ n6_; clear hb hbox hg; have hnb32 := NB237_238.out; have hnc32 := NB238_237.out; have hcz33_0 : w31.cell? ⟨gb237, 0, none⟩ = some (.int .i64 a0_0) := (blk_cell BK237.out 0).trans rfl; have hcz33_1 : w31.cell? ⟨gb237, 1, none⟩ = some (.bool a0_1) := (blk_cell BK237.out 1).trans rfl; have hcz33_2 : w31.cell? ⟨gb237, 2, none⟩ = some (.bool a0_2) := (blk_cell BK237.out 2).trans rfl; have hcz33_3 : w31.cell? ⟨gb237, 3, none⟩ = some (.bool a0_3) := (blk_cell BK237.out 3).trans rfl; have hcz33_4 : w31.cell? ⟨gb237, 4, none⟩ = some (.bool a0_4) := (blk_cell BK237.out 4).trans rfl; have hcz33_5 : w31.cell? ⟨gb237, 5, none⟩ = some (.bool a0_5) := (blk_cell BK237.out 5).trans rfl; have hcz33_6 : w31.cell? ⟨gb237, 6, none⟩ = some (.int .i64 a0_6) := (blk_cell BK237.out 6).trans rfl; have hcz33_7 : w31.cell? ⟨gb237, 7, none⟩ = some (.int .i64 a0_7) := (blk_cell BK237.out 7).trans rfl; have hcz33_8 : w31.cell? ⟨gb237, 8, none⟩ = some (.string a0_8) := (blk_cell BK237.out 8).trans rfl; have hcz33_9 : w31.cell? ⟨gb237, 9, none⟩ = some (.string a0_9) := (blk_cell BK237.out 9).trans rfl; have hcz33_10 : w31.cell? ⟨gb237, 10, none⟩ = some (.int .u32 a0_10) := (blk_cell BK237.out 10).trans rfl; have hcz33_11 : w31.cell? ⟨gb237, 11, none⟩ = some (.int .u32 a0_11) := (blk_cell BK237.out 11).trans rfl; have hfz33_0 := blk_frozen BK237.out 0; have hfz33_1 := blk_frozen BK237.out 1; have hfz33_2 := blk_frozen BK237.out 2; have hfz33_3 := blk_frozen BK237.out 3; have hfz33_4 := blk_frozen BK237.out 4; have hfz33_5 := blk_frozen BK237.out 5; have hfz33_6 := blk_frozen BK237.out 6; have hfz33_7 := blk_frozen BK237.out 7; have hfz33_8 := blk_frozen BK237.out 8; have hfz33_9 := blk_frozen BK237.out 9; have hfz33_10 := blk_frozen BK237.out 10; have hfz33_11 := blk_frozen BK237.out 11; have hcz34_0 : w31.cell? ⟨gb238, 0, none⟩ = some (.int .i64 a1_0) := (blk_cell BK238.out 0).trans rfl; have hcz34_1 : w31.cell? ⟨gb238, 1, none⟩ = some (.bool a1_1) := (blk_cell BK238.out 1).trans rfl; have hcz34_2 : w31.cell? ⟨gb238, 2, none⟩ = some (.bool a1_2) := (blk_cell BK238.out 2).trans rfl; have hcz34_3 : w31.cell? ⟨gb238, 3, none⟩ = some (.bool a1_3) := (blk_cell BK238.out 3).trans rfl; have hcz34_4 : w31.cell? ⟨gb238, 4, none⟩ = some (.bool a1_4) := (blk_cell BK238.out 4).trans rfl; have hcz34_5 : w31.cell? ⟨gb238, 5, none⟩ = some (.bool a1_5) := (blk_cell BK238.out 5).trans rfl; have hcz34_6 : w31.cell? ⟨gb238, 6, none⟩ = some (.int .i64 a1_6) := (blk_cell BK238.out 6).trans rfl; have hcz34_7 : w31.cell? ⟨gb238, 7, none⟩ = some (.int .i64 a1_7) := (blk_cell BK238.out 7).trans rfl; have hcz34_8 : w31.cell? ⟨gb238, 8, none⟩ = some (.string a1_8) := (blk_cell BK238.out 8).trans rfl; have hcz34_9 : w31.cell? ⟨gb238, 9, none⟩ = some (.string a1_9) := (blk_cell BK238.out 9).trans rfl; have hcz34_10 : w31.cell? ⟨gb238, 10, none⟩ = some (.int .u32 a1_10) := (blk_cell BK238.out 10).trans rfl; have hcz34_11 : w31.cell? ⟨gb238, 11, none⟩ = some (.int .u32 a1_11) := (blk_cell BK238.out 11).trans rfl; have hfz34_0 := blk_frozen BK238.out 0; have hfz34_1 := blk_frozen BK238.out 1; have hfz34_2 := blk_frozen BK238.out 2; have hfz34_3 := blk_frozen BK238.out 3; have hfz34_4 := blk_frozen BK238.out 4; have hfz34_5 := blk_frozen BK238.out 5; have hfz34_6 := blk_frozen BK238.out 6; have hfz34_7 := blk_frozen BK238.out 7; have hfz34_8 := blk_frozen BK238.out 8; have hfz34_9 := blk_frozen BK238.out 9; have hfz34_10 := blk_frozen BK238.out 10; have hfz34_11 := blk_frozen BK238.out 11))
  go_ret
  exact ⟨by first | rfl | (simp [errW_none, errW_some] <;> rfl) | (simp [*, errW_none, errW_some] <;> rfl) | (simp [bt, *]; done) | (unfold bt; simp [*]; done), by repeat (first | (with_reducible first | exact HB.out | apply below_alloc | apply pw_below_drewN | apply below_drew1 | refine below_set ?_ GE237.out | refine below_set ?_ GE238.out) | exact HB.out)⟩
 rw [if_pos c4] at H
 have c4b0 : (a0_1 == a1_1) = true := c4
 (try (have c4b1 : decide (a0_1 = a1_1) = true := by simpa using c4))
 (try (have c4b2 : (a0_1 == a1_1) = true := by simpa using c4))
 clear c4
 replace H := Option.bind_eq_some_iff.mp H
 obtain ⟨t239, A50, H⟩ := H
 try dsimp only at H
 have A5 := Aside0.mk A50
 clear A50
 refine neg_first (p := (t239 = true)) (fun c6 => ?_) (fun c6 => ?_)
 ·replace c6 := Bool.eq_false_iff.mpr c6
  subst c6
  have H1 := H
  rw [if_neg (show ¬ (false = true) by decide)] at H1
  clear H
  have H := H1
  clear H1
  obtain rfl := Option.some.inj H
  go_enter Tryz.func11, Tryz.ntmps11
  go_wp2_with (first | ((with_reducible refine gate_dst (N := 2) rfl ?_); refine box_event ?hg (N := 2) ?hd (cs := #[.int .i64 a0_0, .bool a0_1, .bool a0_2, .bool a0_3, .bool a0_4, .bool a0_5, .int .i64 a0_6, .int .i64 a0_7, .string a0_8, .string a0_9, .int .u32 a0_10, .int .u32 a0_11]) (t := 31) ?hr ?_; (case hd => rfl); (case hg => rfl); (case hr => first | (go_simp; done) | (go_simp; rfl)); intro gb237 hg w24 hbox hb; have n0_ := Aside0.mk (below_step (hb_ HB) hb); have n1_ := Aside0.mk (hbox); have n2_ := Aside0.mk ((by rw [hg]; exact (below_size (hb_ HB)) : w.heap.size ≤ gb237)); have n3_ := Aside0.mk ((by rw [hg]; exact (below_size (hb_ HB)) : w.heap.size ≤ gb237)); clear HB; have HB := n0_; have BK237 := n1_; have GW237 := n2_; have GE237 := n3_; clear n0_ n1_ n2_ n3_; clear hb hbox hg) | ((with_reducible refine gate_dst (N := 3) rfl ?_); refine box_event ?hg (N := 3) ?hd (cs := #[.int .i64 a1_0, .bool a1_1, .bool a1_2, .bool a1_3, .bool a1_4, .bool a1_5, .int .i64 a1_6, .int .i64 a1_7, .string a1_8, .string a1_9, .int .u32 a1_10, .int .u32 a1_11]) (t := 31) ?hr ?_; (case hd => rfl); (case hg => rfl); (case hr => first | (go_simp; done) | (go_simp; rfl)); intro gb238 hg w25 hbox hb; have n0_ := Aside0.mk (blk_below (bk_ BK237) hb); have n1_ := Aside0.mk (below_step (hb_ HB) hb); have n2_ := Aside0.mk (hbox); have n3_ := Aside0.mk ((by rw [hg]; exact (below_size (hb_ HB)) : w.heap.size ≤ gb238)); have n4_ := Aside0.mk ((by rw [hg]; exact (below_size (hb_ HB)) : w.heap.size ≤ gb238)); have n5_ := Aside0.mk ((by rw [hg]; exact Nat.ne_of_lt (blk_lt (g := gb237) (o := .cells #[.int .i64 a0_0, .bool a0_1, .bool a0_2, .bool a0_3, .bool a0_4, .bool a0_5, .int .i64 a0_6, .int .i64 a0_7, .string a0_8, .string a0_9, .int .u32 a0_10, .int .u32 a0_11] 31 (0, 0)) (bk_ BK237)) : gb237 ≠ gb238)); have n6_ := Aside0.mk ((by rw [hg]; exact Nat.ne_of_gt (blk_lt (g := gb237) (o := .cells #[.int .i64 a0_0, .bool a0_1, .bool a0_2, .bool a0_3, .bool a0_4, .bool a0_5, .int .i64 a0_6, .int .i64 a0_7, .string a0_8, .string a0_9, .int .u32 a0_10, .int .u32 a0_11] 31 (0, 0)) (bk_ BK237)) : gb238 ≠ gb237)); clear BK237; clear HB; have BK237 := n0_; have HB := n1_; have BK238 := n2_; have GW238 := n3_; have GE238 := n4_; have NB237_238 := n5_; have NB238_237 := n6_; clear n0_ n1_ n2_ n3_ n4_ n5_ n6_; clear hb hbox hg; have hnb26 := NB237_238.out; have hnc26 := NB238_237.out; have hcz27_0 : w25.cell? ⟨gb237, 0, none⟩ = some (.int .i64 a0_0) := (blk_cell BK237.out 0).trans rfl; have hcz27_1 : w25.cell? ⟨gb237, 1, none⟩ = some (.bool a0_1) := (blk_cell BK237.out 1).trans rfl; have hcz27_2 : w25.cell? ⟨gb237, 2, none⟩ = some (.bool a0_2) := (blk_cell BK237.out 2).trans rfl; have hcz27_3 : w25.cell? ⟨gb237, 3, none⟩ = some (.bool a0_3) := (blk_cell BK237.out 3).trans rfl; have hcz27_4 : w25.cell? ⟨gb237, 4, none⟩ = some (.bool a0_4) := (blk_cell BK237.out 4).trans rfl; have hcz27_5 : w25.cell? ⟨gb237, 5, none⟩ = some (.bool a0_5) := (blk_cell BK237.out 5).trans rfl; have hcz27_6 : w25.cell? ⟨gb237, 6, none⟩ = some (.int .i64 a0_6) := (blk_cell BK237.out 6).trans rfl; have hcz27_7 : w25.cell? ⟨gb237, 7, none⟩ = some (.int .i64 a0_7) := (blk_cell BK237.out 7).trans rfl; have hcz27_8 : w25.cell? ⟨gb237, 8, none⟩ = some (.string a0_8) := (blk_cell BK237.out 8).trans rfl; have hcz27_9 : w25.cell? ⟨gb237, 9, none⟩ = some (.string a0_9) := (blk_cell BK237.out 9).trans rfl; have hcz27_10 : w25.cell? ⟨gb237, 10, none⟩ = some (.int .u32 a0_10) := (blk_cell BK237.out 10).trans rfl; have hcz27_11 : w25.cell? ⟨gb237, 11, none⟩ = some (.int .u32 a0_11) := (blk_cell BK237.out 11).trans rfl; have hfz27_0 := blk_frozen BK237.out 0; have hfz27_1 := blk_frozen BK237.out 1; have hfz27_2 := blk_frozen BK237.out 2; have hfz27_3 := blk_frozen BK237.out 3; have hfz27_4 := blk_frozen BK237.out 4; have hfz27_5 := blk_frozen BK237.out 5; have hfz27_6 := blk_frozen BK237.out 6; have hfz27_7 := blk_frozen BK237.out 7; have hfz27_8 := blk_frozen BK237.out 8; have hfz27_9 := blk_frozen BK237.out 9; have hfz27_10 := blk_frozen BK237.out 10; have hfz27_11 := blk_frozen BK237.out 11; have hcz28_0 : w25.cell? ⟨gb238, 0, none⟩ = some (.int .i64 a1_0) := (blk_cell BK238.out 0).trans rfl; have hcz28_1 : w25.cell? ⟨gb238, 1, none⟩ = some (.bool a1_1) := (blk_cell BK238.out 1).trans rfl; have hcz28_2 : w25.cell? ⟨gb238, 2, none⟩ = some (.bool a1_2) := (blk_cell BK238.out 2).trans rfl; have hcz28_3 : w25.cell? ⟨gb238, 3, none⟩ = some (.bool a1_3) := (blk_cell BK238.out 3).trans rfl; have hcz28_4 : w25.cell? ⟨gb238, 4, none⟩ = some (.bool a1_4) := (blk_cell BK238.out 4).trans rfl; have hcz28_5 : w25.cell? ⟨gb238, 5, none⟩ = some (.bool a1_5) := (blk_cell BK238.out 5).trans rfl; have hcz28_6 : w25.cell? ⟨gb238, 6, none⟩ = some (.int .i64 a1_6) := (blk_cell BK238.out 6).trans rfl; have hcz28_7 : w25.cell? ⟨gb238, 7, none⟩ = some (.int .i64 a1_7) := (blk_cell BK238.out 7).trans rfl; have hcz28_8 : w25.cell? ⟨gb238, 8, none⟩ = some (.string a1_8) := (blk_cell BK238.out 8).trans rfl; have hcz28_9 : w25.cell? ⟨gb238, 9, none⟩ = some (.string a1_9) := (blk_cell BK238.out 9).trans rfl; have hcz28_10 : w25.cell? ⟨gb238, 10, none⟩ = some (.int .u32 a1_10) := (blk_cell BK238.out 10).trans rfl; have hcz28_11 : w25.cell? ⟨gb238, 11, none⟩ = some (.int .u32 a1_11) := (blk_cell BK238.out 11).trans rfl; have hfz28_0 := blk_frozen BK238.out 0; have hfz28_1 := blk_frozen BK238.out 1; have hfz28_2 := blk_frozen BK238.out 2; have hfz28_3 := blk_frozen BK238.out 3; have hfz28_4 := blk_frozen BK238.out 4; have hfz28_5 := blk_frozen BK238.out 5; have hfz28_6 := blk_frozen BK238.out 6; have hfz28_7 := blk_frozen BK238.out 7; have hfz28_8 := blk_frozen BK238.out 8; have hfz28_9 := blk_frozen BK238.out 9; have hfz28_10 := blk_frozen BK238.out 10; have hfz28_11 := blk_frozen BK238.out 11) | (go_at_call 34; (with_reducible refine (headgateref21_Same.calls a0_2 a0_3 a0_4 a0_5 a0_6 a0_7 a0_8 a0_9 a1_2 a1_3 a1_4 a1_5 a1_6 a1_7 a1_8 a1_9 false _ A5.out).mono ?_); rintro e w29 ⟨rfl, hb⟩; have n0_ := Aside0.mk (blk_below (bk_ BK237) hb); have n1_ := Aside0.mk (blk_below (bk_ BK238) hb); have n2_ := Aside0.mk (below_step (hb_ HB) hb); clear BK237; clear BK238; clear HB; have BK237 := n0_; have BK238 := n1_; have HB := n2_; clear n0_ n1_ n2_; (try clear hb); (try clear hb2); (try clear hk); (try clear hi)))
  go_ret
  exact ⟨by first | rfl | (simp [errW_none, errW_some] <;> rfl) | (simp [*, errW_none, errW_some] <;> rfl) | (simp [bt, *]; done) | (unfold bt; simp [*]; done), by repeat (first | (with_reducible first | exact HB.out | apply below_alloc | apply pw_below_drewN | apply below_drew1 | refine below_set ?_ GE237.out | refine below_set ?_ GE238.out) | exact HB.out)⟩
 subst c6
 have H1 := H
 rw [if_pos rfl] at H1
 clear H
 have H := H1
 clear H1
 by_cases c7 : a0_10 = a1_10
 ·rw [if_pos c7] at H
  have c7b0 : (a0_10 == a1_10) = true := beq_iff_eq.mpr c7
  have c7b1 : (a0_10 != a1_10) = false := bne_eq_false_iff_eq.mpr c7
  clear c7
  obtain rfl := Option.some.inj H
  go_enter Tryz.func11, Tryz.ntmps11
  go_wp2_with (first | ((with_reducible refine gate_dst (N := 2) rfl ?_); refine box_event ?hg (N := 2) ?hd (cs := #[.int .i64 a0_0, .bool a0_1, .bool a0_2, .bool a0_3, .bool a0_4, .bool a0_5, .int .i64 a0_6, .int .i64 a0_7, .string a0_8, .string a0_9, .int .u32 a0_10, .int .u32 a0_11]) (t := 31) ?hr ?_; (case hd => rfl); (case hg => rfl); (case hr => first | (go_simp; done) | (go_simp; rfl)); intro gb237 hg w8 hbox hb; have n0_ := Aside0.mk (below_step (hb_ HB) hb); have n1_ := Aside0.mk (hbox); have n2_ := Aside0.mk ((by rw [hg]; exact (below_size (hb_ HB)) : w.heap.size ≤ gb237)); have n3_ := Aside0.mk ((by rw [hg]; exact (below_size (hb_ HB)) : w.heap.size ≤ gb237)); clear HB; have HB := n0_; have BK237 := n1_; have GW237 := n2_; have GE237 := n3_; clear n0_ n1_ n2_ n3_; clear hb hbox hg) | ((with_reducible refine gate_dst (N := 3) rfl ?_); refine box_event ?hg (N := 3) ?hd (cs := #[.int .i64 a1_0, .bool a1_1, .bool a1_2, .bool a1_3, .bool a1_4, .bool a1_5, .int .i64 a1_6, .int .i64 a1_7, .string a1_8, .string a1_9, .int .u32 a1_10, .int .u32 a1_11]) (t := 31) ?hr ?_; (case hd => rfl); (case hg => rfl); (case hr => first | (go_simp; done) | (go_simp; rfl)); intro gb238 hg w9 hbox hb; have n0_ := Aside0.mk (blk_below (bk_ BK237) hb); have n1_ := Aside0.mk (below_step (hb_ HB) hb); have n2_ := Aside0.mk (hbox); have n3_ := Aside0.mk ((by rw [hg]; exact (below_size (hb_ HB)) : w.heap.size ≤ gb238)); have n4_ := Aside0.mk ((by rw [hg]; exact (below_size (hb_ HB)) : w.heap.size ≤ gb238)); have n5_ := Aside0.mk ((by rw [hg]; exact Nat.ne_of_lt (blk_lt (g := gb237) (o := .cells #[.int .i64 a0_0, .bool a0_1, .bool a0_2, .bool a0_3, .bool a0_4, .bool a0_5, .int .i64 a0_6, .int .i64 a0_7, .string a0_8, .string a0_9, .int .u32 a0_10, .int .u32 a0_11] 31 (0, 0)) (bk_ BK237)) : gb237 ≠ gb238)); have n6_ := Aside0.mk ((by rw [hg]; exact Nat.ne_of_gt (blk_lt (g := gb237) (o := .cells #[.int .i64 a0_0, .bool a0_1, .bool a0_2, .bool a0_3, .bool a0_4, .bool a0_5, .int .i64 a0_6, .int .i64 a0_7, .string a0_8, .string a0_9, .int .u32 a0_10, .int .u32 a0_11] 31 (0, 0)) (bk_ BK237)) : gb238 ≠ gb237)); clear BK237; clear HB; have BK237 := n0_; have HB := n1_; have BK238 := n2_; have GW238 := n3_; have GE238 := n4_; have NB237_238 := n5_; have NB238_237 := n6_; clear n0_ n1_ n2_ n3_ n4_ n5_ n6_; clear hb hbox hg; have hnb10 := NB237_238.out; have hnc10 := NB238_237.out; have hcz11_0 : w9.cell? ⟨gb237, 0, none⟩ = some (.int .i64 a0_0) := (blk_cell BK237.out 0).trans rfl; have hcz11_1 : w9.cell? ⟨gb237, 1, none⟩ = some (.bool a0_1) := (blk_cell BK237.out 1).trans rfl; have hcz11_2 : w9.cell? ⟨gb237, 2, none⟩ = some (.bool a0_2) := (blk_cell BK237.out 2).trans rfl; have hcz11_3 : w9.cell? ⟨gb237, 3, none⟩ = some (.bool a0_3) := (blk_cell BK237.out 3).trans rfl; have hcz11_4 : w9.cell? ⟨gb237, 4, none⟩ = some (.bool a0_4) := (blk_cell BK237.out 4).trans rfl; have hcz11_5 : w9.cell? ⟨gb237, 5, none⟩ = some (.bool a0_5) := (blk_cell BK237.out 5).trans rfl; have hcz11_6 : w9.cell? ⟨gb237, 6, none⟩ = some (.int .i64 a0_6) := (blk_cell BK237.out 6).trans rfl; have hcz11_7 : w9.cell? ⟨gb237, 7, none⟩ = some (.int .i64 a0_7) := (blk_cell BK237.out 7).trans rfl; have hcz11_8 : w9.cell? ⟨gb237, 8, none⟩ = some (.string a0_8) := (blk_cell BK237.out 8).trans rfl; have hcz11_9 : w9.cell? ⟨gb237, 9, none⟩ = some (.string a0_9) := (blk_cell BK237.out 9).trans rfl; have hcz11_10 : w9.cell? ⟨gb237, 10, none⟩ = some (.int .u32 a0_10) := (blk_cell BK237.out 10).trans rfl; have hcz11_11 : w9.cell? ⟨gb237, 11, none⟩ = some (.int .u32 a0_11) := (blk_cell BK237.out 11).trans rfl; have hfz11_0 := blk_frozen BK237.out 0; have hfz11_1 := blk_frozen BK237.out 1; have hfz11_2 := blk_frozen BK237.out 2; have hfz11_3 := blk_frozen BK237.out 3; have hfz11_4 := blk_frozen BK237.out 4; have hfz11_5 := blk_frozen BK237.out 5; have hfz11_6 := blk_frozen BK237.out 6; have hfz11_7 := blk_frozen BK237.out 7; have hfz11_8 := blk_frozen BK237.out 8; have hfz11_9 := blk_frozen BK237.out 9; have hfz11_10 := blk_frozen BK237.out 10; have hfz11_11 := blk_frozen BK237.out 11; have hcz12_0 : w9.cell? ⟨gb238, 0, none⟩ = some (.int .i64 a1_0) := (blk_cell BK238.out 0).trans rfl; have hcz12_1 : w9.cell? ⟨gb238, 1, none⟩ = some (.bool a1_1) := (blk_cell BK238.out 1).trans rfl; have hcz12_2 : w9.cell? ⟨gb238, 2, none⟩ = some (.bool a1_2) := (blk_cell BK238.out 2).trans rfl; have hcz12_3 : w9.cell? ⟨gb238, 3, none⟩ = some (.bool a1_3) := (blk_cell BK238.out 3).trans rfl; have hcz12_4 : w9.cell? ⟨gb238, 4, none⟩ = some (.bool a1_4) := (blk_cell BK238.out 4).trans rfl; have hcz12_5 : w9.cell? ⟨gb238, 5, none⟩ = some (.bool a1_5) := (blk_cell BK238.out 5).trans rfl; have hcz12_6 : w9.cell? ⟨gb238, 6, none⟩ = some (.int .i64 a1_6) := (blk_cell BK238.out 6).trans rfl; have hcz12_7 : w9.cell? ⟨gb238, 7, none⟩ = some (.int .i64 a1_7) := (blk_cell BK238.out 7).trans rfl; have hcz12_8 : w9.cell? ⟨gb238, 8, none⟩ = some (.string a1_8) := (blk_cell BK238.out 8).trans rfl; have hcz12_9 : w9.cell? ⟨gb238, 9, none⟩ = some (.string a1_9) := (blk_cell BK238.out 9).trans rfl; have hcz12_10 : w9.cell? ⟨gb238, 10, none⟩ = some (.int .u32 a1_10) := (blk_cell BK238.out 10).trans rfl; have hcz12_11 : w9.cell? ⟨gb238, 11, none⟩ = some (.int .u32 a1_11) := (blk_cell BK238.out 11).trans rfl; have hfz12_0 := blk_frozen BK238.out 0; have hfz12_1 := blk_frozen BK238.out 1; have hfz12_2 := blk_frozen BK238.out 2; have hfz12_3 := blk_frozen BK238.out 3; have hfz12_4 := blk_frozen BK238.out 4; have hfz12_5 := blk_frozen BK238.out 5; have hfz12_6 := blk_frozen BK238.out 6; have hfz12_7 := blk_frozen BK238.out 7; have hfz12_8 := blk_frozen BK238.out 8; have hfz12_9 := blk_frozen BK238.out 9; have hfz12_10 := blk_frozen BK238.out 10; have hfz12_11 := blk_frozen BK238.out 11) | (go_at_call 34; (with_reducible refine (headgateref21_Same.calls a0_2 a0_3 a0_4 a0_5 a0_6 a0_7 a0_8 a0_9 a1_2 a1_3 a1_4 a1_5 a1_6 a1_7 a1_8 a1_9 true _ A5.out).mono ?_); rintro e w13 ⟨rfl, hb⟩; have n0_ := Aside0.mk (blk_below (bk_ BK237) hb); have n1_ := Aside0.mk (blk_below (bk_ BK238) hb); have n2_ := Aside0.mk (below_step (hb_ HB) hb); clear BK237; clear BK238; clear HB; have BK237 := n0_; have BK238 := n1_; have HB := n2_; clear n0_ n1_ n2_; (try clear hb); (try clear hb2); (try clear hk); (try clear hi); have hcz14_0 : w13.cell? ⟨gb237, 0, none⟩ = some (.int .i64 a0_0) := (blk_cell BK237.out 0).trans rfl; have hcz14_1 : w13.cell? ⟨gb237, 1, none⟩ = some (.bool a0_1) := (blk_cell BK237.out 1).trans rfl; have hcz14_2 : w13.cell? ⟨gb237, 2, none⟩ = some (.bool a0_2) := (blk_cell BK237.out 2).trans rfl; have hcz14_3 : w13.cell? ⟨gb237, 3, none⟩ = some (.bool a0_3) := (blk_cell BK237.out 3).trans rfl; have hcz14_4 : w13.cell? ⟨gb237, 4, none⟩ = some (.bool a0_4) := (blk_cell BK237.out 4).trans rfl; have hcz14_5 : w13.cell? ⟨gb237, 5, none⟩ = some (.bool a0_5) := (blk_cell BK237.out 5).trans rfl; have hcz14_6 : w13.cell? ⟨gb237, 6, none⟩ = some (.int .i64 a0_6) := (blk_cell BK237.out 6).trans rfl; have hcz14_7 : w13.cell? ⟨gb237, 7, none⟩ = some (.int .i64 a0_7) := (blk_cell BK237.out 7).trans rfl; have hcz14_8 : w13.cell? ⟨gb237, 8, none⟩ = some (.string a0_8) := (blk_cell BK237.out 8).trans rfl; have hcz14_9 : w13.cell? ⟨gb237, 9, none⟩ = some (.string a0_9) := (blk_cell BK237.out 9).trans rfl; have hcz14_10 : w13.cell? ⟨gb237, 10, none⟩ = some (.int .u32 a0_10) := (blk_cell BK237.out 10).trans rfl; have hcz14_11 : w13.cell? ⟨gb237, 11, none⟩ = some (.int .u32 a0_11) := (blk_cell BK237.out 11).trans rfl; have hfz14_0 := blk_frozen BK237.out 0; have hfz14_1 := blk_frozen BK237.out 1; have hfz14_2 := blk_frozen BK237.out 2; have hfz14_3 := blk_frozen BK237.out 3; have hfz14_4 := blk_frozen BK237.out 4; have hfz14_5 := blk_frozen BK237.out 5; have hfz14_6 := blk_frozen BK237.out 6; have hfz14_7 := blk_frozen BK237.out 7; have hfz14_8 := blk_frozen BK237.out 8; have hfz14_9 := blk_frozen BK237.out 9; have hfz14_10 := blk_frozen BK237.out 10; have hfz14_11 := blk_frozen BK237.out 11; have hcz15_0 : w13.cell? ⟨gb238, 0, none⟩ = some (.int .i64 a1_0) := (blk_cell BK238.out 0).trans rfl; have hcz15_1 : w13.cell? ⟨gb238, 1, none⟩ = some (.bool a1_1) := (blk_cell BK238.out 1).trans rfl; have hcz15_2 : w13.cell? ⟨gb238, 2, none⟩ = some (.bool a1_2) := (blk_cell BK238.out 2).trans rfl; have hcz15_3 : w13.cell? ⟨gb238, 3, none⟩ = some (.bool a1_3) := (blk_cell BK238.out 3).trans rfl; have hcz15_4 : w13.cell? ⟨gb238, 4, none⟩ = some (.bool a1_4) := (blk_cell BK238.out 4).trans rfl; have hcz15_5 : w13.cell? ⟨gb238, 5, none⟩ = some (.bool a1_5) := (blk_cell BK238.out 5).trans rfl; have hcz15_6 : w13.cell? ⟨gb238, 6, none⟩ = some (.int .i64 a1_6) := (blk_cell BK238.out 6).trans rfl; have hcz15_7 : w13.cell? ⟨gb238, 7, none⟩ = some (.int .i64 a1_7) := (blk_cell BK238.out 7).trans rfl; have hcz15_8 : w13.cell? ⟨gb238, 8, none⟩ = some (.string a1_8) := (blk_cell BK238.out 8).trans rfl; have hcz15_9 : w13.cell? ⟨gb238, 9, none⟩ = some (.string a1_9) := (blk_cell BK238.out 9).trans rfl; have hcz15_10 : w13.cell? ⟨gb238, 10, none⟩ = some (.int .u32 a1_10) := (blk_cell BK238.out 10).trans rfl; have hcz15_11 : w13.cell? ⟨gb238, 11, none⟩ = some (.int .u32 a1_11) := (blk_cell BK238.out 11).trans rfl; have hfz15_0 := blk_frozen BK238.out 0; have hfz15_1 := blk_frozen BK238.out 1; have hfz15_2 := blk_frozen BK238.out 2; have hfz15_3 := blk_frozen BK238.out 3; have hfz15_4 := blk_frozen BK238.out 4; have hfz15_5 := blk_frozen BK238.out 5; have hfz15_6 := blk_frozen BK238.out 6; have hfz15_7 := blk_frozen BK238.out 7; have hfz15_8 := blk_frozen BK238.out 8; have hfz15_9 := blk_frozen BK238.out 9; have hfz15_10 := blk_frozen BK238.out 10; have hfz15_11 := blk_frozen BK238.out 11))
  go_ret
  exact ⟨by first | rfl | (simp [errW_none, errW_some] <;> rfl) | (simp [*, errW_none, errW_some] <;> rfl) | (simp [bt, *]; done) | (unfold bt; simp [*]; done), by repeat (first | (with_reducible first | exact HB.out | apply below_alloc | apply pw_below_drewN | apply below_drew1 | refine below_set ?_ GE237.out | refine below_set ?_ GE238.out) | exact HB.out)⟩
 rw [if_neg c7] at H
 have c7b0 : (a0_10 == a1_10) = false := beq_eq_false_iff_ne.mpr c7
 have c7b1 : (a0_10 != a1_10) = true := bne_iff_ne.mpr c7
 obtain rfl := Option.some.inj H
 go_enter Tryz.func11, Tryz.ntmps11
 go_wp2_with (first | ((with_reducible refine gate_dst (N := 2) rfl ?_); refine box_event ?hg (N := 2) ?hd (cs := #[.int .i64 a0_0, .bool a0_1, .bool a0_2, .bool a0_3, .bool a0_4, .bool a0_5, .int .i64 a0_6, .int .i64 a0_7, .string a0_8, .string a0_9, .int .u32 a0_10, .int .u32 a0_11]) (t := 31) ?hr ?_; (case hd => rfl); (case hg => rfl); (case hr => first | (go_simp; done) | (go_simp; rfl)); intro gb237 hg w16 hbox hb; have n0_ := Aside0.mk (below_step (hb_ HB) hb); have n1_ := Aside0.mk (hbox); have n2_ := Aside0.mk ((by rw [hg]; exact (below_size (hb_ HB)) : w.heap.size ≤ gb237)); have n3_ := Aside0.mk ((by rw [hg]; exact (below_size (hb_ HB)) : w.heap.size ≤ gb237)); clear HB; have HB := n0_; have BK237 := n1_; have GW237 := n2_; have GE237 := n3_; clear n0_ n1_ n2_ n3_; clear hb hbox hg) | ((with_reducible refine gate_dst (N := 3) rfl ?_); refine box_event ?hg (N := 3) ?hd (cs := #[.int .i64 a1_0, .bool a1_1, .bool a1_2, .bool a1_3, .bool a1_4, .bool a1_5, .int .i64 a1_6, .int .i64 a1_7, .string a1_8, .string a1_9, .int .u32 a1_10, .int .u32 a1_11]) (t := 31) ?hr ?_; (case hd => rfl); (case hg => rfl); (case hr => first | (go_simp; done) | (go_simp; rfl)); intro gb238 hg w17 hbox hb; have n0_ := Aside0.mk (blk_below (bk_ BK237) hb); have n1_ := Aside0.mk (below_step (hb_ HB) hb); have n2_ := Aside0.mk (hbox); have n3_ := Aside0.mk ((by rw [hg]; exact (below_size (hb_ HB)) : w.heap.size ≤ gb238)); have n4_ := Aside0.mk ((by rw [hg]; exact (below_size (hb_ HB)) : w.heap.size ≤ gb238)); have n5_ := Aside0.mk ((by rw [hg]; exact Nat.ne_of_lt (blk_lt (g := gb237) (o := .cells #[.int .i64 a0_0, .bool a0_1, .bool a0_2, .bool a0_3, .bool a0_4, .bool a0_5, .int .i64 a0_6, .int .i64 a0_7, .string a0_8, .string a0_9, .int .u32 a0_10, .int .u32 a0_11] 31 (0, 0)) (bk_ BK237)) : gb237 ≠ gb238)); have n6_ := Aside0.mk ((by rw [hg]; exact Nat.ne_of_gt (blk_lt (g := gb237) (o := .cells #[.int .i64 a0_0, .bool a0_1, .bool a0_2, .bool a0_3, .bool a0_4, .bool a0_5, .int .i64 a0_6, .int .i64 a0_7, .string a0_8, .string a0_9, .int .u32 a0_10, .int .u32 a0_11] 31 (0, 0)) (bk_ BK237)) : gb238 ≠ gb237)); clear BK237; clear HB; have BK237 := n0_; have HB := n1_; have BK238 := n2_; have GW238 := n3_; have GE238 := n4_; have NB237_238 := n5_; have NB238_237 := n6_; clear n0_ n1_ n2_ n3_ n4_ n5_ n6_; clear hb hbox hg; have hnb18 := NB237_238.out; have hnc18 := NB238_237.out; have hcz19_0 : w17.cell? ⟨gb237, 0, none⟩ = some (.int .i64 a0_0) := (blk_cell BK237.out 0).trans rfl; have hcz19_1 : w17.cell? ⟨gb237, 1, none⟩ = some (.bool a0_1) := (blk_cell BK237.out 1).trans rfl; have hcz19_2 : w17.cell? ⟨gb237, 2, none⟩ = some (.bool a0_2) := (blk_cell BK237.out 2).trans rfl; have hcz19_3 : w17.cell? ⟨gb237, 3, none⟩ = some (.bool a0_3) := (blk_cell BK237.out 3).trans rfl; have hcz19_4 : w17.cell? ⟨gb237, 4, none⟩ = some (.bool a0_4) := (blk_cell BK237.out 4).trans rfl; have hcz19_5 : w17.cell? ⟨gb237, 5, none⟩ = some (.bool a0_5) := (blk_cell BK237.out 5).trans rfl; have hcz19_6 : w17.cell? ⟨gb237, 6, none⟩ = some (.int .i64 a0_6) := (blk_cell BK237.out 6).trans rfl; have hcz19_7 : w17.cell? ⟨gb237, 7, none⟩ = some (.int .i64 a0_7) := (blk_cell BK237.out 7).trans rfl; have hcz19_8 : w17.cell? ⟨gb237, 8, none⟩ = some (.string a0_8) := (blk_cell BK237.out 8).trans rfl; have hcz19_9 : w17.cell? ⟨gb237, 9, none⟩ = some (.string a0_9) := (blk_cell BK237.out 9).trans rfl; have hcz19_10 : w17.cell? ⟨gb237, 10, none⟩ = some (.int .u32 a0_10) := (blk_cell BK237.out 10).trans rfl; have hcz19_11 : w17.cell? ⟨gb237, 11, none⟩ = some (.int .u32 a0_11) := (blk_cell BK237.out 11).trans rfl; have hfz19_0 := blk_frozen BK237.out 0; have hfz19_1 := blk_frozen BK237.out 1; have hfz19_2 := blk_frozen BK237.out 2; have hfz19_3 := blk_frozen BK237.out 3; have hfz19_4 := blk_frozen BK237.out 4; have hfz19_5 := blk_frozen BK237.out 5; have hfz19_6 := blk_frozen BK237.out 6; have hfz19_7 := blk_frozen BK237.out 7; have hfz19_8 := blk_frozen BK237.out 8; have hfz19_9 := blk_frozen BK237.out 9; have hfz19_10 := blk_frozen BK237.out 10; have hfz19_11 := blk_frozen BK237.out 11; have hcz20_0 : w17.cell? ⟨gb238, 0, none⟩ = some (.int .i64 a1_0) := (blk_cell BK238.out 0).trans rfl; have hcz20_1 : w17.cell? ⟨gb238, 1, none⟩ = some (.bool a1_1) := (blk_cell BK238.out 1).trans rfl; have hcz20_2 : w17.cell? ⟨gb238, 2, none⟩ = some (.bool a1_2) := (blk_cell BK238.out 2).trans rfl; have hcz20_3 : w17.cell? ⟨gb238, 3, none⟩ = some (.bool a1_3) := (blk_cell BK238.out 3).trans rfl; have hcz20_4 : w17.cell? ⟨gb238, 4, none⟩ = some (.bool a1_4) := (blk_cell BK238.out 4).trans rfl; have hcz20_5 : w17.cell? ⟨gb238, 5, none⟩ = some (.bool a1_5) := (blk_cell BK238.out 5).trans rfl; have hcz20_6 : w17.cell? ⟨gb238, 6, none⟩ = some (.int .i64 a1_6) := (blk_cell BK238.out 6).trans rfl; have hcz20_7 : w17.cell? ⟨gb238, 7, none⟩ = some (.int .i64 a1_7) := (blk_cell BK238.out 7).trans rfl; have hcz20_8 : w17.cell? ⟨gb238, 8, none⟩ = some (.string a1_8) := (blk_cell BK238.out 8).trans rfl; have hcz20_9 : w17.cell? ⟨gb238, 9, none⟩ = some (.string a1_9) := (blk_cell BK238.out 9).trans rfl; have hcz20_10 : w17.cell? ⟨gb238, 10, none⟩ = some (.int .u32 a1_10) := (blk_cell BK238.out 10).trans rfl; have hcz20_11 : w17.cell? ⟨gb238, 11, none⟩ = some (.int .u32 a1_11) := (blk_cell BK238.out 11).trans rfl; have hfz20_0 := blk_frozen BK238.out 0; have hfz20_1 := blk_frozen BK238.out 1; have hfz20_2 := blk_frozen BK238.out 2; have hfz20_3 := blk_frozen BK238.out 3; have hfz20_4 := blk_frozen BK238.out 4; have hfz20_5 := blk_frozen BK238.out 5; have hfz20_6 := blk_frozen BK238.out 6; have hfz20_7 := blk_frozen BK238.out 7; have hfz20_8 := blk_frozen BK238.out 8; have hfz20_9 := blk_frozen BK238.out 9; have hfz20_10 := blk_frozen BK238.out 10; have hfz20_11 := blk_frozen BK238.out 11) | (go_at_call 34; (with_reducible refine (headgateref21_Same.calls a0_2 a0_3 a0_4 a0_5 a0_6 a0_7 a0_8 a0_9 a1_2 a1_3 a1_4 a1_5 a1_6 a1_7 a1_8 a1_9 true _ A5.out).mono ?_); rintro e w21 ⟨rfl, hb⟩; have n0_ := Aside0.mk (blk_below (bk_ BK237) hb); have n1_ := Aside0.mk (blk_below (bk_ BK238) hb); have n2_ := Aside0.mk (below_step (hb_ HB) hb); clear BK237; clear BK238; clear HB; have BK237 := n0_; have BK238 := n1_; have HB := n2_; clear n0_ n1_ n2_; (try clear hb); (try clear hb2); (try clear hk); (try clear hi); have hcz22_0 : w21.cell? ⟨gb237, 0, none⟩ = some (.int .i64 a0_0) := (blk_cell BK237.out 0).trans rfl; have hcz22_1 : w21.cell? ⟨gb237, 1, none⟩ = some (.bool a0_1) := (blk_cell BK237.out 1).trans rfl; have hcz22_2 : w21.cell? ⟨gb237, 2, none⟩ = some (.bool a0_2) := (blk_cell BK237.out 2).trans rfl; have hcz22_3 : w21.cell? ⟨gb237, 3, none⟩ = some (.bool a0_3) := (blk_cell BK237.out 3).trans rfl; have hcz22_4 : w21.cell? ⟨gb237, 4, none⟩ = some (.bool a0_4) := (blk_cell BK237.out 4).trans rfl; have hcz22_5 : w21.cell? ⟨gb237, 5, none⟩ = some (.bool a0_5) := (blk_cell BK237.out 5).trans rfl; have hcz22_6 : w21.cell? ⟨gb237, 6, none⟩ = some (.int .i64 a0_6) := (blk_cell BK237.out 6).trans rfl; have hcz22_7 : w21.cell? ⟨gb237, 7, none⟩ = some (.int .i64 a0_7) := (blk_cell BK237.out 7).trans rfl; have hcz22_8 : w21.cell? ⟨gb237, 8, none⟩ = some (.string a0_8) := (blk_cell BK237.out 8).trans rfl; have hcz22_9 : w21.cell? ⟨gb237, 9, none⟩ = some (.string a0_9) := (blk_cell BK237.out 9).trans rfl; have hcz22_10 : w21.cell? ⟨gb237, 10, none⟩ = some (.int .u32 a0_10) := (blk_cell BK237.out 10).trans rfl; have hcz22_11 : w21.cell? ⟨gb237, 11, none⟩ = some (.int .u32 a0_11) := (blk_cell BK237.out 11).trans rfl; have hfz22_0 := blk_frozen BK237.out 0; have hfz22_1 := blk_frozen BK237.out 1; have hfz22_2 := blk_frozen BK237.out 2; have hfz22_3 := blk_frozen BK237.out 3; have hfz22_4 := blk_frozen BK237.out 4; have hfz22_5 := blk_frozen BK237.out 5; have hfz22_6 := blk_frozen BK237.out 6; have hfz22_7 := blk_frozen BK237.out 7; have hfz22_8 := blk_frozen BK237.out 8; have hfz22_9 := blk_frozen BK237.out 9; have hfz22_10 := blk_frozen BK237.out 10; have hfz22_11 := blk_frozen BK237.out 11; have hcz23_0 : w21.cell? ⟨gb238, 0, none⟩ = some (.int .i64 a1_0) := (blk_cell BK238.out 0).trans rfl; have hcz23_1 : w21.cell? ⟨gb238, 1, none⟩ = some (.bool a1_1) := (blk_cell BK238.out 1).trans rfl; have hcz23_2 : w21.cell? ⟨gb238, 2, none⟩ = some (.bool a1_2) := (blk_cell BK238.out 2).trans rfl; have hcz23_3 : w21.cell? ⟨gb238, 3, none⟩ = some (.bool a1_3) := (blk_cell BK238.out 3).trans rfl; have hcz23_4 : w21.cell? ⟨gb238, 4, none⟩ = some (.bool a1_4) := (blk_cell BK238.out 4).trans rfl; have hcz23_5 : w21.cell? ⟨gb238, 5, none⟩ = some (.bool a1_5) := (blk_cell BK238.out 5).trans rfl; have hcz23_6 : w21.cell? ⟨gb238, 6, none⟩ = some (.int .i64 a1_6) := (blk_cell BK238.out 6).trans rfl; have hcz23_7 : w21.cell? ⟨gb238, 7, none⟩ = some (.int .i64 a1_7) := (blk_cell BK238.out 7).trans rfl; have hcz23_8 : w21.cell? ⟨gb238, 8, none⟩ = some (.string a1_8) := (blk_cell BK238.out 8).trans rfl; have hcz23_9 : w21.cell? ⟨gb238, 9, none⟩ = some (.string a1_9) := (blk_cell BK238.out 9).trans rfl; have hcz23_10 : w21.cell? ⟨gb238, 10, none⟩ = some (.int .u32 a1_10) := (blk_cell BK238.out 10).trans rfl; have hcz23_11 : w21.cell? ⟨gb238, 11, none⟩ = some (.int .u32 a1_11) := (blk_cell BK238.out 11).trans rfl; have hfz23_0 := blk_frozen BK238.out 0; have hfz23_1 := blk_frozen BK238.out 1; have hfz23_2 := blk_frozen BK238.out 2; have hfz23_3 := blk_frozen BK238.out 3; have hfz23_4 := blk_frozen BK238.out 4; have hfz23_5 := blk_frozen BK238.out 5; have hfz23_6 := blk_frozen BK238.out 6; have hfz23_7 := blk_frozen BK238.out 7; have hfz23_8 := blk_frozen BK238.out 8; have hfz23_9 := blk_frozen BK238.out 9; have hfz23_10 := blk_frozen BK238.out 10; have hfz23_11 := blk_frozen BK238.out 11))
 go_ret
 exact ⟨by first | rfl | (simp [errW_none, errW_some] <;> rfl) | (simp [*, errW_none, errW_some] <;> rfl) | (simp [bt, *]; done) | (unfold bt; simp [*]; done), by repeat (first | (with_reducible first | exact HB.out | apply below_alloc | apply pw_below_drewN | apply below_drew1 | refine below_set ?_ GE237.out | refine below_set ?_ GE238.out) | exact HB.out)⟩
end Go.Proofs.YthglbmihbmneaaaGreatDoor.P
namespace Go.Proofs.YthglbmihbmneaaaGreatDoor.P
open Go.RowKit Go.Proofs.YthglbmihbmneaaaGreatDoorW.PrintWords Go.Proofs.YthglbmihbmneaaaGreatDoorW.PrintLast Go.Proofs.YthglbmihbmneaaaGreatDoorW.PrintMore
attribute [local go_sem] max2_int min2_int max_two min_two max_three min_three max_four min_four   -- for this text's walks alone
set_option linter.unusedVariables false
set_option linter.unusedSimpArgs false
set_option linter.unnecessarySimpa false
def headgatelaw21_Own.f (a0_0 : Bool) (a0_1 : Bool) (a0_2 : Bool) (a0_3 : Bool) (a0_4 : Int) (a0_5 : Int) (a0_6 : ByteArray) (a0_7 : ByteArray) : Option (Bool × Bool × Bool × Bool × Int × Int × ByteArray × ByteArray) := some (a0_0, a0_1, a0_2, a0_3, a0_4, a0_5, a0_6, a0_7)
set_option maxHeartbeats 8000000 in
set_option maxRecDepth 100000 in
theorem headgatelaw21_Own.calls (a0_0 : Bool) (a0_1 : Bool) (a0_2 : Bool) (a0_3 : Bool) (a0_4 : Int) (a0_5 : Int) (a0_6 : ByteArray) (a0_7 : ByteArray) (r1 : Bool) (r2 : Bool) (r3 : Bool) (r4 : Bool) (r5 : Int) (r6 : Int) (r7 : ByteArray) (r8 : ByteArray) (w : World) (h : headgatelaw21_Own.f a0_0 a0_1 a0_2 a0_3 a0_4 a0_5 a0_6 a0_7 = some (r1, r2, r3, r4, r5, r6, r7, r8)) :
    Calls Tryz.prog 35 #[.agg #[.bool a0_0, .bool a0_1, .bool a0_2, .bool a0_3, .int .i64 a0_4, .int .i64 a0_5, .string a0_6, .string a0_7]] w fun e w' => e = .returned (.agg #[.bool r1, .bool r2, .bool r3, .bool r4, .int .i64 r5, .int .i64 r6, .string r7, .string r8]) ∧ Below w.heap.size w w' := by
  have hu24 := Tryz.underlying24
  have hu29 := Tryz.underlying29
  have HB := Aside0.mk (Below.refl w.heap.size w)
  have H : (some (a0_0, a0_1, a0_2, a0_3, a0_4, a0_5, a0_6, a0_7)) = some (r1, r2, r3, r4, r5, r6, r7, r8) := h
  clear h
  simp only [Option.some.injEq, Prod.mk.injEq] at H
  obtain ⟨rfl, rfl, rfl, rfl, rfl, rfl, rfl, rfl⟩ := H
  go_enter Tryz.func35, Tryz.ntmps35
  go_wp2_with (first | ((with_reducible refine gate_dst (N := 1) rfl ?_); refine box_event ?hg (N := 1) ?hd (cs := #[.bool a0_0, .bool a0_1, .bool a0_2, .bool a0_3, .int .i64 a0_4, .int .i64 a0_5, .string a0_6, .string a0_7]) (t := 24) ?hr ?_; (case hd => rfl); (case hg => rfl); (case hr => first | (go_simp; done) | (go_simp; rfl)); intro gb240 hg w2 hbox hb; have n0_ := Aside0.mk (below_step (by repeat (first | (with_reducible first | exact HB.out | apply below_alloc | apply pw_below_drewN | apply below_drew1) | exact HB.out)) hb); have n1_ := Aside0.mk (hbox); have n2_ := Aside0.mk ((by rw [hg]; exact (below_size (by repeat (first | (with_reducible first | exact HB.out | apply below_alloc | apply pw_below_drewN | apply below_drew1) | exact HB.out))) : w.heap.size ≤ gb240)); have n3_ := Aside0.mk ((by rw [hg]; exact (below_size (by repeat (first | (with_reducible first | exact HB.out | apply below_alloc | apply pw_below_drewN | apply below_drew1) | exact HB.out))) : w.heap.size ≤ gb240)); clear HB; have HB := n0_; have BK240 := n1_; have GW240 := n2_; have GE240 := n3_; clear n0_ n1_ n2_ n3_; clear hb hbox hg) | ((with_reducible refine gate_dst (N := 2) rfl ?_); refine box_event ?hg (N := 2) ?hd (cs := #[.bool false, .bool false, .bool false, .bool false, .int .i64 0, .int .i64 0, .string (⟨#[]⟩ : ByteArray), .string (⟨#[]⟩ : ByteArray)]) (t := 29) ?hr ?_; (case hd => rfl); (case hg => rfl); (case hr => first | (go_simp; done) | (go_simp; rfl)); intro gb241 hg w3 hbox hb; have n0_ := Aside0.mk (blk_below (g := gb240) (o := .cells #[.bool a0_0, .bool a0_1, .bool a0_2, .bool a0_3, .int .i64 a0_4, .int .i64 a0_5, .string a0_6, .string a0_7] 24 (0, 0)) (by (with_reducible repeat (first | refine blk_drewN ?_ _ | refine blk_drew ?_ | refine blk_alloc ?_ _)); exact BK240.out) hb); have n1_ := Aside0.mk (below_step (by repeat (first | (with_reducible first | exact HB.out | apply below_alloc | apply pw_below_drewN | apply below_drew1 | refine below_set ?_ GE240.out) | exact HB.out)) hb); have n2_ := Aside0.mk (hbox); have n3_ := Aside0.mk ((by rw [hg]; exact (below_size (by repeat (first | (with_reducible first | exact HB.out | apply below_alloc | apply pw_below_drewN | apply below_drew1 | refine below_set ?_ GE240.out) | exact HB.out))) : w.heap.size ≤ gb241)); have n4_ := Aside0.mk ((by rw [hg]; exact (below_size (by repeat (first | (with_reducible first | exact HB.out | apply below_alloc | apply pw_below_drewN | apply below_drew1 | refine below_set ?_ GE240.out) | exact HB.out))) : w.heap.size ≤ gb241)); have n5_ := Aside0.mk ((by rw [hg]; exact Nat.ne_of_lt (blk_lt (g := gb240) (o := .cells #[.bool a0_0, .bool a0_1, .bool a0_2, .bool a0_3, .int .i64 a0_4, .int .i64 a0_5, .string a0_6, .string a0_7] 24 (0, 0)) (by (with_reducible repeat (first | refine blk_drewN ?_ _ | refine blk_drew ?_ | refine blk_alloc ?_ _)); exact BK240.out)) : gb240 ≠ gb241)); have n6_ := Aside0.mk ((by rw [hg]; exact Nat.ne_of_gt (blk_lt (g := gb240) (o := .cells #[.bool a0_0, .bool a0_1, .bool a0_2, .bool a0_3, .int .i64 a0_4, .int .i64 a0_5, .string a0_6, .string a0_7] 24 (0, 0)) (by (with_reducible repeat (first | refine blk_drewN ?_ _ | refine blk_drew ?_ | refine blk_alloc ?_ _)); exact BK240.out)) : gb241 ≠ gb240)); clear BK240; clear HB; have BK240 := n0_; have HB := n1_; have BK241 := n2_; have GW241 := n3_; have GE241 := n4_; have NB240_241 := n5_; have NB241_240 := n6_; clear n0_ n1_ n2_ n3_ n4_ n5_ n6_; clear hb hbox hg; have hnb4 := NB240_241.out; have hnc4 := NB241_240.out; have hcz5_0 : w3.cell? ⟨gb240, 0, none⟩ = some (.bool a0_0) := (blk_cell BK240.out 0).trans rfl; have hcz5_1 : w3.cell? ⟨gb240, 1, none⟩ = some (.bool a0_1) := (blk_cell BK240.out 1).trans rfl; have hcz5_2 : w3.cell? ⟨gb240, 2, none⟩ = some (.bool a0_2) := (blk_cell BK240.out 2).trans rfl; have hcz5_3 : w3.cell? ⟨gb240, 3, none⟩ = some (.bool a0_3) := (blk_cell BK240.out 3).trans rfl; have hcz5_4 : w3.cell? ⟨gb240, 4, none⟩ = some (.int .i64 a0_4) := (blk_cell BK240.out 4).trans rfl; have hcz5_5 : w3.cell? ⟨gb240, 5, none⟩ = some (.int .i64 a0_5) := (blk_cell BK240.out 5).trans rfl; have hcz5_6 : w3.cell? ⟨gb240, 6, none⟩ = some (.string a0_6) := (blk_cell BK240.out 6).trans rfl; have hcz5_7 : w3.cell? ⟨gb240, 7, none⟩ = some (.string a0_7) := (blk_cell BK240.out 7).trans rfl; have hfz5_0 := blk_frozen BK240.out 0; have hfz5_1 := blk_frozen BK240.out 1; have hfz5_2 := blk_frozen BK240.out 2; have hfz5_3 := blk_frozen BK240.out 3; have hfz5_4 := blk_frozen BK240.out 4; have hfz5_5 := blk_frozen BK240.out 5; have hfz5_6 := blk_frozen BK240.out 6; have hfz5_7 := blk_frozen BK240.out 7; have hcz6_0 : w3.cell? ⟨gb241, 0, none⟩ = some (.bool false) := (blk_cell BK241.out 0).trans rfl; have hcz6_1 : w3.cell? ⟨gb241, 1, none⟩ = some (.bool false) := (blk_cell BK241.out 1).trans rfl; have hcz6_2 : w3.cell? ⟨gb241, 2, none⟩ = some (.bool false) := (blk_cell BK241.out 2).trans rfl; have hcz6_3 : w3.cell? ⟨gb241, 3, none⟩ = some (.bool false) := (blk_cell BK241.out 3).trans rfl; have hcz6_4 : w3.cell? ⟨gb241, 4, none⟩ = some (.int .i64 0) := (blk_cell BK241.out 4).trans rfl; have hcz6_5 : w3.cell? ⟨gb241, 5, none⟩ = some (.int .i64 0) := (blk_cell BK241.out 5).trans rfl; have hcz6_6 : w3.cell? ⟨gb241, 6, none⟩ = some (.string (⟨#[]⟩ : ByteArray)) := (blk_cell BK241.out 6).trans rfl; have hcz6_7 : w3.cell? ⟨gb241, 7, none⟩ = some (.string (⟨#[]⟩ : ByteArray)) := (blk_cell BK241.out 7).trans rfl; have hfz6_0 := blk_frozen BK241.out 0; have hfz6_1 := blk_frozen BK241.out 1; have hfz6_2 := blk_frozen BK241.out 2; have hfz6_3 := blk_frozen BK241.out 3; have hfz6_4 := blk_frozen BK241.out 4; have hfz6_5 := blk_frozen BK241.out 5; have hfz6_6 := blk_frozen BK241.out 6; have hfz6_7 := blk_frozen BK241.out 7))
  refine bodyPost_ret (results_cell_row rfl _ _ gb241 29 #[.bool a0_0, .bool a0_1, .bool a0_2, .bool a0_3, .int .i64 a0_4, .int .i64 a0_5, .string a0_6, .string a0_7] (0, 0) _ rfl (by (with_reducible repeat (first | refine blk_drewN ?_ _ | refine blk_drew ?_ | refine blk_alloc ?_ _)); refine blk_put (cs := #[.bool a0_0, .bool a0_1, .bool a0_2, .bool a0_3, .int .i64 a0_4, .int .i64 a0_5, .string a0_6, .string (⟨#[]⟩ : ByteArray)]) ?_ 7 _ rfl; (with_reducible repeat (first | refine blk_drewN ?_ _ | refine blk_drew ?_ | refine blk_alloc ?_ _)); refine blk_put (cs := #[.bool a0_0, .bool a0_1, .bool a0_2, .bool a0_3, .int .i64 a0_4, .int .i64 a0_5, .string (⟨#[]⟩ : ByteArray), .string (⟨#[]⟩ : ByteArray)]) ?_ 6 _ rfl; (with_reducible repeat (first | refine blk_drewN ?_ _ | refine blk_drew ?_ | refine blk_alloc ?_ _)); refine blk_put (cs := #[.bool a0_0, .bool a0_1, .bool a0_2, .bool a0_3, .int .i64 a0_4, .int .i64 0, .string (⟨#[]⟩ : ByteArray), .string (⟨#[]⟩ : ByteArray)]) ?_ 5 _ rfl; (with_reducible repeat (first | refine blk_drewN ?_ _ | refine blk_drew ?_ | refine blk_alloc ?_ _)); refine blk_put (cs := #[.bool a0_0, .bool a0_1, .bool a0_2, .bool a0_3, .int .i64 0, .int .i64 0, .string (⟨#[]⟩ : ByteArray), .string (⟨#[]⟩ : ByteArray)]) ?_ 4 _ rfl; (with_reducible repeat (first | refine blk_drewN ?_ _ | refine blk_drew ?_ | refine blk_alloc ?_ _)); refine blk_put (cs := #[.bool a0_0, .bool a0_1, .bool a0_2, .bool false, .int .i64 0, .int .i64 0, .string (⟨#[]⟩ : ByteArray), .string (⟨#[]⟩ : ByteArray)]) ?_ 3 _ rfl; (with_reducible repeat (first | refine blk_drewN ?_ _ | refine blk_drew ?_ | refine blk_alloc ?_ _)); refine blk_put (cs := #[.bool a0_0, .bool a0_1, .bool false, .bool false, .int .i64 0, .int .i64 0, .string (⟨#[]⟩ : ByteArray), .string (⟨#[]⟩ : ByteArray)]) ?_ 2 _ rfl; (with_reducible repeat (first | refine blk_drewN ?_ _ | refine blk_drew ?_ | refine blk_alloc ?_ _)); refine blk_put (cs := #[.bool a0_0, .bool false, .bool false, .bool false, .int .i64 0, .int .i64 0, .string (⟨#[]⟩ : ByteArray), .string (⟨#[]⟩ : ByteArray)]) ?_ 1 _ rfl; (with_reducible repeat (first | refine blk_drewN ?_ _ | refine blk_drew ?_ | refine blk_alloc ?_ _)); refine blk_put (cs := #[.bool false, .bool false, .bool false, .bool false, .int .i64 0, .int .i64 0, .string (⟨#[]⟩ : ByteArray), .string (⟨#[]⟩ : ByteArray)]) ?_ 0 _ rfl; (with_reducible repeat (first | refine blk_drewN ?_ _ | refine blk_drew ?_ | refine blk_alloc ?_ _)); exact BK241.out) Tryz.underlying29 rfl (by kernel_rfl)) rfl ?_
  exact ⟨by first | rfl | (simp [errW_none, errW_some] <;> rfl) | (simp [*, errW_none, errW_some] <;> rfl) | (simp [bt, *]; done) | (unfold bt; simp [*]; done), by repeat (first | (with_reducible first | exact HB.out | apply below_alloc | apply pw_below_drewN | apply below_drew1 | refine below_set ?_ GE240.out | refine below_set ?_ GE241.out) | exact HB.out)⟩
def headgatelaw22_Own.f (a0_0 : Int) (a0_1 : Bool) (a0_2 : Bool) (a0_3 : Bool) (a0_4 : Bool) (a0_5 : Bool) (a0_6 : Int) (a0_7 : Int) (a0_8 : ByteArray) (a0_9 : ByteArray) (a0_10 : Int) (a0_11 : Int) : Option (Int × Bool × Bool × Bool × Bool × Bool × Int × Int × ByteArray × ByteArray × Int × Int) := (headgatelaw21_Own.f a0_2 a0_3 a0_4 a0_5 a0_6 a0_7 a0_8 a0_9).bind fun bt244 => (some (a0_0, a0_1, bt244.1, bt244.2.1, bt244.2.2.1, bt244.2.2.2.1, bt244.2.2.2.2.1, bt244.2.2.2.2.2.1, bt244.2.2.2.2.2.2.1, bt244.2.2.2.2.2.2.2, a0_10, a0_11))
def headgatelaw22_Own.T1 : Bool × List (List Nat × List Nat) := (true, [([], []), ([0], [0]), ([], []), ([2], [2]), ([], []), ([4], [4]), ([5], [5]), ([], []), ([7], [7]), ([], []), ([9], [9]), ([1, 3, 6, 8, 10], [1, 3, 6, 8, 10]), ([11, 6, 0, 1, 2, 3, 4, 5, 6, 7, 8, 9, 10, 11], [11])])
def headgatelaw22_Own.B1 : List Nat := [0, 1, 0, 4, 0, 16, 48, 0, 128, 0, 512, 2047, 4095]
theorem headgatelaw22_Own.tab1 : rtab .any (opsOf Tryz.f12 1) = headgatelaw22_Own.T1 := by kernel_rfl
theorem headgatelaw22_Own.bits1 : waitsOk headgatelaw22_Own.T1.2 headgatelaw22_Own.B1 = true := by kernel_rfl
abbrev d12x0 : Array Bool := #[false, false, false, false, false, false, false, false, false, false, false, false, false]
abbrev d12x1 : Array Bool := dB 13 1
abbrev d12x2 : Array Bool := dB 13 5
abbrev d12x3 : Array Bool := dB 13 21
abbrev d12x4 : Array Bool := dB 13 149
abbrev d12x5 : Array Bool := dB 13 661
abbrev d12x6 : Array Bool := dB 13 663
abbrev d12x7 : Array Bool := dB 13 671
abbrev d12x8 : Array Bool := dB 13 703
abbrev d12x9 : Array Bool := dB 13 959
abbrev d12x10 : Array Bool := dB 13 1983
abbrev d12x11 : Array Bool := dB 13 2047
abbrev d12x12 : Array Bool := dB 13 4095
abbrev d12x13 : Array Bool := dB 13 8191
set_option maxHeartbeats 8000000 in
set_option maxRecDepth 100000 in
theorem headgatelaw22_Own.calls (a0_0 : Int) (a0_1 : Bool) (a0_2 : Bool) (a0_3 : Bool) (a0_4 : Bool) (a0_5 : Bool) (a0_6 : Int) (a0_7 : Int) (a0_8 : ByteArray) (a0_9 : ByteArray) (a0_10 : Int) (a0_11 : Int) (r1 : Int) (r2 : Bool) (r3 : Bool) (r4 : Bool) (r5 : Bool) (r6 : Bool) (r7 : Int) (r8 : Int) (r9 : ByteArray) (r10 : ByteArray) (r11 : Int) (r12 : Int) (w : World) (h : headgatelaw22_Own.f a0_0 a0_1 a0_2 a0_3 a0_4 a0_5 a0_6 a0_7 a0_8 a0_9 a0_10 a0_11 = some (r1, r2, r3, r4, r5, r6, r7, r8, r9, r10, r11, r12)) :
  Calls Tryz.prog 12 #[.agg #[.int .i64 a0_0, .bool a0_1, .bool a0_2, .bool a0_3, .bool a0_4, .bool a0_5, .int .i64 a0_6, .int .i64 a0_7, .string a0_8, .string a0_9, .int .u32 a0_10, .int .u32 a0_11]] w fun e w' => e = .returned (.agg #[.int .i64 r1, .bool r2, .bool r3, .bool r4, .bool r5, .bool r6, .int .i64 r7, .int .i64 r8, .string r9, .string r10, .int .u32 r11, .int .u32 r12]) ∧ Below w.heap.size w w' := by
 have hu27 := Tryz.underlying27
 have hu31 := Tryz.underlying31
 have hu24 := Tryz.underlying24
 have HB := Aside0.mk (Below.refl w.heap.size w)
 have H : ((headgatelaw21_Own.f a0_2 a0_3 a0_4 a0_5 a0_6 a0_7 a0_8 a0_9).bind fun bt244 => (some (a0_0, a0_1, bt244.1, bt244.2.1, bt244.2.2.1, bt244.2.2.2.1, bt244.2.2.2.2.1, bt244.2.2.2.2.2.1, bt244.2.2.2.2.2.2.1, bt244.2.2.2.2.2.2.2, a0_10, a0_11))) = some (r1, r2, r3, r4, r5, r6, r7, r8, r9, r10, r11, r12) := h
 clear h
 replace H := Option.bind_eq_some_iff.mp H
 obtain ⟨⟨t244, t245, t246, t247, t248, t249, t250, t251⟩, A20, H⟩ := H
 try dsimp only at H
 have A2 := Aside0.mk A20
 clear A20
 simp only [Option.some.injEq, Prod.mk.injEq] at H
 obtain ⟨rfl, rfl, rfl, rfl, rfl, rfl, rfl, rfl, rfl, rfl, rfl, rfl⟩ := H
 go_enter Tryz.func12, Tryz.ntmps12
 try go_wp2_with (first | ((with_reducible refine gate_dst (N := 1) rfl ?_); refine box_event ?hg (N := 1) ?hd (cs := #[.int .i64 a0_0, .bool a0_1, .bool a0_2, .bool a0_3, .bool a0_4, .bool a0_5, .int .i64 a0_6, .int .i64 a0_7, .string a0_8, .string a0_9, .int .u32 a0_10, .int .u32 a0_11]) (t := 27) ?hr ?_; (case hd => rfl); (case hg => rfl); (case hr => first | (go_simp; done) | (go_simp; rfl)); intro gb242 hg w3 hbox hb; have n0_ := Aside0.mk (below_step (hb_ HB) hb); have n1_ := Aside0.mk (hbox); have n2_ := Aside0.mk ((by rw [hg]; exact (below_size (hb_ HB)) : w.heap.size ≤ gb242)); have n3_ := Aside0.mk ((by rw [hg]; exact (below_size (hb_ HB)) : w.heap.size ≤ gb242)); clear HB; have HB := n0_; have BK242 := n1_; have GW242 := n2_; have GE242 := n3_; clear n0_ n1_ n2_ n3_; clear hb hbox hg) | ((with_reducible refine gate_dst (N := 2) rfl ?_); refine box_event ?hg (N := 2) ?hd (cs := #[.int .i64 0, .bool false, .bool false, .bool false, .bool false, .bool false, .int .i64 0, .int .i64 0, .string (⟨#[]⟩ : ByteArray), .string (⟨#[]⟩ : ByteArray), .int .u32 0, .int .u32 0]) (t := 31) ?hr ?_; (case hd => rfl); (case hg => rfl); (case hr => first | (go_simp; done) | (go_simp; rfl)); intro gb243 hg w4 hbox hb; have n0_ := Aside0.mk (blk_below (bk_ BK242) hb); have n1_ := Aside0.mk (below_step (hb_ HB) hb); have n2_ := Aside0.mk (hbox); have n3_ := Aside0.mk ((by rw [hg]; exact (below_size (hb_ HB)) : w.heap.size ≤ gb243)); have n4_ := Aside0.mk ((by rw [hg]; exact (below_size (hb_ HB)) : w.heap.size ≤ gb243)); have n5_ := Aside0.mk ((by rw [hg]; exact Nat.ne_of_lt (blk_lt (g := gb242) (o := .cells #[.int .i64 a0_0, .bool a0_1, .bool a0_2, .bool a0_3, .bool a0_4, .bool a0_5, .int .i64 a0_6, .int .i64 a0_7, .string a0_8, .string a0_9, .int .u32 a0_10, .int .u32 a0_11] 27 (0, 0)) (bk_ BK242)) : gb242 ≠ gb243)); have n6_ := Aside0.mk ((by rw [hg]; exact Nat.ne_of_gt (blk_lt (g := gb242) (o := .cells #[.int .i64 a0_0, .bool a0_1, .bool a0_2, .bool a0_3, .bool a0_4, .bool a0_5, .int .i64 a0_6, .int .i64 a0_7, .string a0_8, .string a0_9, .int .u32 a0_10, .int .u32 a0_11] 27 (0, 0)) (bk_ BK242)) : gb243 ≠ gb242)); clear BK242; clear HB; have BK242 := n0_; have HB := n1_; have BK243 := n2_; have GW243 := n3_; have GE243 := n4_; have NB242_243 := n5_; have NB243_242 := n6_; clear n0_ n1_ n2_ n3_ n4_ n5_ n6_; clear hb hbox hg))
 have n0_ := Aside0.mk (blk_drew BK242.out)
 have n1_ := Aside0.mk (blk_drew BK243.out)
 have n2_ := Aside0.mk (below_drew1 HB.out)
 clear BK242
 clear BK243
 clear HB
 have BK242 := n0_
 have BK243 := n1_
 have HB := n2_
 clear n0_ n1_ n2_
 refine start_ (n := 13) (S := fun w' => w'.cell? ⟨gb242, 0, none⟩ = some (.int .i64 a0_0) ∧ w'.cell? ⟨gb242, 1, none⟩ = some (.bool a0_1) ∧ w'.cell? ⟨gb242, 2, none⟩ = some (.bool a0_2) ∧ w'.cell? ⟨gb242, 3, none⟩ = some (.bool a0_3) ∧ w'.cell? ⟨gb242, 4, none⟩ = some (.bool a0_4) ∧ w'.cell? ⟨gb242, 5, none⟩ = some (.bool a0_5) ∧ w'.cell? ⟨gb242, 6, none⟩ = some (.int .i64 a0_6) ∧ w'.cell? ⟨gb242, 7, none⟩ = some (.int .i64 a0_7) ∧ w'.cell? ⟨gb242, 8, none⟩ = some (.string a0_8) ∧ w'.cell? ⟨gb242, 9, none⟩ = some (.string a0_9) ∧ w'.cell? ⟨gb242, 10, none⟩ = some (.int .u32 a0_10) ∧ w'.cell? ⟨gb242, 11, none⟩ = some (.int .u32 a0_11)) (ds := []) d12x0 (by kernel_rfl) rfl rfl ⟨(blk_cell BK242.out 0).trans rfl, (blk_cell BK242.out 1).trans rfl, (blk_cell BK242.out 2).trans rfl, (blk_cell BK242.out 3).trans rfl, (blk_cell BK242.out 4).trans rfl, (blk_cell BK242.out 5).trans rfl, (blk_cell BK242.out 6).trans rfl, (blk_cell BK242.out 7).trans rfl, (blk_cell BK242.out 8).trans rfl, (blk_cell BK242.out 9).trans rfl, (blk_cell BK242.out 10).trans rfl, (blk_cell BK242.out 11).trans rfl⟩ (fun hHeld => ?_); refine with_tabW headgatelaw22_Own.tab1 headgatelaw22_Own.bits1 (fun HT_ HW_ => ?_)
 generalize w4.drew = w5 at BK242 BK243 HB hHeld ⊢
 refine pon_ 0 (some 3) d12x1 HT_.out ?_
 refine pon_ 2 (some 5) d12x2 HT_.out ?_
 refine pon_ 4 (some 7) d12x3 HT_.out ?_
 refine pon_ 7 (some 10) d12x4 HT_.out ?_
 refine pon_ 9 (some 12) d12x5 HT_.out ?_
 refine ptk_ 1 (some 4) d12x6 HT_.out HW_.out hHeld ?_
 refine ptk_ 3 (some 6) d12x7 HT_.out HW_.out hHeld ?_
 refine ptk_ 5 (some 8) d12x8 HT_.out HW_.out hHeld ?_
 refine ptk_ 8 (some 11) d12x9 HT_.out HW_.out hHeld ?_
 refine ptk_ 10 (some 13) d12x10 HT_.out HW_.out hHeld ?_
 refine one_ (i := 6) (N := some 9) d12x11 rfl rfl (one_of HT_.out (by kernel_rfl)) (by decide) (fun K hK => ?_)
 refine goes_ Tryz.func35 (by kernel_rfl) rfl #[.agg #[.bool a0_2, .bool a0_3, .bool a0_4, .bool a0_5, .int .i64 a0_6, .int .i64 a0_7, .string a0_8, .string a0_9]] (by rfl) rfl rfl (by (try simp only [List.map_toArray, List.map_cons, List.map_nil]); first | done | rfl | (simp only [List.length_drop, List.length_take]; rfl)) ?_
 with_reducible refine (headgatelaw21_Own.calls a0_2 a0_3 a0_4 a0_5 a0_6 a0_7 a0_8 a0_9 t244 t245 t246 t247 t248 t249 t250 t251 _ A2.out).mono ?_
 rintro e w6 ⟨rfl, hb⟩
 refine ⟨_, rfl, ?_⟩
 have n0_ := Aside0.mk (blk_below (bk_ BK242) hb)
 have n1_ := Aside0.mk (blk_below (bk_ BK243) hb)
 have n2_ := Aside0.mk (below_step (hb_ HB) hb)
 clear BK242
 clear BK243
 clear HB
 have BK242 := n0_
 have BK243 := n1_
 have HB := n2_
 clear n0_ n1_ n2_
 (try clear hb)
 (try clear hb2)
 (try clear hk)
 (try clear hi)
 refine hK.out _ _ ⟨(blk_cell BK242.out 0).trans rfl, (blk_cell BK242.out 1).trans rfl, (blk_cell BK242.out 2).trans rfl, (blk_cell BK242.out 3).trans rfl, (blk_cell BK242.out 4).trans rfl, (blk_cell BK242.out 5).trans rfl, (blk_cell BK242.out 6).trans rfl, (blk_cell BK242.out 7).trans rfl, (blk_cell BK242.out 8).trans rfl, (blk_cell BK242.out 9).trans rfl, (blk_cell BK242.out 10).trans rfl, (blk_cell BK242.out 11).trans rfl⟩ (fun hHeld => ?_)
 clear hK K
 refine norm_ (a' := ?_) ?_ ?_
 rotate_left
 ·show Act.put _ (some 9) _ = _
  simp only [Act.put, la_, lb_, lc_, i64_w, i32_w]
  rfl
 refine pon_ 11 (some 14) d12x12 HT_.out ?_
 refine one_ (i := 12) (N := none) d12x13 rfl rfl (one_of HT_.out (by kernel_rfl)) (by decide) (fun K hK => ?_)
 have hs7 : w6.cell? ⟨gb243, 0, none⟩ = some (.int .i64 0) := (blk_cell BK243.out 0).trans rfl
 have hfs7 := blk_frozen BK243.out 0
 have hns7_0 := NB242_243.out
 have hms7_0 := NB243_242.out
 have hs8 : w6.cell? ⟨gb243, 1, none⟩ = some (.bool false) := (blk_cell BK243.out 1).trans rfl
 have hfs8 := blk_frozen BK243.out 1
 have hns8_0 := NB242_243.out
 have hms8_0 := NB243_242.out
 have hs9 : w6.cell? ⟨gb243, 2, none⟩ = some (.bool false) := (blk_cell BK243.out 2).trans rfl
 have hfs9 := blk_frozen BK243.out 2
 have hns9_0 := NB242_243.out
 have hms9_0 := NB243_242.out
 have hs10 : w6.cell? ⟨gb243, 3, none⟩ = some (.bool false) := (blk_cell BK243.out 3).trans rfl
 have hfs10 := blk_frozen BK243.out 3
 have hns10_0 := NB242_243.out
 have hms10_0 := NB243_242.out
 have hs11 : w6.cell? ⟨gb243, 4, none⟩ = some (.bool false) := (blk_cell BK243.out 4).trans rfl
 have hfs11 := blk_frozen BK243.out 4
 have hns11_0 := NB242_243.out
 have hms11_0 := NB243_242.out
 have hs12 : w6.cell? ⟨gb243, 5, none⟩ = some (.bool false) := (blk_cell BK243.out 5).trans rfl
 have hfs12 := blk_frozen BK243.out 5
 have hns12_0 := NB242_243.out
 have hms12_0 := NB243_242.out
 have hs13 : w6.cell? ⟨gb243, 6, none⟩ = some (.int .i64 0) := (blk_cell BK243.out 6).trans rfl
 have hfs13 := blk_frozen BK243.out 6
 have hns13_0 := NB242_243.out
 have hms13_0 := NB243_242.out
 have hs14 : w6.cell? ⟨gb243, 7, none⟩ = some (.int .i64 0) := (blk_cell BK243.out 7).trans rfl
 have hfs14 := blk_frozen BK243.out 7
 have hns14_0 := NB242_243.out
 have hms14_0 := NB243_242.out
 have hs15 : w6.cell? ⟨gb243, 8, none⟩ = some (.string (⟨#[]⟩ : ByteArray)) := (blk_cell BK243.out 8).trans rfl
 have hfs15 := blk_frozen BK243.out 8
 have hns15_0 := NB242_243.out
 have hms15_0 := NB243_242.out
 have hs16 : w6.cell? ⟨gb243, 9, none⟩ = some (.string (⟨#[]⟩ : ByteArray)) := (blk_cell BK243.out 9).trans rfl
 have hfs16 := blk_frozen BK243.out 9
 have hns16_0 := NB242_243.out
 have hms16_0 := NB243_242.out
 have hs17 : w6.cell? ⟨gb243, 10, none⟩ = some (.int .u32 0) := (blk_cell BK243.out 10).trans rfl
 have hfs17 := blk_frozen BK243.out 10
 have hns17_0 := NB242_243.out
 have hms17_0 := NB243_242.out
 have hs18 : w6.cell? ⟨gb243, 11, none⟩ = some (.int .u32 0) := (blk_cell BK243.out 11).trans rfl
 have hfs18 := blk_frozen BK243.out 11
 have hns18_0 := NB242_243.out
 have hms18_0 := NB243_242.out
 refine skip_ (w1 := ?_) (by rfl) rfl ?_ ?_
 rotate_left
 ·go_simp
  rfl
 refine hK.out _ _ ⟨((cell_far (p := ⟨gb243, _, none⟩) NB242_243.out _).trans (((cell_far (p := ⟨gb243, _, none⟩) NB242_243.out _).trans (((cell_far (p := ⟨gb243, _, none⟩) NB242_243.out _).trans (((cell_far (p := ⟨gb243, _, none⟩) NB242_243.out _).trans (((cell_far (p := ⟨gb243, _, none⟩) NB242_243.out _).trans (((cell_far (p := ⟨gb243, _, none⟩) NB242_243.out _).trans (((cell_far (p := ⟨gb243, _, none⟩) NB242_243.out _).trans (((cell_far (p := ⟨gb243, _, none⟩) NB242_243.out _).trans (((cell_far (p := ⟨gb243, _, none⟩) NB242_243.out _).trans (((cell_far (p := ⟨gb243, _, none⟩) NB242_243.out _).trans (((cell_far (p := ⟨gb243, _, none⟩) NB242_243.out _).trans (((cell_far (p := ⟨gb243, _, none⟩) NB242_243.out _).trans (hHeld.1)))))))))))))))))))))))), ((cell_far (p := ⟨gb243, _, none⟩) NB242_243.out _).trans (((cell_far (p := ⟨gb243, _, none⟩) NB242_243.out _).trans (((cell_far (p := ⟨gb243, _, none⟩) NB242_243.out _).trans (((cell_far (p := ⟨gb243, _, none⟩) NB242_243.out _).trans (((cell_far (p := ⟨gb243, _, none⟩) NB242_243.out _).trans (((cell_far (p := ⟨gb243, _, none⟩) NB242_243.out _).trans (((cell_far (p := ⟨gb243, _, none⟩) NB242_243.out _).trans (((cell_far (p := ⟨gb243, _, none⟩) NB242_243.out _).trans (((cell_far (p := ⟨gb243, _, none⟩) NB242_243.out _).trans (((cell_far (p := ⟨gb243, _, none⟩) NB242_243.out _).trans (((cell_far (p := ⟨gb243, _, none⟩) NB242_243.out _).trans (((cell_far (p := ⟨gb243, _, none⟩) NB242_243.out _).trans (hHeld.2.1)))))))))))))))))))))))), ((cell_far (p := ⟨gb243, _, none⟩) NB242_243.out _).trans (((cell_far (p := ⟨gb243, _, none⟩) NB242_243.out _).trans (((cell_far (p := ⟨gb243, _, none⟩) NB242_243.out _).trans (((cell_far (p := ⟨gb243, _, none⟩) NB242_243.out _).trans (((cell_far (p := ⟨gb243, _, none⟩) NB242_243.out _).trans (((cell_far (p := ⟨gb243, _, none⟩) NB242_243.out _).trans (((cell_far (p := ⟨gb243, _, none⟩) NB242_243.out _).trans (((cell_far (p := ⟨gb243, _, none⟩) NB242_243.out _).trans (((cell_far (p := ⟨gb243, _, none⟩) NB242_243.out _).trans (((cell_far (p := ⟨gb243, _, none⟩) NB242_243.out _).trans (((cell_far (p := ⟨gb243, _, none⟩) NB242_243.out _).trans (((cell_far (p := ⟨gb243, _, none⟩) NB242_243.out _).trans (hHeld.2.2.1)))))))))))))))))))))))), ((cell_far (p := ⟨gb243, _, none⟩) NB242_243.out _).trans (((cell_far (p := ⟨gb243, _, none⟩) NB242_243.out _).trans (((cell_far (p := ⟨gb243, _, none⟩) NB242_243.out _).trans (((cell_far (p := ⟨gb243, _, none⟩) NB242_243.out _).trans (((cell_far (p := ⟨gb243, _, none⟩) NB242_243.out _).trans (((cell_far (p := ⟨gb243, _, none⟩) NB242_243.out _).trans (((cell_far (p := ⟨gb243, _, none⟩) NB242_243.out _).trans (((cell_far (p := ⟨gb243, _, none⟩) NB242_243.out _).trans (((cell_far (p := ⟨gb243, _, none⟩) NB242_243.out _).trans (((cell_far (p := ⟨gb243, _, none⟩) NB242_243.out _).trans (((cell_far (p := ⟨gb243, _, none⟩) NB242_243.out _).trans (((cell_far (p := ⟨gb243, _, none⟩) NB242_243.out _).trans (hHeld.2.2.2.1)))))))))))))))))))))))), ((cell_far (p := ⟨gb243, _, none⟩) NB242_243.out _).trans (((cell_far (p := ⟨gb243, _, none⟩) NB242_243.out _).trans (((cell_far (p := ⟨gb243, _, none⟩) NB242_243.out _).trans (((cell_far (p := ⟨gb243, _, none⟩) NB242_243.out _).trans (((cell_far (p := ⟨gb243, _, none⟩) NB242_243.out _).trans (((cell_far (p := ⟨gb243, _, none⟩) NB242_243.out _).trans (((cell_far (p := ⟨gb243, _, none⟩) NB242_243.out _).trans (((cell_far (p := ⟨gb243, _, none⟩) NB242_243.out _).trans (((cell_far (p := ⟨gb243, _, none⟩) NB242_243.out _).trans (((cell_far (p := ⟨gb243, _, none⟩) NB242_243.out _).trans (((cell_far (p := ⟨gb243, _, none⟩) NB242_243.out _).trans (((cell_far (p := ⟨gb243, _, none⟩) NB242_243.out _).trans (hHeld.2.2.2.2.1)))))))))))))))))))))))), ((cell_far (p := ⟨gb243, _, none⟩) NB242_243.out _).trans (((cell_far (p := ⟨gb243, _, none⟩) NB242_243.out _).trans (((cell_far (p := ⟨gb243, _, none⟩) NB242_243.out _).trans (((cell_far (p := ⟨gb243, _, none⟩) NB242_243.out _).trans (((cell_far (p := ⟨gb243, _, none⟩) NB242_243.out _).trans (((cell_far (p := ⟨gb243, _, none⟩) NB242_243.out _).trans (((cell_far (p := ⟨gb243, _, none⟩) NB242_243.out _).trans (((cell_far (p := ⟨gb243, _, none⟩) NB242_243.out _).trans (((cell_far (p := ⟨gb243, _, none⟩) NB242_243.out _).trans (((cell_far (p := ⟨gb243, _, none⟩) NB242_243.out _).trans (((cell_far (p := ⟨gb243, _, none⟩) NB242_243.out _).trans (((cell_far (p := ⟨gb243, _, none⟩) NB242_243.out _).trans (hHeld.2.2.2.2.2.1)))))))))))))))))))))))), ((cell_far (p := ⟨gb243, _, none⟩) NB242_243.out _).trans (((cell_far (p := ⟨gb243, _, none⟩) NB242_243.out _).trans (((cell_far (p := ⟨gb243, _, none⟩) NB242_243.out _).trans (((cell_far (p := ⟨gb243, _, none⟩) NB242_243.out _).trans (((cell_far (p := ⟨gb243, _, none⟩) NB242_243.out _).trans (((cell_far (p := ⟨gb243, _, none⟩) NB242_243.out _).trans (((cell_far (p := ⟨gb243, _, none⟩) NB242_243.out _).trans (((cell_far (p := ⟨gb243, _, none⟩) NB242_243.out _).trans (((cell_far (p := ⟨gb243, _, none⟩) NB242_243.out _).trans (((cell_far (p := ⟨gb243, _, none⟩) NB242_243.out _).trans (((cell_far (p := ⟨gb243, _, none⟩) NB242_243.out _).trans (((cell_far (p := ⟨gb243, _, none⟩) NB242_243.out _).trans (hHeld.2.2.2.2.2.2.1)))))))))))))))))))))))), ((cell_far (p := ⟨gb243, _, none⟩) NB242_243.out _).trans (((cell_far (p := ⟨gb243, _, none⟩) NB242_243.out _).trans (((cell_far (p := ⟨gb243, _, none⟩) NB242_243.out _).trans (((cell_far (p := ⟨gb243, _, none⟩) NB242_243.out _).trans (((cell_far (p := ⟨gb243, _, none⟩) NB242_243.out _).trans (((cell_far (p := ⟨gb243, _, none⟩) NB242_243.out _).trans (((cell_far (p := ⟨gb243, _, none⟩) NB242_243.out _).trans (((cell_far (p := ⟨gb243, _, none⟩) NB242_243.out _).trans (((cell_far (p := ⟨gb243, _, none⟩) NB242_243.out _).trans (((cell_far (p := ⟨gb243, _, none⟩) NB242_243.out _).trans (((cell_far (p := ⟨gb243, _, none⟩) NB242_243.out _).trans (((cell_far (p := ⟨gb243, _, none⟩) NB242_243.out _).trans (hHeld.2.2.2.2.2.2.2.1)))))))))))))))))))))))), ((cell_far (p := ⟨gb243, _, none⟩) NB242_243.out _).trans (((cell_far (p := ⟨gb243, _, none⟩) NB242_243.out _).trans (((cell_far (p := ⟨gb243, _, none⟩) NB242_243.out _).trans (((cell_far (p := ⟨gb243, _, none⟩) NB242_243.out _).trans (((cell_far (p := ⟨gb243, _, none⟩) NB242_243.out _).trans (((cell_far (p := ⟨gb243, _, none⟩) NB242_243.out _).trans (((cell_far (p := ⟨gb243, _, none⟩) NB242_243.out _).trans (((cell_far (p := ⟨gb243, _, none⟩) NB242_243.out _).trans (((cell_far (p := ⟨gb243, _, none⟩) NB242_243.out _).trans (((cell_far (p := ⟨gb243, _, none⟩) NB242_243.out _).trans (((cell_far (p := ⟨gb243, _, none⟩) NB242_243.out _).trans (((cell_far (p := ⟨gb243, _, none⟩) NB242_243.out _).trans (hHeld.2.2.2.2.2.2.2.2.1)))))))))))))))))))))))), ((cell_far (p := ⟨gb243, _, none⟩) NB242_243.out _).trans (((cell_far (p := ⟨gb243, _, none⟩) NB242_243.out _).trans (((cell_far (p := ⟨gb243, _, none⟩) NB242_243.out _).trans (((cell_far (p := ⟨gb243, _, none⟩) NB242_243.out _).trans (((cell_far (p := ⟨gb243, _, none⟩) NB242_243.out _).trans (((cell_far (p := ⟨gb243, _, none⟩) NB242_243.out _).trans (((cell_far (p := ⟨gb243, _, none⟩) NB242_243.out _).trans (((cell_far (p := ⟨gb243, _, none⟩) NB242_243.out _).trans (((cell_far (p := ⟨gb243, _, none⟩) NB242_243.out _).trans (((cell_far (p := ⟨gb243, _, none⟩) NB242_243.out _).trans (((cell_far (p := ⟨gb243, _, none⟩) NB242_243.out _).trans (((cell_far (p := ⟨gb243, _, none⟩) NB242_243.out _).trans (hHeld.2.2.2.2.2.2.2.2.2.1)))))))))))))))))))))))), ((cell_far (p := ⟨gb243, _, none⟩) NB242_243.out _).trans (((cell_far (p := ⟨gb243, _, none⟩) NB242_243.out _).trans (((cell_far (p := ⟨gb243, _, none⟩) NB242_243.out _).trans (((cell_far (p := ⟨gb243, _, none⟩) NB242_243.out _).trans (((cell_far (p := ⟨gb243, _, none⟩) NB242_243.out _).trans (((cell_far (p := ⟨gb243, _, none⟩) NB242_243.out _).trans (((cell_far (p := ⟨gb243, _, none⟩) NB242_243.out _).trans (((cell_far (p := ⟨gb243, _, none⟩) NB242_243.out _).trans (((cell_far (p := ⟨gb243, _, none⟩) NB242_243.out _).trans (((cell_far (p := ⟨gb243, _, none⟩) NB242_243.out _).trans (((cell_far (p := ⟨gb243, _, none⟩) NB242_243.out _).trans (((cell_far (p := ⟨gb243, _, none⟩) NB242_243.out _).trans (hHeld.2.2.2.2.2.2.2.2.2.2.1)))))))))))))))))))))))), ((cell_far (p := ⟨gb243, _, none⟩) NB242_243.out _).trans (((cell_far (p := ⟨gb243, _, none⟩) NB242_243.out _).trans (((cell_far (p := ⟨gb243, _, none⟩) NB242_243.out _).trans (((cell_far (p := ⟨gb243, _, none⟩) NB242_243.out _).trans (((cell_far (p := ⟨gb243, _, none⟩) NB242_243.out _).trans (((cell_far (p := ⟨gb243, _, none⟩) NB242_243.out _).trans (((cell_far (p := ⟨gb243, _, none⟩) NB242_243.out _).trans (((cell_far (p := ⟨gb243, _, none⟩) NB242_243.out _).trans (((cell_far (p := ⟨gb243, _, none⟩) NB242_243.out _).trans (((cell_far (p := ⟨gb243, _, none⟩) NB242_243.out _).trans (((cell_far (p := ⟨gb243, _, none⟩) NB242_243.out _).trans (((cell_far (p := ⟨gb243, _, none⟩) NB242_243.out _).trans (hHeld.2.2.2.2.2.2.2.2.2.2.2))))))))))))))))))))))))⟩ (fun hHeld => ?_)
 clear hK K
 refine done_ (done_of HT_.out (by kernel_rfl)) ?_
 try go_wp2
 refine bodyPost_ret (results_cell_row rfl _ _ gb243 31 #[.int .i64 a0_0, .bool a0_1, .bool t244, .bool t245, .bool t246, .bool t247, .int .i64 t248, .int .i64 t249, .string t250, .string t251, .int .u32 a0_10, .int .u32 a0_11] (0, 0) _ rfl (by (with_reducible repeat (first | refine blk_drewN ?_ _ | refine blk_drew ?_ | refine blk_alloc ?_ _)); refine blk_put (cs := #[.int .i64 a0_0, .bool a0_1, .bool t244, .bool t245, .bool t246, .bool t247, .int .i64 t248, .int .i64 t249, .string t250, .string t251, .int .u32 a0_10, .int .u32 0]) ?_ 11 _ rfl; (with_reducible repeat (first | refine blk_drewN ?_ _ | refine blk_drew ?_ | refine blk_alloc ?_ _)); refine blk_put (cs := #[.int .i64 a0_0, .bool a0_1, .bool t244, .bool t245, .bool t246, .bool t247, .int .i64 t248, .int .i64 t249, .string t250, .string t251, .int .u32 0, .int .u32 0]) ?_ 10 _ rfl; (with_reducible repeat (first | refine blk_drewN ?_ _ | refine blk_drew ?_ | refine blk_alloc ?_ _)); refine blk_put (cs := #[.int .i64 a0_0, .bool a0_1, .bool t244, .bool t245, .bool t246, .bool t247, .int .i64 t248, .int .i64 t249, .string t250, .string (⟨#[]⟩ : ByteArray), .int .u32 0, .int .u32 0]) ?_ 9 _ rfl; (with_reducible repeat (first | refine blk_drewN ?_ _ | refine blk_drew ?_ | refine blk_alloc ?_ _)); refine blk_put (cs := #[.int .i64 a0_0, .bool a0_1, .bool t244, .bool t245, .bool t246, .bool t247, .int .i64 t248, .int .i64 t249, .string (⟨#[]⟩ : ByteArray), .string (⟨#[]⟩ : ByteArray), .int .u32 0, .int .u32 0]) ?_ 8 _ rfl; (with_reducible repeat (first | refine blk_drewN ?_ _ | refine blk_drew ?_ | refine blk_alloc ?_ _)); refine blk_put (cs := #[.int .i64 a0_0, .bool a0_1, .bool t244, .bool t245, .bool t246, .bool t247, .int .i64 t248, .int .i64 0, .string (⟨#[]⟩ : ByteArray), .string (⟨#[]⟩ : ByteArray), .int .u32 0, .int .u32 0]) ?_ 7 _ rfl; (with_reducible repeat (first | refine blk_drewN ?_ _ | refine blk_drew ?_ | refine blk_alloc ?_ _)); refine blk_put (cs := #[.int .i64 a0_0, .bool a0_1, .bool t244, .bool t245, .bool t246, .bool t247, .int .i64 0, .int .i64 0, .string (⟨#[]⟩ : ByteArray), .string (⟨#[]⟩ : ByteArray), .int .u32 0, .int .u32 0]) ?_ 6 _ rfl; (with_reducible repeat (first | refine blk_drewN ?_ _ | refine blk_drew ?_ | refine blk_alloc ?_ _)); refine blk_put (cs := #[.int .i64 a0_0, .bool a0_1, .bool t244, .bool t245, .bool t246, .bool false, .int .i64 0, .int .i64 0, .string (⟨#[]⟩ : ByteArray), .string (⟨#[]⟩ : ByteArray), .int .u32 0, .int .u32 0]) ?_ 5 _ rfl; (with_reducible repeat (first | refine blk_drewN ?_ _ | refine blk_drew ?_ | refine blk_alloc ?_ _)); refine blk_put (cs := #[.int .i64 a0_0, .bool a0_1, .bool t244, .bool t245, .bool false, .bool false, .int .i64 0, .int .i64 0, .string (⟨#[]⟩ : ByteArray), .string (⟨#[]⟩ : ByteArray), .int .u32 0, .int .u32 0]) ?_ 4 _ rfl; (with_reducible repeat (first | refine blk_drewN ?_ _ | refine blk_drew ?_ | refine blk_alloc ?_ _)); refine blk_put (cs := #[.int .i64 a0_0, .bool a0_1, .bool t244, .bool false, .bool false, .bool false, .int .i64 0, .int .i64 0, .string (⟨#[]⟩ : ByteArray), .string (⟨#[]⟩ : ByteArray), .int .u32 0, .int .u32 0]) ?_ 3 _ rfl; (with_reducible repeat (first | refine blk_drewN ?_ _ | refine blk_drew ?_ | refine blk_alloc ?_ _)); refine blk_put (cs := #[.int .i64 a0_0, .bool a0_1, .bool false, .bool false, .bool false, .bool false, .int .i64 0, .int .i64 0, .string (⟨#[]⟩ : ByteArray), .string (⟨#[]⟩ : ByteArray), .int .u32 0, .int .u32 0]) ?_ 2 _ rfl; (with_reducible repeat (first | refine blk_drewN ?_ _ | refine blk_drew ?_ | refine blk_alloc ?_ _)); refine blk_put (cs := #[.int .i64 a0_0, .bool false, .bool false, .bool false, .bool false, .bool false, .int .i64 0, .int .i64 0, .string (⟨#[]⟩ : ByteArray), .string (⟨#[]⟩ : ByteArray), .int .u32 0, .int .u32 0]) ?_ 1 _ rfl; (with_reducible repeat (first | refine blk_drewN ?_ _ | refine blk_drew ?_ | refine blk_alloc ?_ _)); refine blk_put (cs := #[.int .i64 0, .bool false, .bool false, .bool false, .bool false, .bool false, .int .i64 0, .int .i64 0, .string (⟨#[]⟩ : ByteArray), .string (⟨#[]⟩ : ByteArray), .int .u32 0, .int .u32 0]) ?_ 0 _ rfl; (with_reducible repeat (first | refine blk_drewN ?_ _ | refine blk_drew ?_ | refine blk_alloc ?_ _)); exact BK243.out) Tryz.underlying31 rfl (by kernel_rfl)) rfl ?_
 exact ⟨by first | rfl | (simp [errW_none, errW_some] <;> rfl) | (simp [*, errW_none, errW_some] <;> rfl) | (simp [bt, *]; done) | (unfold bt; simp [*]; done), by repeat (first | (with_reducible first | exact HB.out | apply below_alloc | apply pw_below_drewN | apply below_drew1 | refine below_set ?_ GE242.out | refine below_set ?_ GE243.out) | exact HB.out)⟩
def headgateref03_digit.f (a0 : Int) : Option (Bool) := if a0 ≥ 48 then (some (decide (a0 ≤ 57))) else (some false)
set_option maxHeartbeats 8000000 in
set_option maxRecDepth 100000 in
theorem headgateref03_digit.calls (a0 : Int) (r : Bool) (w : World) (h : headgateref03_digit.f a0 = some r) :
    Calls Tryz.prog 57 #[.int .u8 a0] w fun e w' => e = .returned (.bool r) ∧ Drawn0 w w' := by
  have H : (if a0 ≥ 48 then (some (decide (a0 ≤ 57))) else (some false)) = some r := h
  clear h
  by_cases c2 : a0 ≥ 48
  · rw [if_pos c2] at H
    have c2b0 : decide (48 ≤ a0) = true := decide_eq_true c2
    clear c2
    obtain rfl := Option.some.inj H
    go_enter Tryz.func57, Tryz.ntmps57
    go_wp2
    go_ret
    exact ⟨by first | rfl | (simp; done) | (simp [*]; done), by repeat (first | exact Drawn0.refl _ | apply Drawn0.step)⟩
  · rw [if_neg c2] at H
    have c2b0 : decide (48 ≤ a0) = false := decide_eq_false c2
    clear c2
    obtain rfl := Option.some.inj H
    go_enter Tryz.func57, Tryz.ntmps57
    go_wp2
    go_ret
    exact ⟨by first | rfl | (simp; done) | (simp [*]; done), by repeat (first | exact Drawn0.refl _ | apply Drawn0.step)⟩
def headgateref03_letter.f (a0 : Int) : Option (Bool) := if a0 ≥ 97 then (some (decide (a0 ≤ 122))) else (some false)
set_option maxHeartbeats 8000000 in
set_option maxRecDepth 100000 in
theorem headgateref03_letter.calls (a0 : Int) (r : Bool) (w : World) (h : headgateref03_letter.f a0 = some r) :
    Calls Tryz.prog 76 #[.int .u8 a0] w fun e w' => e = .returned (.bool r) ∧ Drawn0 w w' := by
  have H : (if a0 ≥ 97 then (some (decide (a0 ≤ 122))) else (some false)) = some r := h
  clear h
  by_cases c2 : a0 ≥ 97
  · rw [if_pos c2] at H
    have c2b0 : decide (97 ≤ a0) = true := decide_eq_true c2
    clear c2
    obtain rfl := Option.some.inj H
    go_enter Tryz.func76, Tryz.ntmps76
    go_wp2
    go_ret
    exact ⟨by first | rfl | (simp; done) | (simp [*]; done), by repeat (first | exact Drawn0.refl _ | apply Drawn0.step)⟩
  · rw [if_neg c2] at H
    have c2b0 : decide (97 ≤ a0) = false := decide_eq_false c2
    clear c2
    obtain rfl := Option.some.inj H
    go_enter Tryz.func76, Tryz.ntmps76
    go_wp2
    go_ret
    exact ⟨by first | rfl | (simp; done) | (simp [*]; done), by repeat (first | exact Drawn0.refl _ | apply Drawn0.step)⟩
mutual
def headgateref03_Name.j0 : Nat → ByteArray → Bool → Option (Bool)
 | 0, _, _ => none
 | k + 1, x0, x17 => if x17 = true then (some false) else (headgateref03_Name.l0 k x0 0)
def headgateref03_Name.l0 : Nat → ByteArray → Int → Option (Bool)
 | 0, _, _ => none
 | k + 1, x0, x3 => if x3 < (x0.size : Int) then (if 0 ≤ x3 then ((headgateref03_letter.f (bt x0 x3)).bind fun t253 => (if t253 = true then (headgateref03_Name.l0 k x0 (wrap64 (x3 + 1))) else ((headgateref03_digit.f (bt x0 x3)).bind fun t254 => (if t254 = true then (headgateref03_Name.l0 k x0 (wrap64 (x3 + 1))) else (if (bt x0 x3) = 46 then (headgateref03_Name.l0 k x0 (wrap64 (x3 + 1))) else (if (bt x0 x3) = 45 then (headgateref03_Name.l0 k x0 (wrap64 (x3 + 1))) else (if (bt x0 x3) = 58 then (headgateref03_Name.l0 k x0 (wrap64 (x3 + 1))) else (some false)))))))) else (none)) else (some true)
end
def headgateref03_Name.f (k : Nat) (a0 : ByteArray) : Option (Bool) := if (a0.size : Int) < 1 then (headgateref03_Name.j0 k a0 true) else (if (a0.size : Int) > 64 then (headgateref03_Name.j0 k a0 true) else (if 0 < (a0.size : Int) then ((headgateref03_letter.f (bt a0 0)).bind fun t252 => (headgateref03_Name.j0 k a0 (!t252))) else (none)))
theorem headgateref03_Name.mono_l : ∀ k, (∀ y0 y1, LeO (headgateref03_Name.j0 k y0 y1) (headgateref03_Name.j0 (k + 1) y0 y1)) ∧ (∀ y0 y1, LeO (headgateref03_Name.l0 k y0 y1) (headgateref03_Name.l0 (k + 1) y0 y1))
 | 0 => ⟨fun _ _ r h => by simp [headgateref03_Name.j0] at h, fun _ _ r h => by simp [headgateref03_Name.l0] at h⟩
 | k + 1 => by
  obtain ⟨ih0, ih1⟩ := headgateref03_Name.mono_l k
  refine ⟨?_, ?_⟩
  ·intro y0 y1
   unfold headgateref03_Name.j0
   repeat' first
   | (with_reducible exact ih0 _ _)
   | (with_reducible exact ih1 _ _)
   | (with_reducible exact LeO.refl _)
   | (with_reducible exact LeO.none _)
   | (with_reducible refine LeO.ite ?_ ?_)
   | (with_reducible refine LeO.bind ?_ (fun _ => ?_))
   | exact ih0 _ _
   | exact ih1 _ _
   | exact LeO.none _
   | refine LeO.ite ?_ ?_
   | refine LeO.bind ?_ (fun _ => ?_)
  ·intro y0 y1
   unfold headgateref03_Name.l0
   repeat' first
   | (with_reducible exact ih0 _ _)
   | (with_reducible exact ih1 _ _)
   | (with_reducible exact LeO.refl _)
   | (with_reducible exact LeO.none _)
   | (with_reducible refine LeO.ite ?_ ?_)
   | (with_reducible refine LeO.bind ?_ (fun _ => ?_))
   | exact ih0 _ _
   | exact ih1 _ _
   | exact LeO.none _
   | refine LeO.ite ?_ ?_
   | refine LeO.bind ?_ (fun _ => ?_)
theorem headgateref03_Name.mono : ∀ a0 k, LeO (headgateref03_Name.f k a0) (headgateref03_Name.f (k + 1) a0) := by
 intro a0 k
 obtain ⟨ih0, ih1⟩ := headgateref03_Name.mono_l k
 unfold headgateref03_Name.f
 repeat' first
   | (with_reducible exact ih0 _ _)
   | (with_reducible exact ih1 _ _)
   | (with_reducible exact LeO.refl _)
   | (with_reducible exact LeO.none _)
   | (with_reducible refine LeO.ite ?_ ?_)
   | (with_reducible refine LeO.bind ?_ (fun _ => ?_))
   | exact ih0 _ _
   | exact ih1 _ _
   | exact LeO.none _
   | refine LeO.ite ?_ ?_
   | refine LeO.bind ?_ (fun _ => ?_)
set_option maxHeartbeats 8000000 in
set_option maxRecDepth 100000 in
theorem headgateref03_Name.calls (k : Nat) (a0 : ByteArray) (r : Bool) (w : World) (h : headgateref03_Name.f k a0 = some r) :
  Calls Tryz.prog 56 #[.string a0] w fun e w' => e = .returned (.bool r) ∧ Drawn0 w w' := by
 have H : (if (a0.size : Int) < 1 then (headgateref03_Name.j0 k a0 true) else (if (a0.size : Int) > 64 then (headgateref03_Name.j0 k a0 true) else (if 0 < (a0.size : Int) then ((headgateref03_letter.f (bt a0 0)).bind fun t252 => (headgateref03_Name.j0 k a0 (!t252))) else (none)))) = some r := h
 clear h
 have HC2 := Aside0.mk H
 clear H
 go_enter Tryz.func56, Tryz.ntmps56
 go_upto_region 1 with (fail)
 go_cut [17] (fun v17 wc => ∃ (kq : Nat) (x17_1 : Bool), v17 = .bool x17_1 ∧ Aside0 (headgateref03_Name.j0 kq a0 x17_1 = some r) ∧ Aside0 (kq ≤ k) ∧ Drawn0 w wc)
 case first =>
  have H := HC2.out
  clear HC2
  by_cases c3 : (a0.size : Int) < 1
  ·rw [if_pos c3] at H
   have c3b0 : decide ((a0.size : Int) < 1) = true := decide_eq_true c3
   have c3b1 : decide (a0.size < 1) = true := decide_eq_true (by omega)
   clear c3
   (first | rw [c3b0] | (simp only [i64_w, i32_w]; rw [c3b0]) | skip)
   have H' := Aside0.mk H
   clear H
   go_wp2
   go_meet
   case rel => exact ⟨_, (true), (by first | rfl | (simp; done) | (simp [*]; done)), H', ⟨by first | omega | exact Nat.le_refl _⟩, by repeat (first | exact Drawn0.refl _ | apply Drawn0.step)⟩
  rw [if_neg c3] at H
  have c3b0 : decide ((a0.size : Int) < 1) = false := decide_eq_false c3
  have c3b1 : decide (a0.size < 1) = false := decide_eq_false (by omega)
  clear c3
  (first | rw [c3b0] | (simp only [i64_w, i32_w]; rw [c3b0]) | skip)
  by_cases c4 : (a0.size : Int) > 64
  ·rw [if_pos c4] at H
   have c4b0 : decide (64 < (a0.size : Int)) = true := decide_eq_true c4
   have c4b1 : decide (64 < a0.size) = true := decide_eq_true (by omega)
   clear c4
   have H' := Aside0.mk H
   clear H
   go_wp2
   go_meet
   case rel => exact ⟨_, (true), (by first | rfl | (simp; done) | (simp [*]; done)), H', ⟨by first | omega | exact Nat.le_refl _⟩, by repeat (first | exact Drawn0.refl _ | apply Drawn0.step)⟩
  rw [if_neg c4] at H
  have c4b0 : decide (64 < (a0.size : Int)) = false := decide_eq_false c4
  have c4b1 : decide (64 < a0.size) = false := decide_eq_false (by omega)
  clear c4
  refine neg_first (p := (0 < (a0.size : Int))) (fun c5 => ?_) (fun c5 => ?_)
  ·rw [if_neg c5] at H
   exact absurd H (by simp)
  rw [if_pos c5] at H
  have c5b0 : decide (0 < (a0.size : Int)) = true := decide_eq_true c5
  have c5b1 : decide (0 < a0.size) = true := decide_eq_true (by omega)
  clear c5
  replace H := Option.bind_eq_some_iff.mp H
  obtain ⟨t252, A70, H⟩ := H
  try dsimp only at H
  have A7 := Aside0.mk A70
  clear A70
  have H' := Aside0.mk H
  clear H
  have p6 : 0 ≤ (0 : Int) := (by omega)
  have q6 : 0 < a0.size := (by have : (0 : Int) < (a0.size : Int) := of_decide_eq_true (by first | (with_reducible assumption) | assumption); omega)
  have hx6 : ∀ h : 0 < a0.size, ((a0[0]'h).toNat : Int) = bt a0 0 := bt_at a0 0
  clear p6
  have qi6 : (0 < (a0.size : Int)) = True := eq_true (of_decide_eq_true (by first | (with_reducible assumption) | assumption))
  replace q6 := eq_true q6
  go_wp2_with (first | (go_at_call 76; (with_reducible refine (headgateref03_letter.calls (bt a0 0) t252 _ A7.out).mono ?_); rintro e w' ⟨rfl, ⟨nd, rfl⟩⟩))
  go_meet
  case rel => exact ⟨_, (!t252), (by first | rfl | (simp; done) | (simp [*]; done)), H', ⟨by first | omega | exact Nat.le_refl _⟩, by repeat (first | exact Drawn0.refl _ | apply Drawn0.step)⟩
 case rest =>
  clear HC2
  try clear p2
  try clear c3
  try clear c3b0
  try clear c3b1
  try clear c4
  try clear c4b0
  try clear c4b1
  try clear c5
  try clear c5b0
  try clear c5b1
  try clear p6
  try clear q6
  try clear hx6
  try clear qi6
  try clear p6
  try clear q6
  obtain ⟨kq, x17_1, rfl, HA, HJ1, ⟨mc1, rfl⟩⟩ := hcut
  cases kq with
  | zero => exact absurd HA.out (by simp [headgateref03_Name.j0])
  | succ kj1 =>
   have H := HA.out
   clear HA
   simp only [headgateref03_Name.j0] at H
   by_cases c8 : x17_1 = true
   ·subst c8
    have H1 := H
    rw [if_pos rfl] at H1
    clear H
    have H := H1
    clear H1
    obtain rfl := Option.some.inj H
    go_wp2
    go_ret
    exact ⟨by first | rfl | (simp; done) | (simp [*]; done), by repeat (first | exact Drawn0.refl _ | apply Drawn0.step)⟩
   replace c8 := Bool.eq_false_iff.mpr c8
   subst c8
   have H1 := H
   rw [if_neg (show ¬ (false = true) by decide)] at H1
   clear H
   have H := H1
   clear H1
   have H' := Aside0.mk H
   clear H
   go_wp2
   go_loopg [3] kj1 (fun kq v3 w' => ∃ (x3_2 : Int), v3 = .int .i64 x3_2 ∧ Aside0 (headgateref03_Name.l0 kq a0 x3_2 = some r) ∧ Aside0 (kq ≤ kj1) ∧ Drawn0 w w')
   case atStart => exact ⟨(0), (by first | rfl | (simp; done) | (simp [*]; done)), H', ⟨Nat.le_refl _⟩, by repeat (first | exact Drawn0.refl _ | apply Drawn0.step)⟩
   case round =>
    clear H'
    try clear c1
    try clear p2
    try clear c3
    try clear c3b0
    try clear c3b1
    try clear c4
    try clear c4b0
    try clear c4b1
    try clear c5
    try clear c5b0
    try clear c5b1
    try clear p6
    try clear q6
    try clear hx6
    try clear qi6
    try clear c8
    try clear p2
    try clear p6
    try clear q6
    obtain ⟨x3_2, rfl, HA, HK2, ⟨m2, rfl⟩⟩ := hrel
    cases gk with
    | zero => exact absurd HA.out (by simp [headgateref03_Name.l0])
    | succ k2 =>
     have H := HA.out
     clear HA
     simp only [headgateref03_Name.l0] at H
     refine neg_first (p := (x3_2 < (a0.size : Int))) (fun c9 => ?_) (fun c9 => ?_)
     ·rw [if_neg c9] at H
      have c9b0 : decide (x3_2 < (a0.size : Int)) = false := decide_eq_false c9
      clear c9
      obtain rfl := Option.some.inj H
      go_wp2
      go_ret
      exact ⟨by first | rfl | (simp; done) | (simp [*]; done), by repeat (first | exact Drawn0.refl _ | apply Drawn0.step)⟩
     rw [if_pos c9] at H
     have c9b0 : decide (x3_2 < (a0.size : Int)) = true := decide_eq_true c9
     clear c9
     refine neg_first (p := (0 ≤ x3_2)) (fun c10 => ?_) (fun c10 => ?_)
     ·rw [if_neg c10] at H
      exact absurd H (by simp)
     rw [if_pos c10] at H
     have c10b0 : decide (0 ≤ x3_2) = true := decide_eq_true c10
     clear c10
     replace H := Option.bind_eq_some_iff.mp H
     obtain ⟨t253, A120, H⟩ := H
     try dsimp only at H
     have A12 := Aside0.mk A120
     clear A120
     by_cases c13 : t253 = true
     ·subst c13
      have H1 := H
      rw [if_pos rfl] at H1
      clear H
      have H := H1
      clear H1
      have H' := Aside0.mk H
      clear H
      have p11 : 0 ≤ (x3_2 : Int) := of_decide_eq_true (by first | (with_reducible assumption) | assumption)
      have q11 : x3_2 < (a0.size : Int) := of_decide_eq_true (by first | (with_reducible assumption) | assumption)
      have hx11 := bt_at a0 x3_2
      replace p11 := eq_true p11
      replace q11 := eq_true q11
      go_wp2_with (first | ((with_reducible refine gate_callee (f := 76) rfl ?_); refine goesL_ (some 27) rfl rfl Tryz.func76 (by kernel_rfl) rfl #[.int .u8 (bt a0 x3_2)] rfl (by (try simp only [List.map_toArray, List.map_cons, List.map_nil]); first | done | rfl | (simp only [List.length_drop, List.length_take]; rfl)) ?_; (with_reducible refine (headgateref03_letter.calls (bt a0 x3_2) true _ A12.out).mono ?_); rintro e w' ⟨rfl, ⟨nd, rfl⟩⟩; refine ⟨_, rfl, ?_⟩))
      go_roundg k2
      case measure => have := HJ1.out; have := HK2.out; omega
      case rel => exact ⟨(wrap64 (x3_2 + 1)), (by first | rfl | (simp; done) | (simp [*]; done)), H', ⟨by have := HJ1.out; have := HK2.out; omega⟩, by repeat (first | exact Drawn0.refl _ | apply Drawn0.step)⟩
     replace c13 := Bool.eq_false_iff.mpr c13
     subst c13
     have H1 := H
     rw [if_neg (show ¬ (false = true) by decide)] at H1
     clear H
     have H := H1
     clear H1
     replace H := Option.bind_eq_some_iff.mp H
     obtain ⟨t254, A150, H⟩ := H
     try dsimp only at H
     have A15 := Aside0.mk A150
     clear A150
     by_cases c16 : t254 = true
     ·subst c16
      have H1 := H
      rw [if_pos rfl] at H1
      clear H
      have H := H1
      clear H1
      have H' := Aside0.mk H
      clear H
      have p11 : 0 ≤ (x3_2 : Int) := of_decide_eq_true (by first | (with_reducible assumption) | assumption)
      have q11 : x3_2 < (a0.size : Int) := of_decide_eq_true (by first | (with_reducible assumption) | assumption)
      have hx11 := bt_at a0 x3_2
      replace p11 := eq_true p11
      replace q11 := eq_true q11
      go_wp2_with (first | ((with_reducible refine gate_callee (f := 76) rfl ?_); refine goesL_ (some 27) rfl rfl Tryz.func76 (by kernel_rfl) rfl #[.int .u8 (bt a0 x3_2)] rfl (by (try simp only [List.map_toArray, List.map_cons, List.map_nil]); first | done | rfl | (simp only [List.length_drop, List.length_take]; rfl)) ?_; (with_reducible refine (headgateref03_letter.calls (bt a0 x3_2) false _ A12.out).mono ?_); rintro e w' ⟨rfl, ⟨nd, rfl⟩⟩; refine ⟨_, rfl, ?_⟩; have p14 : 0 ≤ (x3_2 : Int) := of_decide_eq_true (by first | (with_reducible assumption) | assumption); have q14 : x3_2 < (a0.size : Int) := of_decide_eq_true (by first | (with_reducible assumption) | assumption); have hx14 := bt_at a0 x3_2; replace p14 := eq_true p14; replace q14 := eq_true q14) | (go_at_call 57; (with_reducible refine (headgateref03_digit.calls (bt a0 x3_2) true _ A15.out).mono ?_); rintro e w' ⟨rfl, ⟨nd, rfl⟩⟩))
      go_roundg k2
      case measure => have := HJ1.out; have := HK2.out; omega
      case rel => exact ⟨(wrap64 (x3_2 + 1)), (by first | rfl | (simp; done) | (simp [*]; done)), H', ⟨by have := HJ1.out; have := HK2.out; omega⟩, by repeat (first | exact Drawn0.refl _ | apply Drawn0.step)⟩
     replace c16 := Bool.eq_false_iff.mpr c16
     subst c16
     have H1 := H
     rw [if_neg (show ¬ (false = true) by decide)] at H1
     clear H
     have H := H1
     clear H1
     by_cases c18 : (bt a0 x3_2) = 46
     ·rw [if_pos c18] at H
      have c18b0 : ((bt a0 x3_2) == 46) = true := beq_iff_eq.mpr c18
      have c18b1 : ((bt a0 x3_2) != 46) = false := bne_eq_false_iff_eq.mpr c18
      clear c18
      have H' := Aside0.mk H
      clear H
      have p11 : 0 ≤ (x3_2 : Int) := of_decide_eq_true (by first | (with_reducible assumption) | assumption)
      have q11 : x3_2 < (a0.size : Int) := of_decide_eq_true (by first | (with_reducible assumption) | assumption)
      have hx11 := bt_at a0 x3_2
      replace p11 := eq_true p11
      replace q11 := eq_true q11
      go_wp2_with (first | ((with_reducible refine gate_callee (f := 76) rfl ?_); refine goesL_ (some 27) rfl rfl Tryz.func76 (by kernel_rfl) rfl #[.int .u8 (bt a0 x3_2)] rfl (by (try simp only [List.map_toArray, List.map_cons, List.map_nil]); first | done | rfl | (simp only [List.length_drop, List.length_take]; rfl)) ?_; (with_reducible refine (headgateref03_letter.calls (bt a0 x3_2) false _ A12.out).mono ?_); rintro e w' ⟨rfl, ⟨nd, rfl⟩⟩; refine ⟨_, rfl, ?_⟩; have p14 : 0 ≤ (x3_2 : Int) := of_decide_eq_true (by first | (with_reducible assumption) | assumption); have q14 : x3_2 < (a0.size : Int) := of_decide_eq_true (by first | (with_reducible assumption) | assumption); have hx14 := bt_at a0 x3_2; replace p14 := eq_true p14; replace q14 := eq_true q14) | (go_at_call 57; (with_reducible refine (headgateref03_digit.calls (bt a0 x3_2) false _ A15.out).mono ?_); rintro e w' ⟨rfl, ⟨nd, rfl⟩⟩; have p17 : 0 ≤ (x3_2 : Int) := of_decide_eq_true (by first | (with_reducible assumption) | assumption); have q17 : x3_2 < (a0.size : Int) := of_decide_eq_true (by first | (with_reducible assumption) | assumption); have hx17 := bt_at a0 x3_2; replace p17 := eq_true p17; replace q17 := eq_true q17))
      go_roundg k2
      case measure => have := HJ1.out; have := HK2.out; omega
      case rel => exact ⟨(wrap64 (x3_2 + 1)), (by first | rfl | (simp; done) | (simp [*]; done)), H', ⟨by have := HJ1.out; have := HK2.out; omega⟩, by repeat (first | exact Drawn0.refl _ | apply Drawn0.step)⟩
     rw [if_neg c18] at H
     have c18b0 : ((bt a0 x3_2) == 46) = false := beq_eq_false_iff_ne.mpr c18
     have c18b1 : ((bt a0 x3_2) != 46) = true := bne_iff_ne.mpr c18
     by_cases c20 : (bt a0 x3_2) = 45
     ·rw [if_pos c20] at H
      have c20b0 : ((bt a0 x3_2) == 45) = true := beq_iff_eq.mpr c20
      have c20b1 : ((bt a0 x3_2) != 45) = false := bne_eq_false_iff_eq.mpr c20
      clear c20
      have H' := Aside0.mk H
      clear H
      have p11 : 0 ≤ (x3_2 : Int) := of_decide_eq_true (by first | (with_reducible assumption) | assumption)
      have q11 : x3_2 < (a0.size : Int) := of_decide_eq_true (by first | (with_reducible assumption) | assumption)
      have hx11 := bt_at a0 x3_2
      replace p11 := eq_true p11
      replace q11 := eq_true q11
      go_wp2_with (first | ((with_reducible refine gate_callee (f := 76) rfl ?_); refine goesL_ (some 27) rfl rfl Tryz.func76 (by kernel_rfl) rfl #[.int .u8 (bt a0 x3_2)] rfl (by (try simp only [List.map_toArray, List.map_cons, List.map_nil]); first | done | rfl | (simp only [List.length_drop, List.length_take]; rfl)) ?_; (with_reducible refine (headgateref03_letter.calls (bt a0 x3_2) false _ A12.out).mono ?_); rintro e w' ⟨rfl, ⟨nd, rfl⟩⟩; refine ⟨_, rfl, ?_⟩; have p14 : 0 ≤ (x3_2 : Int) := of_decide_eq_true (by first | (with_reducible assumption) | assumption); have q14 : x3_2 < (a0.size : Int) := of_decide_eq_true (by first | (with_reducible assumption) | assumption); have hx14 := bt_at a0 x3_2; replace p14 := eq_true p14; replace q14 := eq_true q14) | (go_at_call 57; (with_reducible refine (headgateref03_digit.calls (bt a0 x3_2) false _ A15.out).mono ?_); rintro e w' ⟨rfl, ⟨nd, rfl⟩⟩; have p17 : 0 ≤ (x3_2 : Int) := of_decide_eq_true (by first | (with_reducible assumption) | assumption); have q17 : x3_2 < (a0.size : Int) := of_decide_eq_true (by first | (with_reducible assumption) | assumption); have hx17 := bt_at a0 x3_2; replace p17 := eq_true p17; replace q17 := eq_true q17; have p19 : 0 ≤ (x3_2 : Int) := of_decide_eq_true (by first | (with_reducible assumption) | assumption); have q19 : x3_2 < (a0.size : Int) := of_decide_eq_true (by first | (with_reducible assumption) | assumption); have hx19 := bt_at a0 x3_2; replace p19 := eq_true p19; replace q19 := eq_true q19))
      go_roundg k2
      case measure => have := HJ1.out; have := HK2.out; omega
      case rel => exact ⟨(wrap64 (x3_2 + 1)), (by first | rfl | (simp; done) | (simp [*]; done)), H', ⟨by have := HJ1.out; have := HK2.out; omega⟩, by repeat (first | exact Drawn0.refl _ | apply Drawn0.step)⟩
     rw [if_neg c20] at H
     have c20b0 : ((bt a0 x3_2) == 45) = false := beq_eq_false_iff_ne.mpr c20
     have c20b1 : ((bt a0 x3_2) != 45) = true := bne_iff_ne.mpr c20
     refine neg_first (p := ((bt a0 x3_2) = 58)) (fun c22 => ?_) (fun c22 => ?_)
     ·rw [if_neg c22] at H
      have c22b0 : ((bt a0 x3_2) == 58) = false := beq_eq_false_iff_ne.mpr c22
      have c22b1 : ((bt a0 x3_2) != 58) = true := bne_iff_ne.mpr c22
      obtain rfl := Option.some.inj H
      have p11 : 0 ≤ (x3_2 : Int) := of_decide_eq_true (by first | (with_reducible assumption) | assumption)
      have q11 : x3_2 < (a0.size : Int) := of_decide_eq_true (by first | (with_reducible assumption) | assumption)
      have hx11 := bt_at a0 x3_2
      replace p11 := eq_true p11
      replace q11 := eq_true q11
      go_wp2_with (first | ((with_reducible refine gate_callee (f := 76) rfl ?_); refine goesL_ (some 27) rfl rfl Tryz.func76 (by kernel_rfl) rfl #[.int .u8 (bt a0 x3_2)] rfl (by (try simp only [List.map_toArray, List.map_cons, List.map_nil]); first | done | rfl | (simp only [List.length_drop, List.length_take]; rfl)) ?_; (with_reducible refine (headgateref03_letter.calls (bt a0 x3_2) false _ A12.out).mono ?_); rintro e w' ⟨rfl, ⟨nd, rfl⟩⟩; refine ⟨_, rfl, ?_⟩; have p14 : 0 ≤ (x3_2 : Int) := of_decide_eq_true (by first | (with_reducible assumption) | assumption); have q14 : x3_2 < (a0.size : Int) := of_decide_eq_true (by first | (with_reducible assumption) | assumption); have hx14 := bt_at a0 x3_2; replace p14 := eq_true p14; replace q14 := eq_true q14) | (go_at_call 57; (with_reducible refine (headgateref03_digit.calls (bt a0 x3_2) false _ A15.out).mono ?_); rintro e w' ⟨rfl, ⟨nd, rfl⟩⟩; have p17 : 0 ≤ (x3_2 : Int) := of_decide_eq_true (by first | (with_reducible assumption) | assumption); have q17 : x3_2 < (a0.size : Int) := of_decide_eq_true (by first | (with_reducible assumption) | assumption); have hx17 := bt_at a0 x3_2; replace p17 := eq_true p17; replace q17 := eq_true q17; have p19 : 0 ≤ (x3_2 : Int) := of_decide_eq_true (by first | (with_reducible assumption) | assumption); have q19 : x3_2 < (a0.size : Int) := of_decide_eq_true (by first | (with_reducible assumption) | assumption); have hx19 := bt_at a0 x3_2; replace p19 := eq_true p19; replace q19 := eq_true q19; have p21 : 0 ≤ (x3_2 : Int) := of_decide_eq_true (by first | (with_reducible assumption) | assumption); have q21 : x3_2 < (a0.size : Int) := of_decide_eq_true (by first | (with_reducible assumption) | assumption); have hx21 := bt_at a0 x3_2; replace p21 := eq_true p21; replace q21 := eq_true q21))
      go_ret
      exact ⟨by first | rfl | (simp; done) | (simp [*]; done), by repeat (first | exact Drawn0.refl _ | apply Drawn0.step)⟩
     rw [if_pos c22] at H
     have c22b0 : ((bt a0 x3_2) == 58) = true := beq_iff_eq.mpr c22
     have c22b1 : ((bt a0 x3_2) != 58) = false := bne_eq_false_iff_eq.mpr c22
     clear c22
     have H' := Aside0.mk H
     clear H
     have p11 : 0 ≤ (x3_2 : Int) := of_decide_eq_true (by first | (with_reducible assumption) | assumption)
     have q11 : x3_2 < (a0.size : Int) := of_decide_eq_true (by first | (with_reducible assumption) | assumption)
     have hx11 := bt_at a0 x3_2
     replace p11 := eq_true p11
     replace q11 := eq_true q11
     go_wp2_with (first | ((with_reducible refine gate_callee (f := 76) rfl ?_); refine goesL_ (some 27) rfl rfl Tryz.func76 (by kernel_rfl) rfl #[.int .u8 (bt a0 x3_2)] rfl (by (try simp only [List.map_toArray, List.map_cons, List.map_nil]); first | done | rfl | (simp only [List.length_drop, List.length_take]; rfl)) ?_; (with_reducible refine (headgateref03_letter.calls (bt a0 x3_2) false _ A12.out).mono ?_); rintro e w' ⟨rfl, ⟨nd, rfl⟩⟩; refine ⟨_, rfl, ?_⟩; have p14 : 0 ≤ (x3_2 : Int) := of_decide_eq_true (by first | (with_reducible assumption) | assumption); have q14 : x3_2 < (a0.size : Int) := of_decide_eq_true (by first | (with_reducible assumption) | assumption); have hx14 := bt_at a0 x3_2; replace p14 := eq_true p14; replace q14 := eq_true q14) | (go_at_call 57; (with_reducible refine (headgateref03_digit.calls (bt a0 x3_2) false _ A15.out).mono ?_); rintro e w' ⟨rfl, ⟨nd, rfl⟩⟩; have p17 : 0 ≤ (x3_2 : Int) := of_decide_eq_true (by first | (with_reducible assumption) | assumption); have q17 : x3_2 < (a0.size : Int) := of_decide_eq_true (by first | (with_reducible assumption) | assumption); have hx17 := bt_at a0 x3_2; replace p17 := eq_true p17; replace q17 := eq_true q17; have p19 : 0 ≤ (x3_2 : Int) := of_decide_eq_true (by first | (with_reducible assumption) | assumption); have q19 : x3_2 < (a0.size : Int) := of_decide_eq_true (by first | (with_reducible assumption) | assumption); have hx19 := bt_at a0 x3_2; replace p19 := eq_true p19; replace q19 := eq_true q19; have p21 : 0 ≤ (x3_2 : Int) := of_decide_eq_true (by first | (with_reducible assumption) | assumption); have q21 : x3_2 < (a0.size : Int) := of_decide_eq_true (by first | (with_reducible assumption) | assumption); have hx21 := bt_at a0 x3_2; replace p21 := eq_true p21; replace q21 := eq_true q21))
     go_roundg k2
     case measure => have := HJ1.out; have := HK2.out; omega
     case rel => exact ⟨(wrap64 (x3_2 + 1)), (by first | rfl | (simp; done) | (simp [*]; done)), H', ⟨by have := HJ1.out; have := HK2.out; omega⟩, by repeat (first | exact Drawn0.refl _ | apply Drawn0.step)⟩
end Go.Proofs.YthglbmihbmneaaaGreatDoor.P
