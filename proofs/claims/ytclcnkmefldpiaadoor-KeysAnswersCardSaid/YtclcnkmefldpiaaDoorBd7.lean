-- joined by this session's wip/tools/pack.py: words of the kit's print, cut to what the claim names; functions printed by a patched copy of the printer; walks and lemmas of this session; Lean checks it
import Derived.Test.YtclcnkmefldpiaaDoorBd6
import Derived.Lib.IndexLaws
import Derived.Lib.IndexBytes
import Derived.Lib.Split
import Derived.Lib.CountLaws
import Derived.Lib.ItoaNum
import Derived.Laws.BytesArg
import Derived.Laws.BitsLemmas
import Derived.OpenShut
import Derived.ProofKit
import Derived.ChangeArms
import Derived.DataReads
import Derived.Lib.LaidTab
import Derived.WalkKit
import Derived.RegionTactic
import Derived.Deep.QuietTactic
import Derived.BigQuiet
import Derived.Maps.Own
import Derived.Maps.OwnOps
import Derived.Maps.Views
import Derived.Carry
import Derived.Lib.SliceRun
namespace Go.Proofs.YtclcnkmefldpiaaDoor.P
open Go.RowKit Go.Proofs.YtclcnkmefldpiaaDoorW.PrintWords Go.Proofs.YtclcnkmefldpiaaDoorW.PrintLast Go.Proofs.YtclcnkmefldpiaaDoorW.PrintMore
attribute [local go_sem] max2_int min2_int max_two min_two max_three min_three max_four min_four   -- for this text's walks alone
set_option linter.unusedVariables false
set_option linter.unusedSimpArgs false
set_option linter.unnecessarySimpa false
def headgatelaw21_Own.f (a0_0 : Bool) (a0_1 : Bool) (a0_2 : Bool) (a0_3 : Bool) (a0_4 : Int) (a0_5 : Int) (a0_6 : ByteArray) (a0_7 : ByteArray) : Option (Bool × Bool × Bool × Bool × Int × Int × ByteArray × ByteArray) := some (a0_0, a0_1, a0_2, a0_3, a0_4, a0_5, a0_6, a0_7)
set_option maxHeartbeats 8000000 in
set_option maxRecDepth 100000 in
theorem headgatelaw21_Own.calls (a0_0 : Bool) (a0_1 : Bool) (a0_2 : Bool) (a0_3 : Bool) (a0_4 : Int) (a0_5 : Int) (a0_6 : ByteArray) (a0_7 : ByteArray) (r1 : Bool) (r2 : Bool) (r3 : Bool) (r4 : Bool) (r5 : Int) (r6 : Int) (r7 : ByteArray) (r8 : ByteArray) (w : World) (h : headgatelaw21_Own.f a0_0 a0_1 a0_2 a0_3 a0_4 a0_5 a0_6 a0_7 = some (r1, r2, r3, r4, r5, r6, r7, r8)) :
    Calls Tryd.prog 13 #[.agg #[.bool a0_0, .bool a0_1, .bool a0_2, .bool a0_3, .int .i64 a0_4, .int .i64 a0_5, .string a0_6, .string a0_7]] w fun e w' => e = .returned (.agg #[.bool r1, .bool r2, .bool r3, .bool r4, .int .i64 r5, .int .i64 r6, .string r7, .string r8]) ∧ Below w.heap.size w w' := by
  have hu23 := Tryd.underlying23
  have hu31 := Tryd.underlying31
  have HB := Aside0.mk (Below.refl w.heap.size w)
  have H : (some (a0_0, a0_1, a0_2, a0_3, a0_4, a0_5, a0_6, a0_7)) = some (r1, r2, r3, r4, r5, r6, r7, r8) := h
  clear h
  simp only [Option.some.injEq, Prod.mk.injEq] at H
  obtain ⟨rfl, rfl, rfl, rfl, rfl, rfl, rfl, rfl⟩ := H
  go_enter Tryd.func13, Tryd.ntmps13
  go_wp2_with (first | ((with_reducible refine gate_dst (N := 1) rfl ?_); refine box_event ?hg (N := 1) ?hd (cs := #[.bool a0_0, .bool a0_1, .bool a0_2, .bool a0_3, .int .i64 a0_4, .int .i64 a0_5, .string a0_6, .string a0_7]) (t := 23) ?hr ?_; (case hd => rfl); (case hg => rfl); (case hr => first | (go_simp; done) | (go_simp; rfl)); intro gb243 hg w2 hbox hb; have n0_ := Aside0.mk (below_step (by repeat (first | (with_reducible first | exact HB.out | apply below_alloc | apply pw_below_drewN | apply below_drew1) | exact HB.out)) hb); have n1_ := Aside0.mk (hbox); have n2_ := Aside0.mk ((by rw [hg]; exact (below_size (by repeat (first | (with_reducible first | exact HB.out | apply below_alloc | apply pw_below_drewN | apply below_drew1) | exact HB.out))) : w.heap.size ≤ gb243)); have n3_ := Aside0.mk ((by rw [hg]; exact (below_size (by repeat (first | (with_reducible first | exact HB.out | apply below_alloc | apply pw_below_drewN | apply below_drew1) | exact HB.out))) : w.heap.size ≤ gb243)); clear HB; have HB := n0_; have BK243 := n1_; have GW243 := n2_; have GE243 := n3_; clear n0_ n1_ n2_ n3_; clear hb hbox hg) | ((with_reducible refine gate_dst (N := 2) rfl ?_); refine box_event ?hg (N := 2) ?hd (cs := #[.bool false, .bool false, .bool false, .bool false, .int .i64 0, .int .i64 0, .string (⟨#[]⟩ : ByteArray), .string (⟨#[]⟩ : ByteArray)]) (t := 31) ?hr ?_; (case hd => rfl); (case hg => rfl); (case hr => first | (go_simp; done) | (go_simp; rfl)); intro gb244 hg w3 hbox hb; have n0_ := Aside0.mk (blk_below (g := gb243) (o := .cells #[.bool a0_0, .bool a0_1, .bool a0_2, .bool a0_3, .int .i64 a0_4, .int .i64 a0_5, .string a0_6, .string a0_7] 23 (0, 0)) (by (with_reducible repeat (first | refine blk_drewN ?_ _ | refine blk_drew ?_ | refine blk_alloc ?_ _)); exact BK243.out) hb); have n1_ := Aside0.mk (below_step (by repeat (first | (with_reducible first | exact HB.out | apply below_alloc | apply pw_below_drewN | apply below_drew1 | refine below_set ?_ GE243.out) | exact HB.out)) hb); have n2_ := Aside0.mk (hbox); have n3_ := Aside0.mk ((by rw [hg]; exact (below_size (by repeat (first | (with_reducible first | exact HB.out | apply below_alloc | apply pw_below_drewN | apply below_drew1 | refine below_set ?_ GE243.out) | exact HB.out))) : w.heap.size ≤ gb244)); have n4_ := Aside0.mk ((by rw [hg]; exact (below_size (by repeat (first | (with_reducible first | exact HB.out | apply below_alloc | apply pw_below_drewN | apply below_drew1 | refine below_set ?_ GE243.out) | exact HB.out))) : w.heap.size ≤ gb244)); have n5_ := Aside0.mk ((by rw [hg]; exact Nat.ne_of_lt (blk_lt (g := gb243) (o := .cells #[.bool a0_0, .bool a0_1, .bool a0_2, .bool a0_3, .int .i64 a0_4, .int .i64 a0_5, .string a0_6, .string a0_7] 23 (0, 0)) (by (with_reducible repeat (first | refine blk_drewN ?_ _ | refine blk_drew ?_ | refine blk_alloc ?_ _)); exact BK243.out)) : gb243 ≠ gb244)); have n6_ := Aside0.mk ((by rw [hg]; exact Nat.ne_of_gt (blk_lt (g := gb243) (o := .cells #[.bool a0_0, .bool a0_1, .bool a0_2, .bool a0_3, .int .i64 a0_4, .int .i64 a0_5, .string a0_6, .string a0_7] 23 (0, 0)) (by (with_reducible repeat (first | refine blk_drewN ?_ _ | refine blk_drew ?_ | refine blk_alloc ?_ _)); exact BK243.out)) : gb244 ≠ gb243)); clear BK243; clear HB; have BK243 := n0_; have HB := n1_; have BK244 := n2_; have GW244 := n3_; have GE244 := n4_; have NB243_244 := n5_; have NB244_243 := n6_; clear n0_ n1_ n2_ n3_ n4_ n5_ n6_; clear hb hbox hg; have hnb4 := NB243_244.out; have hnc4 := NB244_243.out; have hcz5_0 : w3.cell? ⟨gb243, 0, none⟩ = some (.bool a0_0) := (blk_cell BK243.out 0).trans rfl; have hcz5_1 : w3.cell? ⟨gb243, 1, none⟩ = some (.bool a0_1) := (blk_cell BK243.out 1).trans rfl; have hcz5_2 : w3.cell? ⟨gb243, 2, none⟩ = some (.bool a0_2) := (blk_cell BK243.out 2).trans rfl; have hcz5_3 : w3.cell? ⟨gb243, 3, none⟩ = some (.bool a0_3) := (blk_cell BK243.out 3).trans rfl; have hcz5_4 : w3.cell? ⟨gb243, 4, none⟩ = some (.int .i64 a0_4) := (blk_cell BK243.out 4).trans rfl; have hcz5_5 : w3.cell? ⟨gb243, 5, none⟩ = some (.int .i64 a0_5) := (blk_cell BK243.out 5).trans rfl; have hcz5_6 : w3.cell? ⟨gb243, 6, none⟩ = some (.string a0_6) := (blk_cell BK243.out 6).trans rfl; have hcz5_7 : w3.cell? ⟨gb243, 7, none⟩ = some (.string a0_7) := (blk_cell BK243.out 7).trans rfl; have hfz5_0 := blk_frozen BK243.out 0; have hfz5_1 := blk_frozen BK243.out 1; have hfz5_2 := blk_frozen BK243.out 2; have hfz5_3 := blk_frozen BK243.out 3; have hfz5_4 := blk_frozen BK243.out 4; have hfz5_5 := blk_frozen BK243.out 5; have hfz5_6 := blk_frozen BK243.out 6; have hfz5_7 := blk_frozen BK243.out 7; have hcz6_0 : w3.cell? ⟨gb244, 0, none⟩ = some (.bool false) := (blk_cell BK244.out 0).trans rfl; have hcz6_1 : w3.cell? ⟨gb244, 1, none⟩ = some (.bool false) := (blk_cell BK244.out 1).trans rfl; have hcz6_2 : w3.cell? ⟨gb244, 2, none⟩ = some (.bool false) := (blk_cell BK244.out 2).trans rfl; have hcz6_3 : w3.cell? ⟨gb244, 3, none⟩ = some (.bool false) := (blk_cell BK244.out 3).trans rfl; have hcz6_4 : w3.cell? ⟨gb244, 4, none⟩ = some (.int .i64 0) := (blk_cell BK244.out 4).trans rfl; have hcz6_5 : w3.cell? ⟨gb244, 5, none⟩ = some (.int .i64 0) := (blk_cell BK244.out 5).trans rfl; have hcz6_6 : w3.cell? ⟨gb244, 6, none⟩ = some (.string (⟨#[]⟩ : ByteArray)) := (blk_cell BK244.out 6).trans rfl; have hcz6_7 : w3.cell? ⟨gb244, 7, none⟩ = some (.string (⟨#[]⟩ : ByteArray)) := (blk_cell BK244.out 7).trans rfl; have hfz6_0 := blk_frozen BK244.out 0; have hfz6_1 := blk_frozen BK244.out 1; have hfz6_2 := blk_frozen BK244.out 2; have hfz6_3 := blk_frozen BK244.out 3; have hfz6_4 := blk_frozen BK244.out 4; have hfz6_5 := blk_frozen BK244.out 5; have hfz6_6 := blk_frozen BK244.out 6; have hfz6_7 := blk_frozen BK244.out 7))
  refine bodyPost_ret (results_cell_row rfl _ _ gb244 31 #[.bool a0_0, .bool a0_1, .bool a0_2, .bool a0_3, .int .i64 a0_4, .int .i64 a0_5, .string a0_6, .string a0_7] (0, 0) _ rfl (by (with_reducible repeat (first | refine blk_drewN ?_ _ | refine blk_drew ?_ | refine blk_alloc ?_ _)); refine blk_put (cs := #[.bool a0_0, .bool a0_1, .bool a0_2, .bool a0_3, .int .i64 a0_4, .int .i64 a0_5, .string a0_6, .string (⟨#[]⟩ : ByteArray)]) ?_ 7 _ rfl; (with_reducible repeat (first | refine blk_drewN ?_ _ | refine blk_drew ?_ | refine blk_alloc ?_ _)); refine blk_put (cs := #[.bool a0_0, .bool a0_1, .bool a0_2, .bool a0_3, .int .i64 a0_4, .int .i64 a0_5, .string (⟨#[]⟩ : ByteArray), .string (⟨#[]⟩ : ByteArray)]) ?_ 6 _ rfl; (with_reducible repeat (first | refine blk_drewN ?_ _ | refine blk_drew ?_ | refine blk_alloc ?_ _)); refine blk_put (cs := #[.bool a0_0, .bool a0_1, .bool a0_2, .bool a0_3, .int .i64 a0_4, .int .i64 0, .string (⟨#[]⟩ : ByteArray), .string (⟨#[]⟩ : ByteArray)]) ?_ 5 _ rfl; (with_reducible repeat (first | refine blk_drewN ?_ _ | refine blk_drew ?_ | refine blk_alloc ?_ _)); refine blk_put (cs := #[.bool a0_0, .bool a0_1, .bool a0_2, .bool a0_3, .int .i64 0, .int .i64 0, .string (⟨#[]⟩ : ByteArray), .string (⟨#[]⟩ : ByteArray)]) ?_ 4 _ rfl; (with_reducible repeat (first | refine blk_drewN ?_ _ | refine blk_drew ?_ | refine blk_alloc ?_ _)); refine blk_put (cs := #[.bool a0_0, .bool a0_1, .bool a0_2, .bool false, .int .i64 0, .int .i64 0, .string (⟨#[]⟩ : ByteArray), .string (⟨#[]⟩ : ByteArray)]) ?_ 3 _ rfl; (with_reducible repeat (first | refine blk_drewN ?_ _ | refine blk_drew ?_ | refine blk_alloc ?_ _)); refine blk_put (cs := #[.bool a0_0, .bool a0_1, .bool false, .bool false, .int .i64 0, .int .i64 0, .string (⟨#[]⟩ : ByteArray), .string (⟨#[]⟩ : ByteArray)]) ?_ 2 _ rfl; (with_reducible repeat (first | refine blk_drewN ?_ _ | refine blk_drew ?_ | refine blk_alloc ?_ _)); refine blk_put (cs := #[.bool a0_0, .bool false, .bool false, .bool false, .int .i64 0, .int .i64 0, .string (⟨#[]⟩ : ByteArray), .string (⟨#[]⟩ : ByteArray)]) ?_ 1 _ rfl; (with_reducible repeat (first | refine blk_drewN ?_ _ | refine blk_drew ?_ | refine blk_alloc ?_ _)); refine blk_put (cs := #[.bool false, .bool false, .bool false, .bool false, .int .i64 0, .int .i64 0, .string (⟨#[]⟩ : ByteArray), .string (⟨#[]⟩ : ByteArray)]) ?_ 0 _ rfl; (with_reducible repeat (first | refine blk_drewN ?_ _ | refine blk_drew ?_ | refine blk_alloc ?_ _)); exact BK244.out) Tryd.underlying31 rfl (by kernel_rfl)) rfl ?_
  exact ⟨by first | rfl | (simp [errW_none, errW_some] <;> rfl) | (simp [*, errW_none, errW_some] <;> rfl) | (simp [bt, *]; done) | (unfold bt; simp [*]; done), by repeat (first | (with_reducible first | exact HB.out | apply below_alloc | apply pw_below_drewN | apply below_drew1 | refine below_set ?_ GE243.out | refine below_set ?_ GE244.out) | exact HB.out)⟩
def headgateref21_Same.f (a0_0 : Bool) (a0_1 : Bool) (a0_2 : Bool) (a0_3 : Bool) (a0_4 : Int) (a0_5 : Int) (a0_6 : ByteArray) (a0_7 : ByteArray) (a1_0 : Bool) (a1_1 : Bool) (a1_2 : Bool) (a1_3 : Bool) (a1_4 : Int) (a1_5 : Int) (a1_6 : ByteArray) (a1_7 : ByteArray) : Option (Bool) := if (a0_0 == a1_0) = true then (if (a0_1 == a1_1) = true then (if (a0_2 == a1_2) = true then (if (a0_3 == a1_3) = true then (if a0_4 = a1_4 then (if a0_5 = a1_5 then (if a0_6.toList = a1_6.toList then (some (a0_7.toList == a1_7.toList)) else (some false)) else (some false)) else (some false)) else (some false)) else (some false)) else (some false)) else (some false)
set_option maxHeartbeats 8000000 in
set_option maxRecDepth 100000 in
theorem headgateref21_Same.calls (a0_0 : Bool) (a0_1 : Bool) (a0_2 : Bool) (a0_3 : Bool) (a0_4 : Int) (a0_5 : Int) (a0_6 : ByteArray) (a0_7 : ByteArray) (a1_0 : Bool) (a1_1 : Bool) (a1_2 : Bool) (a1_3 : Bool) (a1_4 : Int) (a1_5 : Int) (a1_6 : ByteArray) (a1_7 : ByteArray) (r : Bool) (w : World) (h : headgateref21_Same.f a0_0 a0_1 a0_2 a0_3 a0_4 a0_5 a0_6 a0_7 a1_0 a1_1 a1_2 a1_3 a1_4 a1_5 a1_6 a1_7 = some r) :
  Calls Tryd.prog 14 #[.agg #[.bool a0_0, .bool a0_1, .bool a0_2, .bool a0_3, .int .i64 a0_4, .int .i64 a0_5, .string a0_6, .string a0_7], .agg #[.bool a1_0, .bool a1_1, .bool a1_2, .bool a1_3, .int .i64 a1_4, .int .i64 a1_5, .string a1_6, .string a1_7]] w fun e w' => e = .returned (.bool r) ∧ Below w.heap.size w w' := by
 have hu31 := Tryd.underlying31
 have HB := Aside0.mk (Below.refl w.heap.size w)
 have H : (if (a0_0 == a1_0) = true then (if (a0_1 == a1_1) = true then (if (a0_2 == a1_2) = true then (if (a0_3 == a1_3) = true then (if a0_4 = a1_4 then (if a0_5 = a1_5 then (if a0_6.toList = a1_6.toList then (some (a0_7.toList == a1_7.toList)) else (some false)) else (some false)) else (some false)) else (some false)) else (some false)) else (some false)) else (some false)) = some r := h
 clear h
 refine neg_first (p := ((a0_0 == a1_0) = true)) (fun c3 => ?_) (fun c3 => ?_)
 ·rw [if_neg c3] at H
  have c3b0 : (a0_0 == a1_0) = false := by simpa using c3
  (try (have c3b1 : decide (a0_0 = a1_0) = false := by simpa using c3))
  (try (have c3b2 : (a0_0 == a1_0) = false := by simpa using c3))
  (try (have c3b3 : ¬ (a0_0 = a1_0) := by simpa using c3))
  clear c3
  obtain rfl := Option.some.inj H
  go_enter Tryd.func14, Tryd.ntmps14
  go_wp2_with (first | ((with_reducible refine gate_dst (N := 2) rfl ?_); refine box_event ?hg (N := 2) ?hd (cs := #[.bool a0_0, .bool a0_1, .bool a0_2, .bool a0_3, .int .i64 a0_4, .int .i64 a0_5, .string a0_6, .string a0_7]) (t := 31) ?hr ?_; (case hd => rfl); (case hg => rfl); (case hr => first | (go_simp; done) | (go_simp; rfl)); intro gb245 hg w45 hbox hb; have n0_ := Aside0.mk (below_step (hb_ HB) hb); have n1_ := Aside0.mk (hbox); have n2_ := Aside0.mk ((by rw [hg]; exact (below_size (hb_ HB)) : w.heap.size ≤ gb245)); have n3_ := Aside0.mk ((by rw [hg]; exact (below_size (hb_ HB)) : w.heap.size ≤ gb245)); clear HB; have HB := n0_; have BK245 := n1_; have GW245 := n2_; have GE245 := n3_; clear n0_ n1_ n2_ n3_; clear hb hbox hg) | ((with_reducible refine gate_dst (N := 3) rfl ?_); refine box_event ?hg (N := 3) ?hd (cs := #[.bool a1_0, .bool a1_1, .bool a1_2, .bool a1_3, .int .i64 a1_4, .int .i64 a1_5, .string a1_6, .string a1_7]) (t := 31) ?hr ?_; (case hd => rfl); (case hg => rfl); (case hr => first | (go_simp; done) | (go_simp; rfl)); intro gb246 hg w46 hbox hb; have n0_ := Aside0.mk (blk_below (bk_ BK245) hb); have n1_ := Aside0.mk (below_step (hb_ HB) hb); have n2_ := Aside0.mk (hbox); have n3_ := Aside0.mk ((by rw [hg]; exact (below_size (hb_ HB)) : w.heap.size ≤ gb246)); have n4_ := Aside0.mk ((by rw [hg]; exact (below_size (hb_ HB)) : w.heap.size ≤ gb246)); have n5_ := Aside0.mk ((by rw [hg]; exact Nat.ne_of_lt (blk_lt (g := gb245) (o := .cells #[.bool a0_0, .bool a0_1, .bool a0_2, .bool a0_3, .int .i64 a0_4, .int .i64 a0_5, .string a0_6, .string a0_7] 31 (0, 0)) (bk_ BK245)) : gb245 ≠ gb246)); have n6_ := Aside0.mk ((by rw [hg]; exact Nat.ne_of_gt (blk_lt (g := gb245) (o := .cells #[.bool a0_0, .bool a0_1, .bool a0_2, .bool a0_3, .int .i64 a0_4, .int .i64 a0_5, .string a0_6, .string a0_7] 31 (0, 0)) (bk_ BK245)) : gb246 ≠ gb245)); clear BK245; clear HB; have BK245 := n0_; have HB := n1_; have BK246 := n2_; have GW246 := n3_; have GE246 := n4_; have NB245_246 := n5_; have NB246_245 := n6_; clear n0_ n1_ n2_ n3_ n4_ n5_ n6_; clear hb hbox hg; have hnb47 := NB245_246.out; have hnc47 := NB246_245.out; have hcz48_0 : w46.cell? ⟨gb245, 0, none⟩ = some (.bool a0_0) := (blk_cell BK245.out 0).trans rfl; have hcz48_1 : w46.cell? ⟨gb245, 1, none⟩ = some (.bool a0_1) := (blk_cell BK245.out 1).trans rfl; have hcz48_2 : w46.cell? ⟨gb245, 2, none⟩ = some (.bool a0_2) := (blk_cell BK245.out 2).trans rfl; have hcz48_3 : w46.cell? ⟨gb245, 3, none⟩ = some (.bool a0_3) := (blk_cell BK245.out 3).trans rfl; have hcz48_4 : w46.cell? ⟨gb245, 4, none⟩ = some (.int .i64 a0_4) := (blk_cell BK245.out 4).trans rfl; have hcz48_5 : w46.cell? ⟨gb245, 5, none⟩ = some (.int .i64 a0_5) := (blk_cell BK245.out 5).trans rfl; have hcz48_6 : w46.cell? ⟨gb245, 6, none⟩ = some (.string a0_6) := (blk_cell BK245.out 6).trans rfl; have hcz48_7 : w46.cell? ⟨gb245, 7, none⟩ = some (.string a0_7) := (blk_cell BK245.out 7).trans rfl; have hfz48_0 := blk_frozen BK245.out 0; have hfz48_1 := blk_frozen BK245.out 1; have hfz48_2 := blk_frozen BK245.out 2; have hfz48_3 := blk_frozen BK245.out 3; have hfz48_4 := blk_frozen BK245.out 4; have hfz48_5 := blk_frozen BK245.out 5; have hfz48_6 := blk_frozen BK245.out 6; have hfz48_7 := blk_frozen BK245.out 7; have hcz49_0 : w46.cell? ⟨gb246, 0, none⟩ = some (.bool a1_0) := (blk_cell BK246.out 0).trans rfl; have hcz49_1 : w46.cell? ⟨gb246, 1, none⟩ = some (.bool a1_1) := (blk_cell BK246.out 1).trans rfl; have hcz49_2 : w46.cell? ⟨gb246, 2, none⟩ = some (.bool a1_2) := (blk_cell BK246.out 2).trans rfl; have hcz49_3 : w46.cell? ⟨gb246, 3, none⟩ = some (.bool a1_3) := (blk_cell BK246.out 3).trans rfl; have hcz49_4 : w46.cell? ⟨gb246, 4, none⟩ = some (.int .i64 a1_4) := (blk_cell BK246.out 4).trans rfl; have hcz49_5 : w46.cell? ⟨gb246, 5, none⟩ = some (.int .i64 a1_5) := (blk_cell BK246.out 5).trans rfl; have hcz49_6 : w46.cell? ⟨gb246, 6, none⟩ = some (.string a1_6) := (blk_cell BK246.out 6).trans rfl; have hcz49_7 : w46.cell? ⟨gb246, 7, none⟩ = some (.string a1_7) := (blk_cell BK246.out 7).trans rfl; have hfz49_0 := blk_frozen BK246.out 0; have hfz49_1 := blk_frozen BK246.out 1; have hfz49_2 := blk_frozen BK246.out 2; have hfz49_3 := blk_frozen BK246.out 3; have hfz49_4 := blk_frozen BK246.out 4; have hfz49_5 := blk_frozen BK246.out 5; have hfz49_6 := blk_frozen BK246.out 6; have hfz49_7 := blk_frozen BK246.out 7))
  go_ret
  exact ⟨by first | rfl | (simp [errW_none, errW_some] <;> rfl) | (simp [*, errW_none, errW_some] <;> rfl) | (simp [bt, *]; done) | (unfold bt; simp [*]; done), by repeat (first | (with_reducible first | exact HB.out | apply below_alloc | apply pw_below_drewN | apply below_drew1 | refine below_set ?_ GE245.out | refine below_set ?_ GE246.out) | exact HB.out)⟩
 rw [if_pos c3] at H
 have c3b0 : (a0_0 == a1_0) = true := c3
 (try (have c3b1 : decide (a0_0 = a1_0) = true := by simpa using c3))
 (try (have c3b2 : (a0_0 == a1_0) = true := by simpa using c3))
 clear c3
 refine neg_first (p := ((a0_1 == a1_1) = true)) (fun c4 => ?_) (fun c4 => ?_)
 ·rw [if_neg c4] at H
  have c4b0 : (a0_1 == a1_1) = false := by simpa using c4
  (try (have c4b1 : decide (a0_1 = a1_1) = false := by simpa using c4))
  (try (have c4b2 : (a0_1 == a1_1) = false := by simpa using c4))
  (try (have c4b3 : ¬ (a0_1 = a1_1) := by simpa using c4))
  clear c4
  obtain rfl := Option.some.inj H
  go_enter Tryd.func14, Tryd.ntmps14
  go_wp2_with (first | ((with_reducible refine gate_dst (N := 2) rfl ?_); refine box_event ?hg (N := 2) ?hd (cs := #[.bool a0_0, .bool a0_1, .bool a0_2, .bool a0_3, .int .i64 a0_4, .int .i64 a0_5, .string a0_6, .string a0_7]) (t := 31) ?hr ?_; (case hd => rfl); (case hg => rfl); (case hr => first | (go_simp; done) | (go_simp; rfl)); intro gb245 hg w40 hbox hb; have n0_ := Aside0.mk (below_step (hb_ HB) hb); have n1_ := Aside0.mk (hbox); have n2_ := Aside0.mk ((by rw [hg]; exact (below_size (hb_ HB)) : w.heap.size ≤ gb245)); have n3_ := Aside0.mk ((by rw [hg]; exact (below_size (hb_ HB)) : w.heap.size ≤ gb245)); clear HB; have HB := n0_; have BK245 := n1_; have GW245 := n2_; have GE245 := n3_; clear n0_ n1_ n2_ n3_; clear hb hbox hg) | ((with_reducible refine gate_dst (N := 3) rfl ?_); refine box_event ?hg (N := 3) ?hd (cs := #[.bool a1_0, .bool a1_1, .bool a1_2, .bool a1_3, .int .i64 a1_4, .int .i64 a1_5, .string a1_6, .string a1_7]) (t := 31) ?hr ?_; (case hd => rfl); (case hg => rfl); (case hr => first | (go_simp; done) | (go_simp; rfl)); intro gb246 hg w41 hbox hb; have n0_ := Aside0.mk (blk_below (bk_ BK245) hb); have n1_ := Aside0.mk (below_step (hb_ HB) hb); have n2_ := Aside0.mk (hbox); have n3_ := Aside0.mk ((by rw [hg]; exact (below_size (hb_ HB)) : w.heap.size ≤ gb246)); have n4_ := Aside0.mk ((by rw [hg]; exact (below_size (hb_ HB)) : w.heap.size ≤ gb246)); have n5_ := Aside0.mk ((by rw [hg]; exact Nat.ne_of_lt (blk_lt (g := gb245) (o := .cells #[.bool a0_0, .bool a0_1, .bool a0_2, .bool a0_3, .int .i64 a0_4, .int .i64 a0_5, .string a0_6, .string a0_7] 31 (0, 0)) (bk_ BK245)) : gb245 ≠ gb246)); have n6_ := Aside0.mk ((by rw [hg]; exact Nat.ne_of_gt (blk_lt (g := gb245) (o := .cells #[.bool a0_0, .bool a0_1, .bool a0_2, .bool a0_3, .int .i64 a0_4, .int .i64 a0_5, .string a0_6, .string a0_7] 31 (0, 0)) (bk_ BK245)) : gb246 ≠ gb245)); clear BK245; clear HB; have BK245 := n0_; have HB := n1_; have BK246 := n2_; have GW246 := n3_; have GE246 := n4_; have NB245_246 := n5_; have NB246_245 := n6_; clear n0_ n1_ n2_ n3_ n4_ n5_ n6_; clear hb hbox hg; have hnb42 := NB245_246.out; have hnc42 := NB246_245.out; have hcz43_0 : w41.cell? ⟨gb245, 0, none⟩ = some (.bool a0_0) := (blk_cell BK245.out 0).trans rfl; have hcz43_1 : w41.cell? ⟨gb245, 1, none⟩ = some (.bool a0_1) := (blk_cell BK245.out 1).trans rfl; have hcz43_2 : w41.cell? ⟨gb245, 2, none⟩ = some (.bool a0_2) := (blk_cell BK245.out 2).trans rfl; have hcz43_3 : w41.cell? ⟨gb245, 3, none⟩ = some (.bool a0_3) := (blk_cell BK245.out 3).trans rfl; have hcz43_4 : w41.cell? ⟨gb245, 4, none⟩ = some (.int .i64 a0_4) := (blk_cell BK245.out 4).trans rfl; have hcz43_5 : w41.cell? ⟨gb245, 5, none⟩ = some (.int .i64 a0_5) := (blk_cell BK245.out 5).trans rfl; have hcz43_6 : w41.cell? ⟨gb245, 6, none⟩ = some (.string a0_6) := (blk_cell BK245.out 6).trans rfl; have hcz43_7 : w41.cell? ⟨gb245, 7, none⟩ = some (.string a0_7) := (blk_cell BK245.out 7).trans rfl; have hfz43_0 := blk_frozen BK245.out 0; have hfz43_1 := blk_frozen BK245.out 1; have hfz43_2 := blk_frozen BK245.out 2; have hfz43_3 := blk_frozen BK245.out 3; have hfz43_4 := blk_frozen BK245.out 4; have hfz43_5 := blk_frozen BK245.out 5; have hfz43_6 := blk_frozen BK245.out 6; have hfz43_7 := blk_frozen BK245.out 7; have hcz44_0 : w41.cell? ⟨gb246, 0, none⟩ = some (.bool a1_0) := (blk_cell BK246.out 0).trans rfl; have hcz44_1 : w41.cell? ⟨gb246, 1, none⟩ = some (.bool a1_1) := (blk_cell BK246.out 1).trans rfl; have hcz44_2 : w41.cell? ⟨gb246, 2, none⟩ = some (.bool a1_2) := (blk_cell BK246.out 2).trans rfl; have hcz44_3 : w41.cell? ⟨gb246, 3, none⟩ = some (.bool a1_3) := (blk_cell BK246.out 3).trans rfl; have hcz44_4 : w41.cell? ⟨gb246, 4, none⟩ = some (.int .i64 a1_4) := (blk_cell BK246.out 4).trans rfl; have hcz44_5 : w41.cell? ⟨gb246, 5, none⟩ = some (.int .i64 a1_5) := (blk_cell BK246.out 5).trans rfl; have hcz44_6 : w41.cell? ⟨gb246, 6, none⟩ = some (.string a1_6) := (blk_cell BK246.out 6).trans rfl; have hcz44_7 : w41.cell? ⟨gb246, 7, none⟩ = some (.string a1_7) := (blk_cell BK246.out 7).trans rfl; have hfz44_0 := blk_frozen BK246.out 0; have hfz44_1 := blk_frozen BK246.out 1; have hfz44_2 := blk_frozen BK246.out 2; have hfz44_3 := blk_frozen BK246.out 3; have hfz44_4 := blk_frozen BK246.out 4; have hfz44_5 := blk_frozen BK246.out 5; have hfz44_6 := blk_frozen BK246.out 6; have hfz44_7 := blk_frozen BK246.out 7))
  go_ret
  exact ⟨by first | rfl | (simp [errW_none, errW_some] <;> rfl) | (simp [*, errW_none, errW_some] <;> rfl) | (simp [bt, *]; done) | (unfold bt; simp [*]; done), by repeat (first | (with_reducible first | exact HB.out | apply below_alloc | apply pw_below_drewN | apply below_drew1 | refine below_set ?_ GE245.out | refine below_set ?_ GE246.out) | exact HB.out)⟩
 rw [if_pos c4] at H
 have c4b0 : (a0_1 == a1_1) = true := c4
 (try (have c4b1 : decide (a0_1 = a1_1) = true := by simpa using c4))
 (try (have c4b2 : (a0_1 == a1_1) = true := by simpa using c4))
 clear c4
 refine neg_first (p := ((a0_2 == a1_2) = true)) (fun c5 => ?_) (fun c5 => ?_)
 ·rw [if_neg c5] at H
  have c5b0 : (a0_2 == a1_2) = false := by simpa using c5
  (try (have c5b1 : decide (a0_2 = a1_2) = false := by simpa using c5))
  (try (have c5b2 : (a0_2 == a1_2) = false := by simpa using c5))
  (try (have c5b3 : ¬ (a0_2 = a1_2) := by simpa using c5))
  clear c5
  obtain rfl := Option.some.inj H
  go_enter Tryd.func14, Tryd.ntmps14
  go_wp2_with (first | ((with_reducible refine gate_dst (N := 2) rfl ?_); refine box_event ?hg (N := 2) ?hd (cs := #[.bool a0_0, .bool a0_1, .bool a0_2, .bool a0_3, .int .i64 a0_4, .int .i64 a0_5, .string a0_6, .string a0_7]) (t := 31) ?hr ?_; (case hd => rfl); (case hg => rfl); (case hr => first | (go_simp; done) | (go_simp; rfl)); intro gb245 hg w35 hbox hb; have n0_ := Aside0.mk (below_step (hb_ HB) hb); have n1_ := Aside0.mk (hbox); have n2_ := Aside0.mk ((by rw [hg]; exact (below_size (hb_ HB)) : w.heap.size ≤ gb245)); have n3_ := Aside0.mk ((by rw [hg]; exact (below_size (hb_ HB)) : w.heap.size ≤ gb245)); clear HB; have HB := n0_; have BK245 := n1_; have GW245 := n2_; have GE245 := n3_; clear n0_ n1_ n2_ n3_; clear hb hbox hg) | ((with_reducible refine gate_dst (N := 3) rfl ?_); refine box_event ?hg (N := 3) ?hd (cs := #[.bool a1_0, .bool a1_1, .bool a1_2, .bool a1_3, .int .i64 a1_4, .int .i64 a1_5, .string a1_6, .string a1_7]) (t := 31) ?hr ?_; (case hd => rfl); (case hg => rfl); (case hr => first | (go_simp; done) | (go_simp; rfl)); intro gb246 hg w36 hbox hb; have n0_ := Aside0.mk (blk_below (bk_ BK245) hb); have n1_ := Aside0.mk (below_step (hb_ HB) hb); have n2_ := Aside0.mk (hbox); have n3_ := Aside0.mk ((by rw [hg]; exact (below_size (hb_ HB)) : w.heap.size ≤ gb246)); have n4_ := Aside0.mk ((by rw [hg]; exact (below_size (hb_ HB)) : w.heap.size ≤ gb246)); have n5_ := Aside0.mk ((by rw [hg]; exact Nat.ne_of_lt (blk_lt (g := gb245) (o := .cells #[.bool a0_0, .bool a0_1, .bool a0_2, .bool a0_3, .int .i64 a0_4, .int .i64 a0_5, .string a0_6, .string a0_7] 31 (0, 0)) (bk_ BK245)) : gb245 ≠ gb246)); have n6_ := Aside0.mk ((by rw [hg]; exact Nat.ne_of_gt (blk_lt (g := gb245) (o := .cells #[.bool a0_0, .bool a0_1, .bool a0_2, .bool a0_3, .int .i64 a0_4, .int .i64 a0_5, .string a0_6, .string a0_7] 31 (0, 0)) (bk_ BK245)) : gb246 ≠ gb245)); clear BK245; clear HB; have BK245 := n0_; have HB := n1_; have BK246 := n2_; have GW246 := n3_; have GE246 := n4_; have NB245_246 := n5_; have NB246_245 := n6_; clear n0_ n1_ n2_ n3_ n4_ n5_ n6_; clear hb hbox hg; have hnb37 := NB245_246.out; have hnc37 := NB246_245.out; have hcz38_0 : w36.cell? ⟨gb245, 0, none⟩ = some (.bool a0_0) := (blk_cell BK245.out 0).trans rfl; have hcz38_1 : w36.cell? ⟨gb245, 1, none⟩ = some (.bool a0_1) := (blk_cell BK245.out 1).trans rfl; have hcz38_2 : w36.cell? ⟨gb245, 2, none⟩ = some (.bool a0_2) := (blk_cell BK245.out 2).trans rfl; have hcz38_3 : w36.cell? ⟨gb245, 3, none⟩ = some (.bool a0_3) := (blk_cell BK245.out 3).trans rfl; have hcz38_4 : w36.cell? ⟨gb245, 4, none⟩ = some (.int .i64 a0_4) := (blk_cell BK245.out 4).trans rfl; have hcz38_5 : w36.cell? ⟨gb245, 5, none⟩ = some (.int .i64 a0_5) := (blk_cell BK245.out 5).trans rfl; have hcz38_6 : w36.cell? ⟨gb245, 6, none⟩ = some (.string a0_6) := (blk_cell BK245.out 6).trans rfl; have hcz38_7 : w36.cell? ⟨gb245, 7, none⟩ = some (.string a0_7) := (blk_cell BK245.out 7).trans rfl; have hfz38_0 := blk_frozen BK245.out 0; have hfz38_1 := blk_frozen BK245.out 1; have hfz38_2 := blk_frozen BK245.out 2; have hfz38_3 := blk_frozen BK245.out 3; have hfz38_4 := blk_frozen BK245.out 4; have hfz38_5 := blk_frozen BK245.out 5; have hfz38_6 := blk_frozen BK245.out 6; have hfz38_7 := blk_frozen BK245.out 7; have hcz39_0 : w36.cell? ⟨gb246, 0, none⟩ = some (.bool a1_0) := (blk_cell BK246.out 0).trans rfl; have hcz39_1 : w36.cell? ⟨gb246, 1, none⟩ = some (.bool a1_1) := (blk_cell BK246.out 1).trans rfl; have hcz39_2 : w36.cell? ⟨gb246, 2, none⟩ = some (.bool a1_2) := (blk_cell BK246.out 2).trans rfl; have hcz39_3 : w36.cell? ⟨gb246, 3, none⟩ = some (.bool a1_3) := (blk_cell BK246.out 3).trans rfl; have hcz39_4 : w36.cell? ⟨gb246, 4, none⟩ = some (.int .i64 a1_4) := (blk_cell BK246.out 4).trans rfl; have hcz39_5 : w36.cell? ⟨gb246, 5, none⟩ = some (.int .i64 a1_5) := (blk_cell BK246.out 5).trans rfl; have hcz39_6 : w36.cell? ⟨gb246, 6, none⟩ = some (.string a1_6) := (blk_cell BK246.out 6).trans rfl; have hcz39_7 : w36.cell? ⟨gb246, 7, none⟩ = some (.string a1_7) := (blk_cell BK246.out 7).trans rfl; have hfz39_0 := blk_frozen BK246.out 0; have hfz39_1 := blk_frozen BK246.out 1; have hfz39_2 := blk_frozen BK246.out 2; have hfz39_3 := blk_frozen BK246.out 3; have hfz39_4 := blk_frozen BK246.out 4; have hfz39_5 := blk_frozen BK246.out 5; have hfz39_6 := blk_frozen BK246.out 6; have hfz39_7 := blk_frozen BK246.out 7))
  go_ret
  exact ⟨by first | rfl | (simp [errW_none, errW_some] <;> rfl) | (simp [*, errW_none, errW_some] <;> rfl) | (simp [bt, *]; done) | (unfold bt; simp [*]; done), by repeat (first | (with_reducible first | exact HB.out | apply below_alloc | apply pw_below_drewN | apply below_drew1 | refine below_set ?_ GE245.out | refine below_set ?_ GE246.out) | exact HB.out)⟩
 rw [if_pos c5] at H
 have c5b0 : (a0_2 == a1_2) = true := c5
 (try (have c5b1 : decide (a0_2 = a1_2) = true := by simpa using c5))
 (try (have c5b2 : (a0_2 == a1_2) = true := by simpa using c5))
 clear c5
 refine neg_first (p := ((a0_3 == a1_3) = true)) (fun c6 => ?_) (fun c6 => ?_)
 ·rw [if_neg c6] at H
  have c6b0 : (a0_3 == a1_3) = false := by simpa using c6
  (try (have c6b1 : decide (a0_3 = a1_3) = false := by simpa using c6))
  (try (have c6b2 : (a0_3 == a1_3) = false := by simpa using c6))
  (try (have c6b3 : ¬ (a0_3 = a1_3) := by simpa using c6))
  clear c6
  obtain rfl := Option.some.inj H
  go_enter Tryd.func14, Tryd.ntmps14
  go_wp2_with (first | ((with_reducible refine gate_dst (N := 2) rfl ?_); refine box_event ?hg (N := 2) ?hd (cs := #[.bool a0_0, .bool a0_1, .bool a0_2, .bool a0_3, .int .i64 a0_4, .int .i64 a0_5, .string a0_6, .string a0_7]) (t := 31) ?hr ?_; (case hd => rfl); (case hg => rfl); (case hr => first | (go_simp; done) | (go_simp; rfl)); intro gb245 hg w30 hbox hb; have n0_ := Aside0.mk (below_step (hb_ HB) hb); have n1_ := Aside0.mk (hbox); have n2_ := Aside0.mk ((by rw [hg]; exact (below_size (hb_ HB)) : w.heap.size ≤ gb245)); have n3_ := Aside0.mk ((by rw [hg]; exact (below_size (hb_ HB)) : w.heap.size ≤ gb245)); clear HB; have HB := n0_; have BK245 := n1_; have GW245 := n2_; have GE245 := n3_; clear n0_ n1_ n2_ n3_; clear hb hbox hg) | ((with_reducible refine gate_dst (N := 3) rfl ?_); refine box_event ?hg (N := 3) ?hd (cs := #[.bool a1_0, .bool a1_1, .bool a1_2, .bool a1_3, .int .i64 a1_4, .int .i64 a1_5, .string a1_6, .string a1_7]) (t := 31) ?hr ?_; (case hd => rfl); (case hg => rfl); (case hr => first | (go_simp; done) | (go_simp; rfl)); intro gb246 hg w31 hbox hb; have n0_ := Aside0.mk (blk_below (bk_ BK245) hb); have n1_ := Aside0.mk (below_step (hb_ HB) hb); have n2_ := Aside0.mk (hbox); have n3_ := Aside0.mk ((by rw [hg]; exact (below_size (hb_ HB)) : w.heap.size ≤ gb246)); have n4_ := Aside0.mk ((by rw [hg]; exact (below_size (hb_ HB)) : w.heap.size ≤ gb246)); have n5_ := Aside0.mk ((by rw [hg]; exact Nat.ne_of_lt (blk_lt (g := gb245) (o := .cells #[.bool a0_0, .bool a0_1, .bool a0_2, .bool a0_3, .int .i64 a0_4, .int .i64 a0_5, .string a0_6, .string a0_7] 31 (0, 0)) (bk_ BK245)) : gb245 ≠ gb246)); have n6_ := Aside0.mk ((by rw [hg]; exact Nat.ne_of_gt (blk_lt (g := gb245) (o := .cells #[.bool a0_0, .bool a0_1, .bool a0_2, .bool a0_3, .int .i64 a0_4, .int .i64 a0_5, .string a0_6, .string a0_7] 31 (0, 0)) (bk_ BK245)) : gb246 ≠ gb245)); clear BK245; clear HB; have BK245 := n0_; have HB := n1_; have BK246 := n2_; have GW246 := n3_; have GE246 := n4_; have NB245_246 := n5_; have NB246_245 := n6_; clear n0_ n1_ n2_ n3_ n4_ n5_ n6_; clear hb hbox hg; have hnb32 := NB245_246.out; have hnc32 := NB246_245.out; have hcz33_0 : w31.cell? ⟨gb245, 0, none⟩ = some (.bool a0_0) := (blk_cell BK245.out 0).trans rfl; have hcz33_1 : w31.cell? ⟨gb245, 1, none⟩ = some (.bool a0_1) := (blk_cell BK245.out 1).trans rfl; have hcz33_2 : w31.cell? ⟨gb245, 2, none⟩ = some (.bool a0_2) := (blk_cell BK245.out 2).trans rfl; have hcz33_3 : w31.cell? ⟨gb245, 3, none⟩ = some (.bool a0_3) := (blk_cell BK245.out 3).trans rfl; have hcz33_4 : w31.cell? ⟨gb245, 4, none⟩ = some (.int .i64 a0_4) := (blk_cell BK245.out 4).trans rfl; have hcz33_5 : w31.cell? ⟨gb245, 5, none⟩ = some (.int .i64 a0_5) := (blk_cell BK245.out 5).trans rfl; have hcz33_6 : w31.cell? ⟨gb245, 6, none⟩ = some (.string a0_6) := (blk_cell BK245.out 6).trans rfl; have hcz33_7 : w31.cell? ⟨gb245, 7, none⟩ = some (.string a0_7) := (blk_cell BK245.out 7).trans rfl; have hfz33_0 := blk_frozen BK245.out 0; have hfz33_1 := blk_frozen BK245.out 1; have hfz33_2 := blk_frozen BK245.out 2; have hfz33_3 := blk_frozen BK245.out 3; have hfz33_4 := blk_frozen BK245.out 4; have hfz33_5 := blk_frozen BK245.out 5; have hfz33_6 := blk_frozen BK245.out 6; have hfz33_7 := blk_frozen BK245.out 7; have hcz34_0 : w31.cell? ⟨gb246, 0, none⟩ = some (.bool a1_0) := (blk_cell BK246.out 0).trans rfl; have hcz34_1 : w31.cell? ⟨gb246, 1, none⟩ = some (.bool a1_1) := (blk_cell BK246.out 1).trans rfl; have hcz34_2 : w31.cell? ⟨gb246, 2, none⟩ = some (.bool a1_2) := (blk_cell BK246.out 2).trans rfl; have hcz34_3 : w31.cell? ⟨gb246, 3, none⟩ = some (.bool a1_3) := (blk_cell BK246.out 3).trans rfl; have hcz34_4 : w31.cell? ⟨gb246, 4, none⟩ = some (.int .i64 a1_4) := (blk_cell BK246.out 4).trans rfl; have hcz34_5 : w31.cell? ⟨gb246, 5, none⟩ = some (.int .i64 a1_5) := (blk_cell BK246.out 5).trans rfl; have hcz34_6 : w31.cell? ⟨gb246, 6, none⟩ = some (.string a1_6) := (blk_cell BK246.out 6).trans rfl; have hcz34_7 : w31.cell? ⟨gb246, 7, none⟩ = some (.string a1_7) := (blk_cell BK246.out 7).trans rfl; have hfz34_0 := blk_frozen BK246.out 0; have hfz34_1 := blk_frozen BK246.out 1; have hfz34_2 := blk_frozen BK246.out 2; have hfz34_3 := blk_frozen BK246.out 3; have hfz34_4 := blk_frozen BK246.out 4; have hfz34_5 := blk_frozen BK246.out 5; have hfz34_6 := blk_frozen BK246.out 6; have hfz34_7 := blk_frozen BK246.out 7))
  go_ret
  exact ⟨by first | rfl | (simp [errW_none, errW_some] <;> rfl) | (simp [*, errW_none, errW_some] <;> rfl) | (simp [bt, *]; done) | (unfold bt; simp [*]; done), by repeat (first | (with_reducible first | exact HB.out | apply below_alloc | apply pw_below_drewN | apply below_drew1 | refine below_set ?_ GE245.out | refine below_set ?_ GE246.out) | exact HB.out)⟩
 rw [if_pos c6] at H
 have c6b0 : (a0_3 == a1_3) = true := c6
 (try (have c6b1 : decide (a0_3 = a1_3) = true := by simpa using c6))
 (try (have c6b2 : (a0_3 == a1_3) = true := by simpa using c6))
 clear c6
 refine neg_first (p := (a0_4 = a1_4)) (fun c7 => ?_) (fun c7 => ?_)
 ·rw [if_neg c7] at H
  have c7b0 : (a0_4 == a1_4) = false := beq_eq_false_iff_ne.mpr c7
  have c7b1 : (a0_4 != a1_4) = true := bne_iff_ne.mpr c7
  obtain rfl := Option.some.inj H
  go_enter Tryd.func14, Tryd.ntmps14
  go_wp2_with (first | ((with_reducible refine gate_dst (N := 2) rfl ?_); refine box_event ?hg (N := 2) ?hd (cs := #[.bool a0_0, .bool a0_1, .bool a0_2, .bool a0_3, .int .i64 a0_4, .int .i64 a0_5, .string a0_6, .string a0_7]) (t := 31) ?hr ?_; (case hd => rfl); (case hg => rfl); (case hr => first | (go_simp; done) | (go_simp; rfl)); intro gb245 hg w25 hbox hb; have n0_ := Aside0.mk (below_step (hb_ HB) hb); have n1_ := Aside0.mk (hbox); have n2_ := Aside0.mk ((by rw [hg]; exact (below_size (hb_ HB)) : w.heap.size ≤ gb245)); have n3_ := Aside0.mk ((by rw [hg]; exact (below_size (hb_ HB)) : w.heap.size ≤ gb245)); clear HB; have HB := n0_; have BK245 := n1_; have GW245 := n2_; have GE245 := n3_; clear n0_ n1_ n2_ n3_; clear hb hbox hg) | ((with_reducible refine gate_dst (N := 3) rfl ?_); refine box_event ?hg (N := 3) ?hd (cs := #[.bool a1_0, .bool a1_1, .bool a1_2, .bool a1_3, .int .i64 a1_4, .int .i64 a1_5, .string a1_6, .string a1_7]) (t := 31) ?hr ?_; (case hd => rfl); (case hg => rfl); (case hr => first | (go_simp; done) | (go_simp; rfl)); intro gb246 hg w26 hbox hb; have n0_ := Aside0.mk (blk_below (bk_ BK245) hb); have n1_ := Aside0.mk (below_step (hb_ HB) hb); have n2_ := Aside0.mk (hbox); have n3_ := Aside0.mk ((by rw [hg]; exact (below_size (hb_ HB)) : w.heap.size ≤ gb246)); have n4_ := Aside0.mk ((by rw [hg]; exact (below_size (hb_ HB)) : w.heap.size ≤ gb246)); have n5_ := Aside0.mk ((by rw [hg]; exact Nat.ne_of_lt (blk_lt (g := gb245) (o := .cells #[.bool a0_0, .bool a0_1, .bool a0_2, .bool a0_3, .int .i64 a0_4, .int .i64 a0_5, .string a0_6, .string a0_7] 31 (0, 0)) (bk_ BK245)) : gb245 ≠ gb246)); have n6_ := Aside0.mk ((by rw [hg]; exact Nat.ne_of_gt (blk_lt (g := gb245) (o := .cells #[.bool a0_0, .bool a0_1, .bool a0_2, .bool a0_3, .int .i64 a0_4, .int .i64 a0_5, .string a0_6, .string a0_7] 31 (0, 0)) (bk_ BK245)) : gb246 ≠ gb245)); clear BK245; clear HB; have BK245 := n0_; have HB := n1_; have BK246 := n2_; have GW246 := n3_; have GE246 := n4_; have NB245_246 := n5_; have NB246_245 := n6_; clear n0_ n1_ n2_ n3_ n4_ n5_ n6_; clear hb hbox hg; have hnb27 := NB245_246.out; have hnc27 := NB246_245.out; have hcz28_0 : w26.cell? ⟨gb245, 0, none⟩ = some (.bool a0_0) := (blk_cell BK245.out 0).trans rfl; have hcz28_1 : w26.cell? ⟨gb245, 1, none⟩ = some (.bool a0_1) := (blk_cell BK245.out 1).trans rfl; have hcz28_2 : w26.cell? ⟨gb245, 2, none⟩ = some (.bool a0_2) := (blk_cell BK245.out 2).trans rfl; have hcz28_3 : w26.cell? ⟨gb245, 3, none⟩ = some (.bool a0_3) := (blk_cell BK245.out 3).trans rfl; have hcz28_4 : w26.cell? ⟨gb245, 4, none⟩ = some (.int .i64 a0_4) := (blk_cell BK245.out 4).trans rfl; have hcz28_5 : w26.cell? ⟨gb245, 5, none⟩ = some (.int .i64 a0_5) := (blk_cell BK245.out 5).trans rfl; have hcz28_6 : w26.cell? ⟨gb245, 6, none⟩ = some (.string a0_6) := (blk_cell BK245.out 6).trans rfl; have hcz28_7 : w26.cell? ⟨gb245, 7, none⟩ = some (.string a0_7) := (blk_cell BK245.out 7).trans rfl; have hfz28_0 := blk_frozen BK245.out 0; have hfz28_1 := blk_frozen BK245.out 1; have hfz28_2 := blk_frozen BK245.out 2; have hfz28_3 := blk_frozen BK245.out 3; have hfz28_4 := blk_frozen BK245.out 4; have hfz28_5 := blk_frozen BK245.out 5; have hfz28_6 := blk_frozen BK245.out 6; have hfz28_7 := blk_frozen BK245.out 7; have hcz29_0 : w26.cell? ⟨gb246, 0, none⟩ = some (.bool a1_0) := (blk_cell BK246.out 0).trans rfl; have hcz29_1 : w26.cell? ⟨gb246, 1, none⟩ = some (.bool a1_1) := (blk_cell BK246.out 1).trans rfl; have hcz29_2 : w26.cell? ⟨gb246, 2, none⟩ = some (.bool a1_2) := (blk_cell BK246.out 2).trans rfl; have hcz29_3 : w26.cell? ⟨gb246, 3, none⟩ = some (.bool a1_3) := (blk_cell BK246.out 3).trans rfl; have hcz29_4 : w26.cell? ⟨gb246, 4, none⟩ = some (.int .i64 a1_4) := (blk_cell BK246.out 4).trans rfl; have hcz29_5 : w26.cell? ⟨gb246, 5, none⟩ = some (.int .i64 a1_5) := (blk_cell BK246.out 5).trans rfl; have hcz29_6 : w26.cell? ⟨gb246, 6, none⟩ = some (.string a1_6) := (blk_cell BK246.out 6).trans rfl; have hcz29_7 : w26.cell? ⟨gb246, 7, none⟩ = some (.string a1_7) := (blk_cell BK246.out 7).trans rfl; have hfz29_0 := blk_frozen BK246.out 0; have hfz29_1 := blk_frozen BK246.out 1; have hfz29_2 := blk_frozen BK246.out 2; have hfz29_3 := blk_frozen BK246.out 3; have hfz29_4 := blk_frozen BK246.out 4; have hfz29_5 := blk_frozen BK246.out 5; have hfz29_6 := blk_frozen BK246.out 6; have hfz29_7 := blk_frozen BK246.out 7))
  go_ret
  exact ⟨by first | rfl | (simp [errW_none, errW_some] <;> rfl) | (simp [*, errW_none, errW_some] <;> rfl) | (simp [bt, *]; done) | (unfold bt; simp [*]; done), by repeat (first | (with_reducible first | exact HB.out | apply below_alloc | apply pw_below_drewN | apply below_drew1 | refine below_set ?_ GE245.out | refine below_set ?_ GE246.out) | exact HB.out)⟩
 rw [if_pos c7] at H
 have c7b0 : (a0_4 == a1_4) = true := beq_iff_eq.mpr c7
 have c7b1 : (a0_4 != a1_4) = false := bne_eq_false_iff_eq.mpr c7
 clear c7
 refine neg_first (p := (a0_5 = a1_5)) (fun c8 => ?_) (fun c8 => ?_)
 ·rw [if_neg c8] at H
  have c8b0 : (a0_5 == a1_5) = false := beq_eq_false_iff_ne.mpr c8
  have c8b1 : (a0_5 != a1_5) = true := bne_iff_ne.mpr c8
  obtain rfl := Option.some.inj H
  go_enter Tryd.func14, Tryd.ntmps14
  go_wp2_with (first | ((with_reducible refine gate_dst (N := 2) rfl ?_); refine box_event ?hg (N := 2) ?hd (cs := #[.bool a0_0, .bool a0_1, .bool a0_2, .bool a0_3, .int .i64 a0_4, .int .i64 a0_5, .string a0_6, .string a0_7]) (t := 31) ?hr ?_; (case hd => rfl); (case hg => rfl); (case hr => first | (go_simp; done) | (go_simp; rfl)); intro gb245 hg w20 hbox hb; have n0_ := Aside0.mk (below_step (hb_ HB) hb); have n1_ := Aside0.mk (hbox); have n2_ := Aside0.mk ((by rw [hg]; exact (below_size (hb_ HB)) : w.heap.size ≤ gb245)); have n3_ := Aside0.mk ((by rw [hg]; exact (below_size (hb_ HB)) : w.heap.size ≤ gb245)); clear HB; have HB := n0_; have BK245 := n1_; have GW245 := n2_; have GE245 := n3_; clear n0_ n1_ n2_ n3_; clear hb hbox hg) | ((with_reducible refine gate_dst (N := 3) rfl ?_); refine box_event ?hg (N := 3) ?hd (cs := #[.bool a1_0, .bool a1_1, .bool a1_2, .bool a1_3, .int .i64 a1_4, .int .i64 a1_5, .string a1_6, .string a1_7]) (t := 31) ?hr ?_; (case hd => rfl); (case hg => rfl); (case hr => first | (go_simp; done) | (go_simp; rfl)); intro gb246 hg w21 hbox hb; have n0_ := Aside0.mk (blk_below (bk_ BK245) hb); have n1_ := Aside0.mk (below_step (hb_ HB) hb); have n2_ := Aside0.mk (hbox); have n3_ := Aside0.mk ((by rw [hg]; exact (below_size (hb_ HB)) : w.heap.size ≤ gb246)); have n4_ := Aside0.mk ((by rw [hg]; exact (below_size (hb_ HB)) : w.heap.size ≤ gb246)); have n5_ := Aside0.mk ((by rw [hg]; exact Nat.ne_of_lt (blk_lt (g := gb245) (o := .cells #[.bool a0_0, .bool a0_1, .bool a0_2, .bool a0_3, .int .i64 a0_4, .int .i64 a0_5, .string a0_6, .string a0_7] 31 (0, 0)) (bk_ BK245)) : gb245 ≠ gb246)); have n6_ := Aside0.mk ((by rw [hg]; exact Nat.ne_of_gt (blk_lt (g := gb245) (o := .cells #[.bool a0_0, .bool a0_1, .bool a0_2, .bool a0_3, .int .i64 a0_4, .int .i64 a0_5, .string a0_6, .string a0_7] 31 (0, 0)) (bk_ BK245)) : gb246 ≠ gb245)); clear BK245; clear HB; have BK245 := n0_; have HB := n1_; have BK246 := n2_; have GW246 := n3_; have GE246 := n4_; have NB245_246 := n5_; have NB246_245 := n6_; clear n0_ n1_ n2_ n3_ n4_ n5_ n6_; clear hb hbox hg; have hnb22 := NB245_246.out; have hnc22 := NB246_245.out; have hcz23_0 : w21.cell? ⟨gb245, 0, none⟩ = some (.bool a0_0) := (blk_cell BK245.out 0).trans rfl; have hcz23_1 : w21.cell? ⟨gb245, 1, none⟩ = some (.bool a0_1) := (blk_cell BK245.out 1).trans rfl; have hcz23_2 : w21.cell? ⟨gb245, 2, none⟩ = some (.bool a0_2) := (blk_cell BK245.out 2).trans rfl; have hcz23_3 : w21.cell? ⟨gb245, 3, none⟩ = some (.bool a0_3) := (blk_cell BK245.out 3).trans rfl; have hcz23_4 : w21.cell? ⟨gb245, 4, none⟩ = some (.int .i64 a0_4) := (blk_cell BK245.out 4).trans rfl; have hcz23_5 : w21.cell? ⟨gb245, 5, none⟩ = some (.int .i64 a0_5) := (blk_cell BK245.out 5).trans rfl; have hcz23_6 : w21.cell? ⟨gb245, 6, none⟩ = some (.string a0_6) := (blk_cell BK245.out 6).trans rfl; have hcz23_7 : w21.cell? ⟨gb245, 7, none⟩ = some (.string a0_7) := (blk_cell BK245.out 7).trans rfl; have hfz23_0 := blk_frozen BK245.out 0; have hfz23_1 := blk_frozen BK245.out 1; have hfz23_2 := blk_frozen BK245.out 2; have hfz23_3 := blk_frozen BK245.out 3; have hfz23_4 := blk_frozen BK245.out 4; have hfz23_5 := blk_frozen BK245.out 5; have hfz23_6 := blk_frozen BK245.out 6; have hfz23_7 := blk_frozen BK245.out 7; have hcz24_0 : w21.cell? ⟨gb246, 0, none⟩ = some (.bool a1_0) := (blk_cell BK246.out 0).trans rfl; have hcz24_1 : w21.cell? ⟨gb246, 1, none⟩ = some (.bool a1_1) := (blk_cell BK246.out 1).trans rfl; have hcz24_2 : w21.cell? ⟨gb246, 2, none⟩ = some (.bool a1_2) := (blk_cell BK246.out 2).trans rfl; have hcz24_3 : w21.cell? ⟨gb246, 3, none⟩ = some (.bool a1_3) := (blk_cell BK246.out 3).trans rfl; have hcz24_4 : w21.cell? ⟨gb246, 4, none⟩ = some (.int .i64 a1_4) := (blk_cell BK246.out 4).trans rfl; have hcz24_5 : w21.cell? ⟨gb246, 5, none⟩ = some (.int .i64 a1_5) := (blk_cell BK246.out 5).trans rfl; have hcz24_6 : w21.cell? ⟨gb246, 6, none⟩ = some (.string a1_6) := (blk_cell BK246.out 6).trans rfl; have hcz24_7 : w21.cell? ⟨gb246, 7, none⟩ = some (.string a1_7) := (blk_cell BK246.out 7).trans rfl; have hfz24_0 := blk_frozen BK246.out 0; have hfz24_1 := blk_frozen BK246.out 1; have hfz24_2 := blk_frozen BK246.out 2; have hfz24_3 := blk_frozen BK246.out 3; have hfz24_4 := blk_frozen BK246.out 4; have hfz24_5 := blk_frozen BK246.out 5; have hfz24_6 := blk_frozen BK246.out 6; have hfz24_7 := blk_frozen BK246.out 7))
  go_ret
  exact ⟨by first | rfl | (simp [errW_none, errW_some] <;> rfl) | (simp [*, errW_none, errW_some] <;> rfl) | (simp [bt, *]; done) | (unfold bt; simp [*]; done), by repeat (first | (with_reducible first | exact HB.out | apply below_alloc | apply pw_below_drewN | apply below_drew1 | refine below_set ?_ GE245.out | refine below_set ?_ GE246.out) | exact HB.out)⟩
 rw [if_pos c8] at H
 have c8b0 : (a0_5 == a1_5) = true := beq_iff_eq.mpr c8
 have c8b1 : (a0_5 != a1_5) = false := bne_eq_false_iff_eq.mpr c8
 clear c8
 refine neg_first (p := (a0_6.toList = a1_6.toList)) (fun c9 => ?_) (fun c9 => ?_)
 ·rw [if_neg c9] at H
  have c9b0 : (a0_6.toList == a1_6.toList) = false := beq_eq_false_iff_ne.mpr c9
  have c9b1 : (a0_6.toList != a1_6.toList) = true := bne_iff_ne.mpr c9
  obtain rfl := Option.some.inj H
  go_enter Tryd.func14, Tryd.ntmps14
  go_wp2_with (first | ((with_reducible refine gate_dst (N := 2) rfl ?_); refine box_event ?hg (N := 2) ?hd (cs := #[.bool a0_0, .bool a0_1, .bool a0_2, .bool a0_3, .int .i64 a0_4, .int .i64 a0_5, .string a0_6, .string a0_7]) (t := 31) ?hr ?_; (case hd => rfl); (case hg => rfl); (case hr => first | (go_simp; done) | (go_simp; rfl)); intro gb245 hg w15 hbox hb; have n0_ := Aside0.mk (below_step (hb_ HB) hb); have n1_ := Aside0.mk (hbox); have n2_ := Aside0.mk ((by rw [hg]; exact (below_size (hb_ HB)) : w.heap.size ≤ gb245)); have n3_ := Aside0.mk ((by rw [hg]; exact (below_size (hb_ HB)) : w.heap.size ≤ gb245)); clear HB; have HB := n0_; have BK245 := n1_; have GW245 := n2_; have GE245 := n3_; clear n0_ n1_ n2_ n3_; clear hb hbox hg) | ((with_reducible refine gate_dst (N := 3) rfl ?_); refine box_event ?hg (N := 3) ?hd (cs := #[.bool a1_0, .bool a1_1, .bool a1_2, .bool a1_3, .int .i64 a1_4, .int .i64 a1_5, .string a1_6, .string a1_7]) (t := 31) ?hr ?_; (case hd => rfl); (case hg => rfl); (case hr => first | (go_simp; done) | (go_simp; rfl)); intro gb246 hg w16 hbox hb; have n0_ := Aside0.mk (blk_below (bk_ BK245) hb); have n1_ := Aside0.mk (below_step (hb_ HB) hb); have n2_ := Aside0.mk (hbox); have n3_ := Aside0.mk ((by rw [hg]; exact (below_size (hb_ HB)) : w.heap.size ≤ gb246)); have n4_ := Aside0.mk ((by rw [hg]; exact (below_size (hb_ HB)) : w.heap.size ≤ gb246)); have n5_ := Aside0.mk ((by rw [hg]; exact Nat.ne_of_lt (blk_lt (g := gb245) (o := .cells #[.bool a0_0, .bool a0_1, .bool a0_2, .bool a0_3, .int .i64 a0_4, .int .i64 a0_5, .string a0_6, .string a0_7] 31 (0, 0)) (bk_ BK245)) : gb245 ≠ gb246)); have n6_ := Aside0.mk ((by rw [hg]; exact Nat.ne_of_gt (blk_lt (g := gb245) (o := .cells #[.bool a0_0, .bool a0_1, .bool a0_2, .bool a0_3, .int .i64 a0_4, .int .i64 a0_5, .string a0_6, .string a0_7] 31 (0, 0)) (bk_ BK245)) : gb246 ≠ gb245)); clear BK245; clear HB; have BK245 := n0_; have HB := n1_; have BK246 := n2_; have GW246 := n3_; have GE246 := n4_; have NB245_246 := n5_; have NB246_245 := n6_; clear n0_ n1_ n2_ n3_ n4_ n5_ n6_; clear hb hbox hg; have hnb17 := NB245_246.out; have hnc17 := NB246_245.out; have hcz18_0 : w16.cell? ⟨gb245, 0, none⟩ = some (.bool a0_0) := (blk_cell BK245.out 0).trans rfl; have hcz18_1 : w16.cell? ⟨gb245, 1, none⟩ = some (.bool a0_1) := (blk_cell BK245.out 1).trans rfl; have hcz18_2 : w16.cell? ⟨gb245, 2, none⟩ = some (.bool a0_2) := (blk_cell BK245.out 2).trans rfl; have hcz18_3 : w16.cell? ⟨gb245, 3, none⟩ = some (.bool a0_3) := (blk_cell BK245.out 3).trans rfl; have hcz18_4 : w16.cell? ⟨gb245, 4, none⟩ = some (.int .i64 a0_4) := (blk_cell BK245.out 4).trans rfl; have hcz18_5 : w16.cell? ⟨gb245, 5, none⟩ = some (.int .i64 a0_5) := (blk_cell BK245.out 5).trans rfl; have hcz18_6 : w16.cell? ⟨gb245, 6, none⟩ = some (.string a0_6) := (blk_cell BK245.out 6).trans rfl; have hcz18_7 : w16.cell? ⟨gb245, 7, none⟩ = some (.string a0_7) := (blk_cell BK245.out 7).trans rfl; have hfz18_0 := blk_frozen BK245.out 0; have hfz18_1 := blk_frozen BK245.out 1; have hfz18_2 := blk_frozen BK245.out 2; have hfz18_3 := blk_frozen BK245.out 3; have hfz18_4 := blk_frozen BK245.out 4; have hfz18_5 := blk_frozen BK245.out 5; have hfz18_6 := blk_frozen BK245.out 6; have hfz18_7 := blk_frozen BK245.out 7; have hcz19_0 : w16.cell? ⟨gb246, 0, none⟩ = some (.bool a1_0) := (blk_cell BK246.out 0).trans rfl; have hcz19_1 : w16.cell? ⟨gb246, 1, none⟩ = some (.bool a1_1) := (blk_cell BK246.out 1).trans rfl; have hcz19_2 : w16.cell? ⟨gb246, 2, none⟩ = some (.bool a1_2) := (blk_cell BK246.out 2).trans rfl; have hcz19_3 : w16.cell? ⟨gb246, 3, none⟩ = some (.bool a1_3) := (blk_cell BK246.out 3).trans rfl; have hcz19_4 : w16.cell? ⟨gb246, 4, none⟩ = some (.int .i64 a1_4) := (blk_cell BK246.out 4).trans rfl; have hcz19_5 : w16.cell? ⟨gb246, 5, none⟩ = some (.int .i64 a1_5) := (blk_cell BK246.out 5).trans rfl; have hcz19_6 : w16.cell? ⟨gb246, 6, none⟩ = some (.string a1_6) := (blk_cell BK246.out 6).trans rfl; have hcz19_7 : w16.cell? ⟨gb246, 7, none⟩ = some (.string a1_7) := (blk_cell BK246.out 7).trans rfl; have hfz19_0 := blk_frozen BK246.out 0; have hfz19_1 := blk_frozen BK246.out 1; have hfz19_2 := blk_frozen BK246.out 2; have hfz19_3 := blk_frozen BK246.out 3; have hfz19_4 := blk_frozen BK246.out 4; have hfz19_5 := blk_frozen BK246.out 5; have hfz19_6 := blk_frozen BK246.out 6; have hfz19_7 := blk_frozen BK246.out 7))
  go_ret
  exact ⟨by first | rfl | (simp [errW_none, errW_some] <;> rfl) | (simp [*, errW_none, errW_some] <;> rfl) | (simp [bt, *]; done) | (unfold bt; simp [*]; done), by repeat (first | (with_reducible first | exact HB.out | apply below_alloc | apply pw_below_drewN | apply below_drew1 | refine below_set ?_ GE245.out | refine below_set ?_ GE246.out) | exact HB.out)⟩
 rw [if_pos c9] at H
 have c9b0 : (a0_6.toList == a1_6.toList) = true := beq_iff_eq.mpr c9
 have c9b1 : (a0_6.toList != a1_6.toList) = false := bne_eq_false_iff_eq.mpr c9
 clear c9
 obtain rfl := Option.some.inj H
 go_enter Tryd.func14, Tryd.ntmps14
 go_wp2_with (first | ((with_reducible refine gate_dst (N := 2) rfl ?_); refine box_event ?hg (N := 2) ?hd (cs := #[.bool a0_0, .bool a0_1, .bool a0_2, .bool a0_3, .int .i64 a0_4, .int .i64 a0_5, .string a0_6, .string a0_7]) (t := 31) ?hr ?_; (case hd => rfl); (case hg => rfl); (case hr => first | (go_simp; done) | (go_simp; rfl)); intro gb245 hg w10 hbox hb; have n0_ := Aside0.mk (below_step (hb_ HB) hb); have n1_ := Aside0.mk (hbox); have n2_ := Aside0.mk ((by rw [hg]; exact (below_size (hb_ HB)) : w.heap.size ≤ gb245)); have n3_ := Aside0.mk ((by rw [hg]; exact (below_size (hb_ HB)) : w.heap.size ≤ gb245)); clear HB; have HB := n0_; have BK245 := n1_; have GW245 := n2_; have GE245 := n3_; clear n0_ n1_ n2_ n3_; clear hb hbox hg) | ((with_reducible refine gate_dst (N := 3) rfl ?_); refine box_event ?hg (N := 3) ?hd (cs := #[.bool a1_0, .bool a1_1, .bool a1_2, .bool a1_3, .int .i64 a1_4, .int .i64 a1_5, .string a1_6, .string a1_7]) (t := 31) ?hr ?_; (case hd => rfl); (case hg => rfl); (case hr => first | (go_simp; done) | (go_simp; rfl)); intro gb246 hg w11 hbox hb; have n0_ := Aside0.mk (blk_below (bk_ BK245) hb); have n1_ := Aside0.mk (below_step (hb_ HB) hb); have n2_ := Aside0.mk (hbox); have n3_ := Aside0.mk ((by rw [hg]; exact (below_size (hb_ HB)) : w.heap.size ≤ gb246)); have n4_ := Aside0.mk ((by rw [hg]; exact (below_size (hb_ HB)) : w.heap.size ≤ gb246)); have n5_ := Aside0.mk ((by rw [hg]; exact Nat.ne_of_lt (blk_lt (g := gb245) (o := .cells #[.bool a0_0, .bool a0_1, .bool a0_2, .bool a0_3, .int .i64 a0_4, .int .i64 a0_5, .string a0_6, .string a0_7] 31 (0, 0)) (bk_ BK245)) : gb245 ≠ gb246)); have n6_ := Aside0.mk ((by rw [hg]; exact Nat.ne_of_gt (blk_lt (g := gb245) (o := .cells #[.bool a0_0, .bool a0_1, .bool a0_2, .bool a0_3, .int .i64 a0_4, .int .i64 a0_5, .string a0_6, .string a0_7] 31 (0, 0)) (bk_ BK245)) : gb246 ≠ gb245)); clear BK245; clear HB; have BK245 := n0_; have HB := n1_; have BK246 := n2_; have GW246 := n3_; have GE246 := n4_; have NB245_246 := n5_; have NB246_245 := n6_; clear n0_ n1_ n2_ n3_ n4_ n5_ n6_; clear hb hbox hg; have hnb12 := NB245_246.out; have hnc12 := NB246_245.out; have hcz13_0 : w11.cell? ⟨gb245, 0, none⟩ = some (.bool a0_0) := (blk_cell BK245.out 0).trans rfl; have hcz13_1 : w11.cell? ⟨gb245, 1, none⟩ = some (.bool a0_1) := (blk_cell BK245.out 1).trans rfl; have hcz13_2 : w11.cell? ⟨gb245, 2, none⟩ = some (.bool a0_2) := (blk_cell BK245.out 2).trans rfl; have hcz13_3 : w11.cell? ⟨gb245, 3, none⟩ = some (.bool a0_3) := (blk_cell BK245.out 3).trans rfl; have hcz13_4 : w11.cell? ⟨gb245, 4, none⟩ = some (.int .i64 a0_4) := (blk_cell BK245.out 4).trans rfl; have hcz13_5 : w11.cell? ⟨gb245, 5, none⟩ = some (.int .i64 a0_5) := (blk_cell BK245.out 5).trans rfl; have hcz13_6 : w11.cell? ⟨gb245, 6, none⟩ = some (.string a0_6) := (blk_cell BK245.out 6).trans rfl; have hcz13_7 : w11.cell? ⟨gb245, 7, none⟩ = some (.string a0_7) := (blk_cell BK245.out 7).trans rfl; have hfz13_0 := blk_frozen BK245.out 0; have hfz13_1 := blk_frozen BK245.out 1; have hfz13_2 := blk_frozen BK245.out 2; have hfz13_3 := blk_frozen BK245.out 3; have hfz13_4 := blk_frozen BK245.out 4; have hfz13_5 := blk_frozen BK245.out 5; have hfz13_6 := blk_frozen BK245.out 6; have hfz13_7 := blk_frozen BK245.out 7; have hcz14_0 : w11.cell? ⟨gb246, 0, none⟩ = some (.bool a1_0) := (blk_cell BK246.out 0).trans rfl; have hcz14_1 : w11.cell? ⟨gb246, 1, none⟩ = some (.bool a1_1) := (blk_cell BK246.out 1).trans rfl; have hcz14_2 : w11.cell? ⟨gb246, 2, none⟩ = some (.bool a1_2) := (blk_cell BK246.out 2).trans rfl; have hcz14_3 : w11.cell? ⟨gb246, 3, none⟩ = some (.bool a1_3) := (blk_cell BK246.out 3).trans rfl; have hcz14_4 : w11.cell? ⟨gb246, 4, none⟩ = some (.int .i64 a1_4) := (blk_cell BK246.out 4).trans rfl; have hcz14_5 : w11.cell? ⟨gb246, 5, none⟩ = some (.int .i64 a1_5) := (blk_cell BK246.out 5).trans rfl; have hcz14_6 : w11.cell? ⟨gb246, 6, none⟩ = some (.string a1_6) := (blk_cell BK246.out 6).trans rfl; have hcz14_7 : w11.cell? ⟨gb246, 7, none⟩ = some (.string a1_7) := (blk_cell BK246.out 7).trans rfl; have hfz14_0 := blk_frozen BK246.out 0; have hfz14_1 := blk_frozen BK246.out 1; have hfz14_2 := blk_frozen BK246.out 2; have hfz14_3 := blk_frozen BK246.out 3; have hfz14_4 := blk_frozen BK246.out 4; have hfz14_5 := blk_frozen BK246.out 5; have hfz14_6 := blk_frozen BK246.out 6; have hfz14_7 := blk_frozen BK246.out 7))
 go_ret
 exact ⟨by first | rfl | (simp [errW_none, errW_some] <;> rfl) | (simp [*, errW_none, errW_some] <;> rfl) | (simp [bt, *]; done) | (unfold bt; simp [*]; done), by repeat (first | (with_reducible first | exact HB.out | apply below_alloc | apply pw_below_drewN | apply below_drew1 | refine below_set ?_ GE245.out | refine below_set ?_ GE246.out) | exact HB.out)⟩
def headgateref21_Pairs.l0 : Nat → List (S45) → List (S45) → Int → Option (Bool)
  | 0, _, _, _ => none
  | k + 1, x0, x1, x5 => if x5 < (x0.length : Int) then (if 0 ≤ x5 then (if x5 < (x1.length : Int) then (if ((rd_T45 x0 x5).f0).toList = ((rd_T45 x1 x5).f0).toList then (if ((rd_T45 x0 x5).f1).toList = ((rd_T45 x1 x5).f1).toList then (headgateref21_Pairs.l0 k x0 x1 (wrap64 (x5 + 1))) else (some false)) else (some false)) else (none)) else (none)) else (some true)
def headgateref21_Pairs.f (k : Nat) (l0 : List (S45)) (l1 : List (S45)) : Option (Bool) := if (l0.length : Int) = (l1.length : Int) then (headgateref21_Pairs.l0 k l0 l1 0) else (some false)
theorem headgateref21_Pairs.mono_l : ∀ k, (∀ y0 y1 y2, LeO (headgateref21_Pairs.l0 k y0 y1 y2) (headgateref21_Pairs.l0 (k + 1) y0 y1 y2))
  | 0 => fun _ _ _ r h => by simp [headgateref21_Pairs.l0] at h
  | k + 1 => by
    have ih0 := headgateref21_Pairs.mono_l k
    · intro y0 y1 y2
      unfold headgateref21_Pairs.l0
      repeat' first
      | (with_reducible exact ih0 _ _ _)
      | (with_reducible exact LeO.refl _)
      | (with_reducible exact LeO.none _)
      | (with_reducible refine LeO.ite ?_ ?_)
      | (with_reducible refine LeO.bind ?_ (fun _ => ?_))
      | exact ih0 _ _ _
      | exact LeO.none _
      | refine LeO.ite ?_ ?_
      | refine LeO.bind ?_ (fun _ => ?_)
theorem headgateref21_Pairs.mono : ∀ a0 a1 k, LeO (headgateref21_Pairs.f k a0 a1) (headgateref21_Pairs.f (k + 1) a0 a1) := by
  intro a0 a1 k
  have ih0 := headgateref21_Pairs.mono_l k
  unfold headgateref21_Pairs.f
  repeat' first
      | (with_reducible exact ih0 _ _ _)
      | (with_reducible exact LeO.refl _)
      | (with_reducible exact LeO.none _)
      | (with_reducible refine LeO.ite ?_ ?_)
      | (with_reducible refine LeO.bind ?_ (fun _ => ?_))
      | exact ih0 _ _ _
      | exact LeO.none _
      | refine LeO.ite ?_ ?_
      | refine LeO.bind ?_ (fun _ => ?_)
set_option maxHeartbeats 8000000 in
set_option maxRecDepth 100000 in
theorem headgateref21_Pairs.calls (k : Nat) (A0 : Option Addr) (c0 : Nat) (l0 : List (S45)) (A1 : Option Addr) (c1 : Nat) (l1 : List (S45)) (r : Bool) (w : World) (hr0 : Kd.C k45 w A0 l0.length l0) (hc0 : l0.length ≤ c0) (hr1 : Kd.C k45 w A1 l1.length l1) (hc1 : l1.length ≤ c1) (h : headgateref21_Pairs.f k l0 l1 = some r) :
    Calls Tryd.prog 15 #[.slice A0 l0.length c0, .slice A1 l1.length c1] w fun e w' => e = .returned (.bool r) ∧ Drawn0 w w' := by
  have HR0 := Aside0.mk hr0
  have HC0 := Aside0.mk hc0
  clear hr0 hc0
  have HR1 := Aside0.mk hr1
  have HC1 := Aside0.mk hc1
  clear hr1 hc1
  have H : (if (l0.length : Int) = (l1.length : Int) then (headgateref21_Pairs.l0 k l0 l1 0) else (some false)) = some r := h
  clear h
  by_cases c3 : (l0.length : Int) = (l1.length : Int)
  · rw [if_pos c3] at H
    have c3b0 : ((l0.length : Int) == (l1.length : Int)) = true := beq_iff_eq.mpr c3
    have c3b1 : ((l0.length : Int) != (l1.length : Int)) = false := bne_eq_false_iff_eq.mpr c3
    have c3b2 : (l0.length == l1.length) = true := by first | simpa using c3 | (simp at c3 ⊢; omega)
    clear c3
    have H' := Aside0.mk H
    clear H
    go_enter Tryd.func15, Tryd.ntmps15
    go_wp2
    repeat (go_quiet (fail); try go_wp2)
    go_loopg [5] k (fun kq v5 w' => ∃ (x5_1 : Int), v5 = .int .i64 x5_1 ∧ Aside0 (headgateref21_Pairs.l0 kq l0 l1 x5_1 = some r) ∧ Aside0 (kq ≤ k) ∧ Drawn0 w w')
    case atStart => exact ⟨(0), (by first | rfl | (simp; done) | (simp [*]; done)), H', ⟨Nat.le_refl _⟩, by repeat (first | exact Drawn0.refl _ | apply Drawn0.step)⟩
    case round =>
      clear H'
      try clear c1
      try clear p2
      try clear c3
      try clear c3b0
      try clear c3b1
      try clear c3b2
      obtain ⟨x5_1, rfl, HA, HK1, ⟨m1, rfl⟩⟩ := hrel
      cases gk with
      | zero => exact absurd HA.out (by simp [headgateref21_Pairs.l0])
      | succ k1 =>
        have H := HA.out
        clear HA
        simp only [headgateref21_Pairs.l0] at H
        by_cases c4 : x5_1 < (l0.length : Int)
        · rw [if_pos c4] at H
          have c4b0 : decide (x5_1 < (l0.length : Int)) = true := decide_eq_true c4
          clear c4
          by_cases c5 : 0 ≤ x5_1
          · rw [if_pos c5] at H
            have c5b0 : decide (0 ≤ x5_1) = true := decide_eq_true c5
            clear c5
            by_cases c6 : x5_1 < (l1.length : Int)
            · rw [if_pos c6] at H
              have c6b0 : decide (x5_1 < (l1.length : Int)) = true := decide_eq_true c6
              clear c6
              by_cases c7 : ((rd_T45 l0 x5_1).f0).toList = ((rd_T45 l1 x5_1).f0).toList
              · rw [if_pos c7] at H
                have c7b0 : (((rd_T45 l0 x5_1).f0).toList == ((rd_T45 l1 x5_1).f0).toList) = true := beq_iff_eq.mpr c7
                have c7b1 : (((rd_T45 l0 x5_1).f0).toList != ((rd_T45 l1 x5_1).f0).toList) = false := bne_eq_false_iff_eq.mpr c7
                clear c7
                by_cases c8 : ((rd_T45 l0 x5_1).f1).toList = ((rd_T45 l1 x5_1).f1).toList
                · rw [if_pos c8] at H
                  have c8b0 : (((rd_T45 l0 x5_1).f1).toList == ((rd_T45 l1 x5_1).f1).toList) = true := beq_iff_eq.mpr c8
                  have c8b1 : (((rd_T45 l0 x5_1).f1).toList != ((rd_T45 l1 x5_1).f1).toList) = false := bne_eq_false_iff_eq.mpr c8
                  clear c8
                  have H' := Aside0.mk H
                  clear H
                  have p247 : 0 ≤ (x5_1 : Int) := of_decide_eq_true (by first | (with_reducible assumption) | assumption)
                  have q247 : x5_1 < (l0.length : Int) := of_decide_eq_true (by first | (with_reducible assumption) | assumption)
                  obtain ⟨ad247, e247, hx247_0, hx247_1⟩ := at_T45 HR0.out x5_1 p247 q247
                  cases e247
                  replace p247 := eq_true p247
                  replace q247 := eq_true q247
                  have p248 : 0 ≤ (x5_1 : Int) := of_decide_eq_true (by first | (with_reducible assumption) | assumption)
                  have q248 : x5_1 < (l1.length : Int) := of_decide_eq_true (by first | (with_reducible assumption) | assumption)
                  obtain ⟨ad248, e248, hx248_0, hx248_1⟩ := at_T45 HR1.out x5_1 p248 q248
                  cases e248
                  replace p248 := eq_true p248
                  replace q248 := eq_true q248
                  have p249 : 0 ≤ (x5_1 : Int) := of_decide_eq_true (by first | (with_reducible assumption) | assumption)
                  have q249 : x5_1 < (l0.length : Int) := of_decide_eq_true (by first | (with_reducible assumption) | assumption)
                  obtain ⟨ad249, e249, hx249_0, hx249_1⟩ := at_T45 HR0.out x5_1 p249 q249
                  obtain rfl : ad247 = ad249 := (by injection e249)
                  replace p249 := eq_true p249
                  replace q249 := eq_true q249
                  have p250 : 0 ≤ (x5_1 : Int) := of_decide_eq_true (by first | (with_reducible assumption) | assumption)
                  have q250 : x5_1 < (l1.length : Int) := of_decide_eq_true (by first | (with_reducible assumption) | assumption)
                  obtain ⟨ad250, e250, hx250_0, hx250_1⟩ := at_T45 HR1.out x5_1 p250 q250
                  obtain rfl : ad248 = ad250 := (by injection e250)
                  replace p250 := eq_true p250
                  replace q250 := eq_true q250
                  go_wp2
                  repeat (go_quiet (fail); try go_wp2)
                  go_roundg k1
                  case measure => have := HK1.out; omega
                  case rel => exact ⟨(wrap64 (x5_1 + 1)), (by first | rfl | (simp; done) | (simp [*]; done)), H', ⟨by have := HK1.out; omega⟩, by repeat (first | exact Drawn0.refl _ | apply Drawn0.step)⟩
                · rw [if_neg c8] at H
                  have c8b0 : (((rd_T45 l0 x5_1).f1).toList == ((rd_T45 l1 x5_1).f1).toList) = false := beq_eq_false_iff_ne.mpr c8
                  have c8b1 : (((rd_T45 l0 x5_1).f1).toList != ((rd_T45 l1 x5_1).f1).toList) = true := bne_iff_ne.mpr c8
                  obtain rfl := Option.some.inj H
                  have p247 : 0 ≤ (x5_1 : Int) := of_decide_eq_true (by first | (with_reducible assumption) | assumption)
                  have q247 : x5_1 < (l0.length : Int) := of_decide_eq_true (by first | (with_reducible assumption) | assumption)
                  obtain ⟨ad247, e247, hx247_0, hx247_1⟩ := at_T45 HR0.out x5_1 p247 q247
                  cases e247
                  replace p247 := eq_true p247
                  replace q247 := eq_true q247
                  have p248 : 0 ≤ (x5_1 : Int) := of_decide_eq_true (by first | (with_reducible assumption) | assumption)
                  have q248 : x5_1 < (l1.length : Int) := of_decide_eq_true (by first | (with_reducible assumption) | assumption)
                  obtain ⟨ad248, e248, hx248_0, hx248_1⟩ := at_T45 HR1.out x5_1 p248 q248
                  cases e248
                  replace p248 := eq_true p248
                  replace q248 := eq_true q248
                  have p249 : 0 ≤ (x5_1 : Int) := of_decide_eq_true (by first | (with_reducible assumption) | assumption)
                  have q249 : x5_1 < (l0.length : Int) := of_decide_eq_true (by first | (with_reducible assumption) | assumption)
                  obtain ⟨ad249, e249, hx249_0, hx249_1⟩ := at_T45 HR0.out x5_1 p249 q249
                  obtain rfl : ad247 = ad249 := (by injection e249)
                  replace p249 := eq_true p249
                  replace q249 := eq_true q249
                  have p250 : 0 ≤ (x5_1 : Int) := of_decide_eq_true (by first | (with_reducible assumption) | assumption)
                  have q250 : x5_1 < (l1.length : Int) := of_decide_eq_true (by first | (with_reducible assumption) | assumption)
                  obtain ⟨ad250, e250, hx250_0, hx250_1⟩ := at_T45 HR1.out x5_1 p250 q250
                  obtain rfl : ad248 = ad250 := (by injection e250)
                  replace p250 := eq_true p250
                  replace q250 := eq_true q250
                  go_wp2
                  repeat (go_quiet (fail); try go_wp2)
                  go_ret
                  exact ⟨by first | rfl | (simp; done) | (simp [*]; done), by repeat (first | exact Drawn0.refl _ | apply Drawn0.step)⟩
              · rw [if_neg c7] at H
                have c7b0 : (((rd_T45 l0 x5_1).f0).toList == ((rd_T45 l1 x5_1).f0).toList) = false := beq_eq_false_iff_ne.mpr c7
                have c7b1 : (((rd_T45 l0 x5_1).f0).toList != ((rd_T45 l1 x5_1).f0).toList) = true := bne_iff_ne.mpr c7
                obtain rfl := Option.some.inj H
                have p247 : 0 ≤ (x5_1 : Int) := of_decide_eq_true (by first | (with_reducible assumption) | assumption)
                have q247 : x5_1 < (l0.length : Int) := of_decide_eq_true (by first | (with_reducible assumption) | assumption)
                obtain ⟨ad247, e247, hx247_0, hx247_1⟩ := at_T45 HR0.out x5_1 p247 q247
                cases e247
                replace p247 := eq_true p247
                replace q247 := eq_true q247
                have p248 : 0 ≤ (x5_1 : Int) := of_decide_eq_true (by first | (with_reducible assumption) | assumption)
                have q248 : x5_1 < (l1.length : Int) := of_decide_eq_true (by first | (with_reducible assumption) | assumption)
                obtain ⟨ad248, e248, hx248_0, hx248_1⟩ := at_T45 HR1.out x5_1 p248 q248
                cases e248
                replace p248 := eq_true p248
                replace q248 := eq_true q248
                go_wp2
                repeat (go_quiet (fail); try go_wp2)
                go_ret
                exact ⟨by first | rfl | (simp; done) | (simp [*]; done), by repeat (first | exact Drawn0.refl _ | apply Drawn0.step)⟩
            · rw [if_neg c6] at H
              exact absurd H (by simp)
          · rw [if_neg c5] at H
            exact absurd H (by simp)
        · rw [if_neg c4] at H
          have c4b0 : decide (x5_1 < (l0.length : Int)) = false := decide_eq_false c4
          clear c4
          obtain rfl := Option.some.inj H
          go_wp2
          repeat (go_quiet (fail); try go_wp2)
          go_ret
          exact ⟨by first | rfl | (simp; done) | (simp [*]; done), by repeat (first | exact Drawn0.refl _ | apply Drawn0.step)⟩
  · rw [if_neg c3] at H
    have c3b0 : ((l0.length : Int) == (l1.length : Int)) = false := beq_eq_false_iff_ne.mpr c3
    have c3b1 : ((l0.length : Int) != (l1.length : Int)) = true := bne_iff_ne.mpr c3
    have c3b2 : (l0.length == l1.length) = false := by first | simpa using c3 | (simp at c3 ⊢; omega)
    obtain rfl := Option.some.inj H
    go_enter Tryd.func15, Tryd.ntmps15
    go_wp2
    repeat (go_quiet (fail); try go_wp2)
    go_ret
    exact ⟨by first | rfl | (simp; done) | (simp [*]; done), by repeat (first | exact Drawn0.refl _ | apply Drawn0.step)⟩
def headgateref21_First.f  : Option (Bool × Bool × Bool × Bool × Int × Int × ByteArray × ByteArray) := some (false, false, true, false, 8192, 4096, (⟨#[]⟩ : ByteArray), (⟨#[]⟩ : ByteArray))
set_option maxHeartbeats 8000000 in
set_option maxRecDepth 100000 in
theorem headgateref21_First.calls  (r1 : Bool) (r2 : Bool) (r3 : Bool) (r4 : Bool) (r5 : Int) (r6 : Int) (r7 : ByteArray) (r8 : ByteArray) (w : World) (h : headgateref21_First.f  = some (r1, r2, r3, r4, r5, r6, r7, r8)) :
    Calls Tryd.prog 17 #[] w fun e w' => e = .returned (.agg #[.bool r1, .bool r2, .bool r3, .bool r4, .int .i64 r5, .int .i64 r6, .string r7, .string r8]) ∧ Below w.heap.size w w' := by
  have hu31 := Tryd.underlying31
  have HB := Aside0.mk (Below.refl w.heap.size w)
  have H : (some (false, false, true, false, 8192, 4096, (⟨#[]⟩ : ByteArray), (⟨#[]⟩ : ByteArray))) = some (r1, r2, r3, r4, r5, r6, r7, r8) := h
  clear h
  simp only [Option.some.injEq, Prod.mk.injEq] at H
  obtain ⟨rfl, rfl, rfl, rfl, rfl, rfl, rfl, rfl⟩ := H
  go_enter Tryd.func17, Tryd.ntmps17
  go_wp2_with (first | ((with_reducible refine gate_dst (N := 0) rfl ?_); refine box_event ?hg (N := 0) ?hd (cs := #[.bool false, .bool false, .bool false, .bool false, .int .i64 0, .int .i64 0, .string (⟨#[]⟩ : ByteArray), .string (⟨#[]⟩ : ByteArray)]) (t := 31) ?hr ?_; (case hd => rfl); (case hg => rfl); (case hr => first | (go_simp; done) | (go_simp; rfl)); intro gb251 hg w1 hbox hb; have n0_ := Aside0.mk (below_step (by repeat (first | (with_reducible first | exact HB.out | apply below_alloc | apply pw_below_drewN | apply below_drew1) | exact HB.out)) hb); have n1_ := Aside0.mk (hbox); have n2_ := Aside0.mk ((by rw [hg]; exact (below_size (by repeat (first | (with_reducible first | exact HB.out | apply below_alloc | apply pw_below_drewN | apply below_drew1) | exact HB.out))) : w.heap.size ≤ gb251)); have n3_ := Aside0.mk ((by rw [hg]; exact (below_size (by repeat (first | (with_reducible first | exact HB.out | apply below_alloc | apply pw_below_drewN | apply below_drew1) | exact HB.out))) : w.heap.size ≤ gb251)); clear HB; have HB := n0_; have BK251 := n1_; have GW251 := n2_; have GE251 := n3_; clear n0_ n1_ n2_ n3_; clear hb hbox hg; have hcz2_0 : w1.cell? ⟨gb251, 0, none⟩ = some (.bool false) := (blk_cell BK251.out 0).trans rfl; have hcz2_1 : w1.cell? ⟨gb251, 1, none⟩ = some (.bool false) := (blk_cell BK251.out 1).trans rfl; have hcz2_2 : w1.cell? ⟨gb251, 2, none⟩ = some (.bool false) := (blk_cell BK251.out 2).trans rfl; have hcz2_3 : w1.cell? ⟨gb251, 3, none⟩ = some (.bool false) := (blk_cell BK251.out 3).trans rfl; have hcz2_4 : w1.cell? ⟨gb251, 4, none⟩ = some (.int .i64 0) := (blk_cell BK251.out 4).trans rfl; have hcz2_5 : w1.cell? ⟨gb251, 5, none⟩ = some (.int .i64 0) := (blk_cell BK251.out 5).trans rfl; have hcz2_6 : w1.cell? ⟨gb251, 6, none⟩ = some (.string (⟨#[]⟩ : ByteArray)) := (blk_cell BK251.out 6).trans rfl; have hcz2_7 : w1.cell? ⟨gb251, 7, none⟩ = some (.string (⟨#[]⟩ : ByteArray)) := (blk_cell BK251.out 7).trans rfl; have hfz2_0 := blk_frozen BK251.out 0; have hfz2_1 := blk_frozen BK251.out 1; have hfz2_2 := blk_frozen BK251.out 2; have hfz2_3 := blk_frozen BK251.out 3; have hfz2_4 := blk_frozen BK251.out 4; have hfz2_5 := blk_frozen BK251.out 5; have hfz2_6 := blk_frozen BK251.out 6; have hfz2_7 := blk_frozen BK251.out 7))
  refine bodyPost_ret (results_cell_row rfl _ _ gb251 31 #[.bool false, .bool false, .bool true, .bool false, .int .i64 8192, .int .i64 4096, .string (⟨#[]⟩ : ByteArray), .string (⟨#[]⟩ : ByteArray)] (0, 0) _ rfl (by (with_reducible repeat (first | refine blk_drewN ?_ _ | refine blk_drew ?_ | refine blk_alloc ?_ _)); refine blk_put (cs := #[.bool false, .bool false, .bool true, .bool false, .int .i64 8192, .int .i64 4096, .string (⟨#[]⟩ : ByteArray), .string (⟨#[]⟩ : ByteArray)]) ?_ 7 _ rfl; (with_reducible repeat (first | refine blk_drewN ?_ _ | refine blk_drew ?_ | refine blk_alloc ?_ _)); refine blk_put (cs := #[.bool false, .bool false, .bool true, .bool false, .int .i64 8192, .int .i64 4096, .string (⟨#[]⟩ : ByteArray), .string (⟨#[]⟩ : ByteArray)]) ?_ 6 _ rfl; (with_reducible repeat (first | refine blk_drewN ?_ _ | refine blk_drew ?_ | refine blk_alloc ?_ _)); refine blk_put (cs := #[.bool false, .bool false, .bool true, .bool false, .int .i64 8192, .int .i64 0, .string (⟨#[]⟩ : ByteArray), .string (⟨#[]⟩ : ByteArray)]) ?_ 5 _ rfl; (with_reducible repeat (first | refine blk_drewN ?_ _ | refine blk_drew ?_ | refine blk_alloc ?_ _)); refine blk_put (cs := #[.bool false, .bool false, .bool true, .bool false, .int .i64 0, .int .i64 0, .string (⟨#[]⟩ : ByteArray), .string (⟨#[]⟩ : ByteArray)]) ?_ 4 _ rfl; (with_reducible repeat (first | refine blk_drewN ?_ _ | refine blk_drew ?_ | refine blk_alloc ?_ _)); refine blk_put (cs := #[.bool false, .bool false, .bool true, .bool false, .int .i64 0, .int .i64 0, .string (⟨#[]⟩ : ByteArray), .string (⟨#[]⟩ : ByteArray)]) ?_ 3 _ rfl; (with_reducible repeat (first | refine blk_drewN ?_ _ | refine blk_drew ?_ | refine blk_alloc ?_ _)); refine blk_put (cs := #[.bool false, .bool false, .bool false, .bool false, .int .i64 0, .int .i64 0, .string (⟨#[]⟩ : ByteArray), .string (⟨#[]⟩ : ByteArray)]) ?_ 2 _ rfl; (with_reducible repeat (first | refine blk_drewN ?_ _ | refine blk_drew ?_ | refine blk_alloc ?_ _)); refine blk_put (cs := #[.bool false, .bool false, .bool false, .bool false, .int .i64 0, .int .i64 0, .string (⟨#[]⟩ : ByteArray), .string (⟨#[]⟩ : ByteArray)]) ?_ 1 _ rfl; (with_reducible repeat (first | refine blk_drewN ?_ _ | refine blk_drew ?_ | refine blk_alloc ?_ _)); refine blk_put (cs := #[.bool false, .bool false, .bool false, .bool false, .int .i64 0, .int .i64 0, .string (⟨#[]⟩ : ByteArray), .string (⟨#[]⟩ : ByteArray)]) ?_ 0 _ rfl; (with_reducible repeat (first | refine blk_drewN ?_ _ | refine blk_drew ?_ | refine blk_alloc ?_ _)); exact BK251.out) Tryd.underlying31 rfl (by kernel_rfl)) rfl ?_
  exact ⟨by first | rfl | (simp [errW_none, errW_some] <;> rfl) | (simp [*, errW_none, errW_some] <;> rfl) | (simp [bt, *]; done) | (unfold bt; simp [*]; done), by repeat (first | (with_reducible first | exact HB.out | apply below_alloc | apply pw_below_drewN | apply below_drew1 | refine below_set ?_ GE251.out) | exact HB.out)⟩
end Go.Proofs.YtclcnkmefldpiaaDoor.P
namespace Go.Proofs.YtclcnkmefldpiaaDoor.Pure
open Go.RowKit Go.Proofs.YtclcnkmefldpiaaDoor.P Go.Proofs.YtclcnkmefldpiaaDoorW.PrintWords Go.Proofs.YtclcnkmefldpiaaDoorW.PrintLast Go.Proofs.YtclcnkmefldpiaaDoorW.PrintMore
set_option linter.unusedVariables false
set_option linter.unusedSimpArgs false
theorem w64 {n : Int} (h0 : -9223372036854775808 ≤ n) (h1 : n < 9223372036854775808) : wrap64 n = n := by unfold wrap64; omega
theorem rd_at (l : List S45) (i : Nat) (h : i < l.length) : rd_T45 l (i : Int) = l[i] := by
  unfold rd_T45
  rw [Int.toNat_natCast, List.getD_eq_getElem?_getD, List.getElem?_eq_getElem h]
  rfl
theorem bt_nat (s : ByteArray) (i : Nat) (h : i < s.size) : bt s (i : Int) = ((s.data.toList[i]'(by simpa using h)).toNat : Int) := by
  unfold bt
  rw [dif_pos (by simpa using h)]
  rfl
theorem ba_list (x : ByteArray) : x.toList = x.data.toList := ByteArray.toList_eq x
theorem ba_eq {a b : ByteArray} (h : a.toList = b.toList) : a = b := by
  rw [ba_list, ba_list] at h
  exact ByteArray.ext (Array.toList_inj.mp h)
theorem Large_l0 (l : List S45) (hl : l.length ≤ 100) : ∀ (d k i : Nat), i + d = l.length → d + 1 ≤ k → ∃ z, headgatelaw21_Large.l0 k l (i : Int) = some z ∧ (z = false → ∀ x ∈ l.drop i, x.f0.size ≤ 1000 ∧ x.f1.size ≤ 1000)
  | 0, k + 1, i, hi, hk => by
    refine ⟨false, ?_, fun _ x hx => ?_⟩
    · rw [headgatelaw21_Large.l0, if_neg (by omega)]
    · rw [List.drop_eq_nil_of_le (by omega)] at hx
      exact absurd hx (by simp)
  | d + 1, k + 1, i, hi, hk => by
    have hlt : i < l.length := by omega
    rw [headgatelaw21_Large.l0, if_pos (by omega), if_pos (by omega), rd_at l i hlt]
    by_cases h0 : ((l[i].f0).size : Int) > 1000
    · exact ⟨true, if_pos h0, fun h => by cases h⟩
    rw [if_neg h0]
    by_cases h1 : ((l[i].f1).size : Int) > 1000
    · exact ⟨true, if_pos h1, fun h => by cases h⟩
    rw [if_neg h1, w64 (by omega) (by omega)]
    obtain ⟨z, hz, hs⟩ := Large_l0 l hl d k (i + 1) (by omega) (by omega)
    refine ⟨z, hz, fun hf x hx => ?_⟩
    rw [List.drop_eq_getElem_cons hlt] at hx
    rcases List.mem_cons.mp hx with e | hx
    · rw [e]; omega
    · exact hs hf x hx
theorem Large_spec (k : Nat) (l : List S45) (hk : 110 ≤ k) : ∃ z, headgatelaw21_Large.f k l = some z ∧ (z = false → l.length ≤ 100 ∧ ∀ x ∈ l, x.f0.size ≤ 1000 ∧ x.f1.size ≤ 1000) := by
  unfold headgatelaw21_Large.f
  by_cases h : (l.length : Int) > 100
  · exact ⟨true, if_pos h, fun h => by cases h⟩
  · rw [if_neg h]
    obtain ⟨z, hz, hs⟩ := Large_l0 l (by omega) l.length k 0 (by omega) (by omega)
    exact ⟨z, hz, fun hf => ⟨by omega, by simpa using hs hf⟩⟩
theorem small_of {l : List S45} (h : ∀ x ∈ l, x.f0.size ≤ 1000 ∧ x.f1.size ≤ 1000) : smallB l = true := by
  unfold smallB
  rw [List.all_eq_true]
  intro x hx
  obtain ⟨h1, h2⟩ := h x hx
  simp only [Bool.and_eq_true, decide_eq_true_eq]
  omega
theorem few_spec (l : List S45) (h : l.length ≤ 1000) : headgatelaw21_few.f l = some l := by
  unfold headgatelaw21_few.f
  rw [Option.bind_some, if_pos (by simp; omega), List.nil_append]
theorem Pairs_l0 (l : List S45) (hl : l.length ≤ 1000) : ∀ (d k i : Nat), i + d = l.length → d + 1 ≤ k → headgateref21_Pairs.l0 k l l (i : Int) = some true
  | 0, k + 1, i, hi, hk => by rw [headgateref21_Pairs.l0, if_neg (by omega)]
  | d + 1, k + 1, i, hi, hk => by
    rw [headgateref21_Pairs.l0, if_pos (by omega), if_pos (by omega), if_pos (by omega), if_pos rfl, if_pos rfl, w64 (by omega) (by omega)]
    exact Pairs_l0 l hl d k (i + 1) (by omega) (by omega)
theorem Pairs_same (k : Nat) (l : List S45) (hl : l.length ≤ 1000) (hk : 1010 ≤ k) : headgateref21_Pairs.f k l l = some true := by
  unfold headgateref21_Pairs.f
  rw [if_pos rfl]
  exact Pairs_l0 l hl l.length k 0 (by omega) (by omega)
theorem idx_cons (b c : UInt8) (l : List UInt8) : Go.Lib.indexByte (b :: l) c = if b = c then 0 else if Go.Lib.indexByte l c = -1 then -1 else Go.Lib.indexByte l c + 1 := by
  rw [Go.Lib.indexByte]
  by_cases h : b = c
  · rw [if_pos h, if_pos (by simpa using h)]
  · rw [if_neg h, if_neg (by simpa using h)]
    by_cases h2 : Go.Lib.indexByte l c = -1
    · rw [if_pos h2, if_pos (by simpa using h2)]
    · rw [if_neg h2, if_neg (by simpa using h2)]
theorem find_l0 (s : ByteArray) (c : UInt8) (hs : s.size ≤ 1000000) : ∀ (d k i : Nat), i + d = s.size → d + 1 ≤ k → headgateref21_find.l0 k s (c.toNat : Int) (i : Int) = some (if Go.Lib.indexByte (s.data.toList.drop i) c = -1 then -1 else (i : Int) + Go.Lib.indexByte (s.data.toList.drop i) c)
  | 0, k + 1, i, hi, hk => by
    rw [headgateref21_find.l0, if_neg (by omega), List.drop_eq_nil_of_le (by simp; omega)]
    rfl
  | d + 1, k + 1, i, hi, hk => by
    have hlt : i < s.size := by omega
    have hll : i < s.data.toList.length := by simpa using hlt
    rw [headgateref21_find.l0, if_pos (by omega), if_pos (by omega), bt_nat s i hlt, List.drop_eq_getElem_cons hll]
    have hc : (((s.data.toList[i]'hll).toNat : Int) = (c.toNat : Int)) ↔ s.data.toList[i]'hll = c := by
      constructor
      · intro h; exact UInt8.toNat_inj.mp (by omega)
      · intro h; rw [h]
    rw [idx_cons]
    by_cases he : s.data.toList[i]'hll = c
    · rw [if_pos (hc.mpr he), if_pos he, if_neg (by decide), Int.add_zero]
    · rw [if_neg (fun h => he (hc.mp h)), if_neg he, w64 (by omega) (by omega)]
      have ih := find_l0 s c hs d k (i + 1) (by omega) (by omega)
      have hg := Go.Lib.indexByte_ge (s.data.toList.drop (i + 1)) c
      rw [show ((i : Int) + 1) = ((i + 1 : Nat) : Int) from rfl, ih]
      by_cases hm : Go.Lib.indexByte (s.data.toList.drop (i + 1)) c = -1
      · rw [if_pos hm, if_pos hm, if_pos rfl]
      · rw [if_neg hm, if_neg hm, if_neg (by omega)]
        congr 1
        push_cast
        omega
theorem find_spec (k : Nat) (s : ByteArray) (c : UInt8) (hs : s.size ≤ 1000000) (hk : s.size + 1 ≤ k) : headgateref21_find.f k s (c.toNat : Int) = some (Go.Lib.indexByte s.data.toList c) := by
  unfold headgateref21_find.f
  rw [show (0 : Int) = ((0 : Nat) : Int) from rfl, find_l0 s c hs s.size k 0 (by omega) hk, List.drop_zero]
  by_cases h : Go.Lib.indexByte s.data.toList c = -1
  · rw [if_pos h, h]
  · rw [if_neg h]; congr 1; omega
theorem letter_nat : ∀ n : Fin 256, headgateref21_letter.f ((UInt8.ofNat n.val).toNat : Int) = some (keyC (UInt8.ofNat n.val)) := by decide +kernel
theorem letter_spec (c : UInt8) : headgateref21_letter.f (c.toNat : Int) = some (keyC c) := by
  have h := letter_nat ⟨c.toNat, c.toNat_lt⟩
  simpa using h
theorem good_l3 (l : List S45) (hl : l.length ≤ 16) (i : Nat) (hi : i < l.length) : ∀ (d k j : Nat), j + d = i →
    headgateref21_Good.l3 (k + d + 1) l (i : Int) (j : Int) = if ((l.take i).drop j).any (fun q => q.f0.toList == l[i].f0.toList) = true then some false else headgateref21_Good.l0 k l ((i : Int) + 1)
  | 0, k, j, hj => by
    rw [headgateref21_Good.l3, if_neg (by omega), List.drop_eq_nil_of_le (by simp; omega), if_neg (by simp), w64 (by omega) (by omega)]
  | d + 1, k, j, hj => by
    have hjl : j < l.length := by omega
    rw [show k + (d + 1) + 1 = (k + d + 1) + 1 from by omega, headgateref21_Good.l3, if_pos (by omega), if_pos (by omega), if_pos (by omega), if_pos (by omega), if_pos (by omega), rd_at l j hjl, rd_at l i hi, List.drop_eq_getElem_cons (by simp; omega), List.any_cons]
    rw [List.getElem_take]
    by_cases he : l[j].f0.toList = l[i].f0.toList
    · rw [if_pos he, if_pos (by simp [he])]
    · rw [if_neg he, w64 (by omega) (by omega), beq_eq_false_iff_ne.mpr he, Bool.false_or]
      exact good_l3 l hl i hi d k (j + 1) (by omega)
theorem good_l2 (l : List S45) (hl : l.length ≤ 16) (i : Nat) (hi : i < l.length) (hv : l[i].f1.size ≤ 255) : ∀ (d k j : Nat), j + d = l[i].f1.size →
    headgateref21_Good.l2 (k + d + 1) l (i : Int) (j : Int) = if Go.Lib.indexByte (l[i].f1.data.toList.drop j) 0 < 0 then headgateref21_Good.l3 k l (i : Int) 0 else some false
  | 0, k, j, hj => by
    rw [headgateref21_Good.l2, if_pos (by omega), if_pos (by omega), rd_at l i hi, if_neg (by omega), List.drop_eq_nil_of_le (by simp; omega), if_pos (by decide)]
  | d + 1, k, j, hj => by
    have hjs : j < l[i].f1.size := by omega
    have hjl : j < l[i].f1.data.toList.length := by simpa using hjs
    rw [show k + (d + 1) + 1 = (k + d + 1) + 1 from by omega, headgateref21_Good.l2, if_pos (by omega), if_pos (by omega), rd_at l i hi, if_pos (by omega), if_pos (by omega), bt_nat _ j hjs, List.drop_eq_getElem_cons hjl]
    have hc : (((l[i].f1.data.toList[j]'hjl).toNat : Int) = 0) ↔ l[i].f1.data.toList[j]'hjl = 0 := by
      constructor
      · intro h; exact UInt8.toNat_inj.mp (by simpa using h)
      · intro h; rw [h]; rfl
    rw [idx_cons]
    by_cases he : l[i].f1.data.toList[j]'hjl = 0
    · rw [if_pos (hc.mpr he), if_pos he, if_neg (by decide)]
    · rw [if_neg (fun h => he (hc.mp h)), if_neg he, w64 (by omega) (by omega), show ((j : Int) + 1) = ((j + 1 : Nat) : Int) from rfl, good_l2 l hl i hi hv d k (j + 1) (by omega)]
      have hg := Go.Lib.indexByte_ge (l[i].f1.data.toList.drop (j + 1)) 0
      by_cases hm : Go.Lib.indexByte (l[i].f1.data.toList.drop (j + 1)) 0 < 0
      · rw [if_pos hm, if_pos (by omega)]
      · rw [if_neg hm, if_neg (by omega)]
theorem good_l1 (l : List S45) (hl : l.length ≤ 16) (i : Nat) (hi : i < l.length) (hv : l[i].f0.size ≤ 63) : ∀ (d k j : Nat), j + d = l[i].f0.size →
    headgateref21_Good.l1 (k + d + 1) l (i : Int) (j : Int) = if (l[i].f0.data.toList.drop j).all keyC = true then headgateref21_Good.l2 k l (i : Int) 0 else some false
  | 0, k, j, hj => by
    rw [headgateref21_Good.l1, if_pos (by omega), if_pos (by omega), rd_at l i hi, if_neg (by omega), List.drop_eq_nil_of_le (by simp; omega), if_pos (by simp)]
  | d + 1, k, j, hj => by
    have hjs : j < l[i].f0.size := by omega
    have hjl : j < l[i].f0.data.toList.length := by simpa using hjs
    rw [show k + (d + 1) + 1 = (k + d + 1) + 1 from by omega, headgateref21_Good.l1, if_pos (by omega), if_pos (by omega), rd_at l i hi, if_pos (by omega), if_pos (by omega), bt_nat _ j hjs, letter_spec, Option.bind_some, List.drop_eq_getElem_cons hjl, List.all_cons]
    cases hk : keyC (l[i].f0.data.toList[j]'hjl)
    · rw [if_neg (by decide), if_neg (by simp)]
    · rw [if_pos rfl, w64 (by omega) (by omega), show ((j : Int) + 1) = ((j + 1 : Nat) : Int) from rfl, good_l1 l hl i hi hv d k (j + 1) (by omega), Bool.true_and]
theorem good_l0 (l : List S45) (hl : l.length ≤ 16) : ∀ (d K i : Nat), i + d = l.length → 345 * d + 1 ≤ K → headgateref21_Good.l0 K l (i : Int) = some (goodL (l.take i) (l.drop i))
  | 0, K + 1, i, hi, hK => by
    rw [headgateref21_Good.l0, if_neg (by omega), List.drop_eq_nil_of_le (by omega)]
    rfl
  | d + 1, K + 1, i, hi, hK => by
    have hlt : i < l.length := by omega
    rw [headgateref21_Good.l0, if_pos (by omega), if_pos (by omega), rd_at l i hlt, List.drop_eq_getElem_cons hlt]
    unfold goodL pairB keyB
    by_cases h1 : ((l[i].f0).size : Int) < 1
    · obtain ⟨K, rfl⟩ : ∃ K', K = K' + 1 := ⟨K - 1, by omega⟩
      rw [if_pos h1, headgateref21_Good.j1, if_pos rfl, decide_eq_false (show ¬ 1 ≤ l[i].f0.size by omega)]
      simp
    rw [if_neg h1]
    by_cases h2 : ((l[i].f0).size : Int) > 63
    · obtain ⟨K, rfl⟩ : ∃ K', K = K' + 1 := ⟨K - 1, by omega⟩
      rw [if_pos h2, headgateref21_Good.j1, if_pos rfl, decide_eq_false (show ¬ l[i].f0.size ≤ 63 by omega)]
      simp
    rw [if_neg h2]
    by_cases h3 : ((l[i].f1).size : Int) > 255
    · obtain ⟨K, rfl⟩ : ∃ K', K = K' + 1 := ⟨K - 1, by omega⟩
      rw [decide_eq_true h3, headgateref21_Good.j1, if_pos rfl, decide_eq_false (show ¬ l[i].f1.size ≤ 255 by omega)]
      simp
    obtain ⟨K4, rfl⟩ : ∃ K4, K = (((K4 + i + 1) + l[i].f1.size + 1) + l[i].f0.size + 1) + 1 := ⟨K - (i + l[i].f1.size + l[i].f0.size + 4), by omega⟩
    have g1 : headgateref21_Good.l1 (((K4 + i + 1) + l[i].f1.size + 1) + l[i].f0.size + 1) l (i : Int) 0 = if (l[i].f0.data.toList).all keyC = true then headgateref21_Good.l2 ((K4 + i + 1) + l[i].f1.size + 1) l (i : Int) 0 else some false := good_l1 l hl i hlt (by omega) l[i].f0.size ((K4 + i + 1) + l[i].f1.size + 1) 0 (by omega)
    have g2 : headgateref21_Good.l2 ((K4 + i + 1) + l[i].f1.size + 1) l (i : Int) 0 = if Go.Lib.indexByte l[i].f1.data.toList 0 < 0 then headgateref21_Good.l3 (K4 + i + 1) l (i : Int) 0 else some false := good_l2 l hl i hlt (by omega) l[i].f1.size (K4 + i + 1) 0 (by omega)
    have g3 : headgateref21_Good.l3 (K4 + i + 1) l (i : Int) 0 = if (l.take i).any (fun q => q.f0.toList == l[i].f0.toList) = true then some false else headgateref21_Good.l0 K4 l ((i : Int) + 1) := good_l3 l hl i hlt i K4 0 (by omega)
    have g0 := good_l0 l hl d K4 (i + 1) (by omega) (by omega)
    rw [decide_eq_false h3, headgateref21_Good.j1, if_neg (by decide), g1, g2, g3, show ((i : Int) + 1) = ((i + 1 : Nat) : Int) from rfl, g0, List.take_succ_eq_append_getElem hlt]
    rw [decide_eq_true (show 1 ≤ l[i].f0.size by omega), decide_eq_true (show l[i].f0.size ≤ 63 by omega), decide_eq_true (show l[i].f1.size ≤ 255 by omega)]
    unfold keyIn
    cases (l[i].f0.data.toList).all keyC
    · simp
    by_cases h4 : Go.Lib.indexByte l[i].f1.data.toList 0 < 0
    · rw [decide_eq_true h4, if_pos rfl, if_pos (by simpa using h4)]
      cases (List.take i l).any fun q => q.f0.toList == l[i].f0.toList <;> simp
    · rw [decide_eq_false h4, if_pos rfl, if_neg (by simpa using h4)]
      simp
theorem Good_spec (k : Nat) (l : List S45) (hk : 5600 ≤ k) : headgateref21_Good.f k l = some (goodB l) := by
  unfold headgateref21_Good.f goodB
  by_cases h : (l.length : Int) > 16
  · rw [if_pos h, decide_eq_false (by omega)]
    rfl
  · rw [if_neg h, decide_eq_true (by omega), show (0 : Int) = ((0 : Nat) : Int) from rfl, good_l0 l (by omega) l.length k 0 (by omega) (by omega)]
    rfl
end Go.Proofs.YtclcnkmefldpiaaDoor.Pure
namespace Go.Proofs.YtclcnkmefldpiaaDoor.Pure
open Go.RowKit Go.Proofs.YtclcnkmefldpiaaDoor.P Go.Proofs.YtclcnkmefldpiaaDoorW.PrintWords Go.Proofs.YtclcnkmefldpiaaDoorW.PrintLast Go.Proofs.YtclcnkmefldpiaaDoorW.PrintMore
set_option linter.unusedVariables false
set_option linter.unusedSimpArgs false
def bs (l : List UInt8) : ByteArray := ⟨l.toArray⟩
theorem bs_list (l : List UInt8) : (bs l).data.toList = l := rfl
theorem bs_of {x : ByteArray} {l : List UInt8} (h : x.data.toList = l) : x = bs l := ByteArray.ext (Array.toList_inj.mp (by rw [h]; rfl))
theorem len_data (s : ByteArray) : s.data.toList.length = s.size := by simp
theorem idx_split {l : List UInt8} {c : UInt8} (h : ¬ Go.Lib.indexByte l c < 0) : (Go.Lib.indexByte l c).toNat < l.length ∧ l = l.take (Go.Lib.indexByte l c).toNat ++ c :: l.drop ((Go.Lib.indexByte l c).toNat + 1) ∧ c ∉ l.take (Go.Lib.indexByte l c).toNat := by
  obtain ⟨n, hn⟩ : ∃ n : Nat, Go.Lib.indexByte l c = n := ⟨(Go.Lib.indexByte l c).toNat, by omega⟩
  obtain ⟨h1, h2⟩ := Go.Lib.indexByte_some hn
  rw [hn, Int.toNat_natCast]
  have hl : n < l.length := by
    by_cases hx : n < l.length
    · exact hx
    · rw [List.getElem?_eq_none (by omega)] at h1; cases h1
  rw [List.getElem?_eq_getElem hl] at h1
  refine ⟨hl, ?_, fun hm => ?_⟩
  · rw [← Option.some.inj h1]
    conv => lhs; rw [← List.take_append_drop n l, List.drop_eq_getElem_cons hl]
  · obtain ⟨i, hi, e⟩ := List.mem_iff_getElem.mp hm
    rw [List.getElem_take] at e
    have hi' : i < n := by rw [List.length_take] at hi; omega
    exact h2 i hi' (by rw [List.getElem?_eq_getElem (by omega), e])
theorem smallB_of {l : List S45} (h : ∀ p ∈ l, p.f0.size ≤ 1000000 ∧ p.f1.size ≤ 1000000) : smallB l = true := by
  unfold smallB
  rw [List.all_eq_true]
  intro p hp
  simpa using h p hp
theorem smallB_iff {l : List S45} (h : smallB l = true) : ∀ p ∈ l, p.f0.size ≤ 1000000 ∧ p.f1.size ≤ 1000000 := fun p hp => by
  unfold smallB at h
  rw [List.all_eq_true] at h
  simpa using h p hp
end Go.Proofs.YtclcnkmefldpiaaDoor.Pure
namespace Go.Proofs.YtclcnkmefldpiaaDoor.Pure
open Go.RowKit Go.Proofs.YtclcnkmefldpiaaDoor.P Go.Proofs.YtclcnkmefldpiaaDoorW.PrintWords Go.Proofs.YtclcnkmefldpiaaDoorW.PrintLast Go.Proofs.YtclcnkmefldpiaaDoorW.PrintMore
set_option linter.unusedVariables false
set_option linter.unusedSimpArgs false
def rn : Int → List UInt8 → Int
  | acc, [] => if acc ≥ 16777216 then -1 else acc
  | acc, c :: l => if (c.toNat : Int) < 48 then -1 else if (c.toNat : Int) > 57 then -1 else rn (acc * 10 + ((c.toNat : Int) - 48)) l
def Bn : Nat → Int | 0 => 0 | i + 1 => 10 * Bn i + 9
theorem Bn_le (i : Nat) (h : i ≤ 8) : Bn i ≤ 99999999 := by
  have : ∀ j : Fin 9, Bn j.val ≤ 99999999 := by decide
  exact this ⟨i, by omega⟩
theorem num_l0 (s : ByteArray) (hs : s.size ≤ 8) : ∀ (d k i : Nat) (acc : Int), i + d = s.size → d + 1 ≤ k → 0 ≤ acc → acc ≤ Bn i → headgateref21_number.l0 k s acc (i : Int) = some (rn acc (s.data.toList.drop i))
  | 0, k + 1, i, acc, hi, hk, h0, hb => by
    rw [headgateref21_number.l0, if_neg (by omega), List.drop_eq_nil_of_le (by simp; omega), rn]
    split <;> rfl
  | d + 1, k + 1, i, acc, hi, hk, h0, hb => by
    have hlt : i < s.size := by omega
    have hll : i < s.data.toList.length := by simpa using hlt
    have hB := Bn_le i (by omega)
    rw [headgateref21_number.l0, if_pos (by omega), if_pos (by omega), bt_nat s i hlt, List.drop_eq_getElem_cons hll, rn]
    generalize s.data.toList[i]'hll = c
    by_cases h1 : (c.toNat : Int) < 48
    · rw [if_pos h1, if_pos h1]
    rw [if_neg h1, if_neg h1]
    by_cases h2 : (c.toNat : Int) > 57
    · rw [if_pos h2, if_pos h2]
    rw [if_neg h2, if_neg h2]
    have e1 : ((c.toNat : Int) - 48) % 256 = (c.toNat : Int) - 48 := by omega
    rw [e1, w64 (n := acc * 10) (by omega) (by omega), w64 (by omega) (by omega), w64 (n := (i : Int) + 1) (by omega) (by omega)]
    exact num_l0 s hs d k (i + 1) _ (by omega) (by omega) (by omega) (by show _ ≤ 10 * Bn i + 9; omega)
def numR (v : ByteArray) : Int := if v.size = 0 ∨ 8 < v.size ∨ (1 < v.size ∧ v.data.toList.getD 0 0 = 48) then -1 else rn 0 v.data.toList
theorem bt_zero (v : ByteArray) (h : 0 < v.size) : bt v 0 = ((v.data.toList.getD 0 0).toNat : Int) := by
  have := bt_nat v 0 h
  have hl : 0 < v.data.toList.length := by simpa using h
  rw [show (0 : Int) = ((0 : Nat) : Int) from rfl, this, List.getD_eq_getElem?_getD, List.getElem?_eq_getElem hl]
  rfl
theorem number_spec (k : Nat) (v : ByteArray) (hk : 20 ≤ k) : headgateref21_number.f k v = some (numR v) := by
  obtain ⟨k, rfl⟩ : ∃ q, k = q + 1 := ⟨k - 1, by omega⟩
  have hT : headgateref21_number.j0 (k + 1) v true = some (-1) := by rw [headgateref21_number.j0, if_pos rfl]
  have hF : v.size ≤ 8 → headgateref21_number.j0 (k + 1) v false = some (rn 0 v.data.toList) := fun h => by
    rw [headgateref21_number.j0, if_neg (by decide)]
    exact num_l0 v h v.size k 0 0 (by omega) (by omega) (by decide) (by decide)
  unfold headgateref21_number.f numR
  by_cases h1 : v.size = 0
  · rw [if_pos (by omega), if_pos (Or.inl h1), hT]
  rw [if_neg (by omega)]
  by_cases h2 : 8 < v.size
  · rw [if_pos (by omega), if_pos (Or.inr (Or.inl h2)), hT]
  rw [if_neg (by omega)]
  by_cases h3 : 1 < v.size
  · rw [if_pos (by omega), if_pos (by omega), bt_zero v (by omega)]
    by_cases h4 : v.data.toList.getD 0 0 = 48
    · rw [h4, if_pos (Or.inr (Or.inr ⟨h3, rfl⟩))]
      exact hT
    · have : ((((v.data.toList.getD 0 0).toNat : Int)) == 48) = false := by
        rw [beq_eq_false_iff_ne]
        intro h
        exact h4 (UInt8.toNat_inj.mp (by rw [show (48 : UInt8).toNat = 48 from rfl]; omega))
      rw [this, if_neg (fun h => h.elim h1 (fun h => h.elim h2 (fun h => h4 h.2))), hF (by omega)]
  · rw [if_neg (by omega), if_neg (fun h => h.elim h1 (fun h => h.elim h2 (fun h => h3 h.1))), hF (by omega)]
theorem rn_big : ∀ (l : List UInt8) (acc : Int), acc ≥ 16777216 → rn acc l = -1
  | [], acc, h => by rw [rn, if_pos h]
  | c :: l, acc, h => by
    rw [rn]
    split
    · rfl
    · split
      · rfl
      · exact rn_big l _ (by omega)
theorem pu_rn : ∀ (l : List UInt8) (n : Nat), n ≤ 16777215 → ((pu n l).2 = 0 ∧ rn n l = ((pu n l).1 : Nat)) ∨ ((pu n l).2 ≠ 0 ∧ rn n l = -1)
  | [], n, h => by
    refine Or.inl ⟨rfl, ?_⟩
    rw [rn, if_neg (by omega)]
    rfl
  | c :: l, n, h => by
    by_cases h1 : 48 ≤ c.toNat ∧ c.toNat ≤ 57
    · have hr : rn n (c :: l) = rn ((n * 10 + (c.toNat - 48) : Nat) : Int) l := by
        rw [rn, if_neg (by omega), if_neg (by omega)]
        congr 1
        omega
      rw [hr, pu, if_pos h1]
      by_cases h2 : n * 10 + (c.toNat - 48) ≤ 16777215
      · rw [if_pos h2]
        exact pu_rn l _ h2
      · rw [if_neg h2]
        exact Or.inr ⟨by decide, rn_big l _ (by omega)⟩
    · have hr : rn n (c :: l) = -1 := by
        rw [rn]
        by_cases h3 : (c.toNat : Int) < 48
        · rw [if_pos h3]
        · rw [if_neg h3, if_pos (by omega)]
      rw [hr, pu, if_neg h1]
      exact Or.inr ⟨by decide, rfl⟩
theorem num_rel (v : ByteArray) (least : Int) (h0 : 0 ≤ least) : (numB v least).2 = decide (least ≤ numR v) ∧ ((numB v least).2 = true → (numB v least).1 = numR v) := by
  unfold numB numR
  by_cases h : v.size = 0 ∨ 8 < v.size ∨ (1 < v.size ∧ v.data.toList.getD 0 0 = 48)
  · rw [if_pos h, if_pos h]
    exact ⟨(decide_eq_false (by omega)).symm, fun h => by cases h⟩
  · rw [if_neg h, if_neg h]
    rcases pu_rn v.data.toList 0 (by decide) with ⟨h1, h2⟩ | ⟨h1, h2⟩
    · rw [show ((0 : Nat) : Int) = 0 from rfl] at h2
      rw [h2, h1]
      exact ⟨by simp, fun _ => rfl⟩
    · rw [show ((0 : Nat) : Int) = 0 from rfl] at h2
      rw [h2]
      refine ⟨?_, fun h => ?_⟩
      · rw [decide_eq_false h1, decide_eq_false (show ¬ least ≤ -1 by omega)]
        rfl
      · rw [decide_eq_false h1] at h
        cases h
def Tn : Nat → Nat | 0 => 1 | k + 1 => 10 * Tn k
theorem digit_str : ∀ m : Fin 10, strOfNums [(48 + (m.val : Int)) % 256] = bs [UInt8.ofNat (48 + m.val)] := by decide
theorem digits_len : ∀ (k n : Nat), n ≤ k → (Go.Lib.decDigits n).length ≤ n + 1
  | 0, n, h => by rw [Go.Lib.decDigits, dif_pos (by omega)]; simp
  | k + 1, n, h => by
    rw [Go.Lib.decDigits]
    split
    · simp
    · have := digits_len k (n / 10) (by omega)
      rw [List.length_append, List.length_singleton]
      omega
theorem dec_spec : ∀ (k n : Nat), n < 10 * Tn k → n ≤ 99999 → headgateref21_dec.f (k + 1) (n : Int) = some (bs (Go.Lib.decDigits n))
  | 0, n, h, h5 => by
    have hn : n < 10 := h
    rw [headgateref21_dec.f, if_pos (by omega), Go.Lib.decDigits, dif_pos hn, w64 (by omega) (by omega)]
    rw [digit_str ⟨n, hn⟩]
  | k + 1, n, h, h5 => by
    rw [headgateref21_dec.f, Go.Lib.decDigits]
    by_cases hn : n < 10
    · rw [if_pos (by omega), dif_pos hn, w64 (by omega) (by omega)]
      rw [digit_str ⟨n, hn⟩]
    · have hT : n / 10 < 10 * Tn k := by
        have : n < 10 * (10 * Tn k) := h
        omega
      have ih := dec_spec k (n / 10) hT (by omega)
      have e1 : Int.tdiv (n : Int) 10 = ((n / 10 : Nat) : Int) := by rw [Int.tdiv_eq_ediv_of_nonneg (by omega)]; omega
      have e2 : Int.tmod (n : Int) 10 = ((n % 10 : Nat) : Int) := by rw [Int.tmod_eq_emod_of_nonneg (by omega)]; omega
      have hm : n % 10 < 10 := Nat.mod_lt _ (by decide)
      have hz : (bs (Go.Lib.decDigits (n / 10))).size = (Go.Lib.decDigits (n / 10)).length := by rw [← len_data, bs_list]
      have hl := digits_len (n / 10) (n / 10) (Nat.le_refl _)
      have hs1 : (bs [UInt8.ofNat (48 + n % 10)]).size = 1 := rfl
      rw [if_neg (by omega), dif_neg hn, e1, w64 (by omega) (by omega), ih, Option.bind_some, Option.bind_some, e2, w64 (by omega) (by omega), digit_str ⟨n % 10, hm⟩, if_pos (by dsimp only; omega)]
      exact congrArg some (bs_of (by rw [ByteArray.data_append, Array.toList_append]; rfl))
theorem dec_itoa (k : Nat) (n : Int) (h0 : 0 ≤ n) (h1 : n ≤ 99999) (hk : 6 ≤ k) : headgateref21_dec.f k n = some (⟨(Go.Lib.itoa n).toArray⟩ : ByteArray) := by
  obtain ⟨m, rfl⟩ : ∃ m : Nat, n = m := ⟨n.toNat, by omega⟩
  obtain ⟨k, rfl⟩ : ∃ q, k = q + 6 := ⟨k - 6, by omega⟩
  have hT : ∀ q, 1 ≤ Tn q := fun q => by
    induction q with
    | zero => exact Nat.le_refl _
    | succ q ih => show 1 ≤ 10 * Tn q; omega
  have := hT k
  rw [dec_spec (k + 5) m (by show m < 10 * (10 * (10 * (10 * (10 * (10 * Tn k))))); omega) (by omega)]
  unfold Go.Lib.itoa
  rw [if_neg (by omega)]
  rfl
theorem pieces_miss {s : ByteArray} (h : Go.Lib.indexByte s.data.toList 44 < 0) : pieces s = [s] := by
  have hg := Go.Lib.indexByte_ge s.data.toList 44
  unfold pieces
  rw [Go.Lib.splitB_miss]
  show Go.Lib.index s.data.toList [44] = -1
  rw [Go.Lib.index_one]
  omega
theorem pieces_hit {s : ByteArray} {n : Nat} (h : Go.Lib.indexByte s.data.toList 44 = n) : pieces s = s.extract 0 n :: pieces (s.extract (n + 1) s.size) := by
  have hi : Go.Lib.indexB s (⟨#[44]⟩ : ByteArray) = n := by
    show Go.Lib.index s.data.toList [44] = n
    rw [Go.Lib.index_one, h]
  unfold pieces
  rw [Go.Lib.countB_hit s _ n (by decide) hi, Nat.add_comm 1, Go.Lib.splitB_hit _ _ _ _ n hi]
  rfl
theorem first_l1 (L : List ByteArray) (s x : ByteArray) (e : Int) : ∀ (d k i : Nat), i + d = L.length → L.length ≤ 1000 →
    headgateref21_first.l1 (k + d + 1) s L e x (i : Int) = if (L.drop i).any (fun y => x.toList == y.toList) = true then some x else if e < 0 then some (⟨#[]⟩ : ByteArray) else if 0 ≤ (wrap64 (e + 1)) then (if (wrap64 (e + 1)) ≤ (s.size : Int) then headgateref21_first.l0 k (s.extract ((wrap64 (e + 1)) : Int).toNat s.size) L else none) else none
  | 0, k, i, hi, hl => by
    rw [headgateref21_first.l1, if_neg (by omega), List.drop_eq_nil_of_le (by omega), if_neg (show ¬ (([] : List ByteArray).any fun y => x.toList == y.toList) = true by simp)]
  | d + 1, k, i, hi, hl => by
    have hlt : i < L.length := by omega
    have hr : rdOf ByteArray.empty L (i : Int) = L[i] := by
      unfold rdOf
      rw [Int.toNat_natCast, List.getD_eq_getElem?_getD, List.getElem?_eq_getElem hlt]
      rfl
    rw [show k + (d + 1) + 1 = (k + d + 1) + 1 from by omega, headgateref21_first.l1, if_pos (by omega), if_pos (by omega), hr, List.drop_eq_getElem_cons hlt, List.any_cons]
    by_cases h : x.toList = L[i].toList
    · rw [if_pos h, if_pos (by simp [h])]
    · rw [if_neg h, w64 (by omega) (by omega), beq_eq_false_iff_ne.mpr h, Bool.false_or]
      exact first_l1 L s x e d k (i + 1) (by omega) hl
theorem first_l0 (L : List ByteArray) (hL : L.length ≤ 2) : ∀ (n K : Nat) (s : ByteArray), s.size ≤ n → n ≤ 1000000 → 6 * n + s.size + 10 ≤ K → headgateref21_first.l0 K s L = some (match chosen L s with | some x => x | none => (⟨#[]⟩ : ByteArray))
  | n, 0, s, hs, hn, hK => by omega
  | n, K + 1, s, hs, hn, hK => by
    have hf := find_spec K s 44 (by omega) (by omega)
    rw [show ((44 : UInt8).toNat : Int) = 44 from rfl] at hf
    rw [headgateref21_first.l0, hf, Option.bind_some]
    obtain ⟨K2, rfl⟩ : ∃ K2, K = (K2 + L.length + 1) + 1 := ⟨K - L.length - 2, by omega⟩
    by_cases h : Go.Lib.indexByte s.data.toList 44 < 0
    · have hc : chosen L s = if isOne L s = true then some s else none := by
        unfold chosen
        rw [pieces_miss h, List.find?_cons]
        cases isOne L s <;> rfl
      have h1 := first_l1 L s s (Go.Lib.indexByte s.data.toList 44) L.length K2 0 (by omega) (by omega)
      rw [if_neg (by omega), headgateref21_first.j1, show (0 : Int) = ((0 : Nat) : Int) from rfl, h1, List.drop_zero, hc]
      unfold isOne
      cases L.any fun y => s.toList == y.toList
      · rw [if_neg (by decide), if_pos h, if_neg (by decide)]
      · rw [if_pos rfl, if_pos rfl]
    · obtain ⟨m, hm⟩ : ∃ m : Nat, Go.Lib.indexByte s.data.toList 44 = m := ⟨(Go.Lib.indexByte s.data.toList 44).toNat, by omega⟩
      obtain ⟨q1, _, _⟩ := idx_split h
      rw [hm] at q1 ⊢
      rw [len_data] at q1
      rw [Int.toNat_natCast] at q1
      have hc : chosen L s = if isOne L (s.extract 0 m) = true then some (s.extract 0 m) else chosen L (s.extract (m + 1) s.size) := by
        unfold chosen
        rw [pieces_hit hm, List.find?_cons]
        cases isOne L (s.extract 0 m) <;> rfl
      have h1 := first_l1 L s (s.extract 0 m) (m : Int) L.length K2 0 (by omega) (by omega)
      rw [if_pos (by omega), if_pos (by omega), if_pos (by omega), Int.toNat_natCast, headgateref21_first.j1]
      change headgateref21_first.l1 (K2 + L.length + 1) s L (m : Int) (s.extract 0 m) ((0 : Nat) : Int) = _
      rw [h1, List.drop_zero, hc]
      unfold isOne
      cases L.any fun y => (s.extract 0 m).toList == y.toList
      · rw [if_neg (by decide), if_neg (by omega), w64 (by omega) (by omega), if_pos (by omega), if_pos (by omega), if_neg (by decide)]
        have e : ((m : Int) + 1).toNat = m + 1 := by omega
        rw [e]
        cases n with
        | zero => omega
        | succ n => exact first_l0 L hL n K2 (s.extract (m + 1) s.size) (by rw [ByteArray.size_extract]; omega) (by omega) (by rw [ByteArray.size_extract]; omega)
      · rw [if_pos rfl, if_pos rfl]
theorem first_spec (K : Nat) (L : List ByteArray) (s : ByteArray) (hL : L.length ≤ 2) (hs : s.size ≤ 100000) (hK : 8 * s.size + 20 ≤ K) : headgateref21_first.f K s L = some (match chosen L s with | some x => x | none => (⟨#[]⟩ : ByteArray)) := by
  unfold headgateref21_first.f
  exact first_l0 L hL s.size K s (Nat.le_refl _) (by omega) (by omega)
end Go.Proofs.YtclcnkmefldpiaaDoor.Pure
namespace Go.Proofs.YtclcnkmefldpiaaDoor.Pure
open Go.RowKit Go.Proofs.YtclcnkmefldpiaaDoor.P Go.Proofs.YtclcnkmefldpiaaDoorW.PrintWords Go.Proofs.YtclcnkmefldpiaaDoorW.PrintLast Go.Proofs.YtclcnkmefldpiaaDoorW.PrintMore
set_option linter.unusedVariables false
theorem wakes_ok : headgatelaw21_wakes.f = some true := by
  kernel_rfl
end Go.Proofs.YtclcnkmefldpiaaDoor.Pure
namespace Go.Proofs.YtclcnkmefldpiaaDoor.Pure
open Go.RowKit Go.Proofs.YtclcnkmefldpiaaDoor.P Go.Proofs.YtclcnkmefldpiaaDoorW.PrintWords Go.Proofs.YtclcnkmefldpiaaDoorW.PrintLast Go.Proofs.YtclcnkmefldpiaaDoorW.PrintMore
set_option linter.unusedVariables false
set_option linter.unusedSimpArgs false
def silent (s : ByteArray) : Prop := s.toList = ([73, 110, 105, 116, 105, 97, 116, 111, 114, 78, 97, 109, 101] : List UInt8) ∨ s.toList = ([84, 97, 114, 103, 101, 116, 78, 97, 109, 101] : List UInt8) ∨ s.toList = ([83, 101, 115, 115, 105, 111, 110, 84, 121, 112, 101] : List UInt8) ∨ s.toList = ([73, 110, 105, 116, 105, 97, 116, 111, 114, 65, 108, 105, 97, 115] : List UInt8)
def Inv (a : S23) : Prop := a.f3 = false ∧ 512 ≤ a.f4 ∧ a.f4 ≤ 8192 ∧ 512 ≤ a.f5 ∧ a.f5 ≤ 4096
def StepOk (r : Rdr) (a : S23) (v : ByteArray) : Prop := ∃ b x o, r.F a v = some (b, x, o) ∧ (o = true → x.toList.isEmpty = true → ∀ s : ByteArray, s.toList = r.key → silent s) ∧ (o = true → Inv a → Inv b)
theorem iqn_some (v : ByteArray) : ∃ b, names_Iqn.f v = some b := by
  unfold names_Iqn.f names_dated.f
  rw [if_pos (by decide)]
  split
  · split
    · obtain ⟨z, hz⟩ : ∃ z, strings_HasPrefix.f v ((⟨#[105, 113, 110]⟩ : ByteArray) ++ (⟨#[46]⟩ : ByteArray)) = some z := by
        unfold strings_HasPrefix.f stringslite_HasPrefix.f
        split
        · rw [if_pos (by omega)]; exact ⟨_, rfl⟩
        · exact ⟨_, rfl⟩
      rw [hz, Option.bind_some]
      split <;> exact ⟨_, rfl⟩
    · exact ⟨_, rfl⟩
  · exact ⟨_, rfl⟩
theorem num_least {v : ByteArray} {n : Int} (h : (numB v n).2 = true) : n ≤ (numB v n).1 := by
  unfold numB at h ⊢
  split
  · next hc => rw [if_pos hc] at h; cases h
  · next hc =>
    rw [if_neg hc, Bool.and_eq_true, decide_eq_true_eq, decide_eq_true_eq] at h
    exact h.2
theorem chosen_in {L : List ByteArray} {v x : ByteArray} (h : chosen L v = some x) : ∃ y ∈ L, x.toList = y.toList := by
  have := List.find?_some h
  unfold isOne at this
  obtain ⟨y, hy, e⟩ := List.any_eq_true.mp this
  exact ⟨y, hy, by simpa using e⟩
theorem itoa_ne (n : Int) : (⟨(Go.Lib.itoa n).toArray⟩ : ByteArray).toList.isEmpty = false := by
  rw [ba_list]
  show (Go.Lib.itoa n).isEmpty = false
  unfold Go.Lib.itoa
  split
  · rfl
  · unfold Go.Lib.decDigits
    split <;> simp
theorem digest_ok {v : ByteArray} (hv : v.size ≤ 1000000) (L : List ByteArray) (hL : ∀ y ∈ L, y.toList.isEmpty = false) (k : List UInt8) (g : S23 → ByteArray → S23) (a : S23) (hg : ∀ x, Inv a → Inv (g a x)) :
    StepOk ⟨k, fun a v => if v.size ≤ 1000000 then (match chosen L v with | some x => some (g a x, x, true) | none => some (a, (⟨#[]⟩ : ByteArray), false)) else none⟩ a v := by
  unfold StepOk
  dsimp only
  rw [if_pos hv]
  cases hc : chosen L v with
  | none => exact ⟨_, _, _, rfl, fun h => absurd h (by decide), fun h => absurd h (by decide)⟩
  | some x =>
    obtain ⟨y, hy, e⟩ := chosen_in hc
    exact ⟨_, _, _, rfl, fun _ h => (by rw [e, hL y hy] at h; cases h), fun _ => hg x⟩
theorem yes_ne {v : ByteArray} (h : ((v.toList == ([89, 101, 115] : List UInt8)) || (v.toList == ([78, 111] : List UInt8))) = true) : v.toList.isEmpty = false := by
  rcases Bool.or_eq_true_iff.mp h with h | h <;> rw [beq_iff_eq.mp h] <;> rfl
theorem step_ok {r : Rdr} (hr : r ∈ specs) (a : S23) (v : ByteArray) (hv : v.size ≤ 1000000) : StepOk r a v := by
  unfold specs at hr
  simp only [List.mem_cons, List.not_mem_nil, or_false] at hr
  obtain ⟨q, hq⟩ := iqn_some v
  rcases hr with rfl | rfl | rfl | rfl | rfl | rfl | rfl | rfl | rfl | rfl | rfl | rfl | rfl | rfl | rfl | rfl | rfl | rfl | rfl
  · exact ⟨{ a with f6 := v }, _, q, by dsimp only; rw [hq]; rfl, fun _ _ s hs => Or.inl hs, fun _ h => h⟩
  · exact ⟨{ a with f7 := v }, _, q, by dsimp only; rw [hq]; rfl, fun _ _ s hs => Or.inr (Or.inl hs), fun _ h => h⟩
  · exact ⟨_, _, _, rfl, fun _ _ s hs => Or.inr (Or.inr (Or.inl hs)), fun _ h => h⟩
  · exact ⟨_, _, _, rfl, fun _ _ s hs => Or.inr (Or.inr (Or.inr hs)), fun _ h => h⟩
  · exact digest_ok hv _ (by intro y hy; simp only [List.mem_cons, List.not_mem_nil, or_false] at hy; rcases hy with rfl | rfl <;> kernel_rfl) _ (fun a x => { a with f0 := x.toList == ([67, 82, 67, 51, 50, 67] : List UInt8) }) a (fun _ h => h)
  · exact digest_ok hv _ (by intro y hy; simp only [List.mem_cons, List.not_mem_nil, or_false] at hy; rcases hy with rfl | rfl <;> kernel_rfl) _ (fun a x => { a with f1 := x.toList == ([67, 82, 67, 51, 50, 67] : List UInt8) }) a (fun _ h => h)
  · refine ⟨_, _, _, rfl, fun _ h => (by rw [itoa_ne] at h; cases h), fun h hI => ?_⟩
    have := num_least h
    exact ⟨hI.1, by dsimp only; omega, by dsimp only; omega, hI.2.2.2⟩
  · exact ⟨_, _, _, rfl, fun h h2 => (by rw [yes_ne h] at h2; cases h2), fun _ h => h⟩
  · refine ⟨_, _, _, rfl, fun _ h => (by rw [itoa_ne] at h; cases h), fun h hI => ?_⟩
    have := num_least h
    exact ⟨hI.1, hI.2.1, hI.2.2.1, by dsimp only; omega, by dsimp only; omega⟩
  · exact ⟨_, _, _, rfl, fun _ h => (by rw [itoa_ne] at h; cases h), fun _ h => h⟩
  · exact digest_ok hv _ (by intro y hy; simp only [List.mem_cons, List.not_mem_nil, or_false] at hy; rcases hy with rfl; kernel_rfl) _ (fun a x => a) a (fun _ h => h)
  all_goals exact ⟨_, _, _, rfl, fun _ h => (by rw [ba_list] at h; cases h), fun _ h => h⟩
theorem findR_in {s : ByteArray} {r : Rdr} (h : findR s = some r) : r ∈ specs ∧ s.toList = r.key := by
  unfold findR at h
  exact ⟨List.mem_of_find?_eq_some h, by rw [ba_list]; exact (by simpa using List.find?_some h : r.key = s.data.toList).symm⟩
theorem Answer_good (a : S23) (l : List S45) (hs : smallB l = true) (hg : goodB l = true) {V : Option (S23 × List S45)} (h : ansL a [] l = some V) :
    keys_Answer.f a.f0 a.f1 a.f2 a.f3 a.f4 a.f5 a.f6 a.f7 l = some ((ansV V).1.f0, (ansV V).1.f1, (ansV V).1.f2, (ansV V).1.f3, (ansV V).1.f4, (ansV V).1.f5, (ansV V).1.f6, (ansV V).1.f7, (ansV V).2.1, (ansV V).2.2) := by
  unfold keys_Answer.f
  rw [if_pos hs, if_pos hg, show (⟨a.f0, a.f1, a.f2, a.f3, a.f4, a.f5, a.f6, a.f7⟩ : S23) = a from rfl, h]
  rfl
theorem Answer_bad (a : S23) (l : List S45) (hs : smallB l = true) (hg : goodB l = false) :
    keys_Answer.f a.f0 a.f1 a.f2 a.f3 a.f4 a.f5 a.f6 a.f7 l = some (false, false, false, false, 0, 0, (⟨#[]⟩ : ByteArray), (⟨#[]⟩ : ByteArray), [], 210) := by
  unfold keys_Answer.f
  rw [if_pos hs, hg, if_neg (by decide)]
end Go.Proofs.YtclcnkmefldpiaaDoor.Pure
namespace Go.Proofs.YtclcnkmefldpiaaDoor.Num
open Go.RowKit Go.Proofs.YtclcnkmefldpiaaDoorW.PrintWords Go.Proofs.YtclcnkmefldpiaaDoorW.PrintMore
theorem wrap_u64 (n : Int) : IntKind.u64.wrap n = n % 18446744073709551616 := by simp [IntKind.wrap, IntKind.bits, IntKind.signed]
theorem w64 {n : Int} (h0 : -9223372036854775808 ≤ n) (h1 : n < 9223372036854775808) : wrap64 n = n := by unfold wrap64; omega
def p (j : Nat) : Int := 256 ^ j
end Go.Proofs.YtclcnkmefldpiaaDoor.Num
namespace Go.Proofs.YtclcnkmefldpiaaDoor.Num
open Go.RowKit Go.Proofs.YtclcnkmefldpiaaDoorW.PrintWords Go.Proofs.YtclcnkmefldpiaaDoorW.PrintMore
theorem bt_at (s : ByteArray) (i : Nat) (h : i < s.size) : bt s (i : Int) = ((s.data.toList[i]'(by simpa using h)).toNat : Int) := by
  unfold bt
  rw [dif_pos (show ((i : Int)).toNat < s.size by simpa using h)]
  rfl
end Go.Proofs.YtclcnkmefldpiaaDoor.Num
namespace Go.Proofs.YtclcnkmefldpiaaDoor.Pure
open Go.RowKit Go.Proofs.YtclcnkmefldpiaaDoor.P Go.Proofs.YtclcnkmefldpiaaDoorW.PrintWords Go.Proofs.YtclcnkmefldpiaaDoorW.PrintLast Go.Proofs.YtclcnkmefldpiaaDoorW.PrintMore Go.Proofs.YtclcnkmefldpiaaDoor.Num
set_option linter.unusedVariables false
set_option linter.unusedSimpArgs false
theorem mark5 (c : Nat) : mark_ 5 c = decide ((97 ≤ c ∧ c ≤ 122) ∨ (48 ≤ c ∧ c ≤ 57) ∨ c = 46 ∨ c = 45 ∨ c = 58) := by
  rw [Bool.eq_iff_iff]
  simp only [mark_, lo_, hi_, Bool.false_or, Bool.or_eq_true, decide_eq_true_eq]
  omega
def letter_ (b : Int) : Bool := decide (97 ≤ b ∧ b ≤ 122)
def digit_ (b : Int) : Bool := decide (48 ≤ b ∧ b ≤ 57)
def iqn4 : ByteArray := ⟨#[105, 113, 110, 46]⟩
def pre4 (s w : ByteArray) : Bool := (s.extract 0 4).toList == w.toList
def datedB (s w : ByteArray) : Bool := nameB s && (decide (12 < s.size) && (pre4 s w && restB s))
theorem HasPrefix_spec (s w : ByteArray) (h : w.size ≤ s.size) : strings_HasPrefix.f s w = some ((s.extract 0 w.size).toList == w.toList) := by
  unfold strings_HasPrefix.f stringslite_HasPrefix.f
  rw [if_pos (by omega), if_pos (by omega), if_pos (by omega), Option.bind_some]
  rfl
theorem dated_spec (s w w4 : ByteArray) (hw : w.size = 3) (e : w ++ (⟨#[46]⟩ : ByteArray) = w4) : names_dated.f s w = some (datedB s w4) := by
  have h4 : w4.size = 4 := by rw [← e, ByteArray.size_append, hw]; rfl
  unfold names_dated.f datedB pre4
  rw [if_pos (by omega), e]
  cases hn : nameB s
  · rfl
  rw [if_pos rfl]
  by_cases hs : 12 < s.size
  · rw [if_pos hs, HasPrefix_spec s w4 (by omega), Option.bind_some, h4, decide_eq_true hs]
    cases (s.extract 0 4).toList == w4.toList <;> rfl
  · rw [if_neg hs, decide_eq_false hs]
    rfl
theorem Iqn_spec (s : ByteArray) : names_Iqn.f s = some (datedB s iqn4) := by
  unfold names_Iqn.f
  rw [dated_spec s _ iqn4 rfl rfl]
  rfl
theorem ref_letter (b : Int) : headgateref03_letter.f b = some (letter_ b) := by
  unfold headgateref03_letter.f letter_
  split
  · congr 1
    rw [decide_eq_decide]
    omega
  · rw [decide_eq_false (by omega)]
theorem ref_digit (b : Int) : headgateref03_digit.f b = some (digit_ b) := by
  unfold headgateref03_digit.f digit_
  split
  · congr 1
    rw [decide_eq_decide]
    omega
  · rw [decide_eq_false (by omega)]
theorem ref_Name_l0 (s : ByteArray) (hs : s.size ≤ 64) : ∀ (d k i : Nat), i + d = s.size → d < k → headgateref03_Name.l0 k s (i : Int) = some ((s.data.toList.drop i).all (fun c => mark_ 5 c.toNat))
  | 0, k + 1, i, h, _ => by
    rw [headgateref03_Name.l0, if_neg (by omega), List.drop_eq_nil_of_le (show s.data.toList.length ≤ i by show s.size ≤ i; omega)]
    rfl
  | d + 1, k + 1, i, h, hk => by
    have hi : i < s.size := by omega
    have hl : i < s.data.toList.length := hi
    have e := ref_Name_l0 s hs d k (i + 1) (by omega) (by omega)
    have hw : wrap64 ((i : Int) + 1) = ((i + 1 : Nat) : Int) := by rw [w64 (by omega) (by omega)]; omega
    have hb : bt s (i : Int) = ((s.data.toList[i]'hl).toNat : Int) := bt_at s i hi
    rw [headgateref03_Name.l0, if_pos (by omega), if_pos (by omega), ref_letter, ref_digit, Option.bind_some, Option.bind_some, hw, e, List.drop_eq_getElem_cons hl, List.all_cons, hb, mark5]
    generalize (s.data.toList[i]'hl).toNat = c
    generalize (s.data.toList.drop (i + 1)).all (fun c => mark_ 5 c.toNat) = R
    clear hb e hw
    unfold letter_ digit_
    by_cases a1 : (97 ≤ c ∧ c ≤ 122)
    · rw [decide_eq_true (show (97 : Int) ≤ c ∧ (c : Int) ≤ 122 by omega), if_pos rfl, decide_eq_true (by omega), Bool.true_and]
    rw [decide_eq_false (show ¬ ((97 : Int) ≤ c ∧ (c : Int) ≤ 122) by omega), if_neg (by decide)]
    by_cases a2 : (48 ≤ c ∧ c ≤ 57)
    · rw [decide_eq_true (show (48 : Int) ≤ c ∧ (c : Int) ≤ 57 by omega), if_pos rfl, decide_eq_true (by omega), Bool.true_and]
    rw [decide_eq_false (show ¬ ((48 : Int) ≤ c ∧ (c : Int) ≤ 57) by omega), if_neg (by decide)]
    by_cases a3 : c = 46
    · rw [if_pos (by omega), decide_eq_true (by omega), Bool.true_and]
    rw [if_neg (by omega)]
    by_cases a4 : c = 45
    · rw [if_pos (by omega), decide_eq_true (by omega), Bool.true_and]
    rw [if_neg (by omega)]
    by_cases a5 : c = 58
    · rw [if_pos (by omega), decide_eq_true (by omega), Bool.true_and]
    rw [if_neg (by omega), decide_eq_false (by omega), Bool.false_and]
theorem ref_Name_spec (k : Nat) (s : ByteArray) (hk : 70 ≤ k) : headgateref03_Name.f k s = some (nameB s) := by
  obtain ⟨k, rfl⟩ : ∃ q, k = q + 1 := ⟨k - 1, by omega⟩
  have ht : headgateref03_Name.j0 (k + 1) s true = some false := by rw [headgateref03_Name.j0, if_pos rfl]
  unfold headgateref03_Name.f nameB
  by_cases h1 : s.size < 1
  · rw [if_pos (by omega), ht, decide_eq_false (by omega), Bool.false_and]
  rw [if_neg (by omega)]
  by_cases h2 : s.size > 64
  · rw [if_pos (by omega), ht, decide_eq_false (by omega), Bool.false_and]
  rw [if_neg (by omega), if_pos (by omega), ref_letter, Option.bind_some]
  unfold letter_
  by_cases h3 : 97 ≤ bt s 0 ∧ bt s 0 ≤ 122
  · have e := ref_Name_l0 s (by omega) s.size k 0 (by omega) (by omega)
    rw [decide_eq_true h3, decide_eq_true ⟨by omega, by omega, h3.1, h3.2⟩, headgateref03_Name.j0, if_neg (by decide), Bool.true_and]
    exact e
  · rw [decide_eq_false h3, decide_eq_false (fun h => h3 h.2.2), Bool.false_and]
    exact ht
theorem good_num (s : ByteArray) (j : Nat) (h4 : j ≠ 4) (h7 : j ≠ 7) : good_ s j = digit_ (bt s ((4 + j : Nat) : Int)) := by
  unfold good_ digit_
  rw [if_neg h4, if_neg h7]
theorem range8 (f : Nat → Bool) : (List.range 8).all f = (f 0 && (f 1 && (f 2 && (f 3 && (f 4 && (f 5 && (f 6 && f 7))))))) := by
  have : List.range 8 = [0, 1, 2, 3, 4, 5, 6, 7] := by decide
  rw [this]
  simp only [List.all_cons, List.all_nil, Bool.and_true]
def tailB (s : ByteArray) : Bool := decide (bt s 8 = 45) && (digit_ (bt s 9) && (digit_ (bt s 10) && (decide (bt s 11 = 46) && (decide (1 ≤ month_ s ∧ month_ s ≤ 12) && nameB (s.extract 12 s.size)))))
theorem restB_eq (s : ByteArray) : restB s = (digit_ (bt s 4) && (digit_ (bt s 5) && (digit_ (bt s 6) && (digit_ (bt s 7) && tailB s)))) := by
  unfold restB tailB
  rw [range8, good_num s 0 (by decide) (by decide), good_num s 1 (by decide) (by decide), good_num s 2 (by decide) (by decide), good_num s 3 (by decide) (by decide), good_num s 5 (by decide) (by decide), good_num s 6 (by decide) (by decide)]
  have e4 : good_ s 4 = decide (bt s 8 = 45) := rfl
  have e7 : good_ s 7 = decide (bt s 11 = 46) := rfl
  rw [e4, e7]
  simp only [Bool.and_assoc]
  rfl
theorem ref_tail (k : Nat) (s : ByteArray) (hk : 70 ≤ k) (hs : 12 < s.size) : headgateref03_dated.l0 (k + 1) s 8 = some (tailB s) := by
  rw [headgateref03_dated.l0, if_neg (by decide), if_pos (by omega)]
  unfold tailB
  by_cases a : bt s 8 = 45
  · rw [if_pos a, decide_eq_true a, Bool.true_and, if_pos (by omega), ref_digit, Option.bind_some]
    cases b : digit_ (bt s 9)
    · rw [if_neg (by decide), Bool.false_and]
    rw [if_pos rfl, Bool.true_and, if_pos (by omega), ref_digit, Option.bind_some]
    cases c : digit_ (bt s 10)
    · rw [if_neg (by decide), Bool.false_and]
    rw [if_pos rfl, Bool.true_and, if_pos (by omega)]
    by_cases d : bt s 11 = 46
    · rw [if_pos d, decide_eq_true d, Bool.true_and]
      have b' := of_decide_eq_true b
      have c' := of_decide_eq_true c
      have em : (bt s 9 - 48) % 256 * 10 + (bt s 10 - 48) % 256 = month_ s := by unfold month_; omega
      rw [em]
      by_cases f : 1 ≤ month_ s
      · rw [if_pos f]
        by_cases g : month_ s ≤ 12
        · rw [if_pos g, if_pos (by omega), decide_eq_true ⟨f, g⟩, Bool.true_and, ref_Name_spec k _ hk, Option.bind_some]
        · rw [if_neg g, decide_eq_false (fun h => g h.2), Bool.false_and]
      · rw [if_neg f, decide_eq_false (fun h => f h.1), Bool.false_and]
    · rw [if_neg d, decide_eq_false d, Bool.false_and]
  · rw [if_neg a, decide_eq_false a, Bool.false_and]
theorem ref_year (k : Nat) (s : ByteArray) (x : Int) (R : Bool) (h4 : 4 ≤ x) (h8 : x < 8) (hs : 12 < s.size) (e : headgateref03_dated.l0 k s (x + 1) = some R) : headgateref03_dated.l0 (k + 1) s x = some (digit_ (bt s x) && R) := by
  rw [headgateref03_dated.l0, if_pos h8, if_pos (by omega), if_pos (by omega), ref_digit, Option.bind_some, w64 (by omega) (by omega), e]
  cases digit_ (bt s x) <;> rfl
theorem ref_dated_spec (k : Nat) (s w4 : ByteArray) (hk : 80 ≤ k) : headgateref03_dated.f k s w4 = some (datedB s w4) := by
  obtain ⟨k, rfl⟩ : ∃ q, k = q + 6 := ⟨k - 6, by omega⟩
  have ht : headgateref03_dated.j0 (k + 6) s true = some false := by rw [headgateref03_dated.j0, if_pos rfl]
  unfold headgateref03_dated.f datedB pre4
  rw [ref_Name_spec _ _ (by omega), Option.bind_some]
  cases hn : nameB s
  · rw [if_neg (by decide), ht]
    rfl
  rw [if_pos rfl, Bool.true_and]
  by_cases hs : 12 < s.size
  · rw [if_neg (by omega), if_pos (by decide), if_pos (by omega), decide_eq_true hs, Bool.true_and]
    cases hp : ((s.extract 0 4).toList == w4.toList)
    · have : ((s.extract 0 4).toList != w4.toList) = true := by rw [bne, hp]; rfl
      rw [this, ht]
      rfl
    · have : ((s.extract 0 4).toList != w4.toList) = false := by rw [bne, hp]; rfl
      have e8 := ref_tail k s (by omega) hs
      have e7 := ref_year (k + 1) s 7 _ (by decide) (by decide) hs e8
      have e6 := ref_year (k + 2) s 6 _ (by decide) (by decide) hs e7
      have e5 := ref_year (k + 3) s 5 _ (by decide) (by decide) hs e6
      have e4 := ref_year (k + 4) s 4 _ (by decide) (by decide) hs e5
      rw [this, headgateref03_dated.j0, if_neg (by decide), e4, restB_eq, Bool.true_and]
  · rw [if_pos (by omega), ht, decide_eq_false hs, Bool.false_and]
theorem ref_Iqn_spec (k : Nat) (s : ByteArray) (hk : 80 ≤ k) : headgateref03_Iqn.f k s = some (datedB s iqn4) := by
  unfold headgateref03_Iqn.f
  rw [ref_dated_spec k s _ hk]
  rfl
end Go.Proofs.YtclcnkmefldpiaaDoor.Pure
namespace Go.Proofs.YtclcnkmefldpiaaDoor.Pure
open Go.RowKit Go.Proofs.YtclcnkmefldpiaaDoor.P Go.Proofs.YtclcnkmefldpiaaDoorW.PrintWords Go.Proofs.YtclcnkmefldpiaaDoorW.PrintLast Go.Proofs.YtclcnkmefldpiaaDoorW.PrintMore
set_option linter.unusedVariables false
set_option linter.unusedSimpArgs false
def Fit (a : S23) (p : S45) (b : S23) (x : ByteArray) (o : Bool) : Prop := (findR p.f0 = none ∧ b = a ∧ x = (⟨#[78, 111, 116, 85, 110, 100, 101, 114, 115, 116, 111, 111, 100]⟩ : ByteArray) ∧ o = true) ∨ ∃ r, findR p.f0 = some r ∧ ∃ b' x', r.F a p.f1 = some (b', x', o) ∧ (o = true → b' = b ∧ x' = x)
abbrev OneT := Option (Bool × Bool × Bool × Bool × Int × Int × ByteArray × ByteArray × ByteArray × Bool)
def tell (b : S23) (x : ByteArray) (o : Bool) : OneT := some (b.f0, b.f1, b.f2, b.f3, b.f4, b.f5, b.f6, b.f7, x, o)
def Fits (a : S23) (p : S45) (T : OneT) : Prop := ∃ b x o, T = tell b x o ∧ Fit a p b x o
theorem key_find (p : S45) (K : List UInt8) (h : p.f0.toList = K) : findR p.f0 = specs.find? fun r => r.key == K := by
  unfold findR
  rw [← ba_list, h]
theorem at_0 (p : S45) (h : p.f0.toList = ([73, 110, 105, 116, 105, 97, 116, 111, 114, 78, 97, 109, 101] : List UInt8)) : findR p.f0 = some (specs[0]'(by decide)) := (key_find p _ h).trans (by kernel_rfl)
theorem at_1 (p : S45) (h : p.f0.toList = ([84, 97, 114, 103, 101, 116, 78, 97, 109, 101] : List UInt8)) : findR p.f0 = some (specs[1]'(by decide)) := (key_find p _ h).trans (by kernel_rfl)
theorem at_2 (p : S45) (h : p.f0.toList = ([83, 101, 115, 115, 105, 111, 110, 84, 121, 112, 101] : List UInt8)) : findR p.f0 = some (specs[2]'(by decide)) := (key_find p _ h).trans (by kernel_rfl)
theorem at_3 (p : S45) (h : p.f0.toList = ([73, 110, 105, 116, 105, 97, 116, 111, 114, 65, 108, 105, 97, 115] : List UInt8)) : findR p.f0 = some (specs[3]'(by decide)) := (key_find p _ h).trans (by kernel_rfl)
theorem at_4 (p : S45) (h : p.f0.toList = ([72, 101, 97, 100, 101, 114, 68, 105, 103, 101, 115, 116] : List UInt8)) : findR p.f0 = some (specs[4]'(by decide)) := (key_find p _ h).trans (by kernel_rfl)
theorem at_5 (p : S45) (h : p.f0.toList = ([68, 97, 116, 97, 68, 105, 103, 101, 115, 116] : List UInt8)) : findR p.f0 = some (specs[5]'(by decide)) := (key_find p _ h).trans (by kernel_rfl)
theorem at_6 (p : S45) (h : p.f0.toList = ([77, 97, 120, 82, 101, 99, 118, 68, 97, 116, 97, 83, 101, 103, 109, 101, 110, 116, 76, 101, 110, 103, 116, 104] : List UInt8)) : findR p.f0 = some (specs[6]'(by decide)) := (key_find p _ h).trans (by kernel_rfl)
theorem at_7 (p : S45) (h : p.f0.toList = ([73, 109, 109, 101, 100, 105, 97, 116, 101, 68, 97, 116, 97] : List UInt8)) : findR p.f0 = some (specs[7]'(by decide)) := (key_find p _ h).trans (by kernel_rfl)
theorem at_8 (p : S45) (h : p.f0.toList = ([70, 105, 114, 115, 116, 66, 117, 114, 115, 116, 76, 101, 110, 103, 116, 104] : List UInt8)) : findR p.f0 = some (specs[8]'(by decide)) := (key_find p _ h).trans (by kernel_rfl)
theorem at_9 (p : S45) (h : p.f0.toList = ([77, 97, 120, 66, 117, 114, 115, 116, 76, 101, 110, 103, 116, 104] : List UInt8)) : findR p.f0 = some (specs[9]'(by decide)) := (key_find p _ h).trans (by kernel_rfl)
theorem at_10 (p : S45) (h : p.f0.toList = ([65, 117, 116, 104, 77, 101, 116, 104, 111, 100] : List UInt8)) : findR p.f0 = some (specs[10]'(by decide)) := (key_find p _ h).trans (by kernel_rfl)
theorem at_11 (p : S45) (h : p.f0.toList = ([73, 110, 105, 116, 105, 97, 108, 82, 50, 84] : List UInt8)) : findR p.f0 = some (specs[11]'(by decide)) := (key_find p _ h).trans (by kernel_rfl)
theorem at_12 (p : S45) (h : p.f0.toList = ([68, 97, 116, 97, 80, 68, 85, 73, 110, 79, 114, 100, 101, 114] : List UInt8)) : findR p.f0 = some (specs[12]'(by decide)) := (key_find p _ h).trans (by kernel_rfl)
theorem at_13 (p : S45) (h : p.f0.toList = ([68, 97, 116, 97, 83, 101, 113, 117, 101, 110, 99, 101, 73, 110, 79, 114, 100, 101, 114] : List UInt8)) : findR p.f0 = some (specs[13]'(by decide)) := (key_find p _ h).trans (by kernel_rfl)
theorem at_14 (p : S45) (h : p.f0.toList = ([77, 97, 120, 67, 111, 110, 110, 101, 99, 116, 105, 111, 110, 115] : List UInt8)) : findR p.f0 = some (specs[14]'(by decide)) := (key_find p _ h).trans (by kernel_rfl)
theorem at_15 (p : S45) (h : p.f0.toList = ([77, 97, 120, 79, 117, 116, 115, 116, 97, 110, 100, 105, 110, 103, 82, 50, 84] : List UInt8)) : findR p.f0 = some (specs[15]'(by decide)) := (key_find p _ h).trans (by kernel_rfl)
theorem at_16 (p : S45) (h : p.f0.toList = ([68, 101, 102, 97, 117, 108, 116, 84, 105, 109, 101, 50, 87, 97, 105, 116] : List UInt8)) : findR p.f0 = some (specs[16]'(by decide)) := (key_find p _ h).trans (by kernel_rfl)
theorem at_17 (p : S45) (h : p.f0.toList = ([68, 101, 102, 97, 117, 108, 116, 84, 105, 109, 101, 50, 82, 101, 116, 97, 105, 110] : List UInt8)) : findR p.f0 = some (specs[17]'(by decide)) := (key_find p _ h).trans (by kernel_rfl)
theorem at_18 (p : S45) (h : p.f0.toList = ([69, 114, 114, 111, 114, 82, 101, 99, 111, 118, 101, 114, 121, 76, 101, 118, 101, 108] : List UInt8)) : findR p.f0 = some (specs[18]'(by decide)) := (key_find p _ h).trans (by kernel_rfl)
theorem at_no (p : S45) (h0 : p.f0.toList ≠ ([73, 110, 105, 116, 105, 97, 116, 111, 114, 78, 97, 109, 101] : List UInt8)) (h1 : p.f0.toList ≠ ([84, 97, 114, 103, 101, 116, 78, 97, 109, 101] : List UInt8)) (h2 : p.f0.toList ≠ ([83, 101, 115, 115, 105, 111, 110, 84, 121, 112, 101] : List UInt8)) (h3 : p.f0.toList ≠ ([73, 110, 105, 116, 105, 97, 116, 111, 114, 65, 108, 105, 97, 115] : List UInt8)) (h4 : p.f0.toList ≠ ([72, 101, 97, 100, 101, 114, 68, 105, 103, 101, 115, 116] : List UInt8)) (h5 : p.f0.toList ≠ ([68, 97, 116, 97, 68, 105, 103, 101, 115, 116] : List UInt8)) (h6 : p.f0.toList ≠ ([77, 97, 120, 82, 101, 99, 118, 68, 97, 116, 97, 83, 101, 103, 109, 101, 110, 116, 76, 101, 110, 103, 116, 104] : List UInt8)) (h7 : p.f0.toList ≠ ([73, 109, 109, 101, 100, 105, 97, 116, 101, 68, 97, 116, 97] : List UInt8)) (h8 : p.f0.toList ≠ ([70, 105, 114, 115, 116, 66, 117, 114, 115, 116, 76, 101, 110, 103, 116, 104] : List UInt8)) (h9 : p.f0.toList ≠ ([77, 97, 120, 66, 117, 114, 115, 116, 76, 101, 110, 103, 116, 104] : List UInt8)) (h10 : p.f0.toList ≠ ([65, 117, 116, 104, 77, 101, 116, 104, 111, 100] : List UInt8)) (h11 : p.f0.toList ≠ ([73, 110, 105, 116, 105, 97, 108, 82, 50, 84] : List UInt8)) (h12 : p.f0.toList ≠ ([68, 97, 116, 97, 80, 68, 85, 73, 110, 79, 114, 100, 101, 114] : List UInt8)) (h13 : p.f0.toList ≠ ([68, 97, 116, 97, 83, 101, 113, 117, 101, 110, 99, 101, 73, 110, 79, 114, 100, 101, 114] : List UInt8)) (h14 : p.f0.toList ≠ ([77, 97, 120, 67, 111, 110, 110, 101, 99, 116, 105, 111, 110, 115] : List UInt8)) (h15 : p.f0.toList ≠ ([77, 97, 120, 79, 117, 116, 115, 116, 97, 110, 100, 105, 110, 103, 82, 50, 84] : List UInt8)) (h16 : p.f0.toList ≠ ([68, 101, 102, 97, 117, 108, 116, 84, 105, 109, 101, 50, 87, 97, 105, 116] : List UInt8)) (h17 : p.f0.toList ≠ ([68, 101, 102, 97, 117, 108, 116, 84, 105, 109, 101, 50, 82, 101, 116, 97, 105, 110] : List UInt8)) (h18 : p.f0.toList ≠ ([69, 114, 114, 111, 114, 82, 101, 99, 111, 118, 101, 114, 121, 76, 101, 118, 101, 108] : List UInt8)) : findR p.f0 = none := by
  unfold findR
  rw [List.find?_eq_none]
  intro r hr
  unfold specs at hr
  simp only [List.mem_cons, List.not_mem_nil, or_false] at hr
  rw [ba_list] at h0 h1 h2 h3 h4 h5 h6 h7 h8 h9 h10 h11 h12 h13 h14 h15 h16 h17 h18
  rcases hr with rfl | rfl | rfl | rfl | rfl | rfl | rfl | rfl | rfl | rfl | rfl | rfl | rfl | rfl | rfl | rfl | rfl | rfl | rfl
  · exact fun x => h0 (beq_iff_eq.mp x).symm
  · exact fun x => h1 (beq_iff_eq.mp x).symm
  · exact fun x => h2 (beq_iff_eq.mp x).symm
  · exact fun x => h3 (beq_iff_eq.mp x).symm
  · exact fun x => h4 (beq_iff_eq.mp x).symm
  · exact fun x => h5 (beq_iff_eq.mp x).symm
  · exact fun x => h6 (beq_iff_eq.mp x).symm
  · exact fun x => h7 (beq_iff_eq.mp x).symm
  · exact fun x => h8 (beq_iff_eq.mp x).symm
  · exact fun x => h9 (beq_iff_eq.mp x).symm
  · exact fun x => h10 (beq_iff_eq.mp x).symm
  · exact fun x => h11 (beq_iff_eq.mp x).symm
  · exact fun x => h12 (beq_iff_eq.mp x).symm
  · exact fun x => h13 (beq_iff_eq.mp x).symm
  · exact fun x => h14 (beq_iff_eq.mp x).symm
  · exact fun x => h15 (beq_iff_eq.mp x).symm
  · exact fun x => h16 (beq_iff_eq.mp x).symm
  · exact fun x => h17 (beq_iff_eq.mp x).symm
  · exact fun x => h18 (beq_iff_eq.mp x).symm
theorem nil_bne : ((⟨#[]⟩ : ByteArray).toList != ([] : List UInt8)) = false := by kernel_rfl
theorem none_bne : ((⟨#[78, 111, 110, 101]⟩ : ByteArray).toList != ([] : List UInt8)) = true := by kernel_rfl
theorem yes_spec (v : ByteArray) : headgateref21_yes.f v = some ((v.toList == ([89, 101, 115] : List UInt8)) || (v.toList == ([78, 111] : List UInt8))) := by
  unfold headgateref21_yes.f
  by_cases h : v.toList = ([89, 101, 115] : List UInt8)
  · rw [if_pos h, h]; rfl
  · rw [if_neg h, beq_eq_false_iff_ne.mpr h]; rfl
theorem mn_min (a b : Int) : mn a b = min a b := by unfold mn; split <;> omega
theorem mx_max (a b : Int) : mx a b = max a b := by unfold mx; split <;> omega
theorem num_up (v : ByteArray) : numR v ≤ 99999999 ∧ -1 ≤ numR v := by
  unfold numR
  split
  · omega
  · next h =>
    rcases pu_rn v.data.toList 0 (by decide) with ⟨_, h2⟩ | ⟨_, h2⟩
    · rw [show ((0 : Nat) : Int) = 0 from rfl] at h2
      have := pu_lt v.data.toList 0 (by decide)
      rw [h2]; omega
    · rw [show ((0 : Nat) : Int) = 0 from rfl] at h2
      rw [h2]; omega
theorem fits_j3 (k : Nat) (a : S23) (p : S45) (z : Bool) (hv : p.f1.size ≤ 1000) (hk : 10000 ≤ k) (hz : z = true → Fits a p (tell a (⟨#[48]⟩ : ByteArray) (decide (numR p.f1 ≥ 0)))) (hn : z = false → ∀ (hA : p.f0.toList ≠ ([65, 117, 116, 104, 77, 101, 116, 104, 111, 100] : List UInt8)), findR p.f0 = none) :
    Fits a p (headgateref21_one.j3 (k + 1) p.f1 (numR p.f1) p.f0 z a.f0 a.f1 a.f2 a.f3 a.f4 a.f5 a.f6 a.f7) := by
  rw [headgateref21_one.j3]
  cases z
  case true => rw [if_pos rfl]; exact hz rfl
  rw [if_neg (by decide)]
  by_cases hA : p.f0.toList = ([65, 117, 116, 104, 77, 101, 116, 104, 111, 100] : List UInt8)
  · rw [if_pos hA, first_spec k [(⟨#[78, 111, 110, 101]⟩ : ByteArray)] p.f1 (by decide) (by omega) (by omega), Option.bind_some]
    cases hc : chosen [(⟨#[78, 111, 110, 101]⟩ : ByteArray)] p.f1 with
    | none =>
      refine ⟨a, _, false, by dsimp only; rw [nil_bne]; rfl, Or.inr ⟨_, at_10 p hA, a, (⟨#[]⟩ : ByteArray), ?_, fun h => absurd h (by decide)⟩⟩
      show (if p.f1.size ≤ 1000000 then (match chosen [(⟨#[78, 111, 110, 101]⟩ : ByteArray)] p.f1 with | some x => some (a, x, true) | none => some (a, (⟨#[]⟩ : ByteArray), false)) else none) = _
      rw [if_pos (by omega), hc]
    | some x =>
      obtain ⟨y, hy, e⟩ := chosen_in hc
      rw [List.mem_singleton.mp hy] at e
      have hx := ba_eq e
      refine ⟨a, (⟨#[78, 111, 110, 101]⟩ : ByteArray), true, ?_, Or.inr ⟨_, at_10 p hA, a, x, ?_, fun _ => ⟨rfl, hx⟩⟩⟩
      · dsimp only
        rw [hx, none_bne]
        rfl
      · show (if p.f1.size ≤ 1000000 then (match chosen [(⟨#[78, 111, 110, 101]⟩ : ByteArray)] p.f1 with | some x => some (a, x, true) | none => some (a, (⟨#[]⟩ : ByteArray), false)) else none) = _
        rw [if_pos (by omega), hc]
  · rw [if_neg hA]
    exact ⟨a, _, true, rfl, Or.inl ⟨hn rfl hA, rfl, rfl, rfl⟩⟩
theorem fit_14 (a : S23) (p : S45) (h : p.f0.toList = ([77, 97, 120, 67, 111, 110, 110, 101, 99, 116, 105, 111, 110, 115] : List UInt8)) : Fits a p (tell a (⟨#[49]⟩ : ByteArray) (decide (numR p.f1 ≥ 1))) := by
  refine ⟨a, _, _, rfl, Or.inr ⟨_, at_14 p h, a, (⟨#[49]⟩ : ByteArray), ?_, fun _ => ⟨rfl, rfl⟩⟩⟩
  show some (a, (⟨#[49]⟩ : ByteArray), (numB p.f1 1).2) = _
  rw [(num_rel p.f1 1 (by decide)).1]
theorem fit_15 (a : S23) (p : S45) (h : p.f0.toList = ([77, 97, 120, 79, 117, 116, 115, 116, 97, 110, 100, 105, 110, 103, 82, 50, 84] : List UInt8)) : Fits a p (tell a (⟨#[49]⟩ : ByteArray) (decide (numR p.f1 ≥ 1))) := by
  refine ⟨a, _, _, rfl, Or.inr ⟨_, at_15 p h, a, (⟨#[49]⟩ : ByteArray), ?_, fun _ => ⟨rfl, rfl⟩⟩⟩
  show some (a, (⟨#[49]⟩ : ByteArray), (numB p.f1 1).2) = _
  rw [(num_rel p.f1 1 (by decide)).1]
theorem fit_16 (a : S23) (p : S45) (h : p.f0.toList = ([68, 101, 102, 97, 117, 108, 116, 84, 105, 109, 101, 50, 87, 97, 105, 116] : List UInt8)) : Fits a p (tell a (⟨#[48]⟩ : ByteArray) (decide (numR p.f1 ≥ 0))) := by
  refine ⟨a, _, _, rfl, Or.inr ⟨_, at_16 p h, a, (⟨#[48]⟩ : ByteArray), ?_, fun _ => ⟨rfl, rfl⟩⟩⟩
  show some (a, (⟨#[48]⟩ : ByteArray), (numB p.f1 0).2) = _
  rw [(num_rel p.f1 0 (by decide)).1]
theorem fit_17 (a : S23) (p : S45) (h : p.f0.toList = ([68, 101, 102, 97, 117, 108, 116, 84, 105, 109, 101, 50, 82, 101, 116, 97, 105, 110] : List UInt8)) : Fits a p (tell a (⟨#[48]⟩ : ByteArray) (decide (numR p.f1 ≥ 0))) := by
  refine ⟨a, _, _, rfl, Or.inr ⟨_, at_17 p h, a, (⟨#[48]⟩ : ByteArray), ?_, fun _ => ⟨rfl, rfl⟩⟩⟩
  show some (a, (⟨#[48]⟩ : ByteArray), (numB p.f1 0).2) = _
  rw [(num_rel p.f1 0 (by decide)).1]
theorem fit_18 (a : S23) (p : S45) (h : p.f0.toList = ([69, 114, 114, 111, 114, 82, 101, 99, 111, 118, 101, 114, 121, 76, 101, 118, 101, 108] : List UInt8)) : Fits a p (tell a (⟨#[48]⟩ : ByteArray) (decide (numR p.f1 ≥ 0))) := by
  refine ⟨a, _, _, rfl, Or.inr ⟨_, at_18 p h, a, (⟨#[48]⟩ : ByteArray), ?_, fun _ => ⟨rfl, rfl⟩⟩⟩
  show some (a, (⟨#[48]⟩ : ByteArray), (numB p.f1 0).2) = _
  rw [(num_rel p.f1 0 (by decide)).1]
theorem fit_11 (a : S23) (p : S45) (h : p.f0.toList = ([73, 110, 105, 116, 105, 97, 108, 82, 50, 84] : List UInt8)) : Fits a p ((headgateref21_yes.f p.f1).bind fun t => tell a (⟨#[89, 101, 115]⟩ : ByteArray) t) := by
  rw [yes_spec, Option.bind_some]
  exact ⟨a, _, _, rfl, Or.inr ⟨_, at_11 p h, a, (⟨#[89, 101, 115]⟩ : ByteArray), rfl, fun _ => ⟨rfl, rfl⟩⟩⟩
theorem fit_12 (a : S23) (p : S45) (h : p.f0.toList = ([68, 97, 116, 97, 80, 68, 85, 73, 110, 79, 114, 100, 101, 114] : List UInt8)) : Fits a p ((headgateref21_yes.f p.f1).bind fun t => tell a (⟨#[89, 101, 115]⟩ : ByteArray) t) := by
  rw [yes_spec, Option.bind_some]
  exact ⟨a, _, _, rfl, Or.inr ⟨_, at_12 p h, a, (⟨#[89, 101, 115]⟩ : ByteArray), rfl, fun _ => ⟨rfl, rfl⟩⟩⟩
theorem fit_13 (a : S23) (p : S45) (h : p.f0.toList = ([68, 97, 116, 97, 83, 101, 113, 117, 101, 110, 99, 101, 73, 110, 79, 114, 100, 101, 114] : List UInt8)) : Fits a p ((headgateref21_yes.f p.f1).bind fun t => tell a (⟨#[89, 101, 115]⟩ : ByteArray) t) := by
  rw [yes_spec, Option.bind_some]
  exact ⟨a, _, _, rfl, Or.inr ⟨_, at_13 p h, a, (⟨#[89, 101, 115]⟩ : ByteArray), rfl, fun _ => ⟨rfl, rfl⟩⟩⟩
theorem fit_8 (k : Nat) (a : S23) (p : S45) (hk : 10000 ≤ k) (h : p.f0.toList = ([70, 105, 114, 115, 116, 66, 117, 114, 115, 116, 76, 101, 110, 103, 116, 104] : List UInt8)) : Fits a p ((headgateref21_dec.f k (mx (mn (numR p.f1) 4096) 0)).bind fun t => tell { a with f5 := mn (numR p.f1) 4096 } t (decide (numR p.f1 ≥ 512))) := by
  obtain ⟨u1, u2⟩ := num_up p.f1
  have hm : mx (mn (numR p.f1) 4096) 0 = max (min (numR p.f1) 4096) 0 := by rw [mx_max, mn_min]
  rw [hm, dec_itoa k _ (by omega) (by omega) (by omega), Option.bind_some]
  obtain ⟨n1, n2⟩ := num_rel p.f1 512 (by decide)
  refine ⟨_, _, _, rfl, Or.inr ⟨_, at_8 p h, { a with f5 := min (numB p.f1 512).1 4096 }, (⟨(Go.Lib.itoa (min (numB p.f1 512).1 4096)).toArray⟩ : ByteArray), ?_, fun ho => ?_⟩⟩
  · show some ({ a with f5 := min (numB p.f1 512).1 4096 }, (⟨(Go.Lib.itoa (min (numB p.f1 512).1 4096)).toArray⟩ : ByteArray), (numB p.f1 512).2) = _
    rw [n1]
  · have ho' := of_decide_eq_true ho
    rw [n2 (n1.trans ho)]
    have e : max (min (numR p.f1) 4096) 0 = min (numR p.f1) 4096 := by omega
    rw [e, mn_min]
    exact ⟨rfl, rfl⟩
theorem fit_9 (k : Nat) (a : S23) (p : S45) (hk : 10000 ≤ k) (h : p.f0.toList = ([77, 97, 120, 66, 117, 114, 115, 116, 76, 101, 110, 103, 116, 104] : List UInt8)) : Fits a p ((headgateref21_dec.f k (mx (mn (numR p.f1) 32768) 0)).bind fun t => tell a t (decide (numR p.f1 ≥ 512))) := by
  obtain ⟨u1, u2⟩ := num_up p.f1
  have hm : mx (mn (numR p.f1) 32768) 0 = max (min (numR p.f1) 32768) 0 := by rw [mx_max, mn_min]
  rw [hm, dec_itoa k _ (by omega) (by omega) (by omega), Option.bind_some]
  obtain ⟨n1, n2⟩ := num_rel p.f1 512 (by decide)
  refine ⟨_, _, _, rfl, Or.inr ⟨_, at_9 p h, a, (⟨(Go.Lib.itoa (min (numB p.f1 512).1 32768)).toArray⟩ : ByteArray), ?_, fun ho => ?_⟩⟩
  · show some (a, (⟨(Go.Lib.itoa (min (numB p.f1 512).1 32768)).toArray⟩ : ByteArray), (numB p.f1 512).2) = _
    rw [n1]
  · have ho' := of_decide_eq_true ho
    rw [n2 (n1.trans ho)]
    have e : max (min (numR p.f1) 32768) 0 = min (numR p.f1) 32768 := by omega
    rw [e]
    exact ⟨rfl, rfl⟩
theorem fits_j2 (k : Nat) (a : S23) (p : S45) (z : Bool) (hv : p.f1.size ≤ 1000) (hk : 10000 ≤ k) (hz : z = true → Fits a p (tell a (⟨#[49]⟩ : ByteArray) (decide (numR p.f1 ≥ 1)))) (h0 : p.f0.toList ≠ ([73, 110, 105, 116, 105, 97, 116, 111, 114, 78, 97, 109, 101] : List UInt8)) (h1 : p.f0.toList ≠ ([84, 97, 114, 103, 101, 116, 78, 97, 109, 101] : List UInt8)) (h2 : p.f0.toList ≠ ([83, 101, 115, 115, 105, 111, 110, 84, 121, 112, 101] : List UInt8)) (h3 : p.f0.toList ≠ ([73, 110, 105, 116, 105, 97, 116, 111, 114, 65, 108, 105, 97, 115] : List UInt8)) (h4 : p.f0.toList ≠ ([72, 101, 97, 100, 101, 114, 68, 105, 103, 101, 115, 116] : List UInt8)) (h5 : p.f0.toList ≠ ([68, 97, 116, 97, 68, 105, 103, 101, 115, 116] : List UInt8)) (h6 : p.f0.toList ≠ ([77, 97, 120, 82, 101, 99, 118, 68, 97, 116, 97, 83, 101, 103, 109, 101, 110, 116, 76, 101, 110, 103, 116, 104] : List UInt8)) (h7 : p.f0.toList ≠ ([73, 109, 109, 101, 100, 105, 97, 116, 101, 68, 97, 116, 97] : List UInt8)) (h8 : p.f0.toList ≠ ([70, 105, 114, 115, 116, 66, 117, 114, 115, 116, 76, 101, 110, 103, 116, 104] : List UInt8)) (h9 : p.f0.toList ≠ ([77, 97, 120, 66, 117, 114, 115, 116, 76, 101, 110, 103, 116, 104] : List UInt8)) (h11 : p.f0.toList ≠ ([73, 110, 105, 116, 105, 97, 108, 82, 50, 84] : List UInt8)) (h12 : p.f0.toList ≠ ([68, 97, 116, 97, 80, 68, 85, 73, 110, 79, 114, 100, 101, 114] : List UInt8)) (h13 : p.f0.toList ≠ ([68, 97, 116, 97, 83, 101, 113, 117, 101, 110, 99, 101, 73, 110, 79, 114, 100, 101, 114] : List UInt8)) (h14 : p.f0.toList ≠ ([77, 97, 120, 67, 111, 110, 110, 101, 99, 116, 105, 111, 110, 115] : List UInt8)) (h15 : z = false → p.f0.toList ≠ ([77, 97, 120, 79, 117, 116, 115, 116, 97, 110, 100, 105, 110, 103, 82, 50, 84] : List UInt8)) :
    Fits a p (headgateref21_one.j2 (k + 2) p.f1 (numR p.f1) p.f0 z a.f0 a.f1 a.f2 a.f3 a.f4 a.f5 a.f6 a.f7) := by
  rw [headgateref21_one.j2]
  cases z
  case true => rw [if_pos rfl]; exact hz rfl
  have h15 := h15 rfl
  rw [if_neg (by decide)]
  by_cases h16 : p.f0.toList = ([68, 101, 102, 97, 117, 108, 116, 84, 105, 109, 101, 50, 87, 97, 105, 116] : List UInt8)
  · rw [if_pos h16]
    exact fits_j3 k a p _ hv hk (fun _ => fit_16 a p h16) (fun h => absurd (beq_iff_eq.mpr h16) (by rw [h]; decide))
  rw [if_neg h16]
  by_cases h17 : p.f0.toList = ([68, 101, 102, 97, 117, 108, 116, 84, 105, 109, 101, 50, 82, 101, 116, 97, 105, 110] : List UInt8)
  · rw [if_pos h17]
    exact fits_j3 k a p _ hv hk (fun _ => fit_17 a p h17) (fun h => absurd (beq_iff_eq.mpr h17) (by rw [h]; decide))
  rw [if_neg h17]
  exact fits_j3 k a p _ hv hk (fun h => fit_18 a p (beq_iff_eq.mp h)) (fun h h10 => at_no p h0 h1 h2 h3 h4 h5 h6 h7 h8 h9 h10 h11 h12 h13 h14 h15 h16 h17 (beq_eq_false_iff_ne.mp h))
theorem fits_j1 (k : Nat) (a : S23) (p : S45) (z : Bool) (hv : p.f1.size ≤ 1000) (hk : 10000 ≤ k) (hz : z = true → Fits a p ((headgateref21_yes.f p.f1).bind fun t => tell a (⟨#[89, 101, 115]⟩ : ByteArray) t)) (h0 : p.f0.toList ≠ ([73, 110, 105, 116, 105, 97, 116, 111, 114, 78, 97, 109, 101] : List UInt8)) (h1 : p.f0.toList ≠ ([84, 97, 114, 103, 101, 116, 78, 97, 109, 101] : List UInt8)) (h2 : p.f0.toList ≠ ([83, 101, 115, 115, 105, 111, 110, 84, 121, 112, 101] : List UInt8)) (h3 : p.f0.toList ≠ ([73, 110, 105, 116, 105, 97, 116, 111, 114, 65, 108, 105, 97, 115] : List UInt8)) (h4 : p.f0.toList ≠ ([72, 101, 97, 100, 101, 114, 68, 105, 103, 101, 115, 116] : List UInt8)) (h5 : p.f0.toList ≠ ([68, 97, 116, 97, 68, 105, 103, 101, 115, 116] : List UInt8)) (h6 : p.f0.toList ≠ ([77, 97, 120, 82, 101, 99, 118, 68, 97, 116, 97, 83, 101, 103, 109, 101, 110, 116, 76, 101, 110, 103, 116, 104] : List UInt8)) (h7 : p.f0.toList ≠ ([73, 109, 109, 101, 100, 105, 97, 116, 101, 68, 97, 116, 97] : List UInt8)) (h11 : p.f0.toList ≠ ([73, 110, 105, 116, 105, 97, 108, 82, 50, 84] : List UInt8)) (h12 : p.f0.toList ≠ ([68, 97, 116, 97, 80, 68, 85, 73, 110, 79, 114, 100, 101, 114] : List UInt8)) (h13 : z = false → p.f0.toList ≠ ([68, 97, 116, 97, 83, 101, 113, 117, 101, 110, 99, 101, 73, 110, 79, 114, 100, 101, 114] : List UInt8)) :
    Fits a p (headgateref21_one.j1 (k + 3) p.f1 (numR p.f1) p.f0 z a.f0 a.f1 a.f2 a.f3 a.f4 a.f5 a.f6 a.f7) := by
  rw [headgateref21_one.j1]
  cases z
  case true => rw [if_pos rfl]; exact hz rfl
  have h13 := h13 rfl
  rw [if_neg (by decide)]
  by_cases h8 : p.f0.toList = ([70, 105, 114, 115, 116, 66, 117, 114, 115, 116, 76, 101, 110, 103, 116, 104] : List UInt8)
  · rw [if_pos h8]
    exact fit_8 (k + 2) a p (by omega) h8
  rw [if_neg h8]
  by_cases h9 : p.f0.toList = ([77, 97, 120, 66, 117, 114, 115, 116, 76, 101, 110, 103, 116, 104] : List UInt8)
  · rw [if_pos h9]
    exact fit_9 (k + 2) a p (by omega) h9
  rw [if_neg h9]
  by_cases h14 : p.f0.toList = ([77, 97, 120, 67, 111, 110, 110, 101, 99, 116, 105, 111, 110, 115] : List UInt8)
  · rw [if_pos h14]
    rw [beq_iff_eq.mpr h14, headgateref21_one.j2, if_pos rfl]
    exact fit_14 a p h14
  rw [if_neg h14]
  exact fits_j2 k a p _ hv hk (fun h => fit_15 a p (beq_iff_eq.mp h)) h0 h1 h2 h3 h4 h5 h6 h7 h8 h9 h11 h12 h13 h14 (fun h => beq_eq_false_iff_ne.mp h)
theorem fit_4 (k : Nat) (a : S23) (p : S45) (hv : p.f1.size ≤ 1000) (hk : 10000 ≤ k) (h : p.f0.toList = ([72, 101, 97, 100, 101, 114, 68, 105, 103, 101, 115, 116] : List UInt8)) : Fits a p ((headgateref21_first.f k p.f1 [(⟨#[67, 82, 67, 51, 50, 67]⟩ : ByteArray), (⟨#[78, 111, 110, 101]⟩ : ByteArray)]).bind fun t => tell { a with f0 := t.toList == ([67, 82, 67, 51, 50, 67] : List UInt8) } t (t.toList != ([] : List UInt8))) := by
  rw [first_spec k [(⟨#[67, 82, 67, 51, 50, 67]⟩ : ByteArray), (⟨#[78, 111, 110, 101]⟩ : ByteArray)] p.f1 (by decide) (by omega) (by omega), Option.bind_some]
  cases hc : chosen [(⟨#[67, 82, 67, 51, 50, 67]⟩ : ByteArray), (⟨#[78, 111, 110, 101]⟩ : ByteArray)] p.f1 with
  | none =>
    refine ⟨_, _, false, by dsimp only; rw [nil_bne], Or.inr ⟨_, at_4 p h, a, (⟨#[]⟩ : ByteArray), ?_, fun h => absurd h (by decide)⟩⟩
    show (if p.f1.size ≤ 1000000 then (match chosen [(⟨#[67, 82, 67, 51, 50, 67]⟩ : ByteArray), (⟨#[78, 111, 110, 101]⟩ : ByteArray)] p.f1 with | some x => some ({ a with f0 := x.toList == ([67, 82, 67, 51, 50, 67] : List UInt8) }, x, true) | none => some (a, (⟨#[]⟩ : ByteArray), false)) else none) = _
    rw [if_pos (by omega), hc]
  | some x =>
    obtain ⟨y, hy, e⟩ := chosen_in hc
    have hx : (x.toList != ([] : List UInt8)) = true := by
      rw [e]
      simp only [List.mem_cons, List.not_mem_nil, or_false] at hy
      rcases hy with rfl | rfl <;> kernel_rfl
    refine ⟨{ a with f0 := x.toList == ([67, 82, 67, 51, 50, 67] : List UInt8) }, x, true, by dsimp only; rw [hx], Or.inr ⟨_, at_4 p h, { a with f0 := x.toList == ([67, 82, 67, 51, 50, 67] : List UInt8) }, x, ?_, fun _ => ⟨rfl, rfl⟩⟩⟩
    show (if p.f1.size ≤ 1000000 then (match chosen [(⟨#[67, 82, 67, 51, 50, 67]⟩ : ByteArray), (⟨#[78, 111, 110, 101]⟩ : ByteArray)] p.f1 with | some x => some ({ a with f0 := x.toList == ([67, 82, 67, 51, 50, 67] : List UInt8) }, x, true) | none => some (a, (⟨#[]⟩ : ByteArray), false)) else none) = _
    rw [if_pos (by omega), hc]
theorem fit_5 (k : Nat) (a : S23) (p : S45) (hv : p.f1.size ≤ 1000) (hk : 10000 ≤ k) (h : p.f0.toList = ([68, 97, 116, 97, 68, 105, 103, 101, 115, 116] : List UInt8)) : Fits a p ((headgateref21_first.f k p.f1 [(⟨#[67, 82, 67, 51, 50, 67]⟩ : ByteArray), (⟨#[78, 111, 110, 101]⟩ : ByteArray)]).bind fun t => tell { a with f1 := t.toList == ([67, 82, 67, 51, 50, 67] : List UInt8) } t (t.toList != ([] : List UInt8))) := by
  rw [first_spec k [(⟨#[67, 82, 67, 51, 50, 67]⟩ : ByteArray), (⟨#[78, 111, 110, 101]⟩ : ByteArray)] p.f1 (by decide) (by omega) (by omega), Option.bind_some]
  cases hc : chosen [(⟨#[67, 82, 67, 51, 50, 67]⟩ : ByteArray), (⟨#[78, 111, 110, 101]⟩ : ByteArray)] p.f1 with
  | none =>
    refine ⟨_, _, false, by dsimp only; rw [nil_bne], Or.inr ⟨_, at_5 p h, a, (⟨#[]⟩ : ByteArray), ?_, fun h => absurd h (by decide)⟩⟩
    show (if p.f1.size ≤ 1000000 then (match chosen [(⟨#[67, 82, 67, 51, 50, 67]⟩ : ByteArray), (⟨#[78, 111, 110, 101]⟩ : ByteArray)] p.f1 with | some x => some ({ a with f1 := x.toList == ([67, 82, 67, 51, 50, 67] : List UInt8) }, x, true) | none => some (a, (⟨#[]⟩ : ByteArray), false)) else none) = _
    rw [if_pos (by omega), hc]
  | some x =>
    obtain ⟨y, hy, e⟩ := chosen_in hc
    have hx : (x.toList != ([] : List UInt8)) = true := by
      rw [e]
      simp only [List.mem_cons, List.not_mem_nil, or_false] at hy
      rcases hy with rfl | rfl <;> kernel_rfl
    refine ⟨{ a with f1 := x.toList == ([67, 82, 67, 51, 50, 67] : List UInt8) }, x, true, by dsimp only; rw [hx], Or.inr ⟨_, at_5 p h, { a with f1 := x.toList == ([67, 82, 67, 51, 50, 67] : List UInt8) }, x, ?_, fun _ => ⟨rfl, rfl⟩⟩⟩
    show (if p.f1.size ≤ 1000000 then (match chosen [(⟨#[67, 82, 67, 51, 50, 67]⟩ : ByteArray), (⟨#[78, 111, 110, 101]⟩ : ByteArray)] p.f1 with | some x => some ({ a with f1 := x.toList == ([67, 82, 67, 51, 50, 67] : List UInt8) }, x, true) | none => some (a, (⟨#[]⟩ : ByteArray), false)) else none) = _
    rw [if_pos (by omega), hc]
theorem fit_6 (a : S23) (p : S45) (h : p.f0.toList = ([77, 97, 120, 82, 101, 99, 118, 68, 97, 116, 97, 83, 101, 103, 109, 101, 110, 116, 76, 101, 110, 103, 116, 104] : List UInt8)) : Fits a p (tell { a with f4 := mn (numR p.f1) 8192 } (⟨#[56, 49, 57, 50]⟩ : ByteArray) (decide (numR p.f1 ≥ 512))) := by
  obtain ⟨n1, n2⟩ := num_rel p.f1 512 (by decide)
  refine ⟨_, _, _, rfl, Or.inr ⟨_, at_6 p h, { a with f4 := min (numB p.f1 512).1 8192 }, (⟨(Go.Lib.itoa 8192).toArray⟩ : ByteArray), ?_, fun ho => ?_⟩⟩
  · show some ({ a with f4 := min (numB p.f1 512).1 8192 }, (⟨(Go.Lib.itoa 8192).toArray⟩ : ByteArray), (numB p.f1 512).2) = _
    rw [n1]
  · rw [n2 (n1.trans ho), mn_min]
    exact ⟨rfl, by kernel_rfl⟩
theorem fit_7 (a : S23) (p : S45) (h : p.f0.toList = ([73, 109, 109, 101, 100, 105, 97, 116, 101, 68, 97, 116, 97] : List UInt8)) : Fits a p ((headgateref21_yes.f p.f1).bind fun t => tell { a with f2 := p.f1.toList == ([89, 101, 115] : List UInt8) } p.f1 t) := by
  rw [yes_spec, Option.bind_some]
  exact ⟨_, _, _, rfl, Or.inr ⟨_, at_7 p h, _, _, rfl, fun _ => ⟨rfl, rfl⟩⟩⟩
theorem fits_j0 (k : Nat) (a : S23) (p : S45) (z : Bool) (hv : p.f1.size ≤ 1000) (hk : 10000 ≤ k) (hz : z = true → p.f0.toList = ([72, 101, 97, 100, 101, 114, 68, 105, 103, 101, 115, 116] : List UInt8) ∨ p.f0.toList = ([68, 97, 116, 97, 68, 105, 103, 101, 115, 116] : List UInt8)) (h0 : p.f0.toList ≠ ([73, 110, 105, 116, 105, 97, 116, 111, 114, 78, 97, 109, 101] : List UInt8)) (h1 : p.f0.toList ≠ ([84, 97, 114, 103, 101, 116, 78, 97, 109, 101] : List UInt8)) (h2 : p.f0.toList ≠ ([83, 101, 115, 115, 105, 111, 110, 84, 121, 112, 101] : List UInt8)) (h3 : p.f0.toList ≠ ([73, 110, 105, 116, 105, 97, 116, 111, 114, 65, 108, 105, 97, 115] : List UInt8)) (h5 : z = false → p.f0.toList ≠ ([68, 97, 116, 97, 68, 105, 103, 101, 115, 116] : List UInt8)) (h4 : z = false → p.f0.toList ≠ ([72, 101, 97, 100, 101, 114, 68, 105, 103, 101, 115, 116] : List UInt8)) :
    Fits a p (headgateref21_one.j0 (k + 4) p.f1 (numR p.f1) p.f0 z a.f0 a.f1 a.f2 a.f3 a.f4 a.f5 a.f6 a.f7 p.f0 p.f1) := by
  rw [headgateref21_one.j0]
  cases z
  case true =>
    rw [if_pos rfl]
    rcases hz rfl with h | h
    · have := fit_4 (k + 3) a p hv (by omega) h
      simp only [if_pos h]
      exact this
    · have := fit_5 (k + 3) a p hv (by omega) h
      have hn : p.f0.toList ≠ ([72, 101, 97, 100, 101, 114, 68, 105, 103, 101, 115, 116] : List UInt8) := by rw [h]; decide
      simp only [if_neg hn]
      exact this
  have h5 := h5 rfl
  have h4 := h4 rfl
  rw [if_neg (by decide)]
  by_cases h6 : p.f0.toList = ([77, 97, 120, 82, 101, 99, 118, 68, 97, 116, 97, 83, 101, 103, 109, 101, 110, 116, 76, 101, 110, 103, 116, 104] : List UInt8)
  · rw [if_pos h6]; exact fit_6 a p h6
  rw [if_neg h6]
  by_cases h7 : p.f0.toList = ([73, 109, 109, 101, 100, 105, 97, 116, 101, 68, 97, 116, 97] : List UInt8)
  · rw [if_pos h7]; exact fit_7 a p h7
  rw [if_neg h7]
  by_cases h11 : p.f0.toList = ([73, 110, 105, 116, 105, 97, 108, 82, 50, 84] : List UInt8)
  · rw [if_pos h11, beq_iff_eq.mpr h11, headgateref21_one.j1, if_pos rfl]
    exact fit_11 a p h11
  rw [if_neg h11]
  by_cases h12 : p.f0.toList = ([68, 97, 116, 97, 80, 68, 85, 73, 110, 79, 114, 100, 101, 114] : List UInt8)
  · rw [if_pos h12, beq_iff_eq.mpr h12, headgateref21_one.j1, if_pos rfl]
    exact fit_12 a p h12
  rw [if_neg h12]
  exact fits_j1 k a p _ hv hk (fun h => fit_13 a p (beq_iff_eq.mp h)) h0 h1 h2 h3 h4 h5 h6 h7 h11 h12 (fun h => beq_eq_false_iff_ne.mp h)
theorem one_fit (k : Nat) (a : S23) (p : S45) (hv : p.f1.size ≤ 1000) (hk : 10010 ≤ k) : Fits a p (headgateref21_one.f k a.f0 a.f1 a.f2 a.f3 a.f4 a.f5 a.f6 a.f7 p.f0 p.f1) := by
  obtain ⟨k, rfl⟩ : ∃ q, k = q + 4 := ⟨k - 4, by omega⟩
  unfold headgateref21_one.f
  rw [number_spec _ _ (by omega), Option.bind_some]
  by_cases h0 : p.f0.toList = ([73, 110, 105, 116, 105, 97, 116, 111, 114, 78, 97, 109, 101] : List UInt8)
  · rw [if_pos h0, ref_Iqn_spec _ _ (by omega), Option.bind_some]
    refine ⟨{ a with f6 := p.f1 }, _, _, rfl, Or.inr ⟨_, at_0 p h0, { a with f6 := p.f1 }, _, ?_, fun _ => ⟨rfl, rfl⟩⟩⟩
    show (names_Iqn.f p.f1).bind (fun b => some ({ a with f6 := p.f1 }, (⟨#[]⟩ : ByteArray), b)) = _
    rw [Iqn_spec]; rfl
  rw [if_neg h0]
  by_cases h1 : p.f0.toList = ([84, 97, 114, 103, 101, 116, 78, 97, 109, 101] : List UInt8)
  · rw [if_pos h1, ref_Iqn_spec _ _ (by omega), Option.bind_some]
    refine ⟨{ a with f7 := p.f1 }, _, _, rfl, Or.inr ⟨_, at_1 p h1, { a with f7 := p.f1 }, _, ?_, fun _ => ⟨rfl, rfl⟩⟩⟩
    show (names_Iqn.f p.f1).bind (fun b => some ({ a with f7 := p.f1 }, (⟨#[]⟩ : ByteArray), b)) = _
    rw [Iqn_spec]; rfl
  rw [if_neg h1]
  by_cases h2 : p.f0.toList = ([83, 101, 115, 115, 105, 111, 110, 84, 121, 112, 101] : List UInt8)
  · rw [if_pos h2]
    exact ⟨a, _, _, rfl, Or.inr ⟨_, at_2 p h2, a, _, rfl, fun _ => ⟨rfl, rfl⟩⟩⟩
  rw [if_neg h2]
  by_cases h3 : p.f0.toList = ([73, 110, 105, 116, 105, 97, 116, 111, 114, 65, 108, 105, 97, 115] : List UInt8)
  · rw [if_pos h3]
    exact ⟨a, _, _, rfl, Or.inr ⟨_, at_3 p h3, a, _, rfl, fun _ => ⟨rfl, rfl⟩⟩⟩
  rw [if_neg h3]
  by_cases h4 : p.f0.toList = ([72, 101, 97, 100, 101, 114, 68, 105, 103, 101, 115, 116] : List UInt8)
  · rw [if_pos h4]
    exact fits_j0 k a p _ hv (by omega) (fun _ => Or.inl h4) h0 h1 h2 h3 (fun h => absurd (beq_iff_eq.mpr h4) (by rw [h]; decide)) (fun h => absurd (beq_iff_eq.mpr h4) (by rw [h]; decide))
  rw [if_neg h4]
  exact fits_j0 k a p _ hv (by omega) (fun h => Or.inr (beq_iff_eq.mp h)) h0 h1 h2 h3 (fun h => beq_eq_false_iff_ne.mp h) (fun _ => h4)
end Go.Proofs.YtclcnkmefldpiaaDoor.Pure
namespace Go.Proofs.YtclcnkmefldpiaaDoor.Rk
open Go.ChangeShapes Go.WideShapes Go.RowKit Go.Proofs.YtclcnkmefldpiaaDoorW.PrintWords
variable {P : Program}
def Opens (P : Program) (t : TypeId) {α : Type} (d : Kd α) (Q : α → Prop) : Prop :=
  ∀ (H : Type) (enc : TypeId × Value → H) (w : World) (base : Nat) (spare : Nat → Bool) (held : Bool) (fuel : Nat) (cs : List Value) (y : DataW H × List MemPlace),
    DataW.trod enc P w base spare held fuel t cs = some y → ∃ x, d.K w x cs ∧ Q x
theorem opens_int {t : TypeId} {k : IntKind} (ht : P.underlying t = some (.int k)) : Opens P t (Kd.int k) (fun n => (Lit.int k n).wf = true) := by
  intro H enc w base spare held fuel cs y h
  obtain ⟨n, rfl, _, hw⟩ := DataW.trod_int ht h
  exact ⟨n, rfl, hw⟩
theorem opens_bool {t : TypeId} (ht : P.underlying t = some .bool) : Opens P t Kd.bool (fun _ => True) := by
  intro H enc w base spare held fuel cs y h
  obtain ⟨n, rfl, _⟩ := DataW.trod_bool ht h
  exact ⟨n, rfl, trivial⟩
theorem opens_string {t : TypeId} (ht : P.underlying t = some .string) : Opens P t Kd.string (fun s => s.size ≤ 9223372036854775807) := by
  intro H enc w base spare held fuel cs y h
  obtain ⟨n, rfl, _, hs⟩ := DataW.trod_string ht h
  exact ⟨n, rfl, hs⟩
theorem add_add (a : Addr) (m n : Nat) : (a.add m).add n = a.add (m + n) := by
  unfold Addr.add
  by_cases hn : n = 0
  · simp [hn]
  · by_cases hm : m = 0
    · simp [hm]
    · simp [hm, hn]
      omega
theorem mapM_at {α β : Type} {f : α → Option β} : ∀ {l : List α} {r : List β}, l.mapM f = some r → ∀ (i : Nat) (a : α), l[i]? = some a → ∃ b, r[i]? = some b ∧ f a = some b
  | [], _, _, i, a, ha => by simp at ha
  | x :: l, r, h, i, a, ha => by
    simp only [List.mapM_cons, Option.bind_eq_bind, Option.bind_eq_some_iff, Option.pure_def, Option.some.injEq] at h
    obtain ⟨b, hb, r', hr', rfl⟩ := h
    cases i with
    | zero =>
      simp only [List.getElem?_cons_zero, Option.some.injEq] at ha
      subst ha
      exact ⟨b, rfl, hb⟩
    | succ i => exact mapM_at hr' i a (by simpa using ha)
theorem mapM_length {α β : Type} {f : α → Option β} : ∀ {l : List α} {r : List β}, l.mapM f = some r → r.length = l.length
  | [], r, h => by simp at h; subst h; rfl
  | x :: l, r, h => by
    simp only [List.mapM_cons, Option.bind_eq_bind, Option.bind_eq_some_iff, Option.pure_def, Option.some.injEq] at h
    obtain ⟨b, hb, r', hr', rfl⟩ := h
    simp [mapM_length hr']
theorem cells_get {w : World} {base : Nat} {a : Addr} {n : Nat} {cs : List Value} (h : w.cells? base a n = some cs) : cs.length = n ∧ ∀ i u, cs[i]? = some u → w.cell? (a.add i) = some u := by
  unfold World.cells? at h
  split at h
  · have hl := mapM_length h
    simp at hl
    refine ⟨hl, fun i u hu => ?_⟩
    have hi : i < n := by
      have := (List.getElem?_eq_some_iff.mp hu).1
      omega
    obtain ⟨b, hb, hf⟩ := mapM_at h i i (by simp [hi])
    rw [hu] at hb
    cases hb
    exact hf
  · cases h
theorem build_list {α : Type} {p : Nat → α → Prop} : ∀ n, (∀ i, i < n → ∃ x, p i x) → ∃ l : List α, l.length = n ∧ ∀ i x, l[i]? = some x → p i x
  | 0, _ => ⟨[], rfl, by simp⟩
  | n + 1, h => by
    obtain ⟨l, hl, hp⟩ := build_list n (fun i hi => h i (by omega))
    obtain ⟨x, hx⟩ := h n (by omega)
    refine ⟨l ++ [x], by simp [hl], fun i y hy => ?_⟩
    by_cases hi : i < n
    · rw [List.getElem?_append_left (by omega)] at hy
      exact hp i y hy
    · have : i = n := by
        have := (List.getElem?_eq_some_iff.mp hy).1
        simp at this
        omega
      subst this
      rw [List.getElem?_append_right (by omega)] at hy
      simp [hl] at hy
      subst hy
      exact hx
theorem opens_slice {t e : TypeId} {α : Type} {d : Kd α} {Q : α → Prop} (ht : P.underlying t = some (.slice e)) (hc : P.cellsOf e = d.sz) (ho : Opens P e d Q) :
    Opens P t (Kd.slice e d) (fun l => l.length ≤ 9223372036854775807 ∧ ∀ x ∈ l, Q x) := by
  intro H enc w base spare held fuel cs y h
  rcases DataW.trod_slice ht h with ⟨rfl, _⟩ | ⟨a, len, cap, elems, rest, n, _, rfl, _, hb, hl, hm, hlen, hel, _, _⟩
  · exact ⟨[], ⟨none, 0, rfl, Nat.le_refl _, rfl, by simp, fun h => absurd h (by simp)⟩, by simp, by simp⟩
  · have hx : ∀ i, i < len → ∃ x, (∃ c, c.length = d.sz ∧ d.K w x c ∧ ∀ j u, c[j]? = some u → w.cell? (a.add (i * d.sz + j)) = some u) ∧ Q x := by
      intro i hi
      have h1 := hel i hi
      rw [List.getElem?_eq_getElem (by omega)] at h1
      obtain ⟨cs', h3, h4⟩ := Option.bind_eq_some_iff.mp h1
      obtain ⟨x, h5, h6⟩ := ho _ _ _ _ _ _ _ _ _ h4
      obtain ⟨h7, h8⟩ := cells_get h3
      refine ⟨x, ⟨cs', h7.trans hc, h5, fun j u hu => ?_⟩, h6⟩
      have := h8 j u hu
      rw [add_add, hc] at this
      exact this
    obtain ⟨l, hll, hlp⟩ := build_list len hx
    have hm' : cap ≤ 9223372036854775807 := hm
    refine ⟨l, ⟨some a, cap, by rw [hll], by omega, rfl, by omega, fun _ => ⟨a, rfl, fun j p hp => (hlp j p hp).1⟩⟩, by omega, fun x hxl => ?_⟩
    obtain ⟨i, hi⟩ := List.getElem?_of_mem hxl
    exact (hlp i x hi).2
def Fits (P : Program) (l : List (TypeId × Nat)) (off : Nat) {α : Type} (d : Kd α) (Q : α → Prop) : Prop :=
  ∀ (H : Type) (enc : TypeId × Value → H) (w : World) (base : Nat) (spare : Nat → Bool) (held : Bool) (n : Nat) (cs : List Value), cs.length = off + d.sz →
    (∀ f, f ∈ l → ∃ y, DataW.trod enc P w base spare held n f.1 ((cs.drop f.2).take (P.cellsOf f.1)) = some y) → ∃ x, d.K w x (cs.drop off) ∧ Q x
theorem fits_one {t : TypeId} {off : Nat} {α : Type} {d : Kd α} {Q : α → Prop} (ho : Opens P t d Q) (hc : P.cellsOf t = d.sz) : Fits P [(t, off)] off d Q := by
  intro H enc w base spare held n cs hl h
  obtain ⟨y, hy⟩ := h (t, off) (by simp)
  rw [hc, List.take_of_length_le (by simp; omega)] at hy
  exact ho _ _ _ _ _ _ _ _ _ hy
theorem fits_cons {t : TypeId} {off : Nat} {l : List (TypeId × Nat)} {α β : Type} {a : Kd α} {b : Kd β} {Qa : α → Prop} {Qb : β → Prop} (ho : Opens P t a Qa) (hc : P.cellsOf t = a.sz) (hr : Fits P l (off + a.sz) b Qb) :
    Fits P ((t, off) :: l) off (Kd.pair a b) (fun x => Qa x.1 ∧ Qb x.2) := by
  intro H enc w base spare held n cs hl h
  obtain ⟨y, hy⟩ := h (t, off) (by simp)
  rw [hc] at hy
  obtain ⟨x, hx, qx⟩ := ho _ _ _ _ _ _ _ _ _ hy
  have hl' : cs.length = off + (a.sz + b.sz) := hl
  obtain ⟨z, hz, qz⟩ := hr _ enc w base spare held n cs (by omega) (fun f hf => h f (by simp [hf]))
  refine ⟨(x, z), ⟨_, _, ?_, hx, hz⟩, qx, qz⟩
  rw [← List.drop_drop, List.take_append_drop]
theorem opens_struct {t : TypeId} {fs : Array Field} {l : List (TypeId × Nat)} {α : Type} {d : Kd α} {Q : α → Prop} (ht : P.underlying t = some (.struct fs)) (hl : fs.toList.map (fun f => (f.type, f.offset)) = l) (hc : P.cellsOf t = d.sz)
    (h : Fits P l 0 d Q) : Opens P t d Q := by
  intro H enc w base spare held fuel cs y hy
  obtain ⟨xs, n, _, _, hlen, hxl, hf⟩ := DataW.trod_struct ht hy
  subst hl
  obtain ⟨x, hx, qx⟩ := h _ enc w base spare held n cs (by omega) (fun f hf' => by
    obtain ⟨g, hg, rfl⟩ := List.mem_map.mp hf'
    obtain ⟨i, hi⟩ := List.getElem?_of_mem hg
    rw [Array.getElem?_toList] at hi
    have h1 := hf i g hi
    have h2 : i < xs.length := by
      rw [hxl]
      exact (Array.getElem?_eq_some_iff.mp hi).1
    exact ⟨xs[i], by rw [h1]; exact List.getElem?_eq_getElem h2⟩)
  exact ⟨x, by simpa using hx, qx⟩
theorem opens_iso {t : TypeId} {α β : Type} {d : Kd α} {Q : α → Prop} {f : β → α} (g : α → β) (hg : ∀ x, f (g x) = x) (h : Opens P t d Q) : Opens P t (Kd.iso d f) (fun y => Q (f y)) := by
  intro H enc w base spare held fuel cs y hy
  obtain ⟨x, hx, qx⟩ := h _ _ _ _ _ _ _ _ _ hy
  refine ⟨g x, ?_, ?_⟩
  · show d.K w (f (g x)) cs
    rw [hg]
    exact hx
  · show Q (f (g x))
    rw [hg]
    exact qx
theorem arg {t : TypeId} {α : Type} {d : Kd α} {Q : α → Prop} (ho : Opens P t d Q) {H : Type} {enc : TypeId × Value → H} {W : World} {spare : Nat → Bool} {held : Bool} {v : Value} {y : DataW H} {p : List MemPlace}
    (h : DataW.Trod enc P W 0 spare held t v y p) : ∃ x, d.K W x v.cells.toList ∧ Q x := by
  obtain ⟨fuel, hf⟩ := h
  exact ho _ _ _ _ _ _ _ _ _ hf
theorem lt_of {t : TypeId} {H : Type} {enc : TypeId × Value → H} {W : World} {spare : Nat → Bool} {held : Bool} {v : Value} {y : DataW H} {p : List MemPlace}
    (h : DataW.Trod enc P W 0 spare held t v y p) : ∀ x ∈ p, x.block < W.heap.size := by
  obtain ⟨m, hm⟩ := h
  exact DataW.trod_lt m _ _ _ hm
theorem agg_of {cs : Array Value} {l : List Value} (h : (Value.agg cs).cells.toList = l) : cs = l.toArray := by
  subst h
  simp [Value.cells]
end Go.Proofs.YtclcnkmefldpiaaDoor.Rk
namespace Go.Proofs.YtclcnkmefldpiaaDoor.P
open Go.RowKit Go.Proofs.YtclcnkmefldpiaaDoorW.PrintWords
def Q23 (x : S23) : Prop := True ∧ True ∧ True ∧ True ∧ (Lit.int .i64 x.f4).wf = true ∧ (Lit.int .i64 x.f5).wf = true ∧ x.f6.size ≤ 9223372036854775807 ∧ x.f7.size ≤ 9223372036854775807
theorem o23 : Rk.Opens Tryd.prog 23 k23 Q23 :=
  Rk.opens_iso (fun p => ⟨p.1, p.2.1, p.2.2.1, p.2.2.2.1, p.2.2.2.2.1, p.2.2.2.2.2.1, p.2.2.2.2.2.2.1, p.2.2.2.2.2.2.2⟩) (fun _ => rfl) (Rk.opens_struct Tryd.underlying23 (l := [(4, 0), (4, 1), (4, 2), (4, 3), (3, 4), (3, 5), (9, 6), (9, 7)]) (by kernel_rfl) (by kernel_rfl) (Rk.fits_cons (Rk.opens_bool Tryd.underlying4) (by kernel_rfl) (Rk.fits_cons (Rk.opens_bool Tryd.underlying4) (by kernel_rfl) (Rk.fits_cons (Rk.opens_bool Tryd.underlying4) (by kernel_rfl) (Rk.fits_cons (Rk.opens_bool Tryd.underlying4) (by kernel_rfl) (Rk.fits_cons (Rk.opens_int Tryd.underlying3) (by kernel_rfl) (Rk.fits_cons (Rk.opens_int Tryd.underlying3) (by kernel_rfl) (Rk.fits_cons (Rk.opens_string Tryd.underlying9) (by kernel_rfl) (Rk.fits_one (Rk.opens_string Tryd.underlying9) (by kernel_rfl))))))))))
def Q45 (x : S45) : Prop := x.f0.size ≤ 9223372036854775807 ∧ x.f1.size ≤ 9223372036854775807
theorem o45 : Rk.Opens Tryd.prog 45 k45 Q45 :=
  Rk.opens_iso (fun p => ⟨p.1, p.2⟩) (fun _ => rfl) (Rk.opens_struct Tryd.underlying45 (l := [(9, 0), (9, 1)]) (by kernel_rfl) (by kernel_rfl) (Rk.fits_cons (Rk.opens_string Tryd.underlying9) (by kernel_rfl) (Rk.fits_one (Rk.opens_string Tryd.underlying9) (by kernel_rfl))))
end Go.Proofs.YtclcnkmefldpiaaDoor.P
