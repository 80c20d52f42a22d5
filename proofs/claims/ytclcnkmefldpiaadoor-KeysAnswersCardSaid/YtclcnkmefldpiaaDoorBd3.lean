-- joined by this session's wip/tools/pack.py: words of the kit's print, cut to what the claim names; functions printed by a patched copy of the printer; walks and lemmas of this session; Lean checks it
import Derived.Test.YtclcnkmefldpiaaDoorBd2
import Derived.WalkKit
import Derived.RegionTactic
import Derived.Deep.QuietTactic
import Derived.BigQuiet
import Derived.Maps.Own
import Derived.Maps.OwnOps
import Derived.Maps.Views
import Derived.Carry
import Derived.Lib.SliceRun
namespace Go.Proofs.YtclcnkmefldpiaaDoor.P
open Go.RowKit Go.Proofs.YtclcnkmefldpiaaDoorW.PrintWords Go.Proofs.YtclcnkmefldpiaaDoorW.PrintLast Go.Proofs.YtclcnkmefldpiaaDoorW.PrintMore
attribute [local go_sem] max2_int min2_int max_two min_two max_three min_three max_four min_four   -- for this text's walks alone
set_option linter.unusedVariables false
set_option linter.unusedSimpArgs false
set_option linter.unnecessarySimpa false
def keys_First.f  : Option (Bool × Bool × Bool × Bool × Int × Int × ByteArray × ByteArray) := some (false, false, true, false, 8192, 4096, (⟨#[]⟩ : ByteArray), (⟨#[]⟩ : ByteArray))
set_option maxHeartbeats 8000000 in
set_option maxRecDepth 100000 in
theorem keys_First.calls  (r1 : Bool) (r2 : Bool) (r3 : Bool) (r4 : Bool) (r5 : Int) (r6 : Int) (r7 : ByteArray) (r8 : ByteArray) (w : World) (h : keys_First.f  = some (r1, r2, r3, r4, r5, r6, r7, r8)) :
    Calls Tryd.prog 16 #[] w fun e w' => e = .returned (.agg #[.bool r1, .bool r2, .bool r3, .bool r4, .int .i64 r5, .int .i64 r6, .string r7, .string r8]) ∧ Below w.heap.size w w' := by
  have hu23 := Tryd.underlying23
  have HB := Aside0.mk (Below.refl w.heap.size w)
  have H : (some (false, false, true, false, 8192, 4096, (⟨#[]⟩ : ByteArray), (⟨#[]⟩ : ByteArray))) = some (r1, r2, r3, r4, r5, r6, r7, r8) := h
  clear h
  simp only [Option.some.injEq, Prod.mk.injEq] at H
  obtain ⟨rfl, rfl, rfl, rfl, rfl, rfl, rfl, rfl⟩ := H
  go_enter Tryd.func16, Tryd.ntmps16
  go_wp2_with (first | ((with_reducible refine gate_dst (N := 0) rfl ?_); refine box_event ?hg (N := 0) ?hd (cs := #[.bool false, .bool false, .bool false, .bool false, .int .i64 0, .int .i64 0, .string (⟨#[]⟩ : ByteArray), .string (⟨#[]⟩ : ByteArray)]) (t := 23) ?hr ?_; (case hd => rfl); (case hg => rfl); (case hr => first | (go_simp; done) | (go_simp; rfl)); intro gb123 hg w1 hbox hb; have n0_ := Aside0.mk (below_step (by repeat (first | (with_reducible first | exact HB.out | apply below_alloc | apply pw_below_drewN | apply below_drew1) | exact HB.out)) hb); have n1_ := Aside0.mk (hbox); have n2_ := Aside0.mk ((by rw [hg]; exact (below_size (by repeat (first | (with_reducible first | exact HB.out | apply below_alloc | apply pw_below_drewN | apply below_drew1) | exact HB.out))) : w.heap.size ≤ gb123)); have n3_ := Aside0.mk ((by rw [hg]; exact (below_size (by repeat (first | (with_reducible first | exact HB.out | apply below_alloc | apply pw_below_drewN | apply below_drew1) | exact HB.out))) : w.heap.size ≤ gb123)); clear HB; have HB := n0_; have BK123 := n1_; have GW123 := n2_; have GE123 := n3_; clear n0_ n1_ n2_ n3_; clear hb hbox hg; have hcz2_0 : w1.cell? ⟨gb123, 0, none⟩ = some (.bool false) := (blk_cell BK123.out 0).trans rfl; have hcz2_1 : w1.cell? ⟨gb123, 1, none⟩ = some (.bool false) := (blk_cell BK123.out 1).trans rfl; have hcz2_2 : w1.cell? ⟨gb123, 2, none⟩ = some (.bool false) := (blk_cell BK123.out 2).trans rfl; have hcz2_3 : w1.cell? ⟨gb123, 3, none⟩ = some (.bool false) := (blk_cell BK123.out 3).trans rfl; have hcz2_4 : w1.cell? ⟨gb123, 4, none⟩ = some (.int .i64 0) := (blk_cell BK123.out 4).trans rfl; have hcz2_5 : w1.cell? ⟨gb123, 5, none⟩ = some (.int .i64 0) := (blk_cell BK123.out 5).trans rfl; have hcz2_6 : w1.cell? ⟨gb123, 6, none⟩ = some (.string (⟨#[]⟩ : ByteArray)) := (blk_cell BK123.out 6).trans rfl; have hcz2_7 : w1.cell? ⟨gb123, 7, none⟩ = some (.string (⟨#[]⟩ : ByteArray)) := (blk_cell BK123.out 7).trans rfl; have hfz2_0 := blk_frozen BK123.out 0; have hfz2_1 := blk_frozen BK123.out 1; have hfz2_2 := blk_frozen BK123.out 2; have hfz2_3 := blk_frozen BK123.out 3; have hfz2_4 := blk_frozen BK123.out 4; have hfz2_5 := blk_frozen BK123.out 5; have hfz2_6 := blk_frozen BK123.out 6; have hfz2_7 := blk_frozen BK123.out 7))
  refine bodyPost_ret (results_cell_row rfl _ _ gb123 23 #[.bool false, .bool false, .bool true, .bool false, .int .i64 8192, .int .i64 4096, .string (⟨#[]⟩ : ByteArray), .string (⟨#[]⟩ : ByteArray)] (0, 0) _ rfl (by (with_reducible repeat (first | refine blk_drewN ?_ _ | refine blk_drew ?_ | refine blk_alloc ?_ _)); refine blk_put (cs := #[.bool false, .bool false, .bool true, .bool false, .int .i64 8192, .int .i64 4096, .string (⟨#[]⟩ : ByteArray), .string (⟨#[]⟩ : ByteArray)]) ?_ 7 _ rfl; (with_reducible repeat (first | refine blk_drewN ?_ _ | refine blk_drew ?_ | refine blk_alloc ?_ _)); refine blk_put (cs := #[.bool false, .bool false, .bool true, .bool false, .int .i64 8192, .int .i64 4096, .string (⟨#[]⟩ : ByteArray), .string (⟨#[]⟩ : ByteArray)]) ?_ 6 _ rfl; (with_reducible repeat (first | refine blk_drewN ?_ _ | refine blk_drew ?_ | refine blk_alloc ?_ _)); refine blk_put (cs := #[.bool false, .bool false, .bool true, .bool false, .int .i64 8192, .int .i64 0, .string (⟨#[]⟩ : ByteArray), .string (⟨#[]⟩ : ByteArray)]) ?_ 5 _ rfl; (with_reducible repeat (first | refine blk_drewN ?_ _ | refine blk_drew ?_ | refine blk_alloc ?_ _)); refine blk_put (cs := #[.bool false, .bool false, .bool true, .bool false, .int .i64 0, .int .i64 0, .string (⟨#[]⟩ : ByteArray), .string (⟨#[]⟩ : ByteArray)]) ?_ 4 _ rfl; (with_reducible repeat (first | refine blk_drewN ?_ _ | refine blk_drew ?_ | refine blk_alloc ?_ _)); refine blk_put (cs := #[.bool false, .bool false, .bool true, .bool false, .int .i64 0, .int .i64 0, .string (⟨#[]⟩ : ByteArray), .string (⟨#[]⟩ : ByteArray)]) ?_ 3 _ rfl; (with_reducible repeat (first | refine blk_drewN ?_ _ | refine blk_drew ?_ | refine blk_alloc ?_ _)); refine blk_put (cs := #[.bool false, .bool false, .bool false, .bool false, .int .i64 0, .int .i64 0, .string (⟨#[]⟩ : ByteArray), .string (⟨#[]⟩ : ByteArray)]) ?_ 2 _ rfl; (with_reducible repeat (first | refine blk_drewN ?_ _ | refine blk_drew ?_ | refine blk_alloc ?_ _)); refine blk_put (cs := #[.bool false, .bool false, .bool false, .bool false, .int .i64 0, .int .i64 0, .string (⟨#[]⟩ : ByteArray), .string (⟨#[]⟩ : ByteArray)]) ?_ 1 _ rfl; (with_reducible repeat (first | refine blk_drewN ?_ _ | refine blk_drew ?_ | refine blk_alloc ?_ _)); refine blk_put (cs := #[.bool false, .bool false, .bool false, .bool false, .int .i64 0, .int .i64 0, .string (⟨#[]⟩ : ByteArray), .string (⟨#[]⟩ : ByteArray)]) ?_ 0 _ rfl; (with_reducible repeat (first | refine blk_drewN ?_ _ | refine blk_drew ?_ | refine blk_alloc ?_ _)); exact BK123.out) Tryd.underlying23 rfl (by kernel_rfl)) rfl ?_
  exact ⟨by first | rfl | (simp [errW_none, errW_some] <;> rfl) | (simp [*, errW_none, errW_some] <;> rfl) | (simp [bt, *]; done) | (unfold bt; simp [*]; done), by repeat (first | (with_reducible first | exact HB.out | apply below_alloc | apply pw_below_drewN | apply below_drew1 | refine below_set ?_ GE123.out) | exact HB.out)⟩
def headgatelaw21_wakes.f  : Option (Bool) := (keys_First.f).bind fun bt124 => ((keys_Answer.f bt124.1 bt124.2.1 bt124.2.2.1 bt124.2.2.2.1 bt124.2.2.2.2.1 bt124.2.2.2.2.2.1 bt124.2.2.2.2.2.2.1 bt124.2.2.2.2.2.2.2 (([(⟨(⟨#[72, 101, 97, 100, 101, 114, 68, 105, 103, 101, 115, 116]⟩ : ByteArray), (⟨#[78, 111, 110, 101, 44, 67, 82, 67, 51, 50, 67]⟩ : ByteArray)⟩ : S45), (⟨(⟨#[77, 97, 120, 82, 101, 99, 118, 68, 97, 116, 97, 83, 101, 103, 109, 101, 110, 116, 76, 101, 110, 103, 116, 104]⟩ : ByteArray), (⟨#[53, 49, 50]⟩ : ByteArray)⟩ : S45)] : List (S45)))).bind fun bt135 => (if bt135.2.2.2.2.2.2.2.2.2 = 0 then (if bt135.1 = true then (some false) else (if bt135.2.2.2.2.1 = 512 then (if (bt135.2.2.2.2.2.2.2.2.1.length : Int) = 2 then (if 0 < (bt135.2.2.2.2.2.2.2.2.1.length : Int) then (if ((rd_T45 bt135.2.2.2.2.2.2.2.2.1 0).f1).toList = ([78, 111, 110, 101] : List UInt8) then (if 1 < (bt135.2.2.2.2.2.2.2.2.1.length : Int) then (if ((rd_T45 bt135.2.2.2.2.2.2.2.2.1 1).f1).toList = ([56, 49, 57, 50] : List UInt8) then (some (bt135.2.2.2.2.2.1 == 4096)) else (some false)) else (none)) else (some false)) else (none)) else (some false)) else (some false))) else (some false)))
set_option maxHeartbeats 8000000 in
set_option maxRecDepth 100000 in
theorem headgatelaw21_wakes.calls  (r : Bool) (w : World) (hG : Glob w) (h : headgatelaw21_wakes.f  = some r) :
  Calls Tryd.prog 9 #[] w fun e w' => e = .returned (.bool r) ∧ Below w.heap.size w w' := by
 have hu45 := Tryd.underlying45
 have hu23 := Tryd.underlying23
 have HG := Aside0.mk hG
 clear hG
 have HB := Aside0.mk (Below.refl w.heap.size w)
 have H : ((keys_First.f).bind fun bt124 => ((keys_Answer.f bt124.1 bt124.2.1 bt124.2.2.1 bt124.2.2.2.1 bt124.2.2.2.2.1 bt124.2.2.2.2.2.1 bt124.2.2.2.2.2.2.1 bt124.2.2.2.2.2.2.2 (([(⟨(⟨#[72, 101, 97, 100, 101, 114, 68, 105, 103, 101, 115, 116]⟩ : ByteArray), (⟨#[78, 111, 110, 101, 44, 67, 82, 67, 51, 50, 67]⟩ : ByteArray)⟩ : S45), (⟨(⟨#[77, 97, 120, 82, 101, 99, 118, 68, 97, 116, 97, 83, 101, 103, 109, 101, 110, 116, 76, 101, 110, 103, 116, 104]⟩ : ByteArray), (⟨#[53, 49, 50]⟩ : ByteArray)⟩ : S45)] : List (S45)))).bind fun bt135 => (if bt135.2.2.2.2.2.2.2.2.2 = 0 then (if bt135.1 = true then (some false) else (if bt135.2.2.2.2.1 = 512 then (if (bt135.2.2.2.2.2.2.2.2.1.length : Int) = 2 then (if 0 < (bt135.2.2.2.2.2.2.2.2.1.length : Int) then (if ((rd_T45 bt135.2.2.2.2.2.2.2.2.1 0).f1).toList = ([78, 111, 110, 101] : List UInt8) then (if 1 < (bt135.2.2.2.2.2.2.2.2.1.length : Int) then (if ((rd_T45 bt135.2.2.2.2.2.2.2.2.1 1).f1).toList = ([56, 49, 57, 50] : List UInt8) then (some (bt135.2.2.2.2.2.1 == 4096)) else (some false)) else (none)) else (some false)) else (none)) else (some false)) else (some false))) else (some false)))) = some r := h
 clear h
 replace H := Option.bind_eq_some_iff.mp H
 obtain ⟨⟨t124, t125, t126, t127, t128, t129, t130, t131⟩, A10, H⟩ := H
 try dsimp only at H
 have A1 := Aside0.mk A10
 clear A10
 obtain ⟨y132, hy132⟩ : ∃ y_ : List (S45), y_ = (([(⟨(⟨#[72, 101, 97, 100, 101, 114, 68, 105, 103, 101, 115, 116]⟩ : ByteArray), (⟨#[78, 111, 110, 101, 44, 67, 82, 67, 51, 50, 67]⟩ : ByteArray)⟩ : S45), (⟨(⟨#[77, 97, 120, 82, 101, 99, 118, 68, 97, 116, 97, 83, 101, 103, 109, 101, 110, 116, 76, 101, 110, 103, 116, 104]⟩ : ByteArray), (⟨#[53, 49, 50]⟩ : ByteArray)⟩ : S45)] : List (S45))) := ⟨_, rfl⟩
 replace H : ((keys_Answer.f t124 t125 t126 t127 t128 t129 t130 t131 y132).bind fun bt135 => (if bt135.2.2.2.2.2.2.2.2.2 = 0 then (if bt135.1 = true then (some false) else (if bt135.2.2.2.2.1 = 512 then (if (bt135.2.2.2.2.2.2.2.2.1.length : Int) = 2 then (if 0 < (bt135.2.2.2.2.2.2.2.2.1.length : Int) then (if ((rd_T45 bt135.2.2.2.2.2.2.2.2.1 0).f1).toList = ([78, 111, 110, 101] : List UInt8) then (if 1 < (bt135.2.2.2.2.2.2.2.2.1.length : Int) then (if ((rd_T45 bt135.2.2.2.2.2.2.2.2.1 1).f1).toList = ([56, 49, 57, 50] : List UInt8) then (some (bt135.2.2.2.2.2.1 == 4096)) else (some false)) else (none)) else (some false)) else (none)) else (some false)) else (some false))) else (some false))) = some r := by first | (rw [hy132]; with_reducible exact H) | (have H2_ := (Option.bind_some _ _).symm.trans H; rw [hy132]; with_reducible exact H2_) | (have H2_ := (Option.bind_some _ _).symm.trans H; with_reducible exact H2_) | with_reducible exact H | (rw [hy132]; exact H) | exact H
 have Ny132 := Aside0.mk hy132
 clear hy132
 replace H := Option.bind_eq_some_iff.mp H
 obtain ⟨⟨t135, t136, t137, t138, t139, t140, t141, t142, t143, t146⟩, A20, H⟩ := H
 try dsimp only at H
 have A2 := Aside0.mk A20
 clear A20
 refine neg_first (p := (t146 = 0)) (fun c3 => ?_) (fun c3 => ?_)
 ·rw [if_neg c3] at H
  have c3b0 : (t146 == 0) = false := beq_eq_false_iff_ne.mpr c3
  have c3b1 : (t146 != 0) = true := bne_iff_ne.mpr c3
  obtain rfl := Option.some.inj H
  go_enter Tryd.func9, Tryd.ntmps9
  go_wp2_with (first | ((with_reducible refine gate_callee (f := 16) rfl ?_); refine goesL_ (some 5) rfl rfl Tryd.func16 (by kernel_rfl) rfl #[] rfl (by (try simp only [List.map_toArray, List.map_cons, List.map_nil]); first | done | rfl | (simp only [List.length_drop, List.length_take]; rfl)) ?_; (with_reducible refine (keys_First.calls  t124 t125 t126 t127 t128 t129 t130 t131 _ A1.out).mono ?_); rintro e w57 ⟨rfl, hb⟩; refine ⟨_, rfl, ?_⟩; have n0_ := Aside0.mk (below_step (hb_ HB) hb); clear HB; have HB := n0_; clear n0_; (try clear hb); (try clear hb2); (try clear hk); (try clear hi)) | ((with_reducible refine gate_dst (N := 8) rfl ?_); (try (refine gate_guard (by rfl) ?_; dsimp only)); refine Kd.R_lit k45 _ 45 ?hg (N := 8) ?hd (xs := ([(⟨(⟨#[72, 101, 97, 100, 101, 114, 68, 105, 103, 101, 115, 116]⟩ : ByteArray), (⟨#[78, 111, 110, 101, 44, 67, 82, 67, 51, 50, 67]⟩ : ByteArray)⟩ : S45), (⟨(⟨#[77, 97, 120, 82, 101, 99, 118, 68, 97, 116, 97, 83, 101, 103, 109, 101, 110, 116, 76, 101, 110, 103, 116, 104]⟩ : ByteArray), (⟨#[53, 49, 50]⟩ : ByteArray)⟩ : S45)] : List (S45))) (inner := [.string (⟨#[72, 101, 97, 100, 101, 114, 68, 105, 103, 101, 115, 116]⟩ : ByteArray), .string (⟨#[78, 111, 110, 101, 44, 67, 82, 67, 51, 50, 67]⟩ : ByteArray), .string (⟨#[77, 97, 120, 82, 101, 99, 118, 68, 97, 116, 97, 83, 101, 103, 109, 101, 110, 116, 76, 101, 110, 103, 116, 104]⟩ : ByteArray), .string (⟨#[53, 49, 50]⟩ : ByteArray)]) (ok := fun _ => True) (okp := fun _ => True) ?hr ?hp (fun _ hk => hk) trivial (Below.refl _ _) (Nat.le_refl _) (by simp) ?_; (case hd => rfl); (case hg => rfl); (case hr => first | (go_simp; done) | (go_simp; rfl)); (case hp => exact (Reps.c2 (show Kd.M k45 _ _ _ (⟨(⟨#[72, 101, 97, 100, 101, 114, 68, 105, 103, 101, 115, 116]⟩ : ByteArray), (⟨#[78, 111, 110, 101, 44, 67, 82, 67, 51, 50, 67]⟩ : ByteArray)⟩ : S45) [.string (⟨#[72, 101, 97, 100, 101, 114, 68, 105, 103, 101, 115, 116]⟩ : ByteArray), .string (⟨#[78, 111, 110, 101, 44, 67, 82, 67, 51, 50, 67]⟩ : ByteArray)] from (k45_mkM _ _ _ (⟨(⟨#[72, 101, 97, 100, 101, 114, 68, 105, 103, 101, 115, 116]⟩ : ByteArray), (⟨#[78, 111, 110, 101, 44, 67, 82, 67, 51, 50, 67]⟩ : ByteArray)⟩ : S45) )) (Reps.c2 (show Kd.M k45 _ _ _ (⟨(⟨#[77, 97, 120, 82, 101, 99, 118, 68, 97, 116, 97, 83, 101, 103, 109, 101, 110, 116, 76, 101, 110, 103, 116, 104]⟩ : ByteArray), (⟨#[53, 49, 50]⟩ : ByteArray)⟩ : S45) [.string (⟨#[77, 97, 120, 82, 101, 99, 118, 68, 97, 116, 97, 83, 101, 103, 109, 101, 110, 116, 76, 101, 110, 103, 116, 104]⟩ : ByteArray), .string (⟨#[53, 49, 50]⟩ : ByteArray)] from (k45_mkM _ _ _ (⟨(⟨#[77, 97, 120, 82, 101, 99, 118, 68, 97, 116, 97, 83, 101, 103, 109, 101, 110, 116, 76, 101, 110, 103, 116, 104]⟩ : ByteArray), (⟨#[53, 49, 50]⟩ : ByteArray)⟩ : S45) )) (Reps.none _ _)))); intro v133 w58 ho59 hb hg_ hnew_; clear hg_ hnew_; (first | rw [← Ny132.out] at ho59 | (simp only [Int.reduceToNat] at ho59; rw [← Ny132.out] at ho59)); have n0_ := Aside0.mk (Kd.R_lower ho59 (below_size (hb_ HB))); have n1_ := Aside0.mk (below_step (hb_ HB) hb); clear HB; have HO134 := n0_; have HB := n1_; clear n0_ n1_; clear hb ho59; obtain ⟨Ao60, co60, eo60⟩ := Kd.R_slice HO134.out; subst eo60) | ((with_reducible refine gate_callee (f := 11) rfl ?_); refine goesL_ (some 9) rfl rfl Tryd.func11 (by kernel_rfl) rfl #[.agg #[.bool t124, .bool t125, .bool t126, .bool t127, .int .i64 t128, .int .i64 t129, .string t130, .string t131], .slice Ao60 y132.length co60] rfl (by (try simp only [List.map_toArray, List.map_cons, List.map_nil]); first | done | rfl | (simp only [List.length_drop, List.length_take]; rfl)) ?_; (with_reducible refine (keys_Answer.calls t124 t125 t126 t127 t128 t129 t130 t131 _ _ y132 t135 t136 t137 t138 t139 t140 t141 t142 t143 t146 _ ?side1 ?side2 ?side3 A2.out).mono ?_); (case side1 => repeat (first | exact (Kd.R_reads' HO134.out).2.2 | (with_reducible refine Kd.C_alloc ?_ _) | (with_reducible refine Kd.C_drewN ?_ _) | (with_reducible refine Kd.C_drew ?_))); (case side2 => exact (Kd.R_reads' HO134.out).2.1); (case side3 => first | ((refine Glob.keep HG.out ?_); (repeat (first | (with_reducible first | exact HB.out | apply below_alloc | apply pw_below_drewN | apply below_drew1) | exact HB.out)); done) | exact HG.out); rintro e w61 ⟨v144, rfl, ho0, hb⟩; refine ⟨_, rfl, ?_⟩; have n0_ := Aside0.mk (Kd.R_elder' (by (with_reducible repeat (first | apply Kd.R_alloc | apply Kd.R_drewN | apply Kd.R_drew)); exact HO134.out) (Kd.R_base ho0) hb); have n1_ := Aside0.mk (Kd.R_lower (Kd.R_new' ho0 (Kd.R_lt (by (with_reducible repeat (first | apply Kd.R_alloc | apply Kd.R_drewN | apply Kd.R_drew)); exact HO134.out))) (below_size (hb_ HB))); have n2_ := Aside0.mk (below_step (hb_ HB) hb); clear HO134; clear HB; have HO134 := n0_; have HO145 := n1_; have HB := n2_; clear n0_ n1_ n2_; (try clear hb); (try clear hb2); (try clear hk); (try clear hi); (try clear ho0)) | ((with_reducible refine gate_dst (N := 1) rfl ?_); (try (refine gate_guard (by rfl) ?_; dsimp only)); refine box_event ?hg (N := 1) ?hd (cs := #[.bool false, .bool false, .bool false, .bool false, .int .i64 0, .int .i64 0, .string (⟨#[]⟩ : ByteArray), .string (⟨#[]⟩ : ByteArray)]) (t := 23) ?hr ?_; (case hd => rfl); (case hg => rfl); (case hr => first | (go_simp; done) | (go_simp; rfl)); intro gb147 hg w62 hbox hb; have n0_ := Aside0.mk (Kd.R_below (by (with_reducible repeat (first | apply Kd.R_alloc | apply Kd.R_drewN | apply Kd.R_drew)); exact HO134.out) hb); have n1_ := Aside0.mk (Kd.R_below (by (with_reducible repeat (first | apply Kd.R_alloc | apply Kd.R_drewN | apply Kd.R_drew)); exact HO145.out) hb); have n2_ := Aside0.mk (below_step (hb_ HB) hb); have n3_ := Aside0.mk (hbox); have n4_ := Aside0.mk ((by rw [hg]; exact (below_size (hb_ HB)) : w.heap.size ≤ gb147)); have n5_ := Aside0.mk ((by rw [hg]; exact (below_size (hb_ HB)) : w.heap.size ≤ gb147)); clear HO134; clear HO145; clear HB; have HO134 := n0_; have HO145 := n1_; have HB := n2_; have BK147 := n3_; have GW147 := n4_; have GE147 := n5_; clear n0_ n1_ n2_ n3_ n4_ n5_; clear hb hbox hg; have hcz63_0 : w62.cell? ⟨gb147, 0, none⟩ = some (.bool false) := (blk_cell BK147.out 0).trans rfl; have hcz63_1 : w62.cell? ⟨gb147, 1, none⟩ = some (.bool false) := (blk_cell BK147.out 1).trans rfl; have hcz63_2 : w62.cell? ⟨gb147, 2, none⟩ = some (.bool false) := (blk_cell BK147.out 2).trans rfl; have hcz63_3 : w62.cell? ⟨gb147, 3, none⟩ = some (.bool false) := (blk_cell BK147.out 3).trans rfl; have hcz63_4 : w62.cell? ⟨gb147, 4, none⟩ = some (.int .i64 0) := (blk_cell BK147.out 4).trans rfl; have hcz63_5 : w62.cell? ⟨gb147, 5, none⟩ = some (.int .i64 0) := (blk_cell BK147.out 5).trans rfl; have hcz63_6 : w62.cell? ⟨gb147, 6, none⟩ = some (.string (⟨#[]⟩ : ByteArray)) := (blk_cell BK147.out 6).trans rfl; have hcz63_7 : w62.cell? ⟨gb147, 7, none⟩ = some (.string (⟨#[]⟩ : ByteArray)) := (blk_cell BK147.out 7).trans rfl; have hfz63_0 := blk_frozen BK147.out 0; have hfz63_1 := blk_frozen BK147.out 1; have hfz63_2 := blk_frozen BK147.out 2; have hfz63_3 := blk_frozen BK147.out 3; have hfz63_4 := blk_frozen BK147.out 4; have hfz63_5 := blk_frozen BK147.out 5; have hfz63_6 := blk_frozen BK147.out 6; have hfz63_7 := blk_frozen BK147.out 7))
  go_ret
  exact ⟨by first | rfl | (simp [errW_none, errW_some] <;> rfl) | (simp [*, errW_none, errW_some] <;> rfl) | (simp [bt, *]; done) | (unfold bt; simp [*]; done), by repeat (first | (with_reducible first | exact HB.out | apply below_alloc | apply pw_below_drewN | apply below_drew1 | refine below_set ?_ GE147.out) | exact HB.out)⟩
 rw [if_pos c3] at H
 have c3b0 : (t146 == 0) = true := beq_iff_eq.mpr c3
 have c3b1 : (t146 != 0) = false := bne_eq_false_iff_eq.mpr c3
 clear c3
 by_cases c4 : t135 = true
 ·subst c4
  have H1 := H
  rw [if_pos rfl] at H1
  clear H
  have H := H1
  clear H1
  obtain rfl := Option.some.inj H
  go_enter Tryd.func9, Tryd.ntmps9
  go_wp2_with (first | ((with_reducible refine gate_callee (f := 16) rfl ?_); refine goesL_ (some 5) rfl rfl Tryd.func16 (by kernel_rfl) rfl #[] rfl (by (try simp only [List.map_toArray, List.map_cons, List.map_nil]); first | done | rfl | (simp only [List.length_drop, List.length_take]; rfl)) ?_; (with_reducible refine (keys_First.calls  t124 t125 t126 t127 t128 t129 t130 t131 _ A1.out).mono ?_); rintro e w5 ⟨rfl, hb⟩; refine ⟨_, rfl, ?_⟩; have n0_ := Aside0.mk (below_step (hb_ HB) hb); clear HB; have HB := n0_; clear n0_; (try clear hb); (try clear hb2); (try clear hk); (try clear hi)) | ((with_reducible refine gate_dst (N := 8) rfl ?_); (try (refine gate_guard (by rfl) ?_; dsimp only)); refine Kd.R_lit k45 _ 45 ?hg (N := 8) ?hd (xs := ([(⟨(⟨#[72, 101, 97, 100, 101, 114, 68, 105, 103, 101, 115, 116]⟩ : ByteArray), (⟨#[78, 111, 110, 101, 44, 67, 82, 67, 51, 50, 67]⟩ : ByteArray)⟩ : S45), (⟨(⟨#[77, 97, 120, 82, 101, 99, 118, 68, 97, 116, 97, 83, 101, 103, 109, 101, 110, 116, 76, 101, 110, 103, 116, 104]⟩ : ByteArray), (⟨#[53, 49, 50]⟩ : ByteArray)⟩ : S45)] : List (S45))) (inner := [.string (⟨#[72, 101, 97, 100, 101, 114, 68, 105, 103, 101, 115, 116]⟩ : ByteArray), .string (⟨#[78, 111, 110, 101, 44, 67, 82, 67, 51, 50, 67]⟩ : ByteArray), .string (⟨#[77, 97, 120, 82, 101, 99, 118, 68, 97, 116, 97, 83, 101, 103, 109, 101, 110, 116, 76, 101, 110, 103, 116, 104]⟩ : ByteArray), .string (⟨#[53, 49, 50]⟩ : ByteArray)]) (ok := fun _ => True) (okp := fun _ => True) ?hr ?hp (fun _ hk => hk) trivial (Below.refl _ _) (Nat.le_refl _) (by simp) ?_; (case hd => rfl); (case hg => rfl); (case hr => first | (go_simp; done) | (go_simp; rfl)); (case hp => exact (Reps.c2 (show Kd.M k45 _ _ _ (⟨(⟨#[72, 101, 97, 100, 101, 114, 68, 105, 103, 101, 115, 116]⟩ : ByteArray), (⟨#[78, 111, 110, 101, 44, 67, 82, 67, 51, 50, 67]⟩ : ByteArray)⟩ : S45) [.string (⟨#[72, 101, 97, 100, 101, 114, 68, 105, 103, 101, 115, 116]⟩ : ByteArray), .string (⟨#[78, 111, 110, 101, 44, 67, 82, 67, 51, 50, 67]⟩ : ByteArray)] from (k45_mkM _ _ _ (⟨(⟨#[72, 101, 97, 100, 101, 114, 68, 105, 103, 101, 115, 116]⟩ : ByteArray), (⟨#[78, 111, 110, 101, 44, 67, 82, 67, 51, 50, 67]⟩ : ByteArray)⟩ : S45) )) (Reps.c2 (show Kd.M k45 _ _ _ (⟨(⟨#[77, 97, 120, 82, 101, 99, 118, 68, 97, 116, 97, 83, 101, 103, 109, 101, 110, 116, 76, 101, 110, 103, 116, 104]⟩ : ByteArray), (⟨#[53, 49, 50]⟩ : ByteArray)⟩ : S45) [.string (⟨#[77, 97, 120, 82, 101, 99, 118, 68, 97, 116, 97, 83, 101, 103, 109, 101, 110, 116, 76, 101, 110, 103, 116, 104]⟩ : ByteArray), .string (⟨#[53, 49, 50]⟩ : ByteArray)] from (k45_mkM _ _ _ (⟨(⟨#[77, 97, 120, 82, 101, 99, 118, 68, 97, 116, 97, 83, 101, 103, 109, 101, 110, 116, 76, 101, 110, 103, 116, 104]⟩ : ByteArray), (⟨#[53, 49, 50]⟩ : ByteArray)⟩ : S45) )) (Reps.none _ _)))); intro v133 w6 ho7 hb hg_ hnew_; clear hg_ hnew_; (first | rw [← Ny132.out] at ho7 | (simp only [Int.reduceToNat] at ho7; rw [← Ny132.out] at ho7)); have n0_ := Aside0.mk (Kd.R_lower ho7 (below_size (hb_ HB))); have n1_ := Aside0.mk (below_step (hb_ HB) hb); clear HB; have HO134 := n0_; have HB := n1_; clear n0_ n1_; clear hb ho7; obtain ⟨Ao8, co8, eo8⟩ := Kd.R_slice HO134.out; subst eo8) | ((with_reducible refine gate_callee (f := 11) rfl ?_); refine goesL_ (some 9) rfl rfl Tryd.func11 (by kernel_rfl) rfl #[.agg #[.bool t124, .bool t125, .bool t126, .bool t127, .int .i64 t128, .int .i64 t129, .string t130, .string t131], .slice Ao8 y132.length co8] rfl (by (try simp only [List.map_toArray, List.map_cons, List.map_nil]); first | done | rfl | (simp only [List.length_drop, List.length_take]; rfl)) ?_; (with_reducible refine (keys_Answer.calls t124 t125 t126 t127 t128 t129 t130 t131 _ _ y132 true t136 t137 t138 t139 t140 t141 t142 t143 t146 _ ?side1 ?side2 ?side3 A2.out).mono ?_); (case side1 => repeat (first | exact (Kd.R_reads' HO134.out).2.2 | (with_reducible refine Kd.C_alloc ?_ _) | (with_reducible refine Kd.C_drewN ?_ _) | (with_reducible refine Kd.C_drew ?_))); (case side2 => exact (Kd.R_reads' HO134.out).2.1); (case side3 => first | ((refine Glob.keep HG.out ?_); (repeat (first | (with_reducible first | exact HB.out | apply below_alloc | apply pw_below_drewN | apply below_drew1) | exact HB.out)); done) | exact HG.out); rintro e w9 ⟨v144, rfl, ho0, hb⟩; refine ⟨_, rfl, ?_⟩; have n0_ := Aside0.mk (Kd.R_elder' (by (with_reducible repeat (first | apply Kd.R_alloc | apply Kd.R_drewN | apply Kd.R_drew)); exact HO134.out) (Kd.R_base ho0) hb); have n1_ := Aside0.mk (Kd.R_lower (Kd.R_new' ho0 (Kd.R_lt (by (with_reducible repeat (first | apply Kd.R_alloc | apply Kd.R_drewN | apply Kd.R_drew)); exact HO134.out))) (below_size (hb_ HB))); have n2_ := Aside0.mk (below_step (hb_ HB) hb); clear HO134; clear HB; have HO134 := n0_; have HO145 := n1_; have HB := n2_; clear n0_ n1_ n2_; (try clear hb); (try clear hb2); (try clear hk); (try clear hi); (try clear ho0)) | ((with_reducible refine gate_dst (N := 1) rfl ?_); (try (refine gate_guard (by rfl) ?_; dsimp only)); refine box_event ?hg (N := 1) ?hd (cs := #[.bool false, .bool false, .bool false, .bool false, .int .i64 0, .int .i64 0, .string (⟨#[]⟩ : ByteArray), .string (⟨#[]⟩ : ByteArray)]) (t := 23) ?hr ?_; (case hd => rfl); (case hg => rfl); (case hr => first | (go_simp; done) | (go_simp; rfl)); intro gb147 hg w10 hbox hb; have n0_ := Aside0.mk (Kd.R_below (by (with_reducible repeat (first | apply Kd.R_alloc | apply Kd.R_drewN | apply Kd.R_drew)); exact HO134.out) hb); have n1_ := Aside0.mk (Kd.R_below (by (with_reducible repeat (first | apply Kd.R_alloc | apply Kd.R_drewN | apply Kd.R_drew)); exact HO145.out) hb); have n2_ := Aside0.mk (below_step (hb_ HB) hb); have n3_ := Aside0.mk (hbox); have n4_ := Aside0.mk ((by rw [hg]; exact (below_size (hb_ HB)) : w.heap.size ≤ gb147)); have n5_ := Aside0.mk ((by rw [hg]; exact (below_size (hb_ HB)) : w.heap.size ≤ gb147)); clear HO134; clear HO145; clear HB; have HO134 := n0_; have HO145 := n1_; have HB := n2_; have BK147 := n3_; have GW147 := n4_; have GE147 := n5_; clear n0_ n1_ n2_ n3_ n4_ n5_; clear hb hbox hg; have hcz11_0 : w10.cell? ⟨gb147, 0, none⟩ = some (.bool false) := (blk_cell BK147.out 0).trans rfl; have hcz11_1 : w10.cell? ⟨gb147, 1, none⟩ = some (.bool false) := (blk_cell BK147.out 1).trans rfl; have hcz11_2 : w10.cell? ⟨gb147, 2, none⟩ = some (.bool false) := (blk_cell BK147.out 2).trans rfl; have hcz11_3 : w10.cell? ⟨gb147, 3, none⟩ = some (.bool false) := (blk_cell BK147.out 3).trans rfl; have hcz11_4 : w10.cell? ⟨gb147, 4, none⟩ = some (.int .i64 0) := (blk_cell BK147.out 4).trans rfl; have hcz11_5 : w10.cell? ⟨gb147, 5, none⟩ = some (.int .i64 0) := (blk_cell BK147.out 5).trans rfl; have hcz11_6 : w10.cell? ⟨gb147, 6, none⟩ = some (.string (⟨#[]⟩ : ByteArray)) := (blk_cell BK147.out 6).trans rfl; have hcz11_7 : w10.cell? ⟨gb147, 7, none⟩ = some (.string (⟨#[]⟩ : ByteArray)) := (blk_cell BK147.out 7).trans rfl; have hfz11_0 := blk_frozen BK147.out 0; have hfz11_1 := blk_frozen BK147.out 1; have hfz11_2 := blk_frozen BK147.out 2; have hfz11_3 := blk_frozen BK147.out 3; have hfz11_4 := blk_frozen BK147.out 4; have hfz11_5 := blk_frozen BK147.out 5; have hfz11_6 := blk_frozen BK147.out 6; have hfz11_7 := blk_frozen BK147.out 7))
  go_ret
  exact ⟨by first | rfl | (simp [errW_none, errW_some] <;> rfl) | (simp [*, errW_none, errW_some] <;> rfl) | (simp [bt, *]; done) | (unfold bt; simp [*]; done), by repeat (first | (with_reducible first | exact HB.out | apply below_alloc | apply pw_below_drewN | apply below_drew1 | refine below_set ?_ GE147.out) | exact HB.out)⟩
 replace c4 := Bool.eq_false_iff.mpr c4
 subst c4
 have H1 := H
 rw [if_neg (show ¬ (false = true) by decide)] at H1
 clear H
 have H := H1
 clear H1
 refine neg_first (p := (t139 = 512)) (fun c12 => ?_) (fun c12 => ?_)
 ·rw [if_neg c12] at H
  have c12b0 : (t139 == 512) = false := beq_eq_false_iff_ne.mpr c12
  have c12b1 : (t139 != 512) = true := bne_iff_ne.mpr c12
  obtain rfl := Option.some.inj H
  go_enter Tryd.func9, Tryd.ntmps9
  go_wp2_with (first | ((with_reducible refine gate_callee (f := 16) rfl ?_); refine goesL_ (some 5) rfl rfl Tryd.func16 (by kernel_rfl) rfl #[] rfl (by (try simp only [List.map_toArray, List.map_cons, List.map_nil]); first | done | rfl | (simp only [List.length_drop, List.length_take]; rfl)) ?_; (with_reducible refine (keys_First.calls  t124 t125 t126 t127 t128 t129 t130 t131 _ A1.out).mono ?_); rintro e w50 ⟨rfl, hb⟩; refine ⟨_, rfl, ?_⟩; have n0_ := Aside0.mk (below_step (hb_ HB) hb); clear HB; have HB := n0_; clear n0_; (try clear hb); (try clear hb2); (try clear hk); (try clear hi)) | ((with_reducible refine gate_dst (N := 8) rfl ?_); (try (refine gate_guard (by rfl) ?_; dsimp only)); refine Kd.R_lit k45 _ 45 ?hg (N := 8) ?hd (xs := ([(⟨(⟨#[72, 101, 97, 100, 101, 114, 68, 105, 103, 101, 115, 116]⟩ : ByteArray), (⟨#[78, 111, 110, 101, 44, 67, 82, 67, 51, 50, 67]⟩ : ByteArray)⟩ : S45), (⟨(⟨#[77, 97, 120, 82, 101, 99, 118, 68, 97, 116, 97, 83, 101, 103, 109, 101, 110, 116, 76, 101, 110, 103, 116, 104]⟩ : ByteArray), (⟨#[53, 49, 50]⟩ : ByteArray)⟩ : S45)] : List (S45))) (inner := [.string (⟨#[72, 101, 97, 100, 101, 114, 68, 105, 103, 101, 115, 116]⟩ : ByteArray), .string (⟨#[78, 111, 110, 101, 44, 67, 82, 67, 51, 50, 67]⟩ : ByteArray), .string (⟨#[77, 97, 120, 82, 101, 99, 118, 68, 97, 116, 97, 83, 101, 103, 109, 101, 110, 116, 76, 101, 110, 103, 116, 104]⟩ : ByteArray), .string (⟨#[53, 49, 50]⟩ : ByteArray)]) (ok := fun _ => True) (okp := fun _ => True) ?hr ?hp (fun _ hk => hk) trivial (Below.refl _ _) (Nat.le_refl _) (by simp) ?_; (case hd => rfl); (case hg => rfl); (case hr => first | (go_simp; done) | (go_simp; rfl)); (case hp => exact (Reps.c2 (show Kd.M k45 _ _ _ (⟨(⟨#[72, 101, 97, 100, 101, 114, 68, 105, 103, 101, 115, 116]⟩ : ByteArray), (⟨#[78, 111, 110, 101, 44, 67, 82, 67, 51, 50, 67]⟩ : ByteArray)⟩ : S45) [.string (⟨#[72, 101, 97, 100, 101, 114, 68, 105, 103, 101, 115, 116]⟩ : ByteArray), .string (⟨#[78, 111, 110, 101, 44, 67, 82, 67, 51, 50, 67]⟩ : ByteArray)] from (k45_mkM _ _ _ (⟨(⟨#[72, 101, 97, 100, 101, 114, 68, 105, 103, 101, 115, 116]⟩ : ByteArray), (⟨#[78, 111, 110, 101, 44, 67, 82, 67, 51, 50, 67]⟩ : ByteArray)⟩ : S45) )) (Reps.c2 (show Kd.M k45 _ _ _ (⟨(⟨#[77, 97, 120, 82, 101, 99, 118, 68, 97, 116, 97, 83, 101, 103, 109, 101, 110, 116, 76, 101, 110, 103, 116, 104]⟩ : ByteArray), (⟨#[53, 49, 50]⟩ : ByteArray)⟩ : S45) [.string (⟨#[77, 97, 120, 82, 101, 99, 118, 68, 97, 116, 97, 83, 101, 103, 109, 101, 110, 116, 76, 101, 110, 103, 116, 104]⟩ : ByteArray), .string (⟨#[53, 49, 50]⟩ : ByteArray)] from (k45_mkM _ _ _ (⟨(⟨#[77, 97, 120, 82, 101, 99, 118, 68, 97, 116, 97, 83, 101, 103, 109, 101, 110, 116, 76, 101, 110, 103, 116, 104]⟩ : ByteArray), (⟨#[53, 49, 50]⟩ : ByteArray)⟩ : S45) )) (Reps.none _ _)))); intro v133 w51 ho52 hb hg_ hnew_; clear hg_ hnew_; (first | rw [← Ny132.out] at ho52 | (simp only [Int.reduceToNat] at ho52; rw [← Ny132.out] at ho52)); have n0_ := Aside0.mk (Kd.R_lower ho52 (below_size (hb_ HB))); have n1_ := Aside0.mk (below_step (hb_ HB) hb); clear HB; have HO134 := n0_; have HB := n1_; clear n0_ n1_; clear hb ho52; obtain ⟨Ao53, co53, eo53⟩ := Kd.R_slice HO134.out; subst eo53) | ((with_reducible refine gate_callee (f := 11) rfl ?_); refine goesL_ (some 9) rfl rfl Tryd.func11 (by kernel_rfl) rfl #[.agg #[.bool t124, .bool t125, .bool t126, .bool t127, .int .i64 t128, .int .i64 t129, .string t130, .string t131], .slice Ao53 y132.length co53] rfl (by (try simp only [List.map_toArray, List.map_cons, List.map_nil]); first | done | rfl | (simp only [List.length_drop, List.length_take]; rfl)) ?_; (with_reducible refine (keys_Answer.calls t124 t125 t126 t127 t128 t129 t130 t131 _ _ y132 false t136 t137 t138 t139 t140 t141 t142 t143 t146 _ ?side1 ?side2 ?side3 A2.out).mono ?_); (case side1 => repeat (first | exact (Kd.R_reads' HO134.out).2.2 | (with_reducible refine Kd.C_alloc ?_ _) | (with_reducible refine Kd.C_drewN ?_ _) | (with_reducible refine Kd.C_drew ?_))); (case side2 => exact (Kd.R_reads' HO134.out).2.1); (case side3 => first | ((refine Glob.keep HG.out ?_); (repeat (first | (with_reducible first | exact HB.out | apply below_alloc | apply pw_below_drewN | apply below_drew1) | exact HB.out)); done) | exact HG.out); rintro e w54 ⟨v144, rfl, ho0, hb⟩; refine ⟨_, rfl, ?_⟩; have n0_ := Aside0.mk (Kd.R_elder' (by (with_reducible repeat (first | apply Kd.R_alloc | apply Kd.R_drewN | apply Kd.R_drew)); exact HO134.out) (Kd.R_base ho0) hb); have n1_ := Aside0.mk (Kd.R_lower (Kd.R_new' ho0 (Kd.R_lt (by (with_reducible repeat (first | apply Kd.R_alloc | apply Kd.R_drewN | apply Kd.R_drew)); exact HO134.out))) (below_size (hb_ HB))); have n2_ := Aside0.mk (below_step (hb_ HB) hb); clear HO134; clear HB; have HO134 := n0_; have HO145 := n1_; have HB := n2_; clear n0_ n1_ n2_; (try clear hb); (try clear hb2); (try clear hk); (try clear hi); (try clear ho0)) | ((with_reducible refine gate_dst (N := 1) rfl ?_); (try (refine gate_guard (by rfl) ?_; dsimp only)); refine box_event ?hg (N := 1) ?hd (cs := #[.bool false, .bool false, .bool false, .bool false, .int .i64 0, .int .i64 0, .string (⟨#[]⟩ : ByteArray), .string (⟨#[]⟩ : ByteArray)]) (t := 23) ?hr ?_; (case hd => rfl); (case hg => rfl); (case hr => first | (go_simp; done) | (go_simp; rfl)); intro gb147 hg w55 hbox hb; have n0_ := Aside0.mk (Kd.R_below (by (with_reducible repeat (first | apply Kd.R_alloc | apply Kd.R_drewN | apply Kd.R_drew)); exact HO134.out) hb); have n1_ := Aside0.mk (Kd.R_below (by (with_reducible repeat (first | apply Kd.R_alloc | apply Kd.R_drewN | apply Kd.R_drew)); exact HO145.out) hb); have n2_ := Aside0.mk (below_step (hb_ HB) hb); have n3_ := Aside0.mk (hbox); have n4_ := Aside0.mk ((by rw [hg]; exact (below_size (hb_ HB)) : w.heap.size ≤ gb147)); have n5_ := Aside0.mk ((by rw [hg]; exact (below_size (hb_ HB)) : w.heap.size ≤ gb147)); clear HO134; clear HO145; clear HB; have HO134 := n0_; have HO145 := n1_; have HB := n2_; have BK147 := n3_; have GW147 := n4_; have GE147 := n5_; clear n0_ n1_ n2_ n3_ n4_ n5_; clear hb hbox hg; have hcz56_0 : w55.cell? ⟨gb147, 0, none⟩ = some (.bool false) := (blk_cell BK147.out 0).trans rfl; have hcz56_1 : w55.cell? ⟨gb147, 1, none⟩ = some (.bool false) := (blk_cell BK147.out 1).trans rfl; have hcz56_2 : w55.cell? ⟨gb147, 2, none⟩ = some (.bool false) := (blk_cell BK147.out 2).trans rfl; have hcz56_3 : w55.cell? ⟨gb147, 3, none⟩ = some (.bool false) := (blk_cell BK147.out 3).trans rfl; have hcz56_4 : w55.cell? ⟨gb147, 4, none⟩ = some (.int .i64 0) := (blk_cell BK147.out 4).trans rfl; have hcz56_5 : w55.cell? ⟨gb147, 5, none⟩ = some (.int .i64 0) := (blk_cell BK147.out 5).trans rfl; have hcz56_6 : w55.cell? ⟨gb147, 6, none⟩ = some (.string (⟨#[]⟩ : ByteArray)) := (blk_cell BK147.out 6).trans rfl; have hcz56_7 : w55.cell? ⟨gb147, 7, none⟩ = some (.string (⟨#[]⟩ : ByteArray)) := (blk_cell BK147.out 7).trans rfl; have hfz56_0 := blk_frozen BK147.out 0; have hfz56_1 := blk_frozen BK147.out 1; have hfz56_2 := blk_frozen BK147.out 2; have hfz56_3 := blk_frozen BK147.out 3; have hfz56_4 := blk_frozen BK147.out 4; have hfz56_5 := blk_frozen BK147.out 5; have hfz56_6 := blk_frozen BK147.out 6; have hfz56_7 := blk_frozen BK147.out 7))
  go_ret
  exact ⟨by first | rfl | (simp [errW_none, errW_some] <;> rfl) | (simp [*, errW_none, errW_some] <;> rfl) | (simp [bt, *]; done) | (unfold bt; simp [*]; done), by repeat (first | (with_reducible first | exact HB.out | apply below_alloc | apply pw_below_drewN | apply below_drew1 | refine below_set ?_ GE147.out) | exact HB.out)⟩
 rw [if_pos c12] at H
 have c12b0 : (t139 == 512) = true := beq_iff_eq.mpr c12
 have c12b1 : (t139 != 512) = false := bne_eq_false_iff_eq.mpr c12
 clear c12
 refine neg_first (p := ((t143.length : Int) = 2)) (fun c13 => ?_) (fun c13 => ?_)
 ·rw [if_neg c13] at H
  have c13b0 : ((t143.length : Int) == 2) = false := beq_eq_false_iff_ne.mpr c13
  have c13b1 : ((t143.length : Int) != 2) = true := bne_iff_ne.mpr c13
  obtain rfl := Option.some.inj H
  go_enter Tryd.func9, Tryd.ntmps9
  go_wp2_with (first | ((with_reducible refine gate_callee (f := 16) rfl ?_); refine goesL_ (some 5) rfl rfl Tryd.func16 (by kernel_rfl) rfl #[] rfl (by (try simp only [List.map_toArray, List.map_cons, List.map_nil]); first | done | rfl | (simp only [List.length_drop, List.length_take]; rfl)) ?_; (with_reducible refine (keys_First.calls  t124 t125 t126 t127 t128 t129 t130 t131 _ A1.out).mono ?_); rintro e w42 ⟨rfl, hb⟩; refine ⟨_, rfl, ?_⟩; have n0_ := Aside0.mk (below_step (hb_ HB) hb); clear HB; have HB := n0_; clear n0_; (try clear hb); (try clear hb2); (try clear hk); (try clear hi)) | ((with_reducible refine gate_dst (N := 8) rfl ?_); (try (refine gate_guard (by rfl) ?_; dsimp only)); refine Kd.R_lit k45 _ 45 ?hg (N := 8) ?hd (xs := ([(⟨(⟨#[72, 101, 97, 100, 101, 114, 68, 105, 103, 101, 115, 116]⟩ : ByteArray), (⟨#[78, 111, 110, 101, 44, 67, 82, 67, 51, 50, 67]⟩ : ByteArray)⟩ : S45), (⟨(⟨#[77, 97, 120, 82, 101, 99, 118, 68, 97, 116, 97, 83, 101, 103, 109, 101, 110, 116, 76, 101, 110, 103, 116, 104]⟩ : ByteArray), (⟨#[53, 49, 50]⟩ : ByteArray)⟩ : S45)] : List (S45))) (inner := [.string (⟨#[72, 101, 97, 100, 101, 114, 68, 105, 103, 101, 115, 116]⟩ : ByteArray), .string (⟨#[78, 111, 110, 101, 44, 67, 82, 67, 51, 50, 67]⟩ : ByteArray), .string (⟨#[77, 97, 120, 82, 101, 99, 118, 68, 97, 116, 97, 83, 101, 103, 109, 101, 110, 116, 76, 101, 110, 103, 116, 104]⟩ : ByteArray), .string (⟨#[53, 49, 50]⟩ : ByteArray)]) (ok := fun _ => True) (okp := fun _ => True) ?hr ?hp (fun _ hk => hk) trivial (Below.refl _ _) (Nat.le_refl _) (by simp) ?_; (case hd => rfl); (case hg => rfl); (case hr => first | (go_simp; done) | (go_simp; rfl)); (case hp => exact (Reps.c2 (show Kd.M k45 _ _ _ (⟨(⟨#[72, 101, 97, 100, 101, 114, 68, 105, 103, 101, 115, 116]⟩ : ByteArray), (⟨#[78, 111, 110, 101, 44, 67, 82, 67, 51, 50, 67]⟩ : ByteArray)⟩ : S45) [.string (⟨#[72, 101, 97, 100, 101, 114, 68, 105, 103, 101, 115, 116]⟩ : ByteArray), .string (⟨#[78, 111, 110, 101, 44, 67, 82, 67, 51, 50, 67]⟩ : ByteArray)] from (k45_mkM _ _ _ (⟨(⟨#[72, 101, 97, 100, 101, 114, 68, 105, 103, 101, 115, 116]⟩ : ByteArray), (⟨#[78, 111, 110, 101, 44, 67, 82, 67, 51, 50, 67]⟩ : ByteArray)⟩ : S45) )) (Reps.c2 (show Kd.M k45 _ _ _ (⟨(⟨#[77, 97, 120, 82, 101, 99, 118, 68, 97, 116, 97, 83, 101, 103, 109, 101, 110, 116, 76, 101, 110, 103, 116, 104]⟩ : ByteArray), (⟨#[53, 49, 50]⟩ : ByteArray)⟩ : S45) [.string (⟨#[77, 97, 120, 82, 101, 99, 118, 68, 97, 116, 97, 83, 101, 103, 109, 101, 110, 116, 76, 101, 110, 103, 116, 104]⟩ : ByteArray), .string (⟨#[53, 49, 50]⟩ : ByteArray)] from (k45_mkM _ _ _ (⟨(⟨#[77, 97, 120, 82, 101, 99, 118, 68, 97, 116, 97, 83, 101, 103, 109, 101, 110, 116, 76, 101, 110, 103, 116, 104]⟩ : ByteArray), (⟨#[53, 49, 50]⟩ : ByteArray)⟩ : S45) )) (Reps.none _ _)))); intro v133 w43 ho44 hb hg_ hnew_; clear hg_ hnew_; (first | rw [← Ny132.out] at ho44 | (simp only [Int.reduceToNat] at ho44; rw [← Ny132.out] at ho44)); have n0_ := Aside0.mk (Kd.R_lower ho44 (below_size (hb_ HB))); have n1_ := Aside0.mk (below_step (hb_ HB) hb); clear HB; have HO134 := n0_; have HB := n1_; clear n0_ n1_; clear hb ho44; obtain ⟨Ao45, co45, eo45⟩ := Kd.R_slice HO134.out; subst eo45) | ((with_reducible refine gate_callee (f := 11) rfl ?_); refine goesL_ (some 9) rfl rfl Tryd.func11 (by kernel_rfl) rfl #[.agg #[.bool t124, .bool t125, .bool t126, .bool t127, .int .i64 t128, .int .i64 t129, .string t130, .string t131], .slice Ao45 y132.length co45] rfl (by (try simp only [List.map_toArray, List.map_cons, List.map_nil]); first | done | rfl | (simp only [List.length_drop, List.length_take]; rfl)) ?_; (with_reducible refine (keys_Answer.calls t124 t125 t126 t127 t128 t129 t130 t131 _ _ y132 false t136 t137 t138 t139 t140 t141 t142 t143 t146 _ ?side1 ?side2 ?side3 A2.out).mono ?_); (case side1 => repeat (first | exact (Kd.R_reads' HO134.out).2.2 | (with_reducible refine Kd.C_alloc ?_ _) | (with_reducible refine Kd.C_drewN ?_ _) | (with_reducible refine Kd.C_drew ?_))); (case side2 => exact (Kd.R_reads' HO134.out).2.1); (case side3 => first | ((refine Glob.keep HG.out ?_); (repeat (first | (with_reducible first | exact HB.out | apply below_alloc | apply pw_below_drewN | apply below_drew1) | exact HB.out)); done) | exact HG.out); rintro e w46 ⟨v144, rfl, ho0, hb⟩; refine ⟨_, rfl, ?_⟩; have n0_ := Aside0.mk (Kd.R_elder' (by (with_reducible repeat (first | apply Kd.R_alloc | apply Kd.R_drewN | apply Kd.R_drew)); exact HO134.out) (Kd.R_base ho0) hb); have n1_ := Aside0.mk (Kd.R_lower (Kd.R_new' ho0 (Kd.R_lt (by (with_reducible repeat (first | apply Kd.R_alloc | apply Kd.R_drewN | apply Kd.R_drew)); exact HO134.out))) (below_size (hb_ HB))); have n2_ := Aside0.mk (below_step (hb_ HB) hb); clear HO134; clear HB; have HO134 := n0_; have HO145 := n1_; have HB := n2_; clear n0_ n1_ n2_; (try clear hb); (try clear hb2); (try clear hk); (try clear hi); (try clear ho0)) | ((with_reducible refine gate_dst (N := 1) rfl ?_); (try (refine gate_guard (by rfl) ?_; dsimp only)); refine box_event ?hg (N := 1) ?hd (cs := #[.bool false, .bool false, .bool false, .bool false, .int .i64 0, .int .i64 0, .string (⟨#[]⟩ : ByteArray), .string (⟨#[]⟩ : ByteArray)]) (t := 23) ?hr ?_; (case hd => rfl); (case hg => rfl); (case hr => first | (go_simp; done) | (go_simp; rfl)); intro gb147 hg w47 hbox hb; have n0_ := Aside0.mk (Kd.R_below (by (with_reducible repeat (first | apply Kd.R_alloc | apply Kd.R_drewN | apply Kd.R_drew)); exact HO134.out) hb); have n1_ := Aside0.mk (Kd.R_below (by (with_reducible repeat (first | apply Kd.R_alloc | apply Kd.R_drewN | apply Kd.R_drew)); exact HO145.out) hb); have n2_ := Aside0.mk (below_step (hb_ HB) hb); have n3_ := Aside0.mk (hbox); have n4_ := Aside0.mk ((by rw [hg]; exact (below_size (hb_ HB)) : w.heap.size ≤ gb147)); have n5_ := Aside0.mk ((by rw [hg]; exact (below_size (hb_ HB)) : w.heap.size ≤ gb147)); clear HO134; clear HO145; clear HB; have HO134 := n0_; have HO145 := n1_; have HB := n2_; have BK147 := n3_; have GW147 := n4_; have GE147 := n5_; clear n0_ n1_ n2_ n3_ n4_ n5_; clear hb hbox hg; have hcz48_0 : w47.cell? ⟨gb147, 0, none⟩ = some (.bool false) := (blk_cell BK147.out 0).trans rfl; have hcz48_1 : w47.cell? ⟨gb147, 1, none⟩ = some (.bool false) := (blk_cell BK147.out 1).trans rfl; have hcz48_2 : w47.cell? ⟨gb147, 2, none⟩ = some (.bool false) := (blk_cell BK147.out 2).trans rfl; have hcz48_3 : w47.cell? ⟨gb147, 3, none⟩ = some (.bool false) := (blk_cell BK147.out 3).trans rfl; have hcz48_4 : w47.cell? ⟨gb147, 4, none⟩ = some (.int .i64 0) := (blk_cell BK147.out 4).trans rfl; have hcz48_5 : w47.cell? ⟨gb147, 5, none⟩ = some (.int .i64 0) := (blk_cell BK147.out 5).trans rfl; have hcz48_6 : w47.cell? ⟨gb147, 6, none⟩ = some (.string (⟨#[]⟩ : ByteArray)) := (blk_cell BK147.out 6).trans rfl; have hcz48_7 : w47.cell? ⟨gb147, 7, none⟩ = some (.string (⟨#[]⟩ : ByteArray)) := (blk_cell BK147.out 7).trans rfl; have hfz48_0 := blk_frozen BK147.out 0; have hfz48_1 := blk_frozen BK147.out 1; have hfz48_2 := blk_frozen BK147.out 2; have hfz48_3 := blk_frozen BK147.out 3; have hfz48_4 := blk_frozen BK147.out 4; have hfz48_5 := blk_frozen BK147.out 5; have hfz48_6 := blk_frozen BK147.out 6; have hfz48_7 := blk_frozen BK147.out 7; obtain ⟨Ao49, co49, eo49⟩ := Kd.R_slice HO145.out; subst eo49))
  go_ret
  exact ⟨by first | rfl | (simp [errW_none, errW_some] <;> rfl) | (simp [*, errW_none, errW_some] <;> rfl) | (simp [bt, *]; done) | (unfold bt; simp [*]; done), by repeat (first | (with_reducible first | exact HB.out | apply below_alloc | apply pw_below_drewN | apply below_drew1 | refine below_set ?_ GE147.out) | exact HB.out)⟩
 rw [if_pos c13] at H
 have c13b0 : ((t143.length : Int) == 2) = true := beq_iff_eq.mpr c13
 have c13b1 : ((t143.length : Int) != 2) = false := bne_eq_false_iff_eq.mpr c13
 clear c13
 refine neg_first (p := (0 < (t143.length : Int))) (fun c14 => ?_) (fun c14 => ?_)
 ·rw [if_neg c14] at H
  exact absurd H (by simp)
 rw [if_pos c14] at H
 have c14b0 : decide (0 < (t143.length : Int)) = true := decide_eq_true c14
 have c14b1 : decide (0 < t143.length) = true := decide_eq_true (by omega)
 clear c14
 refine neg_first (p := (((rd_T45 t143 0).f1).toList = ([78, 111, 110, 101] : List UInt8))) (fun c15 => ?_) (fun c15 => ?_)
 ·rw [if_neg c15] at H
  have c15b0 : (((rd_T45 t143 0).f1).toList == ([78, 111, 110, 101] : List UInt8)) = false := beq_eq_false_iff_ne.mpr c15
  have c15b1 : (((rd_T45 t143 0).f1).toList != ([78, 111, 110, 101] : List UInt8)) = true := bne_iff_ne.mpr c15
  obtain rfl := Option.some.inj H
  go_enter Tryd.func9, Tryd.ntmps9
  go_wp2_with (first | ((with_reducible refine gate_callee (f := 16) rfl ?_); refine goesL_ (some 5) rfl rfl Tryd.func16 (by kernel_rfl) rfl #[] rfl (by (try simp only [List.map_toArray, List.map_cons, List.map_nil]); first | done | rfl | (simp only [List.length_drop, List.length_take]; rfl)) ?_; (with_reducible refine (keys_First.calls  t124 t125 t126 t127 t128 t129 t130 t131 _ A1.out).mono ?_); rintro e w34 ⟨rfl, hb⟩; refine ⟨_, rfl, ?_⟩; have n0_ := Aside0.mk (below_step (hb_ HB) hb); clear HB; have HB := n0_; clear n0_; (try clear hb); (try clear hb2); (try clear hk); (try clear hi)) | ((with_reducible refine gate_dst (N := 8) rfl ?_); (try (refine gate_guard (by rfl) ?_; dsimp only)); refine Kd.R_lit k45 _ 45 ?hg (N := 8) ?hd (xs := ([(⟨(⟨#[72, 101, 97, 100, 101, 114, 68, 105, 103, 101, 115, 116]⟩ : ByteArray), (⟨#[78, 111, 110, 101, 44, 67, 82, 67, 51, 50, 67]⟩ : ByteArray)⟩ : S45), (⟨(⟨#[77, 97, 120, 82, 101, 99, 118, 68, 97, 116, 97, 83, 101, 103, 109, 101, 110, 116, 76, 101, 110, 103, 116, 104]⟩ : ByteArray), (⟨#[53, 49, 50]⟩ : ByteArray)⟩ : S45)] : List (S45))) (inner := [.string (⟨#[72, 101, 97, 100, 101, 114, 68, 105, 103, 101, 115, 116]⟩ : ByteArray), .string (⟨#[78, 111, 110, 101, 44, 67, 82, 67, 51, 50, 67]⟩ : ByteArray), .string (⟨#[77, 97, 120, 82, 101, 99, 118, 68, 97, 116, 97, 83, 101, 103, 109, 101, 110, 116, 76, 101, 110, 103, 116, 104]⟩ : ByteArray), .string (⟨#[53, 49, 50]⟩ : ByteArray)]) (ok := fun _ => True) (okp := fun _ => True) ?hr ?hp (fun _ hk => hk) trivial (Below.refl _ _) (Nat.le_refl _) (by simp) ?_; (case hd => rfl); (case hg => rfl); (case hr => first | (go_simp; done) | (go_simp; rfl)); (case hp => exact (Reps.c2 (show Kd.M k45 _ _ _ (⟨(⟨#[72, 101, 97, 100, 101, 114, 68, 105, 103, 101, 115, 116]⟩ : ByteArray), (⟨#[78, 111, 110, 101, 44, 67, 82, 67, 51, 50, 67]⟩ : ByteArray)⟩ : S45) [.string (⟨#[72, 101, 97, 100, 101, 114, 68, 105, 103, 101, 115, 116]⟩ : ByteArray), .string (⟨#[78, 111, 110, 101, 44, 67, 82, 67, 51, 50, 67]⟩ : ByteArray)] from (k45_mkM _ _ _ (⟨(⟨#[72, 101, 97, 100, 101, 114, 68, 105, 103, 101, 115, 116]⟩ : ByteArray), (⟨#[78, 111, 110, 101, 44, 67, 82, 67, 51, 50, 67]⟩ : ByteArray)⟩ : S45) )) (Reps.c2 (show Kd.M k45 _ _ _ (⟨(⟨#[77, 97, 120, 82, 101, 99, 118, 68, 97, 116, 97, 83, 101, 103, 109, 101, 110, 116, 76, 101, 110, 103, 116, 104]⟩ : ByteArray), (⟨#[53, 49, 50]⟩ : ByteArray)⟩ : S45) [.string (⟨#[77, 97, 120, 82, 101, 99, 118, 68, 97, 116, 97, 83, 101, 103, 109, 101, 110, 116, 76, 101, 110, 103, 116, 104]⟩ : ByteArray), .string (⟨#[53, 49, 50]⟩ : ByteArray)] from (k45_mkM _ _ _ (⟨(⟨#[77, 97, 120, 82, 101, 99, 118, 68, 97, 116, 97, 83, 101, 103, 109, 101, 110, 116, 76, 101, 110, 103, 116, 104]⟩ : ByteArray), (⟨#[53, 49, 50]⟩ : ByteArray)⟩ : S45) )) (Reps.none _ _)))); intro v133 w35 ho36 hb hg_ hnew_; clear hg_ hnew_; (first | rw [← Ny132.out] at ho36 | (simp only [Int.reduceToNat] at ho36; rw [← Ny132.out] at ho36)); have n0_ := Aside0.mk (Kd.R_lower ho36 (below_size (hb_ HB))); have n1_ := Aside0.mk (below_step (hb_ HB) hb); clear HB; have HO134 := n0_; have HB := n1_; clear n0_ n1_; clear hb ho36; obtain ⟨Ao37, co37, eo37⟩ := Kd.R_slice HO134.out; subst eo37) | ((with_reducible refine gate_callee (f := 11) rfl ?_); refine goesL_ (some 9) rfl rfl Tryd.func11 (by kernel_rfl) rfl #[.agg #[.bool t124, .bool t125, .bool t126, .bool t127, .int .i64 t128, .int .i64 t129, .string t130, .string t131], .slice Ao37 y132.length co37] rfl (by (try simp only [List.map_toArray, List.map_cons, List.map_nil]); first | done | rfl | (simp only [List.length_drop, List.length_take]; rfl)) ?_; (with_reducible refine (keys_Answer.calls t124 t125 t126 t127 t128 t129 t130 t131 _ _ y132 false t136 t137 t138 t139 t140 t141 t142 t143 t146 _ ?side1 ?side2 ?side3 A2.out).mono ?_); (case side1 => repeat (first | exact (Kd.R_reads' HO134.out).2.2 | (with_reducible refine Kd.C_alloc ?_ _) | (with_reducible refine Kd.C_drewN ?_ _) | (with_reducible refine Kd.C_drew ?_))); (case side2 => exact (Kd.R_reads' HO134.out).2.1); (case side3 => first | ((refine Glob.keep HG.out ?_); (repeat (first | (with_reducible first | exact HB.out | apply below_alloc | apply pw_below_drewN | apply below_drew1) | exact HB.out)); done) | exact HG.out); rintro e w38 ⟨v144, rfl, ho0, hb⟩; refine ⟨_, rfl, ?_⟩; have n0_ := Aside0.mk (Kd.R_elder' (by (with_reducible repeat (first | apply Kd.R_alloc | apply Kd.R_drewN | apply Kd.R_drew)); exact HO134.out) (Kd.R_base ho0) hb); have n1_ := Aside0.mk (Kd.R_lower (Kd.R_new' ho0 (Kd.R_lt (by (with_reducible repeat (first | apply Kd.R_alloc | apply Kd.R_drewN | apply Kd.R_drew)); exact HO134.out))) (below_size (hb_ HB))); have n2_ := Aside0.mk (below_step (hb_ HB) hb); clear HO134; clear HB; have HO134 := n0_; have HO145 := n1_; have HB := n2_; clear n0_ n1_ n2_; (try clear hb); (try clear hb2); (try clear hk); (try clear hi); (try clear ho0)) | ((with_reducible refine gate_dst (N := 1) rfl ?_); (try (refine gate_guard (by rfl) ?_; dsimp only)); refine box_event ?hg (N := 1) ?hd (cs := #[.bool false, .bool false, .bool false, .bool false, .int .i64 0, .int .i64 0, .string (⟨#[]⟩ : ByteArray), .string (⟨#[]⟩ : ByteArray)]) (t := 23) ?hr ?_; (case hd => rfl); (case hg => rfl); (case hr => first | (go_simp; done) | (go_simp; rfl)); intro gb147 hg w39 hbox hb; have n0_ := Aside0.mk (Kd.R_below (by (with_reducible repeat (first | apply Kd.R_alloc | apply Kd.R_drewN | apply Kd.R_drew)); exact HO134.out) hb); have n1_ := Aside0.mk (Kd.R_below (by (with_reducible repeat (first | apply Kd.R_alloc | apply Kd.R_drewN | apply Kd.R_drew)); exact HO145.out) hb); have n2_ := Aside0.mk (below_step (hb_ HB) hb); have n3_ := Aside0.mk (hbox); have n4_ := Aside0.mk ((by rw [hg]; exact (below_size (hb_ HB)) : w.heap.size ≤ gb147)); have n5_ := Aside0.mk ((by rw [hg]; exact (below_size (hb_ HB)) : w.heap.size ≤ gb147)); clear HO134; clear HO145; clear HB; have HO134 := n0_; have HO145 := n1_; have HB := n2_; have BK147 := n3_; have GW147 := n4_; have GE147 := n5_; clear n0_ n1_ n2_ n3_ n4_ n5_; clear hb hbox hg; have hcz40_0 : w39.cell? ⟨gb147, 0, none⟩ = some (.bool false) := (blk_cell BK147.out 0).trans rfl; have hcz40_1 : w39.cell? ⟨gb147, 1, none⟩ = some (.bool false) := (blk_cell BK147.out 1).trans rfl; have hcz40_2 : w39.cell? ⟨gb147, 2, none⟩ = some (.bool false) := (blk_cell BK147.out 2).trans rfl; have hcz40_3 : w39.cell? ⟨gb147, 3, none⟩ = some (.bool false) := (blk_cell BK147.out 3).trans rfl; have hcz40_4 : w39.cell? ⟨gb147, 4, none⟩ = some (.int .i64 0) := (blk_cell BK147.out 4).trans rfl; have hcz40_5 : w39.cell? ⟨gb147, 5, none⟩ = some (.int .i64 0) := (blk_cell BK147.out 5).trans rfl; have hcz40_6 : w39.cell? ⟨gb147, 6, none⟩ = some (.string (⟨#[]⟩ : ByteArray)) := (blk_cell BK147.out 6).trans rfl; have hcz40_7 : w39.cell? ⟨gb147, 7, none⟩ = some (.string (⟨#[]⟩ : ByteArray)) := (blk_cell BK147.out 7).trans rfl; have hfz40_0 := blk_frozen BK147.out 0; have hfz40_1 := blk_frozen BK147.out 1; have hfz40_2 := blk_frozen BK147.out 2; have hfz40_3 := blk_frozen BK147.out 3; have hfz40_4 := blk_frozen BK147.out 4; have hfz40_5 := blk_frozen BK147.out 5; have hfz40_6 := blk_frozen BK147.out 6; have hfz40_7 := blk_frozen BK147.out 7; obtain ⟨Ao41, co41, eo41⟩ := Kd.R_slice HO145.out; subst eo41; have p148 : 0 ≤ (0 : Int) := (by omega); have q148 : 0 < (t143.length : Int) := of_decide_eq_true (by first | (with_reducible assumption) | assumption); obtain ⟨ad148, e148, hx148_0, hx148_1⟩ := at_T45 (Kd.R_reads' HO145.out).2.2 0 p148 q148; cases e148; have qi148 : (0 < t143.length) = True := eq_true (by omega); (try rw [show ((0 : Int)).toNat = 0 from rfl] at hx148_0); (try rw [show 0 * 2 = 0 from rfl] at hx148_0); (try rw [Addr.add_zero'] at hx148_0); (try rw [show ((0 : Int)).toNat = 0 from rfl] at hx148_1); (try rw [show 0 * 2 = 0 from rfl] at hx148_1); (try rw [Addr.add_zero'] at hx148_1); have hn148_0 : ad148.block ≠ gb147 := Kd.own_blk (by first | exact Kd.R_ne HO145.out BK147.out (by decide) | exact (fun e_ => (HO145.out.1 _ e_.symm).2 rfl)); have hn148_1 : ad148.block ≠ gb147 := Kd.own_blk (by first | exact Kd.R_ne HO145.out BK147.out (by decide) | exact (fun e_ => (HO145.out.1 _ e_.symm).2 rfl)); have hn148_2 : ad148.block ≠ gb147 := Kd.own_blk (by first | exact Kd.R_ne HO145.out BK147.out (by decide) | exact (fun e_ => (HO145.out.1 _ e_.symm).2 rfl)); have hn148_3 : ad148.block ≠ gb147 := Kd.own_blk (by first | exact Kd.R_ne HO145.out BK147.out (by decide) | exact (fun e_ => (HO145.out.1 _ e_.symm).2 rfl)); have hn148_4 : ad148.block ≠ gb147 := Kd.own_blk (by first | exact Kd.R_ne HO145.out BK147.out (by decide) | exact (fun e_ => (HO145.out.1 _ e_.symm).2 rfl)); have hn148_5 : ad148.block ≠ gb147 := Kd.own_blk (by first | exact Kd.R_ne HO145.out BK147.out (by decide) | exact (fun e_ => (HO145.out.1 _ e_.symm).2 rfl)); have hn148_6 : ad148.block ≠ gb147 := Kd.own_blk (by first | exact Kd.R_ne HO145.out BK147.out (by decide) | exact (fun e_ => (HO145.out.1 _ e_.symm).2 rfl)); have hn148_7 : ad148.block ≠ gb147 := Kd.own_blk (by first | exact Kd.R_ne HO145.out BK147.out (by decide) | exact (fun e_ => (HO145.out.1 _ e_.symm).2 rfl)); replace hx148_0 := (cell_far (p := ⟨gb147, 0, none⟩) (by first | (rw [add_block]; exact hn148_0) | (show (Addr.add _ _).block ≠ _; rw [add_block]; exact hn148_0) | exact hn148_0) (.bool false)).trans hx148_0; replace hx148_1 := (cell_far (p := ⟨gb147, 0, none⟩) (by first | (rw [add_block]; exact hn148_0) | (show (Addr.add _ _).block ≠ _; rw [add_block]; exact hn148_0) | exact hn148_0) (.bool false)).trans hx148_1; replace hx148_0 := (cell_far (p := ⟨gb147, 1, none⟩) (by first | (rw [add_block]; exact hn148_1) | (show (Addr.add _ _).block ≠ _; rw [add_block]; exact hn148_1) | exact hn148_1) (.bool t136)).trans hx148_0; replace hx148_1 := (cell_far (p := ⟨gb147, 1, none⟩) (by first | (rw [add_block]; exact hn148_1) | (show (Addr.add _ _).block ≠ _; rw [add_block]; exact hn148_1) | exact hn148_1) (.bool t136)).trans hx148_1; replace hx148_0 := (cell_far (p := ⟨gb147, 2, none⟩) (by first | (rw [add_block]; exact hn148_2) | (show (Addr.add _ _).block ≠ _; rw [add_block]; exact hn148_2) | exact hn148_2) (.bool t137)).trans hx148_0; replace hx148_1 := (cell_far (p := ⟨gb147, 2, none⟩) (by first | (rw [add_block]; exact hn148_2) | (show (Addr.add _ _).block ≠ _; rw [add_block]; exact hn148_2) | exact hn148_2) (.bool t137)).trans hx148_1; replace hx148_0 := (cell_far (p := ⟨gb147, 3, none⟩) (by first | (rw [add_block]; exact hn148_3) | (show (Addr.add _ _).block ≠ _; rw [add_block]; exact hn148_3) | exact hn148_3) (.bool t138)).trans hx148_0; replace hx148_1 := (cell_far (p := ⟨gb147, 3, none⟩) (by first | (rw [add_block]; exact hn148_3) | (show (Addr.add _ _).block ≠ _; rw [add_block]; exact hn148_3) | exact hn148_3) (.bool t138)).trans hx148_1; replace hx148_0 := (cell_far (p := ⟨gb147, 4, none⟩) (by first | (rw [add_block]; exact hn148_4) | (show (Addr.add _ _).block ≠ _; rw [add_block]; exact hn148_4) | exact hn148_4) (.int .i64 t139)).trans hx148_0; replace hx148_1 := (cell_far (p := ⟨gb147, 4, none⟩) (by first | (rw [add_block]; exact hn148_4) | (show (Addr.add _ _).block ≠ _; rw [add_block]; exact hn148_4) | exact hn148_4) (.int .i64 t139)).trans hx148_1; replace hx148_0 := (cell_far (p := ⟨gb147, 5, none⟩) (by first | (rw [add_block]; exact hn148_5) | (show (Addr.add _ _).block ≠ _; rw [add_block]; exact hn148_5) | exact hn148_5) (.int .i64 t140)).trans hx148_0; replace hx148_1 := (cell_far (p := ⟨gb147, 5, none⟩) (by first | (rw [add_block]; exact hn148_5) | (show (Addr.add _ _).block ≠ _; rw [add_block]; exact hn148_5) | exact hn148_5) (.int .i64 t140)).trans hx148_1; replace hx148_0 := (cell_far (p := ⟨gb147, 6, none⟩) (by first | (rw [add_block]; exact hn148_6) | (show (Addr.add _ _).block ≠ _; rw [add_block]; exact hn148_6) | exact hn148_6) (.string t141)).trans hx148_0; replace hx148_1 := (cell_far (p := ⟨gb147, 6, none⟩) (by first | (rw [add_block]; exact hn148_6) | (show (Addr.add _ _).block ≠ _; rw [add_block]; exact hn148_6) | exact hn148_6) (.string t141)).trans hx148_1; replace hx148_0 := (cell_far (p := ⟨gb147, 7, none⟩) (by first | (rw [add_block]; exact hn148_7) | (show (Addr.add _ _).block ≠ _; rw [add_block]; exact hn148_7) | exact hn148_7) (.string t142)).trans hx148_0; replace hx148_1 := (cell_far (p := ⟨gb147, 7, none⟩) (by first | (rw [add_block]; exact hn148_7) | (show (Addr.add _ _).block ≠ _; rw [add_block]; exact hn148_7) | exact hn148_7) (.string t142)).trans hx148_1; clear hn148_0; clear hn148_1; clear hn148_2; clear hn148_3; clear hn148_4; clear hn148_5; clear hn148_6; clear hn148_7; replace p148 := eq_true p148; replace q148 := eq_true q148))
  go_ret
  exact ⟨by first | rfl | (simp [errW_none, errW_some] <;> rfl) | (simp [*, errW_none, errW_some] <;> rfl) | (simp [bt, *]; done) | (unfold bt; simp [*]; done), by repeat (first | (with_reducible first | exact HB.out | apply below_alloc | apply pw_below_drewN | apply below_drew1 | refine below_set ?_ GE147.out) | exact HB.out)⟩
 rw [if_pos c15] at H
 have c15b0 : (((rd_T45 t143 0).f1).toList == ([78, 111, 110, 101] : List UInt8)) = true := beq_iff_eq.mpr c15
 have c15b1 : (((rd_T45 t143 0).f1).toList != ([78, 111, 110, 101] : List UInt8)) = false := bne_eq_false_iff_eq.mpr c15
 clear c15
 refine neg_first (p := (1 < (t143.length : Int))) (fun c16 => ?_) (fun c16 => ?_)
 ·rw [if_neg c16] at H
  exact absurd H (by simp)
 rw [if_pos c16] at H
 have c16b0 : decide (1 < (t143.length : Int)) = true := decide_eq_true c16
 have c16b1 : decide (1 < t143.length) = true := decide_eq_true (by omega)
 clear c16
 refine neg_first (p := (((rd_T45 t143 1).f1).toList = ([56, 49, 57, 50] : List UInt8))) (fun c17 => ?_) (fun c17 => ?_)
 ·rw [if_neg c17] at H
  have c17b0 : (((rd_T45 t143 1).f1).toList == ([56, 49, 57, 50] : List UInt8)) = false := beq_eq_false_iff_ne.mpr c17
  have c17b1 : (((rd_T45 t143 1).f1).toList != ([56, 49, 57, 50] : List UInt8)) = true := bne_iff_ne.mpr c17
  obtain rfl := Option.some.inj H
  go_enter Tryd.func9, Tryd.ntmps9
  go_wp2_with (first | ((with_reducible refine gate_callee (f := 16) rfl ?_); refine goesL_ (some 5) rfl rfl Tryd.func16 (by kernel_rfl) rfl #[] rfl (by (try simp only [List.map_toArray, List.map_cons, List.map_nil]); first | done | rfl | (simp only [List.length_drop, List.length_take]; rfl)) ?_; (with_reducible refine (keys_First.calls  t124 t125 t126 t127 t128 t129 t130 t131 _ A1.out).mono ?_); rintro e w26 ⟨rfl, hb⟩; refine ⟨_, rfl, ?_⟩; have n0_ := Aside0.mk (below_step (hb_ HB) hb); clear HB; have HB := n0_; clear n0_; (try clear hb); (try clear hb2); (try clear hk); (try clear hi)) | ((with_reducible refine gate_dst (N := 8) rfl ?_); (try (refine gate_guard (by rfl) ?_; dsimp only)); refine Kd.R_lit k45 _ 45 ?hg (N := 8) ?hd (xs := ([(⟨(⟨#[72, 101, 97, 100, 101, 114, 68, 105, 103, 101, 115, 116]⟩ : ByteArray), (⟨#[78, 111, 110, 101, 44, 67, 82, 67, 51, 50, 67]⟩ : ByteArray)⟩ : S45), (⟨(⟨#[77, 97, 120, 82, 101, 99, 118, 68, 97, 116, 97, 83, 101, 103, 109, 101, 110, 116, 76, 101, 110, 103, 116, 104]⟩ : ByteArray), (⟨#[53, 49, 50]⟩ : ByteArray)⟩ : S45)] : List (S45))) (inner := [.string (⟨#[72, 101, 97, 100, 101, 114, 68, 105, 103, 101, 115, 116]⟩ : ByteArray), .string (⟨#[78, 111, 110, 101, 44, 67, 82, 67, 51, 50, 67]⟩ : ByteArray), .string (⟨#[77, 97, 120, 82, 101, 99, 118, 68, 97, 116, 97, 83, 101, 103, 109, 101, 110, 116, 76, 101, 110, 103, 116, 104]⟩ : ByteArray), .string (⟨#[53, 49, 50]⟩ : ByteArray)]) (ok := fun _ => True) (okp := fun _ => True) ?hr ?hp (fun _ hk => hk) trivial (Below.refl _ _) (Nat.le_refl _) (by simp) ?_; (case hd => rfl); (case hg => rfl); (case hr => first | (go_simp; done) | (go_simp; rfl)); (case hp => exact (Reps.c2 (show Kd.M k45 _ _ _ (⟨(⟨#[72, 101, 97, 100, 101, 114, 68, 105, 103, 101, 115, 116]⟩ : ByteArray), (⟨#[78, 111, 110, 101, 44, 67, 82, 67, 51, 50, 67]⟩ : ByteArray)⟩ : S45) [.string (⟨#[72, 101, 97, 100, 101, 114, 68, 105, 103, 101, 115, 116]⟩ : ByteArray), .string (⟨#[78, 111, 110, 101, 44, 67, 82, 67, 51, 50, 67]⟩ : ByteArray)] from (k45_mkM _ _ _ (⟨(⟨#[72, 101, 97, 100, 101, 114, 68, 105, 103, 101, 115, 116]⟩ : ByteArray), (⟨#[78, 111, 110, 101, 44, 67, 82, 67, 51, 50, 67]⟩ : ByteArray)⟩ : S45) )) (Reps.c2 (show Kd.M k45 _ _ _ (⟨(⟨#[77, 97, 120, 82, 101, 99, 118, 68, 97, 116, 97, 83, 101, 103, 109, 101, 110, 116, 76, 101, 110, 103, 116, 104]⟩ : ByteArray), (⟨#[53, 49, 50]⟩ : ByteArray)⟩ : S45) [.string (⟨#[77, 97, 120, 82, 101, 99, 118, 68, 97, 116, 97, 83, 101, 103, 109, 101, 110, 116, 76, 101, 110, 103, 116, 104]⟩ : ByteArray), .string (⟨#[53, 49, 50]⟩ : ByteArray)] from (k45_mkM _ _ _ (⟨(⟨#[77, 97, 120, 82, 101, 99, 118, 68, 97, 116, 97, 83, 101, 103, 109, 101, 110, 116, 76, 101, 110, 103, 116, 104]⟩ : ByteArray), (⟨#[53, 49, 50]⟩ : ByteArray)⟩ : S45) )) (Reps.none _ _)))); intro v133 w27 ho28 hb hg_ hnew_; clear hg_ hnew_; (first | rw [← Ny132.out] at ho28 | (simp only [Int.reduceToNat] at ho28; rw [← Ny132.out] at ho28)); have n0_ := Aside0.mk (Kd.R_lower ho28 (below_size (hb_ HB))); have n1_ := Aside0.mk (below_step (hb_ HB) hb); clear HB; have HO134 := n0_; have HB := n1_; clear n0_ n1_; clear hb ho28; obtain ⟨Ao29, co29, eo29⟩ := Kd.R_slice HO134.out; subst eo29) | ((with_reducible refine gate_callee (f := 11) rfl ?_); refine goesL_ (some 9) rfl rfl Tryd.func11 (by kernel_rfl) rfl #[.agg #[.bool t124, .bool t125, .bool t126, .bool t127, .int .i64 t128, .int .i64 t129, .string t130, .string t131], .slice Ao29 y132.length co29] rfl (by (try simp only [List.map_toArray, List.map_cons, List.map_nil]); first | done | rfl | (simp only [List.length_drop, List.length_take]; rfl)) ?_; (with_reducible refine (keys_Answer.calls t124 t125 t126 t127 t128 t129 t130 t131 _ _ y132 false t136 t137 t138 t139 t140 t141 t142 t143 t146 _ ?side1 ?side2 ?side3 A2.out).mono ?_); (case side1 => repeat (first | exact (Kd.R_reads' HO134.out).2.2 | (with_reducible refine Kd.C_alloc ?_ _) | (with_reducible refine Kd.C_drewN ?_ _) | (with_reducible refine Kd.C_drew ?_))); (case side2 => exact (Kd.R_reads' HO134.out).2.1); (case side3 => first | ((refine Glob.keep HG.out ?_); (repeat (first | (with_reducible first | exact HB.out | apply below_alloc | apply pw_below_drewN | apply below_drew1) | exact HB.out)); done) | exact HG.out); rintro e w30 ⟨v144, rfl, ho0, hb⟩; refine ⟨_, rfl, ?_⟩; have n0_ := Aside0.mk (Kd.R_elder' (by (with_reducible repeat (first | apply Kd.R_alloc | apply Kd.R_drewN | apply Kd.R_drew)); exact HO134.out) (Kd.R_base ho0) hb); have n1_ := Aside0.mk (Kd.R_lower (Kd.R_new' ho0 (Kd.R_lt (by (with_reducible repeat (first | apply Kd.R_alloc | apply Kd.R_drewN | apply Kd.R_drew)); exact HO134.out))) (below_size (hb_ HB))); have n2_ := Aside0.mk (below_step (hb_ HB) hb); clear HO134; clear HB; have HO134 := n0_; have HO145 := n1_; have HB := n2_; clear n0_ n1_ n2_; (try clear hb); (try clear hb2); (try clear hk); (try clear hi); (try clear ho0)) | ((with_reducible refine gate_dst (N := 1) rfl ?_); (try (refine gate_guard (by rfl) ?_; dsimp only)); refine box_event ?hg (N := 1) ?hd (cs := #[.bool false, .bool false, .bool false, .bool false, .int .i64 0, .int .i64 0, .string (⟨#[]⟩ : ByteArray), .string (⟨#[]⟩ : ByteArray)]) (t := 23) ?hr ?_; (case hd => rfl); (case hg => rfl); (case hr => first | (go_simp; done) | (go_simp; rfl)); intro gb147 hg w31 hbox hb; have n0_ := Aside0.mk (Kd.R_below (by (with_reducible repeat (first | apply Kd.R_alloc | apply Kd.R_drewN | apply Kd.R_drew)); exact HO134.out) hb); have n1_ := Aside0.mk (Kd.R_below (by (with_reducible repeat (first | apply Kd.R_alloc | apply Kd.R_drewN | apply Kd.R_drew)); exact HO145.out) hb); have n2_ := Aside0.mk (below_step (hb_ HB) hb); have n3_ := Aside0.mk (hbox); have n4_ := Aside0.mk ((by rw [hg]; exact (below_size (hb_ HB)) : w.heap.size ≤ gb147)); have n5_ := Aside0.mk ((by rw [hg]; exact (below_size (hb_ HB)) : w.heap.size ≤ gb147)); clear HO134; clear HO145; clear HB; have HO134 := n0_; have HO145 := n1_; have HB := n2_; have BK147 := n3_; have GW147 := n4_; have GE147 := n5_; clear n0_ n1_ n2_ n3_ n4_ n5_; clear hb hbox hg; have hcz32_0 : w31.cell? ⟨gb147, 0, none⟩ = some (.bool false) := (blk_cell BK147.out 0).trans rfl; have hcz32_1 : w31.cell? ⟨gb147, 1, none⟩ = some (.bool false) := (blk_cell BK147.out 1).trans rfl; have hcz32_2 : w31.cell? ⟨gb147, 2, none⟩ = some (.bool false) := (blk_cell BK147.out 2).trans rfl; have hcz32_3 : w31.cell? ⟨gb147, 3, none⟩ = some (.bool false) := (blk_cell BK147.out 3).trans rfl; have hcz32_4 : w31.cell? ⟨gb147, 4, none⟩ = some (.int .i64 0) := (blk_cell BK147.out 4).trans rfl; have hcz32_5 : w31.cell? ⟨gb147, 5, none⟩ = some (.int .i64 0) := (blk_cell BK147.out 5).trans rfl; have hcz32_6 : w31.cell? ⟨gb147, 6, none⟩ = some (.string (⟨#[]⟩ : ByteArray)) := (blk_cell BK147.out 6).trans rfl; have hcz32_7 : w31.cell? ⟨gb147, 7, none⟩ = some (.string (⟨#[]⟩ : ByteArray)) := (blk_cell BK147.out 7).trans rfl; have hfz32_0 := blk_frozen BK147.out 0; have hfz32_1 := blk_frozen BK147.out 1; have hfz32_2 := blk_frozen BK147.out 2; have hfz32_3 := blk_frozen BK147.out 3; have hfz32_4 := blk_frozen BK147.out 4; have hfz32_5 := blk_frozen BK147.out 5; have hfz32_6 := blk_frozen BK147.out 6; have hfz32_7 := blk_frozen BK147.out 7; obtain ⟨Ao33, co33, eo33⟩ := Kd.R_slice HO145.out; subst eo33; have p148 : 0 ≤ (0 : Int) := (by omega); have q148 : 0 < (t143.length : Int) := of_decide_eq_true (by first | (with_reducible assumption) | assumption); obtain ⟨ad148, e148, hx148_0, hx148_1⟩ := at_T45 (Kd.R_reads' HO145.out).2.2 0 p148 q148; cases e148; have qi148 : (0 < t143.length) = True := eq_true (by omega); (try rw [show ((0 : Int)).toNat = 0 from rfl] at hx148_0); (try rw [show 0 * 2 = 0 from rfl] at hx148_0); (try rw [Addr.add_zero'] at hx148_0); (try rw [show ((0 : Int)).toNat = 0 from rfl] at hx148_1); (try rw [show 0 * 2 = 0 from rfl] at hx148_1); (try rw [Addr.add_zero'] at hx148_1); have hn148_0 : ad148.block ≠ gb147 := Kd.own_blk (by first | exact Kd.R_ne HO145.out BK147.out (by decide) | exact (fun e_ => (HO145.out.1 _ e_.symm).2 rfl)); have hn148_1 : ad148.block ≠ gb147 := Kd.own_blk (by first | exact Kd.R_ne HO145.out BK147.out (by decide) | exact (fun e_ => (HO145.out.1 _ e_.symm).2 rfl)); have hn148_2 : ad148.block ≠ gb147 := Kd.own_blk (by first | exact Kd.R_ne HO145.out BK147.out (by decide) | exact (fun e_ => (HO145.out.1 _ e_.symm).2 rfl)); have hn148_3 : ad148.block ≠ gb147 := Kd.own_blk (by first | exact Kd.R_ne HO145.out BK147.out (by decide) | exact (fun e_ => (HO145.out.1 _ e_.symm).2 rfl)); have hn148_4 : ad148.block ≠ gb147 := Kd.own_blk (by first | exact Kd.R_ne HO145.out BK147.out (by decide) | exact (fun e_ => (HO145.out.1 _ e_.symm).2 rfl)); have hn148_5 : ad148.block ≠ gb147 := Kd.own_blk (by first | exact Kd.R_ne HO145.out BK147.out (by decide) | exact (fun e_ => (HO145.out.1 _ e_.symm).2 rfl)); have hn148_6 : ad148.block ≠ gb147 := Kd.own_blk (by first | exact Kd.R_ne HO145.out BK147.out (by decide) | exact (fun e_ => (HO145.out.1 _ e_.symm).2 rfl)); have hn148_7 : ad148.block ≠ gb147 := Kd.own_blk (by first | exact Kd.R_ne HO145.out BK147.out (by decide) | exact (fun e_ => (HO145.out.1 _ e_.symm).2 rfl)); replace hx148_0 := (cell_far (p := ⟨gb147, 0, none⟩) (by first | (rw [add_block]; exact hn148_0) | (show (Addr.add _ _).block ≠ _; rw [add_block]; exact hn148_0) | exact hn148_0) (.bool false)).trans hx148_0; replace hx148_1 := (cell_far (p := ⟨gb147, 0, none⟩) (by first | (rw [add_block]; exact hn148_0) | (show (Addr.add _ _).block ≠ _; rw [add_block]; exact hn148_0) | exact hn148_0) (.bool false)).trans hx148_1; replace hx148_0 := (cell_far (p := ⟨gb147, 1, none⟩) (by first | (rw [add_block]; exact hn148_1) | (show (Addr.add _ _).block ≠ _; rw [add_block]; exact hn148_1) | exact hn148_1) (.bool t136)).trans hx148_0; replace hx148_1 := (cell_far (p := ⟨gb147, 1, none⟩) (by first | (rw [add_block]; exact hn148_1) | (show (Addr.add _ _).block ≠ _; rw [add_block]; exact hn148_1) | exact hn148_1) (.bool t136)).trans hx148_1; replace hx148_0 := (cell_far (p := ⟨gb147, 2, none⟩) (by first | (rw [add_block]; exact hn148_2) | (show (Addr.add _ _).block ≠ _; rw [add_block]; exact hn148_2) | exact hn148_2) (.bool t137)).trans hx148_0; replace hx148_1 := (cell_far (p := ⟨gb147, 2, none⟩) (by first | (rw [add_block]; exact hn148_2) | (show (Addr.add _ _).block ≠ _; rw [add_block]; exact hn148_2) | exact hn148_2) (.bool t137)).trans hx148_1; replace hx148_0 := (cell_far (p := ⟨gb147, 3, none⟩) (by first | (rw [add_block]; exact hn148_3) | (show (Addr.add _ _).block ≠ _; rw [add_block]; exact hn148_3) | exact hn148_3) (.bool t138)).trans hx148_0; replace hx148_1 := (cell_far (p := ⟨gb147, 3, none⟩) (by first | (rw [add_block]; exact hn148_3) | (show (Addr.add _ _).block ≠ _; rw [add_block]; exact hn148_3) | exact hn148_3) (.bool t138)).trans hx148_1; replace hx148_0 := (cell_far (p := ⟨gb147, 4, none⟩) (by first | (rw [add_block]; exact hn148_4) | (show (Addr.add _ _).block ≠ _; rw [add_block]; exact hn148_4) | exact hn148_4) (.int .i64 t139)).trans hx148_0; replace hx148_1 := (cell_far (p := ⟨gb147, 4, none⟩) (by first | (rw [add_block]; exact hn148_4) | (show (Addr.add _ _).block ≠ _; rw [add_block]; exact hn148_4) | exact hn148_4) (.int .i64 t139)).trans hx148_1; replace hx148_0 := (cell_far (p := ⟨gb147, 5, none⟩) (by first | (rw [add_block]; exact hn148_5) | (show (Addr.add _ _).block ≠ _; rw [add_block]; exact hn148_5) | exact hn148_5) (.int .i64 t140)).trans hx148_0; replace hx148_1 := (cell_far (p := ⟨gb147, 5, none⟩) (by first | (rw [add_block]; exact hn148_5) | (show (Addr.add _ _).block ≠ _; rw [add_block]; exact hn148_5) | exact hn148_5) (.int .i64 t140)).trans hx148_1; replace hx148_0 := (cell_far (p := ⟨gb147, 6, none⟩) (by first | (rw [add_block]; exact hn148_6) | (show (Addr.add _ _).block ≠ _; rw [add_block]; exact hn148_6) | exact hn148_6) (.string t141)).trans hx148_0; replace hx148_1 := (cell_far (p := ⟨gb147, 6, none⟩) (by first | (rw [add_block]; exact hn148_6) | (show (Addr.add _ _).block ≠ _; rw [add_block]; exact hn148_6) | exact hn148_6) (.string t141)).trans hx148_1; replace hx148_0 := (cell_far (p := ⟨gb147, 7, none⟩) (by first | (rw [add_block]; exact hn148_7) | (show (Addr.add _ _).block ≠ _; rw [add_block]; exact hn148_7) | exact hn148_7) (.string t142)).trans hx148_0; replace hx148_1 := (cell_far (p := ⟨gb147, 7, none⟩) (by first | (rw [add_block]; exact hn148_7) | (show (Addr.add _ _).block ≠ _; rw [add_block]; exact hn148_7) | exact hn148_7) (.string t142)).trans hx148_1; clear hn148_0; clear hn148_1; clear hn148_2; clear hn148_3; clear hn148_4; clear hn148_5; clear hn148_6; clear hn148_7; replace p148 := eq_true p148; replace q148 := eq_true q148; have p149 : 0 ≤ (1 : Int) := (by omega); have q149 : 1 < (t143.length : Int) := of_decide_eq_true (by first | (with_reducible assumption) | assumption); obtain ⟨ad149, e149, hx149_0, hx149_1⟩ := at_T45 (Kd.R_reads' HO145.out).2.2 1 p149 q149; obtain rfl : ad148 = ad149 := (by injection e149); (try simp only [show (1 : Int).toNat = 1 from rfl, Nat.reduceMul, Nat.reduceEqDiff, Go.Addr.add, ↓reduceIte] at hx149_0); (try simp only [show (1 : Int).toNat = 1 from rfl, Nat.reduceMul, Nat.reduceEqDiff, Go.Addr.add, ↓reduceIte] at hx149_1); have qi149 : (1 < t143.length) = True := eq_true (by omega); (try rw [show ((1 : Int)).toNat = 1 from rfl] at hx149_0); (try rw [show 1 * 2 = 2 from rfl] at hx149_0); (try rw [show ((1 : Int)).toNat = 1 from rfl] at hx149_1); (try rw [show 1 * 2 = 2 from rfl] at hx149_1); have hn149_0 : ad148.block ≠ gb147 := Kd.own_blk (by first | exact Kd.R_ne HO145.out BK147.out (by decide) | exact (fun e_ => (HO145.out.1 _ e_.symm).2 rfl)); have hn149_1 : ad148.block ≠ gb147 := Kd.own_blk (by first | exact Kd.R_ne HO145.out BK147.out (by decide) | exact (fun e_ => (HO145.out.1 _ e_.symm).2 rfl)); have hn149_2 : ad148.block ≠ gb147 := Kd.own_blk (by first | exact Kd.R_ne HO145.out BK147.out (by decide) | exact (fun e_ => (HO145.out.1 _ e_.symm).2 rfl)); have hn149_3 : ad148.block ≠ gb147 := Kd.own_blk (by first | exact Kd.R_ne HO145.out BK147.out (by decide) | exact (fun e_ => (HO145.out.1 _ e_.symm).2 rfl)); have hn149_4 : ad148.block ≠ gb147 := Kd.own_blk (by first | exact Kd.R_ne HO145.out BK147.out (by decide) | exact (fun e_ => (HO145.out.1 _ e_.symm).2 rfl)); have hn149_5 : ad148.block ≠ gb147 := Kd.own_blk (by first | exact Kd.R_ne HO145.out BK147.out (by decide) | exact (fun e_ => (HO145.out.1 _ e_.symm).2 rfl)); have hn149_6 : ad148.block ≠ gb147 := Kd.own_blk (by first | exact Kd.R_ne HO145.out BK147.out (by decide) | exact (fun e_ => (HO145.out.1 _ e_.symm).2 rfl)); have hn149_7 : ad148.block ≠ gb147 := Kd.own_blk (by first | exact Kd.R_ne HO145.out BK147.out (by decide) | exact (fun e_ => (HO145.out.1 _ e_.symm).2 rfl)); replace hx149_0 := (cell_far (p := ⟨gb147, 0, none⟩) (by first | (rw [add_block]; exact hn149_0) | (show (Addr.add _ _).block ≠ _; rw [add_block]; exact hn149_0) | exact hn149_0) (.bool false)).trans hx149_0; replace hx149_1 := (cell_far (p := ⟨gb147, 0, none⟩) (by first | (rw [add_block]; exact hn149_0) | (show (Addr.add _ _).block ≠ _; rw [add_block]; exact hn149_0) | exact hn149_0) (.bool false)).trans hx149_1; replace hx149_0 := (cell_far (p := ⟨gb147, 1, none⟩) (by first | (rw [add_block]; exact hn149_1) | (show (Addr.add _ _).block ≠ _; rw [add_block]; exact hn149_1) | exact hn149_1) (.bool t136)).trans hx149_0; replace hx149_1 := (cell_far (p := ⟨gb147, 1, none⟩) (by first | (rw [add_block]; exact hn149_1) | (show (Addr.add _ _).block ≠ _; rw [add_block]; exact hn149_1) | exact hn149_1) (.bool t136)).trans hx149_1; replace hx149_0 := (cell_far (p := ⟨gb147, 2, none⟩) (by first | (rw [add_block]; exact hn149_2) | (show (Addr.add _ _).block ≠ _; rw [add_block]; exact hn149_2) | exact hn149_2) (.bool t137)).trans hx149_0; replace hx149_1 := (cell_far (p := ⟨gb147, 2, none⟩) (by first | (rw [add_block]; exact hn149_2) | (show (Addr.add _ _).block ≠ _; rw [add_block]; exact hn149_2) | exact hn149_2) (.bool t137)).trans hx149_1; replace hx149_0 := (cell_far (p := ⟨gb147, 3, none⟩) (by first | (rw [add_block]; exact hn149_3) | (show (Addr.add _ _).block ≠ _; rw [add_block]; exact hn149_3) | exact hn149_3) (.bool t138)).trans hx149_0; replace hx149_1 := (cell_far (p := ⟨gb147, 3, none⟩) (by first | (rw [add_block]; exact hn149_3) | (show (Addr.add _ _).block ≠ _; rw [add_block]; exact hn149_3) | exact hn149_3) (.bool t138)).trans hx149_1; replace hx149_0 := (cell_far (p := ⟨gb147, 4, none⟩) (by first | (rw [add_block]; exact hn149_4) | (show (Addr.add _ _).block ≠ _; rw [add_block]; exact hn149_4) | exact hn149_4) (.int .i64 t139)).trans hx149_0; replace hx149_1 := (cell_far (p := ⟨gb147, 4, none⟩) (by first | (rw [add_block]; exact hn149_4) | (show (Addr.add _ _).block ≠ _; rw [add_block]; exact hn149_4) | exact hn149_4) (.int .i64 t139)).trans hx149_1; replace hx149_0 := (cell_far (p := ⟨gb147, 5, none⟩) (by first | (rw [add_block]; exact hn149_5) | (show (Addr.add _ _).block ≠ _; rw [add_block]; exact hn149_5) | exact hn149_5) (.int .i64 t140)).trans hx149_0; replace hx149_1 := (cell_far (p := ⟨gb147, 5, none⟩) (by first | (rw [add_block]; exact hn149_5) | (show (Addr.add _ _).block ≠ _; rw [add_block]; exact hn149_5) | exact hn149_5) (.int .i64 t140)).trans hx149_1; replace hx149_0 := (cell_far (p := ⟨gb147, 6, none⟩) (by first | (rw [add_block]; exact hn149_6) | (show (Addr.add _ _).block ≠ _; rw [add_block]; exact hn149_6) | exact hn149_6) (.string t141)).trans hx149_0; replace hx149_1 := (cell_far (p := ⟨gb147, 6, none⟩) (by first | (rw [add_block]; exact hn149_6) | (show (Addr.add _ _).block ≠ _; rw [add_block]; exact hn149_6) | exact hn149_6) (.string t141)).trans hx149_1; replace hx149_0 := (cell_far (p := ⟨gb147, 7, none⟩) (by first | (rw [add_block]; exact hn149_7) | (show (Addr.add _ _).block ≠ _; rw [add_block]; exact hn149_7) | exact hn149_7) (.string t142)).trans hx149_0; replace hx149_1 := (cell_far (p := ⟨gb147, 7, none⟩) (by first | (rw [add_block]; exact hn149_7) | (show (Addr.add _ _).block ≠ _; rw [add_block]; exact hn149_7) | exact hn149_7) (.string t142)).trans hx149_1; clear hn149_0; clear hn149_1; clear hn149_2; clear hn149_3; clear hn149_4; clear hn149_5; clear hn149_6; clear hn149_7; replace p149 := eq_true p149; replace q149 := eq_true q149))
  go_ret
  exact ⟨by first | rfl | (simp [errW_none, errW_some] <;> rfl) | (simp [*, errW_none, errW_some] <;> rfl) | (simp [bt, *]; done) | (unfold bt; simp [*]; done), by repeat (first | (with_reducible first | exact HB.out | apply below_alloc | apply pw_below_drewN | apply below_drew1 | refine below_set ?_ GE147.out) | exact HB.out)⟩
 rw [if_pos c17] at H
 have c17b0 : (((rd_T45 t143 1).f1).toList == ([56, 49, 57, 50] : List UInt8)) = true := beq_iff_eq.mpr c17
 have c17b1 : (((rd_T45 t143 1).f1).toList != ([56, 49, 57, 50] : List UInt8)) = false := bne_eq_false_iff_eq.mpr c17
 clear c17
 obtain rfl := Option.some.inj H
 go_enter Tryd.func9, Tryd.ntmps9
 go_wp2_with (first | ((with_reducible refine gate_callee (f := 16) rfl ?_); refine goesL_ (some 5) rfl rfl Tryd.func16 (by kernel_rfl) rfl #[] rfl (by (try simp only [List.map_toArray, List.map_cons, List.map_nil]); first | done | rfl | (simp only [List.length_drop, List.length_take]; rfl)) ?_; (with_reducible refine (keys_First.calls  t124 t125 t126 t127 t128 t129 t130 t131 _ A1.out).mono ?_); rintro e w18 ⟨rfl, hb⟩; refine ⟨_, rfl, ?_⟩; have n0_ := Aside0.mk (below_step (hb_ HB) hb); clear HB; have HB := n0_; clear n0_; (try clear hb); (try clear hb2); (try clear hk); (try clear hi)) | ((with_reducible refine gate_dst (N := 8) rfl ?_); (try (refine gate_guard (by rfl) ?_; dsimp only)); refine Kd.R_lit k45 _ 45 ?hg (N := 8) ?hd (xs := ([(⟨(⟨#[72, 101, 97, 100, 101, 114, 68, 105, 103, 101, 115, 116]⟩ : ByteArray), (⟨#[78, 111, 110, 101, 44, 67, 82, 67, 51, 50, 67]⟩ : ByteArray)⟩ : S45), (⟨(⟨#[77, 97, 120, 82, 101, 99, 118, 68, 97, 116, 97, 83, 101, 103, 109, 101, 110, 116, 76, 101, 110, 103, 116, 104]⟩ : ByteArray), (⟨#[53, 49, 50]⟩ : ByteArray)⟩ : S45)] : List (S45))) (inner := [.string (⟨#[72, 101, 97, 100, 101, 114, 68, 105, 103, 101, 115, 116]⟩ : ByteArray), .string (⟨#[78, 111, 110, 101, 44, 67, 82, 67, 51, 50, 67]⟩ : ByteArray), .string (⟨#[77, 97, 120, 82, 101, 99, 118, 68, 97, 116, 97, 83, 101, 103, 109, 101, 110, 116, 76, 101, 110, 103, 116, 104]⟩ : ByteArray), .string (⟨#[53, 49, 50]⟩ : ByteArray)]) (ok := fun _ => True) (okp := fun _ => True) ?hr ?hp (fun _ hk => hk) trivial (Below.refl _ _) (Nat.le_refl _) (by simp) ?_; (case hd => rfl); (case hg => rfl); (case hr => first | (go_simp; done) | (go_simp; rfl)); (case hp => exact (Reps.c2 (show Kd.M k45 _ _ _ (⟨(⟨#[72, 101, 97, 100, 101, 114, 68, 105, 103, 101, 115, 116]⟩ : ByteArray), (⟨#[78, 111, 110, 101, 44, 67, 82, 67, 51, 50, 67]⟩ : ByteArray)⟩ : S45) [.string (⟨#[72, 101, 97, 100, 101, 114, 68, 105, 103, 101, 115, 116]⟩ : ByteArray), .string (⟨#[78, 111, 110, 101, 44, 67, 82, 67, 51, 50, 67]⟩ : ByteArray)] from (k45_mkM _ _ _ (⟨(⟨#[72, 101, 97, 100, 101, 114, 68, 105, 103, 101, 115, 116]⟩ : ByteArray), (⟨#[78, 111, 110, 101, 44, 67, 82, 67, 51, 50, 67]⟩ : ByteArray)⟩ : S45) )) (Reps.c2 (show Kd.M k45 _ _ _ (⟨(⟨#[77, 97, 120, 82, 101, 99, 118, 68, 97, 116, 97, 83, 101, 103, 109, 101, 110, 116, 76, 101, 110, 103, 116, 104]⟩ : ByteArray), (⟨#[53, 49, 50]⟩ : ByteArray)⟩ : S45) [.string (⟨#[77, 97, 120, 82, 101, 99, 118, 68, 97, 116, 97, 83, 101, 103, 109, 101, 110, 116, 76, 101, 110, 103, 116, 104]⟩ : ByteArray), .string (⟨#[53, 49, 50]⟩ : ByteArray)] from (k45_mkM _ _ _ (⟨(⟨#[77, 97, 120, 82, 101, 99, 118, 68, 97, 116, 97, 83, 101, 103, 109, 101, 110, 116, 76, 101, 110, 103, 116, 104]⟩ : ByteArray), (⟨#[53, 49, 50]⟩ : ByteArray)⟩ : S45) )) (Reps.none _ _)))); intro v133 w19 ho20 hb hg_ hnew_; clear hg_ hnew_; (first | rw [← Ny132.out] at ho20 | (simp only [Int.reduceToNat] at ho20; rw [← Ny132.out] at ho20)); have n0_ := Aside0.mk (Kd.R_lower ho20 (below_size (hb_ HB))); have n1_ := Aside0.mk (below_step (hb_ HB) hb); clear HB; have HO134 := n0_; have HB := n1_; clear n0_ n1_; clear hb ho20; obtain ⟨Ao21, co21, eo21⟩ := Kd.R_slice HO134.out; subst eo21) | ((with_reducible refine gate_callee (f := 11) rfl ?_); refine goesL_ (some 9) rfl rfl Tryd.func11 (by kernel_rfl) rfl #[.agg #[.bool t124, .bool t125, .bool t126, .bool t127, .int .i64 t128, .int .i64 t129, .string t130, .string t131], .slice Ao21 y132.length co21] rfl (by (try simp only [List.map_toArray, List.map_cons, List.map_nil]); first | done | rfl | (simp only [List.length_drop, List.length_take]; rfl)) ?_; (with_reducible refine (keys_Answer.calls t124 t125 t126 t127 t128 t129 t130 t131 _ _ y132 false t136 t137 t138 t139 t140 t141 t142 t143 t146 _ ?side1 ?side2 ?side3 A2.out).mono ?_); (case side1 => repeat (first | exact (Kd.R_reads' HO134.out).2.2 | (with_reducible refine Kd.C_alloc ?_ _) | (with_reducible refine Kd.C_drewN ?_ _) | (with_reducible refine Kd.C_drew ?_))); (case side2 => exact (Kd.R_reads' HO134.out).2.1); (case side3 => first | ((refine Glob.keep HG.out ?_); (repeat (first | (with_reducible first | exact HB.out | apply below_alloc | apply pw_below_drewN | apply below_drew1) | exact HB.out)); done) | exact HG.out); rintro e w22 ⟨v144, rfl, ho0, hb⟩; refine ⟨_, rfl, ?_⟩; have n0_ := Aside0.mk (Kd.R_elder' (by (with_reducible repeat (first | apply Kd.R_alloc | apply Kd.R_drewN | apply Kd.R_drew)); exact HO134.out) (Kd.R_base ho0) hb); have n1_ := Aside0.mk (Kd.R_lower (Kd.R_new' ho0 (Kd.R_lt (by (with_reducible repeat (first | apply Kd.R_alloc | apply Kd.R_drewN | apply Kd.R_drew)); exact HO134.out))) (below_size (hb_ HB))); have n2_ := Aside0.mk (below_step (hb_ HB) hb); clear HO134; clear HB; have HO134 := n0_; have HO145 := n1_; have HB := n2_; clear n0_ n1_ n2_; (try clear hb); (try clear hb2); (try clear hk); (try clear hi); (try clear ho0)) | ((with_reducible refine gate_dst (N := 1) rfl ?_); (try (refine gate_guard (by rfl) ?_; dsimp only)); refine box_event ?hg (N := 1) ?hd (cs := #[.bool false, .bool false, .bool false, .bool false, .int .i64 0, .int .i64 0, .string (⟨#[]⟩ : ByteArray), .string (⟨#[]⟩ : ByteArray)]) (t := 23) ?hr ?_; (case hd => rfl); (case hg => rfl); (case hr => first | (go_simp; done) | (go_simp; rfl)); intro gb147 hg w23 hbox hb; have n0_ := Aside0.mk (Kd.R_below (by (with_reducible repeat (first | apply Kd.R_alloc | apply Kd.R_drewN | apply Kd.R_drew)); exact HO134.out) hb); have n1_ := Aside0.mk (Kd.R_below (by (with_reducible repeat (first | apply Kd.R_alloc | apply Kd.R_drewN | apply Kd.R_drew)); exact HO145.out) hb); have n2_ := Aside0.mk (below_step (hb_ HB) hb); have n3_ := Aside0.mk (hbox); have n4_ := Aside0.mk ((by rw [hg]; exact (below_size (hb_ HB)) : w.heap.size ≤ gb147)); have n5_ := Aside0.mk ((by rw [hg]; exact (below_size (hb_ HB)) : w.heap.size ≤ gb147)); clear HO134; clear HO145; clear HB; have HO134 := n0_; have HO145 := n1_; have HB := n2_; have BK147 := n3_; have GW147 := n4_; have GE147 := n5_; clear n0_ n1_ n2_ n3_ n4_ n5_; clear hb hbox hg; have hcz24_0 : w23.cell? ⟨gb147, 0, none⟩ = some (.bool false) := (blk_cell BK147.out 0).trans rfl; have hcz24_1 : w23.cell? ⟨gb147, 1, none⟩ = some (.bool false) := (blk_cell BK147.out 1).trans rfl; have hcz24_2 : w23.cell? ⟨gb147, 2, none⟩ = some (.bool false) := (blk_cell BK147.out 2).trans rfl; have hcz24_3 : w23.cell? ⟨gb147, 3, none⟩ = some (.bool false) := (blk_cell BK147.out 3).trans rfl; have hcz24_4 : w23.cell? ⟨gb147, 4, none⟩ = some (.int .i64 0) := (blk_cell BK147.out 4).trans rfl; have hcz24_5 : w23.cell? ⟨gb147, 5, none⟩ = some (.int .i64 0) := (blk_cell BK147.out 5).trans rfl; have hcz24_6 : w23.cell? ⟨gb147, 6, none⟩ = some (.string (⟨#[]⟩ : ByteArray)) := (blk_cell BK147.out 6).trans rfl; have hcz24_7 : w23.cell? ⟨gb147, 7, none⟩ = some (.string (⟨#[]⟩ : ByteArray)) := (blk_cell BK147.out 7).trans rfl; have hfz24_0 := blk_frozen BK147.out 0; have hfz24_1 := blk_frozen BK147.out 1; have hfz24_2 := blk_frozen BK147.out 2; have hfz24_3 := blk_frozen BK147.out 3; have hfz24_4 := blk_frozen BK147.out 4; have hfz24_5 := blk_frozen BK147.out 5; have hfz24_6 := blk_frozen BK147.out 6; have hfz24_7 := blk_frozen BK147.out 7; obtain ⟨Ao25, co25, eo25⟩ := Kd.R_slice HO145.out; subst eo25; have p148 : 0 ≤ (0 : Int) := (by omega); have q148 : 0 < (t143.length : Int) := of_decide_eq_true (by first | (with_reducible assumption) | assumption); obtain ⟨ad148, e148, hx148_0, hx148_1⟩ := at_T45 (Kd.R_reads' HO145.out).2.2 0 p148 q148; cases e148; have qi148 : (0 < t143.length) = True := eq_true (by omega); (try rw [show ((0 : Int)).toNat = 0 from rfl] at hx148_0); (try rw [show 0 * 2 = 0 from rfl] at hx148_0); (try rw [Addr.add_zero'] at hx148_0); (try rw [show ((0 : Int)).toNat = 0 from rfl] at hx148_1); (try rw [show 0 * 2 = 0 from rfl] at hx148_1); (try rw [Addr.add_zero'] at hx148_1); have hn148_0 : ad148.block ≠ gb147 := Kd.own_blk (by first | exact Kd.R_ne HO145.out BK147.out (by decide) | exact (fun e_ => (HO145.out.1 _ e_.symm).2 rfl)); have hn148_1 : ad148.block ≠ gb147 := Kd.own_blk (by first | exact Kd.R_ne HO145.out BK147.out (by decide) | exact (fun e_ => (HO145.out.1 _ e_.symm).2 rfl)); have hn148_2 : ad148.block ≠ gb147 := Kd.own_blk (by first | exact Kd.R_ne HO145.out BK147.out (by decide) | exact (fun e_ => (HO145.out.1 _ e_.symm).2 rfl)); have hn148_3 : ad148.block ≠ gb147 := Kd.own_blk (by first | exact Kd.R_ne HO145.out BK147.out (by decide) | exact (fun e_ => (HO145.out.1 _ e_.symm).2 rfl)); have hn148_4 : ad148.block ≠ gb147 := Kd.own_blk (by first | exact Kd.R_ne HO145.out BK147.out (by decide) | exact (fun e_ => (HO145.out.1 _ e_.symm).2 rfl)); have hn148_5 : ad148.block ≠ gb147 := Kd.own_blk (by first | exact Kd.R_ne HO145.out BK147.out (by decide) | exact (fun e_ => (HO145.out.1 _ e_.symm).2 rfl)); have hn148_6 : ad148.block ≠ gb147 := Kd.own_blk (by first | exact Kd.R_ne HO145.out BK147.out (by decide) | exact (fun e_ => (HO145.out.1 _ e_.symm).2 rfl)); have hn148_7 : ad148.block ≠ gb147 := Kd.own_blk (by first | exact Kd.R_ne HO145.out BK147.out (by decide) | exact (fun e_ => (HO145.out.1 _ e_.symm).2 rfl)); replace hx148_0 := (cell_far (p := ⟨gb147, 0, none⟩) (by first | (rw [add_block]; exact hn148_0) | (show (Addr.add _ _).block ≠ _; rw [add_block]; exact hn148_0) | exact hn148_0) (.bool false)).trans hx148_0; replace hx148_1 := (cell_far (p := ⟨gb147, 0, none⟩) (by first | (rw [add_block]; exact hn148_0) | (show (Addr.add _ _).block ≠ _; rw [add_block]; exact hn148_0) | exact hn148_0) (.bool false)).trans hx148_1; replace hx148_0 := (cell_far (p := ⟨gb147, 1, none⟩) (by first | (rw [add_block]; exact hn148_1) | (show (Addr.add _ _).block ≠ _; rw [add_block]; exact hn148_1) | exact hn148_1) (.bool t136)).trans hx148_0; replace hx148_1 := (cell_far (p := ⟨gb147, 1, none⟩) (by first | (rw [add_block]; exact hn148_1) | (show (Addr.add _ _).block ≠ _; rw [add_block]; exact hn148_1) | exact hn148_1) (.bool t136)).trans hx148_1; replace hx148_0 := (cell_far (p := ⟨gb147, 2, none⟩) (by first | (rw [add_block]; exact hn148_2) | (show (Addr.add _ _).block ≠ _; rw [add_block]; exact hn148_2) | exact hn148_2) (.bool t137)).trans hx148_0; replace hx148_1 := (cell_far (p := ⟨gb147, 2, none⟩) (by first | (rw [add_block]; exact hn148_2) | (show (Addr.add _ _).block ≠ _; rw [add_block]; exact hn148_2) | exact hn148_2) (.bool t137)).trans hx148_1; replace hx148_0 := (cell_far (p := ⟨gb147, 3, none⟩) (by first | (rw [add_block]; exact hn148_3) | (show (Addr.add _ _).block ≠ _; rw [add_block]; exact hn148_3) | exact hn148_3) (.bool t138)).trans hx148_0; replace hx148_1 := (cell_far (p := ⟨gb147, 3, none⟩) (by first | (rw [add_block]; exact hn148_3) | (show (Addr.add _ _).block ≠ _; rw [add_block]; exact hn148_3) | exact hn148_3) (.bool t138)).trans hx148_1; replace hx148_0 := (cell_far (p := ⟨gb147, 4, none⟩) (by first | (rw [add_block]; exact hn148_4) | (show (Addr.add _ _).block ≠ _; rw [add_block]; exact hn148_4) | exact hn148_4) (.int .i64 t139)).trans hx148_0; replace hx148_1 := (cell_far (p := ⟨gb147, 4, none⟩) (by first | (rw [add_block]; exact hn148_4) | (show (Addr.add _ _).block ≠ _; rw [add_block]; exact hn148_4) | exact hn148_4) (.int .i64 t139)).trans hx148_1; replace hx148_0 := (cell_far (p := ⟨gb147, 5, none⟩) (by first | (rw [add_block]; exact hn148_5) | (show (Addr.add _ _).block ≠ _; rw [add_block]; exact hn148_5) | exact hn148_5) (.int .i64 t140)).trans hx148_0; replace hx148_1 := (cell_far (p := ⟨gb147, 5, none⟩) (by first | (rw [add_block]; exact hn148_5) | (show (Addr.add _ _).block ≠ _; rw [add_block]; exact hn148_5) | exact hn148_5) (.int .i64 t140)).trans hx148_1; replace hx148_0 := (cell_far (p := ⟨gb147, 6, none⟩) (by first | (rw [add_block]; exact hn148_6) | (show (Addr.add _ _).block ≠ _; rw [add_block]; exact hn148_6) | exact hn148_6) (.string t141)).trans hx148_0; replace hx148_1 := (cell_far (p := ⟨gb147, 6, none⟩) (by first | (rw [add_block]; exact hn148_6) | (show (Addr.add _ _).block ≠ _; rw [add_block]; exact hn148_6) | exact hn148_6) (.string t141)).trans hx148_1; replace hx148_0 := (cell_far (p := ⟨gb147, 7, none⟩) (by first | (rw [add_block]; exact hn148_7) | (show (Addr.add _ _).block ≠ _; rw [add_block]; exact hn148_7) | exact hn148_7) (.string t142)).trans hx148_0; replace hx148_1 := (cell_far (p := ⟨gb147, 7, none⟩) (by first | (rw [add_block]; exact hn148_7) | (show (Addr.add _ _).block ≠ _; rw [add_block]; exact hn148_7) | exact hn148_7) (.string t142)).trans hx148_1; clear hn148_0; clear hn148_1; clear hn148_2; clear hn148_3; clear hn148_4; clear hn148_5; clear hn148_6; clear hn148_7; replace p148 := eq_true p148; replace q148 := eq_true q148; have p149 : 0 ≤ (1 : Int) := (by omega); have q149 : 1 < (t143.length : Int) := of_decide_eq_true (by first | (with_reducible assumption) | assumption); obtain ⟨ad149, e149, hx149_0, hx149_1⟩ := at_T45 (Kd.R_reads' HO145.out).2.2 1 p149 q149; obtain rfl : ad148 = ad149 := (by injection e149); (try simp only [show (1 : Int).toNat = 1 from rfl, Nat.reduceMul, Nat.reduceEqDiff, Go.Addr.add, ↓reduceIte] at hx149_0); (try simp only [show (1 : Int).toNat = 1 from rfl, Nat.reduceMul, Nat.reduceEqDiff, Go.Addr.add, ↓reduceIte] at hx149_1); have qi149 : (1 < t143.length) = True := eq_true (by omega); (try rw [show ((1 : Int)).toNat = 1 from rfl] at hx149_0); (try rw [show 1 * 2 = 2 from rfl] at hx149_0); (try rw [show ((1 : Int)).toNat = 1 from rfl] at hx149_1); (try rw [show 1 * 2 = 2 from rfl] at hx149_1); have hn149_0 : ad148.block ≠ gb147 := Kd.own_blk (by first | exact Kd.R_ne HO145.out BK147.out (by decide) | exact (fun e_ => (HO145.out.1 _ e_.symm).2 rfl)); have hn149_1 : ad148.block ≠ gb147 := Kd.own_blk (by first | exact Kd.R_ne HO145.out BK147.out (by decide) | exact (fun e_ => (HO145.out.1 _ e_.symm).2 rfl)); have hn149_2 : ad148.block ≠ gb147 := Kd.own_blk (by first | exact Kd.R_ne HO145.out BK147.out (by decide) | exact (fun e_ => (HO145.out.1 _ e_.symm).2 rfl)); have hn149_3 : ad148.block ≠ gb147 := Kd.own_blk (by first | exact Kd.R_ne HO145.out BK147.out (by decide) | exact (fun e_ => (HO145.out.1 _ e_.symm).2 rfl)); have hn149_4 : ad148.block ≠ gb147 := Kd.own_blk (by first | exact Kd.R_ne HO145.out BK147.out (by decide) | exact (fun e_ => (HO145.out.1 _ e_.symm).2 rfl)); have hn149_5 : ad148.block ≠ gb147 := Kd.own_blk (by first | exact Kd.R_ne HO145.out BK147.out (by decide) | exact (fun e_ => (HO145.out.1 _ e_.symm).2 rfl)); have hn149_6 : ad148.block ≠ gb147 := Kd.own_blk (by first | exact Kd.R_ne HO145.out BK147.out (by decide) | exact (fun e_ => (HO145.out.1 _ e_.symm).2 rfl)); have hn149_7 : ad148.block ≠ gb147 := Kd.own_blk (by first | exact Kd.R_ne HO145.out BK147.out (by decide) | exact (fun e_ => (HO145.out.1 _ e_.symm).2 rfl)); replace hx149_0 := (cell_far (p := ⟨gb147, 0, none⟩) (by first | (rw [add_block]; exact hn149_0) | (show (Addr.add _ _).block ≠ _; rw [add_block]; exact hn149_0) | exact hn149_0) (.bool false)).trans hx149_0; replace hx149_1 := (cell_far (p := ⟨gb147, 0, none⟩) (by first | (rw [add_block]; exact hn149_0) | (show (Addr.add _ _).block ≠ _; rw [add_block]; exact hn149_0) | exact hn149_0) (.bool false)).trans hx149_1; replace hx149_0 := (cell_far (p := ⟨gb147, 1, none⟩) (by first | (rw [add_block]; exact hn149_1) | (show (Addr.add _ _).block ≠ _; rw [add_block]; exact hn149_1) | exact hn149_1) (.bool t136)).trans hx149_0; replace hx149_1 := (cell_far (p := ⟨gb147, 1, none⟩) (by first | (rw [add_block]; exact hn149_1) | (show (Addr.add _ _).block ≠ _; rw [add_block]; exact hn149_1) | exact hn149_1) (.bool t136)).trans hx149_1; replace hx149_0 := (cell_far (p := ⟨gb147, 2, none⟩) (by first | (rw [add_block]; exact hn149_2) | (show (Addr.add _ _).block ≠ _; rw [add_block]; exact hn149_2) | exact hn149_2) (.bool t137)).trans hx149_0; replace hx149_1 := (cell_far (p := ⟨gb147, 2, none⟩) (by first | (rw [add_block]; exact hn149_2) | (show (Addr.add _ _).block ≠ _; rw [add_block]; exact hn149_2) | exact hn149_2) (.bool t137)).trans hx149_1; replace hx149_0 := (cell_far (p := ⟨gb147, 3, none⟩) (by first | (rw [add_block]; exact hn149_3) | (show (Addr.add _ _).block ≠ _; rw [add_block]; exact hn149_3) | exact hn149_3) (.bool t138)).trans hx149_0; replace hx149_1 := (cell_far (p := ⟨gb147, 3, none⟩) (by first | (rw [add_block]; exact hn149_3) | (show (Addr.add _ _).block ≠ _; rw [add_block]; exact hn149_3) | exact hn149_3) (.bool t138)).trans hx149_1; replace hx149_0 := (cell_far (p := ⟨gb147, 4, none⟩) (by first | (rw [add_block]; exact hn149_4) | (show (Addr.add _ _).block ≠ _; rw [add_block]; exact hn149_4) | exact hn149_4) (.int .i64 t139)).trans hx149_0; replace hx149_1 := (cell_far (p := ⟨gb147, 4, none⟩) (by first | (rw [add_block]; exact hn149_4) | (show (Addr.add _ _).block ≠ _; rw [add_block]; exact hn149_4) | exact hn149_4) (.int .i64 t139)).trans hx149_1; replace hx149_0 := (cell_far (p := ⟨gb147, 5, none⟩) (by first | (rw [add_block]; exact hn149_5) | (show (Addr.add _ _).block ≠ _; rw [add_block]; exact hn149_5) | exact hn149_5) (.int .i64 t140)).trans hx149_0; replace hx149_1 := (cell_far (p := ⟨gb147, 5, none⟩) (by first | (rw [add_block]; exact hn149_5) | (show (Addr.add _ _).block ≠ _; rw [add_block]; exact hn149_5) | exact hn149_5) (.int .i64 t140)).trans hx149_1; replace hx149_0 := (cell_far (p := ⟨gb147, 6, none⟩) (by first | (rw [add_block]; exact hn149_6) | (show (Addr.add _ _).block ≠ _; rw [add_block]; exact hn149_6) | exact hn149_6) (.string t141)).trans hx149_0; replace hx149_1 := (cell_far (p := ⟨gb147, 6, none⟩) (by first | (rw [add_block]; exact hn149_6) | (show (Addr.add _ _).block ≠ _; rw [add_block]; exact hn149_6) | exact hn149_6) (.string t141)).trans hx149_1; replace hx149_0 := (cell_far (p := ⟨gb147, 7, none⟩) (by first | (rw [add_block]; exact hn149_7) | (show (Addr.add _ _).block ≠ _; rw [add_block]; exact hn149_7) | exact hn149_7) (.string t142)).trans hx149_0; replace hx149_1 := (cell_far (p := ⟨gb147, 7, none⟩) (by first | (rw [add_block]; exact hn149_7) | (show (Addr.add _ _).block ≠ _; rw [add_block]; exact hn149_7) | exact hn149_7) (.string t142)).trans hx149_1; clear hn149_0; clear hn149_1; clear hn149_2; clear hn149_3; clear hn149_4; clear hn149_5; clear hn149_6; clear hn149_7; replace p149 := eq_true p149; replace q149 := eq_true q149))
 go_ret
 exact ⟨by first | rfl | (simp [errW_none, errW_some] <;> rfl) | (simp [*, errW_none, errW_some] <;> rfl) | (simp [bt, *]; done) | (unfold bt; simp [*]; done), by repeat (first | (with_reducible first | exact HB.out | apply below_alloc | apply pw_below_drewN | apply below_drew1 | refine below_set ?_ GE147.out) | exact HB.out)⟩
def headgatelaw21_few.f (l0 : List (S45)) : Option ((List (S45))) := (some (([] : List (S45)) : List (S45))).bind fun y150 => (if y150.length + l0.length < 4398046511104 then (some (y150 ++ l0)) else (none))
set_option maxHeartbeats 8000000 in
set_option maxRecDepth 100000 in
theorem headgatelaw21_few.calls (A0 : Option Addr) (c0 : Nat) (l0 : List (S45)) (r : List (S45)) (w : World) (hr0 : Kd.C k45 w A0 l0.length l0) (hc0 : l0.length ≤ c0) (h : headgatelaw21_few.f l0 = some r) :
    Calls Tryd.prog 10 #[.slice A0 l0.length c0] w fun e w' => ∃ v0_ : Value, e = .returned (v0_) ∧ Kd.R k45 45 w' w.heap.size (fun _ => True) v0_ r ∧ Below w.heap.size w w' := by
  have HR0 := Aside0.mk hr0
  have HC0 := Aside0.mk hc0
  clear hr0 hc0
  have HB := Aside0.mk (Below.refl w.heap.size w)
  have H : ((some (([] : List (S45)) : List (S45))).bind fun y150 => (if y150.length + l0.length < 4398046511104 then (some (y150 ++ l0)) else (none))) = some r := h
  clear h
  obtain ⟨y150, hy150⟩ : ∃ y_ : List (S45), y_ = (([] : List (S45))) := ⟨_, rfl⟩
  replace H : (if y150.length + l0.length < 4398046511104 then (some (y150 ++ l0)) else (none)) = some r := by first | (rw [hy150]; with_reducible exact H) | (have H2_ := (Option.bind_some _ _).symm.trans H; rw [hy150]; with_reducible exact H2_) | (have H2_ := (Option.bind_some _ _).symm.trans H; with_reducible exact H2_) | with_reducible exact H | (rw [hy150]; exact H) | exact H
  have Ny150 := Aside0.mk hy150
  clear hy150
  by_cases c2 : y150.length + l0.length < 4398046511104
  · rw [if_pos c2] at H
    have LMc2 := Aside0.mk c2
    clear c2
    obtain ⟨y153, hy153⟩ : ∃ y_ : List (S45), y_ = (y150 ++ l0) := ⟨_, rfl⟩
    replace H : (some y153) = some r := by first | (rw [hy153]; with_reducible exact H) | (have H2_ := (Option.bind_some _ _).symm.trans H; rw [hy153]; with_reducible exact H2_) | (have H2_ := (Option.bind_some _ _).symm.trans H; with_reducible exact H2_) | with_reducible exact H | (rw [hy153]; exact H) | exact H
    have Ny153 := Aside0.mk hy153
    clear hy153
    obtain rfl := Option.some.inj H
    go_enter Tryd.func10, Tryd.ntmps10
    go_wp2_with (first | ((with_reducible refine gate_dst (N := 3) rfl ?_); refine Kd.R_lit k45 _ 45 ?hg (N := 3) ?hd (xs := ([] : List (S45))) (inner := []) (ok := fun _ => True) (okp := fun _ => True) ?hr ?hp (fun _ hk => hk) trivial (Below.refl _ _) (Nat.le_refl _) (by simp) ?_; (case hd => rfl); (case hg => rfl); (case hr => first | (go_simp; done) | (go_simp; rfl)); (case hp => exact (Reps.none _ _)); intro v151 w3 ho4 hb hg_ hnew_; clear hg_ hnew_; (first | rw [← Ny150.out] at ho4 | (simp only [Int.reduceToNat] at ho4; rw [← Ny150.out] at ho4)); have n0_ := Aside0.mk (Kd.R_lower ho4 (below_size (by repeat (first | (with_reducible first | exact HB.out | apply below_alloc | apply pw_below_drewN | apply below_drew1) | exact HB.out)))); have n1_ := Aside0.mk (below_step (by repeat (first | (with_reducible first | exact HB.out | apply below_alloc | apply pw_below_drewN | apply below_drew1) | exact HB.out)) hb); clear HB; have HO152 := n0_; have HB := n1_; clear n0_ n1_; clear hb ho4) | ((with_reducible refine gate_builtin (b := .append) (xs := #[.tmp 3, .tmp 4]) rfl ?_); at_builtin; refine Kd.R_append_rows k45 (w0 := w) w.heap.size rfl (.tmp 3) (.tmp 4) 24 45 (.agg #[(.string ⟨#[]⟩), (.string ⟨#[]⟩)]) 32 rfl Tryd.underlying24 info45 rfl (by decide) (by omega) v151 y150 l0 _ _ _ (fun _ => True) (fun _ => False) rfl rfl ?aO ?aR (fun _ _ h => h) (fun _ h => h.elim) ?aF ?aB ?aS ?aL ?_; (case aR => repeat (first | exact (Kd.C_below HR0.out HB.out) | (with_reducible refine Kd.C_alloc ?_ _) | (with_reducible refine Kd.C_drewN ?_ _) | (with_reducible refine Kd.C_drew ?_))); (case aB => exact (by repeat (first | (with_reducible first | exact HB.out | apply below_alloc | apply pw_below_drewN | apply below_drew1) | exact HB.out))); (case aF => exact (fun _ _ => trivial)); (case aO => exact (by (with_reducible repeat (first | apply Kd.R_alloc | apply Kd.R_drewN | apply Kd.R_drew)); exact HO152.out)); (case aS => exact (below_size (by repeat (first | (with_reducible first | exact HB.out | apply below_alloc | apply pw_below_drewN | apply below_drew1) | exact HB.out)))); (case aL => have := LMc2.out; omega); intro v154 w5 ho hb hg hat; rw [← Ny153.out] at ho; have n0_ := Aside0.mk (hb); have n1_ := Aside0.mk (ho); clear HB; clear HO152; have HB := n0_; have HO155 := n1_; clear n0_ n1_; clear ho hb hg hat))
    go_ret
    exact ⟨_, by first | rfl | (simp [errW_none, errW_some] <;> rfl) | (simp [*, errW_none, errW_some] <;> rfl) | (simp [bt, *]; done) | (unfold bt; simp [*]; done), by (with_reducible repeat (first | apply Kd.R_alloc | apply Kd.R_drewN | apply Kd.R_drew)); exact HO155.out, by repeat (first | (with_reducible first | exact HB.out | apply below_alloc | apply pw_below_drewN | apply below_drew1) | exact HB.out)⟩
  · rw [if_neg c2] at H
    exact absurd H (by simp)
def headgateref21_letter.f (a0 : Int) : Option (Bool) := if a0 ≥ 97 then (if a0 ≤ 122 then (some true) else (if a0 ≥ 65 then (if a0 ≤ 90 then (some true) else (if a0 ≥ 48 then (if a0 ≤ 57 then (some true) else (if a0 = 46 then (some true) else (if a0 = 45 then (some true) else (if a0 = 43 then (some true) else (if a0 = 64 then (some true) else (some (a0 == 95))))))) else (if a0 = 46 then (some true) else (if a0 = 45 then (some true) else (if a0 = 43 then (some true) else (if a0 = 64 then (some true) else (some (a0 == 95)))))))) else (if a0 ≥ 48 then (if a0 ≤ 57 then (some true) else (if a0 = 46 then (some true) else (if a0 = 45 then (some true) else (if a0 = 43 then (some true) else (if a0 = 64 then (some true) else (some (a0 == 95))))))) else (if a0 = 46 then (some true) else (if a0 = 45 then (some true) else (if a0 = 43 then (some true) else (if a0 = 64 then (some true) else (some (a0 == 95))))))))) else (if a0 ≥ 65 then (if a0 ≤ 90 then (some true) else (if a0 ≥ 48 then (if a0 ≤ 57 then (some true) else (if a0 = 46 then (some true) else (if a0 = 45 then (some true) else (if a0 = 43 then (some true) else (if a0 = 64 then (some true) else (some (a0 == 95))))))) else (if a0 = 46 then (some true) else (if a0 = 45 then (some true) else (if a0 = 43 then (some true) else (if a0 = 64 then (some true) else (some (a0 == 95)))))))) else (if a0 ≥ 48 then (if a0 ≤ 57 then (some true) else (if a0 = 46 then (some true) else (if a0 = 45 then (some true) else (if a0 = 43 then (some true) else (if a0 = 64 then (some true) else (some (a0 == 95))))))) else (if a0 = 46 then (some true) else (if a0 = 45 then (some true) else (if a0 = 43 then (some true) else (if a0 = 64 then (some true) else (some (a0 == 95))))))))
set_option maxHeartbeats 8000000 in
set_option maxRecDepth 100000 in
theorem headgateref21_letter.calls (a0 : Int) (r : Bool) (w : World) (h : headgateref21_letter.f a0 = some r) :
  Calls Tryd.prog 50 #[.int .u8 a0] w fun e w' => e = .returned (.bool r) ∧ Drawn0 w w' := by
 have H : (if a0 ≥ 97 then (if a0 ≤ 122 then (some true) else (if a0 ≥ 65 then (if a0 ≤ 90 then (some true) else (if a0 ≥ 48 then (if a0 ≤ 57 then (some true) else (if a0 = 46 then (some true) else (if a0 = 45 then (some true) else (if a0 = 43 then (some true) else (if a0 = 64 then (some true) else (some (a0 == 95))))))) else (if a0 = 46 then (some true) else (if a0 = 45 then (some true) else (if a0 = 43 then (some true) else (if a0 = 64 then (some true) else (some (a0 == 95)))))))) else (if a0 ≥ 48 then (if a0 ≤ 57 then (some true) else (if a0 = 46 then (some true) else (if a0 = 45 then (some true) else (if a0 = 43 then (some true) else (if a0 = 64 then (some true) else (some (a0 == 95))))))) else (if a0 = 46 then (some true) else (if a0 = 45 then (some true) else (if a0 = 43 then (some true) else (if a0 = 64 then (some true) else (some (a0 == 95))))))))) else (if a0 ≥ 65 then (if a0 ≤ 90 then (some true) else (if a0 ≥ 48 then (if a0 ≤ 57 then (some true) else (if a0 = 46 then (some true) else (if a0 = 45 then (some true) else (if a0 = 43 then (some true) else (if a0 = 64 then (some true) else (some (a0 == 95))))))) else (if a0 = 46 then (some true) else (if a0 = 45 then (some true) else (if a0 = 43 then (some true) else (if a0 = 64 then (some true) else (some (a0 == 95)))))))) else (if a0 ≥ 48 then (if a0 ≤ 57 then (some true) else (if a0 = 46 then (some true) else (if a0 = 45 then (some true) else (if a0 = 43 then (some true) else (if a0 = 64 then (some true) else (some (a0 == 95))))))) else (if a0 = 46 then (some true) else (if a0 = 45 then (some true) else (if a0 = 43 then (some true) else (if a0 = 64 then (some true) else (some (a0 == 95))))))))) = some r := h
 clear h
 refine neg_first (p := (a0 ≥ 97)) (fun c2 => ?_) (fun c2 => ?_)
 ·rw [if_neg c2] at H
  have c2b0 : decide (97 ≤ a0) = false := decide_eq_false c2
  clear c2
  refine neg_first (p := (a0 ≥ 65)) (fun c26 => ?_) (fun c26 => ?_)
  ·rw [if_neg c26] at H
   have c26b0 : decide (65 ≤ a0) = false := decide_eq_false c26
   clear c26
   refine neg_first (p := (a0 ≥ 48)) (fun c38 => ?_) (fun c38 => ?_)
   ·rw [if_neg c38] at H
    have c38b0 : decide (48 ≤ a0) = false := decide_eq_false c38
    clear c38
    by_cases c44 : a0 = 46
    ·rw [if_pos c44] at H
     have c44b0 : (a0 == 46) = true := beq_iff_eq.mpr c44
     have c44b1 : (a0 != 46) = false := bne_eq_false_iff_eq.mpr c44
     clear c44
     obtain rfl := Option.some.inj H
     go_enter Tryd.func50, Tryd.ntmps50
     go_wp2
     go_ret
     exact ⟨by first | rfl | (simp; done) | (simp [*]; done), by repeat (first | exact Drawn0.refl _ | apply Drawn0.step)⟩
    rw [if_neg c44] at H
    have c44b0 : (a0 == 46) = false := beq_eq_false_iff_ne.mpr c44
    have c44b1 : (a0 != 46) = true := bne_iff_ne.mpr c44
    by_cases c45 : a0 = 45
    ·rw [if_pos c45] at H
     have c45b0 : (a0 == 45) = true := beq_iff_eq.mpr c45
     have c45b1 : (a0 != 45) = false := bne_eq_false_iff_eq.mpr c45
     clear c45
     obtain rfl := Option.some.inj H
     go_enter Tryd.func50, Tryd.ntmps50
     go_wp2
     go_ret
     exact ⟨by first | rfl | (simp; done) | (simp [*]; done), by repeat (first | exact Drawn0.refl _ | apply Drawn0.step)⟩
    rw [if_neg c45] at H
    have c45b0 : (a0 == 45) = false := beq_eq_false_iff_ne.mpr c45
    have c45b1 : (a0 != 45) = true := bne_iff_ne.mpr c45
    by_cases c46 : a0 = 43
    ·rw [if_pos c46] at H
     have c46b0 : (a0 == 43) = true := beq_iff_eq.mpr c46
     have c46b1 : (a0 != 43) = false := bne_eq_false_iff_eq.mpr c46
     clear c46
     obtain rfl := Option.some.inj H
     go_enter Tryd.func50, Tryd.ntmps50
     go_wp2
     go_ret
     exact ⟨by first | rfl | (simp; done) | (simp [*]; done), by repeat (first | exact Drawn0.refl _ | apply Drawn0.step)⟩
    rw [if_neg c46] at H
    have c46b0 : (a0 == 43) = false := beq_eq_false_iff_ne.mpr c46
    have c46b1 : (a0 != 43) = true := bne_iff_ne.mpr c46
    refine neg_first (p := (a0 = 64)) (fun c47 => ?_) (fun c47 => ?_)
    ·rw [if_neg c47] at H
     have c47b0 : (a0 == 64) = false := beq_eq_false_iff_ne.mpr c47
     have c47b1 : (a0 != 64) = true := bne_iff_ne.mpr c47
     obtain rfl := Option.some.inj H
     go_enter Tryd.func50, Tryd.ntmps50
     go_wp2
     go_ret
     exact ⟨by first | rfl | (simp; done) | (simp [*]; done), by repeat (first | exact Drawn0.refl _ | apply Drawn0.step)⟩
    rw [if_pos c47] at H
    have c47b0 : (a0 == 64) = true := beq_iff_eq.mpr c47
    have c47b1 : (a0 != 64) = false := bne_eq_false_iff_eq.mpr c47
    clear c47
    obtain rfl := Option.some.inj H
    go_enter Tryd.func50, Tryd.ntmps50
    go_wp2
    go_ret
    exact ⟨by first | rfl | (simp; done) | (simp [*]; done), by repeat (first | exact Drawn0.refl _ | apply Drawn0.step)⟩
   rw [if_pos c38] at H
   have c38b0 : decide (48 ≤ a0) = true := decide_eq_true c38
   clear c38
   by_cases c39 : a0 ≤ 57
   ·rw [if_pos c39] at H
    have c39b0 : decide (a0 ≤ 57) = true := decide_eq_true c39
    clear c39
    obtain rfl := Option.some.inj H
    go_enter Tryd.func50, Tryd.ntmps50
    go_wp2
    go_ret
    exact ⟨by first | rfl | (simp; done) | (simp [*]; done), by repeat (first | exact Drawn0.refl _ | apply Drawn0.step)⟩
   rw [if_neg c39] at H
   have c39b0 : decide (a0 ≤ 57) = false := decide_eq_false c39
   clear c39
   by_cases c40 : a0 = 46
   ·rw [if_pos c40] at H
    have c40b0 : (a0 == 46) = true := beq_iff_eq.mpr c40
    have c40b1 : (a0 != 46) = false := bne_eq_false_iff_eq.mpr c40
    clear c40
    obtain rfl := Option.some.inj H
    go_enter Tryd.func50, Tryd.ntmps50
    go_wp2
    go_ret
    exact ⟨by first | rfl | (simp; done) | (simp [*]; done), by repeat (first | exact Drawn0.refl _ | apply Drawn0.step)⟩
   rw [if_neg c40] at H
   have c40b0 : (a0 == 46) = false := beq_eq_false_iff_ne.mpr c40
   have c40b1 : (a0 != 46) = true := bne_iff_ne.mpr c40
   by_cases c41 : a0 = 45
   ·rw [if_pos c41] at H
    have c41b0 : (a0 == 45) = true := beq_iff_eq.mpr c41
    have c41b1 : (a0 != 45) = false := bne_eq_false_iff_eq.mpr c41
    clear c41
    obtain rfl := Option.some.inj H
    go_enter Tryd.func50, Tryd.ntmps50
    go_wp2
    go_ret
    exact ⟨by first | rfl | (simp; done) | (simp [*]; done), by repeat (first | exact Drawn0.refl _ | apply Drawn0.step)⟩
   rw [if_neg c41] at H
   have c41b0 : (a0 == 45) = false := beq_eq_false_iff_ne.mpr c41
   have c41b1 : (a0 != 45) = true := bne_iff_ne.mpr c41
   by_cases c42 : a0 = 43
   ·rw [if_pos c42] at H
    have c42b0 : (a0 == 43) = true := beq_iff_eq.mpr c42
    have c42b1 : (a0 != 43) = false := bne_eq_false_iff_eq.mpr c42
    clear c42
    obtain rfl := Option.some.inj H
    go_enter Tryd.func50, Tryd.ntmps50
    go_wp2
    go_ret
    exact ⟨by first | rfl | (simp; done) | (simp [*]; done), by repeat (first | exact Drawn0.refl _ | apply Drawn0.step)⟩
   rw [if_neg c42] at H
   have c42b0 : (a0 == 43) = false := beq_eq_false_iff_ne.mpr c42
   have c42b1 : (a0 != 43) = true := bne_iff_ne.mpr c42
   refine neg_first (p := (a0 = 64)) (fun c43 => ?_) (fun c43 => ?_)
   ·rw [if_neg c43] at H
    have c43b0 : (a0 == 64) = false := beq_eq_false_iff_ne.mpr c43
    have c43b1 : (a0 != 64) = true := bne_iff_ne.mpr c43
    obtain rfl := Option.some.inj H
    go_enter Tryd.func50, Tryd.ntmps50
    go_wp2
    go_ret
    exact ⟨by first | rfl | (simp; done) | (simp [*]; done), by repeat (first | exact Drawn0.refl _ | apply Drawn0.step)⟩
   rw [if_pos c43] at H
   have c43b0 : (a0 == 64) = true := beq_iff_eq.mpr c43
   have c43b1 : (a0 != 64) = false := bne_eq_false_iff_eq.mpr c43
   clear c43
   obtain rfl := Option.some.inj H
   go_enter Tryd.func50, Tryd.ntmps50
   go_wp2
   go_ret
   exact ⟨by first | rfl | (simp; done) | (simp [*]; done), by repeat (first | exact Drawn0.refl _ | apply Drawn0.step)⟩
  rw [if_pos c26] at H
  have c26b0 : decide (65 ≤ a0) = true := decide_eq_true c26
  clear c26
  by_cases c27 : a0 ≤ 90
  ·rw [if_pos c27] at H
   have c27b0 : decide (a0 ≤ 90) = true := decide_eq_true c27
   clear c27
   obtain rfl := Option.some.inj H
   go_enter Tryd.func50, Tryd.ntmps50
   go_wp2
   go_ret
   exact ⟨by first | rfl | (simp; done) | (simp [*]; done), by repeat (first | exact Drawn0.refl _ | apply Drawn0.step)⟩
  rw [if_neg c27] at H
  have c27b0 : decide (a0 ≤ 90) = false := decide_eq_false c27
  clear c27
  refine neg_first (p := (a0 ≥ 48)) (fun c28 => ?_) (fun c28 => ?_)
  ·rw [if_neg c28] at H
   have c28b0 : decide (48 ≤ a0) = false := decide_eq_false c28
   clear c28
   by_cases c34 : a0 = 46
   ·rw [if_pos c34] at H
    have c34b0 : (a0 == 46) = true := beq_iff_eq.mpr c34
    have c34b1 : (a0 != 46) = false := bne_eq_false_iff_eq.mpr c34
    clear c34
    obtain rfl := Option.some.inj H
    go_enter Tryd.func50, Tryd.ntmps50
    go_wp2
    go_ret
    exact ⟨by first | rfl | (simp; done) | (simp [*]; done), by repeat (first | exact Drawn0.refl _ | apply Drawn0.step)⟩
   rw [if_neg c34] at H
   have c34b0 : (a0 == 46) = false := beq_eq_false_iff_ne.mpr c34
   have c34b1 : (a0 != 46) = true := bne_iff_ne.mpr c34
   by_cases c35 : a0 = 45
   ·rw [if_pos c35] at H
    have c35b0 : (a0 == 45) = true := beq_iff_eq.mpr c35
    have c35b1 : (a0 != 45) = false := bne_eq_false_iff_eq.mpr c35
    clear c35
    obtain rfl := Option.some.inj H
    go_enter Tryd.func50, Tryd.ntmps50
    go_wp2
    go_ret
    exact ⟨by first | rfl | (simp; done) | (simp [*]; done), by repeat (first | exact Drawn0.refl _ | apply Drawn0.step)⟩
   rw [if_neg c35] at H
   have c35b0 : (a0 == 45) = false := beq_eq_false_iff_ne.mpr c35
   have c35b1 : (a0 != 45) = true := bne_iff_ne.mpr c35
   by_cases c36 : a0 = 43
   ·rw [if_pos c36] at H
    have c36b0 : (a0 == 43) = true := beq_iff_eq.mpr c36
    have c36b1 : (a0 != 43) = false := bne_eq_false_iff_eq.mpr c36
    clear c36
    obtain rfl := Option.some.inj H
    go_enter Tryd.func50, Tryd.ntmps50
    go_wp2
    go_ret
    exact ⟨by first | rfl | (simp; done) | (simp [*]; done), by repeat (first | exact Drawn0.refl _ | apply Drawn0.step)⟩
   rw [if_neg c36] at H
   have c36b0 : (a0 == 43) = false := beq_eq_false_iff_ne.mpr c36
   have c36b1 : (a0 != 43) = true := bne_iff_ne.mpr c36
   refine neg_first (p := (a0 = 64)) (fun c37 => ?_) (fun c37 => ?_)
   ·rw [if_neg c37] at H
    have c37b0 : (a0 == 64) = false := beq_eq_false_iff_ne.mpr c37
    have c37b1 : (a0 != 64) = true := bne_iff_ne.mpr c37
    obtain rfl := Option.some.inj H
    go_enter Tryd.func50, Tryd.ntmps50
    go_wp2
    go_ret
    exact ⟨by first | rfl | (simp; done) | (simp [*]; done), by repeat (first | exact Drawn0.refl _ | apply Drawn0.step)⟩
   rw [if_pos c37] at H
   have c37b0 : (a0 == 64) = true := beq_iff_eq.mpr c37
   have c37b1 : (a0 != 64) = false := bne_eq_false_iff_eq.mpr c37
   clear c37
   obtain rfl := Option.some.inj H
   go_enter Tryd.func50, Tryd.ntmps50
   go_wp2
   go_ret
   exact ⟨by first | rfl | (simp; done) | (simp [*]; done), by repeat (first | exact Drawn0.refl _ | apply Drawn0.step)⟩
  rw [if_pos c28] at H
  have c28b0 : decide (48 ≤ a0) = true := decide_eq_true c28
  clear c28
  by_cases c29 : a0 ≤ 57
  ·rw [if_pos c29] at H
   have c29b0 : decide (a0 ≤ 57) = true := decide_eq_true c29
   clear c29
   obtain rfl := Option.some.inj H
   go_enter Tryd.func50, Tryd.ntmps50
   go_wp2
   go_ret
   exact ⟨by first | rfl | (simp; done) | (simp [*]; done), by repeat (first | exact Drawn0.refl _ | apply Drawn0.step)⟩
  rw [if_neg c29] at H
  have c29b0 : decide (a0 ≤ 57) = false := decide_eq_false c29
  clear c29
  by_cases c30 : a0 = 46
  ·rw [if_pos c30] at H
   have c30b0 : (a0 == 46) = true := beq_iff_eq.mpr c30
   have c30b1 : (a0 != 46) = false := bne_eq_false_iff_eq.mpr c30
   clear c30
   obtain rfl := Option.some.inj H
   go_enter Tryd.func50, Tryd.ntmps50
   go_wp2
   go_ret
   exact ⟨by first | rfl | (simp; done) | (simp [*]; done), by repeat (first | exact Drawn0.refl _ | apply Drawn0.step)⟩
  rw [if_neg c30] at H
  have c30b0 : (a0 == 46) = false := beq_eq_false_iff_ne.mpr c30
  have c30b1 : (a0 != 46) = true := bne_iff_ne.mpr c30
  by_cases c31 : a0 = 45
  ·rw [if_pos c31] at H
   have c31b0 : (a0 == 45) = true := beq_iff_eq.mpr c31
   have c31b1 : (a0 != 45) = false := bne_eq_false_iff_eq.mpr c31
   clear c31
   obtain rfl := Option.some.inj H
   go_enter Tryd.func50, Tryd.ntmps50
   go_wp2
   go_ret
   exact ⟨by first | rfl | (simp; done) | (simp [*]; done), by repeat (first | exact Drawn0.refl _ | apply Drawn0.step)⟩
  rw [if_neg c31] at H
  have c31b0 : (a0 == 45) = false := beq_eq_false_iff_ne.mpr c31
  have c31b1 : (a0 != 45) = true := bne_iff_ne.mpr c31
  by_cases c32 : a0 = 43
  ·rw [if_pos c32] at H
   have c32b0 : (a0 == 43) = true := beq_iff_eq.mpr c32
   have c32b1 : (a0 != 43) = false := bne_eq_false_iff_eq.mpr c32
   clear c32
   obtain rfl := Option.some.inj H
   go_enter Tryd.func50, Tryd.ntmps50
   go_wp2
   go_ret
   exact ⟨by first | rfl | (simp; done) | (simp [*]; done), by repeat (first | exact Drawn0.refl _ | apply Drawn0.step)⟩
  rw [if_neg c32] at H
  have c32b0 : (a0 == 43) = false := beq_eq_false_iff_ne.mpr c32
  have c32b1 : (a0 != 43) = true := bne_iff_ne.mpr c32
  refine neg_first (p := (a0 = 64)) (fun c33 => ?_) (fun c33 => ?_)
  ·rw [if_neg c33] at H
   have c33b0 : (a0 == 64) = false := beq_eq_false_iff_ne.mpr c33
   have c33b1 : (a0 != 64) = true := bne_iff_ne.mpr c33
   obtain rfl := Option.some.inj H
   go_enter Tryd.func50, Tryd.ntmps50
   go_wp2
   go_ret
   exact ⟨by first | rfl | (simp; done) | (simp [*]; done), by repeat (first | exact Drawn0.refl _ | apply Drawn0.step)⟩
  rw [if_pos c33] at H
  have c33b0 : (a0 == 64) = true := beq_iff_eq.mpr c33
  have c33b1 : (a0 != 64) = false := bne_eq_false_iff_eq.mpr c33
  clear c33
  obtain rfl := Option.some.inj H
  go_enter Tryd.func50, Tryd.ntmps50
  go_wp2
  go_ret
  exact ⟨by first | rfl | (simp; done) | (simp [*]; done), by repeat (first | exact Drawn0.refl _ | apply Drawn0.step)⟩
 rw [if_pos c2] at H
 have c2b0 : decide (97 ≤ a0) = true := decide_eq_true c2
 clear c2
 by_cases c3 : a0 ≤ 122
 ·rw [if_pos c3] at H
  have c3b0 : decide (a0 ≤ 122) = true := decide_eq_true c3
  clear c3
  obtain rfl := Option.some.inj H
  go_enter Tryd.func50, Tryd.ntmps50
  go_wp2
  go_ret
  exact ⟨by first | rfl | (simp; done) | (simp [*]; done), by repeat (first | exact Drawn0.refl _ | apply Drawn0.step)⟩
 rw [if_neg c3] at H
 have c3b0 : decide (a0 ≤ 122) = false := decide_eq_false c3
 clear c3
 refine neg_first (p := (a0 ≥ 65)) (fun c4 => ?_) (fun c4 => ?_)
 ·rw [if_neg c4] at H
  have c4b0 : decide (65 ≤ a0) = false := decide_eq_false c4
  clear c4
  refine neg_first (p := (a0 ≥ 48)) (fun c16 => ?_) (fun c16 => ?_)
  ·rw [if_neg c16] at H
   have c16b0 : decide (48 ≤ a0) = false := decide_eq_false c16
   clear c16
   by_cases c22 : a0 = 46
   ·rw [if_pos c22] at H
    have c22b0 : (a0 == 46) = true := beq_iff_eq.mpr c22
    have c22b1 : (a0 != 46) = false := bne_eq_false_iff_eq.mpr c22
    clear c22
    obtain rfl := Option.some.inj H
    go_enter Tryd.func50, Tryd.ntmps50
    go_wp2
    go_ret
    exact ⟨by first | rfl | (simp; done) | (simp [*]; done), by repeat (first | exact Drawn0.refl _ | apply Drawn0.step)⟩
   rw [if_neg c22] at H
   have c22b0 : (a0 == 46) = false := beq_eq_false_iff_ne.mpr c22
   have c22b1 : (a0 != 46) = true := bne_iff_ne.mpr c22
   by_cases c23 : a0 = 45
   ·rw [if_pos c23] at H
    have c23b0 : (a0 == 45) = true := beq_iff_eq.mpr c23
    have c23b1 : (a0 != 45) = false := bne_eq_false_iff_eq.mpr c23
    clear c23
    obtain rfl := Option.some.inj H
    go_enter Tryd.func50, Tryd.ntmps50
    go_wp2
    go_ret
    exact ⟨by first | rfl | (simp; done) | (simp [*]; done), by repeat (first | exact Drawn0.refl _ | apply Drawn0.step)⟩
   rw [if_neg c23] at H
   have c23b0 : (a0 == 45) = false := beq_eq_false_iff_ne.mpr c23
   have c23b1 : (a0 != 45) = true := bne_iff_ne.mpr c23
   by_cases c24 : a0 = 43
   ·rw [if_pos c24] at H
    have c24b0 : (a0 == 43) = true := beq_iff_eq.mpr c24
    have c24b1 : (a0 != 43) = false := bne_eq_false_iff_eq.mpr c24
    clear c24
    obtain rfl := Option.some.inj H
    go_enter Tryd.func50, Tryd.ntmps50
    go_wp2
    go_ret
    exact ⟨by first | rfl | (simp; done) | (simp [*]; done), by repeat (first | exact Drawn0.refl _ | apply Drawn0.step)⟩
   rw [if_neg c24] at H
   have c24b0 : (a0 == 43) = false := beq_eq_false_iff_ne.mpr c24
   have c24b1 : (a0 != 43) = true := bne_iff_ne.mpr c24
   refine neg_first (p := (a0 = 64)) (fun c25 => ?_) (fun c25 => ?_)
   ·rw [if_neg c25] at H
    have c25b0 : (a0 == 64) = false := beq_eq_false_iff_ne.mpr c25
    have c25b1 : (a0 != 64) = true := bne_iff_ne.mpr c25
    obtain rfl := Option.some.inj H
    go_enter Tryd.func50, Tryd.ntmps50
    go_wp2
    go_ret
    exact ⟨by first | rfl | (simp; done) | (simp [*]; done), by repeat (first | exact Drawn0.refl _ | apply Drawn0.step)⟩
   rw [if_pos c25] at H
   have c25b0 : (a0 == 64) = true := beq_iff_eq.mpr c25
   have c25b1 : (a0 != 64) = false := bne_eq_false_iff_eq.mpr c25
   clear c25
   obtain rfl := Option.some.inj H
   go_enter Tryd.func50, Tryd.ntmps50
   go_wp2
   go_ret
   exact ⟨by first | rfl | (simp; done) | (simp [*]; done), by repeat (first | exact Drawn0.refl _ | apply Drawn0.step)⟩
  rw [if_pos c16] at H
  have c16b0 : decide (48 ≤ a0) = true := decide_eq_true c16
  clear c16
  by_cases c17 : a0 ≤ 57
  ·rw [if_pos c17] at H
   have c17b0 : decide (a0 ≤ 57) = true := decide_eq_true c17
   clear c17
   obtain rfl := Option.some.inj H
   go_enter Tryd.func50, Tryd.ntmps50
   go_wp2
   go_ret
   exact ⟨by first | rfl | (simp; done) | (simp [*]; done), by repeat (first | exact Drawn0.refl _ | apply Drawn0.step)⟩
  rw [if_neg c17] at H
  have c17b0 : decide (a0 ≤ 57) = false := decide_eq_false c17
  clear c17
  by_cases c18 : a0 = 46
  ·rw [if_pos c18] at H
   have c18b0 : (a0 == 46) = true := beq_iff_eq.mpr c18
   have c18b1 : (a0 != 46) = false := bne_eq_false_iff_eq.mpr c18
   clear c18
   obtain rfl := Option.some.inj H
   go_enter Tryd.func50, Tryd.ntmps50
   go_wp2
   go_ret
   exact ⟨by first | rfl | (simp; done) | (simp [*]; done), by repeat (first | exact Drawn0.refl _ | apply Drawn0.step)⟩
  rw [if_neg c18] at H
  have c18b0 : (a0 == 46) = false := beq_eq_false_iff_ne.mpr c18
  have c18b1 : (a0 != 46) = true := bne_iff_ne.mpr c18
  by_cases c19 : a0 = 45
  ·rw [if_pos c19] at H
   have c19b0 : (a0 == 45) = true := beq_iff_eq.mpr c19
   have c19b1 : (a0 != 45) = false := bne_eq_false_iff_eq.mpr c19
   clear c19
   obtain rfl := Option.some.inj H
   go_enter Tryd.func50, Tryd.ntmps50
   go_wp2
   go_ret
   exact ⟨by first | rfl | (simp; done) | (simp [*]; done), by repeat (first | exact Drawn0.refl _ | apply Drawn0.step)⟩
  rw [if_neg c19] at H
  have c19b0 : (a0 == 45) = false := beq_eq_false_iff_ne.mpr c19
  have c19b1 : (a0 != 45) = true := bne_iff_ne.mpr c19
  by_cases c20 : a0 = 43
  ·rw [if_pos c20] at H
   have c20b0 : (a0 == 43) = true := beq_iff_eq.mpr c20
   have c20b1 : (a0 != 43) = false := bne_eq_false_iff_eq.mpr c20
   clear c20
   obtain rfl := Option.some.inj H
   go_enter Tryd.func50, Tryd.ntmps50
   go_wp2
   go_ret
   exact ⟨by first | rfl | (simp; done) | (simp [*]; done), by repeat (first | exact Drawn0.refl _ | apply Drawn0.step)⟩
  rw [if_neg c20] at H
  have c20b0 : (a0 == 43) = false := beq_eq_false_iff_ne.mpr c20
  have c20b1 : (a0 != 43) = true := bne_iff_ne.mpr c20
  refine neg_first (p := (a0 = 64)) (fun c21 => ?_) (fun c21 => ?_)
  ·rw [if_neg c21] at H
   have c21b0 : (a0 == 64) = false := beq_eq_false_iff_ne.mpr c21
   have c21b1 : (a0 != 64) = true := bne_iff_ne.mpr c21
   obtain rfl := Option.some.inj H
   go_enter Tryd.func50, Tryd.ntmps50
   go_wp2
   go_ret
   exact ⟨by first | rfl | (simp; done) | (simp [*]; done), by repeat (first | exact Drawn0.refl _ | apply Drawn0.step)⟩
  rw [if_pos c21] at H
  have c21b0 : (a0 == 64) = true := beq_iff_eq.mpr c21
  have c21b1 : (a0 != 64) = false := bne_eq_false_iff_eq.mpr c21
  clear c21
  obtain rfl := Option.some.inj H
  go_enter Tryd.func50, Tryd.ntmps50
  go_wp2
  go_ret
  exact ⟨by first | rfl | (simp; done) | (simp [*]; done), by repeat (first | exact Drawn0.refl _ | apply Drawn0.step)⟩
 rw [if_pos c4] at H
 have c4b0 : decide (65 ≤ a0) = true := decide_eq_true c4
 clear c4
 by_cases c5 : a0 ≤ 90
 ·rw [if_pos c5] at H
  have c5b0 : decide (a0 ≤ 90) = true := decide_eq_true c5
  clear c5
  obtain rfl := Option.some.inj H
  go_enter Tryd.func50, Tryd.ntmps50
  go_wp2
  go_ret
  exact ⟨by first | rfl | (simp; done) | (simp [*]; done), by repeat (first | exact Drawn0.refl _ | apply Drawn0.step)⟩
 rw [if_neg c5] at H
 have c5b0 : decide (a0 ≤ 90) = false := decide_eq_false c5
 clear c5
 refine neg_first (p := (a0 ≥ 48)) (fun c6 => ?_) (fun c6 => ?_)
 ·rw [if_neg c6] at H
  have c6b0 : decide (48 ≤ a0) = false := decide_eq_false c6
  clear c6
  by_cases c12 : a0 = 46
  ·rw [if_pos c12] at H
   have c12b0 : (a0 == 46) = true := beq_iff_eq.mpr c12
   have c12b1 : (a0 != 46) = false := bne_eq_false_iff_eq.mpr c12
   clear c12
   obtain rfl := Option.some.inj H
   go_enter Tryd.func50, Tryd.ntmps50
   go_wp2
   go_ret
   exact ⟨by first | rfl | (simp; done) | (simp [*]; done), by repeat (first | exact Drawn0.refl _ | apply Drawn0.step)⟩
  rw [if_neg c12] at H
  have c12b0 : (a0 == 46) = false := beq_eq_false_iff_ne.mpr c12
  have c12b1 : (a0 != 46) = true := bne_iff_ne.mpr c12
  by_cases c13 : a0 = 45
  ·rw [if_pos c13] at H
   have c13b0 : (a0 == 45) = true := beq_iff_eq.mpr c13
   have c13b1 : (a0 != 45) = false := bne_eq_false_iff_eq.mpr c13
   clear c13
   obtain rfl := Option.some.inj H
   go_enter Tryd.func50, Tryd.ntmps50
   go_wp2
   go_ret
   exact ⟨by first | rfl | (simp; done) | (simp [*]; done), by repeat (first | exact Drawn0.refl _ | apply Drawn0.step)⟩
  rw [if_neg c13] at H
  have c13b0 : (a0 == 45) = false := beq_eq_false_iff_ne.mpr c13
  have c13b1 : (a0 != 45) = true := bne_iff_ne.mpr c13
  by_cases c14 : a0 = 43
  ·rw [if_pos c14] at H
   have c14b0 : (a0 == 43) = true := beq_iff_eq.mpr c14
   have c14b1 : (a0 != 43) = false := bne_eq_false_iff_eq.mpr c14
   clear c14
   obtain rfl := Option.some.inj H
   go_enter Tryd.func50, Tryd.ntmps50
   go_wp2
   go_ret
   exact ⟨by first | rfl | (simp; done) | (simp [*]; done), by repeat (first | exact Drawn0.refl _ | apply Drawn0.step)⟩
  rw [if_neg c14] at H
  have c14b0 : (a0 == 43) = false := beq_eq_false_iff_ne.mpr c14
  have c14b1 : (a0 != 43) = true := bne_iff_ne.mpr c14
  refine neg_first (p := (a0 = 64)) (fun c15 => ?_) (fun c15 => ?_)
  ·rw [if_neg c15] at H
   have c15b0 : (a0 == 64) = false := beq_eq_false_iff_ne.mpr c15
   have c15b1 : (a0 != 64) = true := bne_iff_ne.mpr c15
   obtain rfl := Option.some.inj H
   go_enter Tryd.func50, Tryd.ntmps50
   go_wp2
   go_ret
   exact ⟨by first | rfl | (simp; done) | (simp [*]; done), by repeat (first | exact Drawn0.refl _ | apply Drawn0.step)⟩
  rw [if_pos c15] at H
  have c15b0 : (a0 == 64) = true := beq_iff_eq.mpr c15
  have c15b1 : (a0 != 64) = false := bne_eq_false_iff_eq.mpr c15
  clear c15
  obtain rfl := Option.some.inj H
  go_enter Tryd.func50, Tryd.ntmps50
  go_wp2
  go_ret
  exact ⟨by first | rfl | (simp; done) | (simp [*]; done), by repeat (first | exact Drawn0.refl _ | apply Drawn0.step)⟩
 rw [if_pos c6] at H
 have c6b0 : decide (48 ≤ a0) = true := decide_eq_true c6
 clear c6
 by_cases c7 : a0 ≤ 57
 ·rw [if_pos c7] at H
  have c7b0 : decide (a0 ≤ 57) = true := decide_eq_true c7
  clear c7
  obtain rfl := Option.some.inj H
  go_enter Tryd.func50, Tryd.ntmps50
  go_wp2
  go_ret
  exact ⟨by first | rfl | (simp; done) | (simp [*]; done), by repeat (first | exact Drawn0.refl _ | apply Drawn0.step)⟩
 rw [if_neg c7] at H
 have c7b0 : decide (a0 ≤ 57) = false := decide_eq_false c7
 clear c7
 by_cases c8 : a0 = 46
 ·rw [if_pos c8] at H
  have c8b0 : (a0 == 46) = true := beq_iff_eq.mpr c8
  have c8b1 : (a0 != 46) = false := bne_eq_false_iff_eq.mpr c8
  clear c8
  obtain rfl := Option.some.inj H
  go_enter Tryd.func50, Tryd.ntmps50
  go_wp2
  go_ret
  exact ⟨by first | rfl | (simp; done) | (simp [*]; done), by repeat (first | exact Drawn0.refl _ | apply Drawn0.step)⟩
 rw [if_neg c8] at H
 have c8b0 : (a0 == 46) = false := beq_eq_false_iff_ne.mpr c8
 have c8b1 : (a0 != 46) = true := bne_iff_ne.mpr c8
 by_cases c9 : a0 = 45
 ·rw [if_pos c9] at H
  have c9b0 : (a0 == 45) = true := beq_iff_eq.mpr c9
  have c9b1 : (a0 != 45) = false := bne_eq_false_iff_eq.mpr c9
  clear c9
  obtain rfl := Option.some.inj H
  go_enter Tryd.func50, Tryd.ntmps50
  go_wp2
  go_ret
  exact ⟨by first | rfl | (simp; done) | (simp [*]; done), by repeat (first | exact Drawn0.refl _ | apply Drawn0.step)⟩
 rw [if_neg c9] at H
 have c9b0 : (a0 == 45) = false := beq_eq_false_iff_ne.mpr c9
 have c9b1 : (a0 != 45) = true := bne_iff_ne.mpr c9
 by_cases c10 : a0 = 43
 ·rw [if_pos c10] at H
  have c10b0 : (a0 == 43) = true := beq_iff_eq.mpr c10
  have c10b1 : (a0 != 43) = false := bne_eq_false_iff_eq.mpr c10
  clear c10
  obtain rfl := Option.some.inj H
  go_enter Tryd.func50, Tryd.ntmps50
  go_wp2
  go_ret
  exact ⟨by first | rfl | (simp; done) | (simp [*]; done), by repeat (first | exact Drawn0.refl _ | apply Drawn0.step)⟩
 rw [if_neg c10] at H
 have c10b0 : (a0 == 43) = false := beq_eq_false_iff_ne.mpr c10
 have c10b1 : (a0 != 43) = true := bne_iff_ne.mpr c10
 refine neg_first (p := (a0 = 64)) (fun c11 => ?_) (fun c11 => ?_)
 ·rw [if_neg c11] at H
  have c11b0 : (a0 == 64) = false := beq_eq_false_iff_ne.mpr c11
  have c11b1 : (a0 != 64) = true := bne_iff_ne.mpr c11
  obtain rfl := Option.some.inj H
  go_enter Tryd.func50, Tryd.ntmps50
  go_wp2
  go_ret
  exact ⟨by first | rfl | (simp; done) | (simp [*]; done), by repeat (first | exact Drawn0.refl _ | apply Drawn0.step)⟩
 rw [if_pos c11] at H
 have c11b0 : (a0 == 64) = true := beq_iff_eq.mpr c11
 have c11b1 : (a0 != 64) = false := bne_eq_false_iff_eq.mpr c11
 clear c11
 obtain rfl := Option.some.inj H
 go_enter Tryd.func50, Tryd.ntmps50
 go_wp2
 go_ret
 exact ⟨by first | rfl | (simp; done) | (simp [*]; done), by repeat (first | exact Drawn0.refl _ | apply Drawn0.step)⟩
end Go.Proofs.YtclcnkmefldpiaaDoor.P
namespace Go.Proofs.YtclcnkmefldpiaaDoor.P
open Go.RowKit Go.Proofs.YtclcnkmefldpiaaDoorW.PrintWords Go.Proofs.YtclcnkmefldpiaaDoorW.PrintLast Go.Proofs.YtclcnkmefldpiaaDoorW.PrintMore
attribute [local go_sem] max2_int min2_int max_two min_two max_three min_three max_four min_four   -- for this text's walks alone
set_option linter.unusedVariables false
set_option linter.unusedSimpArgs false
set_option linter.unnecessarySimpa false
mutual
def headgateref21_Good.l0 : Nat → List (S45) → Int → Option (Bool)
 | 0, _, _ => none
 | k + 1, x0, x3 => if x3 < (x0.length : Int) then (if 0 ≤ x3 then (if (((rd_T45 x0 x3).f0).size : Int) < 1 then (headgateref21_Good.j1 k x0 x3 true) else (if (((rd_T45 x0 x3).f0).size : Int) > 63 then (headgateref21_Good.j1 k x0 x3 true) else (headgateref21_Good.j1 k x0 x3 (decide ((((rd_T45 x0 x3).f1).size : Int) > 255))))) else (none)) else (some true)
def headgateref21_Good.j1 : Nat → List (S45) → Int → Bool → Option (Bool)
 | 0, _, _, _ => none
 | k + 1, x0, x3, x40 => if x40 = true then (some false) else (headgateref21_Good.l1 k x0 x3 0)
def headgateref21_Good.l1 : Nat → List (S45) → Int → Int → Option (Bool)
 | 0, _, _, _ => none
 | k + 1, x0, x3, x4 => if 0 ≤ x3 then (if x3 < (x0.length : Int) then (if x4 < (((rd_T45 x0 x3).f0).size : Int) then (if 0 ≤ x4 then ((headgateref21_letter.f (bt ((rd_T45 x0 x3).f0) x4)).bind fun t161 => (if t161 = true then (headgateref21_Good.l1 k x0 x3 (wrap64 (x4 + 1))) else (some false))) else (none)) else (headgateref21_Good.l2 k x0 x3 0)) else (none)) else (none)
def headgateref21_Good.l2 : Nat → List (S45) → Int → Int → Option (Bool)
 | 0, _, _, _ => none
 | k + 1, x0, x3, x5 => if 0 ≤ x3 then (if x3 < (x0.length : Int) then (if x5 < (((rd_T45 x0 x3).f1).size : Int) then (if 0 ≤ x5 then (if (bt ((rd_T45 x0 x3).f1) x5) = 0 then (some false) else (headgateref21_Good.l2 k x0 x3 (wrap64 (x5 + 1)))) else (none)) else (headgateref21_Good.l3 k x0 x3 0)) else (none)) else (none)
def headgateref21_Good.l3 : Nat → List (S45) → Int → Int → Option (Bool)
 | 0, _, _, _ => none
 | k + 1, x0, x3, x6 => if x6 < x3 then (if 0 ≤ x6 then (if x6 < (x0.length : Int) then (if 0 ≤ x3 then (if x3 < (x0.length : Int) then (if ((rd_T45 x0 x6).f0).toList = ((rd_T45 x0 x3).f0).toList then (some false) else (headgateref21_Good.l3 k x0 x3 (wrap64 (x6 + 1)))) else (none)) else (none)) else (none)) else (none)) else (headgateref21_Good.l0 k x0 (wrap64 (x3 + 1)))
end
def headgateref21_Good.f (k : Nat) (l0 : List (S45)) : Option (Bool) := if (l0.length : Int) > 16 then (some false) else (headgateref21_Good.l0 k l0 0)
theorem headgateref21_Good.mono_l : ∀ k, (∀ y0 y1, LeO (headgateref21_Good.l0 k y0 y1) (headgateref21_Good.l0 (k + 1) y0 y1)) ∧ (∀ y0 y1 y2, LeO (headgateref21_Good.j1 k y0 y1 y2) (headgateref21_Good.j1 (k + 1) y0 y1 y2)) ∧ (∀ y0 y1 y2, LeO (headgateref21_Good.l1 k y0 y1 y2) (headgateref21_Good.l1 (k + 1) y0 y1 y2)) ∧ (∀ y0 y1 y2, LeO (headgateref21_Good.l2 k y0 y1 y2) (headgateref21_Good.l2 (k + 1) y0 y1 y2)) ∧ (∀ y0 y1 y2, LeO (headgateref21_Good.l3 k y0 y1 y2) (headgateref21_Good.l3 (k + 1) y0 y1 y2))
 | 0 => ⟨fun _ _ r h => by simp [headgateref21_Good.l0] at h, fun _ _ _ r h => by simp [headgateref21_Good.j1] at h, fun _ _ _ r h => by simp [headgateref21_Good.l1] at h, fun _ _ _ r h => by simp [headgateref21_Good.l2] at h, fun _ _ _ r h => by simp [headgateref21_Good.l3] at h⟩
 | k + 1 => by
  obtain ⟨ih0, ih1, ih2, ih3, ih4⟩ := headgateref21_Good.mono_l k
  refine ⟨?_, ?_, ?_, ?_, ?_⟩
  ·intro y0 y1
   unfold headgateref21_Good.l0
   repeat' first
   | (with_reducible exact ih0 _ _)
   | (with_reducible exact ih1 _ _ _)
   | (with_reducible exact ih2 _ _ _)
   | (with_reducible exact ih3 _ _ _)
   | (with_reducible exact ih4 _ _ _)
   | (with_reducible exact LeO.refl _)
   | (with_reducible exact LeO.none _)
   | (with_reducible refine LeO.ite ?_ ?_)
   | (with_reducible refine LeO.bind ?_ (fun _ => ?_))
   | exact ih0 _ _
   | exact ih1 _ _ _
   | exact ih2 _ _ _
   | exact ih3 _ _ _
   | exact ih4 _ _ _
   | exact LeO.none _
   | refine LeO.ite ?_ ?_
   | refine LeO.bind ?_ (fun _ => ?_)
  ·intro y0 y1 y2
   unfold headgateref21_Good.j1
   repeat' first
   | (with_reducible exact ih0 _ _)
   | (with_reducible exact ih1 _ _ _)
   | (with_reducible exact ih2 _ _ _)
   | (with_reducible exact ih3 _ _ _)
   | (with_reducible exact ih4 _ _ _)
   | (with_reducible exact LeO.refl _)
   | (with_reducible exact LeO.none _)
   | (with_reducible refine LeO.ite ?_ ?_)
   | (with_reducible refine LeO.bind ?_ (fun _ => ?_))
   | exact ih0 _ _
   | exact ih1 _ _ _
   | exact ih2 _ _ _
   | exact ih3 _ _ _
   | exact ih4 _ _ _
   | exact LeO.none _
   | refine LeO.ite ?_ ?_
   | refine LeO.bind ?_ (fun _ => ?_)
  ·intro y0 y1 y2
   unfold headgateref21_Good.l1
   repeat' first
   | (with_reducible exact ih0 _ _)
   | (with_reducible exact ih1 _ _ _)
   | (with_reducible exact ih2 _ _ _)
   | (with_reducible exact ih3 _ _ _)
   | (with_reducible exact ih4 _ _ _)
   | (with_reducible exact LeO.refl _)
   | (with_reducible exact LeO.none _)
   | (with_reducible refine LeO.ite ?_ ?_)
   | (with_reducible refine LeO.bind ?_ (fun _ => ?_))
   | exact ih0 _ _
   | exact ih1 _ _ _
   | exact ih2 _ _ _
   | exact ih3 _ _ _
   | exact ih4 _ _ _
   | exact LeO.none _
   | refine LeO.ite ?_ ?_
   | refine LeO.bind ?_ (fun _ => ?_)
  ·intro y0 y1 y2
   unfold headgateref21_Good.l2
   repeat' first
   | (with_reducible exact ih0 _ _)
   | (with_reducible exact ih1 _ _ _)
   | (with_reducible exact ih2 _ _ _)
   | (with_reducible exact ih3 _ _ _)
   | (with_reducible exact ih4 _ _ _)
   | (with_reducible exact LeO.refl _)
   | (with_reducible exact LeO.none _)
   | (with_reducible refine LeO.ite ?_ ?_)
   | (with_reducible refine LeO.bind ?_ (fun _ => ?_))
   | exact ih0 _ _
   | exact ih1 _ _ _
   | exact ih2 _ _ _
   | exact ih3 _ _ _
   | exact ih4 _ _ _
   | exact LeO.none _
   | refine LeO.ite ?_ ?_
   | refine LeO.bind ?_ (fun _ => ?_)
  ·intro y0 y1 y2
   unfold headgateref21_Good.l3
   repeat' first
   | (with_reducible exact ih0 _ _)
   | (with_reducible exact ih1 _ _ _)
   | (with_reducible exact ih2 _ _ _)
   | (with_reducible exact ih3 _ _ _)
   | (with_reducible exact ih4 _ _ _)
   | (with_reducible exact LeO.refl _)
   | (with_reducible exact LeO.none _)
   | (with_reducible refine LeO.ite ?_ ?_)
   | (with_reducible refine LeO.bind ?_ (fun _ => ?_))
   | exact ih0 _ _
   | exact ih1 _ _ _
   | exact ih2 _ _ _
   | exact ih3 _ _ _
   | exact ih4 _ _ _
   | exact LeO.none _
   | refine LeO.ite ?_ ?_
   | refine LeO.bind ?_ (fun _ => ?_)
theorem headgateref21_Good.mono : ∀ a0 k, LeO (headgateref21_Good.f k a0) (headgateref21_Good.f (k + 1) a0) := by
 intro a0 k
 obtain ⟨ih0, ih1, ih2, ih3, ih4⟩ := headgateref21_Good.mono_l k
 unfold headgateref21_Good.f
 repeat' first
   | (with_reducible exact ih0 _ _)
   | (with_reducible exact ih1 _ _ _)
   | (with_reducible exact ih2 _ _ _)
   | (with_reducible exact ih3 _ _ _)
   | (with_reducible exact ih4 _ _ _)
   | (with_reducible exact LeO.refl _)
   | (with_reducible exact LeO.none _)
   | (with_reducible refine LeO.ite ?_ ?_)
   | (with_reducible refine LeO.bind ?_ (fun _ => ?_))
   | exact ih0 _ _
   | exact ih1 _ _ _
   | exact ih2 _ _ _
   | exact ih3 _ _ _
   | exact ih4 _ _ _
   | exact LeO.none _
   | refine LeO.ite ?_ ?_
   | refine LeO.bind ?_ (fun _ => ?_)
set_option maxHeartbeats 8000000 in
set_option maxRecDepth 100000 in
theorem headgateref21_Good.calls (k : Nat) (A0 : Option Addr) (c0 : Nat) (l0 : List (S45)) (r : Bool) (w : World) (hr0 : Kd.C k45 w A0 l0.length l0) (hc0 : l0.length ≤ c0) (h : headgateref21_Good.f k l0 = some r) :
  Calls Tryd.prog 24 #[.slice A0 l0.length c0] w fun e w' => e = .returned (.bool r) ∧ Drawn0 w w' := by
 have HR0 := Aside0.mk hr0
 have HC0 := Aside0.mk hc0
 clear hr0 hc0
 have H : (if (l0.length : Int) > 16 then (some false) else (headgateref21_Good.l0 k l0 0)) = some r := h
 clear h
 by_cases c2 : (l0.length : Int) > 16
 ·rw [if_pos c2] at H
  have c2b0 : decide (16 < (l0.length : Int)) = true := decide_eq_true c2
  have c2b1 : decide (16 < l0.length) = true := decide_eq_true (by omega)
  clear c2
  obtain rfl := Option.some.inj H
  go_enter Tryd.func24, Tryd.ntmps24
  go_wp2
  repeat (go_quiet (fail); try go_wp2)
  go_ret
  exact ⟨by first | rfl | (simp; done) | (simp [*]; done), by repeat (first | exact Drawn0.refl _ | apply Drawn0.step)⟩
 rw [if_neg c2] at H
 have c2b0 : decide (16 < (l0.length : Int)) = false := decide_eq_false c2
 have c2b1 : decide (16 < l0.length) = false := decide_eq_false (by omega)
 clear c2
 have H' := Aside0.mk H
 clear H
 go_enter Tryd.func24, Tryd.ntmps24
 go_wp2
 repeat (go_quiet (fail); try go_wp2)
 go_loopg [3] k (fun kq v3 w' => ∃ (x3_1 : Int), v3 = .int .i64 x3_1 ∧ Aside0 (headgateref21_Good.l0 kq l0 x3_1 = some r) ∧ Aside0 (kq ≤ k) ∧ Drawn0 w w')
 case atStart => exact ⟨(0), (by first | rfl | (simp; done) | (simp [*]; done)), H', ⟨Nat.le_refl _⟩, by repeat (first | exact Drawn0.refl _ | apply Drawn0.step)⟩
 case round =>
  clear H'
  try clear c2
  try clear c2b0
  try clear c2b1
  try clear p2
  obtain ⟨x3_1, rfl, HA, HK1, ⟨m1, rfl⟩⟩ := hrel
  cases gk with
  | zero => exact absurd HA.out (by simp [headgateref21_Good.l0])
  | succ k1 =>
   have H := HA.out
   clear HA
   simp only [headgateref21_Good.l0] at H
   refine neg_first (p := (x3_1 < (l0.length : Int))) (fun c3 => ?_) (fun c3 => ?_)
   ·rw [if_neg c3] at H
    have c3b0 : decide (x3_1 < (l0.length : Int)) = false := decide_eq_false c3
    clear c3
    obtain rfl := Option.some.inj H
    go_wp2
    repeat (go_quiet (fail); try go_wp2)
    go_ret
    exact ⟨by first | rfl | (simp; done) | (simp [*]; done), by repeat (first | exact Drawn0.refl _ | apply Drawn0.step)⟩
   rw [if_pos c3] at H
   have c3b0 : decide (x3_1 < (l0.length : Int)) = true := decide_eq_true c3
   clear c3
   have HC4 := Aside0.mk H
   clear H
   go_upto_region 6 with (fail)
   repeat (go_quiet (fail); go_upto_region 6 with (fail))
   go_cut [40] (fun v40 wc => ∃ (kq : Nat) (x40_3 : Bool), v40 = .bool x40_3 ∧ Aside0 (headgateref21_Good.j1 kq l0 x3_1 x40_3 = some r) ∧ Aside0 (kq ≤ k1) ∧ Drawn0 w wc)
   case first =>
    have H := HC4.out
    clear HC4
    refine neg_first (p := (0 ≤ x3_1)) (fun c5 => ?_) (fun c5 => ?_)
    ·rw [if_neg c5] at H
     exact absurd H (by simp)
    rw [if_pos c5] at H
    have c5b0 : decide (0 ≤ x3_1) = true := decide_eq_true c5
    clear c5
    (first | rw [c5b0] | (simp only [i64_w, i32_w]; rw [c5b0]) | skip)
    by_cases c6 : (((rd_T45 l0 x3_1).f0).size : Int) < 1
    ·rw [if_pos c6] at H
     have c6b0 : decide ((((rd_T45 l0 x3_1).f0).size : Int) < 1) = true := decide_eq_true c6
     have c6b1 : decide (((rd_T45 l0 x3_1).f0).size < 1) = true := decide_eq_true (by omega)
     clear c6
     have H' := Aside0.mk H
     clear H
     have p156 : 0 ≤ (x3_1 : Int) := of_decide_eq_true (by first | (with_reducible assumption) | assumption)
     have q156 : x3_1 < (l0.length : Int) := of_decide_eq_true (by first | (with_reducible assumption) | assumption)
     obtain ⟨ad156, e156, hx156_0, hx156_1⟩ := at_T45 HR0.out x3_1 p156 q156
     cases e156
     replace p156 := eq_true p156
     replace q156 := eq_true q156
     go_wp2
     repeat (go_quiet (fail); try go_wp2)
     go_meet
     case rel => exact ⟨_, (true), (by first | rfl | (simp; done) | (simp [*]; done)), H', ⟨by have := HK1.out; first | omega | exact Nat.le_refl _⟩, by repeat (first | exact Drawn0.refl _ | apply Drawn0.step)⟩
    rw [if_neg c6] at H
    have c6b0 : decide ((((rd_T45 l0 x3_1).f0).size : Int) < 1) = false := decide_eq_false c6
    have c6b1 : decide (((rd_T45 l0 x3_1).f0).size < 1) = false := decide_eq_false (by omega)
    clear c6
    by_cases c7 : (((rd_T45 l0 x3_1).f0).size : Int) > 63
    ·rw [if_pos c7] at H
     have c7b0 : decide (63 < (((rd_T45 l0 x3_1).f0).size : Int)) = true := decide_eq_true c7
     have c7b1 : decide (63 < ((rd_T45 l0 x3_1).f0).size) = true := decide_eq_true (by omega)
     clear c7
     have H' := Aside0.mk H
     clear H
     have p156 : 0 ≤ (x3_1 : Int) := of_decide_eq_true (by first | (with_reducible assumption) | assumption)
     have q156 : x3_1 < (l0.length : Int) := of_decide_eq_true (by first | (with_reducible assumption) | assumption)
     obtain ⟨ad156, e156, hx156_0, hx156_1⟩ := at_T45 HR0.out x3_1 p156 q156
     cases e156
     replace p156 := eq_true p156
     replace q156 := eq_true q156
     have p157 : 0 ≤ (x3_1 : Int) := of_decide_eq_true (by first | (with_reducible assumption) | assumption)
     have q157 : x3_1 < (l0.length : Int) := of_decide_eq_true (by first | (with_reducible assumption) | assumption)
     obtain ⟨ad157, e157, hx157_0, hx157_1⟩ := at_T45 HR0.out x3_1 p157 q157
     obtain rfl : ad156 = ad157 := (by injection e157)
     replace p157 := eq_true p157
     replace q157 := eq_true q157
     go_wp2
     repeat (go_quiet (fail); try go_wp2)
     go_meet
     case rel => exact ⟨_, (true), (by first | rfl | (simp; done) | (simp [*]; done)), H', ⟨by have := HK1.out; first | omega | exact Nat.le_refl _⟩, by repeat (first | exact Drawn0.refl _ | apply Drawn0.step)⟩
    rw [if_neg c7] at H
    have c7b0 : decide (63 < (((rd_T45 l0 x3_1).f0).size : Int)) = false := decide_eq_false c7
    have c7b1 : decide (63 < ((rd_T45 l0 x3_1).f0).size) = false := decide_eq_false (by omega)
    clear c7
    have H' := Aside0.mk H
    clear H
    have p156 : 0 ≤ (x3_1 : Int) := of_decide_eq_true (by first | (with_reducible assumption) | assumption)
    have q156 : x3_1 < (l0.length : Int) := of_decide_eq_true (by first | (with_reducible assumption) | assumption)
    obtain ⟨ad156, e156, hx156_0, hx156_1⟩ := at_T45 HR0.out x3_1 p156 q156
    cases e156
    replace p156 := eq_true p156
    replace q156 := eq_true q156
    have p157 : 0 ≤ (x3_1 : Int) := of_decide_eq_true (by first | (with_reducible assumption) | assumption)
    have q157 : x3_1 < (l0.length : Int) := of_decide_eq_true (by first | (with_reducible assumption) | assumption)
    obtain ⟨ad157, e157, hx157_0, hx157_1⟩ := at_T45 HR0.out x3_1 p157 q157
    obtain rfl : ad156 = ad157 := (by injection e157)
    replace p157 := eq_true p157
    replace q157 := eq_true q157
    have p158 : 0 ≤ (x3_1 : Int) := of_decide_eq_true (by first | (with_reducible assumption) | assumption)
    have q158 : x3_1 < (l0.length : Int) := of_decide_eq_true (by first | (with_reducible assumption) | assumption)
    obtain ⟨ad158, e158, hx158_0, hx158_1⟩ := at_T45 HR0.out x3_1 p158 q158
    obtain rfl : ad156 = ad158 := (by injection e158)
    replace p158 := eq_true p158
    replace q158 := eq_true q158
    go_wp2
    repeat (go_quiet (fail); try go_wp2)
    go_meet
    case rel => exact ⟨_, (decide ((((rd_T45 l0 x3_1).f1).size : Int) > 255)), (by first | rfl | (simp; done) | (simp [*]; done)), H', ⟨by have := HK1.out; first | omega | exact Nat.le_refl _⟩, by repeat (first | exact Drawn0.refl _ | apply Drawn0.step)⟩
   case rest =>
    clear HC4
    try clear p1
    try clear q1
    try clear hx1
    try clear c2
    try clear c2b0
    try clear c2b1
    try clear p2
    try clear c3
    try clear c3b0
    try clear c5
    try clear c5b0
    try clear c6
    try clear c6b0
    try clear c6b1
    try clear c7
    try clear c7b0
    try clear c7b1
    try clear hx156_0
    try clear hx156_1
    try clear hx157_0
    try clear hx157_1
    try clear hx158_0
    try clear hx158_1
    try clear p156
    try clear p157
    try clear p158
    try clear p2
    try clear q156
    try clear q157
    try clear q158
    obtain ⟨kq, x40_3, rfl, HA, HJ3, ⟨mc3, rfl⟩⟩ := hcut
    cases kq with
    | zero => exact absurd HA.out (by simp [headgateref21_Good.j1])
    | succ kj3 =>
     have H := HA.out
     clear HA
     simp only [headgateref21_Good.j1] at H
     by_cases c8 : x40_3 = true
     ·subst c8
      have H1 := H
      rw [if_pos rfl] at H1
      clear H
      have H := H1
      clear H1
      obtain rfl := Option.some.inj H
      go_wp2
      repeat (go_quiet (fail); try go_wp2)
      go_ret
      exact ⟨by first | rfl | (simp; done) | (simp [*]; done), by repeat (first | exact Drawn0.refl _ | apply Drawn0.step)⟩
     replace c8 := Bool.eq_false_iff.mpr c8
     subst c8
     have H1 := H
     rw [if_neg (show ¬ (false = true) by decide)] at H1
     clear H
     have H := H1
     clear H1
     have H' := Aside0.mk H
     clear H
     go_wp2
     repeat (go_quiet (fail); try go_wp2)
     go_loopg [4] kj3 (fun kq v4 w' => ∃ (x4_3 : Int), v4 = .int .i64 x4_3 ∧ Aside0 (headgateref21_Good.l1 kq l0 x3_1 x4_3 = some r) ∧ Aside0 (kq ≤ kj3) ∧ Drawn0 w w')
     case atStart => exact ⟨(0), (by first | rfl | (simp; done) | (simp [*]; done)), H', ⟨Nat.le_refl _⟩, by repeat (first | exact Drawn0.refl _ | apply Drawn0.step)⟩
     case round =>
      clear H'
      try clear p1
      try clear q1
      try clear hx1
      try clear c2
      try clear c2b0
      try clear c2b1
      try clear p2
      try clear c3
      try clear c3b0
      try clear c5
      try clear c5b0
      try clear c6
      try clear c6b0
      try clear c6b1
      try clear c7
      try clear c7b0
      try clear c7b1
      try clear c8
      try clear hx156_0
      try clear hx156_1
      try clear hx157_0
      try clear hx157_1
      try clear hx158_0
      try clear hx158_1
      try clear p1
      try clear p156
      try clear p157
      try clear p158
      try clear p2
      try clear q1
      try clear q156
      try clear q157
      try clear q158
      obtain ⟨x4_3, rfl, HA, HK3, ⟨m3, rfl⟩⟩ := hrel
      cases gk with
      | zero => exact absurd HA.out (by simp [headgateref21_Good.l1])
      | succ k3 =>
       have H := HA.out
       clear HA
       simp only [headgateref21_Good.l1] at H
       refine neg_first (p := (0 ≤ x3_1)) (fun c9 => ?_) (fun c9 => ?_)
       ·rw [if_neg c9] at H
        exact absurd H (by simp)
       rw [if_pos c9] at H
       have c9b0 : decide (0 ≤ x3_1) = true := decide_eq_true c9
       clear c9
       refine neg_first (p := (x3_1 < (l0.length : Int))) (fun c10 => ?_) (fun c10 => ?_)
       ·rw [if_neg c10] at H
        exact absurd H (by simp)
       rw [if_pos c10] at H
       have c10b0 : decide (x3_1 < (l0.length : Int)) = true := decide_eq_true c10
       clear c10
       by_cases c11 : x4_3 < (((rd_T45 l0 x3_1).f0).size : Int)
       ·rw [if_pos c11] at H
        have c11b0 : decide (x4_3 < (((rd_T45 l0 x3_1).f0).size : Int)) = true := decide_eq_true c11
        clear c11
        refine neg_first (p := (0 ≤ x4_3)) (fun c12 => ?_) (fun c12 => ?_)
        ·rw [if_neg c12] at H
         exact absurd H (by simp)
        rw [if_pos c12] at H
        have c12b0 : decide (0 ≤ x4_3) = true := decide_eq_true c12
        clear c12
        replace H := Option.bind_eq_some_iff.mp H
        obtain ⟨t161, A140, H⟩ := H
        try dsimp only at H
        have A14 := Aside0.mk A140
        clear A140
        refine neg_first (p := (t161 = true)) (fun c15 => ?_) (fun c15 => ?_)
        ·replace c15 := Bool.eq_false_iff.mpr c15
         subst c15
         have H1 := H
         rw [if_neg (show ¬ (false = true) by decide)] at H1
         clear H
         have H := H1
         clear H1
         obtain rfl := Option.some.inj H
         have p159 : 0 ≤ (x3_1 : Int) := of_decide_eq_true (by first | (with_reducible assumption) | assumption)
         have q159 : x3_1 < (l0.length : Int) := of_decide_eq_true (by first | (with_reducible assumption) | assumption)
         obtain ⟨ad159, e159, hx159_0, hx159_1⟩ := at_T45 HR0.out x3_1 p159 q159
         cases e159
         replace p159 := eq_true p159
         replace q159 := eq_true q159
         have p160 : 0 ≤ (x3_1 : Int) := of_decide_eq_true (by first | (with_reducible assumption) | assumption)
         have q160 : x3_1 < (l0.length : Int) := of_decide_eq_true (by first | (with_reducible assumption) | assumption)
         obtain ⟨ad160, e160, hx160_0, hx160_1⟩ := at_T45 HR0.out x3_1 p160 q160
         obtain rfl : ad159 = ad160 := (by injection e160)
         replace p160 := eq_true p160
         replace q160 := eq_true q160
         have p13 : 0 ≤ (x4_3 : Int) := of_decide_eq_true (by first | (with_reducible assumption) | assumption)
         have q13 : x4_3 < (((rd_T45 l0 x3_1).f0).size : Int) := of_decide_eq_true (by first | (with_reducible assumption) | assumption)
         have hx13 := bt_at ((rd_T45 l0 x3_1).f0) x4_3
         replace p13 := eq_true p13
         replace q13 := eq_true q13
         go_wp2_with (first | (go_at_call 50; (with_reducible refine (headgateref21_letter.calls (bt ((rd_T45 l0 x3_1).f0) x4_3) false _ A14.out).mono ?_); rintro e w' ⟨rfl, ⟨nd, rfl⟩⟩; (try first | exact ⟨rfl, _, World.drewN_drewN _ _ _⟩ | exact ⟨rfl, _, Eq.trans (World.drewN_drewN _ _ _) (congrArg (World.drewN _) (Nat.add_assoc _ _ _))⟩)))
         repeat (go_quiet (first | (go_at_call 50; (with_reducible refine (headgateref21_letter.calls (bt ((rd_T45 l0 x3_1).f0) x4_3) false _ A14.out).mono ?_); rintro e w' ⟨rfl, ⟨nd, rfl⟩⟩; (try first | exact ⟨rfl, _, World.drewN_drewN _ _ _⟩ | exact ⟨rfl, _, Eq.trans (World.drewN_drewN _ _ _) (congrArg (World.drewN _) (Nat.add_assoc _ _ _))⟩))); try go_wp2_with (first | (go_at_call 50; (with_reducible refine (headgateref21_letter.calls (bt ((rd_T45 l0 x3_1).f0) x4_3) false _ A14.out).mono ?_); rintro e w' ⟨rfl, ⟨nd, rfl⟩⟩; (try first | exact ⟨rfl, _, World.drewN_drewN _ _ _⟩ | exact ⟨rfl, _, Eq.trans (World.drewN_drewN _ _ _) (congrArg (World.drewN _) (Nat.add_assoc _ _ _))⟩))))
         go_ret
         exact ⟨by first | rfl | (simp; done) | (simp [*]; done), by repeat (first | exact Drawn0.refl _ | apply Drawn0.step)⟩
        subst c15
        have H1 := H
        rw [if_pos rfl] at H1
        clear H
        have H := H1
        clear H1
        have H' := Aside0.mk H
        clear H
        have p159 : 0 ≤ (x3_1 : Int) := of_decide_eq_true (by first | (with_reducible assumption) | assumption)
        have q159 : x3_1 < (l0.length : Int) := of_decide_eq_true (by first | (with_reducible assumption) | assumption)
        obtain ⟨ad159, e159, hx159_0, hx159_1⟩ := at_T45 HR0.out x3_1 p159 q159
        cases e159
        replace p159 := eq_true p159
        replace q159 := eq_true q159
        have p160 : 0 ≤ (x3_1 : Int) := of_decide_eq_true (by first | (with_reducible assumption) | assumption)
        have q160 : x3_1 < (l0.length : Int) := of_decide_eq_true (by first | (with_reducible assumption) | assumption)
        obtain ⟨ad160, e160, hx160_0, hx160_1⟩ := at_T45 HR0.out x3_1 p160 q160
        obtain rfl : ad159 = ad160 := (by injection e160)
        replace p160 := eq_true p160
        replace q160 := eq_true q160
        have p13 : 0 ≤ (x4_3 : Int) := of_decide_eq_true (by first | (with_reducible assumption) | assumption)
        have q13 : x4_3 < (((rd_T45 l0 x3_1).f0).size : Int) := of_decide_eq_true (by first | (with_reducible assumption) | assumption)
        have hx13 := bt_at ((rd_T45 l0 x3_1).f0) x4_3
        replace p13 := eq_true p13
        replace q13 := eq_true q13
        go_wp2_with (first | (go_at_call 50; (with_reducible refine (headgateref21_letter.calls (bt ((rd_T45 l0 x3_1).f0) x4_3) true _ A14.out).mono ?_); rintro e w' ⟨rfl, ⟨nd, rfl⟩⟩; (try first | exact ⟨rfl, _, World.drewN_drewN _ _ _⟩ | exact ⟨rfl, _, Eq.trans (World.drewN_drewN _ _ _) (congrArg (World.drewN _) (Nat.add_assoc _ _ _))⟩)))
        repeat (go_quiet (first | (go_at_call 50; (with_reducible refine (headgateref21_letter.calls (bt ((rd_T45 l0 x3_1).f0) x4_3) true _ A14.out).mono ?_); rintro e w' ⟨rfl, ⟨nd, rfl⟩⟩; (try first | exact ⟨rfl, _, World.drewN_drewN _ _ _⟩ | exact ⟨rfl, _, Eq.trans (World.drewN_drewN _ _ _) (congrArg (World.drewN _) (Nat.add_assoc _ _ _))⟩))); try go_wp2_with (first | (go_at_call 50; (with_reducible refine (headgateref21_letter.calls (bt ((rd_T45 l0 x3_1).f0) x4_3) true _ A14.out).mono ?_); rintro e w' ⟨rfl, ⟨nd, rfl⟩⟩; (try first | exact ⟨rfl, _, World.drewN_drewN _ _ _⟩ | exact ⟨rfl, _, Eq.trans (World.drewN_drewN _ _ _) (congrArg (World.drewN _) (Nat.add_assoc _ _ _))⟩))))
        go_roundg k3
        case measure => have := HK1.out; have := HJ3.out; have := HK3.out; omega
        case rel => exact ⟨(wrap64 (x4_3 + 1)), (by first | rfl | (simp; done) | (simp [*]; done)), H', ⟨by have := HK1.out; have := HJ3.out; have := HK3.out; omega⟩, by repeat (first | exact Drawn0.refl _ | apply Drawn0.step)⟩
       rw [if_neg c11] at H
       have c11b0 : decide (x4_3 < (((rd_T45 l0 x3_1).f0).size : Int)) = false := decide_eq_false c11
       clear c11
       have H' := Aside0.mk H
       clear H
       have p159 : 0 ≤ (x3_1 : Int) := of_decide_eq_true (by first | (with_reducible assumption) | assumption)
       have q159 : x3_1 < (l0.length : Int) := of_decide_eq_true (by first | (with_reducible assumption) | assumption)
       obtain ⟨ad159, e159, hx159_0, hx159_1⟩ := at_T45 HR0.out x3_1 p159 q159
       cases e159
       replace p159 := eq_true p159
       replace q159 := eq_true q159
       go_wp2
       repeat (go_quiet (fail); try go_wp2)
       go_loopg [5] k3 (fun kq v5 w' => ∃ (x5_4 : Int), v5 = .int .i64 x5_4 ∧ Aside0 (headgateref21_Good.l2 kq l0 x3_1 x5_4 = some r) ∧ Aside0 (kq ≤ k3) ∧ Drawn0 w w')
       case atStart => exact ⟨(0), (by first | rfl | (simp; done) | (simp [*]; done)), H', ⟨Nat.le_refl _⟩, by repeat (first | exact Drawn0.refl _ | apply Drawn0.step)⟩
       case round =>
        clear H'
        try clear c1
        try clear p1
        try clear q1
        try clear hx1
        try clear c2
        try clear c2b0
        try clear c2b1
        try clear p2
        try clear c3
        try clear c3b0
        try clear c5
        try clear c5b0
        try clear c6
        try clear c6b0
        try clear c6b1
        try clear p6
        try clear c7
        try clear c7b0
        try clear c7b1
        try clear c8
        try clear c9
        try clear c9b0
        try clear c10
        try clear c10b0
        try clear c11
        try clear c11b0
        try clear c12
        try clear c12b0
        try clear p13
        try clear q13
        try clear hx13
        try clear c15
        try clear p15
        try clear q15
        try clear hx15
        try clear hx156_0
        try clear hx156_1
        try clear hx157_0
        try clear hx157_1
        try clear hx158_0
        try clear hx158_1
        try clear hx159_0
        try clear hx159_1
        try clear hx160_0
        try clear hx160_1
        try clear p1
        try clear p13
        try clear p156
        try clear p157
        try clear p158
        try clear p159
        try clear p160
        try clear p2
        try clear q1
        try clear q13
        try clear q156
        try clear q157
        try clear q158
        try clear q159
        try clear q160
        obtain ⟨x5_4, rfl, HA, HK4, ⟨m4, rfl⟩⟩ := hrel
        cases gk with
        | zero => exact absurd HA.out (by simp [headgateref21_Good.l2])
        | succ k4 =>
         have H := HA.out
         clear HA
         simp only [headgateref21_Good.l2] at H
         refine neg_first (p := (0 ≤ x3_1)) (fun c16 => ?_) (fun c16 => ?_)
         ·rw [if_neg c16] at H
          exact absurd H (by simp)
         rw [if_pos c16] at H
         have c16b0 : decide (0 ≤ x3_1) = true := decide_eq_true c16
         clear c16
         refine neg_first (p := (x3_1 < (l0.length : Int))) (fun c17 => ?_) (fun c17 => ?_)
         ·rw [if_neg c17] at H
          exact absurd H (by simp)
         rw [if_pos c17] at H
         have c17b0 : decide (x3_1 < (l0.length : Int)) = true := decide_eq_true c17
         clear c17
         by_cases c18 : x5_4 < (((rd_T45 l0 x3_1).f1).size : Int)
         ·rw [if_pos c18] at H
          have c18b0 : decide (x5_4 < (((rd_T45 l0 x3_1).f1).size : Int)) = true := decide_eq_true c18
          clear c18
          refine neg_first (p := (0 ≤ x5_4)) (fun c19 => ?_) (fun c19 => ?_)
          ·rw [if_neg c19] at H
           exact absurd H (by simp)
          rw [if_pos c19] at H
          have c19b0 : decide (0 ≤ x5_4) = true := decide_eq_true c19
          clear c19
          by_cases c21 : (bt ((rd_T45 l0 x3_1).f1) x5_4) = 0
          ·rw [if_pos c21] at H
           have c21b0 : ((bt ((rd_T45 l0 x3_1).f1) x5_4) == 0) = true := beq_iff_eq.mpr c21
           have c21b1 : ((bt ((rd_T45 l0 x3_1).f1) x5_4) != 0) = false := bne_eq_false_iff_eq.mpr c21
           clear c21
           obtain rfl := Option.some.inj H
           have p162 : 0 ≤ (x3_1 : Int) := of_decide_eq_true (by first | (with_reducible assumption) | assumption)
           have q162 : x3_1 < (l0.length : Int) := of_decide_eq_true (by first | (with_reducible assumption) | assumption)
           obtain ⟨ad162, e162, hx162_0, hx162_1⟩ := at_T45 HR0.out x3_1 p162 q162
           obtain rfl : ad159 = ad162 := (by injection e162)
           replace p162 := eq_true p162
           replace q162 := eq_true q162
           have p163 : 0 ≤ (x3_1 : Int) := of_decide_eq_true (by first | (with_reducible assumption) | assumption)
           have q163 : x3_1 < (l0.length : Int) := of_decide_eq_true (by first | (with_reducible assumption) | assumption)
           obtain ⟨ad163, e163, hx163_0, hx163_1⟩ := at_T45 HR0.out x3_1 p163 q163
           obtain rfl : ad159 = ad163 := (by injection e163)
           replace p163 := eq_true p163
           replace q163 := eq_true q163
           have p20 : 0 ≤ (x5_4 : Int) := of_decide_eq_true (by first | (with_reducible assumption) | assumption)
           have q20 : x5_4 < (((rd_T45 l0 x3_1).f1).size : Int) := of_decide_eq_true (by first | (with_reducible assumption) | assumption)
           have hx20 := bt_at ((rd_T45 l0 x3_1).f1) x5_4
           replace p20 := eq_true p20
           replace q20 := eq_true q20
           go_wp2
           repeat (go_quiet (fail); try go_wp2)
           go_ret
           exact ⟨by first | rfl | (simp; done) | (simp [*]; done), by repeat (first | exact Drawn0.refl _ | apply Drawn0.step)⟩
          rw [if_neg c21] at H
          have c21b0 : ((bt ((rd_T45 l0 x3_1).f1) x5_4) == 0) = false := beq_eq_false_iff_ne.mpr c21
          have c21b1 : ((bt ((rd_T45 l0 x3_1).f1) x5_4) != 0) = true := bne_iff_ne.mpr c21
          have H' := Aside0.mk H
          clear H
          have p162 : 0 ≤ (x3_1 : Int) := of_decide_eq_true (by first | (with_reducible assumption) | assumption)
          have q162 : x3_1 < (l0.length : Int) := of_decide_eq_true (by first | (with_reducible assumption) | assumption)
          obtain ⟨ad162, e162, hx162_0, hx162_1⟩ := at_T45 HR0.out x3_1 p162 q162
          obtain rfl : ad159 = ad162 := (by injection e162)
          replace p162 := eq_true p162
          replace q162 := eq_true q162
          have p163 : 0 ≤ (x3_1 : Int) := of_decide_eq_true (by first | (with_reducible assumption) | assumption)
          have q163 : x3_1 < (l0.length : Int) := of_decide_eq_true (by first | (with_reducible assumption) | assumption)
          obtain ⟨ad163, e163, hx163_0, hx163_1⟩ := at_T45 HR0.out x3_1 p163 q163
          obtain rfl : ad159 = ad163 := (by injection e163)
          replace p163 := eq_true p163
          replace q163 := eq_true q163
          have p20 : 0 ≤ (x5_4 : Int) := of_decide_eq_true (by first | (with_reducible assumption) | assumption)
          have q20 : x5_4 < (((rd_T45 l0 x3_1).f1).size : Int) := of_decide_eq_true (by first | (with_reducible assumption) | assumption)
          have hx20 := bt_at ((rd_T45 l0 x3_1).f1) x5_4
          replace p20 := eq_true p20
          replace q20 := eq_true q20
          go_wp2
          repeat (go_quiet (fail); try go_wp2)
          go_roundg k4
          case measure => have := HK1.out; have := HJ3.out; have := HK3.out; have := HK4.out; omega
          case rel => exact ⟨(wrap64 (x5_4 + 1)), (by first | rfl | (simp; done) | (simp [*]; done)), H', ⟨by have := HK1.out; have := HJ3.out; have := HK3.out; have := HK4.out; omega⟩, by repeat (first | exact Drawn0.refl _ | apply Drawn0.step)⟩
         rw [if_neg c18] at H
         have c18b0 : decide (x5_4 < (((rd_T45 l0 x3_1).f1).size : Int)) = false := decide_eq_false c18
         clear c18
         have H' := Aside0.mk H
         clear H
         have p162 : 0 ≤ (x3_1 : Int) := of_decide_eq_true (by first | (with_reducible assumption) | assumption)
         have q162 : x3_1 < (l0.length : Int) := of_decide_eq_true (by first | (with_reducible assumption) | assumption)
         obtain ⟨ad162, e162, hx162_0, hx162_1⟩ := at_T45 HR0.out x3_1 p162 q162
         obtain rfl : ad159 = ad162 := (by injection e162)
         replace p162 := eq_true p162
         replace q162 := eq_true q162
         go_wp2
         repeat (go_quiet (fail); try go_wp2)
         go_loopg [6] k4 (fun kq v6 w' => ∃ (x6_5 : Int), v6 = .int .i64 x6_5 ∧ Aside0 (headgateref21_Good.l3 kq l0 x3_1 x6_5 = some r) ∧ Aside0 (kq ≤ k4) ∧ Drawn0 w w')
         case atStart => exact ⟨(0), (by first | rfl | (simp; done) | (simp [*]; done)), H', ⟨Nat.le_refl _⟩, by repeat (first | exact Drawn0.refl _ | apply Drawn0.step)⟩
         case round =>
          clear H'
          try clear c1
          try clear p1
          try clear q1
          try clear hx1
          try clear c2
          try clear c2b0
          try clear c2b1
          try clear p2
          try clear q2
          try clear hx2
          try clear c3
          try clear c3b0
          try clear c5
          try clear c5b0
          try clear c6
          try clear c6b0
          try clear c6b1
          try clear p6
          try clear c7
          try clear c7b0
          try clear c7b1
          try clear c8
          try clear c9
          try clear c9b0
          try clear c10
          try clear c10b0
          try clear c11
          try clear c11b0
          try clear c12
          try clear c12b0
          try clear p13
          try clear q13
          try clear hx13
          try clear c15
          try clear p15
          try clear q15
          try clear hx15
          try clear c16
          try clear c16b0
          try clear p16
          try clear q16
          try clear hx16
          try clear c17
          try clear c17b0
          try clear c18
          try clear c18b0
          try clear c19
          try clear c19b0
          try clear p20
          try clear q20
          try clear hx20
          try clear c21
          try clear c21b0
          try clear c21b1
          try clear hx156_0
          try clear hx156_1
          try clear hx157_0
          try clear hx157_1
          try clear hx158_0
          try clear hx158_1
          try clear hx159_0
          try clear hx159_1
          try clear hx160_0
          try clear hx160_1
          try clear hx162_0
          try clear hx162_1
          try clear hx163_0
          try clear hx163_1
          try clear p1
          try clear p13
          try clear p15
          try clear p156
          try clear p157
          try clear p158
          try clear p159
          try clear p160
          try clear p162
          try clear p163
          try clear p2
          try clear p20
          try clear p6
          try clear q1
          try clear q13
          try clear q15
          try clear q156
          try clear q157
          try clear q158
          try clear q159
          try clear q160
          try clear q162
          try clear q163
          try clear q20
          obtain ⟨x6_5, rfl, HA, HK5, ⟨m5, rfl⟩⟩ := hrel
          cases gk with
          | zero => exact absurd HA.out (by simp [headgateref21_Good.l3])
          | succ k5 =>
           have H := HA.out
           clear HA
           simp only [headgateref21_Good.l3] at H
           refine neg_first (p := (x6_5 < x3_1)) (fun c22 => ?_) (fun c22 => ?_)
           ·rw [if_neg c22] at H
            have c22b0 : decide (x6_5 < x3_1) = false := decide_eq_false c22
            clear c22
            have H' := Aside0.mk H
            clear H
            go_wp2
            repeat (go_quiet (fail); try go_wp2)
            go_roundg k5
            case measure => have := HK1.out; have := HJ3.out; have := HK3.out; have := HK4.out; have := HK5.out; omega
            case rel => exact ⟨(wrap64 (x3_1 + 1)), (by first | rfl | (simp; done) | (simp [*]; done)), H', ⟨by have := HK1.out; have := HJ3.out; have := HK3.out; have := HK4.out; have := HK5.out; omega⟩, by repeat (first | exact Drawn0.refl _ | apply Drawn0.step)⟩
           rw [if_pos c22] at H
           have c22b0 : decide (x6_5 < x3_1) = true := decide_eq_true c22
           clear c22
           refine neg_first (p := (0 ≤ x6_5)) (fun c23 => ?_) (fun c23 => ?_)
           ·rw [if_neg c23] at H
            exact absurd H (by simp)
           rw [if_pos c23] at H
           have c23b0 : decide (0 ≤ x6_5) = true := decide_eq_true c23
           clear c23
           refine neg_first (p := (x6_5 < (l0.length : Int))) (fun c24 => ?_) (fun c24 => ?_)
           ·rw [if_neg c24] at H
            exact absurd H (by simp)
           rw [if_pos c24] at H
           have c24b0 : decide (x6_5 < (l0.length : Int)) = true := decide_eq_true c24
           clear c24
           refine neg_first (p := (0 ≤ x3_1)) (fun c25 => ?_) (fun c25 => ?_)
           ·rw [if_neg c25] at H
            exact absurd H (by simp)
           rw [if_pos c25] at H
           have c25b0 : decide (0 ≤ x3_1) = true := decide_eq_true c25
           clear c25
           refine neg_first (p := (x3_1 < (l0.length : Int))) (fun c26 => ?_) (fun c26 => ?_)
           ·rw [if_neg c26] at H
            exact absurd H (by simp)
           rw [if_pos c26] at H
           have c26b0 : decide (x3_1 < (l0.length : Int)) = true := decide_eq_true c26
           clear c26
           by_cases c27 : ((rd_T45 l0 x6_5).f0).toList = ((rd_T45 l0 x3_1).f0).toList
           ·rw [if_pos c27] at H
            have c27b0 : (((rd_T45 l0 x6_5).f0).toList == ((rd_T45 l0 x3_1).f0).toList) = true := beq_iff_eq.mpr c27
            have c27b1 : (((rd_T45 l0 x6_5).f0).toList != ((rd_T45 l0 x3_1).f0).toList) = false := bne_eq_false_iff_eq.mpr c27
            clear c27
            obtain rfl := Option.some.inj H
            have p164 : 0 ≤ (x6_5 : Int) := of_decide_eq_true (by first | (with_reducible assumption) | assumption)
            have q164 : x6_5 < (l0.length : Int) := of_decide_eq_true (by first | (with_reducible assumption) | assumption)
            obtain ⟨ad164, e164, hx164_0, hx164_1⟩ := at_T45 HR0.out x6_5 p164 q164
            obtain rfl : ad159 = ad164 := (by injection e164)
            replace p164 := eq_true p164
            replace q164 := eq_true q164
            have p165 : 0 ≤ (x3_1 : Int) := of_decide_eq_true (by first | (with_reducible assumption) | assumption)
            have q165 : x3_1 < (l0.length : Int) := of_decide_eq_true (by first | (with_reducible assumption) | assumption)
            obtain ⟨ad165, e165, hx165_0, hx165_1⟩ := at_T45 HR0.out x3_1 p165 q165
            obtain rfl : ad159 = ad165 := (by injection e165)
            replace p165 := eq_true p165
            replace q165 := eq_true q165
            go_wp2
            repeat (go_quiet (fail); try go_wp2)
            go_ret
            exact ⟨by first | rfl | (simp; done) | (simp [*]; done), by repeat (first | exact Drawn0.refl _ | apply Drawn0.step)⟩
           rw [if_neg c27] at H
           have c27b0 : (((rd_T45 l0 x6_5).f0).toList == ((rd_T45 l0 x3_1).f0).toList) = false := beq_eq_false_iff_ne.mpr c27
           have c27b1 : (((rd_T45 l0 x6_5).f0).toList != ((rd_T45 l0 x3_1).f0).toList) = true := bne_iff_ne.mpr c27
           have H' := Aside0.mk H
           clear H
           have p164 : 0 ≤ (x6_5 : Int) := of_decide_eq_true (by first | (with_reducible assumption) | assumption)
           have q164 : x6_5 < (l0.length : Int) := of_decide_eq_true (by first | (with_reducible assumption) | assumption)
           obtain ⟨ad164, e164, hx164_0, hx164_1⟩ := at_T45 HR0.out x6_5 p164 q164
           obtain rfl : ad159 = ad164 := (by injection e164)
           replace p164 := eq_true p164
           replace q164 := eq_true q164
           have p165 : 0 ≤ (x3_1 : Int) := of_decide_eq_true (by first | (with_reducible assumption) | assumption)
           have q165 : x3_1 < (l0.length : Int) := of_decide_eq_true (by first | (with_reducible assumption) | assumption)
           obtain ⟨ad165, e165, hx165_0, hx165_1⟩ := at_T45 HR0.out x3_1 p165 q165
           obtain rfl : ad159 = ad165 := (by injection e165)
           replace p165 := eq_true p165
           replace q165 := eq_true q165
           go_wp2
           repeat (go_quiet (fail); try go_wp2)
           go_roundg k5
           case measure => have := HK1.out; have := HJ3.out; have := HK3.out; have := HK4.out; have := HK5.out; omega
           case rel => exact ⟨(wrap64 (x6_5 + 1)), (by first | rfl | (simp; done) | (simp [*]; done)), H', ⟨by have := HK1.out; have := HJ3.out; have := HK3.out; have := HK4.out; have := HK5.out; omega⟩, by repeat (first | exact Drawn0.refl _ | apply Drawn0.step)⟩
end Go.Proofs.YtclcnkmefldpiaaDoor.P
