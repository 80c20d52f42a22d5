-- joined by this session's wip/tools/pack.py: words of the kit's print, cut to what the claim names; functions printed by a patched copy of the printer; walks and lemmas of this session; Lean checks it
import Derived.Test.YtclcnkmefldpiaaDoorBb2
import Derived.Lib.IndexLaws
import Derived.Lib.IndexBytes
import Derived.Lib.Split
import Derived.ProofKit
import Derived.ChangeArms
import Derived.DataReads
import Derived.Lib.LaidTab
import Derived.WalkKit
import Derived.RegionTactic
import Derived.Deep.QuietTactic
import Derived.BigQuiet
import Derived.Maps.Own
import Derived.Maps.OwnOps
import Derived.Maps.Views
import Derived.Carry
import Derived.Lib.SliceRun
namespace Go.Proofs.YtclcnkmefldpiaaDoor.P
open Go.RowKit Go.Proofs.YtclcnkmefldpiaaDoorW.PrintWords Go.Proofs.YtclcnkmefldpiaaDoorW.PrintLast Go.Proofs.YtclcnkmefldpiaaDoorW.PrintMore
attribute [local go_sem] max2_int min2_int max_two min_two max_three min_three max_four min_four   -- for this text's walks alone
set_option linter.unusedVariables false
set_option linter.unusedSimpArgs false
set_option linter.unnecessarySimpa false
def keys_First.f  : Option (Bool × Bool × Bool × Bool × Int × Int × ByteArray × ByteArray) := some (false, false, true, false, 8192, 4096, (⟨#[]⟩ : ByteArray), (⟨#[]⟩ : ByteArray))
set_option maxHeartbeats 8000000 in
set_option maxRecDepth 100000 in
theorem keys_First.calls  (r1 : Bool) (r2 : Bool) (r3 : Bool) (r4 : Bool) (r5 : Int) (r6 : Int) (r7 : ByteArray) (r8 : ByteArray) (w : World) (h : keys_First.f  = some (r1, r2, r3, r4, r5, r6, r7, r8)) :
    Calls Tryd.prog 16 #[] w fun e w' => e = .returned (.agg #[.bool r1, .bool r2, .bool r3, .bool r4, .int .i64 r5, .int .i64 r6, .string r7, .string r8]) ∧ Below w.heap.size w w' := by
  have hu23 := Tryd.underlying23
  have HB := Aside0.mk (Below.refl w.heap.size w)
  have H : (some (false, false, true, false, 8192, 4096, (⟨#[]⟩ : ByteArray), (⟨#[]⟩ : ByteArray))) = some (r1, r2, r3, r4, r5, r6, r7, r8) := h
  clear h
  simp only [Option.some.injEq, Prod.mk.injEq] at H
  obtain ⟨rfl, rfl, rfl, rfl, rfl, rfl, rfl, rfl⟩ := H
  go_enter Tryd.func16, Tryd.ntmps16
  go_wp2_with (first | ((with_reducible refine gate_dst (N := 0) rfl ?_); refine box_event ?hg (N := 0) ?hd (cs := #[.bool false, .bool false, .bool false, .bool false, .int .i64 0, .int .i64 0, .string (⟨#[]⟩ : ByteArray), .string (⟨#[]⟩ : ByteArray)]) (t := 23) ?hr ?_; (case hd => rfl); (case hg => rfl); (case hr => first | (go_simp; done) | (go_simp; rfl)); intro gb123 hg w1 hbox hb; have n0_ := Aside0.mk (below_step (by repeat (first | (with_reducible first | exact HB.out | apply below_alloc | apply pw_below_drewN | apply below_drew1) | exact HB.out)) hb); have n1_ := Aside0.mk (hbox); have n2_ := Aside0.mk ((by rw [hg]; exact (below_size (by repeat (first | (with_reducible first | exact HB.out | apply below_alloc | apply pw_below_drewN | apply below_drew1) | exact HB.out))) : w.heap.size ≤ gb123)); have n3_ := Aside0.mk ((by rw [hg]; exact (below_size (by repeat (first | (with_reducible first | exact HB.out | apply below_alloc | apply pw_below_drewN | apply below_drew1) | exact HB.out))) : w.heap.size ≤ gb123)); clear HB; have HB := n0_; have BK123 := n1_; have GW123 := n2_; have GE123 := n3_; clear n0_ n1_ n2_ n3_; clear hb hbox hg; have hcz2_0 : w1.cell? ⟨gb123, 0, none⟩ = some (.bool false) := (blk_cell BK123.out 0).trans rfl; have hcz2_1 : w1.cell? ⟨gb123, 1, none⟩ = some (.bool false) := (blk_cell BK123.out 1).trans rfl; have hcz2_2 : w1.cell? ⟨gb123, 2, none⟩ = some (.bool false) := (blk_cell BK123.out 2).trans rfl; have hcz2_3 : w1.cell? ⟨gb123, 3, none⟩ = some (.bool false) := (blk_cell BK123.out 3).trans rfl; have hcz2_4 : w1.cell? ⟨gb123, 4, none⟩ = some (.int .i64 0) := (blk_cell BK123.out 4).trans rfl; have hcz2_5 : w1.cell? ⟨gb123, 5, none⟩ = some (.int .i64 0) := (blk_cell BK123.out 5).trans rfl; have hcz2_6 : w1.cell? ⟨gb123, 6, none⟩ = some (.string (⟨#[]⟩ : ByteArray)) := (blk_cell BK123.out 6).trans rfl; have hcz2_7 : w1.cell? ⟨gb123, 7, none⟩ = some (.string (⟨#[]⟩ : ByteArray)) := (blk_cell BK123.out 7).trans rfl; have hfz2_0 := blk_frozen BK123.out 0; have hfz2_1 := blk_frozen BK123.out 1; have hfz2_2 := blk_frozen BK123.out 2; have hfz2_3 := blk_frozen BK123.out 3; have hfz2_4 := blk_frozen BK123.out 4; have hfz2_5 := blk_frozen BK123.out 5; have hfz2_6 := blk_frozen BK123.out 6; have hfz2_7 := blk_frozen BK123.out 7))
  refine bodyPost_ret (results_cell_row rfl _ _ gb123 23 #[.bool false, .bool false, .bool true, .bool false, .int .i64 8192, .int .i64 4096, .string (⟨#[]⟩ : ByteArray), .string (⟨#[]⟩ : ByteArray)] (0, 0) _ rfl (by (with_reducible repeat (first | refine blk_drewN ?_ _ | refine blk_drew ?_ | refine blk_alloc ?_ _)); refine blk_put (cs := #[.bool false, .bool false, .bool true, .bool false, .int .i64 8192, .int .i64 4096, .string (⟨#[]⟩ : ByteArray), .string (⟨#[]⟩ : ByteArray)]) ?_ 7 _ rfl; (with_reducible repeat (first | refine blk_drewN ?_ _ | refine blk_drew ?_ | refine blk_alloc ?_ _)); refine blk_put (cs := #[.bool false, .bool false, .bool true, .bool false, .int .i64 8192, .int .i64 4096, .string (⟨#[]⟩ : ByteArray), .string (⟨#[]⟩ : ByteArray)]) ?_ 6 _ rfl; (with_reducible repeat (first | refine blk_drewN ?_ _ | refine blk_drew ?_ | refine blk_alloc ?_ _)); refine blk_put (cs := #[.bool false, .bool false, .bool true, .bool false, .int .i64 8192, .int .i64 0, .string (⟨#[]⟩ : ByteArray), .string (⟨#[]⟩ : ByteArray)]) ?_ 5 _ rfl; (with_reducible repeat (first | refine blk_drewN ?_ _ | refine blk_drew ?_ | refine blk_alloc ?_ _)); refine blk_put (cs := #[.bool false, .bool false, .bool true, .bool false, .int .i64 0, .int .i64 0, .string (⟨#[]⟩ : ByteArray), .string (⟨#[]⟩ : ByteArray)]) ?_ 4 _ rfl; (with_reducible repeat (first | refine blk_drewN ?_ _ | refine blk_drew ?_ | refine blk_alloc ?_ _)); refine blk_put (cs := #[.bool false, .bool false, .bool true, .bool false, .int .i64 0, .int .i64 0, .string (⟨#[]⟩ : ByteArray), .string (⟨#[]⟩ : ByteArray)]) ?_ 3 _ rfl; (with_reducible repeat (first | refine blk_drewN ?_ _ | refine blk_drew ?_ | refine blk_alloc ?_ _)); refine blk_put (cs := #[.bool false, .bool false, .bool false, .bool false, .int .i64 0, .int .i64 0, .string (⟨#[]⟩ : ByteArray), .string (⟨#[]⟩ : ByteArray)]) ?_ 2 _ rfl; (with_reducible repeat (first | refine blk_drewN ?_ _ | refine blk_drew ?_ | refine blk_alloc ?_ _)); refine blk_put (cs := #[.bool false, .bool false, .bool false, .bool false, .int .i64 0, .int .i64 0, .string (⟨#[]⟩ : ByteArray), .string (⟨#[]⟩ : ByteArray)]) ?_ 1 _ rfl; (with_reducible repeat (first | refine blk_drewN ?_ _ | refine blk_drew ?_ | refine blk_alloc ?_ _)); refine blk_put (cs := #[.bool false, .bool false, .bool false, .bool false, .int .i64 0, .int .i64 0, .string (⟨#[]⟩ : ByteArray), .string (⟨#[]⟩ : ByteArray)]) ?_ 0 _ rfl; (with_reducible repeat (first | refine blk_drewN ?_ _ | refine blk_drew ?_ | refine blk_alloc ?_ _)); exact BK123.out) Tryd.underlying23 rfl (by kernel_rfl)) rfl ?_
  exact ⟨by first | rfl | (simp [errW_none, errW_some] <;> rfl) | (simp [*, errW_none, errW_some] <;> rfl) | (simp [bt, *]; done) | (unfold bt; simp [*]; done), by repeat (first | (with_reducible first | exact HB.out | apply below_alloc | apply pw_below_drewN | apply below_drew1 | refine below_set ?_ GE123.out) | exact HB.out)⟩
def headgatelaw21_wakes.f  : Option (Bool) := (keys_First.f).bind fun bt124 => ((keys_Answer.f bt124.1 bt124.2.1 bt124.2.2.1 bt124.2.2.2.1 bt124.2.2.2.2.1 bt124.2.2.2.2.2.1 bt124.2.2.2.2.2.2.1 bt124.2.2.2.2.2.2.2 (([(⟨(⟨#[72, 101, 97, 100, 101, 114, 68, 105, 103, 101, 115, 116]⟩ : ByteArray), (⟨#[78, 111, 110, 101, 44, 67, 82, 67, 51, 50, 67]⟩ : ByteArray)⟩ : S45), (⟨(⟨#[77, 97, 120, 82, 101, 99, 118, 68, 97, 116, 97, 83, 101, 103, 109, 101, 110, 116, 76, 101, 110, 103, 116, 104]⟩ : ByteArray), (⟨#[53, 49, 50]⟩ : ByteArray)⟩ : S45)] : List (S45)))).bind fun bt135 => (if bt135.2.2.2.2.2.2.2.2.2 = 0 then (if bt135.1 = true then (some false) else (if bt135.2.2.2.2.1 = 512 then (if (bt135.2.2.2.2.2.2.2.2.1.length : Int) = 2 then (if 0 < (bt135.2.2.2.2.2.2.2.2.1.length : Int) then (if ((rd_T45 bt135.2.2.2.2.2.2.2.2.1 0).f1).toList = ([78, 111, 110, 101] : List UInt8) then (if 1 < (bt135.2.2.2.2.2.2.2.2.1.length : Int) then (if ((rd_T45 bt135.2.2.2.2.2.2.2.2.1 1).f1).toList = ([56, 49, 57, 50] : List UInt8) then (some (bt135.2.2.2.2.2.1 == 4096)) else (some false)) else (none)) else (some false)) else (none)) else (some false)) else (some false))) else (some false)))
set_option maxHeartbeats 8000000 in
set_option maxRecDepth 100000 in
theorem headgatelaw21_wakes.calls  (r : Bool) (w : World) (hG : Glob w) (h : headgatelaw21_wakes.f  = some r) :
  Calls Tryd.prog 9 #[] w fun e w' => e = .returned (.bool r) ∧ Below w.heap.size w w' := by
 have hu45 := Tryd.underlying45
 have hu23 := Tryd.underlying23
 have HG := Aside0.mk hG
 clear hG
 have HB := Aside0.mk (Below.refl w.heap.size w)
 have H : ((keys_First.f).bind fun bt124 => ((keys_Answer.f bt124.1 bt124.2.1 bt124.2.2.1 bt124.2.2.2.1 bt124.2.2.2.2.1 bt124.2.2.2.2.2.1 bt124.2.2.2.2.2.2.1 bt124.2.2.2.2.2.2.2 (([(⟨(⟨#[72, 101, 97, 100, 101, 114, 68, 105, 103, 101, 115, 116]⟩ : ByteArray), (⟨#[78, 111, 110, 101, 44, 67, 82, 67, 51, 50, 67]⟩ : ByteArray)⟩ : S45), (⟨(⟨#[77, 97, 120, 82, 101, 99, 118, 68, 97, 116, 97, 83, 101, 103, 109, 101, 110, 116, 76, 101, 110, 103, 116, 104]⟩ : ByteArray), (⟨#[53, 49, 50]⟩ : ByteArray)⟩ : S45)] : List (S45)))).bind fun bt135 => (if bt135.2.2.2.2.2.2.2.2.2 = 0 then (if bt135.1 = true then (some false) else (if bt135.2.2.2.2.1 = 512 then (if (bt135.2.2.2.2.2.2.2.2.1.length : Int) = 2 then (if 0 < (bt135.2.2.2.2.2.2.2.2.1.length : Int) then (if ((rd_T45 bt135.2.2.2.2.2.2.2.2.1 0).f1).toList = ([78, 111, 110, 101] : List UInt8) then (if 1 < (bt135.2.2.2.2.2.2.2.2.1.length : Int) then (if ((rd_T45 bt135.2.2.2.2.2.2.2.2.1 1).f1).toList = ([56, 49, 57, 50] : List UInt8) then (some (bt135.2.2.2.2.2.1 == 4096)) else (some false)) else (none)) else (some false)) else (none)) else (some false)) else (some false))) else (some false)))) = some r := h
 clear h
 replace H := Option.bind_eq_some_iff.mp H
 obtain ⟨⟨t124, t125, t126, t127, t128, t129, t130, t131⟩, A10, H⟩ := H
 try dsimp only at H
 have A1 := Aside0.mk A10
 clear A10
 obtain ⟨y132, hy132⟩ : ∃ y_ : List (S45), y_ = (([(⟨(⟨#[72, 101, 97, 100, 101, 114, 68, 105, 103, 101, 115, 116]⟩ : ByteArray), (⟨#[78, 111, 110, 101, 44, 67, 82, 67, 51, 50, 67]⟩ : ByteArray)⟩ : S45), (⟨(⟨#[77, 97, 120, 82, 101, 99, 118, 68, 97, 116, 97, 83, 101, 103, 109, 101, 110, 116, 76, 101, 110, 103, 116, 104]⟩ : ByteArray), (⟨#[53, 49, 50]⟩ : ByteArray)⟩ : S45)] : List (S45))) := ⟨_, rfl⟩
 replace H : ((keys_Answer.f t124 t125 t126 t127 t128 t129 t130 t131 y132).bind fun bt135 => (if bt135.2.2.2.2.2.2.2.2.2 = 0 then (if bt135.1 = true then (some false) else (if bt135.2.2.2.2.1 = 512 then (if (bt135.2.2.2.2.2.2.2.2.1.length : Int) = 2 then (if 0 < (bt135.2.2.2.2.2.2.2.2.1.length : Int) then (if ((rd_T45 bt135.2.2.2.2.2.2.2.2.1 0).f1).toList = ([78, 111, 110, 101] : List UInt8) then (if 1 < (bt135.2.2.2.2.2.2.2.2.1.length : Int) then (if ((rd_T45 bt135.2.2.2.2.2.2.2.2.1 1).f1).toList = ([56, 49, 57, 50] : List UInt8) then (some (bt135.2.2.2.2.2.1 == 4096)) else (some false)) else (none)) else (some false)) else (none)) else (some false)) else (some false))) else (some false))) = some r := by first | (rw [hy132]; with_reducible exact H) | (have H2_ := (Option.bind_some _ _).symm.trans H; rw [hy132]; with_reducible exact H2_) | (have H2_ := (Option.bind_some _ _).symm.trans H; with_reducible exact H2_) | with_reducible exact H | (rw [hy132]; exact H) | exact H
 have Ny132 := Aside0.mk hy132
 clear hy132
 replace H := Option.bind_eq_some_iff.mp H
 obtain ⟨⟨t135, t136, t137, t138, t139, t140, t141, t142, t143, t146⟩, A20, H⟩ := H
 try dsimp only at H
 have A2 := Aside0.mk A20
 clear A20
 refine neg_first (p := (t146 = 0)) (fun c3 => ?_) (fun c3 => ?_)
 ·rw [if_neg c3] at H
  have c3b0 : (t146 == 0) = false := beq_eq_false_iff_ne.mpr c3
  have c3b1 : (t146 != 0) = true := bne_iff_ne.mpr c3
  obtain rfl := Option.some.inj H
  go_enter Tryd.func9, Tryd.ntmps9
  go_wp2_with (first | ((with_reducible refine gate_callee (f := 16) rfl ?_); refine goesL_ (some 5) rfl rfl Tryd.func16 (by kernel_rfl) rfl #[] rfl (by (try simp only [List.map_toArray, List.map_cons, List.map_nil]); first | done | rfl | (simp only [List.length_drop, List.length_take]; rfl)) ?_; (with_reducible refine (keys_First.calls  t124 t125 t126 t127 t128 t129 t130 t131 _ A1.out).mono ?_); rintro e w57 ⟨rfl, hb⟩; refine ⟨_, rfl, ?_⟩; have n0_ := Aside0.mk (below_step (hb_ HB) hb); clear HB; have HB := n0_; clear n0_; (try clear hb); (try clear hb2); (try clear hk); (try clear hi)) | ((with_reducible refine gate_dst (N := 8) rfl ?_); (try (refine gate_guard (by rfl) ?_; dsimp only)); refine Kd.R_lit k45 _ 45 ?hg (N := 8) ?hd (xs := ([(⟨(⟨#[72, 101, 97, 100, 101, 114, 68, 105, 103, 101, 115, 116]⟩ : ByteArray), (⟨#[78, 111, 110, 101, 44, 67, 82, 67, 51, 50, 67]⟩ : ByteArray)⟩ : S45), (⟨(⟨#[77, 97, 120, 82, 101, 99, 118, 68, 97, 116, 97, 83, 101, 103, 109, 101, 110, 116, 76, 101, 110, 103, 116, 104]⟩ : ByteArray), (⟨#[53, 49, 50]⟩ : ByteArray)⟩ : S45)] : List (S45))) (inner := [.string (⟨#[72, 101, 97, 100, 101, 114, 68, 105, 103, 101, 115, 116]⟩ : ByteArray), .string (⟨#[78, 111, 110, 101, 44, 67, 82, 67, 51, 50, 67]⟩ : ByteArray), .string (⟨#[77, 97, 120, 82, 101, 99, 118, 68, 97, 116, 97, 83, 101, 103, 109, 101, 110, 116, 76, 101, 110, 103, 116, 104]⟩ : ByteArray), .string (⟨#[53, 49, 50]⟩ : ByteArray)]) (ok := fun _ => True) (okp := fun _ => True) ?hr ?hp (fun _ hk => hk) trivial (Below.refl _ _) (Nat.le_refl _) (by simp) ?_; (case hd => rfl); (case hg => rfl); (case hr => first | (go_simp; done) | (go_simp; rfl)); (case hp => exact (Reps.c2 (show Kd.M k45 _ _ _ (⟨(⟨#[72, 101, 97, 100, 101, 114, 68, 105, 103, 101, 115, 116]⟩ : ByteArray), (⟨#[78, 111, 110, 101, 44, 67, 82, 67, 51, 50, 67]⟩ : ByteArray)⟩ : S45) [.string (⟨#[72, 101, 97, 100, 101, 114, 68, 105, 103, 101, 115, 116]⟩ : ByteArray), .string (⟨#[78, 111, 110, 101, 44, 67, 82, 67, 51, 50, 67]⟩ : ByteArray)] from (k45_mkM _ _ _ (⟨(⟨#[72, 101, 97, 100, 101, 114, 68, 105, 103, 101, 115, 116]⟩ : ByteArray), (⟨#[78, 111, 110, 101, 44, 67, 82, 67, 51, 50, 67]⟩ : ByteArray)⟩ : S45) )) (Reps.c2 (show Kd.M k45 _ _ _ (⟨(⟨#[77, 97, 120, 82, 101, 99, 118, 68, 97, 116, 97, 83, 101, 103, 109, 101, 110, 116, 76, 101, 110, 103, 116, 104]⟩ : ByteArray), (⟨#[53, 49, 50]⟩ : ByteArray)⟩ : S45) [.string (⟨#[77, 97, 120, 82, 101, 99, 118, 68, 97, 116, 97, 83, 101, 103, 109, 101, 110, 116, 76, 101, 110, 103, 116, 104]⟩ : ByteArray), .string (⟨#[53, 49, 50]⟩ : ByteArray)] from (k45_mkM _ _ _ (⟨(⟨#[77, 97, 120, 82, 101, 99, 118, 68, 97, 116, 97, 83, 101, 103, 109, 101, 110, 116, 76, 101, 110, 103, 116, 104]⟩ : ByteArray), (⟨#[53, 49, 50]⟩ : ByteArray)⟩ : S45) )) (Reps.none _ _)))); intro v133 w58 ho59 hb hg_ hnew_; clear hg_ hnew_; (first | rw [← Ny132.out] at ho59 | (simp only [Int.reduceToNat] at ho59; rw [← Ny132.out] at ho59)); have n0_ := Aside0.mk (Kd.R_lower ho59 (below_size (hb_ HB))); have n1_ := Aside0.mk (below_step (hb_ HB) hb); clear HB; have HO134 := n0_; have HB := n1_; clear n0_ n1_; clear hb ho59; obtain ⟨Ao60, co60, eo60⟩ := Kd.R_slice HO134.out; subst eo60) | ((with_reducible refine gate_callee (f := 11) rfl ?_); refine goesL_ (some 9) rfl rfl Tryd.func11 (by kernel_rfl) rfl #[.agg #[.bool t124, .bool t125, .bool t126, .bool t127, .int .i64 t128, .int .i64 t129, .string t130, .string t131], .slice Ao60 y132.length co60] rfl (by (try simp only [List.map_toArray, List.map_cons, List.map_nil]); first | done | rfl | (simp only [List.length_drop, List.length_take]; rfl)) ?_; (with_reducible refine (keys_Answer.calls t124 t125 t126 t127 t128 t129 t130 t131 _ _ y132 t135 t136 t137 t138 t139 t140 t141 t142 t143 t146 _ ?side1 ?side2 ?side3 A2.out).mono ?_); (case side1 => repeat (first | exact (Kd.R_reads' HO134.out).2.2 | (with_reducible refine Kd.C_alloc ?_ _) | (with_reducible refine Kd.C_drewN ?_ _) | (with_reducible refine Kd.C_drew ?_))); (case side2 => exact (Kd.R_reads' HO134.out).2.1); (case side3 => first | ((refine Glob.keep HG.out ?_); (repeat (first | (with_reducible first | exact HB.out | apply below_alloc | apply pw_below_drewN | apply below_drew1) | exact HB.out)); done) | exact HG.out); rintro e w61 ⟨v144, rfl, ho0, hb⟩; refine ⟨_, rfl, ?_⟩; have n0_ := Aside0.mk (Kd.R_elder' (by (with_reducible repeat (first | apply Kd.R_alloc | apply Kd.R_drewN | apply Kd.R_drew)); exact HO134.out) (Kd.R_base ho0) hb); have n1_ := Aside0.mk (Kd.R_lower (Kd.R_new' ho0 (Kd.R_lt (by (with_reducible repeat (first | apply Kd.R_alloc | apply Kd.R_drewN | apply Kd.R_drew)); exact HO134.out))) (below_size (hb_ HB))); have n2_ := Aside0.mk (below_step (hb_ HB) hb); clear HO134; clear HB; have HO134 := n0_; have HO145 := n1_; have HB := n2_; clear n0_ n1_ n2_; (try clear hb); (try clear hb2); (try clear hk); (try clear hi); (try clear ho0)) | ((with_reducible refine gate_dst (N := 1) rfl ?_); (try (refine gate_guard (by rfl) ?_; dsimp only)); refine box_event ?hg (N := 1) ?hd (cs := #[.bool false, .bool false, .bool false, .bool false, .int .i64 0, .int .i64 0, .string (⟨#[]⟩ : ByteArray), .string (⟨#[]⟩ : ByteArray)]) (t := 23) ?hr ?_; (case hd => rfl); (case hg => rfl); (case hr => first | (go_simp; done) | (go_simp; rfl)); intro gb147 hg w62 hbox hb; have n0_ := Aside0.mk (Kd.R_below (by (with_reducible repeat (first | apply Kd.R_alloc | apply Kd.R_drewN | apply Kd.R_drew)); exact HO134.out) hb); have n1_ := Aside0.mk (Kd.R_below (by (with_reducible repeat (first | apply Kd.R_alloc | apply Kd.R_drewN | apply Kd.R_drew)); exact HO145.out) hb); have n2_ := Aside0.mk (below_step (hb_ HB) hb); have n3_ := Aside0.mk (hbox); have n4_ := Aside0.mk ((by rw [hg]; exact (below_size (hb_ HB)) : w.heap.size ≤ gb147)); have n5_ := Aside0.mk ((by rw [hg]; exact (below_size (hb_ HB)) : w.heap.size ≤ gb147)); clear HO134; clear HO145; clear HB; have HO134 := n0_; have HO145 := n1_; have HB := n2_; have BK147 := n3_; have GW147 := n4_; have GE147 := n5_; clear n0_ n1_ n2_ n3_ n4_ n5_; clear hb hbox hg; have hcz63_0 : w62.cell? ⟨gb147, 0, none⟩ = some (.bool false) := (blk_cell BK147.out 0).trans rfl; have hcz63_1 : w62.cell? ⟨gb147, 1, none⟩ = some (.bool false) := (blk_cell BK147.out 1).trans rfl; have hcz63_2 : w62.cell? ⟨gb147, 2, none⟩ = some (.bool false) := (blk_cell BK147.out 2).trans rfl; have hcz63_3 : w62.cell? ⟨gb147, 3, none⟩ = some (.bool false) := (blk_cell BK147.out 3).trans rfl; have hcz63_4 : w62.cell? ⟨gb147, 4, none⟩ = some (.int .i64 0) := (blk_cell BK147.out 4).trans rfl; have hcz63_5 : w62.cell? ⟨gb147, 5, none⟩ = some (.int .i64 0) := (blk_cell BK147.out 5).trans rfl; have hcz63_6 : w62.cell? ⟨gb147, 6, none⟩ = some (.string (⟨#[]⟩ : ByteArray)) := (blk_cell BK147.out 6).trans rfl; have hcz63_7 : w62.cell? ⟨gb147, 7, none⟩ = some (.string (⟨#[]⟩ : ByteArray)) := (blk_cell BK147.out 7).trans rfl; have hfz63_0 := blk_frozen BK147.out 0; have hfz63_1 := blk_frozen BK147.out 1; have hfz63_2 := blk_frozen BK147.out 2; have hfz63_3 := blk_frozen BK147.out 3; have hfz63_4 := blk_frozen BK147.out 4; have hfz63_5 := blk_frozen BK147.out 5; have hfz63_6 := blk_frozen BK147.out 6; have hfz63_7 := blk_frozen BK147.out 7))
  go_ret
  exact ⟨by first | rfl | (simp [errW_none, errW_some] <;> rfl) | (simp [*, errW_none, errW_some] <;> rfl) | (simp [bt, *]; done) | (unfold bt; simp [*]; done), by repeat (first | (with_reducible first | exact HB.out | apply below_alloc | apply pw_below_drewN | apply below_drew1 | refine below_set ?_ GE147.out) | exact HB.out)⟩
 rw [if_pos c3] at H
 have c3b0 : (t146 == 0) = true := beq_iff_eq.mpr c3
 have c3b1 : (t146 != 0) = false := bne_eq_false_iff_eq.mpr c3
 clear c3
 by_cases c4 : t135 = true
 ·subst c4
  have H1 := H
  rw [if_pos rfl] at H1
  clear H
  have H := H1
  clear H1
  obtain rfl := Option.some.inj H
  go_enter Tryd.func9, Tryd.ntmps9
  go_wp2_with (first | ((with_reducible refine gate_callee (f := 16) rfl ?_); refine goesL_ (some 5) rfl rfl Tryd.func16 (by kernel_rfl) rfl #[] rfl (by (try simp only [List.map_toArray, List.map_cons, List.map_nil]); first | done | rfl | (simp only [List.length_drop, List.length_take]; rfl)) ?_; (with_reducible refine (keys_First.calls  t124 t125 t126 t127 t128 t129 t130 t131 _ A1.out).mono ?_); rintro e w5 ⟨rfl, hb⟩; refine ⟨_, rfl, ?_⟩; have n0_ := Aside0.mk (below_step (hb_ HB) hb); clear HB; have HB := n0_; clear n0_; (try clear hb); (try clear hb2); (try clear hk); (try clear hi)) | ((with_reducible refine gate_dst (N := 8) rfl ?_); (try (refine gate_guard (by rfl) ?_; dsimp only)); refine Kd.R_lit k45 _ 45 ?hg (N := 8) ?hd (xs := ([(⟨(⟨#[72, 101, 97, 100, 101, 114, 68, 105, 103, 101, 115, 116]⟩ : ByteArray), (⟨#[78, 111, 110, 101, 44, 67, 82, 67, 51, 50, 67]⟩ : ByteArray)⟩ : S45), (⟨(⟨#[77, 97, 120, 82, 101, 99, 118, 68, 97, 116, 97, 83, 101, 103, 109, 101, 110, 116, 76, 101, 110, 103, 116, 104]⟩ : ByteArray), (⟨#[53, 49, 50]⟩ : ByteArray)⟩ : S45)] : List (S45))) (inner := [.string (⟨#[72, 101, 97, 100, 101, 114, 68, 105, 103, 101, 115, 116]⟩ : ByteArray), .string (⟨#[78, 111, 110, 101, 44, 67, 82, 67, 51, 50, 67]⟩ : ByteArray), .string (⟨#[77, 97, 120, 82, 101, 99, 118, 68, 97, 116, 97, 83, 101, 103, 109, 101, 110, 116, 76, 101, 110, 103, 116, 104]⟩ : ByteArray), .string (⟨#[53, 49, 50]⟩ : ByteArray)]) (ok := fun _ => True) (okp := fun _ => True) ?hr ?hp (fun _ hk => hk) trivial (Below.refl _ _) (Nat.le_refl _) (by simp) ?_; (case hd => rfl); (case hg => rfl); (case hr => first | (go_simp; done) | (go_simp; rfl)); (case hp => exact (Reps.c2 (show Kd.M k45 _ _ _ (⟨(⟨#[72, 101, 97, 100, 101, 114, 68, 105, 103, 101, 115, 116]⟩ : ByteArray), (⟨#[78, 111, 110, 101, 44, 67, 82, 67, 51, 50, 67]⟩ : ByteArray)⟩ : S45) [.string (⟨#[72, 101, 97, 100, 101, 114, 68, 105, 103, 101, 115, 116]⟩ : ByteArray), .string (⟨#[78, 111, 110, 101, 44, 67, 82, 67, 51, 50, 67]⟩ : ByteArray)] from (k45_mkM _ _ _ (⟨(⟨#[72, 101, 97, 100, 101, 114, 68, 105, 103, 101, 115, 116]⟩ : ByteArray), (⟨#[78, 111, 110, 101, 44, 67, 82, 67, 51, 50, 67]⟩ : ByteArray)⟩ : S45) )) (Reps.c2 (show Kd.M k45 _ _ _ (⟨(⟨#[77, 97, 120, 82, 101, 99, 118, 68, 97, 116, 97, 83, 101, 103, 109, 101, 110, 116, 76, 101, 110, 103, 116, 104]⟩ : ByteArray), (⟨#[53, 49, 50]⟩ : ByteArray)⟩ : S45) [.string (⟨#[77, 97, 120, 82, 101, 99, 118, 68, 97, 116, 97, 83, 101, 103, 109, 101, 110, 116, 76, 101, 110, 103, 116, 104]⟩ : ByteArray), .string (⟨#[53, 49, 50]⟩ : ByteArray)] from (k45_mkM _ _ _ (⟨(⟨#[77, 97, 120, 82, 101, 99, 118, 68, 97, 116, 97, 83, 101, 103, 109, 101, 110, 116, 76, 101, 110, 103, 116, 104]⟩ : ByteArray), (⟨#[53, 49, 50]⟩ : ByteArray)⟩ : S45) )) (Reps.none _ _)))); intro v133 w6 ho7 hb hg_ hnew_; clear hg_ hnew_; (first | rw [← Ny132.out] at ho7 | (simp only [Int.reduceToNat] at ho7; rw [← Ny132.out] at ho7)); have n0_ := Aside0.mk (Kd.R_lower ho7 (below_size (hb_ HB))); have n1_ := Aside0.mk (below_step (hb_ HB) hb); clear HB; have HO134 := n0_; have HB := n1_; clear n0_ n1_; clear hb ho7; obtain ⟨Ao8, co8, eo8⟩ := Kd.R_slice HO134.out; subst eo8) | ((with_reducible refine gate_callee (f := 11) rfl ?_); refine goesL_ (some 9) rfl rfl Tryd.func11 (by kernel_rfl) rfl #[.agg #[.bool t124, .bool t125, .bool t126, .bool t127, .int .i64 t128, .int .i64 t129, .string t130, .string t131], .slice Ao8 y132.length co8] rfl (by (try simp only [List.map_toArray, List.map_cons, List.map_nil]); first | done | rfl | (simp only [List.length_drop, List.length_take]; rfl)) ?_; (with_reducible refine (keys_Answer.calls t124 t125 t126 t127 t128 t129 t130 t131 _ _ y132 true t136 t137 t138 t139 t140 t141 t142 t143 t146 _ ?side1 ?side2 ?side3 A2.out).mono ?_); (case side1 => repeat (first | exact (Kd.R_reads' HO134.out).2.2 | (with_reducible refine Kd.C_alloc ?_ _) | (with_reducible refine Kd.C_drewN ?_ _) | (with_reducible refine Kd.C_drew ?_))); (case side2 => exact (Kd.R_reads' HO134.out).2.1); (case side3 => first | ((refine Glob.keep HG.out ?_); (repeat (first | (with_reducible first | exact HB.out | apply below_alloc | apply pw_below_drewN | apply below_drew1) | exact HB.out)); done) | exact HG.out); rintro e w9 ⟨v144, rfl, ho0, hb⟩; refine ⟨_, rfl, ?_⟩; have n0_ := Aside0.mk (Kd.R_elder' (by (with_reducible repeat (first | apply Kd.R_alloc | apply Kd.R_drewN | apply Kd.R_drew)); exact HO134.out) (Kd.R_base ho0) hb); have n1_ := Aside0.mk (Kd.R_lower (Kd.R_new' ho0 (Kd.R_lt (by (with_reducible repeat (first | apply Kd.R_alloc | apply Kd.R_drewN | apply Kd.R_drew)); exact HO134.out))) (below_size (hb_ HB))); have n2_ := Aside0.mk (below_step (hb_ HB) hb); clear HO134; clear HB; have HO134 := n0_; have HO145 := n1_; have HB := n2_; clear n0_ n1_ n2_; (try clear hb); (try clear hb2); (try clear hk); (try clear hi); (try clear ho0)) | ((with_reducible refine gate_dst (N := 1) rfl ?_); (try (refine gate_guard (by rfl) ?_; dsimp only)); refine box_event ?hg (N := 1) ?hd (cs := #[.bool false, .bool false, .bool false, .bool false, .int .i64 0, .int .i64 0, .string (⟨#[]⟩ : ByteArray), .string (⟨#[]⟩ : ByteArray)]) (t := 23) ?hr ?_; (case hd => rfl); (case hg => rfl); (case hr => first | (go_simp; done) | (go_simp; rfl)); intro gb147 hg w10 hbox hb; have n0_ := Aside0.mk (Kd.R_below (by (with_reducible repeat (first | apply Kd.R_alloc | apply Kd.R_drewN | apply Kd.R_drew)); exact HO134.out) hb); have n1_ := Aside0.mk (Kd.R_below (by (with_reducible repeat (first | apply Kd.R_alloc | apply Kd.R_drewN | apply Kd.R_drew)); exact HO145.out) hb); have n2_ := Aside0.mk (below_step (hb_ HB) hb); have n3_ := Aside0.mk (hbox); have n4_ := Aside0.mk ((by rw [hg]; exact (below_size (hb_ HB)) : w.heap.size ≤ gb147)); have n5_ := Aside0.mk ((by rw [hg]; exact (below_size (hb_ HB)) : w.heap.size ≤ gb147)); clear HO134; clear HO145; clear HB; have HO134 := n0_; have HO145 := n1_; have HB := n2_; have BK147 := n3_; have GW147 := n4_; have GE147 := n5_; clear n0_ n1_ n2_ n3_ n4_ n5_; clear hb hbox hg; have hcz11_0 : w10.cell? ⟨gb147, 0, none⟩ = some (.bool false) := (blk_cell BK147.out 0).trans rfl; have hcz11_1 : w10.cell? ⟨gb147, 1, none⟩ = some (.bool false) := (blk_cell BK147.out 1).trans rfl; have hcz11_2 : w10.cell? ⟨gb147, 2, none⟩ = some (.bool false) := (blk_cell BK147.out 2).trans rfl; have hcz11_3 : w10.cell? ⟨gb147, 3, none⟩ = some (.bool false) := (blk_cell BK147.out 3).trans rfl; have hcz11_4 : w10.cell? ⟨gb147, 4, none⟩ = some (.int .i64 0) := (blk_cell BK147.out 4).trans rfl; have hcz11_5 : w10.cell? ⟨gb147, 5, none⟩ = some (.int .i64 0) := (blk_cell BK147.out 5).trans rfl; have hcz11_6 : w10.cell? ⟨gb147, 6, none⟩ = some (.string (⟨#[]⟩ : ByteArray)) := (blk_cell BK147.out 6).trans rfl; have hcz11_7 : w10.cell? ⟨gb147, 7, none⟩ = some (.string (⟨#[]⟩ : ByteArray)) := (blk_cell BK147.out 7).trans rfl; have hfz11_0 := blk_frozen BK147.out 0; have hfz11_1 := blk_frozen BK147.out 1; have hfz11_2 := blk_frozen BK147.out 2; have hfz11_3 := blk_frozen BK147.out 3; have hfz11_4 := blk_frozen BK147.out 4; have hfz11_5 := blk_frozen BK147.out 5; have hfz11_6 := blk_frozen BK147.out 6; have hfz11_7 := blk_frozen BK147.out 7))
  go_ret
  exact ⟨by first | rfl | (simp [errW_none, errW_some] <;> rfl) | (simp [*, errW_none, errW_some] <;> rfl) | (simp [bt, *]; done) | (unfold bt; simp [*]; done), by repeat (first | (with_reducible first | exact HB.out | apply below_alloc | apply pw_below_drewN | apply below_drew1 | refine below_set ?_ GE147.out) | exact HB.out)⟩
 replace c4 := Bool.eq_false_iff.mpr c4
 subst c4
 have H1 := H
 rw [if_neg (show ¬ (false = true) by decide)] at H1
 clear H
 have H := H1
 clear H1
 refine neg_first (p := (t139 = 512)) (fun c12 => ?_) (fun c12 => ?_)
 ·rw [if_neg c12] at H
  have c12b0 : (t139 == 512) = false := beq_eq_false_iff_ne.mpr c12
  have c12b1 : (t139 != 512) = true := bne_iff_ne.mpr c12
  obtain rfl := Option.some.inj H
  go_enter Tryd.func9, Tryd.ntmps9
  go_wp2_with (first | ((with_reducible refine gate_callee (f := 16) rfl ?_); refine goesL_ (some 5) rfl rfl Tryd.func16 (by kernel_rfl) rfl #[] rfl (by (try simp only [List.map_toArray, List.map_cons, List.map_nil]); first | done | rfl | (simp only [List.length_drop, List.length_take]; rfl)) ?_; (with_reducible refine (keys_First.calls  t124 t125 t126 t127 t128 t129 t130 t131 _ A1.out).mono ?_); rintro e w50 ⟨rfl, hb⟩; refine ⟨_, rfl, ?_⟩; have n0_ := Aside0.mk (below_step (hb_ HB) hb); clear HB; have HB := n0_; clear n0_; (try clear hb); (try clear hb2); (try clear hk); (try clear hi)) | ((with_reducible refine gate_dst (N := 8) rfl ?_); (try (refine gate_guard (by rfl) ?_; dsimp only)); refine Kd.R_lit k45 _ 45 ?hg (N := 8) ?hd (xs := ([(⟨(⟨#[72, 101, 97, 100, 101, 114, 68, 105, 103, 101, 115, 116]⟩ : ByteArray), (⟨#[78, 111, 110, 101, 44, 67, 82, 67, 51, 50, 67]⟩ : ByteArray)⟩ : S45), (⟨(⟨#[77, 97, 120, 82, 101, 99, 118, 68, 97, 116, 97, 83, 101, 103, 109, 101, 110, 116, 76, 101, 110, 103, 116, 104]⟩ : ByteArray), (⟨#[53, 49, 50]⟩ : ByteArray)⟩ : S45)] : List (S45))) (inner := [.string (⟨#[72, 101, 97, 100, 101, 114, 68, 105, 103, 101, 115, 116]⟩ : ByteArray), .string (⟨#[78, 111, 110, 101, 44, 67, 82, 67, 51, 50, 67]⟩ : ByteArray), .string (⟨#[77, 97, 120, 82, 101, 99, 118, 68, 97, 116, 97, 83, 101, 103, 109, 101, 110, 116, 76, 101, 110, 103, 116, 104]⟩ : ByteArray), .string (⟨#[53, 49, 50]⟩ : ByteArray)]) (ok := fun _ => True) (okp := fun _ => True) ?hr ?hp (fun _ hk => hk) trivial (Below.refl _ _) (Nat.le_refl _) (by simp) ?_; (case hd => rfl); (case hg => rfl); (case hr => first | (go_simp; done) | (go_simp; rfl)); (case hp => exact (Reps.c2 (show Kd.M k45 _ _ _ (⟨(⟨#[72, 101, 97, 100, 101, 114, 68, 105, 103, 101, 115, 116]⟩ : ByteArray), (⟨#[78, 111, 110, 101, 44, 67, 82, 67, 51, 50, 67]⟩ : ByteArray)⟩ : S45) [.string (⟨#[72, 101, 97, 100, 101, 114, 68, 105, 103, 101, 115, 116]⟩ : ByteArray), .string (⟨#[78, 111, 110, 101, 44, 67, 82, 67, 51, 50, 67]⟩ : ByteArray)] from (k45_mkM _ _ _ (⟨(⟨#[72, 101, 97, 100, 101, 114, 68, 105, 103, 101, 115, 116]⟩ : ByteArray), (⟨#[78, 111, 110, 101, 44, 67, 82, 67, 51, 50, 67]⟩ : ByteArray)⟩ : S45) )) (Reps.c2 (show Kd.M k45 _ _ _ (⟨(⟨#[77, 97, 120, 82, 101, 99, 118, 68, 97, 116, 97, 83, 101, 103, 109, 101, 110, 116, 76, 101, 110, 103, 116, 104]⟩ : ByteArray), (⟨#[53, 49, 50]⟩ : ByteArray)⟩ : S45) [.string (⟨#[77, 97, 120, 82, 101, 99, 118, 68, 97, 116, 97, 83, 101, 103, 109, 101, 110, 116, 76, 101, 110, 103, 116, 104]⟩ : ByteArray), .string (⟨#[53, 49, 50]⟩ : ByteArray)] from (k45_mkM _ _ _ (⟨(⟨#[77, 97, 120, 82, 101, 99, 118, 68, 97, 116, 97, 83, 101, 103, 109, 101, 110, 116, 76, 101, 110, 103, 116, 104]⟩ : ByteArray), (⟨#[53, 49, 50]⟩ : ByteArray)⟩ : S45) )) (Reps.none _ _)))); intro v133 w51 ho52 hb hg_ hnew_; clear hg_ hnew_; (first | rw [← Ny132.out] at ho52 | (simp only [Int.reduceToNat] at ho52; rw [← Ny132.out] at ho52)); have n0_ := Aside0.mk (Kd.R_lower ho52 (below_size (hb_ HB))); have n1_ := Aside0.mk (below_step (hb_ HB) hb); clear HB; have HO134 := n0_; have HB := n1_; clear n0_ n1_; clear hb ho52; obtain ⟨Ao53, co53, eo53⟩ := Kd.R_slice HO134.out; subst eo53) | ((with_reducible refine gate_callee (f := 11) rfl ?_); refine goesL_ (some 9) rfl rfl Tryd.func11 (by kernel_rfl) rfl #[.agg #[.bool t124, .bool t125, .bool t126, .bool t127, .int .i64 t128, .int .i64 t129, .string t130, .string t131], .slice Ao53 y132.length co53] rfl (by (try simp only [List.map_toArray, List.map_cons, List.map_nil]); first | done | rfl | (simp only [List.length_drop, List.length_take]; rfl)) ?_; (with_reducible refine (keys_Answer.calls t124 t125 t126 t127 t128 t129 t130 t131 _ _ y132 false t136 t137 t138 t139 t140 t141 t142 t143 t146 _ ?side1 ?side2 ?side3 A2.out).mono ?_); (case side1 => repeat (first | exact (Kd.R_reads' HO134.out).2.2 | (with_reducible refine Kd.C_alloc ?_ _) | (with_reducible refine Kd.C_drewN ?_ _) | (with_reducible refine Kd.C_drew ?_))); (case side2 => exact (Kd.R_reads' HO134.out).2.1); (case side3 => first | ((refine Glob.keep HG.out ?_); (repeat (first | (with_reducible first | exact HB.out | apply below_alloc | apply pw_below_drewN | apply below_drew1) | exact HB.out)); done) | exact HG.out); rintro e w54 ⟨v144, rfl, ho0, hb⟩; refine ⟨_, rfl, ?_⟩; have n0_ := Aside0.mk (Kd.R_elder' (by (with_reducible repeat (first | apply Kd.R_alloc | apply Kd.R_drewN | apply Kd.R_drew)); exact HO134.out) (Kd.R_base ho0) hb); have n1_ := Aside0.mk (Kd.R_lower (Kd.R_new' ho0 (Kd.R_lt (by (with_reducible repeat (first | apply Kd.R_alloc | apply Kd.R_drewN | apply Kd.R_drew)); exact HO134.out))) (below_size (hb_ HB))); have n2_ := Aside0.mk (below_step (hb_ HB) hb); clear HO134; clear HB; have HO134 := n0_; have HO145 := n1_; have HB := n2_; clear n0_ n1_ n2_; (try clear hb); (try clear hb2); (try clear hk); (try clear hi); (try clear ho0)) | ((with_reducible refine gate_dst (N := 1) rfl ?_); (try (refine gate_guard (by rfl) ?_; dsimp only)); refine box_event ?hg (N := 1) ?hd (cs := #[.bool false, .bool false, .bool false, .bool false, .int .i64 0, .int .i64 0, .string (⟨#[]⟩ : ByteArray), .string (⟨#[]⟩ : ByteArray)]) (t := 23) ?hr ?_; (case hd => rfl); (case hg => rfl); (case hr => first | (go_simp; done) | (go_simp; rfl)); intro gb147 hg w55 hbox hb; have n0_ := Aside0.mk (Kd.R_below (by (with_reducible repeat (first | apply Kd.R_alloc | apply Kd.R_drewN | apply Kd.R_drew)); exact HO134.out) hb); have n1_ := Aside0.mk (Kd.R_below (by (with_reducible repeat (first | apply Kd.R_alloc | apply Kd.R_drewN | apply Kd.R_drew)); exact HO145.out) hb); have n2_ := Aside0.mk (below_step (hb_ HB) hb); have n3_ := Aside0.mk (hbox); have n4_ := Aside0.mk ((by rw [hg]; exact (below_size (hb_ HB)) : w.heap.size ≤ gb147)); have n5_ := Aside0.mk ((by rw [hg]; exact (below_size (hb_ HB)) : w.heap.size ≤ gb147)); clear HO134; clear HO145; clear HB; have HO134 := n0_; have HO145 := n1_; have HB := n2_; have BK147 := n3_; have GW147 := n4_; have GE147 := n5_; clear n0_ n1_ n2_ n3_ n4_ n5_; clear hb hbox hg; have hcz56_0 : w55.cell? ⟨gb147, 0, none⟩ = some (.bool false) := (blk_cell BK147.out 0).trans rfl; have hcz56_1 : w55.cell? ⟨gb147, 1, none⟩ = some (.bool false) := (blk_cell BK147.out 1).trans rfl; have hcz56_2 : w55.cell? ⟨gb147, 2, none⟩ = some (.bool false) := (blk_cell BK147.out 2).trans rfl; have hcz56_3 : w55.cell? ⟨gb147, 3, none⟩ = some (.bool false) := (blk_cell BK147.out 3).trans rfl; have hcz56_4 : w55.cell? ⟨gb147, 4, none⟩ = some (.int .i64 0) := (blk_cell BK147.out 4).trans rfl; have hcz56_5 : w55.cell? ⟨gb147, 5, none⟩ = some (.int .i64 0) := (blk_cell BK147.out 5).trans rfl; have hcz56_6 : w55.cell? ⟨gb147, 6, none⟩ = some (.string (⟨#[]⟩ : ByteArray)) := (blk_cell BK147.out 6).trans rfl; have hcz56_7 : w55.cell? ⟨gb147, 7, none⟩ = some (.string (⟨#[]⟩ : ByteArray)) := (blk_cell BK147.out 7).trans rfl; have hfz56_0 := blk_frozen BK147.out 0; have hfz56_1 := blk_frozen BK147.out 1; have hfz56_2 := blk_frozen BK147.out 2; have hfz56_3 := blk_frozen BK147.out 3; have hfz56_4 := blk_frozen BK147.out 4; have hfz56_5 := blk_frozen BK147.out 5; have hfz56_6 := blk_frozen BK147.out 6; have hfz56_7 := blk_frozen BK147.out 7))
  go_ret
  exact ⟨by first | rfl | (simp [errW_none, errW_some] <;> rfl) | (simp [*, errW_none, errW_some] <;> rfl) | (simp [bt, *]; done) | (unfold bt; simp [*]; done), by repeat (first | (with_reducible first | exact HB.out | apply below_alloc | apply pw_below_drewN | apply below_drew1 | refine below_set ?_ GE147.out) | exact HB.out)⟩
 rw [if_pos c12] at H
 have c12b0 : (t139 == 512) = true := beq_iff_eq.mpr c12
 have c12b1 : (t139 != 512) = false := bne_eq_false_iff_eq.mpr c12
 clear c12
 refine neg_first (p := ((t143.length : Int) = 2)) (fun c13 => ?_) (fun c13 => ?_)
 ·rw [if_neg c13] at H
  have c13b0 : ((t143.length : Int) == 2) = false := beq_eq_false_iff_ne.mpr c13
  have c13b1 : ((t143.length : Int) != 2) = true := bne_iff_ne.mpr c13
  obtain rfl := Option.some.inj H
  go_enter Tryd.func9, Tryd.ntmps9
  go_wp2_with (first | ((with_reducible refine gate_callee (f := 16) rfl ?_); refine goesL_ (some 5) rfl rfl Tryd.func16 (by kernel_rfl) rfl #[] rfl (by (try simp only [List.map_toArray, List.map_cons, List.map_nil]); first | done | rfl | (simp only [List.length_drop, List.length_take]; rfl)) ?_; (with_reducible refine (keys_First.calls  t124 t125 t126 t127 t128 t129 t130 t131 _ A1.out).mono ?_); rintro e w42 ⟨rfl, hb⟩; refine ⟨_, rfl, ?_⟩; have n0_ := Aside0.mk (below_step (hb_ HB) hb); clear HB; have HB := n0_; clear n0_; (try clear hb); (try clear hb2); (try clear hk); (try clear hi)) | ((with_reducible refine gate_dst (N := 8) rfl ?_); (try (refine gate_guard (by rfl) ?_; dsimp only)); refine Kd.R_lit k45 _ 45 ?hg (N := 8) ?hd (xs := ([(⟨(⟨#[72, 101, 97, 100, 101, 114, 68, 105, 103, 101, 115, 116]⟩ : ByteArray), (⟨#[78, 111, 110, 101, 44, 67, 82, 67, 51, 50, 67]⟩ : ByteArray)⟩ : S45), (⟨(⟨#[77, 97, 120, 82, 101, 99, 118, 68, 97, 116, 97, 83, 101, 103, 109, 101, 110, 116, 76, 101, 110, 103, 116, 104]⟩ : ByteArray), (⟨#[53, 49, 50]⟩ : ByteArray)⟩ : S45)] : List (S45))) (inner := [.string (⟨#[72, 101, 97, 100, 101, 114, 68, 105, 103, 101, 115, 116]⟩ : ByteArray), .string (⟨#[78, 111, 110, 101, 44, 67, 82, 67, 51, 50, 67]⟩ : ByteArray), .string (⟨#[77, 97, 120, 82, 101, 99, 118, 68, 97, 116, 97, 83, 101, 103, 109, 101, 110, 116, 76, 101, 110, 103, 116, 104]⟩ : ByteArray), .string (⟨#[53, 49, 50]⟩ : ByteArray)]) (ok := fun _ => True) (okp := fun _ => True) ?hr ?hp (fun _ hk => hk) trivial (Below.refl _ _) (Nat.le_refl _) (by simp) ?_; (case hd => rfl); (case hg => rfl); (case hr => first | (go_simp; done) | (go_simp; rfl)); (case hp => exact (Reps.c2 (show Kd.M k45 _ _ _ (⟨(⟨#[72, 101, 97, 100, 101, 114, 68, 105, 103, 101, 115, 116]⟩ : ByteArray), (⟨#[78, 111, 110, 101, 44, 67, 82, 67, 51, 50, 67]⟩ : ByteArray)⟩ : S45) [.string (⟨#[72, 101, 97, 100, 101, 114, 68, 105, 103, 101, 115, 116]⟩ : ByteArray), .string (⟨#[78, 111, 110, 101, 44, 67, 82, 67, 51, 50, 67]⟩ : ByteArray)] from (k45_mkM _ _ _ (⟨(⟨#[72, 101, 97, 100, 101, 114, 68, 105, 103, 101, 115, 116]⟩ : ByteArray), (⟨#[78, 111, 110, 101, 44, 67, 82, 67, 51, 50, 67]⟩ : ByteArray)⟩ : S45) )) (Reps.c2 (show Kd.M k45 _ _ _ (⟨(⟨#[77, 97, 120, 82, 101, 99, 118, 68, 97, 116, 97, 83, 101, 103, 109, 101, 110, 116, 76, 101, 110, 103, 116, 104]⟩ : ByteArray), (⟨#[53, 49, 50]⟩ : ByteArray)⟩ : S45) [.string (⟨#[77, 97, 120, 82, 101, 99, 118, 68, 97, 116, 97, 83, 101, 103, 109, 101, 110, 116, 76, 101, 110, 103, 116, 104]⟩ : ByteArray), .string (⟨#[53, 49, 50]⟩ : ByteArray)] from (k45_mkM _ _ _ (⟨(⟨#[77, 97, 120, 82, 101, 99, 118, 68, 97, 116, 97, 83, 101, 103, 109, 101, 110, 116, 76, 101, 110, 103, 116, 104]⟩ : ByteArray), (⟨#[53, 49, 50]⟩ : ByteArray)⟩ : S45) )) (Reps.none _ _)))); intro v133 w43 ho44 hb hg_ hnew_; clear hg_ hnew_; (first | rw [← Ny132.out] at ho44 | (simp only [Int.reduceToNat] at ho44; rw [← Ny132.out] at ho44)); have n0_ := Aside0.mk (Kd.R_lower ho44 (below_size (hb_ HB))); have n1_ := Aside0.mk (below_step (hb_ HB) hb); clear HB; have HO134 := n0_; have HB := n1_; clear n0_ n1_; clear hb ho44; obtain ⟨Ao45, co45, eo45⟩ := Kd.R_slice HO134.out; subst eo45) | ((with_reducible refine gate_callee (f := 11) rfl ?_); refine goesL_ (some 9) rfl rfl Tryd.func11 (by kernel_rfl) rfl #[.agg #[.bool t124, .bool t125, .bool t126, .bool t127, .int .i64 t128, .int .i64 t129, .string t130, .string t131], .slice Ao45 y132.length co45] rfl (by (try simp only [List.map_toArray, List.map_cons, List.map_nil]); first | done | rfl | (simp only [List.length_drop, List.length_take]; rfl)) ?_; (with_reducible refine (keys_Answer.calls t124 t125 t126 t127 t128 t129 t130 t131 _ _ y132 false t136 t137 t138 t139 t140 t141 t142 t143 t146 _ ?side1 ?side2 ?side3 A2.out).mono ?_); (case side1 => repeat (first | exact (Kd.R_reads' HO134.out).2.2 | (with_reducible refine Kd.C_alloc ?_ _) | (with_reducible refine Kd.C_drewN ?_ _) | (with_reducible refine Kd.C_drew ?_))); (case side2 => exact (Kd.R_reads' HO134.out).2.1); (case side3 => first | ((refine Glob.keep HG.out ?_); (repeat (first | (with_reducible first | exact HB.out | apply below_alloc | apply pw_below_drewN | apply below_drew1) | exact HB.out)); done) | exact HG.out); rintro e w46 ⟨v144, rfl, ho0, hb⟩; refine ⟨_, rfl, ?_⟩; have n0_ := Aside0.mk (Kd.R_elder' (by (with_reducible repeat (first | apply Kd.R_alloc | apply Kd.R_drewN | apply Kd.R_drew)); exact HO134.out) (Kd.R_base ho0) hb); have n1_ := Aside0.mk (Kd.R_lower (Kd.R_new' ho0 (Kd.R_lt (by (with_reducible repeat (first | apply Kd.R_alloc | apply Kd.R_drewN | apply Kd.R_drew)); exact HO134.out))) (below_size (hb_ HB))); have n2_ := Aside0.mk (below_step (hb_ HB) hb); clear HO134; clear HB; have HO134 := n0_; have HO145 := n1_; have HB := n2_; clear n0_ n1_ n2_; (try clear hb); (try clear hb2); (try clear hk); (try clear hi); (try clear ho0)) | ((with_reducible refine gate_dst (N := 1) rfl ?_); (try (refine gate_guard (by rfl) ?_; dsimp only)); refine box_event ?hg (N := 1) ?hd (cs := #[.bool false, .bool false, .bool false, .bool false, .int .i64 0, .int .i64 0, .string (⟨#[]⟩ : ByteArray), .string (⟨#[]⟩ : ByteArray)]) (t := 23) ?hr ?_; (case hd => rfl); (case hg => rfl); (case hr => first | (go_simp; done) | (go_simp; rfl)); intro gb147 hg w47 hbox hb; have n0_ := Aside0.mk (Kd.R_below (by (with_reducible repeat (first | apply Kd.R_alloc | apply Kd.R_drewN | apply Kd.R_drew)); exact HO134.out) hb); have n1_ := Aside0.mk (Kd.R_below (by (with_reducible repeat (first | apply Kd.R_alloc | apply Kd.R_drewN | apply Kd.R_drew)); exact HO145.out) hb); have n2_ := Aside0.mk (below_step (hb_ HB) hb); have n3_ := Aside0.mk (hbox); have n4_ := Aside0.mk ((by rw [hg]; exact (below_size (hb_ HB)) : w.heap.size ≤ gb147)); have n5_ := Aside0.mk ((by rw [hg]; exact (below_size (hb_ HB)) : w.heap.size ≤ gb147)); clear HO134; clear HO145; clear HB; have HO134 := n0_; have HO145 := n1_; have HB := n2_; have BK147 := n3_; have GW147 := n4_; have GE147 := n5_; clear n0_ n1_ n2_ n3_ n4_ n5_; clear hb hbox hg; have hcz48_0 : w47.cell? ⟨gb147, 0, none⟩ = some (.bool false) := (blk_cell BK147.out 0).trans rfl; have hcz48_1 : w47.cell? ⟨gb147, 1, none⟩ = some (.bool false) := (blk_cell BK147.out 1).trans rfl; have hcz48_2 : w47.cell? ⟨gb147, 2, none⟩ = some (.bool false) := (blk_cell BK147.out 2).trans rfl; have hcz48_3 : w47.cell? ⟨gb147, 3, none⟩ = some (.bool false) := (blk_cell BK147.out 3).trans rfl; have hcz48_4 : w47.cell? ⟨gb147, 4, none⟩ = some (.int .i64 0) := (blk_cell BK147.out 4).trans rfl; have hcz48_5 : w47.cell? ⟨gb147, 5, none⟩ = some (.int .i64 0) := (blk_cell BK147.out 5).trans rfl; have hcz48_6 : w47.cell? ⟨gb147, 6, none⟩ = some (.string (⟨#[]⟩ : ByteArray)) := (blk_cell BK147.out 6).trans rfl; have hcz48_7 : w47.cell? ⟨gb147, 7, none⟩ = some (.string (⟨#[]⟩ : ByteArray)) := (blk_cell BK147.out 7).trans rfl; have hfz48_0 := blk_frozen BK147.out 0; have hfz48_1 := blk_frozen BK147.out 1; have hfz48_2 := blk_frozen BK147.out 2; have hfz48_3 := blk_frozen BK147.out 3; have hfz48_4 := blk_frozen BK147.out 4; have hfz48_5 := blk_frozen BK147.out 5; have hfz48_6 := blk_frozen BK147.out 6; have hfz48_7 := blk_frozen BK147.out 7; obtain ⟨Ao49, co49, eo49⟩ := Kd.R_slice HO145.out; subst eo49))
  go_ret
  exact ⟨by first | rfl | (simp [errW_none, errW_some] <;> rfl) | (simp [*, errW_none, errW_some] <;> rfl) | (simp [bt, *]; done) | (unfold bt; simp [*]; done), by repeat (first | (with_reducible first | exact HB.out | apply below_alloc | apply pw_below_drewN | apply below_drew1 | refine below_set ?_ GE147.out) | exact HB.out)⟩
 rw [if_pos c13] at H
 have c13b0 : ((t143.length : Int) == 2) = true := beq_iff_eq.mpr c13
 have c13b1 : ((t143.length : Int) != 2) = false := bne_eq_false_iff_eq.mpr c13
 clear c13
 refine neg_first (p := (0 < (t143.length : Int))) (fun c14 => ?_) (fun c14 => ?_)
 ·rw [if_neg c14] at H
  exact absurd H (by simp)
 rw [if_pos c14] at H
 have c14b0 : decide (0 < (t143.length : Int)) = true := decide_eq_true c14
 have c14b1 : decide (0 < t143.length) = true := decide_eq_true (by omega)
 clear c14
 refine neg_first (p := (((rd_T45 t143 0).f1).toList = ([78, 111, 110, 101] : List UInt8))) (fun c15 => ?_) (fun c15 => ?_)
 ·rw [if_neg c15] at H
  have c15b0 : (((rd_T45 t143 0).f1).toList == ([78, 111, 110, 101] : List UInt8)) = false := beq_eq_false_iff_ne.mpr c15
  have c15b1 : (((rd_T45 t143 0).f1).toList != ([78, 111, 110, 101] : List UInt8)) = true := bne_iff_ne.mpr c15
  obtain rfl := Option.some.inj H
  go_enter Tryd.func9, Tryd.ntmps9
  go_wp2_with (first | ((with_reducible refine gate_callee (f := 16) rfl ?_); refine goesL_ (some 5) rfl rfl Tryd.func16 (by kernel_rfl) rfl #[] rfl (by (try simp only [List.map_toArray, List.map_cons, List.map_nil]); first | done | rfl | (simp only [List.length_drop, List.length_take]; rfl)) ?_; (with_reducible refine (keys_First.calls  t124 t125 t126 t127 t128 t129 t130 t131 _ A1.out).mono ?_); rintro e w34 ⟨rfl, hb⟩; refine ⟨_, rfl, ?_⟩; have n0_ := Aside0.mk (below_step (hb_ HB) hb); clear HB; have HB := n0_; clear n0_; (try clear hb); (try clear hb2); (try clear hk); (try clear hi)) | ((with_reducible refine gate_dst (N := 8) rfl ?_); (try (refine gate_guard (by rfl) ?_; dsimp only)); refine Kd.R_lit k45 _ 45 ?hg (N := 8) ?hd (xs := ([(⟨(⟨#[72, 101, 97, 100, 101, 114, 68, 105, 103, 101, 115, 116]⟩ : ByteArray), (⟨#[78, 111, 110, 101, 44, 67, 82, 67, 51, 50, 67]⟩ : ByteArray)⟩ : S45), (⟨(⟨#[77, 97, 120, 82, 101, 99, 118, 68, 97, 116, 97, 83, 101, 103, 109, 101, 110, 116, 76, 101, 110, 103, 116, 104]⟩ : ByteArray), (⟨#[53, 49, 50]⟩ : ByteArray)⟩ : S45)] : List (S45))) (inner := [.string (⟨#[72, 101, 97, 100, 101, 114, 68, 105, 103, 101, 115, 116]⟩ : ByteArray), .string (⟨#[78, 111, 110, 101, 44, 67, 82, 67, 51, 50, 67]⟩ : ByteArray), .string (⟨#[77, 97, 120, 82, 101, 99, 118, 68, 97, 116, 97, 83, 101, 103, 109, 101, 110, 116, 76, 101, 110, 103, 116, 104]⟩ : ByteArray), .string (⟨#[53, 49, 50]⟩ : ByteArray)]) (ok := fun _ => True) (okp := fun _ => True) ?hr ?hp (fun _ hk => hk) trivial (Below.refl _ _) (Nat.le_refl _) (by simp) ?_; (case hd => rfl); (case hg => rfl); (case hr => first | (go_simp; done) | (go_simp; rfl)); (case hp => exact (Reps.c2 (show Kd.M k45 _ _ _ (⟨(⟨#[72, 101, 97, 100, 101, 114, 68, 105, 103, 101, 115, 116]⟩ : ByteArray), (⟨#[78, 111, 110, 101, 44, 67, 82, 67, 51, 50, 67]⟩ : ByteArray)⟩ : S45) [.string (⟨#[72, 101, 97, 100, 101, 114, 68, 105, 103, 101, 115, 116]⟩ : ByteArray), .string (⟨#[78, 111, 110, 101, 44, 67, 82, 67, 51, 50, 67]⟩ : ByteArray)] from (k45_mkM _ _ _ (⟨(⟨#[72, 101, 97, 100, 101, 114, 68, 105, 103, 101, 115, 116]⟩ : ByteArray), (⟨#[78, 111, 110, 101, 44, 67, 82, 67, 51, 50, 67]⟩ : ByteArray)⟩ : S45) )) (Reps.c2 (show Kd.M k45 _ _ _ (⟨(⟨#[77, 97, 120, 82, 101, 99, 118, 68, 97, 116, 97, 83, 101, 103, 109, 101, 110, 116, 76, 101, 110, 103, 116, 104]⟩ : ByteArray), (⟨#[53, 49, 50]⟩ : ByteArray)⟩ : S45) [.string (⟨#[77, 97, 120, 82, 101, 99, 118, 68, 97, 116, 97, 83, 101, 103, 109, 101, 110, 116, 76, 101, 110, 103, 116, 104]⟩ : ByteArray), .string (⟨#[53, 49, 50]⟩ : ByteArray)] from (k45_mkM _ _ _ (⟨(⟨#[77, 97, 120, 82, 101, 99, 118, 68, 97, 116, 97, 83, 101, 103, 109, 101, 110, 116, 76, 101, 110, 103, 116, 104]⟩ : ByteArray), (⟨#[53, 49, 50]⟩ : ByteArray)⟩ : S45) )) (Reps.none _ _)))); intro v133 w35 ho36 hb hg_ hnew_; clear hg_ hnew_; (first | rw [← Ny132.out] at ho36 | (simp only [Int.reduceToNat] at ho36; rw [← Ny132.out] at ho36)); have n0_ := Aside0.mk (Kd.R_lower ho36 (below_size (hb_ HB))); have n1_ := Aside0.mk (below_step (hb_ HB) hb); clear HB; have HO134 := n0_; have HB := n1_; clear n0_ n1_; clear hb ho36; obtain ⟨Ao37, co37, eo37⟩ := Kd.R_slice HO134.out; subst eo37) | ((with_reducible refine gate_callee (f := 11) rfl ?_); refine goesL_ (some 9) rfl rfl Tryd.func11 (by kernel_rfl) rfl #[.agg #[.bool t124, .bool t125, .bool t126, .bool t127, .int .i64 t128, .int .i64 t129, .string t130, .string t131], .slice Ao37 y132.length co37] rfl (by (try simp only [List.map_toArray, List.map_cons, List.map_nil]); first | done | rfl | (simp only [List.length_drop, List.length_take]; rfl)) ?_; (with_reducible refine (keys_Answer.calls t124 t125 t126 t127 t128 t129 t130 t131 _ _ y132 false t136 t137 t138 t139 t140 t141 t142 t143 t146 _ ?side1 ?side2 ?side3 A2.out).mono ?_); (case side1 => repeat (first | exact (Kd.R_reads' HO134.out).2.2 | (with_reducible refine Kd.C_alloc ?_ _) | (with_reducible refine Kd.C_drewN ?_ _) | (with_reducible refine Kd.C_drew ?_))); (case side2 => exact (Kd.R_reads' HO134.out).2.1); (case side3 => first | ((refine Glob.keep HG.out ?_); (repeat (first | (with_reducible first | exact HB.out | apply below_alloc | apply pw_below_drewN | apply below_drew1) | exact HB.out)); done) | exact HG.out); rintro e w38 ⟨v144, rfl, ho0, hb⟩; refine ⟨_, rfl, ?_⟩; have n0_ := Aside0.mk (Kd.R_elder' (by (with_reducible repeat (first | apply Kd.R_alloc | apply Kd.R_drewN | apply Kd.R_drew)); exact HO134.out) (Kd.R_base ho0) hb); have n1_ := Aside0.mk (Kd.R_lower (Kd.R_new' ho0 (Kd.R_lt (by (with_reducible repeat (first | apply Kd.R_alloc | apply Kd.R_drewN | apply Kd.R_drew)); exact HO134.out))) (below_size (hb_ HB))); have n2_ := Aside0.mk (below_step (hb_ HB) hb); clear HO134; clear HB; have HO134 := n0_; have HO145 := n1_; have HB := n2_; clear n0_ n1_ n2_; (try clear hb); (try clear hb2); (try clear hk); (try clear hi); (try clear ho0)) | ((with_reducible refine gate_dst (N := 1) rfl ?_); (try (refine gate_guard (by rfl) ?_; dsimp only)); refine box_event ?hg (N := 1) ?hd (cs := #[.bool false, .bool false, .bool false, .bool false, .int .i64 0, .int .i64 0, .string (⟨#[]⟩ : ByteArray), .string (⟨#[]⟩ : ByteArray)]) (t := 23) ?hr ?_; (case hd => rfl); (case hg => rfl); (case hr => first | (go_simp; done) | (go_simp; rfl)); intro gb147 hg w39 hbox hb; have n0_ := Aside0.mk (Kd.R_below (by (with_reducible repeat (first | apply Kd.R_alloc | apply Kd.R_drewN | apply Kd.R_drew)); exact HO134.out) hb); have n1_ := Aside0.mk (Kd.R_below (by (with_reducible repeat (first | apply Kd.R_alloc | apply Kd.R_drewN | apply Kd.R_drew)); exact HO145.out) hb); have n2_ := Aside0.mk (below_step (hb_ HB) hb); have n3_ := Aside0.mk (hbox); have n4_ := Aside0.mk ((by rw [hg]; exact (below_size (hb_ HB)) : w.heap.size ≤ gb147)); have n5_ := Aside0.mk ((by rw [hg]; exact (below_size (hb_ HB)) : w.heap.size ≤ gb147)); clear HO134; clear HO145; clear HB; have HO134 := n0_; have HO145 := n1_; have HB := n2_; have BK147 := n3_; have GW147 := n4_; have GE147 := n5_; clear n0_ n1_ n2_ n3_ n4_ n5_; clear hb hbox hg; have hcz40_0 : w39.cell? ⟨gb147, 0, none⟩ = some (.bool false) := (blk_cell BK147.out 0).trans rfl; have hcz40_1 : w39.cell? ⟨gb147, 1, none⟩ = some (.bool false) := (blk_cell BK147.out 1).trans rfl; have hcz40_2 : w39.cell? ⟨gb147, 2, none⟩ = some (.bool false) := (blk_cell BK147.out 2).trans rfl; have hcz40_3 : w39.cell? ⟨gb147, 3, none⟩ = some (.bool false) := (blk_cell BK147.out 3).trans rfl; have hcz40_4 : w39.cell? ⟨gb147, 4, none⟩ = some (.int .i64 0) := (blk_cell BK147.out 4).trans rfl; have hcz40_5 : w39.cell? ⟨gb147, 5, none⟩ = some (.int .i64 0) := (blk_cell BK147.out 5).trans rfl; have hcz40_6 : w39.cell? ⟨gb147, 6, none⟩ = some (.string (⟨#[]⟩ : ByteArray)) := (blk_cell BK147.out 6).trans rfl; have hcz40_7 : w39.cell? ⟨gb147, 7, none⟩ = some (.string (⟨#[]⟩ : ByteArray)) := (blk_cell BK147.out 7).trans rfl; have hfz40_0 := blk_frozen BK147.out 0; have hfz40_1 := blk_frozen BK147.out 1; have hfz40_2 := blk_frozen BK147.out 2; have hfz40_3 := blk_frozen BK147.out 3; have hfz40_4 := blk_frozen BK147.out 4; have hfz40_5 := blk_frozen BK147.out 5; have hfz40_6 := blk_frozen BK147.out 6; have hfz40_7 := blk_frozen BK147.out 7; obtain ⟨Ao41, co41, eo41⟩ := Kd.R_slice HO145.out; subst eo41; have p148 : 0 ≤ (0 : Int) := (by omega); have q148 : 0 < (t143.length : Int) := of_decide_eq_true (by first | (with_reducible assumption) | assumption); obtain ⟨ad148, e148, hx148_0, hx148_1⟩ := at_T45 (Kd.R_reads' HO145.out).2.2 0 p148 q148; cases e148; have qi148 : (0 < t143.length) = True := eq_true (by omega); (try rw [show ((0 : Int)).toNat = 0 from rfl] at hx148_0); (try rw [show 0 * 2 = 0 from rfl] at hx148_0); (try rw [Addr.add_zero'] at hx148_0); (try rw [show ((0 : Int)).toNat = 0 from rfl] at hx148_1); (try rw [show 0 * 2 = 0 from rfl] at hx148_1); (try rw [Addr.add_zero'] at hx148_1); have hn148_0 : ad148.block ≠ gb147 := Kd.own_blk (by first | exact Kd.R_ne HO145.out BK147.out (by decide) | exact (fun e_ => (HO145.out.1 _ e_.symm).2 rfl)); have hn148_1 : ad148.block ≠ gb147 := Kd.own_blk (by first | exact Kd.R_ne HO145.out BK147.out (by decide) | exact (fun e_ => (HO145.out.1 _ e_.symm).2 rfl)); have hn148_2 : ad148.block ≠ gb147 := Kd.own_blk (by first | exact Kd.R_ne HO145.out BK147.out (by decide) | exact (fun e_ => (HO145.out.1 _ e_.symm).2 rfl)); have hn148_3 : ad148.block ≠ gb147 := Kd.own_blk (by first | exact Kd.R_ne HO145.out BK147.out (by decide) | exact (fun e_ => (HO145.out.1 _ e_.symm).2 rfl)); have hn148_4 : ad148.block ≠ gb147 := Kd.own_blk (by first | exact Kd.R_ne HO145.out BK147.out (by decide) | exact (fun e_ => (HO145.out.1 _ e_.symm).2 rfl)); have hn148_5 : ad148.block ≠ gb147 := Kd.own_blk (by first | exact Kd.R_ne HO145.out BK147.out (by decide) | exact (fun e_ => (HO145.out.1 _ e_.symm).2 rfl)); have hn148_6 : ad148.block ≠ gb147 := Kd.own_blk (by first | exact Kd.R_ne HO145.out BK147.out (by decide) | exact (fun e_ => (HO145.out.1 _ e_.symm).2 rfl)); have hn148_7 : ad148.block ≠ gb147 := Kd.own_blk (by first | exact Kd.R_ne HO145.out BK147.out (by decide) | exact (fun e_ => (HO145.out.1 _ e_.symm).2 rfl)); replace hx148_0 := (cell_far (p := ⟨gb147, 0, none⟩) (by first | (rw [add_block]; exact hn148_0) | (show (Addr.add _ _).block ≠ _; rw [add_block]; exact hn148_0) | exact hn148_0) (.bool false)).trans hx148_0; replace hx148_1 := (cell_far (p := ⟨gb147, 0, none⟩) (by first | (rw [add_block]; exact hn148_0) | (show (Addr.add _ _).block ≠ _; rw [add_block]; exact hn148_0) | exact hn148_0) (.bool false)).trans hx148_1; replace hx148_0 := (cell_far (p := ⟨gb147, 1, none⟩) (by first | (rw [add_block]; exact hn148_1) | (show (Addr.add _ _).block ≠ _; rw [add_block]; exact hn148_1) | exact hn148_1) (.bool t136)).trans hx148_0; replace hx148_1 := (cell_far (p := ⟨gb147, 1, none⟩) (by first | (rw [add_block]; exact hn148_1) | (show (Addr.add _ _).block ≠ _; rw [add_block]; exact hn148_1) | exact hn148_1) (.bool t136)).trans hx148_1; replace hx148_0 := (cell_far (p := ⟨gb147, 2, none⟩) (by first | (rw [add_block]; exact hn148_2) | (show (Addr.add _ _).block ≠ _; rw [add_block]; exact hn148_2) | exact hn148_2) (.bool t137)).trans hx148_0; replace hx148_1 := (cell_far (p := ⟨gb147, 2, none⟩) (by first | (rw [add_block]; exact hn148_2) | (show (Addr.add _ _).block ≠ _; rw [add_block]; exact hn148_2) | exact hn148_2) (.bool t137)).trans hx148_1; replace hx148_0 := (cell_far (p := ⟨gb147, 3, none⟩) (by first | (rw [add_block]; exact hn148_3) | (show (Addr.add _ _).block ≠ _; rw [add_block]; exact hn148_3) | exact hn148_3) (.bool t138)).trans hx148_0; replace hx148_1 := (cell_far (p := ⟨gb147, 3, none⟩) (by first | (rw [add_block]; exact hn148_3) | (show (Addr.add _ _).block ≠ _; rw [add_block]; exact hn148_3) | exact hn148_3) (.bool t138)).trans hx148_1; replace hx148_0 := (cell_far (p := ⟨gb147, 4, none⟩) (by first | (rw [add_block]; exact hn148_4) | (show (Addr.add _ _).block ≠ _; rw [add_block]; exact hn148_4) | exact hn148_4) (.int .i64 t139)).trans hx148_0; replace hx148_1 := (cell_far (p := ⟨gb147, 4, none⟩) (by first | (rw [add_block]; exact hn148_4) | (show (Addr.add _ _).block ≠ _; rw [add_block]; exact hn148_4) | exact hn148_4) (.int .i64 t139)).trans hx148_1; replace hx148_0 := (cell_far (p := ⟨gb147, 5, none⟩) (by first | (rw [add_block]; exact hn148_5) | (show (Addr.add _ _).block ≠ _; rw [add_block]; exact hn148_5) | exact hn148_5) (.int .i64 t140)).trans hx148_0; replace hx148_1 := (cell_far (p := ⟨gb147, 5, none⟩) (by first | (rw [add_block]; exact hn148_5) | (show (Addr.add _ _).block ≠ _; rw [add_block]; exact hn148_5) | exact hn148_5) (.int .i64 t140)).trans hx148_1; replace hx148_0 := (cell_far (p := ⟨gb147, 6, none⟩) (by first | (rw [add_block]; exact hn148_6) | (show (Addr.add _ _).block ≠ _; rw [add_block]; exact hn148_6) | exact hn148_6) (.string t141)).trans hx148_0; replace hx148_1 := (cell_far (p := ⟨gb147, 6, none⟩) (by first | (rw [add_block]; exact hn148_6) | (show (Addr.add _ _).block ≠ _; rw [add_block]; exact hn148_6) | exact hn148_6) (.string t141)).trans hx148_1; replace hx148_0 := (cell_far (p := ⟨gb147, 7, none⟩) (by first | (rw [add_block]; exact hn148_7) | (show (Addr.add _ _).block ≠ _; rw [add_block]; exact hn148_7) | exact hn148_7) (.string t142)).trans hx148_0; replace hx148_1 := (cell_far (p := ⟨gb147, 7, none⟩) (by first | (rw [add_block]; exact hn148_7) | (show (Addr.add _ _).block ≠ _; rw [add_block]; exact hn148_7) | exact hn148_7) (.string t142)).trans hx148_1; clear hn148_0; clear hn148_1; clear hn148_2; clear hn148_3; clear hn148_4; clear hn148_5; clear hn148_6; clear hn148_7; replace p148 := eq_true p148; replace q148 := eq_true q148))
  go_ret
  exact ⟨by first | rfl | (simp [errW_none, errW_some] <;> rfl) | (simp [*, errW_none, errW_some] <;> rfl) | (simp [bt, *]; done) | (unfold bt; simp [*]; done), by repeat (first | (with_reducible first | exact HB.out | apply below_alloc | apply pw_below_drewN | apply below_drew1 | refine below_set ?_ GE147.out) | exact HB.out)⟩
 rw [if_pos c15] at H
 have c15b0 : (((rd_T45 t143 0).f1).toList == ([78, 111, 110, 101] : List UInt8)) = true := beq_iff_eq.mpr c15
 have c15b1 : (((rd_T45 t143 0).f1).toList != ([78, 111, 110, 101] : List UInt8)) = false := bne_eq_false_iff_eq.mpr c15
 clear c15
 refine neg_first (p := (1 < (t143.length : Int))) (fun c16 => ?_) (fun c16 => ?_)
 ·rw [if_neg c16] at H
  exact absurd H (by simp)
 rw [if_pos c16] at H
 have c16b0 : decide (1 < (t143.length : Int)) = true := decide_eq_true c16
 have c16b1 : decide (1 < t143.length) = true := decide_eq_true (by omega)
 clear c16
 refine neg_first (p := (((rd_T45 t143 1).f1).toList = ([56, 49, 57, 50] : List UInt8))) (fun c17 => ?_) (fun c17 => ?_)
 ·rw [if_neg c17] at H
  have c17b0 : (((rd_T45 t143 1).f1).toList == ([56, 49, 57, 50] : List UInt8)) = false := beq_eq_false_iff_ne.mpr c17
  have c17b1 : (((rd_T45 t143 1).f1).toList != ([56, 49, 57, 50] : List UInt8)) = true := bne_iff_ne.mpr c17
  obtain rfl := Option.some.inj H
  go_enter Tryd.func9, Tryd.ntmps9
  go_wp2_with (first | ((with_reducible refine gate_callee (f := 16) rfl ?_); refine goesL_ (some 5) rfl rfl Tryd.func16 (by kernel_rfl) rfl #[] rfl (by (try simp only [List.map_toArray, List.map_cons, List.map_nil]); first | done | rfl | (simp only [List.length_drop, List.length_take]; rfl)) ?_; (with_reducible refine (keys_First.calls  t124 t125 t126 t127 t128 t129 t130 t131 _ A1.out).mono ?_); rintro e w26 ⟨rfl, hb⟩; refine ⟨_, rfl, ?_⟩; have n0_ := Aside0.mk (below_step (hb_ HB) hb); clear HB; have HB := n0_; clear n0_; (try clear hb); (try clear hb2); (try clear hk); (try clear hi)) | ((with_reducible refine gate_dst (N := 8) rfl ?_); (try (refine gate_guard (by rfl) ?_; dsimp only)); refine Kd.R_lit k45 _ 45 ?hg (N := 8) ?hd (xs := ([(⟨(⟨#[72, 101, 97, 100, 101, 114, 68, 105, 103, 101, 115, 116]⟩ : ByteArray), (⟨#[78, 111, 110, 101, 44, 67, 82, 67, 51, 50, 67]⟩ : ByteArray)⟩ : S45), (⟨(⟨#[77, 97, 120, 82, 101, 99, 118, 68, 97, 116, 97, 83, 101, 103, 109, 101, 110, 116, 76, 101, 110, 103, 116, 104]⟩ : ByteArray), (⟨#[53, 49, 50]⟩ : ByteArray)⟩ : S45)] : List (S45))) (inner := [.string (⟨#[72, 101, 97, 100, 101, 114, 68, 105, 103, 101, 115, 116]⟩ : ByteArray), .string (⟨#[78, 111, 110, 101, 44, 67, 82, 67, 51, 50, 67]⟩ : ByteArray), .string (⟨#[77, 97, 120, 82, 101, 99, 118, 68, 97, 116, 97, 83, 101, 103, 109, 101, 110, 116, 76, 101, 110, 103, 116, 104]⟩ : ByteArray), .string (⟨#[53, 49, 50]⟩ : ByteArray)]) (ok := fun _ => True) (okp := fun _ => True) ?hr ?hp (fun _ hk => hk) trivial (Below.refl _ _) (Nat.le_refl _) (by simp) ?_; (case hd => rfl); (case hg => rfl); (case hr => first | (go_simp; done) | (go_simp; rfl)); (case hp => exact (Reps.c2 (show Kd.M k45 _ _ _ (⟨(⟨#[72, 101, 97, 100, 101, 114, 68, 105, 103, 101, 115, 116]⟩ : ByteArray), (⟨#[78, 111, 110, 101, 44, 67, 82, 67, 51, 50, 67]⟩ : ByteArray)⟩ : S45) [.string (⟨#[72, 101, 97, 100, 101, 114, 68, 105, 103, 101, 115, 116]⟩ : ByteArray), .string (⟨#[78, 111, 110, 101, 44, 67, 82, 67, 51, 50, 67]⟩ : ByteArray)] from (k45_mkM _ _ _ (⟨(⟨#[72, 101, 97, 100, 101, 114, 68, 105, 103, 101, 115, 116]⟩ : ByteArray), (⟨#[78, 111, 110, 101, 44, 67, 82, 67, 51, 50, 67]⟩ : ByteArray)⟩ : S45) )) (Reps.c2 (show Kd.M k45 _ _ _ (⟨(⟨#[77, 97, 120, 82, 101, 99, 118, 68, 97, 116, 97, 83, 101, 103, 109, 101, 110, 116, 76, 101, 110, 103, 116, 104]⟩ : ByteArray), (⟨#[53, 49, 50]⟩ : ByteArray)⟩ : S45) [.string (⟨#[77, 97, 120, 82, 101, 99, 118, 68, 97, 116, 97, 83, 101, 103, 109, 101, 110, 116, 76, 101, 110, 103, 116, 104]⟩ : ByteArray), .string (⟨#[53, 49, 50]⟩ : ByteArray)] from (k45_mkM _ _ _ (⟨(⟨#[77, 97, 120, 82, 101, 99, 118, 68, 97, 116, 97, 83, 101, 103, 109, 101, 110, 116, 76, 101, 110, 103, 116, 104]⟩ : ByteArray), (⟨#[53, 49, 50]⟩ : ByteArray)⟩ : S45) )) (Reps.none _ _)))); intro v133 w27 ho28 hb hg_ hnew_; clear hg_ hnew_; (first | rw [← Ny132.out] at ho28 | (simp only [Int.reduceToNat] at ho28; rw [← Ny132.out] at ho28)); have n0_ := Aside0.mk (Kd.R_lower ho28 (below_size (hb_ HB))); have n1_ := Aside0.mk (below_step (hb_ HB) hb); clear HB; have HO134 := n0_; have HB := n1_; clear n0_ n1_; clear hb ho28; obtain ⟨Ao29, co29, eo29⟩ := Kd.R_slice HO134.out; subst eo29) | ((with_reducible refine gate_callee (f := 11) rfl ?_); refine goesL_ (some 9) rfl rfl Tryd.func11 (by kernel_rfl) rfl #[.agg #[.bool t124, .bool t125, .bool t126, .bool t127, .int .i64 t128, .int .i64 t129, .string t130, .string t131], .slice Ao29 y132.length co29] rfl (by (try simp only [List.map_toArray, List.map_cons, List.map_nil]); first | done | rfl | (simp only [List.length_drop, List.length_take]; rfl)) ?_; (with_reducible refine (keys_Answer.calls t124 t125 t126 t127 t128 t129 t130 t131 _ _ y132 false t136 t137 t138 t139 t140 t141 t142 t143 t146 _ ?side1 ?side2 ?side3 A2.out).mono ?_); (case side1 => repeat (first | exact (Kd.R_reads' HO134.out).2.2 | (with_reducible refine Kd.C_alloc ?_ _) | (with_reducible refine Kd.C_drewN ?_ _) | (with_reducible refine Kd.C_drew ?_))); (case side2 => exact (Kd.R_reads' HO134.out).2.1); (case side3 => first | ((refine Glob.keep HG.out ?_); (repeat (first | (with_reducible first | exact HB.out | apply below_alloc | apply pw_below_drewN | apply below_drew1) | exact HB.out)); done) | exact HG.out); rintro e w30 ⟨v144, rfl, ho0, hb⟩; refine ⟨_, rfl, ?_⟩; have n0_ := Aside0.mk (Kd.R_elder' (by (with_reducible repeat (first | apply Kd.R_alloc | apply Kd.R_drewN | apply Kd.R_drew)); exact HO134.out) (Kd.R_base ho0) hb); have n1_ := Aside0.mk (Kd.R_lower (Kd.R_new' ho0 (Kd.R_lt (by (with_reducible repeat (first | apply Kd.R_alloc | apply Kd.R_drewN | apply Kd.R_drew)); exact HO134.out))) (below_size (hb_ HB))); have n2_ := Aside0.mk (below_step (hb_ HB) hb); clear HO134; clear HB; have HO134 := n0_; have HO145 := n1_; have HB := n2_; clear n0_ n1_ n2_; (try clear hb); (try clear hb2); (try clear hk); (try clear hi); (try clear ho0)) | ((with_reducible refine gate_dst (N := 1) rfl ?_); (try (refine gate_guard (by rfl) ?_; dsimp only)); refine box_event ?hg (N := 1) ?hd (cs := #[.bool false, .bool false, .bool false, .bool false, .int .i64 0, .int .i64 0, .string (⟨#[]⟩ : ByteArray), .string (⟨#[]⟩ : ByteArray)]) (t := 23) ?hr ?_; (case hd => rfl); (case hg => rfl); (case hr => first | (go_simp; done) | (go_simp; rfl)); intro gb147 hg w31 hbox hb; have n0_ := Aside0.mk (Kd.R_below (by (with_reducible repeat (first | apply Kd.R_alloc | apply Kd.R_drewN | apply Kd.R_drew)); exact HO134.out) hb); have n1_ := Aside0.mk (Kd.R_below (by (with_reducible repeat (first | apply Kd.R_alloc | apply Kd.R_drewN | apply Kd.R_drew)); exact HO145.out) hb); have n2_ := Aside0.mk (below_step (hb_ HB) hb); have n3_ := Aside0.mk (hbox); have n4_ := Aside0.mk ((by rw [hg]; exact (below_size (hb_ HB)) : w.heap.size ≤ gb147)); have n5_ := Aside0.mk ((by rw [hg]; exact (below_size (hb_ HB)) : w.heap.size ≤ gb147)); clear HO134; clear HO145; clear HB; have HO134 := n0_; have HO145 := n1_; have HB := n2_; have BK147 := n3_; have GW147 := n4_; have GE147 := n5_; clear n0_ n1_ n2_ n3_ n4_ n5_; clear hb hbox hg; have hcz32_0 : w31.cell? ⟨gb147, 0, none⟩ = some (.bool false) := (blk_cell BK147.out 0).trans rfl; have hcz32_1 : w31.cell? ⟨gb147, 1, none⟩ = some (.bool false) := (blk_cell BK147.out 1).trans rfl; have hcz32_2 : w31.cell? ⟨gb147, 2, none⟩ = some (.bool false) := (blk_cell BK147.out 2).trans rfl; have hcz32_3 : w31.cell? ⟨gb147, 3, none⟩ = some (.bool false) := (blk_cell BK147.out 3).trans rfl; have hcz32_4 : w31.cell? ⟨gb147, 4, none⟩ = some (.int .i64 0) := (blk_cell BK147.out 4).trans rfl; have hcz32_5 : w31.cell? ⟨gb147, 5, none⟩ = some (.int .i64 0) := (blk_cell BK147.out 5).trans rfl; have hcz32_6 : w31.cell? ⟨gb147, 6, none⟩ = some (.string (⟨#[]⟩ : ByteArray)) := (blk_cell BK147.out 6).trans rfl; have hcz32_7 : w31.cell? ⟨gb147, 7, none⟩ = some (.string (⟨#[]⟩ : ByteArray)) := (blk_cell BK147.out 7).trans rfl; have hfz32_0 := blk_frozen BK147.out 0; have hfz32_1 := blk_frozen BK147.out 1; have hfz32_2 := blk_frozen BK147.out 2; have hfz32_3 := blk_frozen BK147.out 3; have hfz32_4 := blk_frozen BK147.out 4; have hfz32_5 := blk_frozen BK147.out 5; have hfz32_6 := blk_frozen BK147.out 6; have hfz32_7 := blk_frozen BK147.out 7; obtain ⟨Ao33, co33, eo33⟩ := Kd.R_slice HO145.out; subst eo33; have p148 : 0 ≤ (0 : Int) := (by omega); have q148 : 0 < (t143.length : Int) := of_decide_eq_true (by first | (with_reducible assumption) | assumption); obtain ⟨ad148, e148, hx148_0, hx148_1⟩ := at_T45 (Kd.R_reads' HO145.out).2.2 0 p148 q148; cases e148; have qi148 : (0 < t143.length) = True := eq_true (by omega); (try rw [show ((0 : Int)).toNat = 0 from rfl] at hx148_0); (try rw [show 0 * 2 = 0 from rfl] at hx148_0); (try rw [Addr.add_zero'] at hx148_0); (try rw [show ((0 : Int)).toNat = 0 from rfl] at hx148_1); (try rw [show 0 * 2 = 0 from rfl] at hx148_1); (try rw [Addr.add_zero'] at hx148_1); have hn148_0 : ad148.block ≠ gb147 := Kd.own_blk (by first | exact Kd.R_ne HO145.out BK147.out (by decide) | exact (fun e_ => (HO145.out.1 _ e_.symm).2 rfl)); have hn148_1 : ad148.block ≠ gb147 := Kd.own_blk (by first | exact Kd.R_ne HO145.out BK147.out (by decide) | exact (fun e_ => (HO145.out.1 _ e_.symm).2 rfl)); have hn148_2 : ad148.block ≠ gb147 := Kd.own_blk (by first | exact Kd.R_ne HO145.out BK147.out (by decide) | exact (fun e_ => (HO145.out.1 _ e_.symm).2 rfl)); have hn148_3 : ad148.block ≠ gb147 := Kd.own_blk (by first | exact Kd.R_ne HO145.out BK147.out (by decide) | exact (fun e_ => (HO145.out.1 _ e_.symm).2 rfl)); have hn148_4 : ad148.block ≠ gb147 := Kd.own_blk (by first | exact Kd.R_ne HO145.out BK147.out (by decide) | exact (fun e_ => (HO145.out.1 _ e_.symm).2 rfl)); have hn148_5 : ad148.block ≠ gb147 := Kd.own_blk (by first | exact Kd.R_ne HO145.out BK147.out (by decide) | exact (fun e_ => (HO145.out.1 _ e_.symm).2 rfl)); have hn148_6 : ad148.block ≠ gb147 := Kd.own_blk (by first | exact Kd.R_ne HO145.out BK147.out (by decide) | exact (fun e_ => (HO145.out.1 _ e_.symm).2 rfl)); have hn148_7 : ad148.block ≠ gb147 := Kd.own_blk (by first | exact Kd.R_ne HO145.out BK147.out (by decide) | exact (fun e_ => (HO145.out.1 _ e_.symm).2 rfl)); replace hx148_0 := (cell_far (p := ⟨gb147, 0, none⟩) (by first | (rw [add_block]; exact hn148_0) | (show (Addr.add _ _).block ≠ _; rw [add_block]; exact hn148_0) | exact hn148_0) (.bool false)).trans hx148_0; replace hx148_1 := (cell_far (p := ⟨gb147, 0, none⟩) (by first | (rw [add_block]; exact hn148_0) | (show (Addr.add _ _).block ≠ _; rw [add_block]; exact hn148_0) | exact hn148_0) (.bool false)).trans hx148_1; replace hx148_0 := (cell_far (p := ⟨gb147, 1, none⟩) (by first | (rw [add_block]; exact hn148_1) | (show (Addr.add _ _).block ≠ _; rw [add_block]; exact hn148_1) | exact hn148_1) (.bool t136)).trans hx148_0; replace hx148_1 := (cell_far (p := ⟨gb147, 1, none⟩) (by first | (rw [add_block]; exact hn148_1) | (show (Addr.add _ _).block ≠ _; rw [add_block]; exact hn148_1) | exact hn148_1) (.bool t136)).trans hx148_1; replace hx148_0 := (cell_far (p := ⟨gb147, 2, none⟩) (by first | (rw [add_block]; exact hn148_2) | (show (Addr.add _ _).block ≠ _; rw [add_block]; exact hn148_2) | exact hn148_2) (.bool t137)).trans hx148_0; replace hx148_1 := (cell_far (p := ⟨gb147, 2, none⟩) (by first | (rw [add_block]; exact hn148_2) | (show (Addr.add _ _).block ≠ _; rw [add_block]; exact hn148_2) | exact hn148_2) (.bool t137)).trans hx148_1; replace hx148_0 := (cell_far (p := ⟨gb147, 3, none⟩) (by first | (rw [add_block]; exact hn148_3) | (show (Addr.add _ _).block ≠ _; rw [add_block]; exact hn148_3) | exact hn148_3) (.bool t138)).trans hx148_0; replace hx148_1 := (cell_far (p := ⟨gb147, 3, none⟩) (by first | (rw [add_block]; exact hn148_3) | (show (Addr.add _ _).block ≠ _; rw [add_block]; exact hn148_3) | exact hn148_3) (.bool t138)).trans hx148_1; replace hx148_0 := (cell_far (p := ⟨gb147, 4, none⟩) (by first | (rw [add_block]; exact hn148_4) | (show (Addr.add _ _).block ≠ _; rw [add_block]; exact hn148_4) | exact hn148_4) (.int .i64 t139)).trans hx148_0; replace hx148_1 := (cell_far (p := ⟨gb147, 4, none⟩) (by first | (rw [add_block]; exact hn148_4) | (show (Addr.add _ _).block ≠ _; rw [add_block]; exact hn148_4) | exact hn148_4) (.int .i64 t139)).trans hx148_1; replace hx148_0 := (cell_far (p := ⟨gb147, 5, none⟩) (by first | (rw [add_block]; exact hn148_5) | (show (Addr.add _ _).block ≠ _; rw [add_block]; exact hn148_5) | exact hn148_5) (.int .i64 t140)).trans hx148_0; replace hx148_1 := (cell_far (p := ⟨gb147, 5, none⟩) (by first | (rw [add_block]; exact hn148_5) | (show (Addr.add _ _).block ≠ _; rw [add_block]; exact hn148_5) | exact hn148_5) (.int .i64 t140)).trans hx148_1; replace hx148_0 := (cell_far (p := ⟨gb147, 6, none⟩) (by first | (rw [add_block]; exact hn148_6) | (show (Addr.add _ _).block ≠ _; rw [add_block]; exact hn148_6) | exact hn148_6) (.string t141)).trans hx148_0; replace hx148_1 := (cell_far (p := ⟨gb147, 6, none⟩) (by first | (rw [add_block]; exact hn148_6) | (show (Addr.add _ _).block ≠ _; rw [add_block]; exact hn148_6) | exact hn148_6) (.string t141)).trans hx148_1; replace hx148_0 := (cell_far (p := ⟨gb147, 7, none⟩) (by first | (rw [add_block]; exact hn148_7) | (show (Addr.add _ _).block ≠ _; rw [add_block]; exact hn148_7) | exact hn148_7) (.string t142)).trans hx148_0; replace hx148_1 := (cell_far (p := ⟨gb147, 7, none⟩) (by first | (rw [add_block]; exact hn148_7) | (show (Addr.add _ _).block ≠ _; rw [add_block]; exact hn148_7) | exact hn148_7) (.string t142)).trans hx148_1; clear hn148_0; clear hn148_1; clear hn148_2; clear hn148_3; clear hn148_4; clear hn148_5; clear hn148_6; clear hn148_7; replace p148 := eq_true p148; replace q148 := eq_true q148; have p149 : 0 ≤ (1 : Int) := (by omega); have q149 : 1 < (t143.length : Int) := of_decide_eq_true (by first | (with_reducible assumption) | assumption); obtain ⟨ad149, e149, hx149_0, hx149_1⟩ := at_T45 (Kd.R_reads' HO145.out).2.2 1 p149 q149; obtain rfl : ad148 = ad149 := (by injection e149); (try simp only [show (1 : Int).toNat = 1 from rfl, Nat.reduceMul, Nat.reduceEqDiff, Go.Addr.add, ↓reduceIte] at hx149_0); (try simp only [show (1 : Int).toNat = 1 from rfl, Nat.reduceMul, Nat.reduceEqDiff, Go.Addr.add, ↓reduceIte] at hx149_1); have qi149 : (1 < t143.length) = True := eq_true (by omega); (try rw [show ((1 : Int)).toNat = 1 from rfl] at hx149_0); (try rw [show 1 * 2 = 2 from rfl] at hx149_0); (try rw [show ((1 : Int)).toNat = 1 from rfl] at hx149_1); (try rw [show 1 * 2 = 2 from rfl] at hx149_1); have hn149_0 : ad148.block ≠ gb147 := Kd.own_blk (by first | exact Kd.R_ne HO145.out BK147.out (by decide) | exact (fun e_ => (HO145.out.1 _ e_.symm).2 rfl)); have hn149_1 : ad148.block ≠ gb147 := Kd.own_blk (by first | exact Kd.R_ne HO145.out BK147.out (by decide) | exact (fun e_ => (HO145.out.1 _ e_.symm).2 rfl)); have hn149_2 : ad148.block ≠ gb147 := Kd.own_blk (by first | exact Kd.R_ne HO145.out BK147.out (by decide) | exact (fun e_ => (HO145.out.1 _ e_.symm).2 rfl)); have hn149_3 : ad148.block ≠ gb147 := Kd.own_blk (by first | exact Kd.R_ne HO145.out BK147.out (by decide) | exact (fun e_ => (HO145.out.1 _ e_.symm).2 rfl)); have hn149_4 : ad148.block ≠ gb147 := Kd.own_blk (by first | exact Kd.R_ne HO145.out BK147.out (by decide) | exact (fun e_ => (HO145.out.1 _ e_.symm).2 rfl)); have hn149_5 : ad148.block ≠ gb147 := Kd.own_blk (by first | exact Kd.R_ne HO145.out BK147.out (by decide) | exact (fun e_ => (HO145.out.1 _ e_.symm).2 rfl)); have hn149_6 : ad148.block ≠ gb147 := Kd.own_blk (by first | exact Kd.R_ne HO145.out BK147.out (by decide) | exact (fun e_ => (HO145.out.1 _ e_.symm).2 rfl)); have hn149_7 : ad148.block ≠ gb147 := Kd.own_blk (by first | exact Kd.R_ne HO145.out BK147.out (by decide) | exact (fun e_ => (HO145.out.1 _ e_.symm).2 rfl)); replace hx149_0 := (cell_far (p := ⟨gb147, 0, none⟩) (by first | (rw [add_block]; exact hn149_0) | (show (Addr.add _ _).block ≠ _; rw [add_block]; exact hn149_0) | exact hn149_0) (.bool false)).trans hx149_0; replace hx149_1 := (cell_far (p := ⟨gb147, 0, none⟩) (by first | (rw [add_block]; exact hn149_0) | (show (Addr.add _ _).block ≠ _; rw [add_block]; exact hn149_0) | exact hn149_0) (.bool false)).trans hx149_1; replace hx149_0 := (cell_far (p := ⟨gb147, 1, none⟩) (by first | (rw [add_block]; exact hn149_1) | (show (Addr.add _ _).block ≠ _; rw [add_block]; exact hn149_1) | exact hn149_1) (.bool t136)).trans hx149_0; replace hx149_1 := (cell_far (p := ⟨gb147, 1, none⟩) (by first | (rw [add_block]; exact hn149_1) | (show (Addr.add _ _).block ≠ _; rw [add_block]; exact hn149_1) | exact hn149_1) (.bool t136)).trans hx149_1; replace hx149_0 := (cell_far (p := ⟨gb147, 2, none⟩) (by first | (rw [add_block]; exact hn149_2) | (show (Addr.add _ _).block ≠ _; rw [add_block]; exact hn149_2) | exact hn149_2) (.bool t137)).trans hx149_0; replace hx149_1 := (cell_far (p := ⟨gb147, 2, none⟩) (by first | (rw [add_block]; exact hn149_2) | (show (Addr.add _ _).block ≠ _; rw [add_block]; exact hn149_2) | exact hn149_2) (.bool t137)).trans hx149_1; replace hx149_0 := (cell_far (p := ⟨gb147, 3, none⟩) (by first | (rw [add_block]; exact hn149_3) | (show (Addr.add _ _).block ≠ _; rw [add_block]; exact hn149_3) | exact hn149_3) (.bool t138)).trans hx149_0; replace hx149_1 := (cell_far (p := ⟨gb147, 3, none⟩) (by first | (rw [add_block]; exact hn149_3) | (show (Addr.add _ _).block ≠ _; rw [add_block]; exact hn149_3) | exact hn149_3) (.bool t138)).trans hx149_1; replace hx149_0 := (cell_far (p := ⟨gb147, 4, none⟩) (by first | (rw [add_block]; exact hn149_4) | (show (Addr.add _ _).block ≠ _; rw [add_block]; exact hn149_4) | exact hn149_4) (.int .i64 t139)).trans hx149_0; replace hx149_1 := (cell_far (p := ⟨gb147, 4, none⟩) (by first | (rw [add_block]; exact hn149_4) | (show (Addr.add _ _).block ≠ _; rw [add_block]; exact hn149_4) | exact hn149_4) (.int .i64 t139)).trans hx149_1; replace hx149_0 := (cell_far (p := ⟨gb147, 5, none⟩) (by first | (rw [add_block]; exact hn149_5) | (show (Addr.add _ _).block ≠ _; rw [add_block]; exact hn149_5) | exact hn149_5) (.int .i64 t140)).trans hx149_0; replace hx149_1 := (cell_far (p := ⟨gb147, 5, none⟩) (by first | (rw [add_block]; exact hn149_5) | (show (Addr.add _ _).block ≠ _; rw [add_block]; exact hn149_5) | exact hn149_5) (.int .i64 t140)).trans hx149_1; replace hx149_0 := (cell_far (p := ⟨gb147, 6, none⟩) (by first | (rw [add_block]; exact hn149_6) | (show (Addr.add _ _).block ≠ _; rw [add_block]; exact hn149_6) | exact hn149_6) (.string t141)).trans hx149_0; replace hx149_1 := (cell_far (p := ⟨gb147, 6, none⟩) (by first | (rw [add_block]; exact hn149_6) | (show (Addr.add _ _).block ≠ _; rw [add_block]; exact hn149_6) | exact hn149_6) (.string t141)).trans hx149_1; replace hx149_0 := (cell_far (p := ⟨gb147, 7, none⟩) (by first | (rw [add_block]; exact hn149_7) | (show (Addr.add _ _).block ≠ _; rw [add_block]; exact hn149_7) | exact hn149_7) (.string t142)).trans hx149_0; replace hx149_1 := (cell_far (p := ⟨gb147, 7, none⟩) (by first | (rw [add_block]; exact hn149_7) | (show (Addr.add _ _).block ≠ _; rw [add_block]; exact hn149_7) | exact hn149_7) (.string t142)).trans hx149_1; clear hn149_0; clear hn149_1; clear hn149_2; clear hn149_3; clear hn149_4; clear hn149_5; clear hn149_6; clear hn149_7; replace p149 := eq_true p149; replace q149 := eq_true q149))
  go_ret
  exact ⟨by first | rfl | (simp [errW_none, errW_some] <;> rfl) | (simp [*, errW_none, errW_some] <;> rfl) | (simp [bt, *]; done) | (unfold bt; simp [*]; done), by repeat (first | (with_reducible first | exact HB.out | apply below_alloc | apply pw_below_drewN | apply below_drew1 | refine below_set ?_ GE147.out) | exact HB.out)⟩
 rw [if_pos c17] at H
 have c17b0 : (((rd_T45 t143 1).f1).toList == ([56, 49, 57, 50] : List UInt8)) = true := beq_iff_eq.mpr c17
 have c17b1 : (((rd_T45 t143 1).f1).toList != ([56, 49, 57, 50] : List UInt8)) = false := bne_eq_false_iff_eq.mpr c17
 clear c17
 obtain rfl := Option.some.inj H
 go_enter Tryd.func9, Tryd.ntmps9
 go_wp2_with (first | ((with_reducible refine gate_callee (f := 16) rfl ?_); refine goesL_ (some 5) rfl rfl Tryd.func16 (by kernel_rfl) rfl #[] rfl (by (try simp only [List.map_toArray, List.map_cons, List.map_nil]); first | done | rfl | (simp only [List.length_drop, List.length_take]; rfl)) ?_; (with_reducible refine (keys_First.calls  t124 t125 t126 t127 t128 t129 t130 t131 _ A1.out).mono ?_); rintro e w18 ⟨rfl, hb⟩; refine ⟨_, rfl, ?_⟩; have n0_ := Aside0.mk (below_step (hb_ HB) hb); clear HB; have HB := n0_; clear n0_; (try clear hb); (try clear hb2); (try clear hk); (try clear hi)) | ((with_reducible refine gate_dst (N := 8) rfl ?_); (try (refine gate_guard (by rfl) ?_; dsimp only)); refine Kd.R_lit k45 _ 45 ?hg (N := 8) ?hd (xs := ([(⟨(⟨#[72, 101, 97, 100, 101, 114, 68, 105, 103, 101, 115, 116]⟩ : ByteArray), (⟨#[78, 111, 110, 101, 44, 67, 82, 67, 51, 50, 67]⟩ : ByteArray)⟩ : S45), (⟨(⟨#[77, 97, 120, 82, 101, 99, 118, 68, 97, 116, 97, 83, 101, 103, 109, 101, 110, 116, 76, 101, 110, 103, 116, 104]⟩ : ByteArray), (⟨#[53, 49, 50]⟩ : ByteArray)⟩ : S45)] : List (S45))) (inner := [.string (⟨#[72, 101, 97, 100, 101, 114, 68, 105, 103, 101, 115, 116]⟩ : ByteArray), .string (⟨#[78, 111, 110, 101, 44, 67, 82, 67, 51, 50, 67]⟩ : ByteArray), .string (⟨#[77, 97, 120, 82, 101, 99, 118, 68, 97, 116, 97, 83, 101, 103, 109, 101, 110, 116, 76, 101, 110, 103, 116, 104]⟩ : ByteArray), .string (⟨#[53, 49, 50]⟩ : ByteArray)]) (ok := fun _ => True) (okp := fun _ => True) ?hr ?hp (fun _ hk => hk) trivial (Below.refl _ _) (Nat.le_refl _) (by simp) ?_; (case hd => rfl); (case hg => rfl); (case hr => first | (go_simp; done) | (go_simp; rfl)); (case hp => exact (Reps.c2 (show Kd.M k45 _ _ _ (⟨(⟨#[72, 101, 97, 100, 101, 114, 68, 105, 103, 101, 115, 116]⟩ : ByteArray), (⟨#[78, 111, 110, 101, 44, 67, 82, 67, 51, 50, 67]⟩ : ByteArray)⟩ : S45) [.string (⟨#[72, 101, 97, 100, 101, 114, 68, 105, 103, 101, 115, 116]⟩ : ByteArray), .string (⟨#[78, 111, 110, 101, 44, 67, 82, 67, 51, 50, 67]⟩ : ByteArray)] from (k45_mkM _ _ _ (⟨(⟨#[72, 101, 97, 100, 101, 114, 68, 105, 103, 101, 115, 116]⟩ : ByteArray), (⟨#[78, 111, 110, 101, 44, 67, 82, 67, 51, 50, 67]⟩ : ByteArray)⟩ : S45) )) (Reps.c2 (show Kd.M k45 _ _ _ (⟨(⟨#[77, 97, 120, 82, 101, 99, 118, 68, 97, 116, 97, 83, 101, 103, 109, 101, 110, 116, 76, 101, 110, 103, 116, 104]⟩ : ByteArray), (⟨#[53, 49, 50]⟩ : ByteArray)⟩ : S45) [.string (⟨#[77, 97, 120, 82, 101, 99, 118, 68, 97, 116, 97, 83, 101, 103, 109, 101, 110, 116, 76, 101, 110, 103, 116, 104]⟩ : ByteArray), .string (⟨#[53, 49, 50]⟩ : ByteArray)] from (k45_mkM _ _ _ (⟨(⟨#[77, 97, 120, 82, 101, 99, 118, 68, 97, 116, 97, 83, 101, 103, 109, 101, 110, 116, 76, 101, 110, 103, 116, 104]⟩ : ByteArray), (⟨#[53, 49, 50]⟩ : ByteArray)⟩ : S45) )) (Reps.none _ _)))); intro v133 w19 ho20 hb hg_ hnew_; clear hg_ hnew_; (first | rw [← Ny132.out] at ho20 | (simp only [Int.reduceToNat] at ho20; rw [← Ny132.out] at ho20)); have n0_ := Aside0.mk (Kd.R_lower ho20 (below_size (hb_ HB))); have n1_ := Aside0.mk (below_step (hb_ HB) hb); clear HB; have HO134 := n0_; have HB := n1_; clear n0_ n1_; clear hb ho20; obtain ⟨Ao21, co21, eo21⟩ := Kd.R_slice HO134.out; subst eo21) | ((with_reducible refine gate_callee (f := 11) rfl ?_); refine goesL_ (some 9) rfl rfl Tryd.func11 (by kernel_rfl) rfl #[.agg #[.bool t124, .bool t125, .bool t126, .bool t127, .int .i64 t128, .int .i64 t129, .string t130, .string t131], .slice Ao21 y132.length co21] rfl (by (try simp only [List.map_toArray, List.map_cons, List.map_nil]); first | done | rfl | (simp only [List.length_drop, List.length_take]; rfl)) ?_; (with_reducible refine (keys_Answer.calls t124 t125 t126 t127 t128 t129 t130 t131 _ _ y132 false t136 t137 t138 t139 t140 t141 t142 t143 t146 _ ?side1 ?side2 ?side3 A2.out).mono ?_); (case side1 => repeat (first | exact (Kd.R_reads' HO134.out).2.2 | (with_reducible refine Kd.C_alloc ?_ _) | (with_reducible refine Kd.C_drewN ?_ _) | (with_reducible refine Kd.C_drew ?_))); (case side2 => exact (Kd.R_reads' HO134.out).2.1); (case side3 => first | ((refine Glob.keep HG.out ?_); (repeat (first | (with_reducible first | exact HB.out | apply below_alloc | apply pw_below_drewN | apply below_drew1) | exact HB.out)); done) | exact HG.out); rintro e w22 ⟨v144, rfl, ho0, hb⟩; refine ⟨_, rfl, ?_⟩; have n0_ := Aside0.mk (Kd.R_elder' (by (with_reducible repeat (first | apply Kd.R_alloc | apply Kd.R_drewN | apply Kd.R_drew)); exact HO134.out) (Kd.R_base ho0) hb); have n1_ := Aside0.mk (Kd.R_lower (Kd.R_new' ho0 (Kd.R_lt (by (with_reducible repeat (first | apply Kd.R_alloc | apply Kd.R_drewN | apply Kd.R_drew)); exact HO134.out))) (below_size (hb_ HB))); have n2_ := Aside0.mk (below_step (hb_ HB) hb); clear HO134; clear HB; have HO134 := n0_; have HO145 := n1_; have HB := n2_; clear n0_ n1_ n2_; (try clear hb); (try clear hb2); (try clear hk); (try clear hi); (try clear ho0)) | ((with_reducible refine gate_dst (N := 1) rfl ?_); (try (refine gate_guard (by rfl) ?_; dsimp only)); refine box_event ?hg (N := 1) ?hd (cs := #[.bool false, .bool false, .bool false, .bool false, .int .i64 0, .int .i64 0, .string (⟨#[]⟩ : ByteArray), .string (⟨#[]⟩ : ByteArray)]) (t := 23) ?hr ?_; (case hd => rfl); (case hg => rfl); (case hr => first | (go_simp; done) | (go_simp; rfl)); intro gb147 hg w23 hbox hb; have n0_ := Aside0.mk (Kd.R_below (by (with_reducible repeat (first | apply Kd.R_alloc | apply Kd.R_drewN | apply Kd.R_drew)); exact HO134.out) hb); have n1_ := Aside0.mk (Kd.R_below (by (with_reducible repeat (first | apply Kd.R_alloc | apply Kd.R_drewN | apply Kd.R_drew)); exact HO145.out) hb); have n2_ := Aside0.mk (below_step (hb_ HB) hb); have n3_ := Aside0.mk (hbox); have n4_ := Aside0.mk ((by rw [hg]; exact (below_size (hb_ HB)) : w.heap.size ≤ gb147)); have n5_ := Aside0.mk ((by rw [hg]; exact (below_size (hb_ HB)) : w.heap.size ≤ gb147)); clear HO134; clear HO145; clear HB; have HO134 := n0_; have HO145 := n1_; have HB := n2_; have BK147 := n3_; have GW147 := n4_; have GE147 := n5_; clear n0_ n1_ n2_ n3_ n4_ n5_; clear hb hbox hg; have hcz24_0 : w23.cell? ⟨gb147, 0, none⟩ = some (.bool false) := (blk_cell BK147.out 0).trans rfl; have hcz24_1 : w23.cell? ⟨gb147, 1, none⟩ = some (.bool false) := (blk_cell BK147.out 1).trans rfl; have hcz24_2 : w23.cell? ⟨gb147, 2, none⟩ = some (.bool false) := (blk_cell BK147.out 2).trans rfl; have hcz24_3 : w23.cell? ⟨gb147, 3, none⟩ = some (.bool false) := (blk_cell BK147.out 3).trans rfl; have hcz24_4 : w23.cell? ⟨gb147, 4, none⟩ = some (.int .i64 0) := (blk_cell BK147.out 4).trans rfl; have hcz24_5 : w23.cell? ⟨gb147, 5, none⟩ = some (.int .i64 0) := (blk_cell BK147.out 5).trans rfl; have hcz24_6 : w23.cell? ⟨gb147, 6, none⟩ = some (.string (⟨#[]⟩ : ByteArray)) := (blk_cell BK147.out 6).trans rfl; have hcz24_7 : w23.cell? ⟨gb147, 7, none⟩ = some (.string (⟨#[]⟩ : ByteArray)) := (blk_cell BK147.out 7).trans rfl; have hfz24_0 := blk_frozen BK147.out 0; have hfz24_1 := blk_frozen BK147.out 1; have hfz24_2 := blk_frozen BK147.out 2; have hfz24_3 := blk_frozen BK147.out 3; have hfz24_4 := blk_frozen BK147.out 4; have hfz24_5 := blk_frozen BK147.out 5; have hfz24_6 := blk_frozen BK147.out 6; have hfz24_7 := blk_frozen BK147.out 7; obtain ⟨Ao25, co25, eo25⟩ := Kd.R_slice HO145.out; subst eo25; have p148 : 0 ≤ (0 : Int) := (by omega); have q148 : 0 < (t143.length : Int) := of_decide_eq_true (by first | (with_reducible assumption) | assumption); obtain ⟨ad148, e148, hx148_0, hx148_1⟩ := at_T45 (Kd.R_reads' HO145.out).2.2 0 p148 q148; cases e148; have qi148 : (0 < t143.length) = True := eq_true (by omega); (try rw [show ((0 : Int)).toNat = 0 from rfl] at hx148_0); (try rw [show 0 * 2 = 0 from rfl] at hx148_0); (try rw [Addr.add_zero'] at hx148_0); (try rw [show ((0 : Int)).toNat = 0 from rfl] at hx148_1); (try rw [show 0 * 2 = 0 from rfl] at hx148_1); (try rw [Addr.add_zero'] at hx148_1); have hn148_0 : ad148.block ≠ gb147 := Kd.own_blk (by first | exact Kd.R_ne HO145.out BK147.out (by decide) | exact (fun e_ => (HO145.out.1 _ e_.symm).2 rfl)); have hn148_1 : ad148.block ≠ gb147 := Kd.own_blk (by first | exact Kd.R_ne HO145.out BK147.out (by decide) | exact (fun e_ => (HO145.out.1 _ e_.symm).2 rfl)); have hn148_2 : ad148.block ≠ gb147 := Kd.own_blk (by first | exact Kd.R_ne HO145.out BK147.out (by decide) | exact (fun e_ => (HO145.out.1 _ e_.symm).2 rfl)); have hn148_3 : ad148.block ≠ gb147 := Kd.own_blk (by first | exact Kd.R_ne HO145.out BK147.out (by decide) | exact (fun e_ => (HO145.out.1 _ e_.symm).2 rfl)); have hn148_4 : ad148.block ≠ gb147 := Kd.own_blk (by first | exact Kd.R_ne HO145.out BK147.out (by decide) | exact (fun e_ => (HO145.out.1 _ e_.symm).2 rfl)); have hn148_5 : ad148.block ≠ gb147 := Kd.own_blk (by first | exact Kd.R_ne HO145.out BK147.out (by decide) | exact (fun e_ => (HO145.out.1 _ e_.symm).2 rfl)); have hn148_6 : ad148.block ≠ gb147 := Kd.own_blk (by first | exact Kd.R_ne HO145.out BK147.out (by decide) | exact (fun e_ => (HO145.out.1 _ e_.symm).2 rfl)); have hn148_7 : ad148.block ≠ gb147 := Kd.own_blk (by first | exact Kd.R_ne HO145.out BK147.out (by decide) | exact (fun e_ => (HO145.out.1 _ e_.symm).2 rfl)); replace hx148_0 := (cell_far (p := ⟨gb147, 0, none⟩) (by first | (rw [add_block]; exact hn148_0) | (show (Addr.add _ _).block ≠ _; rw [add_block]; exact hn148_0) | exact hn148_0) (.bool false)).trans hx148_0; replace hx148_1 := (cell_far (p := ⟨gb147, 0, none⟩) (by first | (rw [add_block]; exact hn148_0) | (show (Addr.add _ _).block ≠ _; rw [add_block]; exact hn148_0) | exact hn148_0) (.bool false)).trans hx148_1; replace hx148_0 := (cell_far (p := ⟨gb147, 1, none⟩) (by first | (rw [add_block]; exact hn148_1) | (show (Addr.add _ _).block ≠ _; rw [add_block]; exact hn148_1) | exact hn148_1) (.bool t136)).trans hx148_0; replace hx148_1 := (cell_far (p := ⟨gb147, 1, none⟩) (by first | (rw [add_block]; exact hn148_1) | (show (Addr.add _ _).block ≠ _; rw [add_block]; exact hn148_1) | exact hn148_1) (.bool t136)).trans hx148_1; replace hx148_0 := (cell_far (p := ⟨gb147, 2, none⟩) (by first | (rw [add_block]; exact hn148_2) | (show (Addr.add _ _).block ≠ _; rw [add_block]; exact hn148_2) | exact hn148_2) (.bool t137)).trans hx148_0; replace hx148_1 := (cell_far (p := ⟨gb147, 2, none⟩) (by first | (rw [add_block]; exact hn148_2) | (show (Addr.add _ _).block ≠ _; rw [add_block]; exact hn148_2) | exact hn148_2) (.bool t137)).trans hx148_1; replace hx148_0 := (cell_far (p := ⟨gb147, 3, none⟩) (by first | (rw [add_block]; exact hn148_3) | (show (Addr.add _ _).block ≠ _; rw [add_block]; exact hn148_3) | exact hn148_3) (.bool t138)).trans hx148_0; replace hx148_1 := (cell_far (p := ⟨gb147, 3, none⟩) (by first | (rw [add_block]; exact hn148_3) | (show (Addr.add _ _).block ≠ _; rw [add_block]; exact hn148_3) | exact hn148_3) (.bool t138)).trans hx148_1; replace hx148_0 := (cell_far (p := ⟨gb147, 4, none⟩) (by first | (rw [add_block]; exact hn148_4) | (show (Addr.add _ _).block ≠ _; rw [add_block]; exact hn148_4) | exact hn148_4) (.int .i64 t139)).trans hx148_0; replace hx148_1 := (cell_far (p := ⟨gb147, 4, none⟩) (by first | (rw [add_block]; exact hn148_4) | (show (Addr.add _ _).block ≠ _; rw [add_block]; exact hn148_4) | exact hn148_4) (.int .i64 t139)).trans hx148_1; replace hx148_0 := (cell_far (p := ⟨gb147, 5, none⟩) (by first | (rw [add_block]; exact hn148_5) | (show (Addr.add _ _).block ≠ _; rw [add_block]; exact hn148_5) | exact hn148_5) (.int .i64 t140)).trans hx148_0; replace hx148_1 := (cell_far (p := ⟨gb147, 5, none⟩) (by first | (rw [add_block]; exact hn148_5) | (show (Addr.add _ _).block ≠ _; rw [add_block]; exact hn148_5) | exact hn148_5) (.int .i64 t140)).trans hx148_1; replace hx148_0 := (cell_far (p := ⟨gb147, 6, none⟩) (by first | (rw [add_block]; exact hn148_6) | (show (Addr.add _ _).block ≠ _; rw [add_block]; exact hn148_6) | exact hn148_6) (.string t141)).trans hx148_0; replace hx148_1 := (cell_far (p := ⟨gb147, 6, none⟩) (by first | (rw [add_block]; exact hn148_6) | (show (Addr.add _ _).block ≠ _; rw [add_block]; exact hn148_6) | exact hn148_6) (.string t141)).trans hx148_1; replace hx148_0 := (cell_far (p := ⟨gb147, 7, none⟩) (by first | (rw [add_block]; exact hn148_7) | (show (Addr.add _ _).block ≠ _; rw [add_block]; exact hn148_7) | exact hn148_7) (.string t142)).trans hx148_0; replace hx148_1 := (cell_far (p := ⟨gb147, 7, none⟩) (by first | (rw [add_block]; exact hn148_7) | (show (Addr.add _ _).block ≠ _; rw [add_block]; exact hn148_7) | exact hn148_7) (.string t142)).trans hx148_1; clear hn148_0; clear hn148_1; clear hn148_2; clear hn148_3; clear hn148_4; clear hn148_5; clear hn148_6; clear hn148_7; replace p148 := eq_true p148; replace q148 := eq_true q148; have p149 : 0 ≤ (1 : Int) := (by omega); have q149 : 1 < (t143.length : Int) := of_decide_eq_true (by first | (with_reducible assumption) | assumption); obtain ⟨ad149, e149, hx149_0, hx149_1⟩ := at_T45 (Kd.R_reads' HO145.out).2.2 1 p149 q149; obtain rfl : ad148 = ad149 := (by injection e149); (try simp only [show (1 : Int).toNat = 1 from rfl, Nat.reduceMul, Nat.reduceEqDiff, Go.Addr.add, ↓reduceIte] at hx149_0); (try simp only [show (1 : Int).toNat = 1 from rfl, Nat.reduceMul, Nat.reduceEqDiff, Go.Addr.add, ↓reduceIte] at hx149_1); have qi149 : (1 < t143.length) = True := eq_true (by omega); (try rw [show ((1 : Int)).toNat = 1 from rfl] at hx149_0); (try rw [show 1 * 2 = 2 from rfl] at hx149_0); (try rw [show ((1 : Int)).toNat = 1 from rfl] at hx149_1); (try rw [show 1 * 2 = 2 from rfl] at hx149_1); have hn149_0 : ad148.block ≠ gb147 := Kd.own_blk (by first | exact Kd.R_ne HO145.out BK147.out (by decide) | exact (fun e_ => (HO145.out.1 _ e_.symm).2 rfl)); have hn149_1 : ad148.block ≠ gb147 := Kd.own_blk (by first | exact Kd.R_ne HO145.out BK147.out (by decide) | exact (fun e_ => (HO145.out.1 _ e_.symm).2 rfl)); have hn149_2 : ad148.block ≠ gb147 := Kd.own_blk (by first | exact Kd.R_ne HO145.out BK147.out (by decide) | exact (fun e_ => (HO145.out.1 _ e_.symm).2 rfl)); have hn149_3 : ad148.block ≠ gb147 := Kd.own_blk (by first | exact Kd.R_ne HO145.out BK147.out (by decide) | exact (fun e_ => (HO145.out.1 _ e_.symm).2 rfl)); have hn149_4 : ad148.block ≠ gb147 := Kd.own_blk (by first | exact Kd.R_ne HO145.out BK147.out (by decide) | exact (fun e_ => (HO145.out.1 _ e_.symm).2 rfl)); have hn149_5 : ad148.block ≠ gb147 := Kd.own_blk (by first | exact Kd.R_ne HO145.out BK147.out (by decide) | exact (fun e_ => (HO145.out.1 _ e_.symm).2 rfl)); have hn149_6 : ad148.block ≠ gb147 := Kd.own_blk (by first | exact Kd.R_ne HO145.out BK147.out (by decide) | exact (fun e_ => (HO145.out.1 _ e_.symm).2 rfl)); have hn149_7 : ad148.block ≠ gb147 := Kd.own_blk (by first | exact Kd.R_ne HO145.out BK147.out (by decide) | exact (fun e_ => (HO145.out.1 _ e_.symm).2 rfl)); replace hx149_0 := (cell_far (p := ⟨gb147, 0, none⟩) (by first | (rw [add_block]; exact hn149_0) | (show (Addr.add _ _).block ≠ _; rw [add_block]; exact hn149_0) | exact hn149_0) (.bool false)).trans hx149_0; replace hx149_1 := (cell_far (p := ⟨gb147, 0, none⟩) (by first | (rw [add_block]; exact hn149_0) | (show (Addr.add _ _).block ≠ _; rw [add_block]; exact hn149_0) | exact hn149_0) (.bool false)).trans hx149_1; replace hx149_0 := (cell_far (p := ⟨gb147, 1, none⟩) (by first | (rw [add_block]; exact hn149_1) | (show (Addr.add _ _).block ≠ _; rw [add_block]; exact hn149_1) | exact hn149_1) (.bool t136)).trans hx149_0; replace hx149_1 := (cell_far (p := ⟨gb147, 1, none⟩) (by first | (rw [add_block]; exact hn149_1) | (show (Addr.add _ _).block ≠ _; rw [add_block]; exact hn149_1) | exact hn149_1) (.bool t136)).trans hx149_1; replace hx149_0 := (cell_far (p := ⟨gb147, 2, none⟩) (by first | (rw [add_block]; exact hn149_2) | (show (Addr.add _ _).block ≠ _; rw [add_block]; exact hn149_2) | exact hn149_2) (.bool t137)).trans hx149_0; replace hx149_1 := (cell_far (p := ⟨gb147, 2, none⟩) (by first | (rw [add_block]; exact hn149_2) | (show (Addr.add _ _).block ≠ _; rw [add_block]; exact hn149_2) | exact hn149_2) (.bool t137)).trans hx149_1; replace hx149_0 := (cell_far (p := ⟨gb147, 3, none⟩) (by first | (rw [add_block]; exact hn149_3) | (show (Addr.add _ _).block ≠ _; rw [add_block]; exact hn149_3) | exact hn149_3) (.bool t138)).trans hx149_0; replace hx149_1 := (cell_far (p := ⟨gb147, 3, none⟩) (by first | (rw [add_block]; exact hn149_3) | (show (Addr.add _ _).block ≠ _; rw [add_block]; exact hn149_3) | exact hn149_3) (.bool t138)).trans hx149_1; replace hx149_0 := (cell_far (p := ⟨gb147, 4, none⟩) (by first | (rw [add_block]; exact hn149_4) | (show (Addr.add _ _).block ≠ _; rw [add_block]; exact hn149_4) | exact hn149_4) (.int .i64 t139)).trans hx149_0; replace hx149_1 := (cell_far (p := ⟨gb147, 4, none⟩) (by first | (rw [add_block]; exact hn149_4) | (show (Addr.add _ _).block ≠ _; rw [add_block]; exact hn149_4) | exact hn149_4) (.int .i64 t139)).trans hx149_1; replace hx149_0 := (cell_far (p := ⟨gb147, 5, none⟩) (by first | (rw [add_block]; exact hn149_5) | (show (Addr.add _ _).block ≠ _; rw [add_block]; exact hn149_5) | exact hn149_5) (.int .i64 t140)).trans hx149_0; replace hx149_1 := (cell_far (p := ⟨gb147, 5, none⟩) (by first | (rw [add_block]; exact hn149_5) | (show (Addr.add _ _).block ≠ _; rw [add_block]; exact hn149_5) | exact hn149_5) (.int .i64 t140)).trans hx149_1; replace hx149_0 := (cell_far (p := ⟨gb147, 6, none⟩) (by first | (rw [add_block]; exact hn149_6) | (show (Addr.add _ _).block ≠ _; rw [add_block]; exact hn149_6) | exact hn149_6) (.string t141)).trans hx149_0; replace hx149_1 := (cell_far (p := ⟨gb147, 6, none⟩) (by first | (rw [add_block]; exact hn149_6) | (show (Addr.add _ _).block ≠ _; rw [add_block]; exact hn149_6) | exact hn149_6) (.string t141)).trans hx149_1; replace hx149_0 := (cell_far (p := ⟨gb147, 7, none⟩) (by first | (rw [add_block]; exact hn149_7) | (show (Addr.add _ _).block ≠ _; rw [add_block]; exact hn149_7) | exact hn149_7) (.string t142)).trans hx149_0; replace hx149_1 := (cell_far (p := ⟨gb147, 7, none⟩) (by first | (rw [add_block]; exact hn149_7) | (show (Addr.add _ _).block ≠ _; rw [add_block]; exact hn149_7) | exact hn149_7) (.string t142)).trans hx149_1; clear hn149_0; clear hn149_1; clear hn149_2; clear hn149_3; clear hn149_4; clear hn149_5; clear hn149_6; clear hn149_7; replace p149 := eq_true p149; replace q149 := eq_true q149))
 go_ret
 exact ⟨by first | rfl | (simp [errW_none, errW_some] <;> rfl) | (simp [*, errW_none, errW_some] <;> rfl) | (simp [bt, *]; done) | (unfold bt; simp [*]; done), by repeat (first | (with_reducible first | exact HB.out | apply below_alloc | apply pw_below_drewN | apply below_drew1 | refine below_set ?_ GE147.out) | exact HB.out)⟩
def headgatelaw21_few.f (l0 : List (S45)) : Option ((List (S45))) := (some (([] : List (S45)) : List (S45))).bind fun y150 => (if y150.length + l0.length < 4398046511104 then (some (y150 ++ l0)) else (none))
set_option maxHeartbeats 8000000 in
set_option maxRecDepth 100000 in
theorem headgatelaw21_few.calls (A0 : Option Addr) (c0 : Nat) (l0 : List (S45)) (r : List (S45)) (w : World) (hr0 : Kd.C k45 w A0 l0.length l0) (hc0 : l0.length ≤ c0) (h : headgatelaw21_few.f l0 = some r) :
    Calls Tryd.prog 10 #[.slice A0 l0.length c0] w fun e w' => ∃ v0_ : Value, e = .returned (v0_) ∧ Kd.R k45 45 w' w.heap.size (fun _ => True) v0_ r ∧ Below w.heap.size w w' := by
  have HR0 := Aside0.mk hr0
  have HC0 := Aside0.mk hc0
  clear hr0 hc0
  have HB := Aside0.mk (Below.refl w.heap.size w)
  have H : ((some (([] : List (S45)) : List (S45))).bind fun y150 => (if y150.length + l0.length < 4398046511104 then (some (y150 ++ l0)) else (none))) = some r := h
  clear h
  obtain ⟨y150, hy150⟩ : ∃ y_ : List (S45), y_ = (([] : List (S45))) := ⟨_, rfl⟩
  replace H : (if y150.length + l0.length < 4398046511104 then (some (y150 ++ l0)) else (none)) = some r := by first | (rw [hy150]; with_reducible exact H) | (have H2_ := (Option.bind_some _ _).symm.trans H; rw [hy150]; with_reducible exact H2_) | (have H2_ := (Option.bind_some _ _).symm.trans H; with_reducible exact H2_) | with_reducible exact H | (rw [hy150]; exact H) | exact H
  have Ny150 := Aside0.mk hy150
  clear hy150
  by_cases c2 : y150.length + l0.length < 4398046511104
  · rw [if_pos c2] at H
    have LMc2 := Aside0.mk c2
    clear c2
    obtain ⟨y153, hy153⟩ : ∃ y_ : List (S45), y_ = (y150 ++ l0) := ⟨_, rfl⟩
    replace H : (some y153) = some r := by first | (rw [hy153]; with_reducible exact H) | (have H2_ := (Option.bind_some _ _).symm.trans H; rw [hy153]; with_reducible exact H2_) | (have H2_ := (Option.bind_some _ _).symm.trans H; with_reducible exact H2_) | with_reducible exact H | (rw [hy153]; exact H) | exact H
    have Ny153 := Aside0.mk hy153
    clear hy153
    obtain rfl := Option.some.inj H
    go_enter Tryd.func10, Tryd.ntmps10
    go_wp2_with (first | ((with_reducible refine gate_dst (N := 3) rfl ?_); refine Kd.R_lit k45 _ 45 ?hg (N := 3) ?hd (xs := ([] : List (S45))) (inner := []) (ok := fun _ => True) (okp := fun _ => True) ?hr ?hp (fun _ hk => hk) trivial (Below.refl _ _) (Nat.le_refl _) (by simp) ?_; (case hd => rfl); (case hg => rfl); (case hr => first | (go_simp; done) | (go_simp; rfl)); (case hp => exact (Reps.none _ _)); intro v151 w3 ho4 hb hg_ hnew_; clear hg_ hnew_; (first | rw [← Ny150.out] at ho4 | (simp only [Int.reduceToNat] at ho4; rw [← Ny150.out] at ho4)); have n0_ := Aside0.mk (Kd.R_lower ho4 (below_size (by repeat (first | (with_reducible first | exact HB.out | apply below_alloc | apply pw_below_drewN | apply below_drew1) | exact HB.out)))); have n1_ := Aside0.mk (below_step (by repeat (first | (with_reducible first | exact HB.out | apply below_alloc | apply pw_below_drewN | apply below_drew1) | exact HB.out)) hb); clear HB; have HO152 := n0_; have HB := n1_; clear n0_ n1_; clear hb ho4) | ((with_reducible refine gate_builtin (b := .append) (xs := #[.tmp 3, .tmp 4]) rfl ?_); at_builtin; refine Kd.R_append_rows k45 (w0 := w) w.heap.size rfl (.tmp 3) (.tmp 4) 24 45 (.agg #[(.string ⟨#[]⟩), (.string ⟨#[]⟩)]) 32 rfl Tryd.underlying24 info45 rfl (by decide) (by omega) v151 y150 l0 _ _ _ (fun _ => True) (fun _ => False) rfl rfl ?aO ?aR (fun _ _ h => h) (fun _ h => h.elim) ?aF ?aB ?aS ?aL ?_; (case aR => repeat (first | exact (Kd.C_below HR0.out HB.out) | (with_reducible refine Kd.C_alloc ?_ _) | (with_reducible refine Kd.C_drewN ?_ _) | (with_reducible refine Kd.C_drew ?_))); (case aB => exact (by repeat (first | (with_reducible first | exact HB.out | apply below_alloc | apply pw_below_drewN | apply below_drew1) | exact HB.out))); (case aF => exact (fun _ _ => trivial)); (case aO => exact (by (with_reducible repeat (first | apply Kd.R_alloc | apply Kd.R_drewN | apply Kd.R_drew)); exact HO152.out)); (case aS => exact (below_size (by repeat (first | (with_reducible first | exact HB.out | apply below_alloc | apply pw_below_drewN | apply below_drew1) | exact HB.out)))); (case aL => have := LMc2.out; omega); intro v154 w5 ho hb hg hat; rw [← Ny153.out] at ho; have n0_ := Aside0.mk (hb); have n1_ := Aside0.mk (ho); clear HB; clear HO152; have HB := n0_; have HO155 := n1_; clear n0_ n1_; clear ho hb hg hat))
    go_ret
    exact ⟨_, by first | rfl | (simp [errW_none, errW_some] <;> rfl) | (simp [*, errW_none, errW_some] <;> rfl) | (simp [bt, *]; done) | (unfold bt; simp [*]; done), by (with_reducible repeat (first | apply Kd.R_alloc | apply Kd.R_drewN | apply Kd.R_drew)); exact HO155.out, by repeat (first | (with_reducible first | exact HB.out | apply below_alloc | apply pw_below_drewN | apply below_drew1) | exact HB.out)⟩
  · rw [if_neg c2] at H
    exact absurd H (by simp)
end Go.Proofs.YtclcnkmefldpiaaDoor.P
namespace Go.Proofs.YtclcnkmefldpiaaDoor.P
open Go.RowKit Go.Proofs.YtclcnkmefldpiaaDoorW.PrintWords Go.Proofs.YtclcnkmefldpiaaDoorW.PrintLast Go.Proofs.YtclcnkmefldpiaaDoorW.PrintMore
attribute [local go_sem] max2_int min2_int max_two min_two max_three min_three max_four min_four   -- for this text's walks alone
set_option linter.unusedVariables false
set_option linter.unusedSimpArgs false
set_option linter.unnecessarySimpa false
def headgateref21_Pairs.l0 : Nat → List (S45) → List (S45) → Int → Option (Bool)
  | 0, _, _, _ => none
  | k + 1, x0, x1, x5 => if x5 < (x0.length : Int) then (if 0 ≤ x5 then (if x5 < (x1.length : Int) then (if ((rd_T45 x0 x5).f0).toList = ((rd_T45 x1 x5).f0).toList then (if ((rd_T45 x0 x5).f1).toList = ((rd_T45 x1 x5).f1).toList then (headgateref21_Pairs.l0 k x0 x1 (wrap64 (x5 + 1))) else (some false)) else (some false)) else (none)) else (none)) else (some true)
def headgateref21_Pairs.f (k : Nat) (l0 : List (S45)) (l1 : List (S45)) : Option (Bool) := if (l0.length : Int) = (l1.length : Int) then (headgateref21_Pairs.l0 k l0 l1 0) else (some false)
set_option maxHeartbeats 8000000 in
set_option maxRecDepth 100000 in
theorem headgateref21_Pairs.calls (k : Nat) (A0 : Option Addr) (c0 : Nat) (l0 : List (S45)) (A1 : Option Addr) (c1 : Nat) (l1 : List (S45)) (r : Bool) (w : World) (hr0 : Kd.C k45 w A0 l0.length l0) (hc0 : l0.length ≤ c0) (hr1 : Kd.C k45 w A1 l1.length l1) (hc1 : l1.length ≤ c1) (h : headgateref21_Pairs.f k l0 l1 = some r) :
    Calls Tryd.prog 15 #[.slice A0 l0.length c0, .slice A1 l1.length c1] w fun e w' => e = .returned (.bool r) ∧ Drawn0 w w' := by
  have HR0 := Aside0.mk hr0
  have HC0 := Aside0.mk hc0
  clear hr0 hc0
  have HR1 := Aside0.mk hr1
  have HC1 := Aside0.mk hc1
  clear hr1 hc1
  have H : (if (l0.length : Int) = (l1.length : Int) then (headgateref21_Pairs.l0 k l0 l1 0) else (some false)) = some r := h
  clear h
  by_cases c3 : (l0.length : Int) = (l1.length : Int)
  · rw [if_pos c3] at H
    have c3b0 : ((l0.length : Int) == (l1.length : Int)) = true := beq_iff_eq.mpr c3
    have c3b1 : ((l0.length : Int) != (l1.length : Int)) = false := bne_eq_false_iff_eq.mpr c3
    have c3b2 : (l0.length == l1.length) = true := by first | simpa using c3 | (simp at c3 ⊢; omega)
    clear c3
    have H' := Aside0.mk H
    clear H
    go_enter Tryd.func15, Tryd.ntmps15
    go_wp2
    repeat (go_quiet (fail); try go_wp2)
    go_loopg [5] k (fun kq v5 w' => ∃ (x5_1 : Int), v5 = .int .i64 x5_1 ∧ Aside0 (headgateref21_Pairs.l0 kq l0 l1 x5_1 = some r) ∧ Aside0 (kq ≤ k) ∧ Drawn0 w w')
    case atStart => exact ⟨(0), (by first | rfl | (simp; done) | (simp [*]; done)), H', ⟨Nat.le_refl _⟩, by repeat (first | exact Drawn0.refl _ | apply Drawn0.step)⟩
    case round =>
      clear H'
      try clear c1
      try clear p2
      try clear c3
      try clear c3b0
      try clear c3b1
      try clear c3b2
      obtain ⟨x5_1, rfl, HA, HK1, ⟨m1, rfl⟩⟩ := hrel
      cases gk with
      | zero => exact absurd HA.out (by simp [headgateref21_Pairs.l0])
      | succ k1 =>
        have H := HA.out
        clear HA
        simp only [headgateref21_Pairs.l0] at H
        by_cases c4 : x5_1 < (l0.length : Int)
        · rw [if_pos c4] at H
          have c4b0 : decide (x5_1 < (l0.length : Int)) = true := decide_eq_true c4
          clear c4
          by_cases c5 : 0 ≤ x5_1
          · rw [if_pos c5] at H
            have c5b0 : decide (0 ≤ x5_1) = true := decide_eq_true c5
            clear c5
            by_cases c6 : x5_1 < (l1.length : Int)
            · rw [if_pos c6] at H
              have c6b0 : decide (x5_1 < (l1.length : Int)) = true := decide_eq_true c6
              clear c6
              by_cases c7 : ((rd_T45 l0 x5_1).f0).toList = ((rd_T45 l1 x5_1).f0).toList
              · rw [if_pos c7] at H
                have c7b0 : (((rd_T45 l0 x5_1).f0).toList == ((rd_T45 l1 x5_1).f0).toList) = true := beq_iff_eq.mpr c7
                have c7b1 : (((rd_T45 l0 x5_1).f0).toList != ((rd_T45 l1 x5_1).f0).toList) = false := bne_eq_false_iff_eq.mpr c7
                clear c7
                by_cases c8 : ((rd_T45 l0 x5_1).f1).toList = ((rd_T45 l1 x5_1).f1).toList
                · rw [if_pos c8] at H
                  have c8b0 : (((rd_T45 l0 x5_1).f1).toList == ((rd_T45 l1 x5_1).f1).toList) = true := beq_iff_eq.mpr c8
                  have c8b1 : (((rd_T45 l0 x5_1).f1).toList != ((rd_T45 l1 x5_1).f1).toList) = false := bne_eq_false_iff_eq.mpr c8
                  clear c8
                  have H' := Aside0.mk H
                  clear H
                  have p247 : 0 ≤ (x5_1 : Int) := of_decide_eq_true (by first | (with_reducible assumption) | assumption)
                  have q247 : x5_1 < (l0.length : Int) := of_decide_eq_true (by first | (with_reducible assumption) | assumption)
                  obtain ⟨ad247, e247, hx247_0, hx247_1⟩ := at_T45 HR0.out x5_1 p247 q247
                  cases e247
                  replace p247 := eq_true p247
                  replace q247 := eq_true q247
                  have p248 : 0 ≤ (x5_1 : Int) := of_decide_eq_true (by first | (with_reducible assumption) | assumption)
                  have q248 : x5_1 < (l1.length : Int) := of_decide_eq_true (by first | (with_reducible assumption) | assumption)
                  obtain ⟨ad248, e248, hx248_0, hx248_1⟩ := at_T45 HR1.out x5_1 p248 q248
                  cases e248
                  replace p248 := eq_true p248
                  replace q248 := eq_true q248
                  have p249 : 0 ≤ (x5_1 : Int) := of_decide_eq_true (by first | (with_reducible assumption) | assumption)
                  have q249 : x5_1 < (l0.length : Int) := of_decide_eq_true (by first | (with_reducible assumption) | assumption)
                  obtain ⟨ad249, e249, hx249_0, hx249_1⟩ := at_T45 HR0.out x5_1 p249 q249
                  obtain rfl : ad247 = ad249 := (by injection e249)
                  replace p249 := eq_true p249
                  replace q249 := eq_true q249
                  have p250 : 0 ≤ (x5_1 : Int) := of_decide_eq_true (by first | (with_reducible assumption) | assumption)
                  have q250 : x5_1 < (l1.length : Int) := of_decide_eq_true (by first | (with_reducible assumption) | assumption)
                  obtain ⟨ad250, e250, hx250_0, hx250_1⟩ := at_T45 HR1.out x5_1 p250 q250
                  obtain rfl : ad248 = ad250 := (by injection e250)
                  replace p250 := eq_true p250
                  replace q250 := eq_true q250
                  go_wp2
                  repeat (go_quiet (fail); try go_wp2)
                  go_roundg k1
                  case measure => have := HK1.out; omega
                  case rel => exact ⟨(wrap64 (x5_1 + 1)), (by first | rfl | (simp; done) | (simp [*]; done)), H', ⟨by have := HK1.out; omega⟩, by repeat (first | exact Drawn0.refl _ | apply Drawn0.step)⟩
                · rw [if_neg c8] at H
                  have c8b0 : (((rd_T45 l0 x5_1).f1).toList == ((rd_T45 l1 x5_1).f1).toList) = false := beq_eq_false_iff_ne.mpr c8
                  have c8b1 : (((rd_T45 l0 x5_1).f1).toList != ((rd_T45 l1 x5_1).f1).toList) = true := bne_iff_ne.mpr c8
                  obtain rfl := Option.some.inj H
                  have p247 : 0 ≤ (x5_1 : Int) := of_decide_eq_true (by first | (with_reducible assumption) | assumption)
                  have q247 : x5_1 < (l0.length : Int) := of_decide_eq_true (by first | (with_reducible assumption) | assumption)
                  obtain ⟨ad247, e247, hx247_0, hx247_1⟩ := at_T45 HR0.out x5_1 p247 q247
                  cases e247
                  replace p247 := eq_true p247
                  replace q247 := eq_true q247
                  have p248 : 0 ≤ (x5_1 : Int) := of_decide_eq_true (by first | (with_reducible assumption) | assumption)
                  have q248 : x5_1 < (l1.length : Int) := of_decide_eq_true (by first | (with_reducible assumption) | assumption)
                  obtain ⟨ad248, e248, hx248_0, hx248_1⟩ := at_T45 HR1.out x5_1 p248 q248
                  cases e248
                  replace p248 := eq_true p248
                  replace q248 := eq_true q248
                  have p249 : 0 ≤ (x5_1 : Int) := of_decide_eq_true (by first | (with_reducible assumption) | assumption)
                  have q249 : x5_1 < (l0.length : Int) := of_decide_eq_true (by first | (with_reducible assumption) | assumption)
                  obtain ⟨ad249, e249, hx249_0, hx249_1⟩ := at_T45 HR0.out x5_1 p249 q249
                  obtain rfl : ad247 = ad249 := (by injection e249)
                  replace p249 := eq_true p249
                  replace q249 := eq_true q249
                  have p250 : 0 ≤ (x5_1 : Int) := of_decide_eq_true (by first | (with_reducible assumption) | assumption)
                  have q250 : x5_1 < (l1.length : Int) := of_decide_eq_true (by first | (with_reducible assumption) | assumption)
                  obtain ⟨ad250, e250, hx250_0, hx250_1⟩ := at_T45 HR1.out x5_1 p250 q250
                  obtain rfl : ad248 = ad250 := (by injection e250)
                  replace p250 := eq_true p250
                  replace q250 := eq_true q250
                  go_wp2
                  repeat (go_quiet (fail); try go_wp2)
                  go_ret
                  exact ⟨by first | rfl | (simp; done) | (simp [*]; done), by repeat (first | exact Drawn0.refl _ | apply Drawn0.step)⟩
              · rw [if_neg c7] at H
                have c7b0 : (((rd_T45 l0 x5_1).f0).toList == ((rd_T45 l1 x5_1).f0).toList) = false := beq_eq_false_iff_ne.mpr c7
                have c7b1 : (((rd_T45 l0 x5_1).f0).toList != ((rd_T45 l1 x5_1).f0).toList) = true := bne_iff_ne.mpr c7
                obtain rfl := Option.some.inj H
                have p247 : 0 ≤ (x5_1 : Int) := of_decide_eq_true (by first | (with_reducible assumption) | assumption)
                have q247 : x5_1 < (l0.length : Int) := of_decide_eq_true (by first | (with_reducible assumption) | assumption)
                obtain ⟨ad247, e247, hx247_0, hx247_1⟩ := at_T45 HR0.out x5_1 p247 q247
                cases e247
                replace p247 := eq_true p247
                replace q247 := eq_true q247
                have p248 : 0 ≤ (x5_1 : Int) := of_decide_eq_true (by first | (with_reducible assumption) | assumption)
                have q248 : x5_1 < (l1.length : Int) := of_decide_eq_true (by first | (with_reducible assumption) | assumption)
                obtain ⟨ad248, e248, hx248_0, hx248_1⟩ := at_T45 HR1.out x5_1 p248 q248
                cases e248
                replace p248 := eq_true p248
                replace q248 := eq_true q248
                go_wp2
                repeat (go_quiet (fail); try go_wp2)
                go_ret
                exact ⟨by first | rfl | (simp; done) | (simp [*]; done), by repeat (first | exact Drawn0.refl _ | apply Drawn0.step)⟩
            · rw [if_neg c6] at H
              exact absurd H (by simp)
          · rw [if_neg c5] at H
            exact absurd H (by simp)
        · rw [if_neg c4] at H
          have c4b0 : decide (x5_1 < (l0.length : Int)) = false := decide_eq_false c4
          clear c4
          obtain rfl := Option.some.inj H
          go_wp2
          repeat (go_quiet (fail); try go_wp2)
          go_ret
          exact ⟨by first | rfl | (simp; done) | (simp [*]; done), by repeat (first | exact Drawn0.refl _ | apply Drawn0.step)⟩
  · rw [if_neg c3] at H
    have c3b0 : ((l0.length : Int) == (l1.length : Int)) = false := beq_eq_false_iff_ne.mpr c3
    have c3b1 : ((l0.length : Int) != (l1.length : Int)) = true := bne_iff_ne.mpr c3
    have c3b2 : (l0.length == l1.length) = false := by first | simpa using c3 | (simp at c3 ⊢; omega)
    obtain rfl := Option.some.inj H
    go_enter Tryd.func15, Tryd.ntmps15
    go_wp2
    repeat (go_quiet (fail); try go_wp2)
    go_ret
    exact ⟨by first | rfl | (simp; done) | (simp [*]; done), by repeat (first | exact Drawn0.refl _ | apply Drawn0.step)⟩
end Go.Proofs.YtclcnkmefldpiaaDoor.P
namespace Go.Proofs.YtclcnkmefldpiaaDoor.P
open Go.RowKit Go.Proofs.YtclcnkmefldpiaaDoorW.PrintWords Go.Proofs.YtclcnkmefldpiaaDoorW.PrintLast Go.Proofs.YtclcnkmefldpiaaDoorW.PrintMore
attribute [local go_sem] max2_int min2_int max_two min_two max_three min_three max_four min_four   -- for this text's walks alone
set_option linter.unusedVariables false
set_option linter.unusedSimpArgs false
set_option linter.unnecessarySimpa false
theorem bld_info : ∃ j, Tryd.prog.info? 68 = some j ∧ j.size = 2 := by
  have h : (Tryd.prog.info? 68).map (·.size) = some 2 := by kernel_rfl
  obtain ⟨j, h1, h2⟩ := Option.map_eq_some_iff.1 h
  exact ⟨j, h1, h2⟩
set_option maxHeartbeats 4000000 in
set_option maxRecDepth 100000 in
theorem bld_check_used (b : Nat) (w : World) (h0 : w.cell? ⟨b, 0, none⟩ = some (.pointer (some ⟨b, 0, none⟩))) :
    Calls Tryd.prog 57 #[.pointer (some ⟨b, 0, none⟩)] w fun e w' => e = .returned (.tuple #[]) ∧ w' = w := by
  obtain ⟨j, hj, _⟩ := bld_info
  go_enter Tryd.func57, Tryd.ntmps57
  go_wp2
  rw [Go.Lib.run_neq_ptr_same w _ Tryd.underlying65 hj]
  go_wp2
  go_end0
  exact ⟨rfl, rfl⟩
set_option maxHeartbeats 4000000 in
set_option maxRecDepth 100000 in
theorem bld_check_fresh (b : Nat) (w : World) (h0 : w.cell? ⟨b, 0, none⟩ = some (.pointer none)) (hsh : w.shape? b = some (68, 2)) (hfz : w.frozen? ⟨b, 0, none⟩ = false) :
    Calls Tryd.prog 57 #[.pointer (some ⟨b, 0, none⟩)] w fun e w' => e = .returned (.tuple #[]) ∧ w' = w.setCell ⟨b, 0, none⟩ (.pointer (some ⟨b, 0, none⟩)) := by
  obtain ⟨j, hj, hjs⟩ := bld_info
  go_enter Tryd.func57, Tryd.ntmps57
  go_wp2
  rw [Go.Lib.run_to_unsafe w ⟨b, 0, none⟩ Tryd.underlying65 Tryd.underlying103 hj (by rw [hjs]; decide) hsh (Nat.zero_lt_succ 1)]
  simp only [Result.andThen]
  rw [Oper.upon_value]
  go_wp2
  rw [run_callFunc_extern Tryd.func68 (by kernel_rfl) (by kernel_rfl) (by kernel_rfl) (e := Extern.AbiNoEscape.same) (by kernel_rfl)]
  rw [Go.Lib.run_noEscape]
  simp only [Result.andThen]
  rw [Oper.upon_value]
  go_wp2
  rw [Go.Lib.run_from_unsafe w ⟨b, 0, none⟩ Tryd.underlying103 Tryd.underlying65 hj hsh (by kernel_rfl)]
  simp only [Result.andThen]
  rw [Oper.upon_value]
  go_wp2
  go_end0
  exact ⟨rfl, rfl⟩
theorem bld_check (B b : Nat) (bs : List Value) (w : World) (h : Go.Lib.IsBuilder 68 5 B b bs w) :
    Calls Tryd.prog 57 #[.pointer (some ⟨b, 0, none⟩)] w fun e w' => e = .returned (.tuple #[]) ∧ Go.Lib.BuilderAt 68 5 B b (.pointer (some ⟨b, 0, none⟩)) bs w' ∧ Below B w w' := by
  rcases h with h | h
  · refine (bld_check_fresh b w h.cell0 h.shape h.frozen0).mono ?_
    rintro e w' ⟨rfl, rfl⟩
    exact ⟨rfl, h.used _, (Below.refl B w).setCell (p := ⟨b, 0, none⟩) h.1 _⟩
  · refine (bld_check_used b w h.cell0).mono ?_
    rintro e w' ⟨rfl, rfl⟩
    exact ⟨rfl, h, Below.refl B _⟩
set_option maxHeartbeats 4000000 in
set_option maxRecDepth 100000 in
theorem bld_write (B b : Nat) (bs : List Value) (s : ByteArray) (w : World) (h : Go.Lib.IsBuilder 68 5 B b bs w) (hlen : bs.length + s.size ≤ 1000000) (hBw : B ≤ w.heap.size) :
    Calls Tryd.prog 26 #[.pointer (some ⟨b, 0, none⟩), .string s] w fun e w' => e = .returned (.tuple #[.int .i64 s.size, .nilIface]) ∧ Go.Lib.BuilderAt 68 5 B b (.pointer (some ⟨b, 0, none⟩)) (bs ++ Go.Lib.strCells s) w' ∧ Below B w w' := by
  obtain ⟨i0, hi, hz0, hz1, hz2⟩ := info_parts info5
  have HL := Aside0.mk hlen
  have HBW := Aside0.mk hBw
  clear hlen hBw
  go_enter Tryd.func26, Tryd.ntmps26
  go_wp2_with (go_at_call 57; refine (bld_check B b bs _ h).mono ?_)
  rintro e w1 ⟨rfl, h1, hb1⟩
  obtain ⟨hB, v, hbk, hown, hne⟩ := h1
  have c0 : w1.cell? ⟨b, 0, none⟩ = some (.pointer (some ⟨b, 0, none⟩)) := (blk_cell hbk 0).trans rfl
  have c1 : w1.cell? ⟨b, 1, none⟩ = some v := (blk_cell hbk 1).trans rfl
  go_wp2_with (at_builtin; refine Go.Lib.wpList_append_own_string _ rfl _ _ 66 9 rfl B 5 i0 Tryd.underlying66 Tryd.underlying9 hi hz0 hz1 hz2 _ _ _ rfl hown s rfl ?c3 ?c4 ?c5 ?_)
  case c3 => have := HL.out; (have : maxLen = 9223372036854775807 := rfl); omega
  case c4 => have := HL.out; omega
  case c5 => have := hb1.size; have := HBW.out; omega
  intro v' w2 hown' hgrow _
  have hlt : b < w1.heap.size := blk_lt hbk
  have hb2 : w2.heap[b]? = some (.cells #[.pointer (some ⟨b, 0, none⟩), v] 68 (0, 0)) := by
    rw [hgrow.block b hlt (fun e => hne e.symm)]
    exact hbk
  have d0 : w2.cell? ⟨b, 0, none⟩ = some (.pointer (some ⟨b, 0, none⟩)) := (blk_cell hb2 0).trans rfl
  have d1 : w2.cell? ⟨b, 1, none⟩ = some v := (blk_cell hb2 1).trans rfl
  have f1 : w2.frozen? ⟨b, 1, none⟩ = false := blk_frozen hb2 1
  obtain ⟨ao, n', cap, rfl⟩ : ∃ ao n' cap, v' = .slice ao n' cap := by
    rcases hown'.2 with ⟨hv, _⟩ | ⟨g, cap, cur, hv, _⟩
    · exact ⟨_, _, _, hv⟩
    · exact ⟨_, _, _, hv⟩
  go_wp2
  go_ret2
  refine ⟨rfl, ?_, ?_⟩
  · exact Go.Lib.BuilderAt.put (T := 68) (e := 5) hB hb2 (bs' := bs ++ Go.Lib.strCells s) (by simpa [Go.Lib.strCells_length] using hown') (by decide)
  · exact (hb1.grown hgrow (by have := hb1.size; have := HBW.out; omega) (fun k hk => (hown.lt k hk).1)).setCell (p := ⟨b, 1, none⟩) hB _
theorem bld_alloc {T e : TypeId} {B b : Nat} {bs : List Value} {w : World} (h : Go.Lib.IsBuilder T e B b bs w) (o : Obj) : Go.Lib.IsBuilder T e B b bs (w.alloc o) :=
  h.imp (fun ⟨hB, v, hb, ho, hn⟩ => ⟨hB, v, blk_alloc hb o, ho.alloc o, hn⟩) (fun ⟨hB, v, hb, ho, hn⟩ => ⟨hB, v, blk_alloc hb o, ho.alloc o, hn⟩)
def textL (l : List S45) : List UInt8 := l.flatMap fun p => p.f0.data.toList ++ [61] ++ p.f1.data.toList ++ [0]
def keys_Text.f (l0 : List S45) : Option (ByteArray × Int) := if smallB l0 = true then (if goodB l0 = true then some ((⟨(textL l0).toArray⟩ : ByteArray), 0) else some ((⟨#[]⟩ : ByteArray), 210)) else none
theorem textL_snoc (l : List S45) (p : S45) : textL (l ++ [p]) = textL l ++ (p.f0.data.toList ++ [61] ++ p.f1.data.toList ++ [0]) := by
  unfold textL
  rw [List.flatMap_append]
  simp
theorem textL_size {l : List S45} (h : ∀ p ∈ l, p.f0.size ≤ 63 ∧ p.f1.size ≤ 255) : (textL l).length ≤ l.length * 320 := by
  induction l with
  | nil => simp [textL]
  | cons p l ih =>
    have h1 := ih (fun q hq => h q (List.mem_cons_of_mem _ hq))
    obtain ⟨h2, h3⟩ := h p (List.mem_cons_self ..)
    have e : textL (p :: l) = (p.f0.data.toList ++ [61] ++ p.f1.data.toList ++ [0]) ++ textL l := rfl
    have e0 : p.f0.data.toList.length = p.f0.size := rfl
    have e1 : p.f1.data.toList.length = p.f1.size := rfl
    rw [e]
    simp only [List.length_append, List.length_cons, List.length_nil, e0, e1]
    omega
theorem good_sizes : ∀ (r l : List S45), goodL l r = true → ∀ p ∈ r, p.f0.size ≤ 63 ∧ p.f1.size ≤ 255
  | [], _, _, p, hp => by cases hp
  | q :: r, l, h, p, hp => by
    rw [goodL_snoc] at h
    simp only [Bool.and_eq_true] at h
    rcases List.mem_cons.mp hp with rfl | hp
    · have h1 := h.1.2
      unfold pairB keyB at h1
      simp only [Bool.and_eq_true, decide_eq_true_eq] at h1
      exact ⟨h1.1.1.1.2, h1.1.2⟩
    · exact good_sizes r _ h.2 p hp
theorem strCells_pair (p : S45) : Go.Lib.strCells (((p.f0 ++ (⟨#[61]⟩ : ByteArray)) ++ p.f1) ++ (⟨#[0]⟩ : ByteArray)) = Go.Lib.byteCells (p.f0.data.toList ++ [61] ++ p.f1.data.toList ++ [0]) := by
  unfold Go.Lib.strCells Go.Lib.byteCells
  simp
set_option maxHeartbeats 8000000 in
set_option maxRecDepth 100000 in
theorem text_walk (A0 : Option Addr) (c0 : Nat) (l : List S45) (w : World) (hr : Kd.C k45 w A0 l.length l) (hc0 : l.length ≤ c0) (hsm : smallB l = true) (hg : goodB l = true) :
    Calls Tryd.prog 18 #[.slice A0 l.length c0] w fun e w' => e = .returned (.tuple #[.string (⟨(textL l).toArray⟩ : ByteArray), .int .i64 0]) ∧ Below w.heap.size w w' := by
  have hg1 := hg
  unfold goodB at hg1
  simp only [Bool.and_eq_true, decide_eq_true_eq] at hg1
  obtain ⟨h16, hgl⟩ := hg1
  have HSZ := Aside0.mk (good_sizes l [] hgl)
  have i16 : (l.length : Int) ≤ 16 := by omega
  have HR := Aside0.mk hr
  have HGD := Aside0.mk (show keys_good.f l = some true by unfold keys_good.f; rw [if_pos hsm, hg])
  clear hr hsm hg hgl
  go_enter Tryd.func18, Tryd.ntmps18
  go_wp2_with (go_at_call 22; refine (keys_good.calls A0 c0 l true _ HR.out hc0 HGD.out).mono ?_; rintro e w1 ⟨rfl, hb⟩; have HB1 := Aside0.mk hb; clear hb)
  go_loopw [12] (fun vi wr => ∃ i : Nat, vi = .int .i64 i ∧ i ≤ l.length ∧ Aside0 (Go.Lib.IsBuilder 68 5 w1.heap.size w1.heap.size (Go.Lib.byteCells (textL (l.take i))) wr) ∧ Aside0 (Below w1.heap.size w1 wr)) (fun vi _ => l.length - (intOf vi).toNat)
  case atStart => exact ⟨0, rfl, by omega, ⟨Go.Lib.fresh_isBuilder 68 5 w1⟩, ⟨(Below.refl _ _).alloc (Nat.le_refl _) _⟩⟩
  case round =>
    obtain ⟨i, rfl, hi, hI, hB⟩ := hrel
    by_cases hlt : i < l.length
    · obtain ⟨ad, hA, hc1, hc2⟩ := at_T45 (Kd.C_below HR.out (below_step HB1.out hB.out)) i (by omega) (by omega)
      subst hA
      obtain ⟨p, hp⟩ : ∃ p, l[i] = p := ⟨_, rfl⟩
      have hpr : rd_T45 l i = p := by rw [← hp]; exact rd_pair l i hlt
      rw [hpr] at hc1 hc2
      simp only [Int.toNat_natCast] at hc1 hc2
      have htake : l.take (i + 1) = l.take i ++ [p] := by rw [List.take_succ_eq_append_getElem hlt, hp]
      have HTK := Aside0.mk htake
      have hps := HSZ.out p (by rw [← hp]; exact List.getElem_mem hlt)
      have hts : (textL (l.take i)).length ≤ i * 320 := by
        have h1 := textL_size (l := l.take i) (fun q hq => HSZ.out q (List.mem_of_mem_take hq))
        rwa [List.length_take, Nat.min_eq_left (by omega)] at h1
      have HSS := Aside0.mk (show (Go.Lib.byteCells (textL (l.take i))).length + (((p.f0 ++ (⟨#[61]⟩ : ByteArray)) ++ p.f1) ++ (⟨#[0]⟩ : ByteArray)).size ≤ 1000000 by
        have e : (Go.Lib.byteCells (textL (l.take i))).length = (textL (l.take i)).length := by simp [Go.Lib.byteCells]
        have e2 : (((p.f0 ++ (⟨#[61]⟩ : ByteArray)) ++ p.f1) ++ (⟨#[0]⟩ : ByteArray)).size = p.f0.size + 1 + p.f1.size + 1 := by simp [ByteArray.size_append]; rfl
        rw [e, e2]
        omega)
      have m1 : ¬ 9223372036854775807 < p.f0.size + 1 := by omega
      have m2 : ¬ 9223372036854775807 < p.f0.size + 1 + p.f1.size := by omega
      have m3 : ¬ 9223372036854775807 < p.f0.size + 1 + p.f1.size + 1 := by omega
      clear hpr htake hps hts hp
      go_wp2_with (go_at_call 26; refine (bld_write w1.heap.size w1.heap.size (Go.Lib.byteCells (textL (l.take i))) (((p.f0 ++ (⟨#[61]⟩ : ByteArray)) ++ p.f1) ++ (⟨#[0]⟩ : ByteArray)) _ (by first | exact hI.out | exact bld_alloc hI.out _) HSS.out (below_size (by first | exact hB.out | exact below_alloc hB.out _))).mono ?_; rintro e w2 ⟨rfl, h2, hb2⟩; have HI2 := Aside0.mk h2; have HB2 := Aside0.mk hb2; clear h2 hb2)
      go_roundw
      case rel => exact ⟨i + 1, by go_num, by omega, ⟨Or.inr (by rw [HTK.out, textL_snoc, Go.Lib.byteCells_append, ← strCells_pair]; exact HI2.out)⟩, ⟨(below_alloc hB.out _).trans HB2.out⟩⟩
      case measure => simp [intOf]; omega
    · have hil : i = l.length := by omega
      subst hil
      have hI2 := hI.out
      rw [List.take_length] at hI2
      have HI2 := Aside0.mk hI2
      clear hI2
      go_wp2_with (go_at_call 27; refine (Tryd.Builder_String_any w1.heap.size w1.heap.size (textL l) _ HI2.out (below_size hB.out)).mono ?_; rintro e w2 ⟨rfl, hb2⟩; have HB2 := Aside0.mk hb2; clear hb2)
      go_ret2
      exact ⟨rfl, below_step HB1.out (hB.out.trans HB2.out)⟩
theorem keys_Text.calls (A0 : Option Addr) (c0 : Nat) (l0 : List S45) (r1 : ByteArray) (r2 : Int) (w : World) (hr0 : Kd.C k45 w A0 l0.length l0) (hc0 : l0.length ≤ c0) (h : keys_Text.f l0 = some (r1, r2)) :
    Calls Tryd.prog 18 #[.slice A0 l0.length c0] w fun e w' => e = .returned (.tuple #[.string r1, .int .i64 r2]) ∧ Below w.heap.size w w' := by
  unfold keys_Text.f at h
  split at h
  · next hsm =>
    split at h
    · next hg =>
      cases h
      exact text_walk A0 c0 l0 w hr0 hc0 hsm hg
    · next hg =>
      cases h
      have HG := Aside0.mk (show keys_good.f l0 = some false by unfold keys_good.f; rw [if_pos hsm, Bool.eq_false_iff.mpr hg])
      have HR := Aside0.mk hr0
      clear hr0 hsm hg
      go_enter Tryd.func18, Tryd.ntmps18
      go_wp2_with (go_at_call 22; refine (keys_good.calls A0 c0 l0 false _ HR.out hc0 HG.out).mono ?_; rintro e w1 ⟨rfl, hb⟩; have HB1 := Aside0.mk hb; clear hb)
      go_ret2
      exact ⟨rfl, HB1.out⟩
  · cases h
theorem cut_one (a0 : ByteArray) (c : UInt8) (w : World) (i : Int) (hi : Go.Lib.indexByte a0.data.toList c = i) (hlo : 0 ≤ i) (hup : i < a0.size) (hmx : a0.size ≤ 1000000) :
    Calls Tryd.prog 58 #[.string a0, .string ⟨#[c]⟩] w fun e w' => e = .returned (.tuple #[.string (a0.extract 0 i.toNat), .string (a0.extract (i.toNat + 1) a0.size), .bool true]) ∧ Drawn0 w w' := by
  have HI := Aside0.mk hi
  obtain ⟨n, rfl⟩ : ∃ n : Nat, i = n := ⟨i.toNat, by omega⟩
  have hs1 : (⟨#[c]⟩ : ByteArray).size = 1 := rfl
  have hlt : n < a0.size := by omega
  clear hi
  go_enter Tryd.func58, Tryd.ntmps58
  go_wp2_with (go_at_call 69; refine (Tryd.stringslite_Index_one a0 c _).mono ?_; rintro e w' ⟨rfl, rfl⟩; rw [HI.out])
  have s1 : IntKind.i64.wrap ((n : Int) + 1) = (n : Int) + 1 := IntWalk.i64_in _ (by omega)
  have s2 : ((n : Int) + 1).toNat = n + 1 := by omega
  have s3 : (0 : Int) ≤ (n : Int) + 1 := by omega
  go_quiet (fail)
  go_wp2
  go_ret3
  exact ⟨rfl, by repeat (first | exact Drawn0.refl _ | apply Drawn0.step)⟩
theorem cut_none (a0 : ByteArray) (c : UInt8) (w : World) (hi : Go.Lib.indexByte a0.data.toList c = -1) :
    Calls Tryd.prog 58 #[.string a0, .string ⟨#[c]⟩] w fun e w' => e = .returned (.tuple #[.string a0, .string (⟨#[]⟩ : ByteArray), .bool false]) ∧ Drawn0 w w' := by
  have HI := Aside0.mk hi
  clear hi
  go_enter Tryd.func58, Tryd.ntmps58
  go_wp2_with (go_at_call 69; refine (Tryd.stringslite_Index_one a0 c _).mono ?_; rintro e w' ⟨rfl, rfl⟩; rw [HI.out])
  go_ret3
  exact ⟨rfl, by repeat (first | exact Drawn0.refl _ | apply Drawn0.step)⟩
theorem indexByte_lt (l : List UInt8) (c : UInt8) : Go.Lib.indexByte l c < l.length := by
  induction l with
  | nil => show (-1 : Int) < _; exact Int.lt_of_lt_of_le (by decide) (Int.natCast_nonneg _)
  | cons b l ih =>
    unfold Go.Lib.indexByte
    have : ((b :: l).length : Int) = l.length + 1 := by simp
    split
    · omega
    · split
      · omega
      · omega
def cut1 (s : ByteArray) (c : UInt8) : ByteArray × ByteArray × Bool :=
  if Go.Lib.indexByte s.data.toList c < 0 then (s, (⟨#[]⟩ : ByteArray), false) else (s.extract 0 (Go.Lib.indexByte s.data.toList c).toNat, s.extract ((Go.Lib.indexByte s.data.toList c).toNat + 1) s.size, true)
def strings_Cut.f (a0 : ByteArray) (a1 : ByteArray) : Option (ByteArray × ByteArray × Bool) :=
  match a1.data.toList with
  | [c] => if a0.size ≤ 1000000 then some (cut1 a0 c) else none
  | _ => none
theorem strings_Cut.calls (a0 : ByteArray) (a1 : ByteArray) (r1 : ByteArray) (r2 : ByteArray) (r3 : Bool) (w : World) (h : strings_Cut.f a0 a1 = some (r1, r2, r3)) :
    Calls Tryd.prog 28 #[.string a0, .string a1] w fun e w' => e = .returned (.tuple #[.string r1, .string r2, .bool r3]) ∧ Drawn0 w w' := by
  unfold strings_Cut.f at h
  split at h
  · next c hc =>
    split at h
    · next hmx =>
      obtain rfl : a1 = ⟨#[c]⟩ := by rcases a1 with ⟨⟨l⟩⟩; cases hc; rfl
      have hin : Calls Tryd.prog 58 #[.string a0, .string ⟨#[c]⟩] w fun e w' => e = .returned (.tuple #[.string r1, .string r2, .bool r3]) ∧ Drawn0 w w' := by
        have h1 := Go.Lib.indexByte_ge a0.data.toList c
        have h2 := indexByte_lt a0.data.toList c
        have h3 : a0.data.toList.length = a0.size := rfl
        unfold cut1 at h
        split at h
        · next hn =>
          cases h
          exact cut_none a0 c w (by omega)
        · next hn =>
          cases h
          exact cut_one a0 c w _ rfl (by omega) (by omega) hmx
      have HIN := Aside0.mk hin
      clear hin h hc
      go_enter Tryd.func28, Tryd.ntmps28
      go_wp2_with (go_at_call 58; refine HIN.out.mono ?_; rintro e w' ⟨rfl, ⟨nd, rfl⟩⟩)
      go_ret3
      exact ⟨rfl, ⟨nd, rfl⟩⟩
    · cases h
  · cases h
end Go.Proofs.YtclcnkmefldpiaaDoor.P
namespace Go.Proofs.YtclcnkmefldpiaaDoor.P
open Go.RowKit Go.Proofs.YtclcnkmefldpiaaDoorW.PrintWords Go.Proofs.YtclcnkmefldpiaaDoorW.PrintLast Go.Proofs.YtclcnkmefldpiaaDoorW.PrintMore
attribute [local go_sem] max2_int min2_int max_two min_two max_three min_three max_four min_four   -- for this text's walks alone
set_option linter.unusedVariables false
set_option linter.unusedSimpArgs false
set_option linter.unnecessarySimpa false
mutual
def keys_Parse.l0 : Nat → ByteArray → List (S45) → Option ((List (S45)) × Int)
 | 0, _, _ => none
 | k + 1, x0, x4 => if x0.toList = ([] : List UInt8) then (keys_Parse.j1 k x0 x4 false) else (keys_Parse.j1 k x0 x4 (decide ((x4.length : Int) ≤ 16)))
def keys_Parse.j1 : Nat → ByteArray → List (S45) → Bool → Option ((List (S45)) × Int)
 | 0, _, _, _ => none
 | k + 1, x0, x4, x17 => if x17 = true then ((strings_Cut.f x0 (⟨#[0]⟩ : ByteArray)).bind fun bt456 => ((strings_Cut.f bt456.1 (⟨#[61]⟩ : ByteArray)).bind fun bt459 => (if bt456.2.2 = true then (if bt459.2.2 = true then (if x4.length < 4398046511104 then (keys_Parse.l0 k bt456.2.1 (x4 ++ [(⟨bt459.1, bt459.2.1⟩ : S45)])) else (none)) else (some (([] : List (S45)), 210))) else (some (([] : List (S45)), 210))))) else (if x0.toList = ([] : List UInt8) then ((keys_good.f x4).bind fun t455 => (if t455 = true then (some (x4, 0)) else (some (([] : List (S45)), 210)))) else (some (([] : List (S45)), 210)))
end
def keys_Parse.f (k : Nat) (a0 : ByteArray) : Option ((List (S45)) × Int) := keys_Parse.l0 k a0 ([] : List (S45))
set_option maxHeartbeats 8000000 in
set_option maxRecDepth 100000 in
theorem keys_Parse.calls (k : Nat) (a0 : ByteArray) (r1 : List (S45)) (r2 : Int) (w : World) (h : keys_Parse.f k a0 = some (r1, r2)) :
  Calls Tryd.prog 20 #[.string a0] w fun e w' => ∃ v0_ : Value, e = .returned (.tuple #[v0_, .int .i64 r2]) ∧ Kd.R k45 45 w' w.heap.size (fun _ => True) v0_ r1 ∧ Below w.heap.size w w' := by
 have hu45 := Tryd.underlying45
 have HB := Aside0.mk (Below.refl w.heap.size w)
 have H : (keys_Parse.l0 k a0 ([] : List (S45))) = some (r1, r2) := h
 clear h
 have H' := Aside0.mk H
 clear H
 go_enter Tryd.func20, Tryd.ntmps20
 go_wp2
 go_loopg [0, 4] k (fun kq v0 v4 w' => ∃ (x0_1 : ByteArray) (x4_1 : List (S45)), v0 = .string x0_1 ∧ Aside0 (keys_Parse.l0 kq x0_1 x4_1 = some (r1, r2)) ∧ Aside0 (kq ≤ k) ∧ Aside0 (Kd.R k45 45 w' w.heap.size (fun _ => True) v4 x4_1) ∧ Aside0 (Below w.heap.size w w'))
 case atStart => exact ⟨(a0), (([] : List (S45))), (by first | rfl | (simp; done) | (simp [*]; done)), H', ⟨Nat.le_refl _⟩, ⟨by first | exact Kd.R_nil _ _ _ _ _ | exact Kd.N_nil _ _ _ _ _ | exact Kd.V_nil _ _ _ _ _ | exact Kd.Q_nil _ _ _ _ _ | exact Kd.S_nil _ _ _ _ _⟩, ⟨hb_ HB⟩⟩
 case round =>
  clear H'
  obtain ⟨x0_1, x4_1, rfl, HA, HK1, HO_4, HB⟩ := hrel
  cases gk with
  | zero => exact absurd HA.out (by simp [keys_Parse.l0])
  | succ k1 =>
   have H := HA.out
   clear HA
   simp only [keys_Parse.l0] at H
   have HC2 := Aside0.mk H
   clear H
   go_upto_region 2 with (fail)
   go_cut [17] (fun v17 wc => ∃ (kq : Nat) (x17_1 : Bool), v17 = .bool x17_1 ∧ Aside0 (keys_Parse.j1 kq x0_1 x4_1 x17_1 = some (r1, r2)) ∧ Aside0 (kq ≤ k1) ∧ Aside0 (Kd.R k45 45 wc w.heap.size (fun _ => True) u4 x4_1) ∧ Aside0 (Below w.heap.size w wc))
   case first =>
    have H := HC2.out
    clear HC2
    by_cases c3 : x0_1.toList = ([] : List UInt8)
    ·rw [if_pos c3] at H
     have c3b0 : (x0_1.toList == ([] : List UInt8)) = true := beq_iff_eq.mpr c3
     have c3b1 : (x0_1.toList != ([] : List UInt8)) = false := bne_eq_false_iff_eq.mpr c3
     (try (have c3b2 : (x0_1 = ByteArray.empty) = True := eq_true (by have h_ := c3; rw [ByteArray.toList_eq] at h_; exact ByteArray.ext (Array.toList_eq_nil_iff.mp h_))))
     clear c3
     (first | rw [c3b0] | (simp only [i64_w, i32_w]; rw [c3b0]) | skip)
     have H' := Aside0.mk H
     clear H
     go_wp2
     go_meet
     case rel => exact ⟨_, (false), (by first | rfl | (simp; done) | (simp [*]; done)), H', ⟨by have := HK1.out; first | omega | exact Nat.le_refl _⟩, ⟨by (with_reducible repeat (first | apply Kd.R_alloc | apply Kd.R_drewN | apply Kd.R_drew)); exact HO_4.out⟩, ⟨hb_ HB⟩⟩
    rw [if_neg c3] at H
    have c3b0 : (x0_1.toList == ([] : List UInt8)) = false := beq_eq_false_iff_ne.mpr c3
    have c3b1 : (x0_1.toList != ([] : List UInt8)) = true := bne_iff_ne.mpr c3
    (try (have c3b2 : (x0_1 = ByteArray.empty) = False := eq_false (fun h_ => c3 (by rw [h_, ByteArray.toList_eq]; rfl))))
    (first | rw [c3b0] | (simp only [i64_w, i32_w]; rw [c3b0]) | skip)
    have H' := Aside0.mk H
    clear H
    obtain ⟨Ao4, co4, eo4⟩ := Kd.R_slice HO_4.out
    subst eo4
    go_wp2
    go_meet
    case rel => exact ⟨_, (decide ((x4_1.length : Int) ≤ 16)), (by first | rfl | (simp; done) | (simp [*]; done)), H', ⟨by have := HK1.out; first | omega | exact Nat.le_refl _⟩, ⟨by (with_reducible repeat (first | apply Kd.R_alloc | apply Kd.R_drewN | apply Kd.R_drew)); exact HO_4.out⟩, ⟨hb_ HB⟩⟩
   case rest =>
    clear HC2
    try clear c2
    try clear p2
    try clear c3
    try clear c3b0
    try clear c3b1
    try clear c3b2
    obtain ⟨kq, x17_1, rfl, HA, HJ1, HO_4, HB⟩ := hcut
    cases kq with
    | zero => exact absurd HA.out (by simp [keys_Parse.j1])
    | succ kj1 =>
     have H := HA.out
     clear HA
     simp only [keys_Parse.j1] at H
     refine neg_first (p := (x17_1 = true)) (fun c5 => ?_) (fun c5 => ?_)
     ·replace c5 := Bool.eq_false_iff.mpr c5
      subst c5
      have H1 := H
      rw [if_neg (show ¬ (false = true) by decide)] at H1
      clear H
      have H := H1
      clear H1
      refine neg_first (p := (x0_1.toList = ([] : List UInt8))) (fun c12 => ?_) (fun c12 => ?_)
      ·rw [if_neg c12] at H
       have c12b0 : (x0_1.toList == ([] : List UInt8)) = false := beq_eq_false_iff_ne.mpr c12
       have c12b1 : (x0_1.toList != ([] : List UInt8)) = true := bne_iff_ne.mpr c12
       (try (have c12b2 : (x0_1 = ByteArray.empty) = False := eq_false (fun h_ => c12 (by rw [h_, ByteArray.toList_eq]; rfl))))
       simp only [Option.some.injEq, Prod.mk.injEq] at H
       obtain ⟨rfl, rfl⟩ := H
       go_wp2
       go_ret2
       exact ⟨_, by first | rfl | (simp [errW_none, errW_some] <;> rfl) | (simp [*, errW_none, errW_some] <;> rfl) | (simp [bt, *]; done) | (unfold bt; simp [*]; done), by first | exact Kd.R_nil _ _ _ _ _ | exact Kd.N_nil _ _ _ _ _ | exact Kd.V_nil _ _ _ _ _ | exact Kd.Q_nil _ _ _ _ _ | exact Kd.S_nil _ _ _ _ _, by repeat (first | (with_reducible first | exact HB.out | apply below_alloc | apply pw_below_drewN | apply below_drew1) | exact HB.out)⟩
      rw [if_pos c12] at H
      have c12b0 : (x0_1.toList == ([] : List UInt8)) = true := beq_iff_eq.mpr c12
      have c12b1 : (x0_1.toList != ([] : List UInt8)) = false := bne_eq_false_iff_eq.mpr c12
      (try (have c12b2 : (x0_1 = ByteArray.empty) = True := eq_true (by have h_ := c12; rw [ByteArray.toList_eq] at h_; exact ByteArray.ext (Array.toList_eq_nil_iff.mp h_))))
      clear c12
      replace H := Option.bind_eq_some_iff.mp H
      obtain ⟨t455, A130, H⟩ := H
      try dsimp only at H
      have A13 := Aside0.mk A130
      clear A130
      by_cases c14 : t455 = true
      ·subst c14
       have H1 := H
       rw [if_pos rfl] at H1
       clear H
       have H := H1
       clear H1
       simp only [Option.some.injEq, Prod.mk.injEq] at H
       obtain ⟨rfl, rfl⟩ := H
       obtain ⟨Ao15, co15, eo15⟩ := Kd.R_slice HO_4.out
       subst eo15
       go_wp2_with (first | (go_at_call 22; (with_reducible refine (keys_good.calls _ _ x4_1 true _ ?side1 ?side2 A13.out).mono ?_); (case side1 => repeat (first | exact (Kd.R_reads' HO_4.out).2.2 | (with_reducible refine Kd.C_alloc ?_ _) | (with_reducible refine Kd.C_drewN ?_ _) | (with_reducible refine Kd.C_drew ?_))); (case side2 => exact (Kd.R_reads' HO_4.out).2.1); rintro e w16 ⟨rfl, hb⟩; have n0_ := Aside0.mk (Kd.R_below (by (with_reducible repeat (first | apply Kd.R_alloc | apply Kd.R_drewN | apply Kd.R_drew)); exact HO_4.out) hb); have n1_ := Aside0.mk (below_step (hb_ HB) hb); clear HO_4; clear HB; have HO_4 := n0_; have HB := n1_; clear n0_ n1_; (try clear hb); (try clear hb2); (try clear hk); (try clear hi)))
       go_ret2
       exact ⟨_, by first | rfl | (simp [errW_none, errW_some] <;> rfl) | (simp [*, errW_none, errW_some] <;> rfl) | (simp [bt, *]; done) | (unfold bt; simp [*]; done), by (with_reducible repeat (first | apply Kd.R_alloc | apply Kd.R_drewN | apply Kd.R_drew)); exact HO_4.out, by repeat (first | (with_reducible first | exact HB.out | apply below_alloc | apply pw_below_drewN | apply below_drew1) | exact HB.out)⟩
      replace c14 := Bool.eq_false_iff.mpr c14
      subst c14
      have H1 := H
      rw [if_neg (show ¬ (false = true) by decide)] at H1
      clear H
      have H := H1
      clear H1
      simp only [Option.some.injEq, Prod.mk.injEq] at H
      obtain ⟨rfl, rfl⟩ := H
      obtain ⟨Ao17, co17, eo17⟩ := Kd.R_slice HO_4.out
      subst eo17
      go_wp2_with (first | (go_at_call 22; (with_reducible refine (keys_good.calls _ _ x4_1 false _ ?side1 ?side2 A13.out).mono ?_); (case side1 => repeat (first | exact (Kd.R_reads' HO_4.out).2.2 | (with_reducible refine Kd.C_alloc ?_ _) | (with_reducible refine Kd.C_drewN ?_ _) | (with_reducible refine Kd.C_drew ?_))); (case side2 => exact (Kd.R_reads' HO_4.out).2.1); rintro e w18 ⟨rfl, hb⟩; have n0_ := Aside0.mk (Kd.R_below (by (with_reducible repeat (first | apply Kd.R_alloc | apply Kd.R_drewN | apply Kd.R_drew)); exact HO_4.out) hb); have n1_ := Aside0.mk (below_step (hb_ HB) hb); clear HO_4; clear HB; have HO_4 := n0_; have HB := n1_; clear n0_ n1_; (try clear hb); (try clear hb2); (try clear hk); (try clear hi)))
      go_ret2
      exact ⟨_, by first | rfl | (simp [errW_none, errW_some] <;> rfl) | (simp [*, errW_none, errW_some] <;> rfl) | (simp [bt, *]; done) | (unfold bt; simp [*]; done), by first | exact Kd.R_nil _ _ _ _ _ | exact Kd.N_nil _ _ _ _ _ | exact Kd.V_nil _ _ _ _ _ | exact Kd.Q_nil _ _ _ _ _ | exact Kd.S_nil _ _ _ _ _, by repeat (first | (with_reducible first | exact HB.out | apply below_alloc | apply pw_below_drewN | apply below_drew1) | exact HB.out)⟩
     subst c5
     have H1 := H
     rw [if_pos rfl] at H1
     clear H
     have H := H1
     clear H1
     replace H := Option.bind_eq_some_iff.mp H
     obtain ⟨⟨t456, t457, t458⟩, A60, H⟩ := H
     try dsimp only at H
     have A6 := Aside0.mk A60
     clear A60
     replace H := Option.bind_eq_some_iff.mp H
     obtain ⟨⟨t459, t460, t461⟩, A70, H⟩ := H
     try dsimp only at H
     have A7 := Aside0.mk A70
     clear A70
     refine neg_first (p := (t458 = true)) (fun c8 => ?_) (fun c8 => ?_)
     ·replace c8 := Bool.eq_false_iff.mpr c8
      subst c8
      have H1 := H
      rw [if_neg (show ¬ (false = true) by decide)] at H1
      clear H
      have H := H1
      clear H1
      simp only [Option.some.injEq, Prod.mk.injEq] at H
      obtain ⟨rfl, rfl⟩ := H
      go_wp2_with (first | ((with_reducible refine gate_callee (f := 28) rfl ?_); refine goesL_ (some 20) rfl rfl Tryd.func28 (by kernel_rfl) rfl #[.string x0_1, .string (⟨#[0]⟩ : ByteArray)] rfl (by (try simp only [List.map_toArray, List.map_cons, List.map_nil]); first | done | rfl | (simp only [List.length_drop, List.length_take]; rfl)) ?_; (with_reducible refine (strings_Cut.calls x0_1 (⟨#[0]⟩ : ByteArray) t456 t457 false _ A6.out).mono ?_); rintro e w' ⟨rfl, ⟨nd, rfl⟩⟩; refine ⟨_, rfl, ?_⟩) | ((with_reducible refine gate_callee (f := 28) rfl ?_); refine goesL_ (some 26) rfl rfl Tryd.func28 (by kernel_rfl) rfl #[.string t456, .string (⟨#[61]⟩ : ByteArray)] rfl (by (try simp only [List.map_toArray, List.map_cons, List.map_nil]); first | done | rfl | (simp only [List.length_drop, List.length_take]; rfl)) ?_; (with_reducible refine (strings_Cut.calls t456 (⟨#[61]⟩ : ByteArray) t459 t460 t461 _ A7.out).mono ?_); rintro e w' ⟨rfl, ⟨nd, rfl⟩⟩; refine ⟨_, rfl, ?_⟩))
      go_ret2
      exact ⟨_, by first | rfl | (simp [errW_none, errW_some] <;> rfl) | (simp [*, errW_none, errW_some] <;> rfl) | (simp [bt, *]; done) | (unfold bt; simp [*]; done), by first | exact Kd.R_nil _ _ _ _ _ | exact Kd.N_nil _ _ _ _ _ | exact Kd.V_nil _ _ _ _ _ | exact Kd.Q_nil _ _ _ _ _ | exact Kd.S_nil _ _ _ _ _, by repeat (first | (with_reducible first | exact HB.out | apply below_alloc | apply pw_below_drewN | apply below_drew1) | exact HB.out)⟩
     subst c8
     have H1 := H
     rw [if_pos rfl] at H1
     clear H
     have H := H1
     clear H1
     refine neg_first (p := (t461 = true)) (fun c9 => ?_) (fun c9 => ?_)
     ·replace c9 := Bool.eq_false_iff.mpr c9
      subst c9
      have H1 := H
      rw [if_neg (show ¬ (false = true) by decide)] at H1
      clear H
      have H := H1
      clear H1
      simp only [Option.some.injEq, Prod.mk.injEq] at H
      obtain ⟨rfl, rfl⟩ := H
      go_wp2_with (first | ((with_reducible refine gate_callee (f := 28) rfl ?_); refine goesL_ (some 20) rfl rfl Tryd.func28 (by kernel_rfl) rfl #[.string x0_1, .string (⟨#[0]⟩ : ByteArray)] rfl (by (try simp only [List.map_toArray, List.map_cons, List.map_nil]); first | done | rfl | (simp only [List.length_drop, List.length_take]; rfl)) ?_; (with_reducible refine (strings_Cut.calls x0_1 (⟨#[0]⟩ : ByteArray) t456 t457 true _ A6.out).mono ?_); rintro e w' ⟨rfl, ⟨nd, rfl⟩⟩; refine ⟨_, rfl, ?_⟩) | ((with_reducible refine gate_callee (f := 28) rfl ?_); refine goesL_ (some 26) rfl rfl Tryd.func28 (by kernel_rfl) rfl #[.string t456, .string (⟨#[61]⟩ : ByteArray)] rfl (by (try simp only [List.map_toArray, List.map_cons, List.map_nil]); first | done | rfl | (simp only [List.length_drop, List.length_take]; rfl)) ?_; (with_reducible refine (strings_Cut.calls t456 (⟨#[61]⟩ : ByteArray) t459 t460 false _ A7.out).mono ?_); rintro e w' ⟨rfl, ⟨nd, rfl⟩⟩; refine ⟨_, rfl, ?_⟩))
      go_ret2
      exact ⟨_, by first | rfl | (simp [errW_none, errW_some] <;> rfl) | (simp [*, errW_none, errW_some] <;> rfl) | (simp [bt, *]; done) | (unfold bt; simp [*]; done), by first | exact Kd.R_nil _ _ _ _ _ | exact Kd.N_nil _ _ _ _ _ | exact Kd.V_nil _ _ _ _ _ | exact Kd.Q_nil _ _ _ _ _ | exact Kd.S_nil _ _ _ _ _, by repeat (first | (with_reducible first | exact HB.out | apply below_alloc | apply pw_below_drewN | apply below_drew1) | exact HB.out)⟩
     subst c9
     have H1 := H
     rw [if_pos rfl] at H1
     clear H
     have H := H1
     clear H1
     refine neg_first (p := (x4_1.length < 4398046511104)) (fun c10 => ?_) (fun c10 => ?_)
     ·rw [if_neg c10] at H
      exact absurd H (by simp)
     rw [if_pos c10] at H
     have LMc10 := Aside0.mk c10
     clear c10
     obtain ⟨y462, hy462⟩ : ∃ y_ : List (S45), y_ = (x4_1 ++ [(⟨t459, t460⟩ : S45)]) := ⟨_, rfl⟩
     replace H : (keys_Parse.l0 kj1 t457 y462) = some (r1, r2) := by first | (rw [hy462]; with_reducible exact H) | (have H2_ := (Option.bind_some _ _).symm.trans H; rw [hy462]; with_reducible exact H2_) | (have H2_ := (Option.bind_some _ _).symm.trans H; with_reducible exact H2_) | with_reducible exact H | (rw [hy462]; exact H) | exact H
     have Ny462 := Aside0.mk hy462
     clear hy462
     have H' := Aside0.mk H
     clear H
     go_wp2_with (first | ((with_reducible refine gate_callee (f := 28) rfl ?_); refine goesL_ (some 20) rfl rfl Tryd.func28 (by kernel_rfl) rfl #[.string x0_1, .string (⟨#[0]⟩ : ByteArray)] rfl (by (try simp only [List.map_toArray, List.map_cons, List.map_nil]); first | done | rfl | (simp only [List.length_drop, List.length_take]; rfl)) ?_; (with_reducible refine (strings_Cut.calls x0_1 (⟨#[0]⟩ : ByteArray) t456 t457 true _ A6.out).mono ?_); rintro e w' ⟨rfl, ⟨nd, rfl⟩⟩; refine ⟨_, rfl, ?_⟩) | ((with_reducible refine gate_callee (f := 28) rfl ?_); refine goesL_ (some 26) rfl rfl Tryd.func28 (by kernel_rfl) rfl #[.string t456, .string (⟨#[61]⟩ : ByteArray)] rfl (by (try simp only [List.map_toArray, List.map_cons, List.map_nil]); first | done | rfl | (simp only [List.length_drop, List.length_take]; rfl)) ?_; (with_reducible refine (strings_Cut.calls t456 (⟨#[61]⟩ : ByteArray) t459 t460 true _ A7.out).mono ?_); rintro e w' ⟨rfl, ⟨nd, rfl⟩⟩; refine ⟨_, rfl, ?_⟩) | ((with_reducible refine gate_builtin (b := .append) (xs := #[.tmp 36, .tmp 40]) rfl ?_); (try (refine gate_guard (by rfl) ?_; dsimp only)); at_builtin; refine Kd.R_append k45 (w0 := w) w.heap.size rfl (.tmp 36) (.tmp 40) 24 45 (.agg #[(.string ⟨#[]⟩), (.string ⟨#[]⟩)]) 32 rfl Tryd.underlying24 info45 rfl (by decide) (by omega) u4 x4_1 (⟨t459, t460⟩ : S45) [.string t459, .string t460] (fun _ => True) (fun _ => False) rfl rfl ?aP (fun _ hk => hk.elim) ?aF ?aO ?aB ?aS ?aL ?_; (case aP => exact k45_mkM _ _ _ (⟨t459, t460⟩ : S45)); (case aB => exact (hb_ HB)); (case aF => exact (fun _ _ => trivial)); (case aO => exact (by (with_reducible repeat (first | apply Kd.R_alloc | apply Kd.R_drewN | apply Kd.R_drew)); exact HO_4.out)); (case aS => exact (below_size (hb_ HB))); (case aL => have := LMc10.out; omega); intro v463 w11 ho hb hg hat; rw [← Ny462.out] at ho; have n0_ := Aside0.mk (hb); have n1_ := Aside0.mk (ho); clear HB; clear HO_4; have HB := n0_; have HO464 := n1_; clear n0_ n1_; clear ho hb hg hat))
     go_roundg kj1
     case measure => have := HK1.out; have := HJ1.out; omega
     case rel => exact ⟨(t457), (y462), (by first | rfl | (simp; done) | (simp [*]; done)), H', ⟨by have := HK1.out; have := HJ1.out; omega⟩, ⟨by (with_reducible repeat (first | apply Kd.R_alloc | apply Kd.R_drewN | apply Kd.R_drew)); exact HO464.out⟩, ⟨hb_ HB⟩⟩
end Go.Proofs.YtclcnkmefldpiaaDoor.P
namespace Go.Proofs.YtclcnkmefldpiaaDoor.Pure
open Go.RowKit Go.Proofs.YtclcnkmefldpiaaDoor.P Go.Proofs.YtclcnkmefldpiaaDoorW.PrintWords Go.Proofs.YtclcnkmefldpiaaDoorW.PrintLast Go.Proofs.YtclcnkmefldpiaaDoorW.PrintMore
set_option linter.unusedVariables false
set_option linter.unusedSimpArgs false
theorem w64 {n : Int} (h0 : -9223372036854775808 ≤ n) (h1 : n < 9223372036854775808) : wrap64 n = n := by unfold wrap64; omega
theorem rd_at (l : List S45) (i : Nat) (h : i < l.length) : rd_T45 l (i : Int) = l[i] := by
  unfold rd_T45
  rw [Int.toNat_natCast, List.getD_eq_getElem?_getD, List.getElem?_eq_getElem h]
  rfl
theorem ba_list (x : ByteArray) : x.toList = x.data.toList := ByteArray.toList_eq x
theorem Large_l0 (l : List S45) (hl : l.length ≤ 100) : ∀ (d k i : Nat), i + d = l.length → d + 1 ≤ k → ∃ z, headgatelaw21_Large.l0 k l (i : Int) = some z ∧ (z = false → ∀ x ∈ l.drop i, x.f0.size ≤ 1000 ∧ x.f1.size ≤ 1000)
  | 0, k + 1, i, hi, hk => by
    refine ⟨false, ?_, fun _ x hx => ?_⟩
    · rw [headgatelaw21_Large.l0, if_neg (by omega)]
    · rw [List.drop_eq_nil_of_le (by omega)] at hx
      exact absurd hx (by simp)
  | d + 1, k + 1, i, hi, hk => by
    have hlt : i < l.length := by omega
    rw [headgatelaw21_Large.l0, if_pos (by omega), if_pos (by omega), rd_at l i hlt]
    by_cases h0 : ((l[i].f0).size : Int) > 1000
    · exact ⟨true, if_pos h0, fun h => by cases h⟩
    rw [if_neg h0]
    by_cases h1 : ((l[i].f1).size : Int) > 1000
    · exact ⟨true, if_pos h1, fun h => by cases h⟩
    rw [if_neg h1, w64 (by omega) (by omega)]
    obtain ⟨z, hz, hs⟩ := Large_l0 l hl d k (i + 1) (by omega) (by omega)
    refine ⟨z, hz, fun hf x hx => ?_⟩
    rw [List.drop_eq_getElem_cons hlt] at hx
    rcases List.mem_cons.mp hx with e | hx
    · rw [e]; omega
    · exact hs hf x hx
theorem Large_spec (k : Nat) (l : List S45) (hk : 110 ≤ k) : ∃ z, headgatelaw21_Large.f k l = some z ∧ (z = false → l.length ≤ 100 ∧ ∀ x ∈ l, x.f0.size ≤ 1000 ∧ x.f1.size ≤ 1000) := by
  unfold headgatelaw21_Large.f
  by_cases h : (l.length : Int) > 100
  · exact ⟨true, if_pos h, fun h => by cases h⟩
  · rw [if_neg h]
    obtain ⟨z, hz, hs⟩ := Large_l0 l (by omega) l.length k 0 (by omega) (by omega)
    exact ⟨z, hz, fun hf => ⟨by omega, by simpa using hs hf⟩⟩
theorem small_of {l : List S45} (h : ∀ x ∈ l, x.f0.size ≤ 1000 ∧ x.f1.size ≤ 1000) : smallB l = true := by
  unfold smallB
  rw [List.all_eq_true]
  intro x hx
  obtain ⟨h1, h2⟩ := h x hx
  simp only [Bool.and_eq_true, decide_eq_true_eq]
  omega
theorem few_spec (l : List S45) (h : l.length ≤ 1000) : headgatelaw21_few.f l = some l := by
  unfold headgatelaw21_few.f
  rw [Option.bind_some, if_pos (by simp; omega), List.nil_append]
theorem Pairs_l0 (l : List S45) (hl : l.length ≤ 1000) : ∀ (d k i : Nat), i + d = l.length → d + 1 ≤ k → headgateref21_Pairs.l0 k l l (i : Int) = some true
  | 0, k + 1, i, hi, hk => by rw [headgateref21_Pairs.l0, if_neg (by omega)]
  | d + 1, k + 1, i, hi, hk => by
    rw [headgateref21_Pairs.l0, if_pos (by omega), if_pos (by omega), if_pos (by omega), if_pos rfl, if_pos rfl, w64 (by omega) (by omega)]
    exact Pairs_l0 l hl d k (i + 1) (by omega) (by omega)
theorem Pairs_same (k : Nat) (l : List S45) (hl : l.length ≤ 1000) (hk : 1010 ≤ k) : headgateref21_Pairs.f k l l = some true := by
  unfold headgateref21_Pairs.f
  rw [if_pos rfl]
  exact Pairs_l0 l hl l.length k 0 (by omega) (by omega)
theorem idx_cons (b c : UInt8) (l : List UInt8) : Go.Lib.indexByte (b :: l) c = if b = c then 0 else if Go.Lib.indexByte l c = -1 then -1 else Go.Lib.indexByte l c + 1 := by
  rw [Go.Lib.indexByte]
  by_cases h : b = c
  · rw [if_pos h, if_pos (by simpa using h)]
  · rw [if_neg h, if_neg (by simpa using h)]
    by_cases h2 : Go.Lib.indexByte l c = -1
    · rw [if_pos h2, if_pos (by simpa using h2)]
    · rw [if_neg h2, if_neg (by simpa using h2)]
end Go.Proofs.YtclcnkmefldpiaaDoor.Pure
namespace Go.Proofs.YtclcnkmefldpiaaDoor.Pure
open Go.RowKit Go.Proofs.YtclcnkmefldpiaaDoor.P Go.Proofs.YtclcnkmefldpiaaDoorW.PrintWords Go.Proofs.YtclcnkmefldpiaaDoorW.PrintLast Go.Proofs.YtclcnkmefldpiaaDoorW.PrintMore
set_option linter.unusedVariables false
set_option linter.unusedSimpArgs false
def bs (l : List UInt8) : ByteArray := ⟨l.toArray⟩
theorem bs_list (l : List UInt8) : (bs l).data.toList = l := rfl
theorem bs_of {x : ByteArray} {l : List UInt8} (h : x.data.toList = l) : x = bs l := ByteArray.ext (Array.toList_inj.mp (by rw [h]; rfl))
theorem len_data (s : ByteArray) : s.data.toList.length = s.size := by simp
theorem nil_iff (s : ByteArray) : s.toList = ([] : List UInt8) ↔ s.data.toList = [] := by rw [ba_list]
theorem idx_mem {l : List UInt8} {c : UInt8} (h : Go.Lib.indexByte l c < 0) : c ∉ l := fun hm => by
  have hg := Go.Lib.indexByte_ge l c
  obtain ⟨i, hi, e⟩ := List.mem_iff_getElem.mp hm
  exact Go.Lib.indexByte_none (show Go.Lib.indexByte l c = -1 by omega) i (by rw [List.getElem?_eq_getElem hi, e])
theorem idx_split {l : List UInt8} {c : UInt8} (h : ¬ Go.Lib.indexByte l c < 0) : (Go.Lib.indexByte l c).toNat < l.length ∧ l = l.take (Go.Lib.indexByte l c).toNat ++ c :: l.drop ((Go.Lib.indexByte l c).toNat + 1) ∧ c ∉ l.take (Go.Lib.indexByte l c).toNat := by
  obtain ⟨n, hn⟩ : ∃ n : Nat, Go.Lib.indexByte l c = n := ⟨(Go.Lib.indexByte l c).toNat, by omega⟩
  obtain ⟨h1, h2⟩ := Go.Lib.indexByte_some hn
  rw [hn, Int.toNat_natCast]
  have hl : n < l.length := by
    by_cases hx : n < l.length
    · exact hx
    · rw [List.getElem?_eq_none (by omega)] at h1; cases h1
  rw [List.getElem?_eq_getElem hl] at h1
  refine ⟨hl, ?_, fun hm => ?_⟩
  · rw [← Option.some.inj h1]
    conv => lhs; rw [← List.take_append_drop n l, List.drop_eq_getElem_cons hl]
  · obtain ⟨i, hi, e⟩ := List.mem_iff_getElem.mp hm
    rw [List.getElem_take] at e
    have hi' : i < n := by rw [List.length_take] at hi; omega
    exact h2 i hi' (by rw [List.getElem?_eq_getElem (by omega), e])
theorem pair_ok {p : S45} (h : pairB p = true) : 1 ≤ p.f0.size ∧ p.f0.size ≤ 63 ∧ p.f1.size ≤ 255 ∧ (0 : UInt8) ∉ p.f0.data.toList ∧ (61 : UInt8) ∉ p.f0.data.toList ∧ (0 : UInt8) ∉ p.f1.data.toList := by
  unfold pairB keyB at h
  simp only [Bool.and_eq_true, decide_eq_true_eq, List.all_eq_true] at h
  obtain ⟨⟨⟨⟨h1, h2⟩, h3⟩, h4⟩, h5⟩ := h
  exact ⟨h1, h2, h4, fun hm => absurd (h3 _ hm) (by decide), fun hm => absurd (h3 _ hm) (by decide), idx_mem h5⟩
theorem goodL_cons (m : List S45) (p : S45) (r : List S45) : goodL m (p :: r) = (!keyIn m p.f0 && pairB p && goodL (m ++ [p]) r) := rfl
theorem goodL_pair : ∀ {l m : List S45}, goodL m l = true → ∀ p ∈ l, pairB p = true
  | [], m, _, p, hp => absurd hp (by simp)
  | q :: l, m, h, p, hp => by
    rw [goodL_cons] at h
    simp only [Bool.and_eq_true] at h
    rcases List.mem_cons.mp hp with e | hp
    · rw [e]; exact h.1.2
    · exact goodL_pair h.2 p hp
theorem goodB_iff (l : List S45) : goodB l = true ↔ l.length ≤ 16 ∧ goodL [] l = true := by
  unfold goodB
  rw [Bool.and_eq_true, decide_eq_true_eq]
theorem good_small {l : List S45} (h : goodB l = true) : ∀ p ∈ l, p.f0.size ≤ 63 ∧ p.f1.size ≤ 255 := fun p hp => by
  have := pair_ok (goodL_pair ((goodB_iff l).mp h).2 p hp)
  exact ⟨this.2.1, this.2.2.1⟩
theorem smallB_of {l : List S45} (h : ∀ p ∈ l, p.f0.size ≤ 1000000 ∧ p.f1.size ≤ 1000000) : smallB l = true := by
  unfold smallB
  rw [List.all_eq_true]
  intro p hp
  simpa using h p hp
theorem smallB_iff {l : List S45} (h : smallB l = true) : ∀ p ∈ l, p.f0.size ≤ 1000000 ∧ p.f1.size ≤ 1000000 := fun p hp => by
  unfold smallB at h
  rw [List.all_eq_true] at h
  simpa using h p hp
def pz : Nat → List UInt8 → List S45 → List S45 × Int
  | 0, _, _ => ([], 210)
  | n + 1, s, acc => if s = [] then (if goodB acc = true then (acc, 0) else ([], 210))
    else if Go.Lib.indexByte s 0 < 0 ∨ acc.length = 16 then ([], 210)
    else if Go.Lib.indexByte (s.take (Go.Lib.indexByte s 0).toNat) 61 < 0 then ([], 210)
    else pz n (s.drop ((Go.Lib.indexByte s 0).toNat + 1)) (acc ++ [⟨bs ((s.take (Go.Lib.indexByte s 0).toNat).take (Go.Lib.indexByte (s.take (Go.Lib.indexByte s 0).toNat) 61).toNat), bs ((s.take (Go.Lib.indexByte s 0).toNat).drop ((Go.Lib.indexByte (s.take (Go.Lib.indexByte s 0).toNat) 61).toNat + 1))⟩])
theorem pz_full : ∀ (n : Nat) (s : List UInt8) (acc : List S45), 17 ≤ acc.length → pz n s acc = ([], 210)
  | 0, _, _, _ => rfl
  | n + 1, s, acc, h => by
    rw [pz]
    split
    · rw [if_neg]
      intro hg
      have := ((goodB_iff acc).mp hg).1
      omega
    · split
      · rfl
      · split
        · rfl
        · exact pz_full n _ _ (by simp; omega)
theorem cut_spec (s : ByteArray) (c : UInt8) (hs : s.size ≤ 1000000) : strings_Cut.f s (⟨#[c]⟩ : ByteArray) = some (cut1 s c) := by
  show (if s.size ≤ 1000000 then some (cut1 s c) else none) = _
  rw [if_pos hs]
theorem cut_no {s : ByteArray} {c : UInt8} (h : Go.Lib.indexByte s.data.toList c < 0) : cut1 s c = (s, (⟨#[]⟩ : ByteArray), false) := if_pos h
theorem cut_yes {s : ByteArray} {c : UInt8} (h : ¬ Go.Lib.indexByte s.data.toList c < 0) : cut1 s c = (bs (s.data.toList.take (Go.Lib.indexByte s.data.toList c).toNat), bs (s.data.toList.drop ((Go.Lib.indexByte s.data.toList c).toNat + 1)), true) := by
  unfold cut1
  rw [if_neg h, bs_of (Go.Lib.extract_from_zero s _), bs_of (Go.Lib.extract_to_end s _)]
theorem prog_l0 : ∀ (d K : Nat) (s : ByteArray) (acc : List S45), acc.length + d = 17 → s.size ≤ 900000 → 2 * d + 6 ≤ K → smallB acc = true → keys_Parse.l0 K s acc = some (pz (d + 1) s.data.toList acc)
  | d, 0, s, acc, _, _, hK, _ => by omega
  | d, 1, s, acc, _, _, hK, _ => by omega
  | d, K + 2, s, acc, hd, hs, hK, ha => by
    rw [keys_Parse.l0, pz]
    by_cases h0 : s.data.toList = []
    · rw [if_pos ((nil_iff s).mpr h0), if_pos h0, keys_Parse.j1, if_neg (by decide), if_pos ((nil_iff s).mpr h0)]
      unfold keys_good.f
      rw [if_pos ha, Option.bind_some]
      cases goodB acc <;> rfl
    rw [if_neg (fun h => h0 ((nil_iff s).mp h)), if_neg h0, keys_Parse.j1]
    cases d with
    | zero =>
      rw [decide_eq_false (by omega), if_neg (by decide), if_neg (fun h => h0 ((nil_iff s).mp h))]
      split
      · rfl
      · split
        · rfl
        · rfl
    | succ d =>
      rw [decide_eq_true (by omega), if_pos rfl, cut_spec s 0 (by omega), Option.bind_some]
      by_cases h1 : Go.Lib.indexByte s.data.toList 0 < 0
      · rw [cut_no h1, if_pos (Or.inl h1)]
        dsimp only
        rw [cut_spec s 61 (by omega), Option.bind_some, if_neg (by decide)]
      obtain ⟨q1, q2, q3⟩ := idx_split h1
      rw [cut_yes h1]
      dsimp only
      have hsz : (bs (s.data.toList.take (Go.Lib.indexByte s.data.toList 0).toNat)).size ≤ s.size := by
        rw [← len_data, bs_list, List.length_take, ← len_data]
        omega
      rw [cut_spec _ 61 (by omega), Option.bind_some, if_pos rfl]
      by_cases h2 : Go.Lib.indexByte (s.data.toList.take (Go.Lib.indexByte s.data.toList 0).toNat) 61 < 0
      · rw [cut_no h2]
        dsimp only
        rw [if_neg (by decide)]
        split <;> rfl
      rw [cut_yes h2, if_pos rfl, if_pos (by omega), bs_list]
      have ih := prog_l0 d K (bs (s.data.toList.drop ((Go.Lib.indexByte s.data.toList 0).toNat + 1))) (acc ++ [⟨bs ((s.data.toList.take (Go.Lib.indexByte s.data.toList 0).toNat).take (Go.Lib.indexByte (s.data.toList.take (Go.Lib.indexByte s.data.toList 0).toNat) 61).toNat), bs ((s.data.toList.take (Go.Lib.indexByte s.data.toList 0).toNat).drop ((Go.Lib.indexByte (s.data.toList.take (Go.Lib.indexByte s.data.toList 0).toNat) 61).toNat + 1))⟩])
        (by simp; omega) (by rw [← len_data, bs_list, List.length_drop, len_data]; omega) (by omega) (smallB_of fun p hp => by
          rcases List.mem_append.mp hp with hp | hp
          · exact smallB_iff ha p hp
          · rw [List.mem_singleton.mp hp]
            have l1 := List.length_take_le (Go.Lib.indexByte (s.data.toList.take (Go.Lib.indexByte s.data.toList 0).toNat) 61).toNat (s.data.toList.take (Go.Lib.indexByte s.data.toList 0).toNat)
            have l2 := List.length_drop (i := (Go.Lib.indexByte (s.data.toList.take (Go.Lib.indexByte s.data.toList 0).toNat) 61).toNat + 1) (l := s.data.toList.take (Go.Lib.indexByte s.data.toList 0).toNat)
            have l3 : (s.data.toList.take (Go.Lib.indexByte s.data.toList 0).toNat).length ≤ s.size := by rw [List.length_take, len_data]; omega
            constructor
            · show (bs _).size ≤ _
              rw [← len_data, bs_list, List.length_take]; omega
            · show (bs _).size ≤ _
              rw [← len_data, bs_list]; omega)
      rw [ih, bs_list]
      by_cases h16 : acc.length = 16
      · rw [if_pos (Or.inr h16), pz_full]
        simp; omega
      · rw [if_neg (fun h => h.elim h1 h16), if_neg h2]
theorem prog_parse (K : Nat) (s : ByteArray) (hs : s.size ≤ 900000) (hK : 40 ≤ K) : keys_Parse.f K s = some (pz 18 s.data.toList []) := prog_l0 17 K s [] rfl hs (by omega) rfl
theorem pz_back : ∀ (n : Nat) (s : List UInt8) (acc l : List S45) (c : Int), pz n s acc = (l, c) → (c = 210 ∧ l = []) ∨ (c = 0 ∧ goodB l = true ∧ textL l = textL acc ++ s)
  | 0, s, acc, l, c, h => by cases h; exact Or.inl ⟨rfl, rfl⟩
  | n + 1, s, acc, l, c, h => by
    rw [pz] at h
    split at h
    · next h0 =>
      split at h
      · next hg => cases h; exact Or.inr ⟨rfl, hg, by rw [h0, List.append_nil]⟩
      · cases h; exact Or.inl ⟨rfl, rfl⟩
    · split at h
      · cases h; exact Or.inl ⟨rfl, rfl⟩
      · next h1 =>
        split at h
        · cases h; exact Or.inl ⟨rfl, rfl⟩
        · next h2 =>
          rcases pz_back n _ _ l c h with h | ⟨hc, hg, ht⟩
          · exact Or.inl h
          · refine Or.inr ⟨hc, hg, ?_⟩
            obtain ⟨q1, q2, q3⟩ := idx_split (fun x => h1 (Or.inl x))
            obtain ⟨r1, r2, r3⟩ := idx_split h2
            rw [ht, textL_snoc, bs_list, bs_list]
            rw [List.append_assoc, List.append_assoc]
            congr 1
            conv => rhs; rw [q2, r2]
            simp
end Go.Proofs.YtclcnkmefldpiaaDoor.Pure
namespace Go.Proofs.YtclcnkmefldpiaaDoor.Pure
open Go.RowKit Go.Proofs.YtclcnkmefldpiaaDoor.P Go.Proofs.YtclcnkmefldpiaaDoorW.PrintWords Go.Proofs.YtclcnkmefldpiaaDoorW.PrintLast Go.Proofs.YtclcnkmefldpiaaDoorW.PrintMore
set_option linter.unusedVariables false
theorem wakes_ok : headgatelaw21_wakes.f = some true := by
  kernel_rfl
end Go.Proofs.YtclcnkmefldpiaaDoor.Pure
namespace Go.Proofs.YtclcnkmefldpiaaDoor.Rk
open Go.ChangeShapes Go.WideShapes Go.RowKit Go.Proofs.YtclcnkmefldpiaaDoorW.PrintWords
variable {P : Program}
def Opens (P : Program) (t : TypeId) {α : Type} (d : Kd α) (Q : α → Prop) : Prop :=
  ∀ (H : Type) (enc : TypeId × Value → H) (w : World) (base : Nat) (spare : Nat → Bool) (held : Bool) (fuel : Nat) (cs : List Value) (y : DataW H × List MemPlace),
    DataW.trod enc P w base spare held fuel t cs = some y → ∃ x, d.K w x cs ∧ Q x
theorem opens_string {t : TypeId} (ht : P.underlying t = some .string) : Opens P t Kd.string (fun s => s.size ≤ 9223372036854775807) := by
  intro H enc w base spare held fuel cs y h
  obtain ⟨n, rfl, _, hs⟩ := DataW.trod_string ht h
  exact ⟨n, rfl, hs⟩
theorem add_add (a : Addr) (m n : Nat) : (a.add m).add n = a.add (m + n) := by
  unfold Addr.add
  by_cases hn : n = 0
  · simp [hn]
  · by_cases hm : m = 0
    · simp [hm]
    · simp [hm, hn]
      omega
theorem mapM_at {α β : Type} {f : α → Option β} : ∀ {l : List α} {r : List β}, l.mapM f = some r → ∀ (i : Nat) (a : α), l[i]? = some a → ∃ b, r[i]? = some b ∧ f a = some b
  | [], _, _, i, a, ha => by simp at ha
  | x :: l, r, h, i, a, ha => by
    simp only [List.mapM_cons, Option.bind_eq_bind, Option.bind_eq_some_iff, Option.pure_def, Option.some.injEq] at h
    obtain ⟨b, hb, r', hr', rfl⟩ := h
    cases i with
    | zero =>
      simp only [List.getElem?_cons_zero, Option.some.injEq] at ha
      subst ha
      exact ⟨b, rfl, hb⟩
    | succ i => exact mapM_at hr' i a (by simpa using ha)
theorem mapM_length {α β : Type} {f : α → Option β} : ∀ {l : List α} {r : List β}, l.mapM f = some r → r.length = l.length
  | [], r, h => by simp at h; subst h; rfl
  | x :: l, r, h => by
    simp only [List.mapM_cons, Option.bind_eq_bind, Option.bind_eq_some_iff, Option.pure_def, Option.some.injEq] at h
    obtain ⟨b, hb, r', hr', rfl⟩ := h
    simp [mapM_length hr']
theorem cells_get {w : World} {base : Nat} {a : Addr} {n : Nat} {cs : List Value} (h : w.cells? base a n = some cs) : cs.length = n ∧ ∀ i u, cs[i]? = some u → w.cell? (a.add i) = some u := by
  unfold World.cells? at h
  split at h
  · have hl := mapM_length h
    simp at hl
    refine ⟨hl, fun i u hu => ?_⟩
    have hi : i < n := by
      have := (List.getElem?_eq_some_iff.mp hu).1
      omega
    obtain ⟨b, hb, hf⟩ := mapM_at h i i (by simp [hi])
    rw [hu] at hb
    cases hb
    exact hf
  · cases h
theorem build_list {α : Type} {p : Nat → α → Prop} : ∀ n, (∀ i, i < n → ∃ x, p i x) → ∃ l : List α, l.length = n ∧ ∀ i x, l[i]? = some x → p i x
  | 0, _ => ⟨[], rfl, by simp⟩
  | n + 1, h => by
    obtain ⟨l, hl, hp⟩ := build_list n (fun i hi => h i (by omega))
    obtain ⟨x, hx⟩ := h n (by omega)
    refine ⟨l ++ [x], by simp [hl], fun i y hy => ?_⟩
    by_cases hi : i < n
    · rw [List.getElem?_append_left (by omega)] at hy
      exact hp i y hy
    · have : i = n := by
        have := (List.getElem?_eq_some_iff.mp hy).1
        simp at this
        omega
      subst this
      rw [List.getElem?_append_right (by omega)] at hy
      simp [hl] at hy
      subst hy
      exact hx
theorem opens_slice {t e : TypeId} {α : Type} {d : Kd α} {Q : α → Prop} (ht : P.underlying t = some (.slice e)) (hc : P.cellsOf e = d.sz) (ho : Opens P e d Q) :
    Opens P t (Kd.slice e d) (fun l => l.length ≤ 9223372036854775807 ∧ ∀ x ∈ l, Q x) := by
  intro H enc w base spare held fuel cs y h
  rcases DataW.trod_slice ht h with ⟨rfl, _⟩ | ⟨a, len, cap, elems, rest, n, _, rfl, _, hb, hl, hm, hlen, hel, _, _⟩
  · exact ⟨[], ⟨none, 0, rfl, Nat.le_refl _, rfl, by simp, fun h => absurd h (by simp)⟩, by simp, by simp⟩
  · have hx : ∀ i, i < len → ∃ x, (∃ c, c.length = d.sz ∧ d.K w x c ∧ ∀ j u, c[j]? = some u → w.cell? (a.add (i * d.sz + j)) = some u) ∧ Q x := by
      intro i hi
      have h1 := hel i hi
      rw [List.getElem?_eq_getElem (by omega)] at h1
      obtain ⟨cs', h3, h4⟩ := Option.bind_eq_some_iff.mp h1
      obtain ⟨x, h5, h6⟩ := ho _ _ _ _ _ _ _ _ _ h4
      obtain ⟨h7, h8⟩ := cells_get h3
      refine ⟨x, ⟨cs', h7.trans hc, h5, fun j u hu => ?_⟩, h6⟩
      have := h8 j u hu
      rw [add_add, hc] at this
      exact this
    obtain ⟨l, hll, hlp⟩ := build_list len hx
    have hm' : cap ≤ 9223372036854775807 := hm
    refine ⟨l, ⟨some a, cap, by rw [hll], by omega, rfl, by omega, fun _ => ⟨a, rfl, fun j p hp => (hlp j p hp).1⟩⟩, by omega, fun x hxl => ?_⟩
    obtain ⟨i, hi⟩ := List.getElem?_of_mem hxl
    exact (hlp i x hi).2
def Fits (P : Program) (l : List (TypeId × Nat)) (off : Nat) {α : Type} (d : Kd α) (Q : α → Prop) : Prop :=
  ∀ (H : Type) (enc : TypeId × Value → H) (w : World) (base : Nat) (spare : Nat → Bool) (held : Bool) (n : Nat) (cs : List Value), cs.length = off + d.sz →
    (∀ f, f ∈ l → ∃ y, DataW.trod enc P w base spare held n f.1 ((cs.drop f.2).take (P.cellsOf f.1)) = some y) → ∃ x, d.K w x (cs.drop off) ∧ Q x
theorem fits_one {t : TypeId} {off : Nat} {α : Type} {d : Kd α} {Q : α → Prop} (ho : Opens P t d Q) (hc : P.cellsOf t = d.sz) : Fits P [(t, off)] off d Q := by
  intro H enc w base spare held n cs hl h
  obtain ⟨y, hy⟩ := h (t, off) (by simp)
  rw [hc, List.take_of_length_le (by simp; omega)] at hy
  exact ho _ _ _ _ _ _ _ _ _ hy
theorem fits_cons {t : TypeId} {off : Nat} {l : List (TypeId × Nat)} {α β : Type} {a : Kd α} {b : Kd β} {Qa : α → Prop} {Qb : β → Prop} (ho : Opens P t a Qa) (hc : P.cellsOf t = a.sz) (hr : Fits P l (off + a.sz) b Qb) :
    Fits P ((t, off) :: l) off (Kd.pair a b) (fun x => Qa x.1 ∧ Qb x.2) := by
  intro H enc w base spare held n cs hl h
  obtain ⟨y, hy⟩ := h (t, off) (by simp)
  rw [hc] at hy
  obtain ⟨x, hx, qx⟩ := ho _ _ _ _ _ _ _ _ _ hy
  have hl' : cs.length = off + (a.sz + b.sz) := hl
  obtain ⟨z, hz, qz⟩ := hr _ enc w base spare held n cs (by omega) (fun f hf => h f (by simp [hf]))
  refine ⟨(x, z), ⟨_, _, ?_, hx, hz⟩, qx, qz⟩
  rw [← List.drop_drop, List.take_append_drop]
theorem opens_struct {t : TypeId} {fs : Array Field} {l : List (TypeId × Nat)} {α : Type} {d : Kd α} {Q : α → Prop} (ht : P.underlying t = some (.struct fs)) (hl : fs.toList.map (fun f => (f.type, f.offset)) = l) (hc : P.cellsOf t = d.sz)
    (h : Fits P l 0 d Q) : Opens P t d Q := by
  intro H enc w base spare held fuel cs y hy
  obtain ⟨xs, n, _, _, hlen, hxl, hf⟩ := DataW.trod_struct ht hy
  subst hl
  obtain ⟨x, hx, qx⟩ := h _ enc w base spare held n cs (by omega) (fun f hf' => by
    obtain ⟨g, hg, rfl⟩ := List.mem_map.mp hf'
    obtain ⟨i, hi⟩ := List.getElem?_of_mem hg
    rw [Array.getElem?_toList] at hi
    have h1 := hf i g hi
    have h2 : i < xs.length := by
      rw [hxl]
      exact (Array.getElem?_eq_some_iff.mp hi).1
    exact ⟨xs[i], by rw [h1]; exact List.getElem?_eq_getElem h2⟩)
  exact ⟨x, by simpa using hx, qx⟩
theorem opens_iso {t : TypeId} {α β : Type} {d : Kd α} {Q : α → Prop} {f : β → α} (g : α → β) (hg : ∀ x, f (g x) = x) (h : Opens P t d Q) : Opens P t (Kd.iso d f) (fun y => Q (f y)) := by
  intro H enc w base spare held fuel cs y hy
  obtain ⟨x, hx, qx⟩ := h _ _ _ _ _ _ _ _ _ hy
  refine ⟨g x, ?_, ?_⟩
  · show d.K w (f (g x)) cs
    rw [hg]
    exact hx
  · show Q (f (g x))
    rw [hg]
    exact qx
theorem arg {t : TypeId} {α : Type} {d : Kd α} {Q : α → Prop} (ho : Opens P t d Q) {H : Type} {enc : TypeId × Value → H} {W : World} {spare : Nat → Bool} {held : Bool} {v : Value} {y : DataW H} {p : List MemPlace}
    (h : DataW.Trod enc P W 0 spare held t v y p) : ∃ x, d.K W x v.cells.toList ∧ Q x := by
  obtain ⟨fuel, hf⟩ := h
  exact ho _ _ _ _ _ _ _ _ _ hf
theorem lt_of {t : TypeId} {H : Type} {enc : TypeId × Value → H} {W : World} {spare : Nat → Bool} {held : Bool} {v : Value} {y : DataW H} {p : List MemPlace}
    (h : DataW.Trod enc P W 0 spare held t v y p) : ∀ x ∈ p, x.block < W.heap.size := by
  obtain ⟨m, hm⟩ := h
  exact DataW.trod_lt m _ _ _ hm
end Go.Proofs.YtclcnkmefldpiaaDoor.Rk
namespace Go.Proofs.YtclcnkmefldpiaaDoor.P
open Go.RowKit Go.Proofs.YtclcnkmefldpiaaDoorW.PrintWords
def Q45 (x : S45) : Prop := x.f0.size ≤ 9223372036854775807 ∧ x.f1.size ≤ 9223372036854775807
theorem o45 : Rk.Opens Tryd.prog 45 k45 Q45 :=
  Rk.opens_iso (fun p => ⟨p.1, p.2⟩) (fun _ => rfl) (Rk.opens_struct Tryd.underlying45 (l := [(9, 0), (9, 1)]) (by kernel_rfl) (by kernel_rfl) (Rk.fits_cons (Rk.opens_string Tryd.underlying9) (by kernel_rfl) (Rk.fits_one (Rk.opens_string Tryd.underlying9) (by kernel_rfl))))
end Go.Proofs.YtclcnkmefldpiaaDoor.P
