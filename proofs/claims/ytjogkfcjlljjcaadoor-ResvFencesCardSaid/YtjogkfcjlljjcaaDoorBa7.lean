-- joined by this session's wip/tools/pack.py: words of the kit's print, cut to what the claim names; functions printed by a patched copy of the printer; walks and lemmas of this session; Lean checks it
import Derived.Test.YtjogkfcjlljjcaaDoorBa6
import Derived.ProofKit
import Derived.ChangeArms
import Derived.DataReads
import Derived.Lib.LaidTab
import Derived.Maps.Own
import Derived.Maps.OwnOps
import Derived.Maps.Views
import Derived.Carry
import Derived.Lib.SliceRun
namespace Go.Proofs.YtjogkfcjlljjcaaDoor.P
open Go.RowKit Go.Proofs.YtjogkfcjlljjcaaDoorW.PrintWords Go.Proofs.YtjogkfcjlljjcaaDoorW.PrintLast Go.Proofs.YtjogkfcjlljjcaaDoorW.PrintMore
attribute [local go_sem] max2_int min2_int max_two min_two max_three min_three max_four min_four   -- for this text's walks alone
set_option linter.unusedVariables false
set_option linter.unusedSimpArgs false
set_option linter.unnecessarySimpa false
set_option maxHeartbeats 8000000 in
set_option maxRecDepth 100000 in
theorem headgatelaw11_wakes.calls (k : Nat)  (r : Bool) (w : World) (hG : Glob w) (h : headgatelaw11_wakes.f k  = some r) :
  Calls Tryd.prog 13 #[] w fun e w' => e = .returned (.bool r) ∧ Below w.heap.size w w' := by
 have hu53 := Tryd.underlying53
 have hu24 := Tryd.underlying24
 have hu27 := Tryd.underlying27
 have hu31 := Tryd.underlying31
 have HG := Aside0.mk hG
 clear hG
 have HB := Aside0.mk (Below.refl w.heap.size w)
 have H : ((some (([(⟨(⟨#[97]⟩ : ByteArray), 1⟩ : S53), (⟨(⟨#[98]⟩ : ByteArray), 2⟩ : S53)] : List (S53)) : List (S53))).bind fun y104 => ((resv_Do.f k y104 1 (⟨#[97]⟩ : ByteArray) 0 false 12 0 (⟨#[98]⟩ : ByteArray) 0 0 (⟨#[]⟩ : ByteArray) false ([] : List (S100)) 2 0 1 2 false 0).bind fun bt108 => (if bt108.2.2.2.2.2.2 = 1 then (if (bt108.1.length : Int) = 1 then (if bt108.2.2.1.toList = ([98] : List UInt8) then (if bt108.2.1 = 2 then (if bt108.2.2.2.1 = 1 then (if (bt108.2.2.2.2.2.1.length : Int) = 1 then (if 0 < (bt108.2.2.2.2.2.1.length : Int) then (if ((rd_T46 bt108.2.2.2.2.2.1 0).f0).toList = ([97] : List UInt8) then (if ((rd_T46 bt108.2.2.2.2.2.1 0).f1) = 2 then ((resv_Good.f y104 1 (⟨#[97]⟩ : ByteArray) 0 false).bind fun t122 => (some t122)) else (some false)) else (some false)) else (none)) else (some false)) else (some false)) else (some false)) else (some false)) else (some false)) else (some false)))) = some r := h
 clear h
 obtain ⟨y104, hy104⟩ : ∃ y_ : List (S53), y_ = (([(⟨(⟨#[97]⟩ : ByteArray), 1⟩ : S53), (⟨(⟨#[98]⟩ : ByteArray), 2⟩ : S53)] : List (S53))) := ⟨_, rfl⟩
 replace H : ((resv_Do.f k y104 1 (⟨#[97]⟩ : ByteArray) 0 false 12 0 (⟨#[98]⟩ : ByteArray) 0 0 (⟨#[]⟩ : ByteArray) false ([] : List (S100)) 2 0 1 2 false 0).bind fun bt108 => (if bt108.2.2.2.2.2.2 = 1 then (if (bt108.1.length : Int) = 1 then (if bt108.2.2.1.toList = ([98] : List UInt8) then (if bt108.2.1 = 2 then (if bt108.2.2.2.1 = 1 then (if (bt108.2.2.2.2.2.1.length : Int) = 1 then (if 0 < (bt108.2.2.2.2.2.1.length : Int) then (if ((rd_T46 bt108.2.2.2.2.2.1 0).f0).toList = ([97] : List UInt8) then (if ((rd_T46 bt108.2.2.2.2.2.1 0).f1) = 2 then ((resv_Good.f y104 1 (⟨#[97]⟩ : ByteArray) 0 false).bind fun t122 => (some t122)) else (some false)) else (some false)) else (none)) else (some false)) else (some false)) else (some false)) else (some false)) else (some false)) else (some false))) = some r := by first | (rw [hy104]; with_reducible exact H) | (have H2_ := (Option.bind_some _ _).symm.trans H; rw [hy104]; with_reducible exact H2_) | (have H2_ := (Option.bind_some _ _).symm.trans H; with_reducible exact H2_) | with_reducible exact H | (rw [hy104]; exact H) | exact H
 have Ny104 := Aside0.mk hy104
 clear hy104
 replace H := Option.bind_eq_some_iff.mp H
 obtain ⟨⟨t108, t111, t112, t113, t114, t115, t118⟩, A10, H⟩ := H
 try dsimp only at H
 have A1 := Aside0.mk A10
 have V := Aside0.mk (Go.Proofs.YtjogkfcjlljjcaaDoor.Pure.wakes_vals (Ny104.out.trans rfl) A10)
 clear A10
 refine neg_first (p := (t118 = 1)) (fun c2 => ?_) (fun c2 => ?_)
 ·obtain ⟨v1, v2, v3, v4, v5, v6, v7, v8, v9⟩ := V.out; first | exact absurd v1 c2 | exact absurd v2 c2 | exact absurd v3 c2 | exact absurd v4 c2 | exact absurd v5 c2 | exact absurd v6 c2 | exact absurd v7 c2 | exact absurd v8 c2 | exact absurd v9 c2
 rw [if_pos c2] at H
 have c2b0 : (t118 == 1) = true := beq_iff_eq.mpr c2
 have c2b1 : (t118 != 1) = false := bne_eq_false_iff_eq.mpr c2
 clear c2
 refine neg_first (p := ((t108.length : Int) = 1)) (fun c3 => ?_) (fun c3 => ?_)
 ·obtain ⟨v1, v2, v3, v4, v5, v6, v7, v8, v9⟩ := V.out; first | exact absurd v1 c3 | exact absurd v2 c3 | exact absurd v3 c3 | exact absurd v4 c3 | exact absurd v5 c3 | exact absurd v6 c3 | exact absurd v7 c3 | exact absurd v8 c3 | exact absurd v9 c3
 rw [if_pos c3] at H
 have c3b0 : ((t108.length : Int) == 1) = true := beq_iff_eq.mpr c3
 have c3b1 : ((t108.length : Int) != 1) = false := bne_eq_false_iff_eq.mpr c3
 clear c3
 refine neg_first (p := (t112.toList = ([98] : List UInt8))) (fun c4 => ?_) (fun c4 => ?_)
 ·obtain ⟨v1, v2, v3, v4, v5, v6, v7, v8, v9⟩ := V.out; first | exact absurd v1 c4 | exact absurd v2 c4 | exact absurd v3 c4 | exact absurd v4 c4 | exact absurd v5 c4 | exact absurd v6 c4 | exact absurd v7 c4 | exact absurd v8 c4 | exact absurd v9 c4
 rw [if_pos c4] at H
 have c4b0 : (t112.toList == ([98] : List UInt8)) = true := beq_iff_eq.mpr c4
 have c4b1 : (t112.toList != ([98] : List UInt8)) = false := bne_eq_false_iff_eq.mpr c4
 clear c4
 refine neg_first (p := (t111 = 2)) (fun c5 => ?_) (fun c5 => ?_)
 ·obtain ⟨v1, v2, v3, v4, v5, v6, v7, v8, v9⟩ := V.out; first | exact absurd v1 c5 | exact absurd v2 c5 | exact absurd v3 c5 | exact absurd v4 c5 | exact absurd v5 c5 | exact absurd v6 c5 | exact absurd v7 c5 | exact absurd v8 c5 | exact absurd v9 c5
 rw [if_pos c5] at H
 have c5b0 : (t111 == 2) = true := beq_iff_eq.mpr c5
 have c5b1 : (t111 != 2) = false := bne_eq_false_iff_eq.mpr c5
 clear c5
 refine neg_first (p := (t113 = 1)) (fun c6 => ?_) (fun c6 => ?_)
 ·obtain ⟨v1, v2, v3, v4, v5, v6, v7, v8, v9⟩ := V.out; first | exact absurd v1 c6 | exact absurd v2 c6 | exact absurd v3 c6 | exact absurd v4 c6 | exact absurd v5 c6 | exact absurd v6 c6 | exact absurd v7 c6 | exact absurd v8 c6 | exact absurd v9 c6
 rw [if_pos c6] at H
 have c6b0 : (t113 == 1) = true := beq_iff_eq.mpr c6
 have c6b1 : (t113 != 1) = false := bne_eq_false_iff_eq.mpr c6
 clear c6
 refine neg_first (p := ((t115.length : Int) = 1)) (fun c7 => ?_) (fun c7 => ?_)
 ·obtain ⟨v1, v2, v3, v4, v5, v6, v7, v8, v9⟩ := V.out; first | exact absurd v1 c7 | exact absurd v2 c7 | exact absurd v3 c7 | exact absurd v4 c7 | exact absurd v5 c7 | exact absurd v6 c7 | exact absurd v7 c7 | exact absurd v8 c7 | exact absurd v9 c7
 rw [if_pos c7] at H
 have c7b0 : ((t115.length : Int) == 1) = true := beq_iff_eq.mpr c7
 have c7b1 : ((t115.length : Int) != 1) = false := bne_eq_false_iff_eq.mpr c7
 clear c7
 refine neg_first (p := (0 < (t115.length : Int))) (fun c8 => ?_) (fun c8 => ?_)
 ·obtain ⟨v1, v2, v3, v4, v5, v6, v7, v8, v9⟩ := V.out; first | exact absurd v1 c8 | exact absurd v2 c8 | exact absurd v3 c8 | exact absurd v4 c8 | exact absurd v5 c8 | exact absurd v6 c8 | exact absurd v7 c8 | exact absurd v8 c8 | exact absurd v9 c8
 rw [if_pos c8] at H
 have c8b0 : decide (0 < (t115.length : Int)) = true := decide_eq_true c8
 have c8b1 : decide (0 < t115.length) = true := decide_eq_true (by omega)
 clear c8
 refine neg_first (p := (((rd_T46 t115 0).f0).toList = ([97] : List UInt8))) (fun c9 => ?_) (fun c9 => ?_)
 ·obtain ⟨v1, v2, v3, v4, v5, v6, v7, v8, v9⟩ := V.out; first | exact absurd v1 c9 | exact absurd v2 c9 | exact absurd v3 c9 | exact absurd v4 c9 | exact absurd v5 c9 | exact absurd v6 c9 | exact absurd v7 c9 | exact absurd v8 c9 | exact absurd v9 c9
 rw [if_pos c9] at H
 have c9b0 : (((rd_T46 t115 0).f0).toList == ([97] : List UInt8)) = true := beq_iff_eq.mpr c9
 have c9b1 : (((rd_T46 t115 0).f0).toList != ([97] : List UInt8)) = false := bne_eq_false_iff_eq.mpr c9
 clear c9
 refine neg_first (p := (((rd_T46 t115 0).f1) = 2)) (fun c10 => ?_) (fun c10 => ?_)
 ·obtain ⟨v1, v2, v3, v4, v5, v6, v7, v8, v9⟩ := V.out; first | exact absurd v1 c10 | exact absurd v2 c10 | exact absurd v3 c10 | exact absurd v4 c10 | exact absurd v5 c10 | exact absurd v6 c10 | exact absurd v7 c10 | exact absurd v8 c10 | exact absurd v9 c10
 rw [if_pos c10] at H
 have c10b0 : (((rd_T46 t115 0).f1) == 2) = true := beq_iff_eq.mpr c10
 have c10b1 : (((rd_T46 t115 0).f1) != 2) = false := bne_eq_false_iff_eq.mpr c10
 clear c10
 replace H := Option.bind_eq_some_iff.mp H
 obtain ⟨t122, A110, H⟩ := H
 try dsimp only at H
 have A11 := Aside0.mk A110
 clear A110
 obtain rfl := Option.some.inj H
 go_enter Tryd.func13, Tryd.ntmps13
 go_wp2_with (first | ((with_reducible refine gate_dst (N := 7) rfl ?_); refine Kd.R_lit k53 _ 53 ?hg (N := 7) ?hd (xs := ([(⟨(⟨#[97]⟩ : ByteArray), 1⟩ : S53), (⟨(⟨#[98]⟩ : ByteArray), 2⟩ : S53)] : List (S53))) (inner := [.string (⟨#[97]⟩ : ByteArray), .int .u64 1, .string (⟨#[98]⟩ : ByteArray), .int .u64 2]) (ok := fun _ => True) (okp := fun _ => True) ?hr ?hp (fun _ hk => hk) trivial (Below.refl _ _) (Nat.le_refl _) (by simp) ?_; (case hd => rfl); (case hg => rfl); (case hr => first | (go_simp; done) | (go_simp; rfl)); (case hp => exact (Reps.c2 (show Kd.M k53 _ _ _ (⟨(⟨#[97]⟩ : ByteArray), 1⟩ : S53) [.string (⟨#[97]⟩ : ByteArray), .int .u64 1] from (k53_mkM _ _ _ (⟨(⟨#[97]⟩ : ByteArray), 1⟩ : S53) )) (Reps.c2 (show Kd.M k53 _ _ _ (⟨(⟨#[98]⟩ : ByteArray), 2⟩ : S53) [.string (⟨#[98]⟩ : ByteArray), .int .u64 2] from (k53_mkM _ _ _ (⟨(⟨#[98]⟩ : ByteArray), 2⟩ : S53) )) (Reps.none _ _)))); intro v105 w12 ho13 hb hg_ hnew_; clear hg_ hnew_; (first | rw [← Ny104.out] at ho13 | (simp only [Int.reduceToNat] at ho13; rw [← Ny104.out] at ho13)); have n0_ := Aside0.mk (Kd.R_lower ho13 (below_size (hb_ HB))); have n1_ := Aside0.mk (below_step (hb_ HB) hb); clear HB; have HO106 := n0_; have HB := n1_; clear n0_ n1_; clear hb ho13; obtain ⟨Ao14, co14, eo14⟩ := Kd.R_slice HO106.out; subst eo14) | ((with_reducible refine gate_dst (N := 1) rfl ?_); refine box_event ?hg (N := 1) ?hd (cs := #[.slice none 0 0, .int .i64 0, .string (⟨#[]⟩ : ByteArray), .int .u32 0, .bool false]) (t := 27) ?hr ?_; (case hd => rfl); (case hg => rfl); (case hr => first | (go_simp; done) | (go_simp; rfl)); intro gb107 hg w15 hbox hb; have n0_ := Aside0.mk (Kd.R_below (by (with_reducible repeat (first | apply Kd.R_alloc | apply Kd.R_drewN | apply Kd.R_drew)); exact HO106.out) hb); have n1_ := Aside0.mk (below_step (hb_ HB) hb); have n2_ := Aside0.mk (hbox); have n3_ := Aside0.mk ((by rw [hg]; exact (below_size (hb_ HB)) : w.heap.size ≤ gb107)); have n4_ := Aside0.mk ((by rw [hg]; exact (below_size (hb_ HB)) : w.heap.size ≤ gb107)); clear HO106; clear HB; have HO106 := n0_; have HB := n1_; have BK107 := n2_; have GW107 := n3_; have GE107 := n4_; clear n0_ n1_ n2_ n3_ n4_; clear hb hbox hg; have hcz16_0 : w15.cell? ⟨gb107, 0, none⟩ = some (.slice none 0 0) := (blk_cell BK107.out 0).trans rfl; have hcz16_1 : w15.cell? ⟨gb107, 1, none⟩ = some (.int .i64 0) := (blk_cell BK107.out 1).trans rfl; have hcz16_2 : w15.cell? ⟨gb107, 2, none⟩ = some (.string (⟨#[]⟩ : ByteArray)) := (blk_cell BK107.out 2).trans rfl; have hcz16_3 : w15.cell? ⟨gb107, 3, none⟩ = some (.int .u32 0) := (blk_cell BK107.out 3).trans rfl; have hcz16_4 : w15.cell? ⟨gb107, 4, none⟩ = some (.bool false) := (blk_cell BK107.out 4).trans rfl; have hfz16_0 := blk_frozen BK107.out 0; have hfz16_1 := blk_frozen BK107.out 1; have hfz16_2 := blk_frozen BK107.out 2; have hfz16_3 := blk_frozen BK107.out 3; have hfz16_4 := blk_frozen BK107.out 4) | ((with_reducible refine gate_store (t := 27) (p := 1) rfl ?_); refine store_event (t := 27) (p := 1) (v := ?vo_w17) (w1 := (((((w15.setCell ⟨gb107, 0, none⟩ (.slice Ao14 y104.length co14)).setCell ⟨gb107, 1, none⟩ (.int .i64 1)).setCell ⟨gb107, 2, none⟩ (.string (⟨#[97]⟩ : ByteArray))).setCell ⟨gb107, 3, none⟩ (.int .u32 0)).setCell ⟨gb107, 4, none⟩ (.bool false))) ?hg ?ho ?hn ?hr ?_; (case ho => rfl); (case hg => rfl); (case hn => rfl); (case hr => first | (go_simp; done) | (go_simp; rfl)); intro w17 hw; have n0_ : Aside0 (Kd.R k53 53 w17 w.heap.size (fun _ => True) (.slice Ao14 y104.length co14) y104) := ⟨(by rw [hw]; exact (by (with_reducible repeat (first | apply Kd.R_alloc | apply Kd.R_drewN | apply Kd.R_drew)); exact Kd.R_mono (Kd.R_far (p := ⟨gb107, 4, none⟩) (Kd.R_far (p := ⟨gb107, 3, none⟩) (Kd.R_far (p := ⟨gb107, 2, none⟩) (Kd.R_far (p := ⟨gb107, 1, none⟩) (Kd.R_far (p := ⟨gb107, 0, none⟩) (Kd.R_types HO106.out BK107.out (by decide)) (fun _ hk => hk.2) (.slice Ao14 y104.length co14)) (fun _ hk => hk.2) (.int .i64 1)) (fun _ hk => hk.2) (.string (⟨#[97]⟩ : ByteArray))) (fun _ hk => hk.2) (.int .u32 0)) (fun _ hk => hk.2) (.bool false)) (fun _ hk => trivial)))⟩; have n1_ : Aside0 (w17.heap[gb107]? = some (.cells #[.slice Ao14 y104.length co14, .int .i64 1, .string (⟨#[97]⟩ : ByteArray), .int .u32 0, .bool false] 27 (0, 0))) := ⟨(by rw [hw]; exact (by (with_reducible repeat (first | refine blk_drewN ?_ _ | refine blk_drew ?_ | refine blk_alloc ?_ _)); refine blk_put (cs := #[.slice Ao14 y104.length co14, .int .i64 1, .string (⟨#[97]⟩ : ByteArray), .int .u32 0, .bool false]) ?_ 4 _ rfl; (with_reducible repeat (first | refine blk_drewN ?_ _ | refine blk_drew ?_ | refine blk_alloc ?_ _)); refine blk_put (cs := #[.slice Ao14 y104.length co14, .int .i64 1, .string (⟨#[97]⟩ : ByteArray), .int .u32 0, .bool false]) ?_ 3 _ rfl; (with_reducible repeat (first | refine blk_drewN ?_ _ | refine blk_drew ?_ | refine blk_alloc ?_ _)); refine blk_put (cs := #[.slice Ao14 y104.length co14, .int .i64 1, .string (⟨#[]⟩ : ByteArray), .int .u32 0, .bool false]) ?_ 2 _ rfl; (with_reducible repeat (first | refine blk_drewN ?_ _ | refine blk_drew ?_ | refine blk_alloc ?_ _)); refine blk_put (cs := #[.slice Ao14 y104.length co14, .int .i64 0, .string (⟨#[]⟩ : ByteArray), .int .u32 0, .bool false]) ?_ 1 _ rfl; (with_reducible repeat (first | refine blk_drewN ?_ _ | refine blk_drew ?_ | refine blk_alloc ?_ _)); refine blk_put (cs := #[.slice none 0 0, .int .i64 0, .string (⟨#[]⟩ : ByteArray), .int .u32 0, .bool false]) ?_ 0 _ rfl; (with_reducible repeat (first | refine blk_drewN ?_ _ | refine blk_drew ?_ | refine blk_alloc ?_ _)); exact BK107.out))⟩; have n2_ : Aside0 (Below w.heap.size w w17) := ⟨(by rw [hw]; exact (hb_ HB))⟩; clear hw; clear HO106; clear BK107; clear HB; have HO106 := n0_; have BK107 := n1_; have HB := n2_; clear n0_ n1_ n2_; have hcz18_0 : w17.cell? ⟨gb107, 0, none⟩ = some (.slice Ao14 y104.length co14) := (blk_cell BK107.out 0).trans rfl; have hcz18_1 : w17.cell? ⟨gb107, 1, none⟩ = some (.int .i64 1) := (blk_cell BK107.out 1).trans rfl; have hcz18_2 : w17.cell? ⟨gb107, 2, none⟩ = some (.string (⟨#[97]⟩ : ByteArray)) := (blk_cell BK107.out 2).trans rfl; have hcz18_3 : w17.cell? ⟨gb107, 3, none⟩ = some (.int .u32 0) := (blk_cell BK107.out 3).trans rfl; have hcz18_4 : w17.cell? ⟨gb107, 4, none⟩ = some (.bool false) := (blk_cell BK107.out 4).trans rfl; have hfz18_0 := blk_frozen BK107.out 0; have hfz18_1 := blk_frozen BK107.out 1; have hfz18_2 := blk_frozen BK107.out 2; have hfz18_3 := blk_frozen BK107.out 3; have hfz18_4 := blk_frozen BK107.out 4) | ((with_reducible refine gate_callee (f := 15) rfl ?_); refine goesL_ (some 13) rfl rfl Tryd.func15 (by kernel_rfl) rfl #[.agg #[.slice Ao14 y104.length co14, .int .i64 1, .string (⟨#[97]⟩ : ByteArray), .int .u32 0, .bool false], .agg #[.int .i64 12, .int .i64 0, .string (⟨#[98]⟩ : ByteArray), .int .i64 0, .int .i64 0, .string (⟨#[]⟩ : ByteArray), .bool false, .slice none 0 0, .int .u64 2, .int .u64 0, .int .u64 1, .int .i64 2, .bool false, .int .i64 0]] rfl (by (try simp only [List.map_toArray, List.map_cons, List.map_nil]); first | done | rfl | (simp only [List.length_drop, List.length_take]; rfl)) ?_; (refine (resv_Do.calls k (fun k_ => some k_ = (.slice Ao14 y104.length co14 : Value).ownBlock) _ _ y104 1 (⟨#[97]⟩ : ByteArray) 0 false 12 0 (⟨#[98]⟩ : ByteArray) 0 0 (⟨#[]⟩ : ByteArray) false _ _ ([] : List (S100)) 2 0 1 2 false 0 t108 t111 t112 t113 t114 t115 t118 _ ?side1 ?side2 ?side3 ?side4 A1.out).mono ?_); (case side1 => exact Kd.R_V (Kd.R_tight rfl (Kd.R_types (HO106.out) BK107.out (by decide)))); (case side2 => exact Kd.C_nil _ _); (case side3 => exact Nat.le_refl _); (case side4 => first | ((refine Glob.keep HG.out ?_); (repeat (first | (with_reducible first | exact HB.out | apply below_alloc | apply pw_below_drewN | apply below_drew1 | refine below_set ?_ GE107.out) | exact HB.out)); done) | exact HG.out); rintro e w19 ⟨v109, v116, rfl, ho0, ho1, hb⟩; refine ⟨_, rfl, ?_⟩; have n0_ := Aside0.mk (Kd.R_below (by (with_reducible repeat (first | apply Kd.R_alloc | apply Kd.R_drewN | apply Kd.R_drew)); exact HO106.out) hb); have n1_ := Aside0.mk (Kd.V_lower (Kd.V_mono (ok' := fun k_ => some k_ ≠ (v116 : Value).ownBlock ∧ k_ ≠ gb107) ho0 (fun k_ hk_ => ⟨hk_.2, Or.elim hk_.1 (fun hs_ => ((Kd.R_types (HO106.out) BK107.out (by decide)).1 k_ hs_.symm).2) (fun hn_ => (Kd.freshB (g := gb107) (o := .cells #[.slice Ao14 y104.length co14, .int .i64 1, .string (⟨#[97]⟩ : ByteArray), .int .u32 0, .bool false] 27 (0, 0)) (bk_ BK107) k_ hn_))⟩)) (below_size (hb_ HB))); have n2_ := Aside0.mk (Kd.R_lower (Kd.R_mono (ok' := fun k_ => True) ho1 (fun _ hk_ => trivial)) (below_size (hb_ HB))); have n3_ := Aside0.mk (blk_below (bk_ BK107) hb); have n4_ := Aside0.mk (below_step (hb_ HB) hb); clear HO106; clear BK107; clear HB; have HO106 := n0_; have HO110 := n1_; have HO117 := n2_; have BK107 := n3_; have HB := n4_; clear n0_ n1_ n2_ n3_ n4_; (try clear hb); (try clear hb2); (try clear hk); (try clear hi); (try clear ho0); (try clear ho1)) | ((with_reducible refine gate_dst (N := 2) rfl ?_); refine box_event ?hg (N := 2) ?hd (cs := #[.slice none 0 0, .int .i64 0, .string (⟨#[]⟩ : ByteArray), .int .u32 0, .bool false]) (t := 27) ?hr ?_; (case hd => rfl); (case hg => rfl); (case hr => first | (go_simp; done) | (go_simp; rfl)); intro gb119 hg w20 hbox hb; have n0_ := Aside0.mk (Kd.R_below (by (with_reducible repeat (first | apply Kd.R_alloc | apply Kd.R_drewN | apply Kd.R_drew)); exact HO106.out) hb); have n1_ := Aside0.mk (Kd.V_below (Kd.V_elderB (by (with_reducible repeat (first | apply Kd.V_alloc | apply Kd.V_drewN | apply Kd.V_drew)); exact HO110.out) gb119 (Nat.le_of_eq hg.symm)) hb); have n2_ := Aside0.mk (Kd.R_below (by (with_reducible repeat (first | apply Kd.R_alloc | apply Kd.R_drewN | apply Kd.R_drew)); exact HO117.out) hb); have n3_ := Aside0.mk (blk_below (bk_ BK107) hb); have n4_ := Aside0.mk (below_step (hb_ HB) hb); have n5_ := Aside0.mk (hbox); have n6_ := Aside0.mk ((by rw [hg]; exact (below_size (hb_ HB)) : w.heap.size ≤ gb119)); have n7_ := Aside0.mk ((by rw [hg]; exact (below_size (hb_ HB)) : w.heap.size ≤ gb119)); have n8_ := Aside0.mk ((by rw [hg]; exact Nat.ne_of_lt (blk_lt (g := gb107) (o := .cells #[.slice Ao14 y104.length co14, .int .i64 1, .string (⟨#[97]⟩ : ByteArray), .int .u32 0, .bool false] 27 (0, 0)) (bk_ BK107)) : gb107 ≠ gb119)); have n9_ := Aside0.mk ((by rw [hg]; exact Nat.ne_of_gt (blk_lt (g := gb107) (o := .cells #[.slice Ao14 y104.length co14, .int .i64 1, .string (⟨#[97]⟩ : ByteArray), .int .u32 0, .bool false] 27 (0, 0)) (bk_ BK107)) : gb119 ≠ gb107)); clear HO106; clear HO110; clear HO117; clear BK107; clear HB; have HO106 := n0_; have HO110 := n1_; have HO117 := n2_; have BK107 := n3_; have HB := n4_; have BK119 := n5_; have GW119 := n6_; have GE119 := n7_; have NB107_119 := n8_; have NB119_107 := n9_; clear n0_ n1_ n2_ n3_ n4_ n5_ n6_ n7_ n8_ n9_; clear hb hbox hg; obtain ⟨Ao21, co21, eo21⟩ := Kd.V_slice HO110.out; subst eo21; have hnb22 := NB119_107.out; have hnc22 := NB107_119.out; have hcz23_0 : w20.cell? ⟨gb119, 0, none⟩ = some (.slice none 0 0) := (blk_cell BK119.out 0).trans rfl; have hcz23_1 : w20.cell? ⟨gb119, 1, none⟩ = some (.int .i64 0) := (blk_cell BK119.out 1).trans rfl; have hcz23_2 : w20.cell? ⟨gb119, 2, none⟩ = some (.string (⟨#[]⟩ : ByteArray)) := (blk_cell BK119.out 2).trans rfl; have hcz23_3 : w20.cell? ⟨gb119, 3, none⟩ = some (.int .u32 0) := (blk_cell BK119.out 3).trans rfl; have hcz23_4 : w20.cell? ⟨gb119, 4, none⟩ = some (.bool false) := (blk_cell BK119.out 4).trans rfl; have hfz23_0 := blk_frozen BK119.out 0; have hfz23_1 := blk_frozen BK119.out 1; have hfz23_2 := blk_frozen BK119.out 2; have hfz23_3 := blk_frozen BK119.out 3; have hfz23_4 := blk_frozen BK119.out 4; obtain ⟨Ao24, co24, eo24⟩ := Kd.R_slice HO117.out; subst eo24; have p120 : 0 ≤ (0 : Int) := (by omega); have q120 : 0 < (t115.length : Int) := of_decide_eq_true (by first | (with_reducible assumption) | assumption); obtain ⟨ad120, e120, hx120_0, hx120_1⟩ := at_T46 (Kd.R_reads' HO117.out).2.2 0 p120 q120; cases e120; have qi120 : (0 < t115.length) = True := eq_true (by omega); (try rw [show ((0 : Int)).toNat = 0 from rfl] at hx120_0); (try rw [show 0 * 2 = 0 from rfl] at hx120_0); (try rw [Addr.add_zero'] at hx120_0); (try rw [show ((0 : Int)).toNat = 0 from rfl] at hx120_1); (try rw [show 0 * 2 = 0 from rfl] at hx120_1); (try rw [Addr.add_zero'] at hx120_1); have hn120_0 : ad120.block ≠ gb119 := Kd.own_blk (by first | exact Kd.R_ne HO117.out BK119.out (by decide) | exact (fun e_ => (HO117.out.1 _ e_.symm).2 rfl)); have hn120_1 : ad120.block ≠ gb119 := Kd.own_blk (by first | exact Kd.R_ne HO117.out BK119.out (by decide) | exact (fun e_ => (HO117.out.1 _ e_.symm).2 rfl)); have hn120_2 : ad120.block ≠ gb119 := Kd.own_blk (by first | exact Kd.R_ne HO117.out BK119.out (by decide) | exact (fun e_ => (HO117.out.1 _ e_.symm).2 rfl)); have hn120_3 : ad120.block ≠ gb119 := Kd.own_blk (by first | exact Kd.R_ne HO117.out BK119.out (by decide) | exact (fun e_ => (HO117.out.1 _ e_.symm).2 rfl)); have hn120_4 : ad120.block ≠ gb119 := Kd.own_blk (by first | exact Kd.R_ne HO117.out BK119.out (by decide) | exact (fun e_ => (HO117.out.1 _ e_.symm).2 rfl)); replace hx120_0 := (cell_far (p := ⟨gb119, 0, none⟩) (by first | (rw [add_block]; exact hn120_0) | (show (Addr.add _ _).block ≠ _; rw [add_block]; exact hn120_0) | exact hn120_0) (.slice Ao21 t108.length co21)).trans hx120_0; replace hx120_1 := (cell_far (p := ⟨gb119, 0, none⟩) (by first | (rw [add_block]; exact hn120_0) | (show (Addr.add _ _).block ≠ _; rw [add_block]; exact hn120_0) | exact hn120_0) (.slice Ao21 t108.length co21)).trans hx120_1; replace hx120_0 := (cell_far (p := ⟨gb119, 1, none⟩) (by first | (rw [add_block]; exact hn120_1) | (show (Addr.add _ _).block ≠ _; rw [add_block]; exact hn120_1) | exact hn120_1) (.int .i64 t111)).trans hx120_0; replace hx120_1 := (cell_far (p := ⟨gb119, 1, none⟩) (by first | (rw [add_block]; exact hn120_1) | (show (Addr.add _ _).block ≠ _; rw [add_block]; exact hn120_1) | exact hn120_1) (.int .i64 t111)).trans hx120_1; replace hx120_0 := (cell_far (p := ⟨gb119, 2, none⟩) (by first | (rw [add_block]; exact hn120_2) | (show (Addr.add _ _).block ≠ _; rw [add_block]; exact hn120_2) | exact hn120_2) (.string t112)).trans hx120_0; replace hx120_1 := (cell_far (p := ⟨gb119, 2, none⟩) (by first | (rw [add_block]; exact hn120_2) | (show (Addr.add _ _).block ≠ _; rw [add_block]; exact hn120_2) | exact hn120_2) (.string t112)).trans hx120_1; replace hx120_0 := (cell_far (p := ⟨gb119, 3, none⟩) (by first | (rw [add_block]; exact hn120_3) | (show (Addr.add _ _).block ≠ _; rw [add_block]; exact hn120_3) | exact hn120_3) (.int .u32 t113)).trans hx120_0; replace hx120_1 := (cell_far (p := ⟨gb119, 3, none⟩) (by first | (rw [add_block]; exact hn120_3) | (show (Addr.add _ _).block ≠ _; rw [add_block]; exact hn120_3) | exact hn120_3) (.int .u32 t113)).trans hx120_1; replace hx120_0 := (cell_far (p := ⟨gb119, 4, none⟩) (by first | (rw [add_block]; exact hn120_4) | (show (Addr.add _ _).block ≠ _; rw [add_block]; exact hn120_4) | exact hn120_4) (.bool t114)).trans hx120_0; replace hx120_1 := (cell_far (p := ⟨gb119, 4, none⟩) (by first | (rw [add_block]; exact hn120_4) | (show (Addr.add _ _).block ≠ _; rw [add_block]; exact hn120_4) | exact hn120_4) (.bool t114)).trans hx120_1; clear hn120_0; clear hn120_1; clear hn120_2; clear hn120_3; clear hn120_4; replace p120 := eq_true p120; replace q120 := eq_true q120; have p121 : 0 ≤ (0 : Int) := (by omega); have q121 : 0 < (t115.length : Int) := of_decide_eq_true (by first | (with_reducible assumption) | assumption); obtain ⟨ad121, e121, hx121_0, hx121_1⟩ := at_T46 (Kd.R_reads' HO117.out).2.2 0 p121 q121; obtain rfl : ad120 = ad121 := (by injection e121); have qi121 : (0 < t115.length) = True := eq_true (by omega); (try rw [show ((0 : Int)).toNat = 0 from rfl] at hx121_0); (try rw [show 0 * 2 = 0 from rfl] at hx121_0); (try rw [Addr.add_zero'] at hx121_0); (try rw [show ((0 : Int)).toNat = 0 from rfl] at hx121_1); (try rw [show 0 * 2 = 0 from rfl] at hx121_1); (try rw [Addr.add_zero'] at hx121_1); have hn121_0 : ad120.block ≠ gb119 := Kd.own_blk (by first | exact Kd.R_ne HO117.out BK119.out (by decide) | exact (fun e_ => (HO117.out.1 _ e_.symm).2 rfl)); have hn121_1 : ad120.block ≠ gb119 := Kd.own_blk (by first | exact Kd.R_ne HO117.out BK119.out (by decide) | exact (fun e_ => (HO117.out.1 _ e_.symm).2 rfl)); have hn121_2 : ad120.block ≠ gb119 := Kd.own_blk (by first | exact Kd.R_ne HO117.out BK119.out (by decide) | exact (fun e_ => (HO117.out.1 _ e_.symm).2 rfl)); have hn121_3 : ad120.block ≠ gb119 := Kd.own_blk (by first | exact Kd.R_ne HO117.out BK119.out (by decide) | exact (fun e_ => (HO117.out.1 _ e_.symm).2 rfl)); have hn121_4 : ad120.block ≠ gb119 := Kd.own_blk (by first | exact Kd.R_ne HO117.out BK119.out (by decide) | exact (fun e_ => (HO117.out.1 _ e_.symm).2 rfl)); replace hx121_0 := (cell_far (p := ⟨gb119, 0, none⟩) (by first | (rw [add_block]; exact hn121_0) | (show (Addr.add _ _).block ≠ _; rw [add_block]; exact hn121_0) | exact hn121_0) (.slice Ao21 t108.length co21)).trans hx121_0; replace hx121_1 := (cell_far (p := ⟨gb119, 0, none⟩) (by first | (rw [add_block]; exact hn121_0) | (show (Addr.add _ _).block ≠ _; rw [add_block]; exact hn121_0) | exact hn121_0) (.slice Ao21 t108.length co21)).trans hx121_1; replace hx121_0 := (cell_far (p := ⟨gb119, 1, none⟩) (by first | (rw [add_block]; exact hn121_1) | (show (Addr.add _ _).block ≠ _; rw [add_block]; exact hn121_1) | exact hn121_1) (.int .i64 t111)).trans hx121_0; replace hx121_1 := (cell_far (p := ⟨gb119, 1, none⟩) (by first | (rw [add_block]; exact hn121_1) | (show (Addr.add _ _).block ≠ _; rw [add_block]; exact hn121_1) | exact hn121_1) (.int .i64 t111)).trans hx121_1; replace hx121_0 := (cell_far (p := ⟨gb119, 2, none⟩) (by first | (rw [add_block]; exact hn121_2) | (show (Addr.add _ _).block ≠ _; rw [add_block]; exact hn121_2) | exact hn121_2) (.string t112)).trans hx121_0; replace hx121_1 := (cell_far (p := ⟨gb119, 2, none⟩) (by first | (rw [add_block]; exact hn121_2) | (show (Addr.add _ _).block ≠ _; rw [add_block]; exact hn121_2) | exact hn121_2) (.string t112)).trans hx121_1; replace hx121_0 := (cell_far (p := ⟨gb119, 3, none⟩) (by first | (rw [add_block]; exact hn121_3) | (show (Addr.add _ _).block ≠ _; rw [add_block]; exact hn121_3) | exact hn121_3) (.int .u32 t113)).trans hx121_0; replace hx121_1 := (cell_far (p := ⟨gb119, 3, none⟩) (by first | (rw [add_block]; exact hn121_3) | (show (Addr.add _ _).block ≠ _; rw [add_block]; exact hn121_3) | exact hn121_3) (.int .u32 t113)).trans hx121_1; replace hx121_0 := (cell_far (p := ⟨gb119, 4, none⟩) (by first | (rw [add_block]; exact hn121_4) | (show (Addr.add _ _).block ≠ _; rw [add_block]; exact hn121_4) | exact hn121_4) (.bool t114)).trans hx121_0; replace hx121_1 := (cell_far (p := ⟨gb119, 4, none⟩) (by first | (rw [add_block]; exact hn121_4) | (show (Addr.add _ _).block ≠ _; rw [add_block]; exact hn121_4) | exact hn121_4) (.bool t114)).trans hx121_1; clear hn121_0; clear hn121_1; clear hn121_2; clear hn121_3; clear hn121_4; replace p121 := eq_true p121; replace q121 := eq_true q121; have hcz25_0 : w20.cell? ⟨gb107, 0, none⟩ = some (.slice Ao14 y104.length co14) := (blk_cell BK107.out 0).trans rfl; have hcz25_1 : w20.cell? ⟨gb107, 1, none⟩ = some (.int .i64 1) := (blk_cell BK107.out 1).trans rfl; have hcz25_2 : w20.cell? ⟨gb107, 2, none⟩ = some (.string (⟨#[97]⟩ : ByteArray)) := (blk_cell BK107.out 2).trans rfl; have hcz25_3 : w20.cell? ⟨gb107, 3, none⟩ = some (.int .u32 0) := (blk_cell BK107.out 3).trans rfl; have hcz25_4 : w20.cell? ⟨gb107, 4, none⟩ = some (.bool false) := (blk_cell BK107.out 4).trans rfl; have hfz25_0 := blk_frozen BK107.out 0; have hfz25_1 := blk_frozen BK107.out 1; have hfz25_2 := blk_frozen BK107.out 2; have hfz25_3 := blk_frozen BK107.out 3; have hfz25_4 := blk_frozen BK107.out 4) | (go_at_call 21; (with_reducible refine (resv_Good.calls _ _ y104 1 (⟨#[97]⟩ : ByteArray) 0 false t122 _ ?side1 ?side2 A11.out).mono ?_); (case side1 => refine (Kd.R_reads' (e := 53) (base := w.heap.size) (ok := fun k_ => True) (n := y104.length) (c := co14) ?_).2.2; exact (by (with_reducible repeat (first | apply Kd.R_alloc | apply Kd.R_drewN | apply Kd.R_drew)); exact (Kd.R_mono (Kd.R_far (p := ⟨gb119, 4, none⟩) (Kd.R_far (p := ⟨gb119, 3, none⟩) (Kd.R_far (p := ⟨gb119, 2, none⟩) (Kd.R_far (p := ⟨gb119, 1, none⟩) (Kd.R_far (p := ⟨gb119, 0, none⟩) (Kd.R_types HO106.out BK119.out (by decide)) (fun _ hk => hk.2) (.slice Ao21 t108.length co21)) (fun _ hk => hk.2) (.int .i64 t111)) (fun _ hk => hk.2) (.string t112)) (fun _ hk => hk.2) (.int .u32 t113)) (fun _ hk => hk.2) (.bool t114)) (fun _ h_ => h_.1)))); (case side2 => exact (Kd.R_reads' HO106.out).2.1); rintro e w26 ⟨rfl, hb⟩; have n0_ := Aside0.mk (Kd.R_below (by (with_reducible repeat (first | apply Kd.R_alloc | apply Kd.R_drewN | apply Kd.R_drew)); exact (Kd.R_mono (Kd.R_far (p := ⟨gb119, 4, none⟩) (Kd.R_far (p := ⟨gb119, 3, none⟩) (Kd.R_far (p := ⟨gb119, 2, none⟩) (Kd.R_far (p := ⟨gb119, 1, none⟩) (Kd.R_far (p := ⟨gb119, 0, none⟩) (Kd.R_types HO106.out BK119.out (by decide)) (fun _ hk => hk.2) (.slice Ao21 t108.length co21)) (fun _ hk => hk.2) (.int .i64 t111)) (fun _ hk => hk.2) (.string t112)) (fun _ hk => hk.2) (.int .u32 t113)) (fun _ hk => hk.2) (.bool t114)) (fun _ h_ => h_.1))) hb); have n1_ := Aside0.mk (Kd.V_below (by (with_reducible repeat (first | apply Kd.V_alloc | apply Kd.V_drewN | apply Kd.V_drew)); exact (Kd.V_mono (Kd.V_far (p := ⟨gb119, 4, none⟩) (Kd.V_far (p := ⟨gb119, 3, none⟩) (Kd.V_far (p := ⟨gb119, 2, none⟩) (Kd.V_far (p := ⟨gb119, 1, none⟩) (Kd.V_far (p := ⟨gb119, 0, none⟩) (Kd.V_mono HO110.out (fun k_ hk => (⟨hk, hk.2⟩ : _ ∧ k_ ≠ gb119))) (fun _ hk => hk.2) (.slice Ao21 t108.length co21)) (fun _ hk => hk.2) (.int .i64 t111)) (fun _ hk => hk.2) (.string t112)) (fun _ hk => hk.2) (.int .u32 t113)) (fun _ hk => hk.2) (.bool t114)) (fun _ h_ => h_.1))) hb); have n2_ := Aside0.mk (Kd.R_below (by (with_reducible repeat (first | apply Kd.R_alloc | apply Kd.R_drewN | apply Kd.R_drew)); exact (Kd.R_mono (Kd.R_far (p := ⟨gb119, 4, none⟩) (Kd.R_far (p := ⟨gb119, 3, none⟩) (Kd.R_far (p := ⟨gb119, 2, none⟩) (Kd.R_far (p := ⟨gb119, 1, none⟩) (Kd.R_far (p := ⟨gb119, 0, none⟩) (Kd.R_types HO117.out BK119.out (by decide)) (fun _ hk => hk.2) (.slice Ao21 t108.length co21)) (fun _ hk => hk.2) (.int .i64 t111)) (fun _ hk => hk.2) (.string t112)) (fun _ hk => hk.2) (.int .u32 t113)) (fun _ hk => hk.2) (.bool t114)) (fun _ h_ => h_.1))) hb); have n3_ := Aside0.mk (blk_below (g := gb107) (o := .cells #[.slice Ao14 y104.length co14, .int .i64 1, .string (⟨#[97]⟩ : ByteArray), .int .u32 0, .bool false] 27 (0, 0)) (by (with_reducible repeat (first | refine blk_drewN ?_ _ | refine blk_drew ?_ | refine blk_alloc ?_ _ | refine blk_far ?_ NB107_119.out _)); exact BK107.out) hb); have n4_ := Aside0.mk (blk_below (g := gb119) (o := .cells #[.slice Ao21 t108.length co21, .int .i64 t111, .string t112, .int .u32 t113, .bool t114] 27 (0, 0)) (by (with_reducible repeat (first | refine blk_drewN ?_ _ | refine blk_drew ?_ | refine blk_alloc ?_ _)); refine blk_put (cs := #[.slice Ao21 t108.length co21, .int .i64 t111, .string t112, .int .u32 t113, .bool false]) ?_ 4 _ rfl; (with_reducible repeat (first | refine blk_drewN ?_ _ | refine blk_drew ?_ | refine blk_alloc ?_ _)); refine blk_put (cs := #[.slice Ao21 t108.length co21, .int .i64 t111, .string t112, .int .u32 0, .bool false]) ?_ 3 _ rfl; (with_reducible repeat (first | refine blk_drewN ?_ _ | refine blk_drew ?_ | refine blk_alloc ?_ _)); refine blk_put (cs := #[.slice Ao21 t108.length co21, .int .i64 t111, .string (⟨#[]⟩ : ByteArray), .int .u32 0, .bool false]) ?_ 2 _ rfl; (with_reducible repeat (first | refine blk_drewN ?_ _ | refine blk_drew ?_ | refine blk_alloc ?_ _)); refine blk_put (cs := #[.slice Ao21 t108.length co21, .int .i64 0, .string (⟨#[]⟩ : ByteArray), .int .u32 0, .bool false]) ?_ 1 _ rfl; (with_reducible repeat (first | refine blk_drewN ?_ _ | refine blk_drew ?_ | refine blk_alloc ?_ _)); refine blk_put (cs := #[.slice none 0 0, .int .i64 0, .string (⟨#[]⟩ : ByteArray), .int .u32 0, .bool false]) ?_ 0 _ rfl; (with_reducible repeat (first | refine blk_drewN ?_ _ | refine blk_drew ?_ | refine blk_alloc ?_ _)); exact BK119.out) hb); have n5_ := Aside0.mk (below_step (hb_ HB) hb); clear HO106; clear HO110; clear HO117; clear BK107; clear BK119; clear HB; have HO106 := n0_; have HO110 := n1_; have HO117 := n2_; have BK107 := n3_; have BK119 := n4_; have HB := n5_; clear n0_ n1_ n2_ n3_ n4_ n5_; (try clear hb); (try clear hb2); (try clear hk); (try clear hi)))
 go_ret
 exact ⟨by first | rfl | (simp [errW_none, errW_some] <;> rfl) | (simp [*, errW_none, errW_some] <;> rfl) | (simp [bt, *]; done) | (unfold bt; simp [*]; done), by repeat (first | (with_reducible first | exact HB.out | apply below_alloc | apply pw_below_drewN | apply below_drew1 | refine below_set ?_ GE107.out | refine below_set ?_ GE119.out) | exact HB.out)⟩
end Go.Proofs.YtjogkfcjlljjcaaDoor.P
namespace Go.Proofs.YtjogkfcjlljjcaaDoor.Rk
open Go.ChangeShapes Go.WideShapes Go.RowKit Go.Proofs.YtjogkfcjlljjcaaDoorW.PrintWords
variable {P : Program}
def Opens (P : Program) (t : TypeId) {α : Type} (d : Kd α) (Q : α → Prop) : Prop :=
  ∀ (H : Type) (enc : TypeId × Value → H) (w : World) (base : Nat) (spare : Nat → Bool) (held : Bool) (fuel : Nat) (cs : List Value) (y : DataW H × List MemPlace),
    DataW.trod enc P w base spare held fuel t cs = some y → ∃ x, d.K w x cs ∧ Q x
theorem opens_int {t : TypeId} {k : IntKind} (ht : P.underlying t = some (.int k)) : Opens P t (Kd.int k) (fun n => (Lit.int k n).wf = true) := by
  intro H enc w base spare held fuel cs y h
  obtain ⟨n, rfl, _, hw⟩ := DataW.trod_int ht h
  exact ⟨n, rfl, hw⟩
theorem opens_bool {t : TypeId} (ht : P.underlying t = some .bool) : Opens P t Kd.bool (fun _ => True) := by
  intro H enc w base spare held fuel cs y h
  obtain ⟨n, rfl, _⟩ := DataW.trod_bool ht h
  exact ⟨n, rfl, trivial⟩
theorem opens_string {t : TypeId} (ht : P.underlying t = some .string) : Opens P t Kd.string (fun s => s.size ≤ 9223372036854775807) := by
  intro H enc w base spare held fuel cs y h
  obtain ⟨n, rfl, _, hs⟩ := DataW.trod_string ht h
  exact ⟨n, rfl, hs⟩
theorem add_add (a : Addr) (m n : Nat) : (a.add m).add n = a.add (m + n) := by
  unfold Addr.add
  by_cases hn : n = 0
  · simp [hn]
  · by_cases hm : m = 0
    · simp [hm]
    · simp [hm, hn]
      omega
theorem mapM_at {α β : Type} {f : α → Option β} : ∀ {l : List α} {r : List β}, l.mapM f = some r → ∀ (i : Nat) (a : α), l[i]? = some a → ∃ b, r[i]? = some b ∧ f a = some b
  | [], _, _, i, a, ha => by simp at ha
  | x :: l, r, h, i, a, ha => by
    simp only [List.mapM_cons, Option.bind_eq_bind, Option.bind_eq_some_iff, Option.pure_def, Option.some.injEq] at h
    obtain ⟨b, hb, r', hr', rfl⟩ := h
    cases i with
    | zero =>
      simp only [List.getElem?_cons_zero, Option.some.injEq] at ha
      subst ha
      exact ⟨b, rfl, hb⟩
    | succ i => exact mapM_at hr' i a (by simpa using ha)
theorem mapM_length {α β : Type} {f : α → Option β} : ∀ {l : List α} {r : List β}, l.mapM f = some r → r.length = l.length
  | [], r, h => by simp at h; subst h; rfl
  | x :: l, r, h => by
    simp only [List.mapM_cons, Option.bind_eq_bind, Option.bind_eq_some_iff, Option.pure_def, Option.some.injEq] at h
    obtain ⟨b, hb, r', hr', rfl⟩ := h
    simp [mapM_length hr']
theorem cells_get {w : World} {base : Nat} {a : Addr} {n : Nat} {cs : List Value} (h : w.cells? base a n = some cs) : cs.length = n ∧ ∀ i u, cs[i]? = some u → w.cell? (a.add i) = some u := by
  unfold World.cells? at h
  split at h
  · have hl := mapM_length h
    simp at hl
    refine ⟨hl, fun i u hu => ?_⟩
    have hi : i < n := by
      have := (List.getElem?_eq_some_iff.mp hu).1
      omega
    obtain ⟨b, hb, hf⟩ := mapM_at h i i (by simp [hi])
    rw [hu] at hb
    cases hb
    exact hf
  · cases h
theorem build_list {α : Type} {p : Nat → α → Prop} : ∀ n, (∀ i, i < n → ∃ x, p i x) → ∃ l : List α, l.length = n ∧ ∀ i x, l[i]? = some x → p i x
  | 0, _ => ⟨[], rfl, by simp⟩
  | n + 1, h => by
    obtain ⟨l, hl, hp⟩ := build_list n (fun i hi => h i (by omega))
    obtain ⟨x, hx⟩ := h n (by omega)
    refine ⟨l ++ [x], by simp [hl], fun i y hy => ?_⟩
    by_cases hi : i < n
    · rw [List.getElem?_append_left (by omega)] at hy
      exact hp i y hy
    · have : i = n := by
        have := (List.getElem?_eq_some_iff.mp hy).1
        simp at this
        omega
      subst this
      rw [List.getElem?_append_right (by omega)] at hy
      simp [hl] at hy
      subst hy
      exact hx
theorem opens_slice {t e : TypeId} {α : Type} {d : Kd α} {Q : α → Prop} (ht : P.underlying t = some (.slice e)) (hc : P.cellsOf e = d.sz) (ho : Opens P e d Q) :
    Opens P t (Kd.slice e d) (fun l => l.length ≤ 9223372036854775807 ∧ ∀ x ∈ l, Q x) := by
  intro H enc w base spare held fuel cs y h
  rcases DataW.trod_slice ht h with ⟨rfl, _⟩ | ⟨a, len, cap, elems, rest, n, _, rfl, _, hb, hl, hm, hlen, hel, _, _⟩
  · exact ⟨[], ⟨none, 0, rfl, Nat.le_refl _, rfl, by simp, fun h => absurd h (by simp)⟩, by simp, by simp⟩
  · have hx : ∀ i, i < len → ∃ x, (∃ c, c.length = d.sz ∧ d.K w x c ∧ ∀ j u, c[j]? = some u → w.cell? (a.add (i * d.sz + j)) = some u) ∧ Q x := by
      intro i hi
      have h1 := hel i hi
      rw [List.getElem?_eq_getElem (by omega)] at h1
      obtain ⟨cs', h3, h4⟩ := Option.bind_eq_some_iff.mp h1
      obtain ⟨x, h5, h6⟩ := ho _ _ _ _ _ _ _ _ _ h4
      obtain ⟨h7, h8⟩ := cells_get h3
      refine ⟨x, ⟨cs', h7.trans hc, h5, fun j u hu => ?_⟩, h6⟩
      have := h8 j u hu
      rw [add_add, hc] at this
      exact this
    obtain ⟨l, hll, hlp⟩ := build_list len hx
    have hm' : cap ≤ 9223372036854775807 := hm
    refine ⟨l, ⟨some a, cap, by rw [hll], by omega, rfl, by omega, fun _ => ⟨a, rfl, fun j p hp => (hlp j p hp).1⟩⟩, by omega, fun x hxl => ?_⟩
    obtain ⟨i, hi⟩ := List.getElem?_of_mem hxl
    exact (hlp i x hi).2
def Fits (P : Program) (l : List (TypeId × Nat)) (off : Nat) {α : Type} (d : Kd α) (Q : α → Prop) : Prop :=
  ∀ (H : Type) (enc : TypeId × Value → H) (w : World) (base : Nat) (spare : Nat → Bool) (held : Bool) (n : Nat) (cs : List Value), cs.length = off + d.sz →
    (∀ f, f ∈ l → ∃ y, DataW.trod enc P w base spare held n f.1 ((cs.drop f.2).take (P.cellsOf f.1)) = some y) → ∃ x, d.K w x (cs.drop off) ∧ Q x
theorem fits_one {t : TypeId} {off : Nat} {α : Type} {d : Kd α} {Q : α → Prop} (ho : Opens P t d Q) (hc : P.cellsOf t = d.sz) : Fits P [(t, off)] off d Q := by
  intro H enc w base spare held n cs hl h
  obtain ⟨y, hy⟩ := h (t, off) (by simp)
  rw [hc, List.take_of_length_le (by simp; omega)] at hy
  exact ho _ _ _ _ _ _ _ _ _ hy
theorem fits_cons {t : TypeId} {off : Nat} {l : List (TypeId × Nat)} {α β : Type} {a : Kd α} {b : Kd β} {Qa : α → Prop} {Qb : β → Prop} (ho : Opens P t a Qa) (hc : P.cellsOf t = a.sz) (hr : Fits P l (off + a.sz) b Qb) :
    Fits P ((t, off) :: l) off (Kd.pair a b) (fun x => Qa x.1 ∧ Qb x.2) := by
  intro H enc w base spare held n cs hl h
  obtain ⟨y, hy⟩ := h (t, off) (by simp)
  rw [hc] at hy
  obtain ⟨x, hx, qx⟩ := ho _ _ _ _ _ _ _ _ _ hy
  have hl' : cs.length = off + (a.sz + b.sz) := hl
  obtain ⟨z, hz, qz⟩ := hr _ enc w base spare held n cs (by omega) (fun f hf => h f (by simp [hf]))
  refine ⟨(x, z), ⟨_, _, ?_, hx, hz⟩, qx, qz⟩
  rw [← List.drop_drop, List.take_append_drop]
theorem opens_struct {t : TypeId} {fs : Array Field} {l : List (TypeId × Nat)} {α : Type} {d : Kd α} {Q : α → Prop} (ht : P.underlying t = some (.struct fs)) (hl : fs.toList.map (fun f => (f.type, f.offset)) = l) (hc : P.cellsOf t = d.sz)
    (h : Fits P l 0 d Q) : Opens P t d Q := by
  intro H enc w base spare held fuel cs y hy
  obtain ⟨xs, n, _, _, hlen, hxl, hf⟩ := DataW.trod_struct ht hy
  subst hl
  obtain ⟨x, hx, qx⟩ := h _ enc w base spare held n cs (by omega) (fun f hf' => by
    obtain ⟨g, hg, rfl⟩ := List.mem_map.mp hf'
    obtain ⟨i, hi⟩ := List.getElem?_of_mem hg
    rw [Array.getElem?_toList] at hi
    have h1 := hf i g hi
    have h2 : i < xs.length := by
      rw [hxl]
      exact (Array.getElem?_eq_some_iff.mp hi).1
    exact ⟨xs[i], by rw [h1]; exact List.getElem?_eq_getElem h2⟩)
  exact ⟨x, by simpa using hx, qx⟩
theorem opens_iso {t : TypeId} {α β : Type} {d : Kd α} {Q : α → Prop} {f : β → α} (g : α → β) (hg : ∀ x, f (g x) = x) (h : Opens P t d Q) : Opens P t (Kd.iso d f) (fun y => Q (f y)) := by
  intro H enc w base spare held fuel cs y hy
  obtain ⟨x, hx, qx⟩ := h _ _ _ _ _ _ _ _ _ hy
  refine ⟨g x, ?_, ?_⟩
  · show d.K w (f (g x)) cs
    rw [hg]
    exact hx
  · show Q (f (g x))
    rw [hg]
    exact qx
theorem arg {t : TypeId} {α : Type} {d : Kd α} {Q : α → Prop} (ho : Opens P t d Q) {H : Type} {enc : TypeId × Value → H} {W : World} {spare : Nat → Bool} {held : Bool} {v : Value} {y : DataW H} {p : List MemPlace}
    (h : DataW.Trod enc P W 0 spare held t v y p) : ∃ x, d.K W x v.cells.toList ∧ Q x := by
  obtain ⟨fuel, hf⟩ := h
  exact ho _ _ _ _ _ _ _ _ _ hf
theorem lt_of {t : TypeId} {H : Type} {enc : TypeId × Value → H} {W : World} {spare : Nat → Bool} {held : Bool} {v : Value} {y : DataW H} {p : List MemPlace}
    (h : DataW.Trod enc P W 0 spare held t v y p) : ∀ x ∈ p, x.block < W.heap.size := by
  obtain ⟨m, hm⟩ := h
  exact DataW.trod_lt m _ _ _ hm
theorem agg_of {cs : Array Value} {l : List Value} (h : (Value.agg cs).cells.toList = l) : cs = l.toArray := by
  subst h
  simp [Value.cells]
theorem laid_mem {W : World} {name : String} {d : DataW Unit} : ∀ {l : List (String × DataW Unit)} {ps : List MemPlace}, DataW.LaidVars P W l ps → (name, d) ∈ l →
    ∃ g t cs fuel p, P.globalNamed name = some g ∧ (P.globals[g]?).map (·.type) = some t ∧ W.var? P name = some cs ∧ DataW.trod (fun _ => ()) P W 0 (fun _ => true) false fuel t cs.toList = some (d, p)
  | [], _, _, h => by cases h
  | x :: l, ps, h, hm => by
    obtain ⟨n, d0⟩ := x
    obtain ⟨g, t, cs, fuel, p, q, h1, h2, h3, h4, h5, _⟩ := h
    rcases List.mem_cons.mp hm with e | e
    · cases e
      exact ⟨g, t, cs, fuel, p, h1, h2, h3, h4⟩
    · exact laid_mem h5 e
theorem tab_cells {W : World} {name : String} {k : IntKind} {zs : List Int} {l : List (String × DataW Unit)} {g : Nat} {t e : TypeId} {n : Nat}
    (h : laidMet P l W) (hm : (name, Lib.tabData k zs) ∈ l) (hg : P.globalNamed name = some g) (hty : (P.globals[g]?).map (·.type) = some t) (ht : P.underlying t = some (.array n e)) (he : P.underlying e = some (.int k)) (hce : P.cellsOf e = 1) (hct : P.cellsOf t = n) :
    ∀ i, i < zs.length → W.cell? ⟨g, i, none⟩ = some (.int k (zs.getD i 0)) := by
  obtain ⟨ps, hv, _⟩ := h
  obtain ⟨g', t', cs, fuel, p, hg', ht', hvar, hd⟩ := laid_mem hv hm
  obtain rfl := Option.some.inj (hg.symm.trans hg')
  obtain rfl := Option.some.inj (hty.symm.trans ht')
  have e1 := Lib.cells_of_tab ht he hce hct hd
  have T : Lib.TabIs P W name k zs := by
    unfold Lib.TabIs
    rw [hvar, ← e1]
  exact fun i hi => T.cell hg i hi
end Go.Proofs.YtjogkfcjlljjcaaDoor.Rk
namespace Go.Proofs.YtjogkfcjlljjcaaDoor.P
open Go.RowKit Go.Proofs.YtjogkfcjlljjcaaDoorW.PrintWords
def Q53 (x : S53) : Prop := x.f0.size ≤ 9223372036854775807 ∧ (Lit.int .u64 x.f1).wf = true
theorem o53 : Rk.Opens Tryd.prog 53 k53 Q53 :=
  Rk.opens_iso (fun p => ⟨p.1, p.2⟩) (fun _ => rfl) (Rk.opens_struct Tryd.underlying53 (l := [(9, 0), (29, 1)]) (by kernel_rfl) (by kernel_rfl) (Rk.fits_cons (Rk.opens_string Tryd.underlying9) (by kernel_rfl) (Rk.fits_one (Rk.opens_int Tryd.underlying29) (by kernel_rfl))))
def Q24 (x : S24) : Prop := (Lit.int .i64 x.f0).wf = true ∧ x.f1.size ≤ 9223372036854775807
theorem o24 : Rk.Opens Tryd.prog 24 k24 Q24 :=
  Rk.opens_iso (fun p => ⟨p.1, p.2⟩) (fun _ => rfl) (Rk.opens_struct Tryd.underlying24 (l := [(3, 0), (9, 1)]) (by kernel_rfl) (by kernel_rfl) (Rk.fits_cons (Rk.opens_int Tryd.underlying3) (by kernel_rfl) (Rk.fits_one (Rk.opens_string Tryd.underlying9) (by kernel_rfl))))
def Q27 (x : S27) : Prop := (x.f0.length ≤ 9223372036854775807 ∧ ∀ y0 ∈ x.f0, Q53 y0) ∧ Q24 x.f1 ∧ (Lit.int .u32 x.f2).wf = true ∧ True
theorem o27 : Rk.Opens Tryd.prog 27 k27 Q27 :=
  Rk.opens_iso (fun p => ⟨p.1, p.2.1, p.2.2.1, p.2.2.2⟩) (fun _ => rfl) (Rk.opens_struct Tryd.underlying27 (l := [(22, 0), (24, 1), (25, 3), (4, 4)]) (by kernel_rfl) (by kernel_rfl) (Rk.fits_cons (Rk.opens_slice Tryd.underlying22 (by kernel_rfl) o53) (by kernel_rfl) (Rk.fits_cons o24 (by kernel_rfl) (Rk.fits_cons (Rk.opens_int Tryd.underlying25) (by kernel_rfl) (Rk.fits_one (Rk.opens_bool Tryd.underlying4) (by kernel_rfl))))))
end Go.Proofs.YtjogkfcjlljjcaaDoor.P
