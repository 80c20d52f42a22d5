-- written by this session's patched copy of the printer (wip/tools/patch_print.py); Lean checks it
import Derived.Test.YtmpicpenbhdbhaaDoorPx0
import Derived.Test.YtmpicpenbhdbhaaDoorPx1
import Derived.Test.YtmpicpenbhdbhaaDoorPx3
import Derived.Test.YtmpicpenbhdbhaaDoorPx4
import Derived.Test.YtmpicpenbhdbhaaDoorPx5
import Derived.Test.YtmpicpenbhdbhaaDoorPx9
import Derived.Test.YtmpicpenbhdbhaaDoorPx10
namespace Go.Proofs.YtmpicpenbhdbhaaDoor.P
open Go.RowKit Go.Proofs.YtmpicpenbhdbhaaDoorW.PrintWords Go.Proofs.YtmpicpenbhdbhaaDoorW.PrintLast Go.Proofs.YtmpicpenbhdbhaaDoorW.PrintMore
attribute [local go_sem] max2_int min2_int max_two min_two max_three min_three max_four min_four   -- for this text's walks alone
set_option linter.unusedVariables false
set_option linter.unusedSimpArgs false
set_option linter.unnecessarySimpa false

/-! ### headgatelaw12_ImageDecodes: function 4 -/
def headgatelaw12_ImageDecodes.f (k : Nat) (a0 : ByteArray) : Option (Bool) := if (a0.size : Int) > 5000 then ((headgatelaw12_wakes.f k).bind fun t241 => (some t241)) else ((image_Decode.f k a0).bind fun bt242 => ((headgateref12_Decode.f k a0).bind fun bt251 => ((headgatekeep_Tables.f k bt242.1 bt242.2.1 bt242.2.2.1 bt242.2.2.2.1 bt242.2.2.2.2.1 bt251.1 bt251.2.1 bt251.2.2.1 bt251.2.2.2.1 bt251.2.2.2.2.1).bind fun t260 => (if t260 = true then (if bt242.2.2.2.2.2 = bt251.2.2.2.2.2 then ((headgatelaw12_wakes.f k).bind fun t261 => (some t261)) else (some false)) else (some false)))))
theorem headgatelaw12_ImageDecodes.mono : ∀ a0 k, LeO (headgatelaw12_ImageDecodes.f k a0) (headgatelaw12_ImageDecodes.f (k + 1) a0) := by
 intro a0 k
 unfold headgatelaw12_ImageDecodes.f
 repeat' first
   | (with_reducible exact headgatekeep_Tables.mono _ _ _ _ _ _ _ _ _ _ _)
   | (with_reducible exact headgatelaw12_wakes.mono _)
   | (with_reducible exact headgateref12_Decode.mono _ _)
   | (with_reducible exact image_Decode.mono _ _)
   | (with_reducible exact LeO.refl _)
   | (with_reducible exact LeO.none _)
   | (with_reducible refine LeO.ite ?_ ?_)
   | (with_reducible refine LeO.bind ?_ (fun _ => ?_))
   | exact headgatekeep_Tables.mono _ _ _ _ _ _ _ _ _ _ _
   | exact headgatelaw12_wakes.mono _
   | exact headgateref12_Decode.mono _ _
   | exact image_Decode.mono _ _
   | exact LeO.none _
   | refine LeO.ite ?_ ?_
   | refine LeO.bind ?_ (fun _ => ?_)
set_option maxHeartbeats 8000000 in
set_option maxRecDepth 100000 in
theorem headgatelaw12_ImageDecodes.calls (k : Nat) (a0 : ByteArray) (r : Bool) (w : World) (hG : Glob w) (hT : r = true) (h : headgatelaw12_ImageDecodes.f k a0 = some r) :
  Calls Tryd.prog 4 #[.string a0] w fun e w' => e = .returned (.bool r) ∧ Below w.heap.size w w' := by
 have hu27 := Tryd.underlying27
 have HT0 := Aside0.mk hT
 clear hT
 have HG := Aside0.mk hG
 clear hG
 have HB := Aside0.mk (Below.refl w.heap.size w)
 have H : (if (a0.size : Int) > 5000 then ((headgatelaw12_wakes.f k).bind fun t241 => (some t241)) else ((image_Decode.f k a0).bind fun bt242 => ((headgateref12_Decode.f k a0).bind fun bt251 => ((headgatekeep_Tables.f k bt242.1 bt242.2.1 bt242.2.2.1 bt242.2.2.2.1 bt242.2.2.2.2.1 bt251.1 bt251.2.1 bt251.2.2.1 bt251.2.2.2.1 bt251.2.2.2.2.1).bind fun t260 => (if t260 = true then (if bt242.2.2.2.2.2 = bt251.2.2.2.2.2 then ((headgatelaw12_wakes.f k).bind fun t261 => (some t261)) else (some false)) else (some false)))))) = some r := h
 clear h
 by_cases c2 : (a0.size : Int) > 5000
 ·rw [if_pos c2] at H
  have c2b0 : decide (5000 < (a0.size : Int)) = true := decide_eq_true c2
  have c2b1 : decide (5000 < a0.size) = true := decide_eq_true (by omega)
  clear c2
  replace H := Option.bind_eq_some_iff.mp H
  obtain ⟨t241, A30, H⟩ := H
  try dsimp only at H
  have A3 := Aside0.mk A30
  clear A30
  obtain rfl := Option.some.inj H
  go_enter Tryd.func4, Tryd.ntmps4
  go_wp2_with (first | ((with_reducible refine gate_callee (f := 9) rfl ?_); refine goesL_ (some 10) rfl rfl Tryd.func9 (by kernel_rfl) rfl #[] rfl (by (try simp only [List.map_toArray, List.map_cons, List.map_nil]); first | done | rfl | (simp only [List.length_drop, List.length_take]; rfl)) ?_; (with_reducible refine (headgatelaw12_wakes.calls k  t241 _ ?side1 A3.out).mono ?_); (case side1 => first | ((refine Glob.keep HG.out ?_); (repeat (first | (with_reducible first | exact HB.out | apply below_alloc | apply pw_below_drewN | apply below_drew1) | exact HB.out)); done) | exact HG.out); rintro e w4 ⟨rfl, hb⟩; refine ⟨_, rfl, ?_⟩; have n0_ := Aside0.mk (below_step (hb_ HB) hb); clear HB; have HB := n0_; clear n0_; (try clear hb); (try clear hb2); (try clear hk); (try clear hi)))
  go_ret
  exact ⟨by first | rfl | (simp [errW_none, errW_some] <;> rfl) | (simp [*, errW_none, errW_some] <;> rfl) | (simp [bt, *]; done) | (unfold bt; simp [*]; done), by repeat (first | (with_reducible first | exact HB.out | apply below_alloc | apply pw_below_drewN | apply below_drew1) | exact HB.out)⟩
 rw [if_neg c2] at H
 have c2b0 : decide (5000 < (a0.size : Int)) = false := decide_eq_false c2
 have c2b1 : decide (5000 < a0.size) = false := decide_eq_false (by omega)
 clear c2
 replace H := Option.bind_eq_some_iff.mp H
 obtain ⟨⟨t242, t245, t246, t247, t248, t249⟩, A50, H⟩ := H
 try dsimp only at H
 have A5 := Aside0.mk A50
 clear A50
 replace H := Option.bind_eq_some_iff.mp H
 obtain ⟨⟨t251, t254, t255, t256, t257, t258⟩, A60, H⟩ := H
 try dsimp only at H
 have A6 := Aside0.mk A60
 clear A60
 replace H := Option.bind_eq_some_iff.mp H
 obtain ⟨t260, A70, H⟩ := H
 try dsimp only at H
 have A7 := Aside0.mk A70
 clear A70
 refine neg_first (p := (t260 = true)) (fun c8 => ?_) (fun c8 => ?_)
 ·replace c8 := Bool.eq_false_iff.mpr c8
  subst c8
  have H1 := H
  rw [if_neg (show ¬ (false = true) by decide)] at H1
  clear H
  have H := H1
  clear H1
  exact absurd ((Option.some.inj H).trans HT0.out) (by decide)

 subst c8
 have H1 := H
 rw [if_pos rfl] at H1
 clear H
 have H := H1
 clear H1
 refine neg_first (p := (t249 = t258)) (fun c9 => ?_) (fun c9 => ?_)
 ·rw [if_neg c9] at H
  have c9b0 : (t249 == t258) = false := beq_eq_false_iff_ne.mpr c9
  have c9b1 : (t249 != t258) = true := bne_iff_ne.mpr c9
  exact absurd ((Option.some.inj H).trans HT0.out) (by decide)
 rw [if_pos c9] at H
 have c9b0 : (t249 == t258) = true := beq_iff_eq.mpr c9
 have c9b1 : (t249 != t258) = false := bne_eq_false_iff_eq.mpr c9
 clear c9
 replace H := Option.bind_eq_some_iff.mp H
 obtain ⟨t261, A100, H⟩ := H
 try dsimp only at H
 have A10 := Aside0.mk A100
 clear A100
 obtain rfl := Option.some.inj H
 go_enter Tryd.func4, Tryd.ntmps4
 go_wp2_with (first | ((with_reducible refine gate_callee (f := 14) rfl ?_); refine goesL_ (some 13) rfl rfl Tryd.func14 (by kernel_rfl) rfl #[.string a0] rfl (by (try simp only [List.map_toArray, List.map_cons, List.map_nil]); first | done | rfl | (simp only [List.length_drop, List.length_take]; rfl)) ?_; (with_reducible refine (image_Decode.calls k a0 t242 t245 t246 t247 t248 t249 _ ?side1 A5.out).mono ?_); (case side1 => first | ((refine Glob.keep HG.out ?_); (repeat (first | (with_reducible first | exact HB.out | apply below_alloc | apply pw_below_drewN | apply below_drew1) | exact HB.out)); done) | exact HG.out); rintro e w11 ⟨v243, rfl, ho0, hb⟩; refine ⟨_, rfl, ?_⟩; have n0_ := Aside0.mk (Kd.R_lower ho0 (below_size (hb_ HB))); have n1_ := Aside0.mk (below_step (hb_ HB) hb); clear HB; have HO244 := n0_; have HB := n1_; clear n0_ n1_; (try clear hb); (try clear hb2); (try clear hk); (try clear hi); (try clear ho0)) | ((with_reducible refine gate_dst (N := 3) rfl ?_); refine box_event ?hg (N := 3) ?hd (cs := #[.slice none 0 0, .int .i64 0, .string (⟨#[]⟩ : ByteArray), .int .u32 0, .bool false]) (t := 27) ?hr ?_; (case hd => rfl); (case hg => rfl); (case hr => first | (go_simp; done) | (go_simp; rfl)); intro gb250 hg w12 hbox hb; have n0_ := Aside0.mk (Kd.R_below (by (with_reducible repeat (first | apply Kd.R_alloc | apply Kd.R_drewN | apply Kd.R_drew)); exact HO244.out) hb); have n1_ := Aside0.mk (below_step (hb_ HB) hb); have n2_ := Aside0.mk (hbox); have n3_ := Aside0.mk ((by rw [hg]; exact (below_size (hb_ HB)) : w.heap.size ≤ gb250)); have n4_ := Aside0.mk ((by rw [hg]; exact (below_size (hb_ HB)) : w.heap.size ≤ gb250)); clear HO244; clear HB; have HO244 := n0_; have HB := n1_; have BK250 := n2_; have GW250 := n3_; have GE250 := n4_; clear n0_ n1_ n2_ n3_ n4_; clear hb hbox hg; obtain ⟨Ao13, co13, eo13⟩ := Kd.R_slice HO244.out; subst eo13; have hcz14_0 : w12.cell? ⟨gb250, 0, none⟩ = some (.slice none 0 0) := (blk_cell BK250.out 0).trans rfl; have hcz14_1 : w12.cell? ⟨gb250, 1, none⟩ = some (.int .i64 0) := (blk_cell BK250.out 1).trans rfl; have hcz14_2 : w12.cell? ⟨gb250, 2, none⟩ = some (.string (⟨#[]⟩ : ByteArray)) := (blk_cell BK250.out 2).trans rfl; have hcz14_3 : w12.cell? ⟨gb250, 3, none⟩ = some (.int .u32 0) := (blk_cell BK250.out 3).trans rfl; have hcz14_4 : w12.cell? ⟨gb250, 4, none⟩ = some (.bool false) := (blk_cell BK250.out 4).trans rfl; have hfz14_0 := blk_frozen BK250.out 0; have hfz14_1 := blk_frozen BK250.out 1; have hfz14_2 := blk_frozen BK250.out 2; have hfz14_3 := blk_frozen BK250.out 3; have hfz14_4 := blk_frozen BK250.out 4) | ((with_reducible refine gate_callee (f := 15) rfl ?_); refine goesL_ (some 18) rfl rfl Tryd.func15 (by kernel_rfl) rfl #[.string a0] rfl (by (try simp only [List.map_toArray, List.map_cons, List.map_nil]); first | done | rfl | (simp only [List.length_drop, List.length_take]; rfl)) ?_; (with_reducible refine (headgateref12_Decode.calls k a0 t251 t254 t255 t256 t257 t258 _ A6.out).mono ?_); rintro e w15 ⟨v252, rfl, ho0, hb⟩; refine ⟨_, rfl, ?_⟩; have n0_ := Aside0.mk (Kd.R_elder' (by (with_reducible repeat (first | apply Kd.R_alloc | apply Kd.R_drewN | apply Kd.R_drew)); exact (Kd.R_mono (Kd.R_far (p := ⟨gb250, 4, none⟩) (Kd.R_far (p := ⟨gb250, 3, none⟩) (Kd.R_far (p := ⟨gb250, 2, none⟩) (Kd.R_far (p := ⟨gb250, 1, none⟩) (Kd.R_far (p := ⟨gb250, 0, none⟩) (Kd.R_types HO244.out BK250.out (by decide)) (fun _ hk => hk.2) (.slice Ao13 t242.length co13)) (fun _ hk => hk.2) (.int .i64 t245)) (fun _ hk => hk.2) (.string t246)) (fun _ hk => hk.2) (.int .u32 t247)) (fun _ hk => hk.2) (.bool t248)) (fun _ h_ => h_.1))) (Kd.R_base ho0) hb); have n1_ := Aside0.mk (Kd.R_lower (Kd.R_new' ho0 (Kd.R_lt (by (with_reducible repeat (first | apply Kd.R_alloc | apply Kd.R_drewN | apply Kd.R_drew)); exact (Kd.R_mono (Kd.R_far (p := ⟨gb250, 4, none⟩) (Kd.R_far (p := ⟨gb250, 3, none⟩) (Kd.R_far (p := ⟨gb250, 2, none⟩) (Kd.R_far (p := ⟨gb250, 1, none⟩) (Kd.R_far (p := ⟨gb250, 0, none⟩) (Kd.R_types HO244.out BK250.out (by decide)) (fun _ hk => hk.2) (.slice Ao13 t242.length co13)) (fun _ hk => hk.2) (.int .i64 t245)) (fun _ hk => hk.2) (.string t246)) (fun _ hk => hk.2) (.int .u32 t247)) (fun _ hk => hk.2) (.bool t248)) (fun _ h_ => h_.1))))) (below_size (hb_ HB))); have n2_ := Aside0.mk (blk_below (g := gb250) (o := .cells #[.slice Ao13 t242.length co13, .int .i64 t245, .string t246, .int .u32 t247, .bool t248] 27 (0, 0)) (by (with_reducible repeat (first | refine blk_drewN ?_ _ | refine blk_drew ?_ | refine blk_alloc ?_ _)); refine blk_put (cs := #[.slice Ao13 t242.length co13, .int .i64 t245, .string t246, .int .u32 t247, .bool false]) ?_ 4 _ rfl; (with_reducible repeat (first | refine blk_drewN ?_ _ | refine blk_drew ?_ | refine blk_alloc ?_ _)); refine blk_put (cs := #[.slice Ao13 t242.length co13, .int .i64 t245, .string t246, .int .u32 0, .bool false]) ?_ 3 _ rfl; (with_reducible repeat (first | refine blk_drewN ?_ _ | refine blk_drew ?_ | refine blk_alloc ?_ _)); refine blk_put (cs := #[.slice Ao13 t242.length co13, .int .i64 t245, .string (⟨#[]⟩ : ByteArray), .int .u32 0, .bool false]) ?_ 2 _ rfl; (with_reducible repeat (first | refine blk_drewN ?_ _ | refine blk_drew ?_ | refine blk_alloc ?_ _)); refine blk_put (cs := #[.slice Ao13 t242.length co13, .int .i64 0, .string (⟨#[]⟩ : ByteArray), .int .u32 0, .bool false]) ?_ 1 _ rfl; (with_reducible repeat (first | refine blk_drewN ?_ _ | refine blk_drew ?_ | refine blk_alloc ?_ _)); refine blk_put (cs := #[.slice none 0 0, .int .i64 0, .string (⟨#[]⟩ : ByteArray), .int .u32 0, .bool false]) ?_ 0 _ rfl; (with_reducible repeat (first | refine blk_drewN ?_ _ | refine blk_drew ?_ | refine blk_alloc ?_ _)); exact BK250.out) hb); have n3_ := Aside0.mk (below_step (hb_ HB) hb); clear HO244; clear BK250; clear HB; have HO244 := n0_; have HO253 := n1_; have BK250 := n2_; have HB := n3_; clear n0_ n1_ n2_ n3_; (try clear hb); (try clear hb2); (try clear hk); (try clear hi); (try clear ho0)) | ((with_reducible refine gate_dst (N := 5) rfl ?_); refine box_event ?hg (N := 5) ?hd (cs := #[.slice none 0 0, .int .i64 0, .string (⟨#[]⟩ : ByteArray), .int .u32 0, .bool false]) (t := 27) ?hr ?_; (case hd => rfl); (case hg => rfl); (case hr => first | (go_simp; done) | (go_simp; rfl)); intro gb259 hg w16 hbox hb; have n0_ := Aside0.mk (Kd.R_below (by (with_reducible repeat (first | apply Kd.R_alloc | apply Kd.R_drewN | apply Kd.R_drew)); exact HO244.out) hb); have n1_ := Aside0.mk (Kd.R_below (by (with_reducible repeat (first | apply Kd.R_alloc | apply Kd.R_drewN | apply Kd.R_drew)); exact HO253.out) hb); have n2_ := Aside0.mk (blk_below (bk_ BK250) hb); have n3_ := Aside0.mk (below_step (hb_ HB) hb); have n4_ := Aside0.mk (hbox); have n5_ := Aside0.mk ((by rw [hg]; exact (below_size (hb_ HB)) : w.heap.size ≤ gb259)); have n6_ := Aside0.mk ((by rw [hg]; exact (below_size (hb_ HB)) : w.heap.size ≤ gb259)); have n7_ := Aside0.mk ((by rw [hg]; exact Nat.ne_of_lt (blk_lt (g := gb250) (o := .cells #[.slice Ao13 t242.length co13, .int .i64 t245, .string t246, .int .u32 t247, .bool t248] 27 (0, 0)) (bk_ BK250)) : gb250 ≠ gb259)); have n8_ := Aside0.mk ((by rw [hg]; exact Nat.ne_of_gt (blk_lt (g := gb250) (o := .cells #[.slice Ao13 t242.length co13, .int .i64 t245, .string t246, .int .u32 t247, .bool t248] 27 (0, 0)) (bk_ BK250)) : gb259 ≠ gb250)); clear HO244; clear HO253; clear BK250; clear HB; have HO244 := n0_; have HO253 := n1_; have BK250 := n2_; have HB := n3_; have BK259 := n4_; have GW259 := n5_; have GE259 := n6_; have NB250_259 := n7_; have NB259_250 := n8_; clear n0_ n1_ n2_ n3_ n4_ n5_ n6_ n7_ n8_; clear hb hbox hg; obtain ⟨Ao17, co17, eo17⟩ := Kd.R_slice HO253.out; subst eo17; have hnb18 := NB259_250.out; have hnc18 := NB250_259.out; have hcz19_0 : w16.cell? ⟨gb259, 0, none⟩ = some (.slice none 0 0) := (blk_cell BK259.out 0).trans rfl; have hcz19_1 : w16.cell? ⟨gb259, 1, none⟩ = some (.int .i64 0) := (blk_cell BK259.out 1).trans rfl; have hcz19_2 : w16.cell? ⟨gb259, 2, none⟩ = some (.string (⟨#[]⟩ : ByteArray)) := (blk_cell BK259.out 2).trans rfl; have hcz19_3 : w16.cell? ⟨gb259, 3, none⟩ = some (.int .u32 0) := (blk_cell BK259.out 3).trans rfl; have hcz19_4 : w16.cell? ⟨gb259, 4, none⟩ = some (.bool false) := (blk_cell BK259.out 4).trans rfl; have hfz19_0 := blk_frozen BK259.out 0; have hfz19_1 := blk_frozen BK259.out 1; have hfz19_2 := blk_frozen BK259.out 2; have hfz19_3 := blk_frozen BK259.out 3; have hfz19_4 := blk_frozen BK259.out 4; have hcz20_0 : w16.cell? ⟨gb250, 0, none⟩ = some (.slice Ao13 t242.length co13) := (blk_cell BK250.out 0).trans rfl; have hcz20_1 : w16.cell? ⟨gb250, 1, none⟩ = some (.int .i64 t245) := (blk_cell BK250.out 1).trans rfl; have hcz20_2 : w16.cell? ⟨gb250, 2, none⟩ = some (.string t246) := (blk_cell BK250.out 2).trans rfl; have hcz20_3 : w16.cell? ⟨gb250, 3, none⟩ = some (.int .u32 t247) := (blk_cell BK250.out 3).trans rfl; have hcz20_4 : w16.cell? ⟨gb250, 4, none⟩ = some (.bool t248) := (blk_cell BK250.out 4).trans rfl; have hfz20_0 := blk_frozen BK250.out 0; have hfz20_1 := blk_frozen BK250.out 1; have hfz20_2 := blk_frozen BK250.out 2; have hfz20_3 := blk_frozen BK250.out 3; have hfz20_4 := blk_frozen BK250.out 4) | ((with_reducible refine gate_callee (f := 13) rfl ?_); refine goesL_ (some 23) rfl rfl Tryd.func13 (by kernel_rfl) rfl #[.agg #[.slice Ao13 t242.length co13, .int .i64 t245, .string t246, .int .u32 t247, .bool t248], .agg #[.slice Ao17 t251.length co17, .int .i64 t254, .string t255, .int .u32 t256, .bool t257]] rfl (by (try simp only [List.map_toArray, List.map_cons, List.map_nil]); first | done | rfl | (simp only [List.length_drop, List.length_take]; rfl)) ?_; (with_reducible refine (headgatekeep_Tables.calls k _ _ t242 t245 t246 t247 t248 _ _ t251 t254 t255 t256 t257 true _ ?side1 ?side2 ?side3 ?side4 A7.out).mono ?_); (case side1 => refine (Kd.R_reads' (e := 48) (base := w.heap.size) (ok := fun k_ => (True ∧ some k_ ≠ (.slice Ao17 t251.length co17 : Value).ownBlock)) (n := t242.length) (c := co13) ?_).2.2; exact (by (with_reducible repeat (first | apply Kd.R_alloc | apply Kd.R_drewN | apply Kd.R_drew)); exact (Kd.R_mono (Kd.R_far (p := ⟨gb259, 4, none⟩) (Kd.R_far (p := ⟨gb259, 3, none⟩) (Kd.R_far (p := ⟨gb259, 2, none⟩) (Kd.R_far (p := ⟨gb259, 1, none⟩) (Kd.R_far (p := ⟨gb259, 0, none⟩) (Kd.R_types HO244.out BK259.out (by decide)) (fun _ hk => hk.2) (.slice Ao17 t251.length co17)) (fun _ hk => hk.2) (.int .i64 t254)) (fun _ hk => hk.2) (.string t255)) (fun _ hk => hk.2) (.int .u32 t256)) (fun _ hk => hk.2) (.bool t257)) (fun _ h_ => h_.1)))); (case side2 => exact (Kd.R_reads' HO244.out).2.1); (case side3 => refine (Kd.R_reads' (e := 48) (base := w.heap.size) (ok := fun k_ => (True ∧ some k_ ≠ (.slice Ao13 t242.length co13 : Value).ownBlock)) (n := t251.length) (c := co17) ?_).2.2; exact (by (with_reducible repeat (first | apply Kd.R_alloc | apply Kd.R_drewN | apply Kd.R_drew)); exact (Kd.R_mono (Kd.R_far (p := ⟨gb259, 4, none⟩) (Kd.R_far (p := ⟨gb259, 3, none⟩) (Kd.R_far (p := ⟨gb259, 2, none⟩) (Kd.R_far (p := ⟨gb259, 1, none⟩) (Kd.R_far (p := ⟨gb259, 0, none⟩) (Kd.R_types HO253.out BK259.out (by decide)) (fun _ hk => hk.2) (.slice Ao17 t251.length co17)) (fun _ hk => hk.2) (.int .i64 t254)) (fun _ hk => hk.2) (.string t255)) (fun _ hk => hk.2) (.int .u32 t256)) (fun _ hk => hk.2) (.bool t257)) (fun _ h_ => h_.1)))); (case side4 => exact (Kd.R_reads' HO253.out).2.1); rintro e w21 ⟨rfl, hb⟩; refine ⟨_, rfl, ?_⟩; have n0_ := Aside0.mk (Kd.R_below (by (with_reducible repeat (first | apply Kd.R_alloc | apply Kd.R_drewN | apply Kd.R_drew)); exact (Kd.R_mono (Kd.R_far (p := ⟨gb259, 4, none⟩) (Kd.R_far (p := ⟨gb259, 3, none⟩) (Kd.R_far (p := ⟨gb259, 2, none⟩) (Kd.R_far (p := ⟨gb259, 1, none⟩) (Kd.R_far (p := ⟨gb259, 0, none⟩) (Kd.R_types HO244.out BK259.out (by decide)) (fun _ hk => hk.2) (.slice Ao17 t251.length co17)) (fun _ hk => hk.2) (.int .i64 t254)) (fun _ hk => hk.2) (.string t255)) (fun _ hk => hk.2) (.int .u32 t256)) (fun _ hk => hk.2) (.bool t257)) (fun _ h_ => h_.1))) hb); have n1_ := Aside0.mk (Kd.R_below (by (with_reducible repeat (first | apply Kd.R_alloc | apply Kd.R_drewN | apply Kd.R_drew)); exact (Kd.R_mono (Kd.R_far (p := ⟨gb259, 4, none⟩) (Kd.R_far (p := ⟨gb259, 3, none⟩) (Kd.R_far (p := ⟨gb259, 2, none⟩) (Kd.R_far (p := ⟨gb259, 1, none⟩) (Kd.R_far (p := ⟨gb259, 0, none⟩) (Kd.R_types HO253.out BK259.out (by decide)) (fun _ hk => hk.2) (.slice Ao17 t251.length co17)) (fun _ hk => hk.2) (.int .i64 t254)) (fun _ hk => hk.2) (.string t255)) (fun _ hk => hk.2) (.int .u32 t256)) (fun _ hk => hk.2) (.bool t257)) (fun _ h_ => h_.1))) hb); have n2_ := Aside0.mk (blk_below (g := gb250) (o := .cells #[.slice Ao13 t242.length co13, .int .i64 t245, .string t246, .int .u32 t247, .bool t248] 27 (0, 0)) (by (with_reducible repeat (first | refine blk_drewN ?_ _ | refine blk_drew ?_ | refine blk_alloc ?_ _ | refine blk_far ?_ NB250_259.out _)); exact BK250.out) hb); have n3_ := Aside0.mk (blk_below (g := gb259) (o := .cells #[.slice Ao17 t251.length co17, .int .i64 t254, .string t255, .int .u32 t256, .bool t257] 27 (0, 0)) (by (with_reducible repeat (first | refine blk_drewN ?_ _ | refine blk_drew ?_ | refine blk_alloc ?_ _)); refine blk_put (cs := #[.slice Ao17 t251.length co17, .int .i64 t254, .string t255, .int .u32 t256, .bool false]) ?_ 4 _ rfl; (with_reducible repeat (first | refine blk_drewN ?_ _ | refine blk_drew ?_ | refine blk_alloc ?_ _)); refine blk_put (cs := #[.slice Ao17 t251.length co17, .int .i64 t254, .string t255, .int .u32 0, .bool false]) ?_ 3 _ rfl; (with_reducible repeat (first | refine blk_drewN ?_ _ | refine blk_drew ?_ | refine blk_alloc ?_ _)); refine blk_put (cs := #[.slice Ao17 t251.length co17, .int .i64 t254, .string (⟨#[]⟩ : ByteArray), .int .u32 0, .bool false]) ?_ 2 _ rfl; (with_reducible repeat (first | refine blk_drewN ?_ _ | refine blk_drew ?_ | refine blk_alloc ?_ _)); refine blk_put (cs := #[.slice Ao17 t251.length co17, .int .i64 0, .string (⟨#[]⟩ : ByteArray), .int .u32 0, .bool false]) ?_ 1 _ rfl; (with_reducible repeat (first | refine blk_drewN ?_ _ | refine blk_drew ?_ | refine blk_alloc ?_ _)); refine blk_put (cs := #[.slice none 0 0, .int .i64 0, .string (⟨#[]⟩ : ByteArray), .int .u32 0, .bool false]) ?_ 0 _ rfl; (with_reducible repeat (first | refine blk_drewN ?_ _ | refine blk_drew ?_ | refine blk_alloc ?_ _)); exact BK259.out) hb); have n4_ := Aside0.mk (below_step (hb_ HB) hb); clear HO244; clear HO253; clear BK250; clear BK259; clear HB; have HO244 := n0_; have HO253 := n1_; have BK250 := n2_; have BK259 := n3_; have HB := n4_; clear n0_ n1_ n2_ n3_ n4_; (try clear hb); (try clear hb2); (try clear hk); (try clear hi)) | (go_at_call 9; (with_reducible refine (headgatelaw12_wakes.calls k  t261 _ ?side1 A10.out).mono ?_); (case side1 => first | ((refine Glob.keep HG.out ?_); (repeat (first | (with_reducible first | exact HB.out | apply below_alloc | apply pw_below_drewN | apply below_drew1 | refine below_set ?_ GE250.out | refine below_set ?_ GE259.out) | exact HB.out)); done) | exact HG.out); rintro e w22 ⟨rfl, hb⟩; have n0_ := Aside0.mk (Kd.R_below (by (with_reducible repeat (first | apply Kd.R_alloc | apply Kd.R_drewN | apply Kd.R_drew)); exact HO244.out) hb); have n1_ := Aside0.mk (Kd.R_below (by (with_reducible repeat (first | apply Kd.R_alloc | apply Kd.R_drewN | apply Kd.R_drew)); exact HO253.out) hb); have n2_ := Aside0.mk (blk_below (bk_ BK250) hb); have n3_ := Aside0.mk (blk_below (bk_ BK259) hb); have n4_ := Aside0.mk (below_step (hb_ HB) hb); clear HO244; clear HO253; clear BK250; clear BK259; clear HB; have HO244 := n0_; have HO253 := n1_; have BK250 := n2_; have BK259 := n3_; have HB := n4_; clear n0_ n1_ n2_ n3_ n4_; (try clear hb); (try clear hb2); (try clear hk); (try clear hi)))
 go_ret
 exact ⟨by first | rfl | (simp [errW_none, errW_some] <;> rfl) | (simp [*, errW_none, errW_some] <;> rfl) | (simp [bt, *]; done) | (unfold bt; simp [*]; done), by repeat (first | (with_reducible first | exact HB.out | apply below_alloc | apply pw_below_drewN | apply below_drew1 | refine below_set ?_ GE250.out | refine below_set ?_ GE259.out) | exact HB.out)⟩
/-! ### headgatelaw12_ImageBack: function 5 -/
mutual
def headgatelaw12_ImageBack.j0 : Nat → ByteArray → Bool → List (S48) → Int → ByteArray → Int → Bool → Option (Bool)
 | 0, _, _, _, _, _, _, _ => none
 | k + 1, x1, x19, x263000, x263001, x263002, x263003, x263004 => if x19 = true then ((headgatelaw12_wakes.f k).bind fun t264 => (some t264)) else ((headgatekeep_CopyTable.f x263000 x263001 x263002 x263003 x263004).bind fun bt265 => ((image_Encode.f k bt265.1 bt265.2.1 bt265.2.2.1 bt265.2.2.2.1 bt265.2.2.2.2).bind fun bt272 => (if bt272.2 = 0 then ((image_Decode.f k bt272.1).bind fun bt274 => (if bt274.2.2.2.2.2 = 0 then ((headgatekeep_Tables.f k x263000 x263001 x263002 x263003 x263004 bt274.1 bt274.2.1 bt274.2.2.1 bt274.2.2.2.1 bt274.2.2.2.2.1).bind fun t283 => (if t283 = true then (if (bt272.1.size : Int) > 2048 then (some false) else (headgatelaw12_ImageBack.j1 k x1)) else (some false))) else (some false))) else (headgatelaw12_ImageBack.j1 k x1))))
def headgatelaw12_ImageBack.j1 : Nat → ByteArray → Option (Bool)
 | 0, _ => none
 | k + 1, x1 => (image_Decode.f k x1).bind fun bt284 => (if bt284.2.2.2.2.2 = 0 then ((image_Encode.f k bt284.1 bt284.2.1 bt284.2.2.1 bt284.2.2.2.1 bt284.2.2.2.2.1).bind fun bt293 => (if bt293.2 = 0 then (if bt293.1.toList = x1.toList then ((headgatelaw12_wakes.f k).bind fun t295 => (some t295)) else (some false)) else (some false))) else (if bt284.2.2.2.2.2 = 61 then (if (bt284.1.length : Int) = 0 then (if bt284.2.1 = 0 then ((headgatelaw12_wakes.f k).bind fun t296 => (some t296)) else (some false)) else (some false)) else (some false)))
end
def headgatelaw12_ImageBack.f (k : Nat) (l0_0 : List (S48)) (a0_1 : Int) (a0_2 : ByteArray) (a0_3 : Int) (a0_4 : Bool) (a1 : ByteArray) : Option (Bool) := (headgatelaw10_Large.f k l0_0 a0_1 a0_2 a0_3 a0_4).bind fun t263 => (if t263 = true then (headgatelaw12_ImageBack.j0 k a1 true l0_0 a0_1 a0_2 a0_3 a0_4) else (headgatelaw12_ImageBack.j0 k a1 (decide ((a1.size : Int) > 5000)) l0_0 a0_1 a0_2 a0_3 a0_4))
theorem headgatelaw12_ImageBack.mono_l : ∀ k, (∀ y0 y1 y2 y3 y4 y5 y6, LeO (headgatelaw12_ImageBack.j0 k y0 y1 y2 y3 y4 y5 y6) (headgatelaw12_ImageBack.j0 (k + 1) y0 y1 y2 y3 y4 y5 y6)) ∧ (∀ y0, LeO (headgatelaw12_ImageBack.j1 k y0) (headgatelaw12_ImageBack.j1 (k + 1) y0))
 | 0 => ⟨fun _ _ _ _ _ _ _ r h => by simp [headgatelaw12_ImageBack.j0] at h, fun _ r h => by simp [headgatelaw12_ImageBack.j1] at h⟩
 | k + 1 => by
  obtain ⟨ih0, ih1⟩ := headgatelaw12_ImageBack.mono_l k
  refine ⟨?_, ?_⟩
  ·intro y0 y1 y2 y3 y4 y5 y6
   unfold headgatelaw12_ImageBack.j0
   repeat' first
   | (with_reducible exact ih0 _ _ _ _ _ _ _)
   | (with_reducible exact ih1 _)
   | (with_reducible exact headgatekeep_Tables.mono _ _ _ _ _ _ _ _ _ _ _)
   | (with_reducible exact headgatelaw10_Large.mono _ _ _ _ _ _)
   | (with_reducible exact headgatelaw12_wakes.mono _)
   | (with_reducible exact image_Decode.mono _ _)
   | (with_reducible exact image_Encode.mono _ _ _ _ _ _)
   | (with_reducible exact LeO.refl _)
   | (with_reducible exact LeO.none _)
   | (with_reducible refine LeO.ite ?_ ?_)
   | (with_reducible refine LeO.bind ?_ (fun _ => ?_))
   | exact ih0 _ _ _ _ _ _ _
   | exact ih1 _
   | exact headgatekeep_Tables.mono _ _ _ _ _ _ _ _ _ _ _
   | exact headgatelaw10_Large.mono _ _ _ _ _ _
   | exact headgatelaw12_wakes.mono _
   | exact image_Decode.mono _ _
   | exact image_Encode.mono _ _ _ _ _ _
   | exact LeO.none _
   | refine LeO.ite ?_ ?_
   | refine LeO.bind ?_ (fun _ => ?_)
  ·intro y0
   unfold headgatelaw12_ImageBack.j1
   repeat' first
   | (with_reducible exact ih0 _ _ _ _ _ _ _)
   | (with_reducible exact ih1 _)
   | (with_reducible exact headgatekeep_Tables.mono _ _ _ _ _ _ _ _ _ _ _)
   | (with_reducible exact headgatelaw10_Large.mono _ _ _ _ _ _)
   | (with_reducible exact headgatelaw12_wakes.mono _)
   | (with_reducible exact image_Decode.mono _ _)
   | (with_reducible exact image_Encode.mono _ _ _ _ _ _)
   | (with_reducible exact LeO.refl _)
   | (with_reducible exact LeO.none _)
   | (with_reducible refine LeO.ite ?_ ?_)
   | (with_reducible refine LeO.bind ?_ (fun _ => ?_))
   | exact ih0 _ _ _ _ _ _ _
   | exact ih1 _
   | exact headgatekeep_Tables.mono _ _ _ _ _ _ _ _ _ _ _
   | exact headgatelaw10_Large.mono _ _ _ _ _ _
   | exact headgatelaw12_wakes.mono _
   | exact image_Decode.mono _ _
   | exact image_Encode.mono _ _ _ _ _ _
   | exact LeO.none _
   | refine LeO.ite ?_ ?_
   | refine LeO.bind ?_ (fun _ => ?_)
theorem headgatelaw12_ImageBack.mono : ∀ a0 a1 a2 a3 a4 a5 k, LeO (headgatelaw12_ImageBack.f k a0 a1 a2 a3 a4 a5) (headgatelaw12_ImageBack.f (k + 1) a0 a1 a2 a3 a4 a5) := by
 intro a0 a1 a2 a3 a4 a5 k
 obtain ⟨ih0, ih1⟩ := headgatelaw12_ImageBack.mono_l k
 unfold headgatelaw12_ImageBack.f
 repeat' first
   | (with_reducible exact ih0 _ _ _ _ _ _ _)
   | (with_reducible exact ih1 _)
   | (with_reducible exact headgatekeep_Tables.mono _ _ _ _ _ _ _ _ _ _ _)
   | (with_reducible exact headgatelaw10_Large.mono _ _ _ _ _ _)
   | (with_reducible exact headgatelaw12_wakes.mono _)
   | (with_reducible exact image_Decode.mono _ _)
   | (with_reducible exact image_Encode.mono _ _ _ _ _ _)
   | (with_reducible exact LeO.refl _)
   | (with_reducible exact LeO.none _)
   | (with_reducible refine LeO.ite ?_ ?_)
   | (with_reducible refine LeO.bind ?_ (fun _ => ?_))
   | exact ih0 _ _ _ _ _ _ _
   | exact ih1 _
   | exact headgatekeep_Tables.mono _ _ _ _ _ _ _ _ _ _ _
   | exact headgatelaw10_Large.mono _ _ _ _ _ _
   | exact headgatelaw12_wakes.mono _
   | exact image_Decode.mono _ _
   | exact image_Encode.mono _ _ _ _ _ _
   | exact LeO.none _
   | refine LeO.ite ?_ ?_
   | refine LeO.bind ?_ (fun _ => ?_)
set_option maxHeartbeats 8000000 in
set_option maxRecDepth 100000 in
theorem headgatelaw12_ImageBack.calls (k : Nat) (A0_0 : Option Addr) (c0_0 : Nat) (l0_0 : List (S48)) (a0_1 : Int) (a0_2 : ByteArray) (a0_3 : Int) (a0_4 : Bool) (a1 : ByteArray) (r : Bool) (w : World) (hr0_0 : Kd.C k48 w A0_0 l0_0.length l0_0) (hc0_0 : l0_0.length ≤ c0_0) (hG : Glob w) (hT : r = true) (h : headgatelaw12_ImageBack.f k l0_0 a0_1 a0_2 a0_3 a0_4 a1 = some r) :
  Calls Tryd.prog 5 #[.agg #[.slice A0_0 l0_0.length c0_0, .int .i64 a0_1, .string a0_2, .int .u32 a0_3, .bool a0_4], .string a1] w fun e w' => e = .returned (.bool r) ∧ Below w.heap.size w w' := by
 have hu27 := Tryd.underlying27
 have HT0 := Aside0.mk hT
 clear hT
 have HG := Aside0.mk hG
 clear hG
 have HR0_0 := Aside0.mk hr0_0
 have HC0_0 := Aside0.mk hc0_0
 clear hr0_0 hc0_0
 have HB := Aside0.mk (Below.refl w.heap.size w)
 have H : ((headgatelaw10_Large.f k l0_0 a0_1 a0_2 a0_3 a0_4).bind fun t263 => (if t263 = true then (headgatelaw12_ImageBack.j0 k a1 true l0_0 a0_1 a0_2 a0_3 a0_4) else (headgatelaw12_ImageBack.j0 k a1 (decide ((a1.size : Int) > 5000)) l0_0 a0_1 a0_2 a0_3 a0_4))) = some r := h
 clear h
 have HC3 := Aside0.mk H
 clear H
 go_enter Tryd.func5, Tryd.ntmps5
 go_upto_region 1 with (first | ((with_reducible refine gate_dst (N := 2) rfl ?_); (try (refine gate_guard (by rfl) ?_; dsimp only)); refine box_event ?hg (N := 2) ?hd (cs := #[.slice A0_0 l0_0.length c0_0, .int .i64 a0_1, .string a0_2, .int .u32 a0_3, .bool a0_4]) (t := 27) ?hr ?_; (case hd => rfl); (case hg => rfl); (case hr => first | (go_simp; done) | (go_simp; rfl)); intro gb262 hg w4 hbox hb; have n0_ := Aside0.mk (below_step (hb_ HB) hb); have n1_ := Aside0.mk (hbox); have n2_ := Aside0.mk ((by rw [hg]; exact (below_size (hb_ HB)) : w.heap.size ≤ gb262)); have n3_ := Aside0.mk ((by rw [hg]; exact (below_size (hb_ HB)) : w.heap.size ≤ gb262)); clear HB; have HB := n0_; have BK262 := n1_; have GW262 := n2_; have GE262 := n3_; clear n0_ n1_ n2_ n3_; clear hb hbox hg))
 (try simp only [Act.put, la_, lb_, lc_])
 go_cut [19] (fun v19 wc => ∃ (kq : Nat) (x19_2 : Bool), v19 = .bool x19_2 ∧ Aside0 (headgatelaw12_ImageBack.j0 kq a1 x19_2 l0_0 a0_1 a0_2 a0_3 a0_4 = some r) ∧ Aside0 (kq ≤ k) ∧ Aside0 (wc.heap[gb262]? = some (.cells #[(.slice A0_0 l0_0.length c0_0), .int .i64 a0_1, .string a0_2, .int .u32 a0_3, .bool a0_4] 27 (0, 0))) ∧ Aside0 (Below w.heap.size w wc))
 case first =>
  have H := HC3.out
  clear HC3
  replace H := Option.bind_eq_some_iff.mp H
  obtain ⟨t263, A50, H⟩ := H
  try dsimp only at H
  have A5 := Aside0.mk A50
  clear A50
  by_cases c6 : t263 = true
  ·subst c6
   have H1 := H
   rw [if_pos rfl] at H1
   clear H
   have H := H1
   clear H1
   have H' := Aside0.mk H
   clear H
   have hcz7_0 : w4.cell? ⟨gb262, 0, none⟩ = some (.slice A0_0 l0_0.length c0_0) := (blk_cell BK262.out 0).trans rfl
   have hcz7_1 : w4.cell? ⟨gb262, 1, none⟩ = some (.int .i64 a0_1) := (blk_cell BK262.out 1).trans rfl
   have hcz7_2 : w4.cell? ⟨gb262, 2, none⟩ = some (.string a0_2) := (blk_cell BK262.out 2).trans rfl
   have hcz7_3 : w4.cell? ⟨gb262, 3, none⟩ = some (.int .u32 a0_3) := (blk_cell BK262.out 3).trans rfl
   have hcz7_4 : w4.cell? ⟨gb262, 4, none⟩ = some (.bool a0_4) := (blk_cell BK262.out 4).trans rfl
   have hfz7_0 := blk_frozen BK262.out 0
   have hfz7_1 := blk_frozen BK262.out 1
   have hfz7_2 := blk_frozen BK262.out 2
   have hfz7_3 := blk_frozen BK262.out 3
   have hfz7_4 := blk_frozen BK262.out 4
   go_wp2_with (first | ((with_reducible refine gate_callee (f := 8) rfl ?_); refine goesL_ (some 14) rfl rfl Tryd.func8 (by kernel_rfl) rfl #[.agg #[.slice A0_0 l0_0.length c0_0, .int .i64 a0_1, .string a0_2, .int .u32 a0_3, .bool a0_4]] rfl (by (try simp only [List.map_toArray, List.map_cons, List.map_nil]); first | done | rfl | (simp only [List.length_drop, List.length_take]; rfl)) ?_; (with_reducible refine (headgatelaw10_Large.calls k _ _ l0_0 a0_1 a0_2 a0_3 a0_4 true _ ?side1 ?side2 A5.out).mono ?_); (case side1 => repeat (first | exact (Kd.C_below HR0_0.out HB.out) | (with_reducible refine Kd.C_alloc ?_ _) | (with_reducible refine Kd.C_drewN ?_ _) | (with_reducible refine Kd.C_drew ?_))); (case side2 => exact HC0_0.out); rintro e w8 ⟨rfl, hb⟩; refine ⟨_, rfl, ?_⟩; have n0_ := Aside0.mk (blk_below (bk_ BK262) hb); have n1_ := Aside0.mk (below_step (hb_ HB) hb); clear BK262; clear HB; have BK262 := n0_; have HB := n1_; clear n0_ n1_; (try clear hb); (try clear hb2); (try clear hk); (try clear hi)))
   go_meet
   case rel => exact ⟨_, (true), (by first | rfl | (simp; done) | (simp [*]; done)), H', ⟨by first | omega | exact Nat.le_refl _⟩, ⟨bk_ BK262⟩, ⟨hb_ HB⟩⟩
  replace c6 := Bool.eq_false_iff.mpr c6
  subst c6
  have H1 := H
  rw [if_neg (show ¬ (false = true) by decide)] at H1
  clear H
  have H := H1
  clear H1
  have H' := Aside0.mk H
  clear H
  have hcz9_0 : w4.cell? ⟨gb262, 0, none⟩ = some (.slice A0_0 l0_0.length c0_0) := (blk_cell BK262.out 0).trans rfl
  have hcz9_1 : w4.cell? ⟨gb262, 1, none⟩ = some (.int .i64 a0_1) := (blk_cell BK262.out 1).trans rfl
  have hcz9_2 : w4.cell? ⟨gb262, 2, none⟩ = some (.string a0_2) := (blk_cell BK262.out 2).trans rfl
  have hcz9_3 : w4.cell? ⟨gb262, 3, none⟩ = some (.int .u32 a0_3) := (blk_cell BK262.out 3).trans rfl
  have hcz9_4 : w4.cell? ⟨gb262, 4, none⟩ = some (.bool a0_4) := (blk_cell BK262.out 4).trans rfl
  have hfz9_0 := blk_frozen BK262.out 0
  have hfz9_1 := blk_frozen BK262.out 1
  have hfz9_2 := blk_frozen BK262.out 2
  have hfz9_3 := blk_frozen BK262.out 3
  have hfz9_4 := blk_frozen BK262.out 4
  go_wp2_with (first | ((with_reducible refine gate_callee (f := 8) rfl ?_); refine goesL_ (some 14) rfl rfl Tryd.func8 (by kernel_rfl) rfl #[.agg #[.slice A0_0 l0_0.length c0_0, .int .i64 a0_1, .string a0_2, .int .u32 a0_3, .bool a0_4]] rfl (by (try simp only [List.map_toArray, List.map_cons, List.map_nil]); first | done | rfl | (simp only [List.length_drop, List.length_take]; rfl)) ?_; (with_reducible refine (headgatelaw10_Large.calls k _ _ l0_0 a0_1 a0_2 a0_3 a0_4 false _ ?side1 ?side2 A5.out).mono ?_); (case side1 => repeat (first | exact (Kd.C_below HR0_0.out HB.out) | (with_reducible refine Kd.C_alloc ?_ _) | (with_reducible refine Kd.C_drewN ?_ _) | (with_reducible refine Kd.C_drew ?_))); (case side2 => exact HC0_0.out); rintro e w10 ⟨rfl, hb⟩; refine ⟨_, rfl, ?_⟩; have n0_ := Aside0.mk (blk_below (bk_ BK262) hb); have n1_ := Aside0.mk (below_step (hb_ HB) hb); clear BK262; clear HB; have BK262 := n0_; have HB := n1_; clear n0_ n1_; (try clear hb); (try clear hb2); (try clear hk); (try clear hi)))
  go_meet
  case rel => exact ⟨_, (decide ((a1.size : Int) > 5000)), (by first | rfl | (simp; done) | (simp [*]; done)), H', ⟨by first | omega | exact Nat.le_refl _⟩, ⟨bk_ BK262⟩, ⟨hb_ HB⟩⟩
 case rest =>
  clear HC3
  try clear p2
  try clear c5
  try clear c6
  try clear c8
  try clear hcz7_0
  try clear hcz7_1
  try clear hcz7_2
  try clear hcz7_3
  try clear hcz7_4
  try clear hcz9_0
  try clear hcz9_1
  try clear hcz9_2
  try clear hcz9_3
  try clear hcz9_4
  try clear hfz7_0
  try clear hfz7_1
  try clear hfz7_2
  try clear hfz7_3
  try clear hfz7_4
  try clear hfz9_0
  try clear hfz9_1
  try clear hfz9_2
  try clear hfz9_3
  try clear hfz9_4
  obtain ⟨kq, x19_2, rfl, HA, HJ2, BK262, HB⟩ := hcut
  cases kq with
  | zero => exact absurd HA.out (by simp [headgatelaw12_ImageBack.j0])
  | succ kj2 =>
   have H := HA.out
   clear HA
   simp only [headgatelaw12_ImageBack.j0] at H
   by_cases c11 : x19_2 = true
   ·subst c11
    have H1 := H
    rw [if_pos rfl] at H1
    clear H
    have H := H1
    clear H1
    replace H := Option.bind_eq_some_iff.mp H
    obtain ⟨t264, A120, H⟩ := H
    try dsimp only at H
    have A12 := Aside0.mk A120
    clear A120
    obtain rfl := Option.some.inj H
    go_wp2_with (first | ((with_reducible refine gate_callee (f := 9) rfl ?_); refine goesL_ (some 20) rfl rfl Tryd.func9 (by kernel_rfl) rfl #[] rfl (by (try simp only [List.map_toArray, List.map_cons, List.map_nil]); first | done | rfl | (simp only [List.length_drop, List.length_take]; rfl)) ?_; (with_reducible refine (headgatelaw12_wakes.calls kj2  t264 _ ?side1 A12.out).mono ?_); (case side1 => first | ((refine Glob.keep HG.out ?_); (repeat (first | (with_reducible first | exact HB.out | apply below_alloc | apply pw_below_drewN | apply below_drew1 | refine below_set ?_ GE262.out) | exact HB.out)); done) | exact HG.out); rintro e w13 ⟨rfl, hb⟩; refine ⟨_, rfl, ?_⟩; have n0_ := Aside0.mk (blk_below (bk_ BK262) hb); have n1_ := Aside0.mk (below_step (hb_ HB) hb); clear BK262; clear HB; have BK262 := n0_; have HB := n1_; clear n0_ n1_; (try clear hb); (try clear hb2); (try clear hk); (try clear hi)))
    go_ret
    exact ⟨by first | rfl | (simp [errW_none, errW_some] <;> rfl) | (simp [*, errW_none, errW_some] <;> rfl) | (simp [bt, *]; done) | (unfold bt; simp [*]; done), by repeat (first | (with_reducible first | exact HB.out | apply below_alloc | apply pw_below_drewN | apply below_drew1 | refine below_set ?_ GE262.out) | exact HB.out)⟩
   replace c11 := Bool.eq_false_iff.mpr c11
   subst c11
   have H1 := H
   rw [if_neg (show ¬ (false = true) by decide)] at H1
   clear H
   have H := H1
   clear H1
   replace H := Option.bind_eq_some_iff.mp H
   obtain ⟨⟨t265, t268, t269, t270, t271⟩, A140, H⟩ := H
   try dsimp only at H
   have A14 := Aside0.mk A140
   clear A140
   replace H := Option.bind_eq_some_iff.mp H
   obtain ⟨⟨t272, t273⟩, A150, H⟩ := H
   try dsimp only at H
   have A15 := Aside0.mk A150
   clear A150
   have HC16 := Aside0.mk H
   clear H
   have hcz17_0 : wc.cell? ⟨gb262, 0, none⟩ = some (.slice A0_0 l0_0.length c0_0) := (blk_cell BK262.out 0).trans rfl
   have hcz17_1 : wc.cell? ⟨gb262, 1, none⟩ = some (.int .i64 a0_1) := (blk_cell BK262.out 1).trans rfl
   have hcz17_2 : wc.cell? ⟨gb262, 2, none⟩ = some (.string a0_2) := (blk_cell BK262.out 2).trans rfl
   have hcz17_3 : wc.cell? ⟨gb262, 3, none⟩ = some (.int .u32 a0_3) := (blk_cell BK262.out 3).trans rfl
   have hcz17_4 : wc.cell? ⟨gb262, 4, none⟩ = some (.bool a0_4) := (blk_cell BK262.out 4).trans rfl
   have hfz17_0 := blk_frozen BK262.out 0
   have hfz17_1 := blk_frozen BK262.out 1
   have hfz17_2 := blk_frozen BK262.out 2
   have hfz17_3 := blk_frozen BK262.out 3
   have hfz17_4 := blk_frozen BK262.out 4
   go_upto_if 28 with (first | ((with_reducible refine gate_callee (f := 10) rfl ?_); refine goesL_ (some 23) rfl rfl Tryd.func10 (by kernel_rfl) rfl #[.agg #[.slice A0_0 l0_0.length c0_0, .int .i64 a0_1, .string a0_2, .int .u32 a0_3, .bool a0_4]] rfl (by (try simp only [List.map_toArray, List.map_cons, List.map_nil]); first | done | rfl | (simp only [List.length_drop, List.length_take]; rfl)) ?_; (with_reducible refine (headgatekeep_CopyTable.calls _ _ l0_0 a0_1 a0_2 a0_3 a0_4 t265 t268 t269 t270 t271 _ ?side1 ?side2 A14.out).mono ?_); (case side1 => repeat (first | exact (Kd.C_below HR0_0.out HB.out) | (with_reducible refine Kd.C_alloc ?_ _) | (with_reducible refine Kd.C_drewN ?_ _) | (with_reducible refine Kd.C_drew ?_))); (case side2 => exact HC0_0.out); rintro e w18 ⟨v266, rfl, ho0, hb⟩; refine ⟨_, rfl, ?_⟩; have n0_ := Aside0.mk (Kd.R_lower ho0 (below_size (hb_ HB))); have n1_ := Aside0.mk (blk_below (bk_ BK262) hb); have n2_ := Aside0.mk (below_step (hb_ HB) hb); clear BK262; clear HB; have HO267 := n0_; have BK262 := n1_; have HB := n2_; clear n0_ n1_ n2_; (try clear hb); (try clear hb2); (try clear hk); (try clear hi); (try clear ho0); obtain ⟨Ao19, co19, eo19⟩ := Kd.R_slice HO267.out; subst eo19) | ((with_reducible refine gate_callee (f := 11) rfl ?_); refine goesL_ (some 24) rfl rfl Tryd.func11 (by kernel_rfl) rfl #[.agg #[.slice Ao19 t265.length co19, .int .i64 t268, .string t269, .int .u32 t270, .bool t271]] rfl (by (try simp only [List.map_toArray, List.map_cons, List.map_nil]); first | done | rfl | (simp only [List.length_drop, List.length_take]; rfl)) ?_; (with_reducible refine (image_Encode.calls kj2 _ _ t265 t268 t269 t270 t271 t272 t273 _ ?side1 ?side2 ?side3 A15.out).mono ?_); (case side1 => repeat (first | exact (Kd.R_reads' HO267.out).2.2 | (with_reducible refine Kd.C_alloc ?_ _) | (with_reducible refine Kd.C_drewN ?_ _) | (with_reducible refine Kd.C_drew ?_))); (case side2 => exact (Kd.R_reads' HO267.out).2.1); (case side3 => first | ((refine Glob.keep HG.out ?_); (repeat (first | (with_reducible first | exact HB.out | apply below_alloc | apply pw_below_drewN | apply below_drew1 | refine below_set ?_ GE262.out) | exact HB.out)); done) | exact HG.out); rintro e w20 ⟨rfl, hb⟩; refine ⟨_, rfl, ?_⟩; have n0_ := Aside0.mk (Kd.R_below (by (with_reducible repeat (first | apply Kd.R_alloc | apply Kd.R_drewN | apply Kd.R_drew)); exact HO267.out) hb); have n1_ := Aside0.mk (blk_below (bk_ BK262) hb); have n2_ := Aside0.mk (below_step (hb_ HB) hb); clear HO267; clear BK262; clear HB; have HO267 := n0_; have BK262 := n1_; have HB := n2_; clear n0_ n1_ n2_; (try clear hb); (try clear hb2); (try clear hk); (try clear hi)))
   (try simp only [Act.put, la_, lb_, lc_])
   go_cut [] (fun wc => ∃ (kq : Nat), Aside0 (headgatelaw12_ImageBack.j1 kq a1 = some r) ∧ Aside0 (kq ≤ kj2) ∧ Aside0 (wc.heap[gb262]? = some (.cells #[(.slice A0_0 l0_0.length c0_0), .int .i64 a0_1, .string a0_2, .int .u32 a0_3, .bool a0_4] 27 (0, 0))) ∧ Aside0 (Below w.heap.size w wc))
   case first =>
    have H := HC16.out
    clear HC16
    refine neg_first (p := (t273 = 0)) (fun c21 => ?_) (fun c21 => ?_)
    ·rw [if_neg c21] at H
     have c21b0 : (t273 == 0) = false := beq_eq_false_iff_ne.mpr c21
     have c21b1 : (t273 != 0) = true := bne_iff_ne.mpr c21
     (first | rw [c21b0] | (simp only [i64_w, i32_w]; rw [c21b0]) | skip)
     have H' := Aside0.mk H
     clear H
     go_wp2
     go_meet
     case rel => exact ⟨_, H', ⟨by have := HJ2.out; first | omega | exact Nat.le_refl _⟩, ⟨bk_ BK262⟩, ⟨hb_ HB⟩⟩
    rw [if_pos c21] at H
    have c21b0 : (t273 == 0) = true := beq_iff_eq.mpr c21
    have c21b1 : (t273 != 0) = false := bne_eq_false_iff_eq.mpr c21
    clear c21
    (first | rw [c21b0] | (simp only [i64_w, i32_w]; rw [c21b0]) | skip)
    replace H := Option.bind_eq_some_iff.mp H
    obtain ⟨⟨t274, t277, t278, t279, t280, t281⟩, A220, H⟩ := H
    try dsimp only at H
    have A22 := Aside0.mk A220
    clear A220
    refine neg_first (p := (t281 = 0)) (fun c23 => ?_) (fun c23 => ?_)
    ·rw [if_neg c23] at H
     have c23b0 : (t281 == 0) = false := beq_eq_false_iff_ne.mpr c23
     have c23b1 : (t281 != 0) = true := bne_iff_ne.mpr c23
     exact absurd ((Option.some.inj H).trans HT0.out) (by decide)
    rw [if_pos c23] at H
    have c23b0 : (t281 == 0) = true := beq_iff_eq.mpr c23
    have c23b1 : (t281 != 0) = false := bne_eq_false_iff_eq.mpr c23
    clear c23
    replace H := Option.bind_eq_some_iff.mp H
    obtain ⟨t283, A240, H⟩ := H
    try dsimp only at H
    have A24 := Aside0.mk A240
    clear A240
    refine neg_first (p := (t283 = true)) (fun c25 => ?_) (fun c25 => ?_)
    ·replace c25 := Bool.eq_false_iff.mpr c25
     subst c25
     have H1 := H
     rw [if_neg (show ¬ (false = true) by decide)] at H1
     clear H
     have H := H1
     clear H1
     exact absurd ((Option.some.inj H).trans HT0.out) (by decide)
    subst c25
    have H1 := H
    rw [if_pos rfl] at H1
    clear H
    have H := H1
    clear H1
    by_cases c26 : (t272.size : Int) > 2048
    ·rw [if_pos c26] at H
     have c26b0 : decide (2048 < (t272.size : Int)) = true := decide_eq_true c26
     have c26b1 : decide (2048 < t272.size) = true := decide_eq_true (by omega)
     clear c26
     exact absurd ((Option.some.inj H).trans HT0.out) (by decide)
    rw [if_neg c26] at H
    have c26b0 : decide (2048 < (t272.size : Int)) = false := decide_eq_false c26
    have c26b1 : decide (2048 < t272.size) = false := decide_eq_false (by omega)
    clear c26
    have H' := Aside0.mk H
    clear H
    go_wp2_with (first | ((with_reducible refine gate_callee (f := 14) rfl ?_); refine goesL_ (some 31) rfl rfl Tryd.func14 (by kernel_rfl) rfl #[.string t272] rfl (by (try simp only [List.map_toArray, List.map_cons, List.map_nil]); first | done | rfl | (simp only [List.length_drop, List.length_take]; rfl)) ?_; (with_reducible refine (image_Decode.calls kj2 t272 t274 t277 t278 t279 t280 t281 _ ?side1 A22.out).mono ?_); (case side1 => first | ((refine Glob.keep HG.out ?_); (repeat (first | (with_reducible first | exact HB.out | apply below_alloc | apply pw_below_drewN | apply below_drew1 | refine below_set ?_ GE262.out) | exact HB.out)); done) | exact HG.out); rintro e w27 ⟨v275, rfl, ho0, hb⟩; refine ⟨_, rfl, ?_⟩; have n0_ := Aside0.mk (Kd.R_elder' (by (with_reducible repeat (first | apply Kd.R_alloc | apply Kd.R_drewN | apply Kd.R_drew)); exact HO267.out) (Kd.R_base ho0) hb); have n1_ := Aside0.mk (Kd.R_lower (Kd.R_new' ho0 (Kd.R_lt (by (with_reducible repeat (first | apply Kd.R_alloc | apply Kd.R_drewN | apply Kd.R_drew)); exact HO267.out))) (below_size (hb_ HB))); have n2_ := Aside0.mk (blk_below (bk_ BK262) hb); have n3_ := Aside0.mk (below_step (hb_ HB) hb); clear HO267; clear BK262; clear HB; have HO267 := n0_; have HO276 := n1_; have BK262 := n2_; have HB := n3_; clear n0_ n1_ n2_ n3_; (try clear hb); (try clear hb2); (try clear hk); (try clear hi); (try clear ho0)) | ((with_reducible refine gate_dst (N := 7) rfl ?_); (try (refine gate_guard (by rfl) ?_; dsimp only)); refine box_event ?hg (N := 7) ?hd (cs := #[.slice none 0 0, .int .i64 0, .string (⟨#[]⟩ : ByteArray), .int .u32 0, .bool false]) (t := 27) ?hr ?_; (case hd => rfl); (case hg => rfl); (case hr => first | (go_simp; done) | (go_simp; rfl)); intro gb282 hg w28 hbox hb; have n0_ := Aside0.mk (Kd.R_below (by (with_reducible repeat (first | apply Kd.R_alloc | apply Kd.R_drewN | apply Kd.R_drew)); exact HO267.out) hb); have n1_ := Aside0.mk (Kd.R_below (by (with_reducible repeat (first | apply Kd.R_alloc | apply Kd.R_drewN | apply Kd.R_drew)); exact HO276.out) hb); have n2_ := Aside0.mk (blk_below (bk_ BK262) hb); have n3_ := Aside0.mk (below_step (hb_ HB) hb); have n4_ := Aside0.mk (hbox); have n5_ := Aside0.mk ((by rw [hg]; exact (below_size (hb_ HB)) : w.heap.size ≤ gb282)); have n6_ := Aside0.mk ((by rw [hg]; exact (below_size (hb_ HB)) : w.heap.size ≤ gb282)); have n7_ := Aside0.mk ((by rw [hg]; exact Nat.ne_of_lt (blk_lt (g := gb262) (o := .cells #[.slice A0_0 l0_0.length c0_0, .int .i64 a0_1, .string a0_2, .int .u32 a0_3, .bool a0_4] 27 (0, 0)) (bk_ BK262)) : gb262 ≠ gb282)); have n8_ := Aside0.mk ((by rw [hg]; exact Nat.ne_of_gt (blk_lt (g := gb262) (o := .cells #[.slice A0_0 l0_0.length c0_0, .int .i64 a0_1, .string a0_2, .int .u32 a0_3, .bool a0_4] 27 (0, 0)) (bk_ BK262)) : gb282 ≠ gb262)); clear HO267; clear HO276; clear BK262; clear HB; have HO267 := n0_; have HO276 := n1_; have BK262 := n2_; have HB := n3_; have BK282 := n4_; have GW282 := n5_; have GE282 := n6_; have NB262_282 := n7_; have NB282_262 := n8_; clear n0_ n1_ n2_ n3_ n4_ n5_ n6_ n7_ n8_; clear hb hbox hg; obtain ⟨Ao29, co29, eo29⟩ := Kd.R_slice HO276.out; subst eo29; have hnb30 := NB282_262.out; have hnc30 := NB262_282.out; have hcz31_0 : w28.cell? ⟨gb282, 0, none⟩ = some (.slice none 0 0) := (blk_cell BK282.out 0).trans rfl; have hcz31_1 : w28.cell? ⟨gb282, 1, none⟩ = some (.int .i64 0) := (blk_cell BK282.out 1).trans rfl; have hcz31_2 : w28.cell? ⟨gb282, 2, none⟩ = some (.string (⟨#[]⟩ : ByteArray)) := (blk_cell BK282.out 2).trans rfl; have hcz31_3 : w28.cell? ⟨gb282, 3, none⟩ = some (.int .u32 0) := (blk_cell BK282.out 3).trans rfl; have hcz31_4 : w28.cell? ⟨gb282, 4, none⟩ = some (.bool false) := (blk_cell BK282.out 4).trans rfl; have hfz31_0 := blk_frozen BK282.out 0; have hfz31_1 := blk_frozen BK282.out 1; have hfz31_2 := blk_frozen BK282.out 2; have hfz31_3 := blk_frozen BK282.out 3; have hfz31_4 := blk_frozen BK282.out 4; have hcz32_0 : w28.cell? ⟨gb262, 0, none⟩ = some (.slice A0_0 l0_0.length c0_0) := (blk_cell BK262.out 0).trans rfl; have hcz32_1 : w28.cell? ⟨gb262, 1, none⟩ = some (.int .i64 a0_1) := (blk_cell BK262.out 1).trans rfl; have hcz32_2 : w28.cell? ⟨gb262, 2, none⟩ = some (.string a0_2) := (blk_cell BK262.out 2).trans rfl; have hcz32_3 : w28.cell? ⟨gb262, 3, none⟩ = some (.int .u32 a0_3) := (blk_cell BK262.out 3).trans rfl; have hcz32_4 : w28.cell? ⟨gb262, 4, none⟩ = some (.bool a0_4) := (blk_cell BK262.out 4).trans rfl; have hfz32_0 := blk_frozen BK262.out 0; have hfz32_1 := blk_frozen BK262.out 1; have hfz32_2 := blk_frozen BK262.out 2; have hfz32_3 := blk_frozen BK262.out 3; have hfz32_4 := blk_frozen BK262.out 4) | (go_at_call 13; (with_reducible refine (headgatekeep_Tables.calls kj2 _ _ l0_0 a0_1 a0_2 a0_3 a0_4 _ _ t274 t277 t278 t279 t280 true _ ?side1 ?side2 ?side3 ?side4 A24.out).mono ?_); (case side1 => exact Kd.C_below HR0_0.out (hb_ HB)); (case side2 => exact HC0_0.out); (case side3 => refine (Kd.R_reads' (e := 48) (base := w.heap.size) (ok := fun k_ => (True ∧ some k_ ≠ (.slice Ao19 t265.length co19 : Value).ownBlock)) (n := t274.length) (c := co29) ?_).2.2; exact (by (with_reducible repeat (first | apply Kd.R_alloc | apply Kd.R_drewN | apply Kd.R_drew)); exact (Kd.R_mono (Kd.R_far (p := ⟨gb282, 4, none⟩) (Kd.R_far (p := ⟨gb282, 3, none⟩) (Kd.R_far (p := ⟨gb282, 2, none⟩) (Kd.R_far (p := ⟨gb282, 1, none⟩) (Kd.R_far (p := ⟨gb282, 0, none⟩) (Kd.R_types HO276.out BK282.out (by decide)) (fun _ hk => hk.2) (.slice Ao29 t274.length co29)) (fun _ hk => hk.2) (.int .i64 t277)) (fun _ hk => hk.2) (.string t278)) (fun _ hk => hk.2) (.int .u32 t279)) (fun _ hk => hk.2) (.bool t280)) (fun _ h_ => h_.1)))); (case side4 => exact (Kd.R_reads' HO276.out).2.1); rintro e w33 ⟨rfl, hb⟩; have n0_ := Aside0.mk (Kd.R_below (by (with_reducible repeat (first | apply Kd.R_alloc | apply Kd.R_drewN | apply Kd.R_drew)); exact (Kd.R_mono (Kd.R_far (p := ⟨gb282, 4, none⟩) (Kd.R_far (p := ⟨gb282, 3, none⟩) (Kd.R_far (p := ⟨gb282, 2, none⟩) (Kd.R_far (p := ⟨gb282, 1, none⟩) (Kd.R_far (p := ⟨gb282, 0, none⟩) (Kd.R_types HO267.out BK282.out (by decide)) (fun _ hk => hk.2) (.slice Ao29 t274.length co29)) (fun _ hk => hk.2) (.int .i64 t277)) (fun _ hk => hk.2) (.string t278)) (fun _ hk => hk.2) (.int .u32 t279)) (fun _ hk => hk.2) (.bool t280)) (fun _ h_ => h_.1))) hb); have n1_ := Aside0.mk (Kd.R_below (by (with_reducible repeat (first | apply Kd.R_alloc | apply Kd.R_drewN | apply Kd.R_drew)); exact (Kd.R_mono (Kd.R_far (p := ⟨gb282, 4, none⟩) (Kd.R_far (p := ⟨gb282, 3, none⟩) (Kd.R_far (p := ⟨gb282, 2, none⟩) (Kd.R_far (p := ⟨gb282, 1, none⟩) (Kd.R_far (p := ⟨gb282, 0, none⟩) (Kd.R_types HO276.out BK282.out (by decide)) (fun _ hk => hk.2) (.slice Ao29 t274.length co29)) (fun _ hk => hk.2) (.int .i64 t277)) (fun _ hk => hk.2) (.string t278)) (fun _ hk => hk.2) (.int .u32 t279)) (fun _ hk => hk.2) (.bool t280)) (fun _ h_ => h_.1))) hb); have n2_ := Aside0.mk (blk_below (g := gb262) (o := .cells #[.slice A0_0 l0_0.length c0_0, .int .i64 a0_1, .string a0_2, .int .u32 a0_3, .bool a0_4] 27 (0, 0)) (by (with_reducible repeat (first | refine blk_drewN ?_ _ | refine blk_drew ?_ | refine blk_alloc ?_ _ | refine blk_far ?_ NB262_282.out _)); exact BK262.out) hb); have n3_ := Aside0.mk (blk_below (g := gb282) (o := .cells #[.slice Ao29 t274.length co29, .int .i64 t277, .string t278, .int .u32 t279, .bool t280] 27 (0, 0)) (by (with_reducible repeat (first | refine blk_drewN ?_ _ | refine blk_drew ?_ | refine blk_alloc ?_ _)); refine blk_put (cs := #[.slice Ao29 t274.length co29, .int .i64 t277, .string t278, .int .u32 t279, .bool false]) ?_ 4 _ rfl; (with_reducible repeat (first | refine blk_drewN ?_ _ | refine blk_drew ?_ | refine blk_alloc ?_ _)); refine blk_put (cs := #[.slice Ao29 t274.length co29, .int .i64 t277, .string t278, .int .u32 0, .bool false]) ?_ 3 _ rfl; (with_reducible repeat (first | refine blk_drewN ?_ _ | refine blk_drew ?_ | refine blk_alloc ?_ _)); refine blk_put (cs := #[.slice Ao29 t274.length co29, .int .i64 t277, .string (⟨#[]⟩ : ByteArray), .int .u32 0, .bool false]) ?_ 2 _ rfl; (with_reducible repeat (first | refine blk_drewN ?_ _ | refine blk_drew ?_ | refine blk_alloc ?_ _)); refine blk_put (cs := #[.slice Ao29 t274.length co29, .int .i64 0, .string (⟨#[]⟩ : ByteArray), .int .u32 0, .bool false]) ?_ 1 _ rfl; (with_reducible repeat (first | refine blk_drewN ?_ _ | refine blk_drew ?_ | refine blk_alloc ?_ _)); refine blk_put (cs := #[.slice none 0 0, .int .i64 0, .string (⟨#[]⟩ : ByteArray), .int .u32 0, .bool false]) ?_ 0 _ rfl; (with_reducible repeat (first | refine blk_drewN ?_ _ | refine blk_drew ?_ | refine blk_alloc ?_ _)); exact BK282.out) hb); have n4_ := Aside0.mk (below_step (hb_ HB) hb); clear HO267; clear HO276; clear BK262; clear BK282; clear HB; have HO267 := n0_; have HO276 := n1_; have BK262 := n2_; have BK282 := n3_; have HB := n4_; clear n0_ n1_ n2_ n3_ n4_; (try clear hb); (try clear hb2); (try clear hk); (try clear hi)))
    go_meet
    case rel => exact ⟨_, H', ⟨by have := HJ2.out; first | omega | exact Nat.le_refl _⟩, ⟨bk_ BK262⟩, ⟨hb_ HB⟩⟩
   case rest =>
    clear HC16
    try clear c1
    try clear c2
    try clear p2
    try clear c3
    try clear c5
    try clear c6
    try clear c8
    try clear c9
    try clear c10
    try clear c11
    try clear c14
    try clear c21
    try clear c21b0
    try clear c21b1
    try clear c23
    try clear c23b0
    try clear c23b1
    try clear c25
    try clear c26
    try clear c26b0
    try clear c26b1
    try clear c30
    try clear hcz17_0
    try clear hcz17_1
    try clear hcz17_2
    try clear hcz17_3
    try clear hcz17_4
    try clear hcz31_0
    try clear hcz31_1
    try clear hcz31_2
    try clear hcz31_3
    try clear hcz31_4
    try clear hcz32_0
    try clear hcz32_1
    try clear hcz32_2
    try clear hcz32_3
    try clear hcz32_4
    try clear hcz7_0
    try clear hcz7_1
    try clear hcz7_2
    try clear hcz7_3
    try clear hcz7_4
    try clear hcz9_0
    try clear hcz9_1
    try clear hcz9_2
    try clear hcz9_3
    try clear hcz9_4
    try clear hfz17_0
    try clear hfz17_1
    try clear hfz17_2
    try clear hfz17_3
    try clear hfz17_4
    try clear hfz31_0
    try clear hfz31_1
    try clear hfz31_2
    try clear hfz31_3
    try clear hfz31_4
    try clear hfz32_0
    try clear hfz32_1
    try clear hfz32_2
    try clear hfz32_3
    try clear hfz32_4
    try clear hfz7_0
    try clear hfz7_1
    try clear hfz7_2
    try clear hfz7_3
    try clear hfz7_4
    try clear hfz9_0
    try clear hfz9_1
    try clear hfz9_2
    try clear hfz9_3
    try clear hfz9_4
    try clear p2
    obtain ⟨kq, HA, HJ15, BK262, HB⟩ := hcut
    cases kq with
    | zero => exact absurd HA.out (by simp [headgatelaw12_ImageBack.j1])
    | succ kj15 =>
     have H := HA.out
     clear HA
     simp only [headgatelaw12_ImageBack.j1] at H
     replace H := Option.bind_eq_some_iff.mp H
     obtain ⟨⟨t284, t287, t288, t289, t290, t291⟩, A340, H⟩ := H
     try dsimp only at H
     have A34 := Aside0.mk A340
     clear A340
     refine neg_first (p := (t291 = 0)) (fun c35 => ?_) (fun c35 => ?_)
     ·rw [if_neg c35] at H
      have c35b0 : (t291 == 0) = false := beq_eq_false_iff_ne.mpr c35
      have c35b1 : (t291 != 0) = true := bne_iff_ne.mpr c35
      refine neg_first (p := (t291 = 61)) (fun c47 => ?_) (fun c47 => ?_)
      ·rw [if_neg c47] at H
       have c47b0 : (t291 == 61) = false := beq_eq_false_iff_ne.mpr c47
       have c47b1 : (t291 != 61) = true := bne_iff_ne.mpr c47
       exact absurd ((Option.some.inj H).trans HT0.out) (by decide)

      rw [if_pos c47] at H
      have c47b0 : (t291 == 61) = true := beq_iff_eq.mpr c47
      have c47b1 : (t291 != 61) = false := bne_eq_false_iff_eq.mpr c47
      clear c47
      refine neg_first (p := ((t284.length : Int) = 0)) (fun c48 => ?_) (fun c48 => ?_)
      ·rw [if_neg c48] at H
       have c48b0 : ((t284.length : Int) == 0) = false := beq_eq_false_iff_ne.mpr c48
       have c48b1 : ((t284.length : Int) != 0) = true := bne_iff_ne.mpr c48
       have c48b2 : ¬ (t284 = []) := fun h_ => c48 (by rw [h_]; rfl)
       exact absurd ((Option.some.inj H).trans HT0.out) (by decide)
      rw [if_pos c48] at H
      have c48b0 : ((t284.length : Int) == 0) = true := beq_iff_eq.mpr c48
      have c48b1 : ((t284.length : Int) != 0) = false := bne_eq_false_iff_eq.mpr c48
      clear c48
      refine neg_first (p := (t287 = 0)) (fun c49 => ?_) (fun c49 => ?_)
      ·rw [if_neg c49] at H
       have c49b0 : (t287 == 0) = false := beq_eq_false_iff_ne.mpr c49
       have c49b1 : (t287 != 0) = true := bne_iff_ne.mpr c49
       exact absurd ((Option.some.inj H).trans HT0.out) (by decide)
      rw [if_pos c49] at H
      have c49b0 : (t287 == 0) = true := beq_iff_eq.mpr c49
      have c49b1 : (t287 != 0) = false := bne_eq_false_iff_eq.mpr c49
      clear c49
      replace H := Option.bind_eq_some_iff.mp H
      obtain ⟨t296, A500, H⟩ := H
      try dsimp only at H
      have A50 := Aside0.mk A500
      clear A500
      obtain rfl := Option.some.inj H
      go_wp2_with (first | ((with_reducible refine gate_callee (f := 14) rfl ?_); refine goesL_ (some 49) rfl rfl Tryd.func14 (by kernel_rfl) rfl #[.string a1] rfl (by (try simp only [List.map_toArray, List.map_cons, List.map_nil]); first | done | rfl | (simp only [List.length_drop, List.length_take]; rfl)) ?_; (with_reducible refine (image_Decode.calls kj15 a1 t284 t287 t288 t289 t290 t291 _ ?side1 A34.out).mono ?_); (case side1 => first | ((refine Glob.keep HG.out ?_); (repeat (first | (with_reducible first | exact HB.out | apply below_alloc | apply pw_below_drewN | apply below_drew1 | refine below_set ?_ GE262.out) | exact HB.out)); done) | exact HG.out); rintro e w51 ⟨v285, rfl, ho0, hb⟩; refine ⟨_, rfl, ?_⟩; have n0_ := Aside0.mk (Kd.R_lower ho0 (below_size (hb_ HB))); have n1_ := Aside0.mk (blk_below (bk_ BK262) hb); have n2_ := Aside0.mk (below_step (hb_ HB) hb); clear BK262; clear HB; have HO286 := n0_; have BK262 := n1_; have HB := n2_; clear n0_ n1_ n2_; (try clear hb); (try clear hb2); (try clear hk); (try clear hi); (try clear ho0)) | ((with_reducible refine gate_dst (N := 9) rfl ?_); (try (refine gate_guard (by rfl) ?_; dsimp only)); refine box_event ?hg (N := 9) ?hd (cs := #[.slice none 0 0, .int .i64 0, .string (⟨#[]⟩ : ByteArray), .int .u32 0, .bool false]) (t := 27) ?hr ?_; (case hd => rfl); (case hg => rfl); (case hr => first | (go_simp; done) | (go_simp; rfl)); intro gb292 hg w52 hbox hb; have n0_ := Aside0.mk (Kd.R_below (by (with_reducible repeat (first | apply Kd.R_alloc | apply Kd.R_drewN | apply Kd.R_drew)); exact HO286.out) hb); have n1_ := Aside0.mk (blk_below (bk_ BK262) hb); have n2_ := Aside0.mk (below_step (hb_ HB) hb); have n3_ := Aside0.mk (hbox); have n4_ := Aside0.mk ((by rw [hg]; exact (below_size (hb_ HB)) : w.heap.size ≤ gb292)); have n5_ := Aside0.mk ((by rw [hg]; exact (below_size (hb_ HB)) : w.heap.size ≤ gb292)); have n6_ := Aside0.mk ((by rw [hg]; exact Nat.ne_of_lt (blk_lt (g := gb262) (o := .cells #[.slice A0_0 l0_0.length c0_0, .int .i64 a0_1, .string a0_2, .int .u32 a0_3, .bool a0_4] 27 (0, 0)) (bk_ BK262)) : gb262 ≠ gb292)); have n7_ := Aside0.mk ((by rw [hg]; exact Nat.ne_of_gt (blk_lt (g := gb262) (o := .cells #[.slice A0_0 l0_0.length c0_0, .int .i64 a0_1, .string a0_2, .int .u32 a0_3, .bool a0_4] 27 (0, 0)) (bk_ BK262)) : gb292 ≠ gb262)); clear HO286; clear BK262; clear HB; have HO286 := n0_; have BK262 := n1_; have HB := n2_; have BK292 := n3_; have GW292 := n4_; have GE292 := n5_; have NB262_292 := n6_; have NB292_262 := n7_; clear n0_ n1_ n2_ n3_ n4_ n5_ n6_ n7_; clear hb hbox hg; obtain ⟨Ao53, co53, eo53⟩ := Kd.R_slice HO286.out; subst eo53; have hnb54 := NB292_262.out; have hnc54 := NB262_292.out; have hcz55_0 : w52.cell? ⟨gb292, 0, none⟩ = some (.slice none 0 0) := (blk_cell BK292.out 0).trans rfl; have hcz55_1 : w52.cell? ⟨gb292, 1, none⟩ = some (.int .i64 0) := (blk_cell BK292.out 1).trans rfl; have hcz55_2 : w52.cell? ⟨gb292, 2, none⟩ = some (.string (⟨#[]⟩ : ByteArray)) := (blk_cell BK292.out 2).trans rfl; have hcz55_3 : w52.cell? ⟨gb292, 3, none⟩ = some (.int .u32 0) := (blk_cell BK292.out 3).trans rfl; have hcz55_4 : w52.cell? ⟨gb292, 4, none⟩ = some (.bool false) := (blk_cell BK292.out 4).trans rfl; have hfz55_0 := blk_frozen BK292.out 0; have hfz55_1 := blk_frozen BK292.out 1; have hfz55_2 := blk_frozen BK292.out 2; have hfz55_3 := blk_frozen BK292.out 3; have hfz55_4 := blk_frozen BK292.out 4) | (go_at_call 9; (with_reducible refine (headgatelaw12_wakes.calls kj15  t296 _ ?side1 A50.out).mono ?_); (case side1 => first | ((refine Glob.keep HG.out ?_); (repeat (first | (with_reducible first | exact HB.out | apply below_alloc | apply pw_below_drewN | apply below_drew1 | refine below_set ?_ GE262.out | refine below_set ?_ GE292.out) | exact HB.out)); done) | exact HG.out); rintro e w56 ⟨rfl, hb⟩; have n0_ := Aside0.mk (Kd.R_below (by (with_reducible repeat (first | apply Kd.R_alloc | apply Kd.R_drewN | apply Kd.R_drew)); exact (Kd.R_mono (Kd.R_far (p := ⟨gb292, 4, none⟩) (Kd.R_far (p := ⟨gb292, 3, none⟩) (Kd.R_far (p := ⟨gb292, 2, none⟩) (Kd.R_far (p := ⟨gb292, 1, none⟩) (Kd.R_far (p := ⟨gb292, 0, none⟩) (Kd.R_types HO286.out BK292.out (by decide)) (fun _ hk => hk.2) (.slice Ao53 t284.length co53)) (fun _ hk => hk.2) (.int .i64 t287)) (fun _ hk => hk.2) (.string t288)) (fun _ hk => hk.2) (.int .u32 t289)) (fun _ hk => hk.2) (.bool t290)) (fun _ h_ => h_.1))) hb); have n1_ := Aside0.mk (blk_below (g := gb262) (o := .cells #[.slice A0_0 l0_0.length c0_0, .int .i64 a0_1, .string a0_2, .int .u32 a0_3, .bool a0_4] 27 (0, 0)) (by (with_reducible repeat (first | refine blk_drewN ?_ _ | refine blk_drew ?_ | refine blk_alloc ?_ _ | refine blk_far ?_ NB262_292.out _)); exact BK262.out) hb); have n2_ := Aside0.mk (blk_below (g := gb292) (o := .cells #[.slice Ao53 t284.length co53, .int .i64 t287, .string t288, .int .u32 t289, .bool t290] 27 (0, 0)) (by (with_reducible repeat (first | refine blk_drewN ?_ _ | refine blk_drew ?_ | refine blk_alloc ?_ _)); refine blk_put (cs := #[.slice Ao53 t284.length co53, .int .i64 t287, .string t288, .int .u32 t289, .bool false]) ?_ 4 _ rfl; (with_reducible repeat (first | refine blk_drewN ?_ _ | refine blk_drew ?_ | refine blk_alloc ?_ _)); refine blk_put (cs := #[.slice Ao53 t284.length co53, .int .i64 t287, .string t288, .int .u32 0, .bool false]) ?_ 3 _ rfl; (with_reducible repeat (first | refine blk_drewN ?_ _ | refine blk_drew ?_ | refine blk_alloc ?_ _)); refine blk_put (cs := #[.slice Ao53 t284.length co53, .int .i64 t287, .string (⟨#[]⟩ : ByteArray), .int .u32 0, .bool false]) ?_ 2 _ rfl; (with_reducible repeat (first | refine blk_drewN ?_ _ | refine blk_drew ?_ | refine blk_alloc ?_ _)); refine blk_put (cs := #[.slice Ao53 t284.length co53, .int .i64 0, .string (⟨#[]⟩ : ByteArray), .int .u32 0, .bool false]) ?_ 1 _ rfl; (with_reducible repeat (first | refine blk_drewN ?_ _ | refine blk_drew ?_ | refine blk_alloc ?_ _)); refine blk_put (cs := #[.slice none 0 0, .int .i64 0, .string (⟨#[]⟩ : ByteArray), .int .u32 0, .bool false]) ?_ 0 _ rfl; (with_reducible repeat (first | refine blk_drewN ?_ _ | refine blk_drew ?_ | refine blk_alloc ?_ _)); exact BK292.out) hb); have n3_ := Aside0.mk (below_step (hb_ HB) hb); clear HO286; clear BK262; clear BK292; clear HB; have HO286 := n0_; have BK262 := n1_; have BK292 := n2_; have HB := n3_; clear n0_ n1_ n2_ n3_; (try clear hb); (try clear hb2); (try clear hk); (try clear hi)))
      go_ret
      exact ⟨by first | rfl | (simp [errW_none, errW_some] <;> rfl) | (simp [*, errW_none, errW_some] <;> rfl) | (simp [bt, *]; done) | (unfold bt; simp [*]; done), by repeat (first | (with_reducible first | exact HB.out | apply below_alloc | apply pw_below_drewN | apply below_drew1 | refine below_set ?_ GE262.out | refine below_set ?_ GE292.out) | exact HB.out)⟩
     rw [if_pos c35] at H
     have c35b0 : (t291 == 0) = true := beq_iff_eq.mpr c35
     have c35b1 : (t291 != 0) = false := bne_eq_false_iff_eq.mpr c35
     clear c35
     replace H := Option.bind_eq_some_iff.mp H
     obtain ⟨⟨t293, t294⟩, A360, H⟩ := H
     try dsimp only at H
     have A36 := Aside0.mk A360
     clear A360
     refine neg_first (p := (t294 = 0)) (fun c37 => ?_) (fun c37 => ?_)
     ·rw [if_neg c37] at H
      have c37b0 : (t294 == 0) = false := beq_eq_false_iff_ne.mpr c37
      have c37b1 : (t294 != 0) = true := bne_iff_ne.mpr c37
      exact absurd ((Option.some.inj H).trans HT0.out) (by decide)
     rw [if_pos c37] at H
     have c37b0 : (t294 == 0) = true := beq_iff_eq.mpr c37
     have c37b1 : (t294 != 0) = false := bne_eq_false_iff_eq.mpr c37
     clear c37
     refine neg_first (p := (t293.toList = a1.toList)) (fun c38 => ?_) (fun c38 => ?_)
     ·rw [if_neg c38] at H
      have c38b0 : (t293.toList == a1.toList) = false := beq_eq_false_iff_ne.mpr c38
      have c38b1 : (t293.toList != a1.toList) = true := bne_iff_ne.mpr c38
      exact absurd ((Option.some.inj H).trans HT0.out) (by decide)
     rw [if_pos c38] at H
     have c38b0 : (t293.toList == a1.toList) = true := beq_iff_eq.mpr c38
     have c38b1 : (t293.toList != a1.toList) = false := bne_eq_false_iff_eq.mpr c38
     clear c38
     replace H := Option.bind_eq_some_iff.mp H
     obtain ⟨t295, A390, H⟩ := H
     try dsimp only at H
     have A39 := Aside0.mk A390
     clear A390
     obtain rfl := Option.some.inj H
     go_wp2_with (first | ((with_reducible refine gate_callee (f := 14) rfl ?_); refine goesL_ (some 49) rfl rfl Tryd.func14 (by kernel_rfl) rfl #[.string a1] rfl (by (try simp only [List.map_toArray, List.map_cons, List.map_nil]); first | done | rfl | (simp only [List.length_drop, List.length_take]; rfl)) ?_; (with_reducible refine (image_Decode.calls kj15 a1 t284 t287 t288 t289 t290 t291 _ ?side1 A34.out).mono ?_); (case side1 => first | ((refine Glob.keep HG.out ?_); (repeat (first | (with_reducible first | exact HB.out | apply below_alloc | apply pw_below_drewN | apply below_drew1 | refine below_set ?_ GE262.out) | exact HB.out)); done) | exact HG.out); rintro e w40 ⟨v285, rfl, ho0, hb⟩; refine ⟨_, rfl, ?_⟩; have n0_ := Aside0.mk (Kd.R_lower ho0 (below_size (hb_ HB))); have n1_ := Aside0.mk (blk_below (bk_ BK262) hb); have n2_ := Aside0.mk (below_step (hb_ HB) hb); clear BK262; clear HB; have HO286 := n0_; have BK262 := n1_; have HB := n2_; clear n0_ n1_ n2_; (try clear hb); (try clear hb2); (try clear hk); (try clear hi); (try clear ho0)) | ((with_reducible refine gate_dst (N := 9) rfl ?_); (try (refine gate_guard (by rfl) ?_; dsimp only)); refine box_event ?hg (N := 9) ?hd (cs := #[.slice none 0 0, .int .i64 0, .string (⟨#[]⟩ : ByteArray), .int .u32 0, .bool false]) (t := 27) ?hr ?_; (case hd => rfl); (case hg => rfl); (case hr => first | (go_simp; done) | (go_simp; rfl)); intro gb292 hg w41 hbox hb; have n0_ := Aside0.mk (Kd.R_below (by (with_reducible repeat (first | apply Kd.R_alloc | apply Kd.R_drewN | apply Kd.R_drew)); exact HO286.out) hb); have n1_ := Aside0.mk (blk_below (bk_ BK262) hb); have n2_ := Aside0.mk (below_step (hb_ HB) hb); have n3_ := Aside0.mk (hbox); have n4_ := Aside0.mk ((by rw [hg]; exact (below_size (hb_ HB)) : w.heap.size ≤ gb292)); have n5_ := Aside0.mk ((by rw [hg]; exact (below_size (hb_ HB)) : w.heap.size ≤ gb292)); have n6_ := Aside0.mk ((by rw [hg]; exact Nat.ne_of_lt (blk_lt (g := gb262) (o := .cells #[.slice A0_0 l0_0.length c0_0, .int .i64 a0_1, .string a0_2, .int .u32 a0_3, .bool a0_4] 27 (0, 0)) (bk_ BK262)) : gb262 ≠ gb292)); have n7_ := Aside0.mk ((by rw [hg]; exact Nat.ne_of_gt (blk_lt (g := gb262) (o := .cells #[.slice A0_0 l0_0.length c0_0, .int .i64 a0_1, .string a0_2, .int .u32 a0_3, .bool a0_4] 27 (0, 0)) (bk_ BK262)) : gb292 ≠ gb262)); clear HO286; clear BK262; clear HB; have HO286 := n0_; have BK262 := n1_; have HB := n2_; have BK292 := n3_; have GW292 := n4_; have GE292 := n5_; have NB262_292 := n6_; have NB292_262 := n7_; clear n0_ n1_ n2_ n3_ n4_ n5_ n6_ n7_; clear hb hbox hg; obtain ⟨Ao42, co42, eo42⟩ := Kd.R_slice HO286.out; subst eo42; have hnb43 := NB292_262.out; have hnc43 := NB262_292.out; have hcz44_0 : w41.cell? ⟨gb292, 0, none⟩ = some (.slice none 0 0) := (blk_cell BK292.out 0).trans rfl; have hcz44_1 : w41.cell? ⟨gb292, 1, none⟩ = some (.int .i64 0) := (blk_cell BK292.out 1).trans rfl; have hcz44_2 : w41.cell? ⟨gb292, 2, none⟩ = some (.string (⟨#[]⟩ : ByteArray)) := (blk_cell BK292.out 2).trans rfl; have hcz44_3 : w41.cell? ⟨gb292, 3, none⟩ = some (.int .u32 0) := (blk_cell BK292.out 3).trans rfl; have hcz44_4 : w41.cell? ⟨gb292, 4, none⟩ = some (.bool false) := (blk_cell BK292.out 4).trans rfl; have hfz44_0 := blk_frozen BK292.out 0; have hfz44_1 := blk_frozen BK292.out 1; have hfz44_2 := blk_frozen BK292.out 2; have hfz44_3 := blk_frozen BK292.out 3; have hfz44_4 := blk_frozen BK292.out 4) | ((with_reducible refine gate_callee (f := 11) rfl ?_); refine goesL_ (some 73) rfl rfl Tryd.func11 (by kernel_rfl) rfl #[.agg #[.slice Ao42 t284.length co42, .int .i64 t287, .string t288, .int .u32 t289, .bool t290]] rfl (by (try simp only [List.map_toArray, List.map_cons, List.map_nil]); first | done | rfl | (simp only [List.length_drop, List.length_take]; rfl)) ?_; (with_reducible refine (image_Encode.calls kj15 _ _ t284 t287 t288 t289 t290 t293 t294 _ ?side1 ?side2 ?side3 A36.out).mono ?_); (case side1 => refine (Kd.R_reads' (e := 48) (base := w.heap.size) (ok := fun k_ => True) (n := t284.length) (c := co42) ?_).2.2; exact (by (with_reducible repeat (first | apply Kd.R_alloc | apply Kd.R_drewN | apply Kd.R_drew)); exact (Kd.R_mono (Kd.R_far (p := ⟨gb292, 4, none⟩) (Kd.R_far (p := ⟨gb292, 3, none⟩) (Kd.R_far (p := ⟨gb292, 2, none⟩) (Kd.R_far (p := ⟨gb292, 1, none⟩) (Kd.R_far (p := ⟨gb292, 0, none⟩) (Kd.R_types HO286.out BK292.out (by decide)) (fun _ hk => hk.2) (.slice Ao42 t284.length co42)) (fun _ hk => hk.2) (.int .i64 t287)) (fun _ hk => hk.2) (.string t288)) (fun _ hk => hk.2) (.int .u32 t289)) (fun _ hk => hk.2) (.bool t290)) (fun _ h_ => h_.1)))); (case side2 => exact (Kd.R_reads' HO286.out).2.1); (case side3 => first | ((refine Glob.keep HG.out ?_); (repeat (first | (with_reducible first | exact HB.out | apply below_alloc | apply pw_below_drewN | apply below_drew1 | refine below_set ?_ GE262.out | refine below_set ?_ GE292.out) | exact HB.out)); done) | exact HG.out); rintro e w45 ⟨rfl, hb⟩; refine ⟨_, rfl, ?_⟩; have n0_ := Aside0.mk (Kd.R_below (by (with_reducible repeat (first | apply Kd.R_alloc | apply Kd.R_drewN | apply Kd.R_drew)); exact (Kd.R_mono (Kd.R_far (p := ⟨gb292, 4, none⟩) (Kd.R_far (p := ⟨gb292, 3, none⟩) (Kd.R_far (p := ⟨gb292, 2, none⟩) (Kd.R_far (p := ⟨gb292, 1, none⟩) (Kd.R_far (p := ⟨gb292, 0, none⟩) (Kd.R_types HO286.out BK292.out (by decide)) (fun _ hk => hk.2) (.slice Ao42 t284.length co42)) (fun _ hk => hk.2) (.int .i64 t287)) (fun _ hk => hk.2) (.string t288)) (fun _ hk => hk.2) (.int .u32 t289)) (fun _ hk => hk.2) (.bool t290)) (fun _ h_ => h_.1))) hb); have n1_ := Aside0.mk (blk_below (g := gb262) (o := .cells #[.slice A0_0 l0_0.length c0_0, .int .i64 a0_1, .string a0_2, .int .u32 a0_3, .bool a0_4] 27 (0, 0)) (by (with_reducible repeat (first | refine blk_drewN ?_ _ | refine blk_drew ?_ | refine blk_alloc ?_ _ | refine blk_far ?_ NB262_292.out _)); exact BK262.out) hb); have n2_ := Aside0.mk (blk_below (g := gb292) (o := .cells #[.slice Ao42 t284.length co42, .int .i64 t287, .string t288, .int .u32 t289, .bool t290] 27 (0, 0)) (by (with_reducible repeat (first | refine blk_drewN ?_ _ | refine blk_drew ?_ | refine blk_alloc ?_ _)); refine blk_put (cs := #[.slice Ao42 t284.length co42, .int .i64 t287, .string t288, .int .u32 t289, .bool false]) ?_ 4 _ rfl; (with_reducible repeat (first | refine blk_drewN ?_ _ | refine blk_drew ?_ | refine blk_alloc ?_ _)); refine blk_put (cs := #[.slice Ao42 t284.length co42, .int .i64 t287, .string t288, .int .u32 0, .bool false]) ?_ 3 _ rfl; (with_reducible repeat (first | refine blk_drewN ?_ _ | refine blk_drew ?_ | refine blk_alloc ?_ _)); refine blk_put (cs := #[.slice Ao42 t284.length co42, .int .i64 t287, .string (⟨#[]⟩ : ByteArray), .int .u32 0, .bool false]) ?_ 2 _ rfl; (with_reducible repeat (first | refine blk_drewN ?_ _ | refine blk_drew ?_ | refine blk_alloc ?_ _)); refine blk_put (cs := #[.slice Ao42 t284.length co42, .int .i64 0, .string (⟨#[]⟩ : ByteArray), .int .u32 0, .bool false]) ?_ 1 _ rfl; (with_reducible repeat (first | refine blk_drewN ?_ _ | refine blk_drew ?_ | refine blk_alloc ?_ _)); refine blk_put (cs := #[.slice none 0 0, .int .i64 0, .string (⟨#[]⟩ : ByteArray), .int .u32 0, .bool false]) ?_ 0 _ rfl; (with_reducible repeat (first | refine blk_drewN ?_ _ | refine blk_drew ?_ | refine blk_alloc ?_ _)); exact BK292.out) hb); have n3_ := Aside0.mk (below_step (hb_ HB) hb); clear HO286; clear BK262; clear BK292; clear HB; have HO286 := n0_; have BK262 := n1_; have BK292 := n2_; have HB := n3_; clear n0_ n1_ n2_ n3_; (try clear hb); (try clear hb2); (try clear hk); (try clear hi)) | (go_at_call 9; (with_reducible refine (headgatelaw12_wakes.calls kj15  t295 _ ?side1 A39.out).mono ?_); (case side1 => first | ((refine Glob.keep HG.out ?_); (repeat (first | (with_reducible first | exact HB.out | apply below_alloc | apply pw_below_drewN | apply below_drew1 | refine below_set ?_ GE262.out | refine below_set ?_ GE292.out) | exact HB.out)); done) | exact HG.out); rintro e w46 ⟨rfl, hb⟩; have n0_ := Aside0.mk (Kd.R_below (by (with_reducible repeat (first | apply Kd.R_alloc | apply Kd.R_drewN | apply Kd.R_drew)); exact HO286.out) hb); have n1_ := Aside0.mk (blk_below (bk_ BK262) hb); have n2_ := Aside0.mk (blk_below (bk_ BK292) hb); have n3_ := Aside0.mk (below_step (hb_ HB) hb); clear HO286; clear BK262; clear BK292; clear HB; have HO286 := n0_; have BK262 := n1_; have BK292 := n2_; have HB := n3_; clear n0_ n1_ n2_ n3_; (try clear hb); (try clear hb2); (try clear hk); (try clear hi)))
     go_ret
     exact ⟨by first | rfl | (simp [errW_none, errW_some] <;> rfl) | (simp [*, errW_none, errW_some] <;> rfl) | (simp [bt, *]; done) | (unfold bt; simp [*]; done), by repeat (first | (with_reducible first | exact HB.out | apply below_alloc | apply pw_below_drewN | apply below_drew1 | refine below_set ?_ GE262.out | refine below_set ?_ GE292.out) | exact HB.out)⟩
-- NOT PRINTED: function 6 (headgatelaw12_ImageCuts)

end Go.Proofs.YtmpicpenbhdbhaaDoor.P
