-- written by this session's patched copy of the printer (wip/tools/patch_print.py); Lean checks it
import Derived.Test.YtclcnkmefldpiaaDoorXcKeysOffers
namespace Go.Proofs.YtclcnkmefldpiaaDoor.P
open Go.RowKit Go.Proofs.YtclcnkmefldpiaaDoorW.PrintWords Go.Proofs.YtclcnkmefldpiaaDoorW.PrintLast Go.Proofs.YtclcnkmefldpiaaDoorW.PrintMore
attribute [local go_sem] max2_int min2_int max_two min_two max_three min_three max_four min_four   -- for this text's walks alone
set_option linter.unusedVariables false
set_option linter.unusedSimpArgs false
set_option linter.unnecessarySimpa false

/-! ### headgatelaw21_KeysOffers: function 5 -/
mutual
def headgatelaw21_KeysOffers.l0 : Nat → List (S45) → List (S45) → Int → Int → Option (Bool)
 | 0, _, _, _, _ => none
 | k + 1, x0, x4, x6, x7 => if x7 < (x0.length : Int) then (if x6 < (x4.length : Int) then (if 0 ≤ x6 then (if 0 ≤ x7 then (headgatelaw21_KeysOffers.j1 k x0 x4 x6 x7 (((rd_T45 x4 x6).f0).toList == ((rd_T45 x0 x7).f0).toList)) else (none)) else (none)) else (headgatelaw21_KeysOffers.j1 k x0 x4 x6 x7 false)) else (if x6 = (x4.length : Int) then ((headgatelaw21_wakes.f).bind fun t448 => (some t448)) else (some false))
def headgatelaw21_KeysOffers.j1 : Nat → List (S45) → List (S45) → Int → Int → Bool → Option (Bool)
 | 0, _, _, _, _, _ => none
 | k + 1, x0, x4, x6, x7, x50 => if x50 = true then (headgatelaw21_KeysOffers.l0 k x0 x4 (wrap64 (x6 + 1)) (wrap64 (x7 + 1))) else (if 0 ≤ x7 then (if x7 < (x0.length : Int) then (if ((rd_T45 x0 x7).f0).toList = ([73, 110, 105, 116, 105, 97, 116, 111, 114, 78, 97, 109, 101] : List UInt8) then (headgatelaw21_KeysOffers.l0 k x0 x4 x6 (wrap64 (x7 + 1))) else (if ((rd_T45 x0 x7).f0).toList = ([84, 97, 114, 103, 101, 116, 78, 97, 109, 101] : List UInt8) then (headgatelaw21_KeysOffers.l0 k x0 x4 x6 (wrap64 (x7 + 1))) else (if ((rd_T45 x0 x7).f0).toList = ([83, 101, 115, 115, 105, 111, 110, 84, 121, 112, 101] : List UInt8) then (headgatelaw21_KeysOffers.l0 k x0 x4 x6 (wrap64 (x7 + 1))) else (if ((rd_T45 x0 x7).f0).toList = ([73, 110, 105, 116, 105, 97, 116, 111, 114, 65, 108, 105, 97, 115] : List UInt8) then (headgatelaw21_KeysOffers.l0 k x0 x4 x6 (wrap64 (x7 + 1))) else (some false))))) else (none)) else (none))
end
def headgatelaw21_KeysOffers.f (k : Nat) (l0 : List (S45)) : Option (Bool) := (headgatelaw21_Large.f k l0).bind fun t421 => (if t421 = true then ((headgatelaw21_wakes.f).bind fun t422 => (some t422)) else ((keys_First.f).bind fun bt423 => ((headgatelaw21_few.f l0).bind fun t431 => ((keys_Answer.f bt423.1 bt423.2.1 bt423.2.2.1 bt423.2.2.2.1 bt423.2.2.2.2.1 bt423.2.2.2.2.2.1 bt423.2.2.2.2.2.2.1 bt423.2.2.2.2.2.2.2 t431).bind fun bt434 => (if bt434.2.2.2.2.2.2.2.2.2 = 0 then (headgatelaw21_KeysOffers.l0 k l0 bt434.2.2.2.2.2.2.2.2.1 0 0) else (if (bt434.2.2.2.2.2.2.2.2.1.length : Int) = 0 then ((headgatelaw21_wakes.f).bind fun t447 => (some t447)) else (some false)))))))
theorem headgatelaw21_KeysOffers.mono_l : ∀ k, (∀ y0 y1 y2 y3, LeO (headgatelaw21_KeysOffers.l0 k y0 y1 y2 y3) (headgatelaw21_KeysOffers.l0 (k + 1) y0 y1 y2 y3)) ∧ (∀ y0 y1 y2 y3 y4, LeO (headgatelaw21_KeysOffers.j1 k y0 y1 y2 y3 y4) (headgatelaw21_KeysOffers.j1 (k + 1) y0 y1 y2 y3 y4))
 | 0 => ⟨fun _ _ _ _ r h => by simp [headgatelaw21_KeysOffers.l0] at h, fun _ _ _ _ _ r h => by simp [headgatelaw21_KeysOffers.j1] at h⟩
 | k + 1 => by
  obtain ⟨ih0, ih1⟩ := headgatelaw21_KeysOffers.mono_l k
  refine ⟨?_, ?_⟩
  ·intro y0 y1 y2 y3
   unfold headgatelaw21_KeysOffers.l0
   repeat' first
   | (with_reducible exact ih0 _ _ _ _)
   | (with_reducible exact ih1 _ _ _ _ _)
   | (with_reducible exact headgatelaw21_Large.mono _ _)
   | (with_reducible exact LeO.refl _)
   | (with_reducible exact LeO.none _)
   | (with_reducible refine LeO.ite ?_ ?_)
   | (with_reducible refine LeO.bind ?_ (fun _ => ?_))
   | exact ih0 _ _ _ _
   | exact ih1 _ _ _ _ _
   | exact headgatelaw21_Large.mono _ _
   | exact LeO.none _
   | refine LeO.ite ?_ ?_
   | refine LeO.bind ?_ (fun _ => ?_)
  ·intro y0 y1 y2 y3 y4
   unfold headgatelaw21_KeysOffers.j1
   repeat' first
   | (with_reducible exact ih0 _ _ _ _)
   | (with_reducible exact ih1 _ _ _ _ _)
   | (with_reducible exact headgatelaw21_Large.mono _ _)
   | (with_reducible exact LeO.refl _)
   | (with_reducible exact LeO.none _)
   | (with_reducible refine LeO.ite ?_ ?_)
   | (with_reducible refine LeO.bind ?_ (fun _ => ?_))
   | exact ih0 _ _ _ _
   | exact ih1 _ _ _ _ _
   | exact headgatelaw21_Large.mono _ _
   | exact LeO.none _
   | refine LeO.ite ?_ ?_
   | refine LeO.bind ?_ (fun _ => ?_)
theorem headgatelaw21_KeysOffers.mono : ∀ a0 k, LeO (headgatelaw21_KeysOffers.f k a0) (headgatelaw21_KeysOffers.f (k + 1) a0) := by
 intro a0 k
 obtain ⟨ih0, ih1⟩ := headgatelaw21_KeysOffers.mono_l k
 unfold headgatelaw21_KeysOffers.f
 repeat' first
   | (with_reducible exact ih0 _ _ _ _)
   | (with_reducible exact ih1 _ _ _ _ _)
   | (with_reducible exact headgatelaw21_Large.mono _ _)
   | (with_reducible exact LeO.refl _)
   | (with_reducible exact LeO.none _)
   | (with_reducible refine LeO.ite ?_ ?_)
   | (with_reducible refine LeO.bind ?_ (fun _ => ?_))
   | exact ih0 _ _ _ _
   | exact ih1 _ _ _ _ _
   | exact headgatelaw21_Large.mono _ _
   | exact LeO.none _
   | refine LeO.ite ?_ ?_
   | refine LeO.bind ?_ (fun _ => ?_)
set_option maxHeartbeats 8000000 in
set_option maxRecDepth 100000 in
theorem headgatelaw21_KeysOffers.calls (k : Nat) (A0 : Option Addr) (c0 : Nat) (l0 : List (S45)) (r : Bool) (w : World) (hr0 : Kd.C k45 w A0 l0.length l0) (hc0 : l0.length ≤ c0) (hG : Glob w) (hT : r = true) (h : headgatelaw21_KeysOffers.f k l0 = some r) :
  Calls Tryd.prog 5 #[.slice A0 l0.length c0] w fun e w' => e = .returned (.bool r) ∧ Below w.heap.size w w' := by
 have hu23 := Tryd.underlying23
 have HT0 := Aside0.mk hT
 clear hT
 have HG := Aside0.mk hG
 clear hG
 have HR0 := Aside0.mk hr0
 have HC0 := Aside0.mk hc0
 clear hr0 hc0
 have HB := Aside0.mk (Below.refl w.heap.size w)
 have H : ((headgatelaw21_Large.f k l0).bind fun t421 => (if t421 = true then ((headgatelaw21_wakes.f).bind fun t422 => (some t422)) else ((keys_First.f).bind fun bt423 => ((headgatelaw21_few.f l0).bind fun t431 => ((keys_Answer.f bt423.1 bt423.2.1 bt423.2.2.1 bt423.2.2.2.1 bt423.2.2.2.2.1 bt423.2.2.2.2.2.1 bt423.2.2.2.2.2.2.1 bt423.2.2.2.2.2.2.2 t431).bind fun bt434 => (if bt434.2.2.2.2.2.2.2.2.2 = 0 then (headgatelaw21_KeysOffers.l0 k l0 bt434.2.2.2.2.2.2.2.2.1 0 0) else (if (bt434.2.2.2.2.2.2.2.2.1.length : Int) = 0 then ((headgatelaw21_wakes.f).bind fun t447 => (some t447)) else (some false)))))))) = some r := h
 clear h
 replace H := Option.bind_eq_some_iff.mp H
 obtain ⟨t421, A20, H⟩ := H
 try dsimp only at H
 have A2 := Aside0.mk A20
 clear A20
 by_cases c3 : t421 = true
 ·subst c3
  have H1 := H
  rw [if_pos rfl] at H1
  clear H
  have H := H1
  clear H1
  replace H := Option.bind_eq_some_iff.mp H
  obtain ⟨t422, A40, H⟩ := H
  try dsimp only at H
  have A4 := Aside0.mk A40
  clear A40
  obtain rfl := Option.some.inj H
  go_enter Tryd.func5, Tryd.ntmps5
  go_wp2_with (first | (go_at_call 8; (with_reducible refine (headgatelaw21_Large.calls k _ _ l0 true _ ?side1 ?side2 A2.out).mono ?_); (case side1 => repeat (first | exact HR0.out | (with_reducible refine Kd.C_alloc ?_ _) | (with_reducible refine Kd.C_drewN ?_ _) | (with_reducible refine Kd.C_drew ?_))); (case side2 => exact HC0.out); rintro e w' ⟨rfl, ⟨nd, rfl⟩⟩; (try first | exact ⟨rfl, _, World.drewN_drewN _ _ _⟩ | exact ⟨rfl, _, Eq.trans (World.drewN_drewN _ _ _) (congrArg (World.drewN _) (Nat.add_assoc _ _ _))⟩)) | (go_at_call 9; (with_reducible refine (headgatelaw21_wakes.calls  t422 _ ?side1 A4.out).mono ?_); (case side1 => first | ((refine Glob.keep HG.out ?_); (repeat (first | (with_reducible first | exact HB.out | apply below_alloc | apply pw_below_drewN | apply below_drew1) | exact HB.out)); done) | exact HG.out); rintro e w5 ⟨rfl, hb⟩; have n0_ := Aside0.mk (below_step (hb_ HB) hb); clear HB; have HB := n0_; clear n0_; (try clear hb); (try clear hb2); (try clear hk); (try clear hi)))
  repeat (go_quiet (first | (go_at_call 8; (with_reducible refine (headgatelaw21_Large.calls k _ _ l0 true _ ?side1 ?side2 A2.out).mono ?_); (case side1 => repeat (first | exact HR0.out | (with_reducible refine Kd.C_alloc ?_ _) | (with_reducible refine Kd.C_drewN ?_ _) | (with_reducible refine Kd.C_drew ?_))); (case side2 => exact HC0.out); rintro e w' ⟨rfl, ⟨nd, rfl⟩⟩; (try first | exact ⟨rfl, _, World.drewN_drewN _ _ _⟩ | exact ⟨rfl, _, Eq.trans (World.drewN_drewN _ _ _) (congrArg (World.drewN _) (Nat.add_assoc _ _ _))⟩)) | (go_at_call 9; (with_reducible refine (headgatelaw21_wakes.calls  t422 _ ?side1 A4.out).mono ?_); (case side1 => first | ((refine Glob.keep HG.out ?_); (repeat (first | (with_reducible first | exact HB.out | apply below_alloc | apply pw_below_drewN | apply below_drew1) | exact HB.out)); done) | exact HG.out); rintro e w5 ⟨rfl, hb⟩; have n0_ := Aside0.mk (below_step (hb_ HB) hb); clear HB; have HB := n0_; clear n0_; (try clear hb); (try clear hb2); (try clear hk); (try clear hi))); try go_wp2_with (first | (go_at_call 8; (with_reducible refine (headgatelaw21_Large.calls k _ _ l0 true _ ?side1 ?side2 A2.out).mono ?_); (case side1 => repeat (first | exact HR0.out | (with_reducible refine Kd.C_alloc ?_ _) | (with_reducible refine Kd.C_drewN ?_ _) | (with_reducible refine Kd.C_drew ?_))); (case side2 => exact HC0.out); rintro e w' ⟨rfl, ⟨nd, rfl⟩⟩; (try first | exact ⟨rfl, _, World.drewN_drewN _ _ _⟩ | exact ⟨rfl, _, Eq.trans (World.drewN_drewN _ _ _) (congrArg (World.drewN _) (Nat.add_assoc _ _ _))⟩)) | (go_at_call 9; (with_reducible refine (headgatelaw21_wakes.calls  t422 _ ?side1 A4.out).mono ?_); (case side1 => first | ((refine Glob.keep HG.out ?_); (repeat (first | (with_reducible first | exact HB.out | apply below_alloc | apply pw_below_drewN | apply below_drew1) | exact HB.out)); done) | exact HG.out); rintro e w5 ⟨rfl, hb⟩; have n0_ := Aside0.mk (below_step (hb_ HB) hb); clear HB; have HB := n0_; clear n0_; (try clear hb); (try clear hb2); (try clear hk); (try clear hi))))
  go_ret
  exact ⟨by first | rfl | (simp [errW_none, errW_some] <;> rfl) | (simp [*, errW_none, errW_some] <;> rfl) | (simp [bt, *]; done) | (unfold bt; simp [*]; done), by repeat (first | (with_reducible first | exact HB.out | apply below_alloc | apply pw_below_drewN | apply below_drew1) | exact HB.out)⟩
 replace c3 := Bool.eq_false_iff.mpr c3
 subst c3
 have H1 := H
 rw [if_neg (show ¬ (false = true) by decide)] at H1
 clear H
 have H := H1
 clear H1
 replace H := Option.bind_eq_some_iff.mp H
 obtain ⟨⟨t423, t424, t425, t426, t427, t428, t429, t430⟩, A60, H⟩ := H
 try dsimp only at H
 have A6 := Aside0.mk A60
 clear A60
 replace H := Option.bind_eq_some_iff.mp H
 obtain ⟨t431, A70, H⟩ := H
 try dsimp only at H
 have A7 := Aside0.mk A70
 clear A70
 replace H := Option.bind_eq_some_iff.mp H
 obtain ⟨⟨t434, t435, t436, t437, t438, t439, t440, t441, t442, t445⟩, A80, H⟩ := H
 try dsimp only at H
 have A8 := Aside0.mk A80
 clear A80
 refine neg_first (p := (t445 = 0)) (fun c9 => ?_) (fun c9 => ?_)
 ·rw [if_neg c9] at H
  have c9b0 : (t445 == 0) = false := beq_eq_false_iff_ne.mpr c9
  have c9b1 : (t445 != 0) = true := bne_iff_ne.mpr c9
  refine neg_first (p := ((t442.length : Int) = 0)) (fun c34 => ?_) (fun c34 => ?_)
  ·rw [if_neg c34] at H
   have c34b0 : ((t442.length : Int) == 0) = false := beq_eq_false_iff_ne.mpr c34
   have c34b1 : ((t442.length : Int) != 0) = true := bne_iff_ne.mpr c34
   have c34b2 : ¬ (t442 = []) := fun h_ => c34 (by rw [h_]; rfl)
   exact absurd ((Option.some.inj H).trans HT0.out) (by decide)

  rw [if_pos c34] at H
  have c34b0 : ((t442.length : Int) == 0) = true := beq_iff_eq.mpr c34
  have c34b1 : ((t442.length : Int) != 0) = false := bne_eq_false_iff_eq.mpr c34
  clear c34
  replace H := Option.bind_eq_some_iff.mp H
  obtain ⟨t447, A350, H⟩ := H
  try dsimp only at H
  have A35 := Aside0.mk A350
  clear A350
  obtain rfl := Option.some.inj H
  go_enter Tryd.func5, Tryd.ntmps5
  go_wp2_with (first | (go_at_call 8; (with_reducible refine (headgatelaw21_Large.calls k _ _ l0 false _ ?side1 ?side2 A2.out).mono ?_); (case side1 => repeat (first | exact HR0.out | (with_reducible refine Kd.C_alloc ?_ _) | (with_reducible refine Kd.C_drewN ?_ _) | (with_reducible refine Kd.C_drew ?_))); (case side2 => exact HC0.out); rintro e w' ⟨rfl, ⟨nd, rfl⟩⟩; (try first | exact ⟨rfl, _, World.drewN_drewN _ _ _⟩ | exact ⟨rfl, _, Eq.trans (World.drewN_drewN _ _ _) (congrArg (World.drewN _) (Nat.add_assoc _ _ _))⟩)) | (go_at_call 16; (with_reducible refine (keys_First.calls  t423 t424 t425 t426 t427 t428 t429 t430 _ A6.out).mono ?_); rintro e w36 ⟨rfl, hb⟩; have n0_ := Aside0.mk (below_step (hb_ HB) hb); clear HB; have HB := n0_; clear n0_; (try clear hb); (try clear hb2); (try clear hk); (try clear hi)) | (go_at_call 10; (with_reducible refine (headgatelaw21_few.calls _ _ l0 t431 _ ?side1 ?side2 A7.out).mono ?_); (case side1 => repeat (first | exact (Kd.C_below HR0.out HB.out) | (with_reducible refine Kd.C_alloc ?_ _) | (with_reducible refine Kd.C_drewN ?_ _) | (with_reducible refine Kd.C_drew ?_))); (case side2 => exact HC0.out); rintro e w37 ⟨v432, rfl, ho0, hb⟩; have n0_ := Aside0.mk (Kd.R_lower ho0 (below_size (hb_ HB))); have n1_ := Aside0.mk (below_step (hb_ HB) hb); clear HB; have HO433 := n0_; have HB := n1_; clear n0_ n1_; (try clear hb); (try clear hb2); (try clear hk); (try clear hi); (try clear ho0); obtain ⟨Ao38, co38, eo38⟩ := Kd.R_slice HO433.out; subst eo38) | (go_at_call 11; (with_reducible refine (keys_Answer.calls t423 t424 t425 t426 t427 t428 t429 t430 _ _ t431 t434 t435 t436 t437 t438 t439 t440 t441 t442 t445 _ ?side1 ?side2 ?side3 A8.out).mono ?_); (case side1 => repeat (first | exact (Kd.R_reads' HO433.out).2.2 | (with_reducible refine Kd.C_alloc ?_ _) | (with_reducible refine Kd.C_drewN ?_ _) | (with_reducible refine Kd.C_drew ?_))); (case side2 => exact (Kd.R_reads' HO433.out).2.1); (case side3 => first | ((refine Glob.keep HG.out ?_); (repeat (first | (with_reducible first | exact HB.out | apply below_alloc | apply pw_below_drewN | apply below_drew1) | exact HB.out)); done) | exact HG.out); rintro e w39 ⟨v443, rfl, ho0, hb⟩; have n0_ := Aside0.mk (Kd.R_elder' (by (with_reducible repeat (first | apply Kd.R_alloc | apply Kd.R_drewN | apply Kd.R_drew)); exact HO433.out) (Kd.R_base ho0) hb); have n1_ := Aside0.mk (Kd.R_lower (Kd.R_new' ho0 (Kd.R_lt (by (with_reducible repeat (first | apply Kd.R_alloc | apply Kd.R_drewN | apply Kd.R_drew)); exact HO433.out))) (below_size (hb_ HB))); have n2_ := Aside0.mk (below_step (hb_ HB) hb); clear HO433; clear HB; have HO433 := n0_; have HO444 := n1_; have HB := n2_; clear n0_ n1_ n2_; (try clear hb); (try clear hb2); (try clear hk); (try clear hi); (try clear ho0)) | ((with_reducible refine gate_dst (N := 3) rfl ?_); refine box_event ?hg (N := 3) ?hd (cs := #[.bool false, .bool false, .bool false, .bool false, .int .i64 0, .int .i64 0, .string (⟨#[]⟩ : ByteArray), .string (⟨#[]⟩ : ByteArray)]) (t := 23) ?hr ?_; (case hd => rfl); (case hg => rfl); (case hr => first | (go_simp; done) | (go_simp; rfl)); intro gb446 hg w40 hbox hb; have n0_ := Aside0.mk (Kd.R_below (by (with_reducible repeat (first | apply Kd.R_alloc | apply Kd.R_drewN | apply Kd.R_drew)); exact HO433.out) hb); have n1_ := Aside0.mk (Kd.R_below (by (with_reducible repeat (first | apply Kd.R_alloc | apply Kd.R_drewN | apply Kd.R_drew)); exact HO444.out) hb); have n2_ := Aside0.mk (below_step (hb_ HB) hb); have n3_ := Aside0.mk (hbox); have n4_ := Aside0.mk ((by rw [hg]; exact (below_size (hb_ HB)) : w.heap.size ≤ gb446)); have n5_ := Aside0.mk ((by rw [hg]; exact (below_size (hb_ HB)) : w.heap.size ≤ gb446)); clear HO433; clear HO444; clear HB; have HO433 := n0_; have HO444 := n1_; have HB := n2_; have BK446 := n3_; have GW446 := n4_; have GE446 := n5_; clear n0_ n1_ n2_ n3_ n4_ n5_; clear hb hbox hg; have hcz41_0 : w40.cell? ⟨gb446, 0, none⟩ = some (.bool false) := (blk_cell BK446.out 0).trans rfl; have hcz41_1 : w40.cell? ⟨gb446, 1, none⟩ = some (.bool false) := (blk_cell BK446.out 1).trans rfl; have hcz41_2 : w40.cell? ⟨gb446, 2, none⟩ = some (.bool false) := (blk_cell BK446.out 2).trans rfl; have hcz41_3 : w40.cell? ⟨gb446, 3, none⟩ = some (.bool false) := (blk_cell BK446.out 3).trans rfl; have hcz41_4 : w40.cell? ⟨gb446, 4, none⟩ = some (.int .i64 0) := (blk_cell BK446.out 4).trans rfl; have hcz41_5 : w40.cell? ⟨gb446, 5, none⟩ = some (.int .i64 0) := (blk_cell BK446.out 5).trans rfl; have hcz41_6 : w40.cell? ⟨gb446, 6, none⟩ = some (.string (⟨#[]⟩ : ByteArray)) := (blk_cell BK446.out 6).trans rfl; have hcz41_7 : w40.cell? ⟨gb446, 7, none⟩ = some (.string (⟨#[]⟩ : ByteArray)) := (blk_cell BK446.out 7).trans rfl; have hfz41_0 := blk_frozen BK446.out 0; have hfz41_1 := blk_frozen BK446.out 1; have hfz41_2 := blk_frozen BK446.out 2; have hfz41_3 := blk_frozen BK446.out 3; have hfz41_4 := blk_frozen BK446.out 4; have hfz41_5 := blk_frozen BK446.out 5; have hfz41_6 := blk_frozen BK446.out 6; have hfz41_7 := blk_frozen BK446.out 7; obtain ⟨Ao42, co42, eo42⟩ := Kd.R_slice HO444.out; subst eo42) | (go_at_call 9; (with_reducible refine (headgatelaw21_wakes.calls  t447 _ ?side1 A35.out).mono ?_); (case side1 => first | ((refine Glob.keep HG.out ?_); (repeat (first | (with_reducible first | exact HB.out | apply below_alloc | apply pw_below_drewN | apply below_drew1 | refine below_set ?_ GE446.out) | exact HB.out)); done) | exact HG.out); rintro e w43 ⟨rfl, hb⟩; have n0_ := Aside0.mk (Kd.R_below (by (with_reducible repeat (first | apply Kd.R_alloc | apply Kd.R_drewN | apply Kd.R_drew)); exact (Kd.R_mono (Kd.R_far (p := ⟨gb446, 7, none⟩) (Kd.R_far (p := ⟨gb446, 6, none⟩) (Kd.R_far (p := ⟨gb446, 5, none⟩) (Kd.R_far (p := ⟨gb446, 4, none⟩) (Kd.R_far (p := ⟨gb446, 3, none⟩) (Kd.R_far (p := ⟨gb446, 2, none⟩) (Kd.R_far (p := ⟨gb446, 1, none⟩) (Kd.R_far (p := ⟨gb446, 0, none⟩) (Kd.R_types HO433.out BK446.out (by decide)) (fun _ hk => hk.2) (.bool t434)) (fun _ hk => hk.2) (.bool t435)) (fun _ hk => hk.2) (.bool t436)) (fun _ hk => hk.2) (.bool t437)) (fun _ hk => hk.2) (.int .i64 t438)) (fun _ hk => hk.2) (.int .i64 t439)) (fun _ hk => hk.2) (.string t440)) (fun _ hk => hk.2) (.string t441)) (fun _ h_ => h_.1))) hb); have n1_ := Aside0.mk (Kd.R_below (by (with_reducible repeat (first | apply Kd.R_alloc | apply Kd.R_drewN | apply Kd.R_drew)); exact (Kd.R_mono (Kd.R_far (p := ⟨gb446, 7, none⟩) (Kd.R_far (p := ⟨gb446, 6, none⟩) (Kd.R_far (p := ⟨gb446, 5, none⟩) (Kd.R_far (p := ⟨gb446, 4, none⟩) (Kd.R_far (p := ⟨gb446, 3, none⟩) (Kd.R_far (p := ⟨gb446, 2, none⟩) (Kd.R_far (p := ⟨gb446, 1, none⟩) (Kd.R_far (p := ⟨gb446, 0, none⟩) (Kd.R_types HO444.out BK446.out (by decide)) (fun _ hk => hk.2) (.bool t434)) (fun _ hk => hk.2) (.bool t435)) (fun _ hk => hk.2) (.bool t436)) (fun _ hk => hk.2) (.bool t437)) (fun _ hk => hk.2) (.int .i64 t438)) (fun _ hk => hk.2) (.int .i64 t439)) (fun _ hk => hk.2) (.string t440)) (fun _ hk => hk.2) (.string t441)) (fun _ h_ => h_.1))) hb); have n2_ := Aside0.mk (blk_below (g := gb446) (o := .cells #[.bool t434, .bool t435, .bool t436, .bool t437, .int .i64 t438, .int .i64 t439, .string t440, .string t441] 23 (0, 0)) (by (with_reducible repeat (first | refine blk_drewN ?_ _ | refine blk_drew ?_ | refine blk_alloc ?_ _)); refine blk_put (cs := #[.bool t434, .bool t435, .bool t436, .bool t437, .int .i64 t438, .int .i64 t439, .string t440, .string (⟨#[]⟩ : ByteArray)]) ?_ 7 _ rfl; (with_reducible repeat (first | refine blk_drewN ?_ _ | refine blk_drew ?_ | refine blk_alloc ?_ _)); refine blk_put (cs := #[.bool t434, .bool t435, .bool t436, .bool t437, .int .i64 t438, .int .i64 t439, .string (⟨#[]⟩ : ByteArray), .string (⟨#[]⟩ : ByteArray)]) ?_ 6 _ rfl; (with_reducible repeat (first | refine blk_drewN ?_ _ | refine blk_drew ?_ | refine blk_alloc ?_ _)); refine blk_put (cs := #[.bool t434, .bool t435, .bool t436, .bool t437, .int .i64 t438, .int .i64 0, .string (⟨#[]⟩ : ByteArray), .string (⟨#[]⟩ : ByteArray)]) ?_ 5 _ rfl; (with_reducible repeat (first | refine blk_drewN ?_ _ | refine blk_drew ?_ | refine blk_alloc ?_ _)); refine blk_put (cs := #[.bool t434, .bool t435, .bool t436, .bool t437, .int .i64 0, .int .i64 0, .string (⟨#[]⟩ : ByteArray), .string (⟨#[]⟩ : ByteArray)]) ?_ 4 _ rfl; (with_reducible repeat (first | refine blk_drewN ?_ _ | refine blk_drew ?_ | refine blk_alloc ?_ _)); refine blk_put (cs := #[.bool t434, .bool t435, .bool t436, .bool false, .int .i64 0, .int .i64 0, .string (⟨#[]⟩ : ByteArray), .string (⟨#[]⟩ : ByteArray)]) ?_ 3 _ rfl; (with_reducible repeat (first | refine blk_drewN ?_ _ | refine blk_drew ?_ | refine blk_alloc ?_ _)); refine blk_put (cs := #[.bool t434, .bool t435, .bool false, .bool false, .int .i64 0, .int .i64 0, .string (⟨#[]⟩ : ByteArray), .string (⟨#[]⟩ : ByteArray)]) ?_ 2 _ rfl; (with_reducible repeat (first | refine blk_drewN ?_ _ | refine blk_drew ?_ | refine blk_alloc ?_ _)); refine blk_put (cs := #[.bool t434, .bool false, .bool false, .bool false, .int .i64 0, .int .i64 0, .string (⟨#[]⟩ : ByteArray), .string (⟨#[]⟩ : ByteArray)]) ?_ 1 _ rfl; (with_reducible repeat (first | refine blk_drewN ?_ _ | refine blk_drew ?_ | refine blk_alloc ?_ _)); refine blk_put (cs := #[.bool false, .bool false, .bool false, .bool false, .int .i64 0, .int .i64 0, .string (⟨#[]⟩ : ByteArray), .string (⟨#[]⟩ : ByteArray)]) ?_ 0 _ rfl; (with_reducible repeat (first | refine blk_drewN ?_ _ | refine blk_drew ?_ | refine blk_alloc ?_ _)); exact BK446.out) hb); have n3_ := Aside0.mk (below_step (hb_ HB) hb); clear HO433; clear HO444; clear BK446; clear HB; have HO433 := n0_; have HO444 := n1_; have BK446 := n2_; have HB := n3_; clear n0_ n1_ n2_ n3_; (try clear hb); (try clear hb2); (try clear hk); (try clear hi)))
  repeat (go_quiet (first | (go_at_call 8; (with_reducible refine (headgatelaw21_Large.calls k _ _ l0 false _ ?side1 ?side2 A2.out).mono ?_); (case side1 => repeat (first | exact HR0.out | (with_reducible refine Kd.C_alloc ?_ _) | (with_reducible refine Kd.C_drewN ?_ _) | (with_reducible refine Kd.C_drew ?_))); (case side2 => exact HC0.out); rintro e w' ⟨rfl, ⟨nd, rfl⟩⟩; (try first | exact ⟨rfl, _, World.drewN_drewN _ _ _⟩ | exact ⟨rfl, _, Eq.trans (World.drewN_drewN _ _ _) (congrArg (World.drewN _) (Nat.add_assoc _ _ _))⟩)) | (go_at_call 16; (with_reducible refine (keys_First.calls  t423 t424 t425 t426 t427 t428 t429 t430 _ A6.out).mono ?_); rintro e w36 ⟨rfl, hb⟩; have n0_ := Aside0.mk (below_step (hb_ HB) hb); clear HB; have HB := n0_; clear n0_; (try clear hb); (try clear hb2); (try clear hk); (try clear hi)) | (go_at_call 10; (with_reducible refine (headgatelaw21_few.calls _ _ l0 t431 _ ?side1 ?side2 A7.out).mono ?_); (case side1 => repeat (first | exact (Kd.C_below HR0.out HB.out) | (with_reducible refine Kd.C_alloc ?_ _) | (with_reducible refine Kd.C_drewN ?_ _) | (with_reducible refine Kd.C_drew ?_))); (case side2 => exact HC0.out); rintro e w37 ⟨v432, rfl, ho0, hb⟩; have n0_ := Aside0.mk (Kd.R_lower ho0 (below_size (hb_ HB))); have n1_ := Aside0.mk (below_step (hb_ HB) hb); clear HB; have HO433 := n0_; have HB := n1_; clear n0_ n1_; (try clear hb); (try clear hb2); (try clear hk); (try clear hi); (try clear ho0); obtain ⟨Ao38, co38, eo38⟩ := Kd.R_slice HO433.out; subst eo38) | (go_at_call 11; (with_reducible refine (keys_Answer.calls t423 t424 t425 t426 t427 t428 t429 t430 _ _ t431 t434 t435 t436 t437 t438 t439 t440 t441 t442 t445 _ ?side1 ?side2 ?side3 A8.out).mono ?_); (case side1 => repeat (first | exact (Kd.R_reads' HO433.out).2.2 | (with_reducible refine Kd.C_alloc ?_ _) | (with_reducible refine Kd.C_drewN ?_ _) | (with_reducible refine Kd.C_drew ?_))); (case side2 => exact (Kd.R_reads' HO433.out).2.1); (case side3 => first | ((refine Glob.keep HG.out ?_); (repeat (first | (with_reducible first | exact HB.out | apply below_alloc | apply pw_below_drewN | apply below_drew1) | exact HB.out)); done) | exact HG.out); rintro e w39 ⟨v443, rfl, ho0, hb⟩; have n0_ := Aside0.mk (Kd.R_elder' (by (with_reducible repeat (first | apply Kd.R_alloc | apply Kd.R_drewN | apply Kd.R_drew)); exact HO433.out) (Kd.R_base ho0) hb); have n1_ := Aside0.mk (Kd.R_lower (Kd.R_new' ho0 (Kd.R_lt (by (with_reducible repeat (first | apply Kd.R_alloc | apply Kd.R_drewN | apply Kd.R_drew)); exact HO433.out))) (below_size (hb_ HB))); have n2_ := Aside0.mk (below_step (hb_ HB) hb); clear HO433; clear HB; have HO433 := n0_; have HO444 := n1_; have HB := n2_; clear n0_ n1_ n2_; (try clear hb); (try clear hb2); (try clear hk); (try clear hi); (try clear ho0)) | ((with_reducible refine gate_dst (N := 3) rfl ?_); refine box_event ?hg (N := 3) ?hd (cs := #[.bool false, .bool false, .bool false, .bool false, .int .i64 0, .int .i64 0, .string (⟨#[]⟩ : ByteArray), .string (⟨#[]⟩ : ByteArray)]) (t := 23) ?hr ?_; (case hd => rfl); (case hg => rfl); (case hr => first | (go_simp; done) | (go_simp; rfl)); intro gb446 hg w40 hbox hb; have n0_ := Aside0.mk (Kd.R_below (by (with_reducible repeat (first | apply Kd.R_alloc | apply Kd.R_drewN | apply Kd.R_drew)); exact HO433.out) hb); have n1_ := Aside0.mk (Kd.R_below (by (with_reducible repeat (first | apply Kd.R_alloc | apply Kd.R_drewN | apply Kd.R_drew)); exact HO444.out) hb); have n2_ := Aside0.mk (below_step (hb_ HB) hb); have n3_ := Aside0.mk (hbox); have n4_ := Aside0.mk ((by rw [hg]; exact (below_size (hb_ HB)) : w.heap.size ≤ gb446)); have n5_ := Aside0.mk ((by rw [hg]; exact (below_size (hb_ HB)) : w.heap.size ≤ gb446)); clear HO433; clear HO444; clear HB; have HO433 := n0_; have HO444 := n1_; have HB := n2_; have BK446 := n3_; have GW446 := n4_; have GE446 := n5_; clear n0_ n1_ n2_ n3_ n4_ n5_; clear hb hbox hg; have hcz41_0 : w40.cell? ⟨gb446, 0, none⟩ = some (.bool false) := (blk_cell BK446.out 0).trans rfl; have hcz41_1 : w40.cell? ⟨gb446, 1, none⟩ = some (.bool false) := (blk_cell BK446.out 1).trans rfl; have hcz41_2 : w40.cell? ⟨gb446, 2, none⟩ = some (.bool false) := (blk_cell BK446.out 2).trans rfl; have hcz41_3 : w40.cell? ⟨gb446, 3, none⟩ = some (.bool false) := (blk_cell BK446.out 3).trans rfl; have hcz41_4 : w40.cell? ⟨gb446, 4, none⟩ = some (.int .i64 0) := (blk_cell BK446.out 4).trans rfl; have hcz41_5 : w40.cell? ⟨gb446, 5, none⟩ = some (.int .i64 0) := (blk_cell BK446.out 5).trans rfl; have hcz41_6 : w40.cell? ⟨gb446, 6, none⟩ = some (.string (⟨#[]⟩ : ByteArray)) := (blk_cell BK446.out 6).trans rfl; have hcz41_7 : w40.cell? ⟨gb446, 7, none⟩ = some (.string (⟨#[]⟩ : ByteArray)) := (blk_cell BK446.out 7).trans rfl; have hfz41_0 := blk_frozen BK446.out 0; have hfz41_1 := blk_frozen BK446.out 1; have hfz41_2 := blk_frozen BK446.out 2; have hfz41_3 := blk_frozen BK446.out 3; have hfz41_4 := blk_frozen BK446.out 4; have hfz41_5 := blk_frozen BK446.out 5; have hfz41_6 := blk_frozen BK446.out 6; have hfz41_7 := blk_frozen BK446.out 7; obtain ⟨Ao42, co42, eo42⟩ := Kd.R_slice HO444.out; subst eo42) | (go_at_call 9; (with_reducible refine (headgatelaw21_wakes.calls  t447 _ ?side1 A35.out).mono ?_); (case side1 => first | ((refine Glob.keep HG.out ?_); (repeat (first | (with_reducible first | exact HB.out | apply below_alloc | apply pw_below_drewN | apply below_drew1 | refine below_set ?_ GE446.out) | exact HB.out)); done) | exact HG.out); rintro e w43 ⟨rfl, hb⟩; have n0_ := Aside0.mk (Kd.R_below (by (with_reducible repeat (first | apply Kd.R_alloc | apply Kd.R_drewN | apply Kd.R_drew)); exact (Kd.R_mono (Kd.R_far (p := ⟨gb446, 7, none⟩) (Kd.R_far (p := ⟨gb446, 6, none⟩) (Kd.R_far (p := ⟨gb446, 5, none⟩) (Kd.R_far (p := ⟨gb446, 4, none⟩) (Kd.R_far (p := ⟨gb446, 3, none⟩) (Kd.R_far (p := ⟨gb446, 2, none⟩) (Kd.R_far (p := ⟨gb446, 1, none⟩) (Kd.R_far (p := ⟨gb446, 0, none⟩) (Kd.R_types HO433.out BK446.out (by decide)) (fun _ hk => hk.2) (.bool t434)) (fun _ hk => hk.2) (.bool t435)) (fun _ hk => hk.2) (.bool t436)) (fun _ hk => hk.2) (.bool t437)) (fun _ hk => hk.2) (.int .i64 t438)) (fun _ hk => hk.2) (.int .i64 t439)) (fun _ hk => hk.2) (.string t440)) (fun _ hk => hk.2) (.string t441)) (fun _ h_ => h_.1))) hb); have n1_ := Aside0.mk (Kd.R_below (by (with_reducible repeat (first | apply Kd.R_alloc | apply Kd.R_drewN | apply Kd.R_drew)); exact (Kd.R_mono (Kd.R_far (p := ⟨gb446, 7, none⟩) (Kd.R_far (p := ⟨gb446, 6, none⟩) (Kd.R_far (p := ⟨gb446, 5, none⟩) (Kd.R_far (p := ⟨gb446, 4, none⟩) (Kd.R_far (p := ⟨gb446, 3, none⟩) (Kd.R_far (p := ⟨gb446, 2, none⟩) (Kd.R_far (p := ⟨gb446, 1, none⟩) (Kd.R_far (p := ⟨gb446, 0, none⟩) (Kd.R_types HO444.out BK446.out (by decide)) (fun _ hk => hk.2) (.bool t434)) (fun _ hk => hk.2) (.bool t435)) (fun _ hk => hk.2) (.bool t436)) (fun _ hk => hk.2) (.bool t437)) (fun _ hk => hk.2) (.int .i64 t438)) (fun _ hk => hk.2) (.int .i64 t439)) (fun _ hk => hk.2) (.string t440)) (fun _ hk => hk.2) (.string t441)) (fun _ h_ => h_.1))) hb); have n2_ := Aside0.mk (blk_below (g := gb446) (o := .cells #[.bool t434, .bool t435, .bool t436, .bool t437, .int .i64 t438, .int .i64 t439, .string t440, .string t441] 23 (0, 0)) (by (with_reducible repeat (first | refine blk_drewN ?_ _ | refine blk_drew ?_ | refine blk_alloc ?_ _)); refine blk_put (cs := #[.bool t434, .bool t435, .bool t436, .bool t437, .int .i64 t438, .int .i64 t439, .string t440, .string (⟨#[]⟩ : ByteArray)]) ?_ 7 _ rfl; (with_reducible repeat (first | refine blk_drewN ?_ _ | refine blk_drew ?_ | refine blk_alloc ?_ _)); refine blk_put (cs := #[.bool t434, .bool t435, .bool t436, .bool t437, .int .i64 t438, .int .i64 t439, .string (⟨#[]⟩ : ByteArray), .string (⟨#[]⟩ : ByteArray)]) ?_ 6 _ rfl; (with_reducible repeat (first | refine blk_drewN ?_ _ | refine blk_drew ?_ | refine blk_alloc ?_ _)); refine blk_put (cs := #[.bool t434, .bool t435, .bool t436, .bool t437, .int .i64 t438, .int .i64 0, .string (⟨#[]⟩ : ByteArray), .string (⟨#[]⟩ : ByteArray)]) ?_ 5 _ rfl; (with_reducible repeat (first | refine blk_drewN ?_ _ | refine blk_drew ?_ | refine blk_alloc ?_ _)); refine blk_put (cs := #[.bool t434, .bool t435, .bool t436, .bool t437, .int .i64 0, .int .i64 0, .string (⟨#[]⟩ : ByteArray), .string (⟨#[]⟩ : ByteArray)]) ?_ 4 _ rfl; (with_reducible repeat (first | refine blk_drewN ?_ _ | refine blk_drew ?_ | refine blk_alloc ?_ _)); refine blk_put (cs := #[.bool t434, .bool t435, .bool t436, .bool false, .int .i64 0, .int .i64 0, .string (⟨#[]⟩ : ByteArray), .string (⟨#[]⟩ : ByteArray)]) ?_ 3 _ rfl; (with_reducible repeat (first | refine blk_drewN ?_ _ | refine blk_drew ?_ | refine blk_alloc ?_ _)); refine blk_put (cs := #[.bool t434, .bool t435, .bool false, .bool false, .int .i64 0, .int .i64 0, .string (⟨#[]⟩ : ByteArray), .string (⟨#[]⟩ : ByteArray)]) ?_ 2 _ rfl; (with_reducible repeat (first | refine blk_drewN ?_ _ | refine blk_drew ?_ | refine blk_alloc ?_ _)); refine blk_put (cs := #[.bool t434, .bool false, .bool false, .bool false, .int .i64 0, .int .i64 0, .string (⟨#[]⟩ : ByteArray), .string (⟨#[]⟩ : ByteArray)]) ?_ 1 _ rfl; (with_reducible repeat (first | refine blk_drewN ?_ _ | refine blk_drew ?_ | refine blk_alloc ?_ _)); refine blk_put (cs := #[.bool false, .bool false, .bool false, .bool false, .int .i64 0, .int .i64 0, .string (⟨#[]⟩ : ByteArray), .string (⟨#[]⟩ : ByteArray)]) ?_ 0 _ rfl; (with_reducible repeat (first | refine blk_drewN ?_ _ | refine blk_drew ?_ | refine blk_alloc ?_ _)); exact BK446.out) hb); have n3_ := Aside0.mk (below_step (hb_ HB) hb); clear HO433; clear HO444; clear BK446; clear HB; have HO433 := n0_; have HO444 := n1_; have BK446 := n2_; have HB := n3_; clear n0_ n1_ n2_ n3_; (try clear hb); (try clear hb2); (try clear hk); (try clear hi))); try go_wp2_with (first | (go_at_call 8; (with_reducible refine (headgatelaw21_Large.calls k _ _ l0 false _ ?side1 ?side2 A2.out).mono ?_); (case side1 => repeat (first | exact HR0.out | (with_reducible refine Kd.C_alloc ?_ _) | (with_reducible refine Kd.C_drewN ?_ _) | (with_reducible refine Kd.C_drew ?_))); (case side2 => exact HC0.out); rintro e w' ⟨rfl, ⟨nd, rfl⟩⟩; (try first | exact ⟨rfl, _, World.drewN_drewN _ _ _⟩ | exact ⟨rfl, _, Eq.trans (World.drewN_drewN _ _ _) (congrArg (World.drewN _) (Nat.add_assoc _ _ _))⟩)) | (go_at_call 16; (with_reducible refine (keys_First.calls  t423 t424 t425 t426 t427 t428 t429 t430 _ A6.out).mono ?_); rintro e w36 ⟨rfl, hb⟩; have n0_ := Aside0.mk (below_step (hb_ HB) hb); clear HB; have HB := n0_; clear n0_; (try clear hb); (try clear hb2); (try clear hk); (try clear hi)) | (go_at_call 10; (with_reducible refine (headgatelaw21_few.calls _ _ l0 t431 _ ?side1 ?side2 A7.out).mono ?_); (case side1 => repeat (first | exact (Kd.C_below HR0.out HB.out) | (with_reducible refine Kd.C_alloc ?_ _) | (with_reducible refine Kd.C_drewN ?_ _) | (with_reducible refine Kd.C_drew ?_))); (case side2 => exact HC0.out); rintro e w37 ⟨v432, rfl, ho0, hb⟩; have n0_ := Aside0.mk (Kd.R_lower ho0 (below_size (hb_ HB))); have n1_ := Aside0.mk (below_step (hb_ HB) hb); clear HB; have HO433 := n0_; have HB := n1_; clear n0_ n1_; (try clear hb); (try clear hb2); (try clear hk); (try clear hi); (try clear ho0); obtain ⟨Ao38, co38, eo38⟩ := Kd.R_slice HO433.out; subst eo38) | (go_at_call 11; (with_reducible refine (keys_Answer.calls t423 t424 t425 t426 t427 t428 t429 t430 _ _ t431 t434 t435 t436 t437 t438 t439 t440 t441 t442 t445 _ ?side1 ?side2 ?side3 A8.out).mono ?_); (case side1 => repeat (first | exact (Kd.R_reads' HO433.out).2.2 | (with_reducible refine Kd.C_alloc ?_ _) | (with_reducible refine Kd.C_drewN ?_ _) | (with_reducible refine Kd.C_drew ?_))); (case side2 => exact (Kd.R_reads' HO433.out).2.1); (case side3 => first | ((refine Glob.keep HG.out ?_); (repeat (first | (with_reducible first | exact HB.out | apply below_alloc | apply pw_below_drewN | apply below_drew1) | exact HB.out)); done) | exact HG.out); rintro e w39 ⟨v443, rfl, ho0, hb⟩; have n0_ := Aside0.mk (Kd.R_elder' (by (with_reducible repeat (first | apply Kd.R_alloc | apply Kd.R_drewN | apply Kd.R_drew)); exact HO433.out) (Kd.R_base ho0) hb); have n1_ := Aside0.mk (Kd.R_lower (Kd.R_new' ho0 (Kd.R_lt (by (with_reducible repeat (first | apply Kd.R_alloc | apply Kd.R_drewN | apply Kd.R_drew)); exact HO433.out))) (below_size (hb_ HB))); have n2_ := Aside0.mk (below_step (hb_ HB) hb); clear HO433; clear HB; have HO433 := n0_; have HO444 := n1_; have HB := n2_; clear n0_ n1_ n2_; (try clear hb); (try clear hb2); (try clear hk); (try clear hi); (try clear ho0)) | ((with_reducible refine gate_dst (N := 3) rfl ?_); refine box_event ?hg (N := 3) ?hd (cs := #[.bool false, .bool false, .bool false, .bool false, .int .i64 0, .int .i64 0, .string (⟨#[]⟩ : ByteArray), .string (⟨#[]⟩ : ByteArray)]) (t := 23) ?hr ?_; (case hd => rfl); (case hg => rfl); (case hr => first | (go_simp; done) | (go_simp; rfl)); intro gb446 hg w40 hbox hb; have n0_ := Aside0.mk (Kd.R_below (by (with_reducible repeat (first | apply Kd.R_alloc | apply Kd.R_drewN | apply Kd.R_drew)); exact HO433.out) hb); have n1_ := Aside0.mk (Kd.R_below (by (with_reducible repeat (first | apply Kd.R_alloc | apply Kd.R_drewN | apply Kd.R_drew)); exact HO444.out) hb); have n2_ := Aside0.mk (below_step (hb_ HB) hb); have n3_ := Aside0.mk (hbox); have n4_ := Aside0.mk ((by rw [hg]; exact (below_size (hb_ HB)) : w.heap.size ≤ gb446)); have n5_ := Aside0.mk ((by rw [hg]; exact (below_size (hb_ HB)) : w.heap.size ≤ gb446)); clear HO433; clear HO444; clear HB; have HO433 := n0_; have HO444 := n1_; have HB := n2_; have BK446 := n3_; have GW446 := n4_; have GE446 := n5_; clear n0_ n1_ n2_ n3_ n4_ n5_; clear hb hbox hg; have hcz41_0 : w40.cell? ⟨gb446, 0, none⟩ = some (.bool false) := (blk_cell BK446.out 0).trans rfl; have hcz41_1 : w40.cell? ⟨gb446, 1, none⟩ = some (.bool false) := (blk_cell BK446.out 1).trans rfl; have hcz41_2 : w40.cell? ⟨gb446, 2, none⟩ = some (.bool false) := (blk_cell BK446.out 2).trans rfl; have hcz41_3 : w40.cell? ⟨gb446, 3, none⟩ = some (.bool false) := (blk_cell BK446.out 3).trans rfl; have hcz41_4 : w40.cell? ⟨gb446, 4, none⟩ = some (.int .i64 0) := (blk_cell BK446.out 4).trans rfl; have hcz41_5 : w40.cell? ⟨gb446, 5, none⟩ = some (.int .i64 0) := (blk_cell BK446.out 5).trans rfl; have hcz41_6 : w40.cell? ⟨gb446, 6, none⟩ = some (.string (⟨#[]⟩ : ByteArray)) := (blk_cell BK446.out 6).trans rfl; have hcz41_7 : w40.cell? ⟨gb446, 7, none⟩ = some (.string (⟨#[]⟩ : ByteArray)) := (blk_cell BK446.out 7).trans rfl; have hfz41_0 := blk_frozen BK446.out 0; have hfz41_1 := blk_frozen BK446.out 1; have hfz41_2 := blk_frozen BK446.out 2; have hfz41_3 := blk_frozen BK446.out 3; have hfz41_4 := blk_frozen BK446.out 4; have hfz41_5 := blk_frozen BK446.out 5; have hfz41_6 := blk_frozen BK446.out 6; have hfz41_7 := blk_frozen BK446.out 7; obtain ⟨Ao42, co42, eo42⟩ := Kd.R_slice HO444.out; subst eo42) | (go_at_call 9; (with_reducible refine (headgatelaw21_wakes.calls  t447 _ ?side1 A35.out).mono ?_); (case side1 => first | ((refine Glob.keep HG.out ?_); (repeat (first | (with_reducible first | exact HB.out | apply below_alloc | apply pw_below_drewN | apply below_drew1 | refine below_set ?_ GE446.out) | exact HB.out)); done) | exact HG.out); rintro e w43 ⟨rfl, hb⟩; have n0_ := Aside0.mk (Kd.R_below (by (with_reducible repeat (first | apply Kd.R_alloc | apply Kd.R_drewN | apply Kd.R_drew)); exact (Kd.R_mono (Kd.R_far (p := ⟨gb446, 7, none⟩) (Kd.R_far (p := ⟨gb446, 6, none⟩) (Kd.R_far (p := ⟨gb446, 5, none⟩) (Kd.R_far (p := ⟨gb446, 4, none⟩) (Kd.R_far (p := ⟨gb446, 3, none⟩) (Kd.R_far (p := ⟨gb446, 2, none⟩) (Kd.R_far (p := ⟨gb446, 1, none⟩) (Kd.R_far (p := ⟨gb446, 0, none⟩) (Kd.R_types HO433.out BK446.out (by decide)) (fun _ hk => hk.2) (.bool t434)) (fun _ hk => hk.2) (.bool t435)) (fun _ hk => hk.2) (.bool t436)) (fun _ hk => hk.2) (.bool t437)) (fun _ hk => hk.2) (.int .i64 t438)) (fun _ hk => hk.2) (.int .i64 t439)) (fun _ hk => hk.2) (.string t440)) (fun _ hk => hk.2) (.string t441)) (fun _ h_ => h_.1))) hb); have n1_ := Aside0.mk (Kd.R_below (by (with_reducible repeat (first | apply Kd.R_alloc | apply Kd.R_drewN | apply Kd.R_drew)); exact (Kd.R_mono (Kd.R_far (p := ⟨gb446, 7, none⟩) (Kd.R_far (p := ⟨gb446, 6, none⟩) (Kd.R_far (p := ⟨gb446, 5, none⟩) (Kd.R_far (p := ⟨gb446, 4, none⟩) (Kd.R_far (p := ⟨gb446, 3, none⟩) (Kd.R_far (p := ⟨gb446, 2, none⟩) (Kd.R_far (p := ⟨gb446, 1, none⟩) (Kd.R_far (p := ⟨gb446, 0, none⟩) (Kd.R_types HO444.out BK446.out (by decide)) (fun _ hk => hk.2) (.bool t434)) (fun _ hk => hk.2) (.bool t435)) (fun _ hk => hk.2) (.bool t436)) (fun _ hk => hk.2) (.bool t437)) (fun _ hk => hk.2) (.int .i64 t438)) (fun _ hk => hk.2) (.int .i64 t439)) (fun _ hk => hk.2) (.string t440)) (fun _ hk => hk.2) (.string t441)) (fun _ h_ => h_.1))) hb); have n2_ := Aside0.mk (blk_below (g := gb446) (o := .cells #[.bool t434, .bool t435, .bool t436, .bool t437, .int .i64 t438, .int .i64 t439, .string t440, .string t441] 23 (0, 0)) (by (with_reducible repeat (first | refine blk_drewN ?_ _ | refine blk_drew ?_ | refine blk_alloc ?_ _)); refine blk_put (cs := #[.bool t434, .bool t435, .bool t436, .bool t437, .int .i64 t438, .int .i64 t439, .string t440, .string (⟨#[]⟩ : ByteArray)]) ?_ 7 _ rfl; (with_reducible repeat (first | refine blk_drewN ?_ _ | refine blk_drew ?_ | refine blk_alloc ?_ _)); refine blk_put (cs := #[.bool t434, .bool t435, .bool t436, .bool t437, .int .i64 t438, .int .i64 t439, .string (⟨#[]⟩ : ByteArray), .string (⟨#[]⟩ : ByteArray)]) ?_ 6 _ rfl; (with_reducible repeat (first | refine blk_drewN ?_ _ | refine blk_drew ?_ | refine blk_alloc ?_ _)); refine blk_put (cs := #[.bool t434, .bool t435, .bool t436, .bool t437, .int .i64 t438, .int .i64 0, .string (⟨#[]⟩ : ByteArray), .string (⟨#[]⟩ : ByteArray)]) ?_ 5 _ rfl; (with_reducible repeat (first | refine blk_drewN ?_ _ | refine blk_drew ?_ | refine blk_alloc ?_ _)); refine blk_put (cs := #[.bool t434, .bool t435, .bool t436, .bool t437, .int .i64 0, .int .i64 0, .string (⟨#[]⟩ : ByteArray), .string (⟨#[]⟩ : ByteArray)]) ?_ 4 _ rfl; (with_reducible repeat (first | refine blk_drewN ?_ _ | refine blk_drew ?_ | refine blk_alloc ?_ _)); refine blk_put (cs := #[.bool t434, .bool t435, .bool t436, .bool false, .int .i64 0, .int .i64 0, .string (⟨#[]⟩ : ByteArray), .string (⟨#[]⟩ : ByteArray)]) ?_ 3 _ rfl; (with_reducible repeat (first | refine blk_drewN ?_ _ | refine blk_drew ?_ | refine blk_alloc ?_ _)); refine blk_put (cs := #[.bool t434, .bool t435, .bool false, .bool false, .int .i64 0, .int .i64 0, .string (⟨#[]⟩ : ByteArray), .string (⟨#[]⟩ : ByteArray)]) ?_ 2 _ rfl; (with_reducible repeat (first | refine blk_drewN ?_ _ | refine blk_drew ?_ | refine blk_alloc ?_ _)); refine blk_put (cs := #[.bool t434, .bool false, .bool false, .bool false, .int .i64 0, .int .i64 0, .string (⟨#[]⟩ : ByteArray), .string (⟨#[]⟩ : ByteArray)]) ?_ 1 _ rfl; (with_reducible repeat (first | refine blk_drewN ?_ _ | refine blk_drew ?_ | refine blk_alloc ?_ _)); refine blk_put (cs := #[.bool false, .bool false, .bool false, .bool false, .int .i64 0, .int .i64 0, .string (⟨#[]⟩ : ByteArray), .string (⟨#[]⟩ : ByteArray)]) ?_ 0 _ rfl; (with_reducible repeat (first | refine blk_drewN ?_ _ | refine blk_drew ?_ | refine blk_alloc ?_ _)); exact BK446.out) hb); have n3_ := Aside0.mk (below_step (hb_ HB) hb); clear HO433; clear HO444; clear BK446; clear HB; have HO433 := n0_; have HO444 := n1_; have BK446 := n2_; have HB := n3_; clear n0_ n1_ n2_ n3_; (try clear hb); (try clear hb2); (try clear hk); (try clear hi))))
  go_ret
  exact ⟨by first | rfl | (simp [errW_none, errW_some] <;> rfl) | (simp [*, errW_none, errW_some] <;> rfl) | (simp [bt, *]; done) | (unfold bt; simp [*]; done), by repeat (first | (with_reducible first | exact HB.out | apply below_alloc | apply pw_below_drewN | apply below_drew1 | refine below_set ?_ GE446.out) | exact HB.out)⟩
 rw [if_pos c9] at H
 have c9b0 : (t445 == 0) = true := beq_iff_eq.mpr c9
 have c9b1 : (t445 != 0) = false := bne_eq_false_iff_eq.mpr c9
 clear c9
 have H' := Aside0.mk H
 clear H
 go_enter Tryd.func5, Tryd.ntmps5
 go_wp2_with (first | (go_at_call 8; (with_reducible refine (headgatelaw21_Large.calls k _ _ l0 false _ ?side1 ?side2 A2.out).mono ?_); (case side1 => repeat (first | exact HR0.out | (with_reducible refine Kd.C_alloc ?_ _) | (with_reducible refine Kd.C_drewN ?_ _) | (with_reducible refine Kd.C_drew ?_))); (case side2 => exact HC0.out); rintro e w' ⟨rfl, ⟨nd, rfl⟩⟩; (try first | exact ⟨rfl, _, World.drewN_drewN _ _ _⟩ | exact ⟨rfl, _, Eq.trans (World.drewN_drewN _ _ _) (congrArg (World.drewN _) (Nat.add_assoc _ _ _))⟩)) | (go_at_call 16; (with_reducible refine (keys_First.calls  t423 t424 t425 t426 t427 t428 t429 t430 _ A6.out).mono ?_); rintro e w10 ⟨rfl, hb⟩; have n0_ := Aside0.mk (below_step (hb_ HB) hb); clear HB; have HB := n0_; clear n0_; (try clear hb); (try clear hb2); (try clear hk); (try clear hi)) | (go_at_call 10; (with_reducible refine (headgatelaw21_few.calls _ _ l0 t431 _ ?side1 ?side2 A7.out).mono ?_); (case side1 => repeat (first | exact (Kd.C_below HR0.out HB.out) | (with_reducible refine Kd.C_alloc ?_ _) | (with_reducible refine Kd.C_drewN ?_ _) | (with_reducible refine Kd.C_drew ?_))); (case side2 => exact HC0.out); rintro e w11 ⟨v432, rfl, ho0, hb⟩; have n0_ := Aside0.mk (Kd.R_lower ho0 (below_size (hb_ HB))); have n1_ := Aside0.mk (below_step (hb_ HB) hb); clear HB; have HO433 := n0_; have HB := n1_; clear n0_ n1_; (try clear hb); (try clear hb2); (try clear hk); (try clear hi); (try clear ho0); obtain ⟨Ao12, co12, eo12⟩ := Kd.R_slice HO433.out; subst eo12) | (go_at_call 11; (with_reducible refine (keys_Answer.calls t423 t424 t425 t426 t427 t428 t429 t430 _ _ t431 t434 t435 t436 t437 t438 t439 t440 t441 t442 t445 _ ?side1 ?side2 ?side3 A8.out).mono ?_); (case side1 => repeat (first | exact (Kd.R_reads' HO433.out).2.2 | (with_reducible refine Kd.C_alloc ?_ _) | (with_reducible refine Kd.C_drewN ?_ _) | (with_reducible refine Kd.C_drew ?_))); (case side2 => exact (Kd.R_reads' HO433.out).2.1); (case side3 => first | ((refine Glob.keep HG.out ?_); (repeat (first | (with_reducible first | exact HB.out | apply below_alloc | apply pw_below_drewN | apply below_drew1) | exact HB.out)); done) | exact HG.out); rintro e w13 ⟨v443, rfl, ho0, hb⟩; have n0_ := Aside0.mk (Kd.R_elder' (by (with_reducible repeat (first | apply Kd.R_alloc | apply Kd.R_drewN | apply Kd.R_drew)); exact HO433.out) (Kd.R_base ho0) hb); have n1_ := Aside0.mk (Kd.R_lower (Kd.R_new' ho0 (Kd.R_lt (by (with_reducible repeat (first | apply Kd.R_alloc | apply Kd.R_drewN | apply Kd.R_drew)); exact HO433.out))) (below_size (hb_ HB))); have n2_ := Aside0.mk (below_step (hb_ HB) hb); clear HO433; clear HB; have HO433 := n0_; have HO444 := n1_; have HB := n2_; clear n0_ n1_ n2_; (try clear hb); (try clear hb2); (try clear hk); (try clear hi); (try clear ho0)) | ((with_reducible refine gate_dst (N := 3) rfl ?_); refine box_event ?hg (N := 3) ?hd (cs := #[.bool false, .bool false, .bool false, .bool false, .int .i64 0, .int .i64 0, .string (⟨#[]⟩ : ByteArray), .string (⟨#[]⟩ : ByteArray)]) (t := 23) ?hr ?_; (case hd => rfl); (case hg => rfl); (case hr => first | (go_simp; done) | (go_simp; rfl)); intro gb446 hg w14 hbox hb; have n0_ := Aside0.mk (Kd.R_below (by (with_reducible repeat (first | apply Kd.R_alloc | apply Kd.R_drewN | apply Kd.R_drew)); exact HO433.out) hb); have n1_ := Aside0.mk (Kd.R_below (by (with_reducible repeat (first | apply Kd.R_alloc | apply Kd.R_drewN | apply Kd.R_drew)); exact HO444.out) hb); have n2_ := Aside0.mk (below_step (hb_ HB) hb); have n3_ := Aside0.mk (hbox); have n4_ := Aside0.mk ((by rw [hg]; exact (below_size (hb_ HB)) : w.heap.size ≤ gb446)); have n5_ := Aside0.mk ((by rw [hg]; exact (below_size (hb_ HB)) : w.heap.size ≤ gb446)); clear HO433; clear HO444; clear HB; have HO433 := n0_; have HO444 := n1_; have HB := n2_; have BK446 := n3_; have GW446 := n4_; have GE446 := n5_; clear n0_ n1_ n2_ n3_ n4_ n5_; clear hb hbox hg; have hcz15_0 : w14.cell? ⟨gb446, 0, none⟩ = some (.bool false) := (blk_cell BK446.out 0).trans rfl; have hcz15_1 : w14.cell? ⟨gb446, 1, none⟩ = some (.bool false) := (blk_cell BK446.out 1).trans rfl; have hcz15_2 : w14.cell? ⟨gb446, 2, none⟩ = some (.bool false) := (blk_cell BK446.out 2).trans rfl; have hcz15_3 : w14.cell? ⟨gb446, 3, none⟩ = some (.bool false) := (blk_cell BK446.out 3).trans rfl; have hcz15_4 : w14.cell? ⟨gb446, 4, none⟩ = some (.int .i64 0) := (blk_cell BK446.out 4).trans rfl; have hcz15_5 : w14.cell? ⟨gb446, 5, none⟩ = some (.int .i64 0) := (blk_cell BK446.out 5).trans rfl; have hcz15_6 : w14.cell? ⟨gb446, 6, none⟩ = some (.string (⟨#[]⟩ : ByteArray)) := (blk_cell BK446.out 6).trans rfl; have hcz15_7 : w14.cell? ⟨gb446, 7, none⟩ = some (.string (⟨#[]⟩ : ByteArray)) := (blk_cell BK446.out 7).trans rfl; have hfz15_0 := blk_frozen BK446.out 0; have hfz15_1 := blk_frozen BK446.out 1; have hfz15_2 := blk_frozen BK446.out 2; have hfz15_3 := blk_frozen BK446.out 3; have hfz15_4 := blk_frozen BK446.out 4; have hfz15_5 := blk_frozen BK446.out 5; have hfz15_6 := blk_frozen BK446.out 6; have hfz15_7 := blk_frozen BK446.out 7))
 repeat (go_quiet (first | (go_at_call 8; (with_reducible refine (headgatelaw21_Large.calls k _ _ l0 false _ ?side1 ?side2 A2.out).mono ?_); (case side1 => repeat (first | exact HR0.out | (with_reducible refine Kd.C_alloc ?_ _) | (with_reducible refine Kd.C_drewN ?_ _) | (with_reducible refine Kd.C_drew ?_))); (case side2 => exact HC0.out); rintro e w' ⟨rfl, ⟨nd, rfl⟩⟩; (try first | exact ⟨rfl, _, World.drewN_drewN _ _ _⟩ | exact ⟨rfl, _, Eq.trans (World.drewN_drewN _ _ _) (congrArg (World.drewN _) (Nat.add_assoc _ _ _))⟩)) | (go_at_call 16; (with_reducible refine (keys_First.calls  t423 t424 t425 t426 t427 t428 t429 t430 _ A6.out).mono ?_); rintro e w10 ⟨rfl, hb⟩; have n0_ := Aside0.mk (below_step (hb_ HB) hb); clear HB; have HB := n0_; clear n0_; (try clear hb); (try clear hb2); (try clear hk); (try clear hi)) | (go_at_call 10; (with_reducible refine (headgatelaw21_few.calls _ _ l0 t431 _ ?side1 ?side2 A7.out).mono ?_); (case side1 => repeat (first | exact (Kd.C_below HR0.out HB.out) | (with_reducible refine Kd.C_alloc ?_ _) | (with_reducible refine Kd.C_drewN ?_ _) | (with_reducible refine Kd.C_drew ?_))); (case side2 => exact HC0.out); rintro e w11 ⟨v432, rfl, ho0, hb⟩; have n0_ := Aside0.mk (Kd.R_lower ho0 (below_size (hb_ HB))); have n1_ := Aside0.mk (below_step (hb_ HB) hb); clear HB; have HO433 := n0_; have HB := n1_; clear n0_ n1_; (try clear hb); (try clear hb2); (try clear hk); (try clear hi); (try clear ho0); obtain ⟨Ao12, co12, eo12⟩ := Kd.R_slice HO433.out; subst eo12) | (go_at_call 11; (with_reducible refine (keys_Answer.calls t423 t424 t425 t426 t427 t428 t429 t430 _ _ t431 t434 t435 t436 t437 t438 t439 t440 t441 t442 t445 _ ?side1 ?side2 ?side3 A8.out).mono ?_); (case side1 => repeat (first | exact (Kd.R_reads' HO433.out).2.2 | (with_reducible refine Kd.C_alloc ?_ _) | (with_reducible refine Kd.C_drewN ?_ _) | (with_reducible refine Kd.C_drew ?_))); (case side2 => exact (Kd.R_reads' HO433.out).2.1); (case side3 => first | ((refine Glob.keep HG.out ?_); (repeat (first | (with_reducible first | exact HB.out | apply below_alloc | apply pw_below_drewN | apply below_drew1) | exact HB.out)); done) | exact HG.out); rintro e w13 ⟨v443, rfl, ho0, hb⟩; have n0_ := Aside0.mk (Kd.R_elder' (by (with_reducible repeat (first | apply Kd.R_alloc | apply Kd.R_drewN | apply Kd.R_drew)); exact HO433.out) (Kd.R_base ho0) hb); have n1_ := Aside0.mk (Kd.R_lower (Kd.R_new' ho0 (Kd.R_lt (by (with_reducible repeat (first | apply Kd.R_alloc | apply Kd.R_drewN | apply Kd.R_drew)); exact HO433.out))) (below_size (hb_ HB))); have n2_ := Aside0.mk (below_step (hb_ HB) hb); clear HO433; clear HB; have HO433 := n0_; have HO444 := n1_; have HB := n2_; clear n0_ n1_ n2_; (try clear hb); (try clear hb2); (try clear hk); (try clear hi); (try clear ho0)) | ((with_reducible refine gate_dst (N := 3) rfl ?_); refine box_event ?hg (N := 3) ?hd (cs := #[.bool false, .bool false, .bool false, .bool false, .int .i64 0, .int .i64 0, .string (⟨#[]⟩ : ByteArray), .string (⟨#[]⟩ : ByteArray)]) (t := 23) ?hr ?_; (case hd => rfl); (case hg => rfl); (case hr => first | (go_simp; done) | (go_simp; rfl)); intro gb446 hg w14 hbox hb; have n0_ := Aside0.mk (Kd.R_below (by (with_reducible repeat (first | apply Kd.R_alloc | apply Kd.R_drewN | apply Kd.R_drew)); exact HO433.out) hb); have n1_ := Aside0.mk (Kd.R_below (by (with_reducible repeat (first | apply Kd.R_alloc | apply Kd.R_drewN | apply Kd.R_drew)); exact HO444.out) hb); have n2_ := Aside0.mk (below_step (hb_ HB) hb); have n3_ := Aside0.mk (hbox); have n4_ := Aside0.mk ((by rw [hg]; exact (below_size (hb_ HB)) : w.heap.size ≤ gb446)); have n5_ := Aside0.mk ((by rw [hg]; exact (below_size (hb_ HB)) : w.heap.size ≤ gb446)); clear HO433; clear HO444; clear HB; have HO433 := n0_; have HO444 := n1_; have HB := n2_; have BK446 := n3_; have GW446 := n4_; have GE446 := n5_; clear n0_ n1_ n2_ n3_ n4_ n5_; clear hb hbox hg; have hcz15_0 : w14.cell? ⟨gb446, 0, none⟩ = some (.bool false) := (blk_cell BK446.out 0).trans rfl; have hcz15_1 : w14.cell? ⟨gb446, 1, none⟩ = some (.bool false) := (blk_cell BK446.out 1).trans rfl; have hcz15_2 : w14.cell? ⟨gb446, 2, none⟩ = some (.bool false) := (blk_cell BK446.out 2).trans rfl; have hcz15_3 : w14.cell? ⟨gb446, 3, none⟩ = some (.bool false) := (blk_cell BK446.out 3).trans rfl; have hcz15_4 : w14.cell? ⟨gb446, 4, none⟩ = some (.int .i64 0) := (blk_cell BK446.out 4).trans rfl; have hcz15_5 : w14.cell? ⟨gb446, 5, none⟩ = some (.int .i64 0) := (blk_cell BK446.out 5).trans rfl; have hcz15_6 : w14.cell? ⟨gb446, 6, none⟩ = some (.string (⟨#[]⟩ : ByteArray)) := (blk_cell BK446.out 6).trans rfl; have hcz15_7 : w14.cell? ⟨gb446, 7, none⟩ = some (.string (⟨#[]⟩ : ByteArray)) := (blk_cell BK446.out 7).trans rfl; have hfz15_0 := blk_frozen BK446.out 0; have hfz15_1 := blk_frozen BK446.out 1; have hfz15_2 := blk_frozen BK446.out 2; have hfz15_3 := blk_frozen BK446.out 3; have hfz15_4 := blk_frozen BK446.out 4; have hfz15_5 := blk_frozen BK446.out 5; have hfz15_6 := blk_frozen BK446.out 6; have hfz15_7 := blk_frozen BK446.out 7)); try go_wp2_with (first | (go_at_call 8; (with_reducible refine (headgatelaw21_Large.calls k _ _ l0 false _ ?side1 ?side2 A2.out).mono ?_); (case side1 => repeat (first | exact HR0.out | (with_reducible refine Kd.C_alloc ?_ _) | (with_reducible refine Kd.C_drewN ?_ _) | (with_reducible refine Kd.C_drew ?_))); (case side2 => exact HC0.out); rintro e w' ⟨rfl, ⟨nd, rfl⟩⟩; (try first | exact ⟨rfl, _, World.drewN_drewN _ _ _⟩ | exact ⟨rfl, _, Eq.trans (World.drewN_drewN _ _ _) (congrArg (World.drewN _) (Nat.add_assoc _ _ _))⟩)) | (go_at_call 16; (with_reducible refine (keys_First.calls  t423 t424 t425 t426 t427 t428 t429 t430 _ A6.out).mono ?_); rintro e w10 ⟨rfl, hb⟩; have n0_ := Aside0.mk (below_step (hb_ HB) hb); clear HB; have HB := n0_; clear n0_; (try clear hb); (try clear hb2); (try clear hk); (try clear hi)) | (go_at_call 10; (with_reducible refine (headgatelaw21_few.calls _ _ l0 t431 _ ?side1 ?side2 A7.out).mono ?_); (case side1 => repeat (first | exact (Kd.C_below HR0.out HB.out) | (with_reducible refine Kd.C_alloc ?_ _) | (with_reducible refine Kd.C_drewN ?_ _) | (with_reducible refine Kd.C_drew ?_))); (case side2 => exact HC0.out); rintro e w11 ⟨v432, rfl, ho0, hb⟩; have n0_ := Aside0.mk (Kd.R_lower ho0 (below_size (hb_ HB))); have n1_ := Aside0.mk (below_step (hb_ HB) hb); clear HB; have HO433 := n0_; have HB := n1_; clear n0_ n1_; (try clear hb); (try clear hb2); (try clear hk); (try clear hi); (try clear ho0); obtain ⟨Ao12, co12, eo12⟩ := Kd.R_slice HO433.out; subst eo12) | (go_at_call 11; (with_reducible refine (keys_Answer.calls t423 t424 t425 t426 t427 t428 t429 t430 _ _ t431 t434 t435 t436 t437 t438 t439 t440 t441 t442 t445 _ ?side1 ?side2 ?side3 A8.out).mono ?_); (case side1 => repeat (first | exact (Kd.R_reads' HO433.out).2.2 | (with_reducible refine Kd.C_alloc ?_ _) | (with_reducible refine Kd.C_drewN ?_ _) | (with_reducible refine Kd.C_drew ?_))); (case side2 => exact (Kd.R_reads' HO433.out).2.1); (case side3 => first | ((refine Glob.keep HG.out ?_); (repeat (first | (with_reducible first | exact HB.out | apply below_alloc | apply pw_below_drewN | apply below_drew1) | exact HB.out)); done) | exact HG.out); rintro e w13 ⟨v443, rfl, ho0, hb⟩; have n0_ := Aside0.mk (Kd.R_elder' (by (with_reducible repeat (first | apply Kd.R_alloc | apply Kd.R_drewN | apply Kd.R_drew)); exact HO433.out) (Kd.R_base ho0) hb); have n1_ := Aside0.mk (Kd.R_lower (Kd.R_new' ho0 (Kd.R_lt (by (with_reducible repeat (first | apply Kd.R_alloc | apply Kd.R_drewN | apply Kd.R_drew)); exact HO433.out))) (below_size (hb_ HB))); have n2_ := Aside0.mk (below_step (hb_ HB) hb); clear HO433; clear HB; have HO433 := n0_; have HO444 := n1_; have HB := n2_; clear n0_ n1_ n2_; (try clear hb); (try clear hb2); (try clear hk); (try clear hi); (try clear ho0)) | ((with_reducible refine gate_dst (N := 3) rfl ?_); refine box_event ?hg (N := 3) ?hd (cs := #[.bool false, .bool false, .bool false, .bool false, .int .i64 0, .int .i64 0, .string (⟨#[]⟩ : ByteArray), .string (⟨#[]⟩ : ByteArray)]) (t := 23) ?hr ?_; (case hd => rfl); (case hg => rfl); (case hr => first | (go_simp; done) | (go_simp; rfl)); intro gb446 hg w14 hbox hb; have n0_ := Aside0.mk (Kd.R_below (by (with_reducible repeat (first | apply Kd.R_alloc | apply Kd.R_drewN | apply Kd.R_drew)); exact HO433.out) hb); have n1_ := Aside0.mk (Kd.R_below (by (with_reducible repeat (first | apply Kd.R_alloc | apply Kd.R_drewN | apply Kd.R_drew)); exact HO444.out) hb); have n2_ := Aside0.mk (below_step (hb_ HB) hb); have n3_ := Aside0.mk (hbox); have n4_ := Aside0.mk ((by rw [hg]; exact (below_size (hb_ HB)) : w.heap.size ≤ gb446)); have n5_ := Aside0.mk ((by rw [hg]; exact (below_size (hb_ HB)) : w.heap.size ≤ gb446)); clear HO433; clear HO444; clear HB; have HO433 := n0_; have HO444 := n1_; have HB := n2_; have BK446 := n3_; have GW446 := n4_; have GE446 := n5_; clear n0_ n1_ n2_ n3_ n4_ n5_; clear hb hbox hg; have hcz15_0 : w14.cell? ⟨gb446, 0, none⟩ = some (.bool false) := (blk_cell BK446.out 0).trans rfl; have hcz15_1 : w14.cell? ⟨gb446, 1, none⟩ = some (.bool false) := (blk_cell BK446.out 1).trans rfl; have hcz15_2 : w14.cell? ⟨gb446, 2, none⟩ = some (.bool false) := (blk_cell BK446.out 2).trans rfl; have hcz15_3 : w14.cell? ⟨gb446, 3, none⟩ = some (.bool false) := (blk_cell BK446.out 3).trans rfl; have hcz15_4 : w14.cell? ⟨gb446, 4, none⟩ = some (.int .i64 0) := (blk_cell BK446.out 4).trans rfl; have hcz15_5 : w14.cell? ⟨gb446, 5, none⟩ = some (.int .i64 0) := (blk_cell BK446.out 5).trans rfl; have hcz15_6 : w14.cell? ⟨gb446, 6, none⟩ = some (.string (⟨#[]⟩ : ByteArray)) := (blk_cell BK446.out 6).trans rfl; have hcz15_7 : w14.cell? ⟨gb446, 7, none⟩ = some (.string (⟨#[]⟩ : ByteArray)) := (blk_cell BK446.out 7).trans rfl; have hfz15_0 := blk_frozen BK446.out 0; have hfz15_1 := blk_frozen BK446.out 1; have hfz15_2 := blk_frozen BK446.out 2; have hfz15_3 := blk_frozen BK446.out 3; have hfz15_4 := blk_frozen BK446.out 4; have hfz15_5 := blk_frozen BK446.out 5; have hfz15_6 := blk_frozen BK446.out 6; have hfz15_7 := blk_frozen BK446.out 7)))
 go_loopg [6, 7] k (fun kq v6 v7 w' => ∃ (x6_1 : Int) (x7_1 : Int), v6 = .int .i64 x6_1 ∧ v7 = .int .i64 x7_1 ∧ Aside0 (headgatelaw21_KeysOffers.l0 kq l0 t442 x6_1 x7_1 = some r) ∧ Aside0 (kq ≤ k) ∧ Aside0 (Kd.R k45 45 w' w.heap.size (fun _ => True) v443 t442) ∧ Aside0 (w'.heap[gb446]? = some (.cells #[.bool t434, .bool t435, .bool t436, .bool t437, .int .i64 t438, .int .i64 t439, .string t440, .string t441] 23 (0, 0))) ∧ Aside0 (Below w.heap.size w w'))
 case atStart => exact ⟨(0), (0), (by first | rfl | (simp; done) | (simp [*]; done)), (by first | rfl | (simp; done) | (simp [*]; done)), H', ⟨Nat.le_refl _⟩, ⟨by (with_reducible repeat (first | apply Kd.R_alloc | apply Kd.R_drewN | apply Kd.R_drew)); exact Kd.R_mono (Kd.R_far (p := ⟨gb446, 7, none⟩) (Kd.R_far (p := ⟨gb446, 6, none⟩) (Kd.R_far (p := ⟨gb446, 5, none⟩) (Kd.R_far (p := ⟨gb446, 4, none⟩) (Kd.R_far (p := ⟨gb446, 3, none⟩) (Kd.R_far (p := ⟨gb446, 2, none⟩) (Kd.R_far (p := ⟨gb446, 1, none⟩) (Kd.R_far (p := ⟨gb446, 0, none⟩) (Kd.R_types HO444.out BK446.out (by decide)) (fun _ hk => hk.2) (.bool t434)) (fun _ hk => hk.2) (.bool t435)) (fun _ hk => hk.2) (.bool t436)) (fun _ hk => hk.2) (.bool t437)) (fun _ hk => hk.2) (.int .i64 t438)) (fun _ hk => hk.2) (.int .i64 t439)) (fun _ hk => hk.2) (.string t440)) (fun _ hk => hk.2) (.string t441)) (fun _ hk => trivial)⟩, ⟨by (with_reducible repeat (first | refine blk_drewN ?_ _ | refine blk_drew ?_ | refine blk_alloc ?_ _)); refine blk_put (cs := #[.bool t434, .bool t435, .bool t436, .bool t437, .int .i64 t438, .int .i64 t439, .string t440, .string (⟨#[]⟩ : ByteArray)]) ?_ 7 _ rfl; (with_reducible repeat (first | refine blk_drewN ?_ _ | refine blk_drew ?_ | refine blk_alloc ?_ _)); refine blk_put (cs := #[.bool t434, .bool t435, .bool t436, .bool t437, .int .i64 t438, .int .i64 t439, .string (⟨#[]⟩ : ByteArray), .string (⟨#[]⟩ : ByteArray)]) ?_ 6 _ rfl; (with_reducible repeat (first | refine blk_drewN ?_ _ | refine blk_drew ?_ | refine blk_alloc ?_ _)); refine blk_put (cs := #[.bool t434, .bool t435, .bool t436, .bool t437, .int .i64 t438, .int .i64 0, .string (⟨#[]⟩ : ByteArray), .string (⟨#[]⟩ : ByteArray)]) ?_ 5 _ rfl; (with_reducible repeat (first | refine blk_drewN ?_ _ | refine blk_drew ?_ | refine blk_alloc ?_ _)); refine blk_put (cs := #[.bool t434, .bool t435, .bool t436, .bool t437, .int .i64 0, .int .i64 0, .string (⟨#[]⟩ : ByteArray), .string (⟨#[]⟩ : ByteArray)]) ?_ 4 _ rfl; (with_reducible repeat (first | refine blk_drewN ?_ _ | refine blk_drew ?_ | refine blk_alloc ?_ _)); refine blk_put (cs := #[.bool t434, .bool t435, .bool t436, .bool false, .int .i64 0, .int .i64 0, .string (⟨#[]⟩ : ByteArray), .string (⟨#[]⟩ : ByteArray)]) ?_ 3 _ rfl; (with_reducible repeat (first | refine blk_drewN ?_ _ | refine blk_drew ?_ | refine blk_alloc ?_ _)); refine blk_put (cs := #[.bool t434, .bool t435, .bool false, .bool false, .int .i64 0, .int .i64 0, .string (⟨#[]⟩ : ByteArray), .string (⟨#[]⟩ : ByteArray)]) ?_ 2 _ rfl; (with_reducible repeat (first | refine blk_drewN ?_ _ | refine blk_drew ?_ | refine blk_alloc ?_ _)); refine blk_put (cs := #[.bool t434, .bool false, .bool false, .bool false, .int .i64 0, .int .i64 0, .string (⟨#[]⟩ : ByteArray), .string (⟨#[]⟩ : ByteArray)]) ?_ 1 _ rfl; (with_reducible repeat (first | refine blk_drewN ?_ _ | refine blk_drew ?_ | refine blk_alloc ?_ _)); refine blk_put (cs := #[.bool false, .bool false, .bool false, .bool false, .int .i64 0, .int .i64 0, .string (⟨#[]⟩ : ByteArray), .string (⟨#[]⟩ : ByteArray)]) ?_ 0 _ rfl; (with_reducible repeat (first | refine blk_drewN ?_ _ | refine blk_drew ?_ | refine blk_alloc ?_ _)); exact BK446.out⟩, ⟨hb_ HB⟩⟩
 case round =>
  clear H'
  try clear p2
  try clear c3
  try clear c5
  try clear c9
  try clear c9b0
  try clear c9b1
  try clear hcz15_0
  try clear hcz15_1
  try clear hcz15_2
  try clear hcz15_3
  try clear hcz15_4
  try clear hcz15_5
  try clear hcz15_6
  try clear hcz15_7
  try clear hfz15_0
  try clear hfz15_1
  try clear hfz15_2
  try clear hfz15_3
  try clear hfz15_4
  try clear hfz15_5
  try clear hfz15_6
  try clear hfz15_7
  obtain ⟨x6_1, x7_1, rfl, rfl, HA, HK1, HO_4, BK446, HB⟩ := hrel
  cases gk with
  | zero => exact absurd HA.out (by simp [headgatelaw21_KeysOffers.l0])
  | succ k1 =>
   have H := HA.out
   clear HA
   simp only [headgatelaw21_KeysOffers.l0] at H
   refine neg_first (p := (x7_1 < (l0.length : Int))) (fun c16 => ?_) (fun c16 => ?_)
   ·rw [if_neg c16] at H
    have c16b0 : decide (x7_1 < (l0.length : Int)) = false := decide_eq_false c16
    clear c16
    refine neg_first (p := (x6_1 = (t442.length : Int))) (fun c30 => ?_) (fun c30 => ?_)
    ·rw [if_neg c30] at H
     have c30b0 : (x6_1 == (t442.length : Int)) = false := beq_eq_false_iff_ne.mpr c30
     have c30b1 : (x6_1 != (t442.length : Int)) = true := bne_iff_ne.mpr c30
     exact absurd ((Option.some.inj H).trans HT0.out) (by decide)
    rw [if_pos c30] at H
    have c30b0 : (x6_1 == (t442.length : Int)) = true := beq_iff_eq.mpr c30
    have c30b1 : (x6_1 != (t442.length : Int)) = false := bne_eq_false_iff_eq.mpr c30
    clear c30
    replace H := Option.bind_eq_some_iff.mp H
    obtain ⟨t448, A310, H⟩ := H
    try dsimp only at H
    have A31 := Aside0.mk A310
    clear A310
    obtain rfl := Option.some.inj H
    obtain ⟨Ao32, co32, eo32⟩ := Kd.R_slice HO_4.out
    subst eo32
    go_wp2_with (first | (go_at_call 9; (with_reducible refine (headgatelaw21_wakes.calls  t448 _ ?side1 A31.out).mono ?_); (case side1 => first | ((refine Glob.keep HG.out ?_); (repeat (first | (with_reducible first | exact HB.out | apply below_alloc | apply pw_below_drewN | apply below_drew1 | refine below_set ?_ GE446.out) | exact HB.out)); done) | exact HG.out); rintro e w33 ⟨rfl, hb⟩; have n0_ := Aside0.mk (Kd.R_below (by (with_reducible repeat (first | apply Kd.R_alloc | apply Kd.R_drewN | apply Kd.R_drew)); exact HO_4.out) hb); have n1_ := Aside0.mk (blk_below (bk_ BK446) hb); have n2_ := Aside0.mk (below_step (hb_ HB) hb); clear HO_4; clear BK446; clear HB; have HO_4 := n0_; have BK446 := n1_; have HB := n2_; clear n0_ n1_ n2_; (try clear hb); (try clear hb2); (try clear hk); (try clear hi)))
    repeat (go_quiet (first | (go_at_call 9; (with_reducible refine (headgatelaw21_wakes.calls  t448 _ ?side1 A31.out).mono ?_); (case side1 => first | ((refine Glob.keep HG.out ?_); (repeat (first | (with_reducible first | exact HB.out | apply below_alloc | apply pw_below_drewN | apply below_drew1 | refine below_set ?_ GE446.out) | exact HB.out)); done) | exact HG.out); rintro e w33 ⟨rfl, hb⟩; have n0_ := Aside0.mk (Kd.R_below (by (with_reducible repeat (first | apply Kd.R_alloc | apply Kd.R_drewN | apply Kd.R_drew)); exact HO_4.out) hb); have n1_ := Aside0.mk (blk_below (bk_ BK446) hb); have n2_ := Aside0.mk (below_step (hb_ HB) hb); clear HO_4; clear BK446; clear HB; have HO_4 := n0_; have BK446 := n1_; have HB := n2_; clear n0_ n1_ n2_; (try clear hb); (try clear hb2); (try clear hk); (try clear hi))); try go_wp2_with (first | (go_at_call 9; (with_reducible refine (headgatelaw21_wakes.calls  t448 _ ?side1 A31.out).mono ?_); (case side1 => first | ((refine Glob.keep HG.out ?_); (repeat (first | (with_reducible first | exact HB.out | apply below_alloc | apply pw_below_drewN | apply below_drew1 | refine below_set ?_ GE446.out) | exact HB.out)); done) | exact HG.out); rintro e w33 ⟨rfl, hb⟩; have n0_ := Aside0.mk (Kd.R_below (by (with_reducible repeat (first | apply Kd.R_alloc | apply Kd.R_drewN | apply Kd.R_drew)); exact HO_4.out) hb); have n1_ := Aside0.mk (blk_below (bk_ BK446) hb); have n2_ := Aside0.mk (below_step (hb_ HB) hb); clear HO_4; clear BK446; clear HB; have HO_4 := n0_; have BK446 := n1_; have HB := n2_; clear n0_ n1_ n2_; (try clear hb); (try clear hb2); (try clear hk); (try clear hi))))
    go_ret
    exact ⟨by first | rfl | (simp [errW_none, errW_some] <;> rfl) | (simp [*, errW_none, errW_some] <;> rfl) | (simp [bt, *]; done) | (unfold bt; simp [*]; done), by repeat (first | (with_reducible first | exact HB.out | apply below_alloc | apply pw_below_drewN | apply below_drew1 | refine below_set ?_ GE446.out) | exact HB.out)⟩
   rw [if_pos c16] at H
   have c16b0 : decide (x7_1 < (l0.length : Int)) = true := decide_eq_true c16
   clear c16
   have HC17 := Aside0.mk H
   clear H
   go_upto_region 10 with (fail)
   repeat (go_quiet (fail); go_upto_region 10 with (fail))
   go_cut [50] (fun v50 wc => ∃ (kq : Nat) (x50_16 : Bool), v50 = .bool x50_16 ∧ Aside0 (headgatelaw21_KeysOffers.j1 kq l0 t442 x6_1 x7_1 x50_16 = some r) ∧ Aside0 (kq ≤ k1) ∧ Aside0 (Kd.R k45 45 wc w.heap.size (fun _ => True) v443 t442) ∧ Aside0 (wc.heap[gb446]? = some (.cells #[.bool t434, .bool t435, .bool t436, .bool t437, .int .i64 t438, .int .i64 t439, .string t440, .string t441] 23 (0, 0))) ∧ Aside0 (Below w.heap.size w wc))
   case first =>
    have H := HC17.out
    clear HC17
    refine neg_first (p := (x6_1 < (t442.length : Int))) (fun c18 => ?_) (fun c18 => ?_)
    ·rw [if_neg c18] at H
     have c18b0 : decide (x6_1 < (t442.length : Int)) = false := decide_eq_false c18
     clear c18
     (first | rw [c18b0] | (simp only [i64_w, i32_w]; rw [c18b0]) | skip)
     have H' := Aside0.mk H
     clear H
     obtain ⟨Ao22, co22, eo22⟩ := Kd.R_slice HO_4.out
     subst eo22
     go_wp2
     repeat (go_quiet (fail); try go_wp2)
     go_meet
     case rel => exact ⟨_, (false), (by first | rfl | (simp; done) | (simp [*]; done)), H', ⟨by have := HK1.out; first | omega | exact Nat.le_refl _⟩, ⟨by (with_reducible repeat (first | apply Kd.R_alloc | apply Kd.R_drewN | apply Kd.R_drew)); exact HO_4.out⟩, ⟨bk_ BK446⟩, ⟨hb_ HB⟩⟩
    rw [if_pos c18] at H
    have c18b0 : decide (x6_1 < (t442.length : Int)) = true := decide_eq_true c18
    clear c18
    (first | rw [c18b0] | (simp only [i64_w, i32_w]; rw [c18b0]) | skip)
    refine neg_first (p := (0 ≤ x6_1)) (fun c19 => ?_) (fun c19 => ?_)
    ·rw [if_neg c19] at H
     exact absurd H (by simp)
    rw [if_pos c19] at H
    have c19b0 : decide (0 ≤ x6_1) = true := decide_eq_true c19
    clear c19
    refine neg_first (p := (0 ≤ x7_1)) (fun c20 => ?_) (fun c20 => ?_)
    ·rw [if_neg c20] at H
     exact absurd H (by simp)
    rw [if_pos c20] at H
    have c20b0 : decide (0 ≤ x7_1) = true := decide_eq_true c20
    clear c20
    have H' := Aside0.mk H
    clear H
    obtain ⟨Ao21, co21, eo21⟩ := Kd.R_slice HO_4.out
    subst eo21
    have p449 : 0 ≤ (x6_1 : Int) := of_decide_eq_true (by first | (with_reducible assumption) | assumption)
    have q449 : x6_1 < (t442.length : Int) := of_decide_eq_true (by first | (with_reducible assumption) | assumption)
    obtain ⟨ad449, e449, hx449_0, hx449_1⟩ := at_T45 (Kd.R_reads' HO_4.out).2.2 x6_1 p449 q449
    cases e449
    replace p449 := eq_true p449
    replace q449 := eq_true q449
    have p450 : 0 ≤ (x7_1 : Int) := of_decide_eq_true (by first | (with_reducible assumption) | assumption)
    have q450 : x7_1 < (l0.length : Int) := of_decide_eq_true (by first | (with_reducible assumption) | assumption)
    obtain ⟨ad450, e450, hx450_0, hx450_1⟩ := at_T45 HR0.out x7_1 p450 q450
    cases e450
    replace hx450_0 := (HB.out.cell (World.block_lt_of_cell? w _ hx450_0)).trans hx450_0
    replace hx450_1 := (HB.out.cell (World.block_lt_of_cell? w _ hx450_1)).trans hx450_1
    replace p450 := eq_true p450
    replace q450 := eq_true q450
    go_wp2
    repeat (go_quiet (fail); try go_wp2)
    go_meet
    case rel => exact ⟨_, ((((rd_T45 t442 x6_1).f0).toList == ((rd_T45 l0 x7_1).f0).toList)), (by first | rfl | (simp; done) | (simp [*]; done)), H', ⟨by have := HK1.out; first | omega | exact Nat.le_refl _⟩, ⟨by (with_reducible repeat (first | apply Kd.R_alloc | apply Kd.R_drewN | apply Kd.R_drew)); exact HO_4.out⟩, ⟨bk_ BK446⟩, ⟨hb_ HB⟩⟩
   case rest =>
    clear HC17
    try clear c1
    try clear c2
    try clear p2
    try clear c3
    try clear p4
    try clear q4
    try clear hx4
    try clear c5
    try clear c9
    try clear c9b0
    try clear c9b1
    try clear c16
    try clear c16b0
    try clear c18
    try clear c18b0
    try clear c19
    try clear c19b0
    try clear c20
    try clear c20b0
    try clear hcz15_0
    try clear hcz15_1
    try clear hcz15_2
    try clear hcz15_3
    try clear hcz15_4
    try clear hcz15_5
    try clear hcz15_6
    try clear hcz15_7
    try clear hfz15_0
    try clear hfz15_1
    try clear hfz15_2
    try clear hfz15_3
    try clear hfz15_4
    try clear hfz15_5
    try clear hfz15_6
    try clear hfz15_7
    try clear hx449_0
    try clear hx449_1
    try clear hx450_0
    try clear hx450_1
    try clear p2
    try clear p449
    try clear p450
    try clear q449
    try clear q450
    obtain ⟨kq, x50_16, rfl, HA, HJ16, HO_4, BK446, HB⟩ := hcut
    cases kq with
    | zero => exact absurd HA.out (by simp [headgatelaw21_KeysOffers.j1])
    | succ kj16 =>
     have H := HA.out
     clear HA
     simp only [headgatelaw21_KeysOffers.j1] at H
     by_cases c23 : x50_16 = true
     ·subst c23
      have H1 := H
      rw [if_pos rfl] at H1
      clear H
      have H := H1
      clear H1
      have H' := Aside0.mk H
      clear H
      go_wp2
      repeat (go_quiet (fail); try go_wp2)
      go_roundg kj16
      case measure => have := HK1.out; have := HJ16.out; omega
      case rel => exact ⟨(wrap64 (x6_1 + 1)), (wrap64 (x7_1 + 1)), (by first | rfl | (simp; done) | (simp [*]; done)), (by first | rfl | (simp; done) | (simp [*]; done)), H', ⟨by have := HK1.out; have := HJ16.out; omega⟩, ⟨by (with_reducible repeat (first | apply Kd.R_alloc | apply Kd.R_drewN | apply Kd.R_drew)); exact HO_4.out⟩, ⟨bk_ BK446⟩, ⟨hb_ HB⟩⟩
     replace c23 := Bool.eq_false_iff.mpr c23
     subst c23
     have H1 := H
     rw [if_neg (show ¬ (false = true) by decide)] at H1
     clear H
     have H := H1
     clear H1
     refine neg_first (p := (0 ≤ x7_1)) (fun c24 => ?_) (fun c24 => ?_)
     ·rw [if_neg c24] at H
      exact absurd H (by simp)
     rw [if_pos c24] at H
     have c24b0 : decide (0 ≤ x7_1) = true := decide_eq_true c24
     clear c24
     refine neg_first (p := (x7_1 < (l0.length : Int))) (fun c25 => ?_) (fun c25 => ?_)
     ·rw [if_neg c25] at H
      exact absurd H (by simp)
     rw [if_pos c25] at H
     have c25b0 : decide (x7_1 < (l0.length : Int)) = true := decide_eq_true c25
     clear c25
     by_cases c26 : ((rd_T45 l0 x7_1).f0).toList = ([73, 110, 105, 116, 105, 97, 116, 111, 114, 78, 97, 109, 101] : List UInt8)
     ·rw [if_pos c26] at H
      have c26b0 : (((rd_T45 l0 x7_1).f0).toList == ([73, 110, 105, 116, 105, 97, 116, 111, 114, 78, 97, 109, 101] : List UInt8)) = true := beq_iff_eq.mpr c26
      have c26b1 : (((rd_T45 l0 x7_1).f0).toList != ([73, 110, 105, 116, 105, 97, 116, 111, 114, 78, 97, 109, 101] : List UInt8)) = false := bne_eq_false_iff_eq.mpr c26
      clear c26
      have H' := Aside0.mk H
      clear H
      have p451 : 0 ≤ (x7_1 : Int) := of_decide_eq_true (by first | (with_reducible assumption) | assumption)
      have q451 : x7_1 < (l0.length : Int) := of_decide_eq_true (by first | (with_reducible assumption) | assumption)
      obtain ⟨ad451, e451, hx451_0, hx451_1⟩ := at_T45 HR0.out x7_1 p451 q451
      cases e451
      replace hx451_0 := (HB.out.cell (World.block_lt_of_cell? w _ hx451_0)).trans hx451_0
      replace hx451_1 := (HB.out.cell (World.block_lt_of_cell? w _ hx451_1)).trans hx451_1
      replace p451 := eq_true p451
      replace q451 := eq_true q451
      go_wp2
      repeat (go_quiet (fail); try go_wp2)
      go_roundg kj16
      case measure => have := HK1.out; have := HJ16.out; omega
      case rel => exact ⟨(x6_1), (wrap64 (x7_1 + 1)), (by first | rfl | (simp; done) | (simp [*]; done)), (by first | rfl | (simp; done) | (simp [*]; done)), H', ⟨by have := HK1.out; have := HJ16.out; omega⟩, ⟨by (with_reducible repeat (first | apply Kd.R_alloc | apply Kd.R_drewN | apply Kd.R_drew)); exact HO_4.out⟩, ⟨bk_ BK446⟩, ⟨hb_ HB⟩⟩
     rw [if_neg c26] at H
     have c26b0 : (((rd_T45 l0 x7_1).f0).toList == ([73, 110, 105, 116, 105, 97, 116, 111, 114, 78, 97, 109, 101] : List UInt8)) = false := beq_eq_false_iff_ne.mpr c26
     have c26b1 : (((rd_T45 l0 x7_1).f0).toList != ([73, 110, 105, 116, 105, 97, 116, 111, 114, 78, 97, 109, 101] : List UInt8)) = true := bne_iff_ne.mpr c26
     by_cases c27 : ((rd_T45 l0 x7_1).f0).toList = ([84, 97, 114, 103, 101, 116, 78, 97, 109, 101] : List UInt8)
     ·rw [if_pos c27] at H
      have c27b0 : (((rd_T45 l0 x7_1).f0).toList == ([84, 97, 114, 103, 101, 116, 78, 97, 109, 101] : List UInt8)) = true := beq_iff_eq.mpr c27
      have c27b1 : (((rd_T45 l0 x7_1).f0).toList != ([84, 97, 114, 103, 101, 116, 78, 97, 109, 101] : List UInt8)) = false := bne_eq_false_iff_eq.mpr c27
      clear c27
      have H' := Aside0.mk H
      clear H
      have p451 : 0 ≤ (x7_1 : Int) := of_decide_eq_true (by first | (with_reducible assumption) | assumption)
      have q451 : x7_1 < (l0.length : Int) := of_decide_eq_true (by first | (with_reducible assumption) | assumption)
      obtain ⟨ad451, e451, hx451_0, hx451_1⟩ := at_T45 HR0.out x7_1 p451 q451
      cases e451
      replace hx451_0 := (HB.out.cell (World.block_lt_of_cell? w _ hx451_0)).trans hx451_0
      replace hx451_1 := (HB.out.cell (World.block_lt_of_cell? w _ hx451_1)).trans hx451_1
      replace p451 := eq_true p451
      replace q451 := eq_true q451
      go_wp2
      repeat (go_quiet (fail); try go_wp2)
      go_roundg kj16
      case measure => have := HK1.out; have := HJ16.out; omega
      case rel => exact ⟨(x6_1), (wrap64 (x7_1 + 1)), (by first | rfl | (simp; done) | (simp [*]; done)), (by first | rfl | (simp; done) | (simp [*]; done)), H', ⟨by have := HK1.out; have := HJ16.out; omega⟩, ⟨by (with_reducible repeat (first | apply Kd.R_alloc | apply Kd.R_drewN | apply Kd.R_drew)); exact HO_4.out⟩, ⟨bk_ BK446⟩, ⟨hb_ HB⟩⟩
     rw [if_neg c27] at H
     have c27b0 : (((rd_T45 l0 x7_1).f0).toList == ([84, 97, 114, 103, 101, 116, 78, 97, 109, 101] : List UInt8)) = false := beq_eq_false_iff_ne.mpr c27
     have c27b1 : (((rd_T45 l0 x7_1).f0).toList != ([84, 97, 114, 103, 101, 116, 78, 97, 109, 101] : List UInt8)) = true := bne_iff_ne.mpr c27
     by_cases c28 : ((rd_T45 l0 x7_1).f0).toList = ([83, 101, 115, 115, 105, 111, 110, 84, 121, 112, 101] : List UInt8)
     ·rw [if_pos c28] at H
      have c28b0 : (((rd_T45 l0 x7_1).f0).toList == ([83, 101, 115, 115, 105, 111, 110, 84, 121, 112, 101] : List UInt8)) = true := beq_iff_eq.mpr c28
      have c28b1 : (((rd_T45 l0 x7_1).f0).toList != ([83, 101, 115, 115, 105, 111, 110, 84, 121, 112, 101] : List UInt8)) = false := bne_eq_false_iff_eq.mpr c28
      clear c28
      have H' := Aside0.mk H
      clear H
      have p451 : 0 ≤ (x7_1 : Int) := of_decide_eq_true (by first | (with_reducible assumption) | assumption)
      have q451 : x7_1 < (l0.length : Int) := of_decide_eq_true (by first | (with_reducible assumption) | assumption)
      obtain ⟨ad451, e451, hx451_0, hx451_1⟩ := at_T45 HR0.out x7_1 p451 q451
      cases e451
      replace hx451_0 := (HB.out.cell (World.block_lt_of_cell? w _ hx451_0)).trans hx451_0
      replace hx451_1 := (HB.out.cell (World.block_lt_of_cell? w _ hx451_1)).trans hx451_1
      replace p451 := eq_true p451
      replace q451 := eq_true q451
      go_wp2
      repeat (go_quiet (fail); try go_wp2)
      go_roundg kj16
      case measure => have := HK1.out; have := HJ16.out; omega
      case rel => exact ⟨(x6_1), (wrap64 (x7_1 + 1)), (by first | rfl | (simp; done) | (simp [*]; done)), (by first | rfl | (simp; done) | (simp [*]; done)), H', ⟨by have := HK1.out; have := HJ16.out; omega⟩, ⟨by (with_reducible repeat (first | apply Kd.R_alloc | apply Kd.R_drewN | apply Kd.R_drew)); exact HO_4.out⟩, ⟨bk_ BK446⟩, ⟨hb_ HB⟩⟩
     rw [if_neg c28] at H
     have c28b0 : (((rd_T45 l0 x7_1).f0).toList == ([83, 101, 115, 115, 105, 111, 110, 84, 121, 112, 101] : List UInt8)) = false := beq_eq_false_iff_ne.mpr c28
     have c28b1 : (((rd_T45 l0 x7_1).f0).toList != ([83, 101, 115, 115, 105, 111, 110, 84, 121, 112, 101] : List UInt8)) = true := bne_iff_ne.mpr c28
     refine neg_first (p := (((rd_T45 l0 x7_1).f0).toList = ([73, 110, 105, 116, 105, 97, 116, 111, 114, 65, 108, 105, 97, 115] : List UInt8))) (fun c29 => ?_) (fun c29 => ?_)
     ·rw [if_neg c29] at H
      have c29b0 : (((rd_T45 l0 x7_1).f0).toList == ([73, 110, 105, 116, 105, 97, 116, 111, 114, 65, 108, 105, 97, 115] : List UInt8)) = false := beq_eq_false_iff_ne.mpr c29
      have c29b1 : (((rd_T45 l0 x7_1).f0).toList != ([73, 110, 105, 116, 105, 97, 116, 111, 114, 65, 108, 105, 97, 115] : List UInt8)) = true := bne_iff_ne.mpr c29
      exact absurd ((Option.some.inj H).trans HT0.out) (by decide)
     rw [if_pos c29] at H
     have c29b0 : (((rd_T45 l0 x7_1).f0).toList == ([73, 110, 105, 116, 105, 97, 116, 111, 114, 65, 108, 105, 97, 115] : List UInt8)) = true := beq_iff_eq.mpr c29
     have c29b1 : (((rd_T45 l0 x7_1).f0).toList != ([73, 110, 105, 116, 105, 97, 116, 111, 114, 65, 108, 105, 97, 115] : List UInt8)) = false := bne_eq_false_iff_eq.mpr c29
     clear c29
     have H' := Aside0.mk H
     clear H
     have p451 : 0 ≤ (x7_1 : Int) := of_decide_eq_true (by first | (with_reducible assumption) | assumption)
     have q451 : x7_1 < (l0.length : Int) := of_decide_eq_true (by first | (with_reducible assumption) | assumption)
     obtain ⟨ad451, e451, hx451_0, hx451_1⟩ := at_T45 HR0.out x7_1 p451 q451
     cases e451
     replace hx451_0 := (HB.out.cell (World.block_lt_of_cell? w _ hx451_0)).trans hx451_0
     replace hx451_1 := (HB.out.cell (World.block_lt_of_cell? w _ hx451_1)).trans hx451_1
     replace p451 := eq_true p451
     replace q451 := eq_true q451
     go_wp2
     repeat (go_quiet (fail); try go_wp2)
     go_roundg kj16
     case measure => have := HK1.out; have := HJ16.out; omega
     case rel => exact ⟨(x6_1), (wrap64 (x7_1 + 1)), (by first | rfl | (simp; done) | (simp [*]; done)), (by first | rfl | (simp; done) | (simp [*]; done)), H', ⟨by have := HK1.out; have := HJ16.out; omega⟩, ⟨by (with_reducible repeat (first | apply Kd.R_alloc | apply Kd.R_drewN | apply Kd.R_drew)); exact HO_4.out⟩, ⟨bk_ BK446⟩, ⟨hb_ HB⟩⟩
-- NOT PRINTED: function 68 (abi_NoEscape)

-- NOT PRINTED: function 57 (strings_Builder_copyCheck)

-- NOT PRINTED: function 26 (strings_Builder_WriteString)

-- NOT PRINTED: function 27 (strings_Builder_String)

/-! ### keys_Text: function 18 -/
theorem bld_info : ∃ j, Tryd.prog.info? 68 = some j ∧ j.size = 2 := by
  have h : (Tryd.prog.info? 68).map (·.size) = some 2 := by kernel_rfl
  obtain ⟨j, h1, h2⟩ := Option.map_eq_some_iff.1 h
  exact ⟨j, h1, h2⟩
set_option maxHeartbeats 4000000 in
set_option maxRecDepth 100000 in
theorem bld_check_used (b : Nat) (w : World) (h0 : w.cell? ⟨b, 0, none⟩ = some (.pointer (some ⟨b, 0, none⟩))) :
    Calls Tryd.prog 57 #[.pointer (some ⟨b, 0, none⟩)] w fun e w' => e = .returned (.tuple #[]) ∧ w' = w := by
  obtain ⟨j, hj, _⟩ := bld_info
  go_enter Tryd.func57, Tryd.ntmps57
  go_wp2
  rw [Go.Lib.run_neq_ptr_same w _ Tryd.underlying65 hj]
  go_wp2
  go_end0
  exact ⟨rfl, rfl⟩
set_option maxHeartbeats 4000000 in
set_option maxRecDepth 100000 in
theorem bld_check_fresh (b : Nat) (w : World) (h0 : w.cell? ⟨b, 0, none⟩ = some (.pointer none)) (hsh : w.shape? b = some (68, 2)) (hfz : w.frozen? ⟨b, 0, none⟩ = false) :
    Calls Tryd.prog 57 #[.pointer (some ⟨b, 0, none⟩)] w fun e w' => e = .returned (.tuple #[]) ∧ w' = w.setCell ⟨b, 0, none⟩ (.pointer (some ⟨b, 0, none⟩)) := by
  obtain ⟨j, hj, hjs⟩ := bld_info
  go_enter Tryd.func57, Tryd.ntmps57
  go_wp2
  rw [Go.Lib.run_to_unsafe w ⟨b, 0, none⟩ Tryd.underlying65 Tryd.underlying103 hj (by rw [hjs]; decide) hsh (Nat.zero_lt_succ 1)]
  simp only [Result.andThen]
  rw [Oper.upon_value]
  go_wp2
  rw [run_callFunc_extern Tryd.func68 (by kernel_rfl) (by kernel_rfl) (by kernel_rfl) (e := Extern.AbiNoEscape.same) (by kernel_rfl)]
  rw [Go.Lib.run_noEscape]
  simp only [Result.andThen]
  rw [Oper.upon_value]
  go_wp2
  rw [Go.Lib.run_from_unsafe w ⟨b, 0, none⟩ Tryd.underlying103 Tryd.underlying65 hj hsh (by kernel_rfl)]
  simp only [Result.andThen]
  rw [Oper.upon_value]
  go_wp2
  go_end0
  exact ⟨rfl, rfl⟩
theorem bld_check (B b : Nat) (bs : List Value) (w : World) (h : Go.Lib.IsBuilder 68 5 B b bs w) :
    Calls Tryd.prog 57 #[.pointer (some ⟨b, 0, none⟩)] w fun e w' => e = .returned (.tuple #[]) ∧ Go.Lib.BuilderAt 68 5 B b (.pointer (some ⟨b, 0, none⟩)) bs w' ∧ Below B w w' := by
  rcases h with h | h
  · refine (bld_check_fresh b w h.cell0 h.shape h.frozen0).mono ?_
    rintro e w' ⟨rfl, rfl⟩
    exact ⟨rfl, h.used _, (Below.refl B w).setCell (p := ⟨b, 0, none⟩) h.1 _⟩
  · refine (bld_check_used b w h.cell0).mono ?_
    rintro e w' ⟨rfl, rfl⟩
    exact ⟨rfl, h, Below.refl B _⟩
set_option maxHeartbeats 4000000 in
set_option maxRecDepth 100000 in
theorem bld_write (B b : Nat) (bs : List Value) (s : ByteArray) (w : World) (h : Go.Lib.IsBuilder 68 5 B b bs w) (hlen : bs.length + s.size ≤ 1000000) (hBw : B ≤ w.heap.size) :
    Calls Tryd.prog 26 #[.pointer (some ⟨b, 0, none⟩), .string s] w fun e w' => e = .returned (.tuple #[.int .i64 s.size, .nilIface]) ∧ Go.Lib.BuilderAt 68 5 B b (.pointer (some ⟨b, 0, none⟩)) (bs ++ Go.Lib.strCells s) w' ∧ Below B w w' := by
  obtain ⟨i0, hi, hz0, hz1, hz2⟩ := info_parts info5
  have HL := Aside0.mk hlen
  have HBW := Aside0.mk hBw
  clear hlen hBw
  go_enter Tryd.func26, Tryd.ntmps26
  go_wp2_with (go_at_call 57; refine (bld_check B b bs _ h).mono ?_)
  rintro e w1 ⟨rfl, h1, hb1⟩
  obtain ⟨hB, v, hbk, hown, hne⟩ := h1
  have c0 : w1.cell? ⟨b, 0, none⟩ = some (.pointer (some ⟨b, 0, none⟩)) := (blk_cell hbk 0).trans rfl
  have c1 : w1.cell? ⟨b, 1, none⟩ = some v := (blk_cell hbk 1).trans rfl
  go_wp2_with (at_builtin; refine Go.Lib.wpList_append_own_string _ rfl _ _ 66 9 rfl B 5 i0 Tryd.underlying66 Tryd.underlying9 hi hz0 hz1 hz2 _ _ _ rfl hown s rfl ?c3 ?c4 ?c5 ?_)
  case c3 => have := HL.out; (have : maxLen = 9223372036854775807 := rfl); omega
  case c4 => have := HL.out; omega
  case c5 => have := hb1.size; have := HBW.out; omega
  intro v' w2 hown' hgrow _
  have hlt : b < w1.heap.size := blk_lt hbk
  have hb2 : w2.heap[b]? = some (.cells #[.pointer (some ⟨b, 0, none⟩), v] 68 (0, 0)) := by
    rw [hgrow.block b hlt (fun e => hne e.symm)]
    exact hbk
  have d0 : w2.cell? ⟨b, 0, none⟩ = some (.pointer (some ⟨b, 0, none⟩)) := (blk_cell hb2 0).trans rfl
  have d1 : w2.cell? ⟨b, 1, none⟩ = some v := (blk_cell hb2 1).trans rfl
  have f1 : w2.frozen? ⟨b, 1, none⟩ = false := blk_frozen hb2 1
  obtain ⟨ao, n', cap, rfl⟩ : ∃ ao n' cap, v' = .slice ao n' cap := by
    rcases hown'.2 with ⟨hv, _⟩ | ⟨g, cap, cur, hv, _⟩
    · exact ⟨_, _, _, hv⟩
    · exact ⟨_, _, _, hv⟩
  go_wp2
  go_ret2
  refine ⟨rfl, ?_, ?_⟩
  · exact Go.Lib.BuilderAt.put (T := 68) (e := 5) hB hb2 (bs' := bs ++ Go.Lib.strCells s) (by simpa [Go.Lib.strCells_length] using hown') (by decide)
  · exact (hb1.grown hgrow (by have := hb1.size; have := HBW.out; omega) (fun k hk => (hown.lt k hk).1)).setCell (p := ⟨b, 1, none⟩) hB _
theorem bld_alloc {T e : TypeId} {B b : Nat} {bs : List Value} {w : World} (h : Go.Lib.IsBuilder T e B b bs w) (o : Obj) : Go.Lib.IsBuilder T e B b bs (w.alloc o) :=
  h.imp (fun ⟨hB, v, hb, ho, hn⟩ => ⟨hB, v, blk_alloc hb o, ho.alloc o, hn⟩) (fun ⟨hB, v, hb, ho, hn⟩ => ⟨hB, v, blk_alloc hb o, ho.alloc o, hn⟩)
/-- What pairs are as a text. -/
def textL (l : List S45) : List UInt8 := l.flatMap fun p => p.f0.data.toList ++ [61] ++ p.f1.data.toList ++ [0]
def keys_Text.f (l0 : List S45) : Option (ByteArray × Int) := if smallB l0 = true then (if goodB l0 = true then some ((⟨(textL l0).toArray⟩ : ByteArray), 0) else some ((⟨#[]⟩ : ByteArray), 210)) else none
theorem textL_snoc (l : List S45) (p : S45) : textL (l ++ [p]) = textL l ++ (p.f0.data.toList ++ [61] ++ p.f1.data.toList ++ [0]) := by
  unfold textL
  rw [List.flatMap_append]
  simp
theorem textL_size {l : List S45} (h : ∀ p ∈ l, p.f0.size ≤ 63 ∧ p.f1.size ≤ 255) : (textL l).length ≤ l.length * 320 := by
  induction l with
  | nil => simp [textL]
  | cons p l ih =>
    have h1 := ih (fun q hq => h q (List.mem_cons_of_mem _ hq))
    obtain ⟨h2, h3⟩ := h p (List.mem_cons_self ..)
    have e : textL (p :: l) = (p.f0.data.toList ++ [61] ++ p.f1.data.toList ++ [0]) ++ textL l := rfl
    have e0 : p.f0.data.toList.length = p.f0.size := rfl
    have e1 : p.f1.data.toList.length = p.f1.size := rfl
    rw [e]
    simp only [List.length_append, List.length_cons, List.length_nil, e0, e1]
    omega
theorem good_sizes : ∀ (r l : List S45), goodL l r = true → ∀ p ∈ r, p.f0.size ≤ 63 ∧ p.f1.size ≤ 255
  | [], _, _, p, hp => by cases hp
  | q :: r, l, h, p, hp => by
    rw [goodL_snoc] at h
    simp only [Bool.and_eq_true] at h
    rcases List.mem_cons.mp hp with rfl | hp
    · have h1 := h.1.2
      unfold pairB keyB at h1
      simp only [Bool.and_eq_true, decide_eq_true_eq] at h1
      exact ⟨h1.1.1.1.2, h1.1.2⟩
    · exact good_sizes r _ h.2 p hp
theorem strCells_pair (p : S45) : Go.Lib.strCells (((p.f0 ++ (⟨#[61]⟩ : ByteArray)) ++ p.f1) ++ (⟨#[0]⟩ : ByteArray)) = Go.Lib.byteCells (p.f0.data.toList ++ [61] ++ p.f1.data.toList ++ [0]) := by
  unfold Go.Lib.strCells Go.Lib.byteCells
  simp
set_option maxHeartbeats 8000000 in
set_option maxRecDepth 100000 in
theorem text_walk (A0 : Option Addr) (c0 : Nat) (l : List S45) (w : World) (hr : Kd.C k45 w A0 l.length l) (hc0 : l.length ≤ c0) (hsm : smallB l = true) (hg : goodB l = true) :
    Calls Tryd.prog 18 #[.slice A0 l.length c0] w fun e w' => e = .returned (.tuple #[.string (⟨(textL l).toArray⟩ : ByteArray), .int .i64 0]) ∧ Below w.heap.size w w' := by
  have hg1 := hg
  unfold goodB at hg1
  simp only [Bool.and_eq_true, decide_eq_true_eq] at hg1
  obtain ⟨h16, hgl⟩ := hg1
  have HSZ := Aside0.mk (good_sizes l [] hgl)
  have i16 : (l.length : Int) ≤ 16 := by omega
  have HR := Aside0.mk hr
  have HGD := Aside0.mk (show keys_good.f l = some true by unfold keys_good.f; rw [if_pos hsm, hg])
  clear hr hsm hg hgl
  go_enter Tryd.func18, Tryd.ntmps18
  go_wp2_with (go_at_call 22; refine (keys_good.calls A0 c0 l true _ HR.out hc0 HGD.out).mono ?_; rintro e w1 ⟨rfl, hb⟩; have HB1 := Aside0.mk hb; clear hb)
  go_loopw [12] (fun vi wr => ∃ i : Nat, vi = .int .i64 i ∧ i ≤ l.length ∧ Aside0 (Go.Lib.IsBuilder 68 5 w1.heap.size w1.heap.size (Go.Lib.byteCells (textL (l.take i))) wr) ∧ Aside0 (Below w1.heap.size w1 wr)) (fun vi _ => l.length - (intOf vi).toNat)
  case atStart => exact ⟨0, rfl, by omega, ⟨Go.Lib.fresh_isBuilder 68 5 w1⟩, ⟨(Below.refl _ _).alloc (Nat.le_refl _) _⟩⟩
  case round =>
    obtain ⟨i, rfl, hi, hI, hB⟩ := hrel
    by_cases hlt : i < l.length
    · obtain ⟨ad, hA, hc1, hc2⟩ := at_T45 (Kd.C_below HR.out (below_step HB1.out hB.out)) i (by omega) (by omega)
      subst hA
      obtain ⟨p, hp⟩ : ∃ p, l[i] = p := ⟨_, rfl⟩
      have hpr : rd_T45 l i = p := by rw [← hp]; exact rd_pair l i hlt
      rw [hpr] at hc1 hc2
      simp only [Int.toNat_natCast] at hc1 hc2
      have htake : l.take (i + 1) = l.take i ++ [p] := by rw [List.take_succ_eq_append_getElem hlt, hp]
      have HTK := Aside0.mk htake
      have hps := HSZ.out p (by rw [← hp]; exact List.getElem_mem hlt)
      have hts : (textL (l.take i)).length ≤ i * 320 := by
        have h1 := textL_size (l := l.take i) (fun q hq => HSZ.out q (List.mem_of_mem_take hq))
        rwa [List.length_take, Nat.min_eq_left (by omega)] at h1
      have HSS := Aside0.mk (show (Go.Lib.byteCells (textL (l.take i))).length + (((p.f0 ++ (⟨#[61]⟩ : ByteArray)) ++ p.f1) ++ (⟨#[0]⟩ : ByteArray)).size ≤ 1000000 by
        have e : (Go.Lib.byteCells (textL (l.take i))).length = (textL (l.take i)).length := by simp [Go.Lib.byteCells]
        have e2 : (((p.f0 ++ (⟨#[61]⟩ : ByteArray)) ++ p.f1) ++ (⟨#[0]⟩ : ByteArray)).size = p.f0.size + 1 + p.f1.size + 1 := by simp [ByteArray.size_append]; rfl
        rw [e, e2]
        omega)
      have m1 : ¬ 9223372036854775807 < p.f0.size + 1 := by omega
      have m2 : ¬ 9223372036854775807 < p.f0.size + 1 + p.f1.size := by omega
      have m3 : ¬ 9223372036854775807 < p.f0.size + 1 + p.f1.size + 1 := by omega
      clear hpr htake hps hts hp
      go_wp2_with (go_at_call 26; refine (bld_write w1.heap.size w1.heap.size (Go.Lib.byteCells (textL (l.take i))) (((p.f0 ++ (⟨#[61]⟩ : ByteArray)) ++ p.f1) ++ (⟨#[0]⟩ : ByteArray)) _ (by first | exact hI.out | exact bld_alloc hI.out _) HSS.out (below_size (by first | exact hB.out | exact below_alloc hB.out _))).mono ?_; rintro e w2 ⟨rfl, h2, hb2⟩; have HI2 := Aside0.mk h2; have HB2 := Aside0.mk hb2; clear h2 hb2)
      go_roundw
      case rel => exact ⟨i + 1, by go_num, by omega, ⟨Or.inr (by rw [HTK.out, textL_snoc, Go.Lib.byteCells_append, ← strCells_pair]; exact HI2.out)⟩, ⟨(below_alloc hB.out _).trans HB2.out⟩⟩
      case measure => simp [intOf]; omega
    · have hil : i = l.length := by omega
      subst hil
      have hI2 := hI.out
      rw [List.take_length] at hI2
      have HI2 := Aside0.mk hI2
      clear hI2
      go_wp2_with (go_at_call 27; refine (Tryd.Builder_String_any w1.heap.size w1.heap.size (textL l) _ HI2.out (below_size hB.out)).mono ?_; rintro e w2 ⟨rfl, hb2⟩; have HB2 := Aside0.mk hb2; clear hb2)
      go_ret2
      exact ⟨rfl, below_step HB1.out (hB.out.trans HB2.out)⟩
theorem keys_Text.calls (A0 : Option Addr) (c0 : Nat) (l0 : List S45) (r1 : ByteArray) (r2 : Int) (w : World) (hr0 : Kd.C k45 w A0 l0.length l0) (hc0 : l0.length ≤ c0) (h : keys_Text.f l0 = some (r1, r2)) :
    Calls Tryd.prog 18 #[.slice A0 l0.length c0] w fun e w' => e = .returned (.tuple #[.string r1, .int .i64 r2]) ∧ Below w.heap.size w w' := by
  unfold keys_Text.f at h
  split at h
  · next hsm =>
    split at h
    · next hg =>
      cases h
      exact text_walk A0 c0 l0 w hr0 hc0 hsm hg
    · next hg =>
      cases h
      have HG := Aside0.mk (show keys_good.f l0 = some false by unfold keys_good.f; rw [if_pos hsm, Bool.eq_false_iff.mpr hg])
      have HR := Aside0.mk hr0
      clear hr0 hsm hg
      go_enter Tryd.func18, Tryd.ntmps18
      go_wp2_with (go_at_call 22; refine (keys_good.calls A0 c0 l0 false _ HR.out hc0 HG.out).mono ?_; rintro e w1 ⟨rfl, hb⟩; have HB1 := Aside0.mk hb; clear hb)
      go_ret2
      exact ⟨rfl, HB1.out⟩
  · cases h

/-! ### headgateref21_Text: function 19 -/
def headgateref21_Text.l0 : Nat → List (S45) → ByteArray → Int → Option (ByteArray × Int)
 | 0, _, _, _ => none
 | k + 1, x0, x4, x5 => if x5 < (x0.length : Int) then (if 0 ≤ x5 then (if ((rd_T45 x0 x5).f0).size + 1 ≤ 9223372036854775807 then (if (((rd_T45 x0 x5).f0) ++ (⟨#[61]⟩ : ByteArray)).size + ((rd_T45 x0 x5).f1).size ≤ 9223372036854775807 then (if ((((rd_T45 x0 x5).f0) ++ (⟨#[61]⟩ : ByteArray)) ++ ((rd_T45 x0 x5).f1)).size + 1 ≤ 9223372036854775807 then (if x4.size + (((((rd_T45 x0 x5).f0) ++ (⟨#[61]⟩ : ByteArray)) ++ ((rd_T45 x0 x5).f1)) ++ (⟨#[0]⟩ : ByteArray)).size ≤ 9223372036854775807 then (headgateref21_Text.l0 k x0 (x4 ++ (((((rd_T45 x0 x5).f0) ++ (⟨#[61]⟩ : ByteArray)) ++ ((rd_T45 x0 x5).f1)) ++ (⟨#[0]⟩ : ByteArray))) (wrap64 (x5 + 1))) else (none)) else (none)) else (none)) else (none)) else (none)) else (some (x4, 0))
def headgateref21_Text.f (k : Nat) (l0 : List (S45)) : Option (ByteArray × Int) := (headgateref21_Good.f k l0).bind fun t452 => (if t452 = true then (headgateref21_Text.l0 k l0 (⟨#[]⟩ : ByteArray) 0) else (some ((⟨#[]⟩ : ByteArray), 210)))
theorem headgateref21_Text.mono_l : ∀ k, (∀ y0 y1 y2, LeO (headgateref21_Text.l0 k y0 y1 y2) (headgateref21_Text.l0 (k + 1) y0 y1 y2))
 | 0 => fun _ _ _ r h => by simp [headgateref21_Text.l0] at h
 | k + 1 => by
  have ih0 := headgateref21_Text.mono_l k
  ·intro y0 y1 y2
   unfold headgateref21_Text.l0
   repeat' first
   | (with_reducible exact ih0 _ _ _)
   | (with_reducible exact headgateref21_Good.mono _ _)
   | (with_reducible exact LeO.refl _)
   | (with_reducible exact LeO.none _)
   | (with_reducible refine LeO.ite ?_ ?_)
   | (with_reducible refine LeO.bind ?_ (fun _ => ?_))
   | exact ih0 _ _ _
   | exact headgateref21_Good.mono _ _
   | exact LeO.none _
   | refine LeO.ite ?_ ?_
   | refine LeO.bind ?_ (fun _ => ?_)
theorem headgateref21_Text.mono : ∀ a0 k, LeO (headgateref21_Text.f k a0) (headgateref21_Text.f (k + 1) a0) := by
 intro a0 k
 have ih0 := headgateref21_Text.mono_l k
 unfold headgateref21_Text.f
 repeat' first
   | (with_reducible exact ih0 _ _ _)
   | (with_reducible exact headgateref21_Good.mono _ _)
   | (with_reducible exact LeO.refl _)
   | (with_reducible exact LeO.none _)
   | (with_reducible refine LeO.ite ?_ ?_)
   | (with_reducible refine LeO.bind ?_ (fun _ => ?_))
   | exact ih0 _ _ _
   | exact headgateref21_Good.mono _ _
   | exact LeO.none _
   | refine LeO.ite ?_ ?_
   | refine LeO.bind ?_ (fun _ => ?_)
set_option maxHeartbeats 8000000 in
set_option maxRecDepth 100000 in
theorem headgateref21_Text.calls (k : Nat) (A0 : Option Addr) (c0 : Nat) (l0 : List (S45)) (r1 : ByteArray) (r2 : Int) (w : World) (hr0 : Kd.C k45 w A0 l0.length l0) (hc0 : l0.length ≤ c0) (h : headgateref21_Text.f k l0 = some (r1, r2)) :
  Calls Tryd.prog 19 #[.slice A0 l0.length c0] w fun e w' => e = .returned (.tuple #[.string r1, .int .i64 r2]) ∧ Drawn0 w w' := by
 have HR0 := Aside0.mk hr0
 have HC0 := Aside0.mk hc0
 clear hr0 hc0
 have H : ((headgateref21_Good.f k l0).bind fun t452 => (if t452 = true then (headgateref21_Text.l0 k l0 (⟨#[]⟩ : ByteArray) 0) else (some ((⟨#[]⟩ : ByteArray), 210)))) = some (r1, r2) := h
 clear h
 replace H := Option.bind_eq_some_iff.mp H
 obtain ⟨t452, A20, H⟩ := H
 try dsimp only at H
 have A2 := Aside0.mk A20
 clear A20
 refine neg_first (p := (t452 = true)) (fun c3 => ?_) (fun c3 => ?_)
 ·replace c3 := Bool.eq_false_iff.mpr c3
  subst c3
  have H1 := H
  rw [if_neg (show ¬ (false = true) by decide)] at H1
  clear H
  have H := H1
  clear H1
  simp only [Option.some.injEq, Prod.mk.injEq] at H
  obtain ⟨rfl, rfl⟩ := H
  go_enter Tryd.func19, Tryd.ntmps19
  go_wp2_with (first | (go_at_call 24; (with_reducible refine (headgateref21_Good.calls k _ _ l0 false _ ?side1 ?side2 A2.out).mono ?_); (case side1 => repeat (first | exact HR0.out | (with_reducible refine Kd.C_alloc ?_ _) | (with_reducible refine Kd.C_drewN ?_ _) | (with_reducible refine Kd.C_drew ?_))); (case side2 => exact HC0.out); rintro e w' ⟨rfl, ⟨nd, rfl⟩⟩; (try first | exact ⟨rfl, _, World.drewN_drewN _ _ _⟩ | exact ⟨rfl, _, Eq.trans (World.drewN_drewN _ _ _) (congrArg (World.drewN _) (Nat.add_assoc _ _ _))⟩)))
  repeat (go_quiet (first | (go_at_call 24; (with_reducible refine (headgateref21_Good.calls k _ _ l0 false _ ?side1 ?side2 A2.out).mono ?_); (case side1 => repeat (first | exact HR0.out | (with_reducible refine Kd.C_alloc ?_ _) | (with_reducible refine Kd.C_drewN ?_ _) | (with_reducible refine Kd.C_drew ?_))); (case side2 => exact HC0.out); rintro e w' ⟨rfl, ⟨nd, rfl⟩⟩; (try first | exact ⟨rfl, _, World.drewN_drewN _ _ _⟩ | exact ⟨rfl, _, Eq.trans (World.drewN_drewN _ _ _) (congrArg (World.drewN _) (Nat.add_assoc _ _ _))⟩))); try go_wp2_with (first | (go_at_call 24; (with_reducible refine (headgateref21_Good.calls k _ _ l0 false _ ?side1 ?side2 A2.out).mono ?_); (case side1 => repeat (first | exact HR0.out | (with_reducible refine Kd.C_alloc ?_ _) | (with_reducible refine Kd.C_drewN ?_ _) | (with_reducible refine Kd.C_drew ?_))); (case side2 => exact HC0.out); rintro e w' ⟨rfl, ⟨nd, rfl⟩⟩; (try first | exact ⟨rfl, _, World.drewN_drewN _ _ _⟩ | exact ⟨rfl, _, Eq.trans (World.drewN_drewN _ _ _) (congrArg (World.drewN _) (Nat.add_assoc _ _ _))⟩))))
  go_ret2
  exact ⟨by first | rfl | (simp; done) | (simp [*]; done), by repeat (first | exact Drawn0.refl _ | apply Drawn0.step)⟩

 subst c3
 have H1 := H
 rw [if_pos rfl] at H1
 clear H
 have H := H1
 clear H1
 have H' := Aside0.mk H
 clear H
 go_enter Tryd.func19, Tryd.ntmps19
 go_wp2_with (first | (go_at_call 24; (with_reducible refine (headgateref21_Good.calls k _ _ l0 true _ ?side1 ?side2 A2.out).mono ?_); (case side1 => repeat (first | exact HR0.out | (with_reducible refine Kd.C_alloc ?_ _) | (with_reducible refine Kd.C_drewN ?_ _) | (with_reducible refine Kd.C_drew ?_))); (case side2 => exact HC0.out); rintro e w' ⟨rfl, ⟨nd, rfl⟩⟩; (try first | exact ⟨rfl, _, World.drewN_drewN _ _ _⟩ | exact ⟨rfl, _, Eq.trans (World.drewN_drewN _ _ _) (congrArg (World.drewN _) (Nat.add_assoc _ _ _))⟩)))
 repeat (go_quiet (first | (go_at_call 24; (with_reducible refine (headgateref21_Good.calls k _ _ l0 true _ ?side1 ?side2 A2.out).mono ?_); (case side1 => repeat (first | exact HR0.out | (with_reducible refine Kd.C_alloc ?_ _) | (with_reducible refine Kd.C_drewN ?_ _) | (with_reducible refine Kd.C_drew ?_))); (case side2 => exact HC0.out); rintro e w' ⟨rfl, ⟨nd, rfl⟩⟩; (try first | exact ⟨rfl, _, World.drewN_drewN _ _ _⟩ | exact ⟨rfl, _, Eq.trans (World.drewN_drewN _ _ _) (congrArg (World.drewN _) (Nat.add_assoc _ _ _))⟩))); try go_wp2_with (first | (go_at_call 24; (with_reducible refine (headgateref21_Good.calls k _ _ l0 true _ ?side1 ?side2 A2.out).mono ?_); (case side1 => repeat (first | exact HR0.out | (with_reducible refine Kd.C_alloc ?_ _) | (with_reducible refine Kd.C_drewN ?_ _) | (with_reducible refine Kd.C_drew ?_))); (case side2 => exact HC0.out); rintro e w' ⟨rfl, ⟨nd, rfl⟩⟩; (try first | exact ⟨rfl, _, World.drewN_drewN _ _ _⟩ | exact ⟨rfl, _, Eq.trans (World.drewN_drewN _ _ _) (congrArg (World.drewN _) (Nat.add_assoc _ _ _))⟩))))
 go_loopg [4, 5] k (fun kq v4 v5 w' => ∃ (x4_1 : ByteArray) (x5_1 : Int), v4 = .string x4_1 ∧ v5 = .int .i64 x5_1 ∧ Aside0 (headgateref21_Text.l0 kq l0 x4_1 x5_1 = some (r1, r2)) ∧ Aside0 (kq ≤ k) ∧ Drawn0 w w')
 case atStart => exact ⟨((⟨#[]⟩ : ByteArray)), (0), (by first | rfl | (simp; done) | (simp [*]; done)), (by first | rfl | (simp; done) | (simp [*]; done)), H', ⟨Nat.le_refl _⟩, by repeat (first | exact Drawn0.refl _ | apply Drawn0.step)⟩
 case round =>
  clear H'
  try clear c1
  try clear p2
  try clear c3
  obtain ⟨x4_1, x5_1, rfl, rfl, HA, HK1, ⟨m1, rfl⟩⟩ := hrel
  cases gk with
  | zero => exact absurd HA.out (by simp [headgateref21_Text.l0])
  | succ k1 =>
   have H := HA.out
   clear HA
   simp only [headgateref21_Text.l0] at H
   refine neg_first (p := (x5_1 < (l0.length : Int))) (fun c4 => ?_) (fun c4 => ?_)
   ·rw [if_neg c4] at H
    have c4b0 : decide (x5_1 < (l0.length : Int)) = false := decide_eq_false c4
    clear c4
    simp only [Option.some.injEq, Prod.mk.injEq] at H
    obtain ⟨rfl, rfl⟩ := H
    go_wp2
    repeat (go_quiet (fail); try go_wp2)
    go_ret2
    exact ⟨by first | rfl | (simp; done) | (simp [*]; done), by repeat (first | exact Drawn0.refl _ | apply Drawn0.step)⟩
   rw [if_pos c4] at H
   have c4b0 : decide (x5_1 < (l0.length : Int)) = true := decide_eq_true c4
   clear c4
   refine neg_first (p := (0 ≤ x5_1)) (fun c5 => ?_) (fun c5 => ?_)
   ·rw [if_neg c5] at H
    exact absurd H (by simp)
   rw [if_pos c5] at H
   have c5b0 : decide (0 ≤ x5_1) = true := decide_eq_true c5
   clear c5
   refine neg_first (p := (((rd_T45 l0 x5_1).f0).size + 1 ≤ 9223372036854775807)) (fun c6 => ?_) (fun c6 => ?_)
   ·rw [if_neg c6] at H
    exact absurd H (by simp)
   rw [if_pos c6] at H
   have c6b0 := eq_true c6
   have c6b1 : decide (((rd_T45 l0 x5_1).f0).size + 1 ≤ 9223372036854775807) = true := decide_eq_true c6
   try have c6b2 : (9223372036854775807 < ((rd_T45 l0 x5_1).f0).size + 1) = False := eq_false (Nat.not_lt.2 c6)
   refine neg_first (p := ((((rd_T45 l0 x5_1).f0) ++ (⟨#[61]⟩ : ByteArray)).size + ((rd_T45 l0 x5_1).f1).size ≤ 9223372036854775807)) (fun c7 => ?_) (fun c7 => ?_)
   ·rw [if_neg c7] at H
    exact absurd H (by simp)
   rw [if_pos c7] at H
   have c7b0 := eq_true c7
   have c7b1 : decide ((((rd_T45 l0 x5_1).f0) ++ (⟨#[61]⟩ : ByteArray)).size + ((rd_T45 l0 x5_1).f1).size ≤ 9223372036854775807) = true := decide_eq_true c7
   try have c7b2 : (9223372036854775807 < (((rd_T45 l0 x5_1).f0) ++ (⟨#[61]⟩ : ByteArray)).size + ((rd_T45 l0 x5_1).f1).size) = False := eq_false (Nat.not_lt.2 c7)
   (try have c7b4 : (9223372036854775807 < ((rd_T45 l0 x5_1).f0).size + (⟨#[61]⟩ : ByteArray).size + ((rd_T45 l0 x5_1).f1).size) = False := eq_false (by have h_ := c7; simp only [ByteArray.size_append, ByteArray.size_extract] at h_; omega)); (try have c7b5 : (9223372036854775807 < ((rd_T45 l0 x5_1).f0).size + 1 + ((rd_T45 l0 x5_1).f1).size) = False := eq_false (by have h_ := c7; simp only [ByteArray.size_append] at h_; have e0_ : (⟨#[61]⟩ : ByteArray).size = 1 := rfl; omega))
   refine neg_first (p := (((((rd_T45 l0 x5_1).f0) ++ (⟨#[61]⟩ : ByteArray)) ++ ((rd_T45 l0 x5_1).f1)).size + 1 ≤ 9223372036854775807)) (fun c8 => ?_) (fun c8 => ?_)
   ·rw [if_neg c8] at H
    exact absurd H (by simp)
   rw [if_pos c8] at H
   have c8b0 := eq_true c8
   have c8b1 : decide (((((rd_T45 l0 x5_1).f0) ++ (⟨#[61]⟩ : ByteArray)) ++ ((rd_T45 l0 x5_1).f1)).size + 1 ≤ 9223372036854775807) = true := decide_eq_true c8
   try have c8b2 : (9223372036854775807 < ((((rd_T45 l0 x5_1).f0) ++ (⟨#[61]⟩ : ByteArray)) ++ ((rd_T45 l0 x5_1).f1)).size + 1) = False := eq_false (Nat.not_lt.2 c8)
   (try have c8b4 : (9223372036854775807 < ((rd_T45 l0 x5_1).f0).size + (⟨#[61]⟩ : ByteArray).size + ((rd_T45 l0 x5_1).f1).size + 1) = False := eq_false (by have h_ := c8; simp only [ByteArray.size_append, ByteArray.size_extract] at h_; omega)); (try have c8b5 : (9223372036854775807 < ((rd_T45 l0 x5_1).f0).size + 1 + ((rd_T45 l0 x5_1).f1).size + 1) = False := eq_false (by have h_ := c8; simp only [ByteArray.size_append] at h_; have e0_ : (⟨#[61]⟩ : ByteArray).size = 1 := rfl; omega))
   refine neg_first (p := (x4_1.size + (((((rd_T45 l0 x5_1).f0) ++ (⟨#[61]⟩ : ByteArray)) ++ ((rd_T45 l0 x5_1).f1)) ++ (⟨#[0]⟩ : ByteArray)).size ≤ 9223372036854775807)) (fun c9 => ?_) (fun c9 => ?_)
   ·rw [if_neg c9] at H
    exact absurd H (by simp)
   rw [if_pos c9] at H
   have c9b0 := eq_true c9
   have c9b1 : decide (x4_1.size + (((((rd_T45 l0 x5_1).f0) ++ (⟨#[61]⟩ : ByteArray)) ++ ((rd_T45 l0 x5_1).f1)) ++ (⟨#[0]⟩ : ByteArray)).size ≤ 9223372036854775807) = true := decide_eq_true c9
   try have c9b2 : (9223372036854775807 < x4_1.size + (((((rd_T45 l0 x5_1).f0) ++ (⟨#[61]⟩ : ByteArray)) ++ ((rd_T45 l0 x5_1).f1)) ++ (⟨#[0]⟩ : ByteArray)).size) = False := eq_false (Nat.not_lt.2 c9)
   (try have c9b4 : (9223372036854775807 < x4_1.size + ((rd_T45 l0 x5_1).f0).size + (⟨#[61]⟩ : ByteArray).size + ((rd_T45 l0 x5_1).f1).size + (⟨#[0]⟩ : ByteArray).size) = False := eq_false (by have h_ := c9; simp only [ByteArray.size_append, ByteArray.size_extract] at h_; omega)); (try have c9b5 : (9223372036854775807 < x4_1.size + (((rd_T45 l0 x5_1).f0).size + 1 + ((rd_T45 l0 x5_1).f1).size + 1)) = False := eq_false (by have h_ := c9; simp only [ByteArray.size_append] at h_; have e0_ : (⟨#[61]⟩ : ByteArray).size = 1 := rfl; have e1_ : (⟨#[0]⟩ : ByteArray).size = 1 := rfl; omega))
   have H' := Aside0.mk H
   clear H
   have p453 : 0 ≤ (x5_1 : Int) := of_decide_eq_true (by first | (with_reducible assumption) | assumption)
   have q453 : x5_1 < (l0.length : Int) := of_decide_eq_true (by first | (with_reducible assumption) | assumption)
   obtain ⟨ad453, e453, hx453_0, hx453_1⟩ := at_T45 HR0.out x5_1 p453 q453
   cases e453
   replace p453 := eq_true p453
   replace q453 := eq_true q453
   have p454 : 0 ≤ (x5_1 : Int) := of_decide_eq_true (by first | (with_reducible assumption) | assumption)
   have q454 : x5_1 < (l0.length : Int) := of_decide_eq_true (by first | (with_reducible assumption) | assumption)
   obtain ⟨ad454, e454, hx454_0, hx454_1⟩ := at_T45 HR0.out x5_1 p454 q454
   obtain rfl : ad453 = ad454 := (by injection e454)
   replace p454 := eq_true p454
   replace q454 := eq_true q454
   go_wp2
   repeat (go_quiet (fail); try go_wp2)
   go_roundg k1
   case measure => have := HK1.out; omega
   case rel => exact ⟨(x4_1 ++ (((((rd_T45 l0 x5_1).f0) ++ (⟨#[61]⟩ : ByteArray)) ++ ((rd_T45 l0 x5_1).f1)) ++ (⟨#[0]⟩ : ByteArray))), (wrap64 (x5_1 + 1)), (by first | rfl | (simp; done) | (simp [*]; done)), (by first | rfl | (simp; done) | (simp [*]; done)), H', ⟨by have := HK1.out; omega⟩, by repeat (first | exact Drawn0.refl _ | apply Drawn0.step)⟩
-- NOT PRINTED: function 58 (stringslite_Cut)

/-! ### strings_Cut: function 28 -/
theorem cut_one (a0 : ByteArray) (c : UInt8) (w : World) (i : Int) (hi : Go.Lib.indexByte a0.data.toList c = i) (hlo : 0 ≤ i) (hup : i < a0.size) (hmx : a0.size ≤ 1000000) :
    Calls Tryd.prog 58 #[.string a0, .string ⟨#[c]⟩] w fun e w' => e = .returned (.tuple #[.string (a0.extract 0 i.toNat), .string (a0.extract (i.toNat + 1) a0.size), .bool true]) ∧ Drawn0 w w' := by
  have HI := Aside0.mk hi
  obtain ⟨n, rfl⟩ : ∃ n : Nat, i = n := ⟨i.toNat, by omega⟩
  have hs1 : (⟨#[c]⟩ : ByteArray).size = 1 := rfl
  have hlt : n < a0.size := by omega
  clear hi
  go_enter Tryd.func58, Tryd.ntmps58
  go_wp2_with (go_at_call 69; refine (Tryd.stringslite_Index_one a0 c _).mono ?_; rintro e w' ⟨rfl, rfl⟩; rw [HI.out])
  have s1 : IntKind.i64.wrap ((n : Int) + 1) = (n : Int) + 1 := IntWalk.i64_in _ (by omega)
  have s2 : ((n : Int) + 1).toNat = n + 1 := by omega
  have s3 : (0 : Int) ≤ (n : Int) + 1 := by omega
  go_quiet (fail)
  go_wp2
  go_ret3
  exact ⟨rfl, by repeat (first | exact Drawn0.refl _ | apply Drawn0.step)⟩
theorem cut_none (a0 : ByteArray) (c : UInt8) (w : World) (hi : Go.Lib.indexByte a0.data.toList c = -1) :
    Calls Tryd.prog 58 #[.string a0, .string ⟨#[c]⟩] w fun e w' => e = .returned (.tuple #[.string a0, .string (⟨#[]⟩ : ByteArray), .bool false]) ∧ Drawn0 w w' := by
  have HI := Aside0.mk hi
  clear hi
  go_enter Tryd.func58, Tryd.ntmps58
  go_wp2_with (go_at_call 69; refine (Tryd.stringslite_Index_one a0 c _).mono ?_; rintro e w' ⟨rfl, rfl⟩; rw [HI.out])
  go_ret3
  exact ⟨rfl, by repeat (first | exact Drawn0.refl _ | apply Drawn0.step)⟩
theorem indexByte_lt (l : List UInt8) (c : UInt8) : Go.Lib.indexByte l c < l.length := by
  induction l with
  | nil => show (-1 : Int) < _; exact Int.lt_of_lt_of_le (by decide) (Int.natCast_nonneg _)
  | cons b l ih =>
    unfold Go.Lib.indexByte
    have : ((b :: l).length : Int) = l.length + 1 := by simp
    split
    · omega
    · split
      · omega
      · omega
/-- What a text is cut to at a byte. -/
def cut1 (s : ByteArray) (c : UInt8) : ByteArray × ByteArray × Bool :=
  if Go.Lib.indexByte s.data.toList c < 0 then (s, (⟨#[]⟩ : ByteArray), false) else (s.extract 0 (Go.Lib.indexByte s.data.toList c).toNat, s.extract ((Go.Lib.indexByte s.data.toList c).toNat + 1) s.size, true)
def strings_Cut.f (a0 : ByteArray) (a1 : ByteArray) : Option (ByteArray × ByteArray × Bool) :=
  match a1.data.toList with
  | [c] => if a0.size ≤ 1000000 then some (cut1 a0 c) else none
  | _ => none
theorem strings_Cut.calls (a0 : ByteArray) (a1 : ByteArray) (r1 : ByteArray) (r2 : ByteArray) (r3 : Bool) (w : World) (h : strings_Cut.f a0 a1 = some (r1, r2, r3)) :
    Calls Tryd.prog 28 #[.string a0, .string a1] w fun e w' => e = .returned (.tuple #[.string r1, .string r2, .bool r3]) ∧ Drawn0 w w' := by
  unfold strings_Cut.f at h
  split at h
  · next c hc =>
    split at h
    · next hmx =>
      obtain rfl : a1 = ⟨#[c]⟩ := by rcases a1 with ⟨⟨l⟩⟩; cases hc; rfl
      have hin : Calls Tryd.prog 58 #[.string a0, .string ⟨#[c]⟩] w fun e w' => e = .returned (.tuple #[.string r1, .string r2, .bool r3]) ∧ Drawn0 w w' := by
        have h1 := Go.Lib.indexByte_ge a0.data.toList c
        have h2 := indexByte_lt a0.data.toList c
        have h3 : a0.data.toList.length = a0.size := rfl
        unfold cut1 at h
        split at h
        · next hn =>
          cases h
          exact cut_none a0 c w (by omega)
        · next hn =>
          cases h
          exact cut_one a0 c w _ rfl (by omega) (by omega) hmx
      have HIN := Aside0.mk hin
      clear hin h hc
      go_enter Tryd.func28, Tryd.ntmps28
      go_wp2_with (go_at_call 58; refine HIN.out.mono ?_; rintro e w' ⟨rfl, ⟨nd, rfl⟩⟩)
      go_ret3
      exact ⟨rfl, ⟨nd, rfl⟩⟩
    · cases h
  · cases h

end Go.Proofs.YtclcnkmefldpiaaDoor.P
