-- written by this session's patched copy of the printer (wip/tools/patch_print.py); Lean checks it
import Derived.Test.YtcghbicjhngedaaDoorPx0
import Derived.Test.YtcghbicjhngedaaDoorPx2
import Derived.Test.YtcghbicjhngedaaDoorPx3
import Derived.Test.YtcghbicjhngedaaDoorPx4
namespace Go.Proofs.YtcghbicjhngedaaDoor.P
open Go.RowKit Go.Proofs.YtcghbicjhngedaaDoorW.PrintWords Go.Proofs.YtcghbicjhngedaaDoorW.PrintLast Go.Proofs.YtcghbicjhngedaaDoorW.PrintMore
attribute [local go_sem] max2_int min2_int max_two min_two max_three min_three max_four min_four   -- for this text's walks alone
set_option linter.unusedVariables false
set_option linter.unusedSimpArgs false

/-! ### headgatelaw20_IpduBack: function 5 -/
def headgatelaw20_IpduBack.j0 : Nat → ByteArray → Int → Bool → ByteArray → ByteArray → Option (Bool)
  | 0, _, _, _, _, _ => none
  | k + 1, x1, x2, x32, x217000, x217001 => if x32 = true then ((headgatelaw20_wakes.f k).bind fun t217 => (some t217)) else ((ipdu_Put.f k x217000 x217001 ((Int.tmod x2 2) == 0) ((Int.tmod (wrap64 (Int.tdiv x2 2)) 2) == 0)).bind fun bt218 => (if bt218.2 = 0 then (if bt218.1.toList = ([] : List UInt8) then (some false) else (if bt218.1.size + x1.size ≤ 9223372036854775807 then ((ipdu_Get.f k (bt218.1 ++ x1) ((Int.tmod x2 2) == 0) ((Int.tmod (wrap64 (Int.tdiv x2 2)) 2) == 0)).bind fun bt221 => (if (IntKind.u64.wrap ((bt218.1.size : Int))) = 0 then (none) else (if 0 ≤ (wrap64 (Int.tmod (IntKind.u64.wrap (x2)) (IntKind.u64.wrap ((bt218.1.size : Int))))) then (if (wrap64 (Int.tmod (IntKind.u64.wrap (x2)) (IntKind.u64.wrap ((bt218.1.size : Int))))) ≤ (bt218.1.size : Int) then ((ipdu_Get.f k (bt218.1.extract 0 ((wrap64 (Int.tmod (IntKind.u64.wrap (x2)) (IntKind.u64.wrap ((bt218.1.size : Int))))) : Int).toNat) ((Int.tmod x2 2) == 0) ((Int.tmod (wrap64 (Int.tdiv x2 2)) 2) == 0)).bind fun bt226 => (if bt221.2.2.2 = 0 then (if bt221.2.2.1 = (bt218.1.size : Int) then (if bt221.2.1.toList = x217001.toList then (if (bt221.1.size : Int) = 48 then (if 0 ≤ 5 then (if 5 ≤ (bt221.1.size : Int) then (if 5 ≤ (x217000.size : Int) then (if (bt221.1.extract 0 5).toList = (x217000.extract 0 5).toList then (if 8 ≤ (bt221.1.size : Int) then (if 8 ≤ (x217000.size : Int) then (if (bt221.1.extract 8 bt221.1.size).toList = (x217000.extract 8 x217000.size).toList then (if bt226.2.2.1 = 0 then (if bt226.2.2.2 = 0 then ((headgatelaw20_wakes.f k).bind fun t231 => (some t231)) else (some false)) else (some false)) else (some false)) else (none)) else (none)) else (some false)) else (none)) else (none)) else (none)) else (some false)) else (some false)) else (some false)) else (some false))) else (none)) else (none)))) else (none))) else (if bt218.1.toList = ([] : List UInt8) then ((headgatelaw20_wakes.f k).bind fun t220 => (some t220)) else (some false))))
def headgatelaw20_IpduBack.f (k : Nat) (a0_0 : ByteArray) (a0_1 : ByteArray) (a1 : ByteArray) (a2 : Int) : Option (Bool) := if (a0_0.size : Int) > 20000 then (headgatelaw20_IpduBack.j0 k a1 a2 true a0_0 a0_1) else (if (a0_1.size : Int) > 20000 then (headgatelaw20_IpduBack.j0 k a1 a2 true a0_0 a0_1) else (headgatelaw20_IpduBack.j0 k a1 a2 (decide ((a1.size : Int) > 20000)) a0_0 a0_1))
theorem headgatelaw20_IpduBack.mono_l : ∀ k, (∀ y0 y1 y2 y3 y4, LeO (headgatelaw20_IpduBack.j0 k y0 y1 y2 y3 y4) (headgatelaw20_IpduBack.j0 (k + 1) y0 y1 y2 y3 y4))
  | 0 => fun _ _ _ _ _ r h => by simp [headgatelaw20_IpduBack.j0] at h
  | k + 1 => by
    have ih0 := headgatelaw20_IpduBack.mono_l k
    · intro y0 y1 y2 y3 y4
      unfold headgatelaw20_IpduBack.j0
      repeat' first
      | (with_reducible exact ih0 _ _ _ _ _)
      | (with_reducible exact headgatelaw20_wakes.mono _)
      | (with_reducible exact ipdu_Get.mono _ _ _ _)
      | (with_reducible exact ipdu_Put.mono _ _ _ _ _)
      | (with_reducible exact LeO.refl _)
      | (with_reducible exact LeO.none _)
      | (with_reducible refine LeO.ite ?_ ?_)
      | (with_reducible refine LeO.bind ?_ (fun _ => ?_))
      | exact ih0 _ _ _ _ _
      | exact headgatelaw20_wakes.mono _
      | exact ipdu_Get.mono _ _ _ _
      | exact ipdu_Put.mono _ _ _ _ _
      | exact LeO.none _
      | refine LeO.ite ?_ ?_
      | refine LeO.bind ?_ (fun _ => ?_)
theorem headgatelaw20_IpduBack.mono : ∀ a0 a1 a2 a3 k, LeO (headgatelaw20_IpduBack.f k a0 a1 a2 a3) (headgatelaw20_IpduBack.f (k + 1) a0 a1 a2 a3) := by
  intro a0 a1 a2 a3 k
  have ih0 := headgatelaw20_IpduBack.mono_l k
  unfold headgatelaw20_IpduBack.f
  repeat' first
      | (with_reducible exact ih0 _ _ _ _ _)
      | (with_reducible exact headgatelaw20_wakes.mono _)
      | (with_reducible exact ipdu_Get.mono _ _ _ _)
      | (with_reducible exact ipdu_Put.mono _ _ _ _ _)
      | (with_reducible exact LeO.refl _)
      | (with_reducible exact LeO.none _)
      | (with_reducible refine LeO.ite ?_ ?_)
      | (with_reducible refine LeO.bind ?_ (fun _ => ?_))
      | exact ih0 _ _ _ _ _
      | exact headgatelaw20_wakes.mono _
      | exact ipdu_Get.mono _ _ _ _
      | exact ipdu_Put.mono _ _ _ _ _
      | exact LeO.none _
      | refine LeO.ite ?_ ?_
      | refine LeO.bind ?_ (fun _ => ?_)
def headgatelaw20_IpduBack.T12 : Bool × List (List Nat × List Nat) := (true, [([], []), ([0], [0]), ([1], [1]), ([2], [2]), ([2], [2]), ([4, 2], [2, 4]), ([3, 5, 2], [2, 3, 5]), ([2, 6], [2, 6]), ([7, 2], [7]), ([8], [8]), ([9, 8], [8, 9]), ([8], [8]), ([11, 8], [8, 11]), ([10, 12, 8], [8, 10, 12]), ([8, 13], [8, 13]), ([14, 8], [14]), ([15], [15]), ([16, 15], [15, 16]), ([17, 15], [15, 17]), ([18, 15], [15, 18]), ([15, 19], [15, 19]), ([20, 15], [20]), ([21], [21]), ([22, 21], [21, 22]), ([23, 21], [21, 23]), ([21], [21]), ([25, 21], [21, 25]), ([26, 21], [21, 26]), ([24, 27, 21], [21, 24, 27]), ([21, 28], [21, 28]), ([29, 21], [29]), ([30], [30]), ([31, 30], [30, 31]), ([32, 30], [30, 32]), ([30], [30]), ([34, 30], [30, 34]), ([35, 30], [30, 35]), ([33, 36, 30], [30, 33, 36]), ([30, 37], [30, 37]), ([38, 30], [38]), ([39], [39]), ([40, 39], [39, 40]), ([39, 41], [39, 41]), ([42, 39], [42]), ([43], [43]), ([44, 43], [43, 44]), ([43, 45], [43, 45]), ([46, 43], [46]), ([47, 47], [47]), ([47, 48], [47, 48]), ([49, 48, 0, 1, 2, 3, 4, 5, 6, 7, 8, 9, 10, 11, 12, 13, 14, 15, 16, 17, 18, 19, 20, 21, 22, 23, 24, 25, 26, 27, 28, 29, 30, 31, 32, 33, 34, 35, 36, 37, 38, 39, 40, 41, 42, 43, 44, 45, 46, 47, 48, 49], [49])])
def headgatelaw20_IpduBack.B12 : List Nat := [0, 1, 3, 7, 7, 23, 63, 127, 255, 511, 1023, 511, 2559, 8191, 16383, 32767, 65535, 131071, 262143, 524287, 1048575, 2097151, 4194303, 8388607, 16777215, 4194303, 37748735, 104857599, 268435455, 536870911, 1073741823, 2147483647, 4294967295, 8589934591, 2147483647, 19327352831, 53687091199, 137438953471, 274877906943, 549755813887, 1099511627775, 2199023255551, 4398046511103, 8796093022207, 17592186044415, 35184372088831, 70368744177663, 140737488355327, 281474976710655, 562949953421311, 1125899906842623]
theorem headgatelaw20_IpduBack.tab12 : rtab .any (opsOf Tryd.f5 12) = headgatelaw20_IpduBack.T12 := by kernel_rfl
theorem headgatelaw20_IpduBack.bits12 : waitsOk headgatelaw20_IpduBack.T12.2 headgatelaw20_IpduBack.B12 = true := by kernel_rfl
set_option maxHeartbeats 8000000 in
set_option maxRecDepth 100000 in
theorem headgatelaw20_IpduBack.calls (k : Nat) (a0_0 : ByteArray) (a0_1 : ByteArray) (a1 : ByteArray) (a2 : Int) (r : Bool) (w : World) (hG : Glob w) (hT : r = true) (h : headgatelaw20_IpduBack.f k a0_0 a0_1 a1 a2 = some r) :
    Calls Tryd.prog 5 #[.agg #[.string a0_0, .string a0_1], .string a1, .int .i64 a2] w fun e w' => e = .returned (.bool r) ∧ Below w.heap.size w w' := by
  have hu23 := Tryd.underlying23
  have HT0 := Aside0.mk hT
  clear hT
  have HG := Aside0.mk hG
  clear hG
  have HB := Aside0.mk (Below.refl w.heap.size w)
  have H : (if (a0_0.size : Int) > 20000 then (headgatelaw20_IpduBack.j0 k a1 a2 true a0_0 a0_1) else (if (a0_1.size : Int) > 20000 then (headgatelaw20_IpduBack.j0 k a1 a2 true a0_0 a0_1) else (headgatelaw20_IpduBack.j0 k a1 a2 (decide ((a1.size : Int) > 20000)) a0_0 a0_1))) = some r := h
  clear h
  have HC4 := Aside0.mk H
  clear H
  go_enter Tryd.func5, Tryd.ntmps5
  go_upto_region 1 with (first | ((with_reducible refine gate_dst (N := 3) rfl ?_); (try (refine gate_guard (by rfl) ?_; dsimp only)); refine box_event ?hg (N := 3) ?hd (cs := #[.string a0_0, .string a0_1]) (t := 23) ?hr ?_; (case hd => rfl); (case hg => rfl); (case hr => first | (go_simp; done) | (go_simp; rfl)); intro gb216 hg w5 hbox hb; have n0_ := Aside0.mk (below_step (by repeat (first | (with_reducible first | exact HB.out | apply below_alloc | apply pw_below_drewN | apply below_drew1) | exact HB.out)) hb); have n1_ := Aside0.mk (hbox); have n2_ := Aside0.mk ((by rw [hg]; exact (below_size (by repeat (first | (with_reducible first | exact HB.out | apply below_alloc | apply pw_below_drewN | apply below_drew1) | exact HB.out))) : w.heap.size ≤ gb216)); have n3_ := Aside0.mk ((by rw [hg]; exact (below_size (by repeat (first | (with_reducible first | exact HB.out | apply below_alloc | apply pw_below_drewN | apply below_drew1) | exact HB.out))) : w.heap.size ≤ gb216)); clear HB; have HB := n0_; have BK216 := n1_; have GW216 := n2_; have GE216 := n3_; clear n0_ n1_ n2_ n3_; clear hb hbox hg))
  (try simp only [Act.put, List.setIfInBounds_toArray, List.set_cons_zero, List.set_cons_succ])
  go_cut [32] (fun v32 wc => ∃ (kq : Nat) (x32_3 : Bool), v32 = .bool x32_3 ∧ Aside0 (headgatelaw20_IpduBack.j0 kq a1 a2 x32_3 a0_0 a0_1 = some r) ∧ Aside0 (kq ≤ k) ∧ Aside0 (wc.heap[gb216]? = some (.cells #[.string a0_0, .string a0_1] 23 (0, 0))) ∧ Aside0 (Below w.heap.size w wc))
  case first =>
    have H := HC4.out
    clear HC4
    by_cases c6 : (a0_0.size : Int) > 20000
    · rw [if_pos c6] at H
      have c6b0 : decide (20000 < (a0_0.size : Int)) = true := decide_eq_true c6
      have c6b1 : decide (20000 < a0_0.size) = true := decide_eq_true (by omega)
      clear c6
      (first | rw [c6b0] | (simp only [i64_w, i32_w]; rw [c6b0]) | skip)
      have H' := Aside0.mk H
      clear H
      have hcz7_0 : w5.cell? ⟨gb216, 0, none⟩ = some (.string a0_0) := (blk_cell BK216.out 0).trans rfl
      have hcz7_1 : w5.cell? ⟨gb216, 1, none⟩ = some (.string a0_1) := (blk_cell BK216.out 1).trans rfl
      have hfz7_0 := blk_frozen BK216.out 0
      have hfz7_1 := blk_frozen BK216.out 1
      go_wp2
      go_meet
      case rel => exact ⟨_, (true), (by first | rfl | (simp; done) | (simp [*]; done)), H', ⟨by first | omega | exact Nat.le_refl _⟩, ⟨by (with_reducible repeat (first | refine blk_drewN ?_ _ | refine blk_drew ?_ | refine blk_alloc ?_ _)); exact BK216.out⟩, ⟨by repeat (first | (with_reducible first | exact HB.out | apply below_alloc | apply pw_below_drewN | apply below_drew1 | refine below_set ?_ GE216.out) | exact HB.out)⟩⟩
    · rw [if_neg c6] at H
      have c6b0 : decide (20000 < (a0_0.size : Int)) = false := decide_eq_false c6
      have c6b1 : decide (20000 < a0_0.size) = false := decide_eq_false (by omega)
      clear c6
      (first | rw [c6b0] | (simp only [i64_w, i32_w]; rw [c6b0]) | skip)
      by_cases c8 : (a0_1.size : Int) > 20000
      · rw [if_pos c8] at H
        have c8b0 : decide (20000 < (a0_1.size : Int)) = true := decide_eq_true c8
        have c8b1 : decide (20000 < a0_1.size) = true := decide_eq_true (by omega)
        clear c8
        have H' := Aside0.mk H
        clear H
        have hcz9_0 : w5.cell? ⟨gb216, 0, none⟩ = some (.string a0_0) := (blk_cell BK216.out 0).trans rfl
        have hcz9_1 : w5.cell? ⟨gb216, 1, none⟩ = some (.string a0_1) := (blk_cell BK216.out 1).trans rfl
        have hfz9_0 := blk_frozen BK216.out 0
        have hfz9_1 := blk_frozen BK216.out 1
        go_wp2
        go_meet
        case rel => exact ⟨_, (true), (by first | rfl | (simp; done) | (simp [*]; done)), H', ⟨by first | omega | exact Nat.le_refl _⟩, ⟨by (with_reducible repeat (first | refine blk_drewN ?_ _ | refine blk_drew ?_ | refine blk_alloc ?_ _)); exact BK216.out⟩, ⟨by repeat (first | (with_reducible first | exact HB.out | apply below_alloc | apply pw_below_drewN | apply below_drew1 | refine below_set ?_ GE216.out) | exact HB.out)⟩⟩
      · rw [if_neg c8] at H
        have c8b0 : decide (20000 < (a0_1.size : Int)) = false := decide_eq_false c8
        have c8b1 : decide (20000 < a0_1.size) = false := decide_eq_false (by omega)
        clear c8
        have H' := Aside0.mk H
        clear H
        have hcz10_0 : w5.cell? ⟨gb216, 0, none⟩ = some (.string a0_0) := (blk_cell BK216.out 0).trans rfl
        have hcz10_1 : w5.cell? ⟨gb216, 1, none⟩ = some (.string a0_1) := (blk_cell BK216.out 1).trans rfl
        have hfz10_0 := blk_frozen BK216.out 0
        have hfz10_1 := blk_frozen BK216.out 1
        go_wp2
        go_meet
        case rel => exact ⟨_, (decide ((a1.size : Int) > 20000)), (by first | rfl | (simp; done) | (simp [*]; done)), H', ⟨by first | omega | exact Nat.le_refl _⟩, ⟨by (with_reducible repeat (first | refine blk_drewN ?_ _ | refine blk_drew ?_ | refine blk_alloc ?_ _)); exact BK216.out⟩, ⟨by repeat (first | (with_reducible first | exact HB.out | apply below_alloc | apply pw_below_drewN | apply below_drew1 | refine below_set ?_ GE216.out) | exact HB.out)⟩⟩
  case rest =>
    clear HC4
    try clear p2
    try clear c5
    try clear c6
    try clear c6b0
    try clear c6b1
    try clear c8
    try clear c8b0
    try clear c8b1
    try clear hcz10_0
    try clear hcz10_1
    try clear hcz7_0
    try clear hcz7_1
    try clear hcz9_0
    try clear hcz9_1
    try clear hfz10_0
    try clear hfz10_1
    try clear hfz7_0
    try clear hfz7_1
    try clear hfz9_0
    try clear hfz9_1
    obtain ⟨kq, x32_3, rfl, HA, HJ3, BK216, HB⟩ := hcut
    cases kq with
    | zero => exact absurd HA.out (by simp [headgatelaw20_IpduBack.j0])
    | succ kj3 =>
      have H := HA.out
      clear HA
      simp only [headgatelaw20_IpduBack.j0] at H
      by_cases c11 : x32_3 = true
      · subst c11
        have H1 : ((headgatelaw20_wakes.f kj3).bind fun t217 => (some t217)) = some r := by rw [if_pos rfl] at H; exact H
        clear H
        have H := H1
        clear H1
        replace H := Option.bind_eq_some_iff.mp H
        obtain ⟨t217, A120, H⟩ := H
        replace H : (some t217) = some r := H
        have A12 := Aside0.mk A120
        clear A120
        obtain rfl := Option.some.inj H
        go_wp2_with (first | ((with_reducible refine gate_callee (f := 9) rfl ?_); refine goesL_ (some 33) rfl rfl Tryd.func9 (by kernel_rfl) rfl #[] rfl (by (try simp only [List.map_toArray, List.map_cons, List.map_nil]); first | done | rfl | (simp only [List.length_drop, List.length_take]; rfl)) ?_; (with_reducible refine (headgatelaw20_wakes.calls kj3  t217 _ ?side1 A12.out).mono ?_); (case side1 => first | ((refine Glob.keep HG.out ?_); (repeat (first | (with_reducible first | exact HB.out | apply below_alloc | apply pw_below_drewN | apply below_drew1 | refine below_set ?_ GE216.out) | exact HB.out)); done) | exact HG.out); rintro e w13 ⟨rfl, hb⟩; refine ⟨_, rfl, ?_⟩; have n0_ := Aside0.mk (blk_below (g := gb216) (o := .cells #[.string a0_0, .string a0_1] 23 (0, 0)) (by (with_reducible repeat (first | refine blk_drewN ?_ _ | refine blk_drew ?_ | refine blk_alloc ?_ _)); exact BK216.out) hb); have n1_ := Aside0.mk (below_step (by repeat (first | (with_reducible first | exact HB.out | apply below_alloc | apply pw_below_drewN | apply below_drew1 | refine below_set ?_ GE216.out) | exact HB.out)) hb); clear BK216; clear HB; have BK216 := n0_; have HB := n1_; clear n0_ n1_; (try clear hb); (try clear hb2); (try clear hk); (try clear hi)))
        go_ret
        exact ⟨by first | rfl | (simp [errW_none, errW_some] <;> rfl) | (simp [*, errW_none, errW_some] <;> rfl), by repeat (first | (with_reducible first | exact HB.out | apply below_alloc | apply pw_below_drewN | apply below_drew1 | refine below_set ?_ GE216.out) | exact HB.out)⟩
      · replace c11 := Bool.eq_false_iff.mpr c11
        subst c11
        have H1 : ((ipdu_Put.f kj3 a0_0 a0_1 ((Int.tmod a2 2) == 0) ((Int.tmod (wrap64 (Int.tdiv a2 2)) 2) == 0)).bind fun bt218 => (if bt218.2 = 0 then (if bt218.1.toList = ([] : List UInt8) then (some false) else (if bt218.1.size + a1.size ≤ 9223372036854775807 then ((ipdu_Get.f kj3 (bt218.1 ++ a1) ((Int.tmod a2 2) == 0) ((Int.tmod (wrap64 (Int.tdiv a2 2)) 2) == 0)).bind fun bt221 => (if (IntKind.u64.wrap ((bt218.1.size : Int))) = 0 then (none) else (if 0 ≤ (wrap64 (Int.tmod (IntKind.u64.wrap (a2)) (IntKind.u64.wrap ((bt218.1.size : Int))))) then (if (wrap64 (Int.tmod (IntKind.u64.wrap (a2)) (IntKind.u64.wrap ((bt218.1.size : Int))))) ≤ (bt218.1.size : Int) then ((ipdu_Get.f kj3 (bt218.1.extract 0 ((wrap64 (Int.tmod (IntKind.u64.wrap (a2)) (IntKind.u64.wrap ((bt218.1.size : Int))))) : Int).toNat) ((Int.tmod a2 2) == 0) ((Int.tmod (wrap64 (Int.tdiv a2 2)) 2) == 0)).bind fun bt226 => (if bt221.2.2.2 = 0 then (if bt221.2.2.1 = (bt218.1.size : Int) then (if bt221.2.1.toList = a0_1.toList then (if (bt221.1.size : Int) = 48 then (if 0 ≤ 5 then (if 5 ≤ (bt221.1.size : Int) then (if 5 ≤ (a0_0.size : Int) then (if (bt221.1.extract 0 5).toList = (a0_0.extract 0 5).toList then (if 8 ≤ (bt221.1.size : Int) then (if 8 ≤ (a0_0.size : Int) then (if (bt221.1.extract 8 bt221.1.size).toList = (a0_0.extract 8 a0_0.size).toList then (if bt226.2.2.1 = 0 then (if bt226.2.2.2 = 0 then ((headgatelaw20_wakes.f kj3).bind fun t231 => (some t231)) else (some false)) else (some false)) else (some false)) else (none)) else (none)) else (some false)) else (none)) else (none)) else (none)) else (some false)) else (some false)) else (some false)) else (some false))) else (none)) else (none)))) else (none))) else (if bt218.1.toList = ([] : List UInt8) then ((headgatelaw20_wakes.f kj3).bind fun t220 => (some t220)) else (some false)))) = some r := by rw [if_neg (show ¬ (false = true) by decide)] at H; exact H
        clear H
        have H := H1
        clear H1
        replace H := Option.bind_eq_some_iff.mp H
        obtain ⟨⟨t218, t219⟩, A140, H⟩ := H
        replace H : (if t219 = 0 then (if t218.toList = ([] : List UInt8) then (some false) else (if t218.size + a1.size ≤ 9223372036854775807 then ((ipdu_Get.f kj3 (t218 ++ a1) ((Int.tmod a2 2) == 0) ((Int.tmod (wrap64 (Int.tdiv a2 2)) 2) == 0)).bind fun bt221 => (if (IntKind.u64.wrap ((t218.size : Int))) = 0 then (none) else (if 0 ≤ (wrap64 (Int.tmod (IntKind.u64.wrap (a2)) (IntKind.u64.wrap ((t218.size : Int))))) then (if (wrap64 (Int.tmod (IntKind.u64.wrap (a2)) (IntKind.u64.wrap ((t218.size : Int))))) ≤ (t218.size : Int) then ((ipdu_Get.f kj3 (t218.extract 0 ((wrap64 (Int.tmod (IntKind.u64.wrap (a2)) (IntKind.u64.wrap ((t218.size : Int))))) : Int).toNat) ((Int.tmod a2 2) == 0) ((Int.tmod (wrap64 (Int.tdiv a2 2)) 2) == 0)).bind fun bt226 => (if bt221.2.2.2 = 0 then (if bt221.2.2.1 = (t218.size : Int) then (if bt221.2.1.toList = a0_1.toList then (if (bt221.1.size : Int) = 48 then (if 0 ≤ 5 then (if 5 ≤ (bt221.1.size : Int) then (if 5 ≤ (a0_0.size : Int) then (if (bt221.1.extract 0 5).toList = (a0_0.extract 0 5).toList then (if 8 ≤ (bt221.1.size : Int) then (if 8 ≤ (a0_0.size : Int) then (if (bt221.1.extract 8 bt221.1.size).toList = (a0_0.extract 8 a0_0.size).toList then (if bt226.2.2.1 = 0 then (if bt226.2.2.2 = 0 then ((headgatelaw20_wakes.f kj3).bind fun t231 => (some t231)) else (some false)) else (some false)) else (some false)) else (none)) else (none)) else (some false)) else (none)) else (none)) else (none)) else (some false)) else (some false)) else (some false)) else (some false))) else (none)) else (none)))) else (none))) else (if t218.toList = ([] : List UInt8) then ((headgatelaw20_wakes.f kj3).bind fun t220 => (some t220)) else (some false))) = some r := H
        have A14 := Aside0.mk A140
        clear A140
        by_cases c15 : t219 = 0
        · rw [if_pos c15] at H
          have c15b0 : (t219 == 0) = true := beq_iff_eq.mpr c15
          have c15b1 : (t219 != 0) = false := bne_eq_false_iff_eq.mpr c15
          clear c15
          by_cases c16 : t218.toList = ([] : List UInt8)
          · rw [if_pos c16] at H
            have c16b0 : (t218.toList == ([] : List UInt8)) = true := beq_iff_eq.mpr c16
            have c16b1 : (t218.toList != ([] : List UInt8)) = false := bne_eq_false_iff_eq.mpr c16
            (try (have c16b2 : (t218 = ByteArray.empty) = True := eq_true (by have h_ := c16; rw [ByteArray.toList_eq] at h_; exact ByteArray.ext (Array.toList_eq_nil_iff.mp h_))))
            clear c16
            exact absurd ((Option.some.inj H).trans HT0.out) (by decide)
          · rw [if_neg c16] at H
            have c16b0 : (t218.toList == ([] : List UInt8)) = false := beq_eq_false_iff_ne.mpr c16
            have c16b1 : (t218.toList != ([] : List UInt8)) = true := bne_iff_ne.mpr c16
            (try (have c16b2 : (t218 = ByteArray.empty) = False := eq_false (fun h_ => c16 (by rw [h_, ByteArray.toList_eq]; rfl))))
            by_cases c17 : t218.size + a1.size ≤ 9223372036854775807
            · rw [if_pos c17] at H
              have c17b0 := eq_true c17
              have c17b1 : decide (t218.size + a1.size ≤ 9223372036854775807) = true := decide_eq_true c17
              try have c17b2 : (9223372036854775807 < t218.size + a1.size) = False := eq_false (Nat.not_lt.2 c17)
              replace H := Option.bind_eq_some_iff.mp H
              obtain ⟨⟨t221, t222, t223, t224⟩, A180, H⟩ := H
              replace H : (if (IntKind.u64.wrap ((t218.size : Int))) = 0 then (none) else (if 0 ≤ (wrap64 (Int.tmod (IntKind.u64.wrap (a2)) (IntKind.u64.wrap ((t218.size : Int))))) then (if (wrap64 (Int.tmod (IntKind.u64.wrap (a2)) (IntKind.u64.wrap ((t218.size : Int))))) ≤ (t218.size : Int) then ((ipdu_Get.f kj3 (t218.extract 0 ((wrap64 (Int.tmod (IntKind.u64.wrap (a2)) (IntKind.u64.wrap ((t218.size : Int))))) : Int).toNat) ((Int.tmod a2 2) == 0) ((Int.tmod (wrap64 (Int.tdiv a2 2)) 2) == 0)).bind fun bt226 => (if t224 = 0 then (if t223 = (t218.size : Int) then (if t222.toList = a0_1.toList then (if (t221.size : Int) = 48 then (if 0 ≤ 5 then (if 5 ≤ (t221.size : Int) then (if 5 ≤ (a0_0.size : Int) then (if (t221.extract 0 5).toList = (a0_0.extract 0 5).toList then (if 8 ≤ (t221.size : Int) then (if 8 ≤ (a0_0.size : Int) then (if (t221.extract 8 t221.size).toList = (a0_0.extract 8 a0_0.size).toList then (if bt226.2.2.1 = 0 then (if bt226.2.2.2 = 0 then ((headgatelaw20_wakes.f kj3).bind fun t231 => (some t231)) else (some false)) else (some false)) else (some false)) else (none)) else (none)) else (some false)) else (none)) else (none)) else (none)) else (some false)) else (some false)) else (some false)) else (some false))) else (none)) else (none))) = some r := H
              have A18 := Aside0.mk A180
              clear A180
              by_cases c19 : (IntKind.u64.wrap ((t218.size : Int))) = 0
              · rw [if_pos c19] at H
                exact absurd H (by simp)
              · rw [if_neg c19] at H
                have c19b0 : ((IntKind.u64.wrap ((t218.size : Int))) == 0) = false := beq_eq_false_iff_ne.mpr c19
                have c19b1 : ((IntKind.u64.wrap ((t218.size : Int))) != 0) = true := bne_iff_ne.mpr c19
                obtain ⟨ji20, hji20⟩ : ∃ j_ : Int, (wrap64 (Int.tmod (IntKind.u64.wrap (a2)) (IntKind.u64.wrap ((t218.size : Int))))) = j_ := ⟨_, rfl⟩
                replace H : (if 0 ≤ (ji20) then (if (ji20) ≤ (t218.size : Int) then ((ipdu_Get.f kj3 (t218.extract 0 ((ji20) : Int).toNat) ((Int.tmod a2 2) == 0) ((Int.tmod (wrap64 (Int.tdiv a2 2)) 2) == 0)).bind fun bt226 => (if t224 = 0 then (if t223 = (t218.size : Int) then (if t222.toList = a0_1.toList then (if (t221.size : Int) = 48 then (if 0 ≤ 5 then (if 5 ≤ (t221.size : Int) then (if 5 ≤ (a0_0.size : Int) then (if (t221.extract 0 5).toList = (a0_0.extract 0 5).toList then (if 8 ≤ (t221.size : Int) then (if 8 ≤ (a0_0.size : Int) then (if (t221.extract 8 t221.size).toList = (a0_0.extract 8 a0_0.size).toList then (if bt226.2.2.1 = 0 then (if bt226.2.2.2 = 0 then ((headgatelaw20_wakes.f kj3).bind fun t231 => (some t231)) else (some false)) else (some false)) else (some false)) else (none)) else (none)) else (some false)) else (none)) else (none)) else (none)) else (some false)) else (some false)) else (some false)) else (some false))) else (none)) else (none)) = some r := by first | (rw [hji20] at H; exact H) | (simp only [hji20] at H ⊢; exact H)
                (try rw [hji20] at A14)
                (try rw [hji20] at A18)
                have hji20w : (IntKind.i64.wrap (Int.tmod (IntKind.u64.wrap (a2)) (IntKind.u64.wrap ((t218.size : Int))))) = ji20 := (i64_w _).trans hji20
                (try have hji20s : (wrap64 (Int.tmod (IntKind.u64.wrap (a2)) (t218.size : Int))) = ji20 := by have h_ : IntKind.u64.wrap (t218.size : Int) = (t218.size : Int) := (by (simp [IntKind.wrap, IntKind.bits, IntKind.signed]; omega)); rw [← hji20, h_])
                (try have hji20sw : (IntKind.i64.wrap (Int.tmod (IntKind.u64.wrap (a2)) (t218.size : Int))) = ji20 := (i64_w _).trans hji20s)
                (try have hji20s : (wrap64 (Int.tmod (IntKind.u64.wrap (a2)) (t218.size : Int))) = ji20 := by have h_ : IntKind.u64.wrap (t218.size : Int) = (t218.size : Int) := (by (simp [IntKind.wrap, IntKind.bits, IntKind.signed]; omega)); rw [← hji20, h_])
                (try have hji20sw : (IntKind.i64.wrap (Int.tmod (IntKind.u64.wrap (a2)) (t218.size : Int))) = ji20 := (i64_w _).trans hji20s)
                by_cases c21 : 0 ≤ (ji20)
                · rw [if_pos c21] at H
                  have c21b0 := eq_true c21
                  have c21b1 : decide (0 ≤ (ji20)) = true := decide_eq_true c21
                  clear c21
                  by_cases c22 : (ji20) ≤ (t218.size : Int)
                  · rw [if_pos c22] at H
                    have c22b0 := eq_true c22
                    have c22b1 : decide ((ji20) ≤ (t218.size : Int)) = true := decide_eq_true c22
                    clear c22
                    replace H := Option.bind_eq_some_iff.mp H
                    obtain ⟨⟨t226, t227, t228, t229⟩, A230, H⟩ := H
                    replace H : (if t224 = 0 then (if t223 = (t218.size : Int) then (if t222.toList = a0_1.toList then (if (t221.size : Int) = 48 then (if 0 ≤ 5 then (if 5 ≤ (t221.size : Int) then (if 5 ≤ (a0_0.size : Int) then (if (t221.extract 0 5).toList = (a0_0.extract 0 5).toList then (if 8 ≤ (t221.size : Int) then (if 8 ≤ (a0_0.size : Int) then (if (t221.extract 8 t221.size).toList = (a0_0.extract 8 a0_0.size).toList then (if t228 = 0 then (if t229 = 0 then ((headgatelaw20_wakes.f kj3).bind fun t231 => (some t231)) else (some false)) else (some false)) else (some false)) else (none)) else (none)) else (some false)) else (none)) else (none)) else (none)) else (some false)) else (some false)) else (some false)) else (some false)) = some r := H
                    have A23 := Aside0.mk A230
                    clear A230
                    by_cases c24 : t224 = 0
                    · rw [if_pos c24] at H
                      have c24b0 : (t224 == 0) = true := beq_iff_eq.mpr c24
                      have c24b1 : (t224 != 0) = false := bne_eq_false_iff_eq.mpr c24
                      clear c24
                      by_cases c25 : t223 = (t218.size : Int)
                      · rw [if_pos c25] at H
                        have c25b0 : (t223 == (t218.size : Int)) = true := beq_iff_eq.mpr c25
                        have c25b1 : (t223 != (t218.size : Int)) = false := bne_eq_false_iff_eq.mpr c25
                        clear c25
                        by_cases c26 : t222.toList = a0_1.toList
                        · rw [if_pos c26] at H
                          have c26b0 : (t222.toList == a0_1.toList) = true := beq_iff_eq.mpr c26
                          have c26b1 : (t222.toList != a0_1.toList) = false := bne_eq_false_iff_eq.mpr c26
                          clear c26
                          by_cases c27 : (t221.size : Int) = 48
                          · rw [if_pos c27] at H
                            have c27b0 : ((t221.size : Int) == 48) = true := beq_iff_eq.mpr c27
                            have c27b1 : ((t221.size : Int) != 48) = false := bne_eq_false_iff_eq.mpr c27
                            clear c27
                            by_cases c28 : 0 ≤ 5
                            · rw [if_pos c28] at H
                              have c28b0 := eq_true c28
                              have c28b1 : decide (0 ≤ 5) = true := decide_eq_true c28
                              clear c28
                              by_cases c29 : 5 ≤ (t221.size : Int)
                              · rw [if_pos c29] at H
                                have c29b0 := eq_true c29
                                have c29b1 : decide (5 ≤ (t221.size : Int)) = true := decide_eq_true c29
                                clear c29
                                have c30b0 := eq_true (of_decide_eq_true (by first | (with_reducible assumption) | assumption) : 0 ≤ 5)
                                by_cases c31 : 5 ≤ (a0_0.size : Int)
                                · rw [if_pos c31] at H
                                  have c31b0 := eq_true c31
                                  have c31b1 : decide (5 ≤ (a0_0.size : Int)) = true := decide_eq_true c31
                                  clear c31
                                  by_cases c32 : (t221.extract 0 5).toList = (a0_0.extract 0 5).toList
                                  · rw [if_pos c32] at H
                                    have c32b0 : ((t221.extract 0 5).toList == (a0_0.extract 0 5).toList) = true := beq_iff_eq.mpr c32
                                    have c32b1 : ((t221.extract 0 5).toList != (a0_0.extract 0 5).toList) = false := bne_eq_false_iff_eq.mpr c32
                                    clear c32
                                    by_cases c33 : 8 ≤ (t221.size : Int)
                                    · rw [if_pos c33] at H
                                      have c33b0 := eq_true c33
                                      have c33b1 : decide (8 ≤ (t221.size : Int)) = true := decide_eq_true c33
                                      clear c33
                                      by_cases c34 : 8 ≤ (a0_0.size : Int)
                                      · rw [if_pos c34] at H
                                        have c34b0 := eq_true c34
                                        have c34b1 : decide (8 ≤ (a0_0.size : Int)) = true := decide_eq_true c34
                                        clear c34
                                        by_cases c35 : (t221.extract 8 t221.size).toList = (a0_0.extract 8 a0_0.size).toList
                                        · rw [if_pos c35] at H
                                          have c35b0 : ((t221.extract 8 t221.size).toList == (a0_0.extract 8 a0_0.size).toList) = true := beq_iff_eq.mpr c35
                                          have c35b1 : ((t221.extract 8 t221.size).toList != (a0_0.extract 8 a0_0.size).toList) = false := bne_eq_false_iff_eq.mpr c35
                                          clear c35
                                          by_cases c36 : t228 = 0
                                          · rw [if_pos c36] at H
                                            have c36b0 : (t228 == 0) = true := beq_iff_eq.mpr c36
                                            have c36b1 : (t228 != 0) = false := bne_eq_false_iff_eq.mpr c36
                                            clear c36
                                            by_cases c37 : t229 = 0
                                            · rw [if_pos c37] at H
                                              have c37b0 : (t229 == 0) = true := beq_iff_eq.mpr c37
                                              have c37b1 : (t229 != 0) = false := bne_eq_false_iff_eq.mpr c37
                                              clear c37
                                              replace H := Option.bind_eq_some_iff.mp H
                                              obtain ⟨t231, A380, H⟩ := H
                                              replace H : (some t231) = some r := H
                                              have A38 := Aside0.mk A380
                                              clear A380
                                              obtain rfl := Option.some.inj H
                                              have hcz39_0 : wc.cell? ⟨gb216, 0, none⟩ = some (.string a0_0) := (blk_cell BK216.out 0).trans rfl
                                              have hcz39_1 : wc.cell? ⟨gb216, 1, none⟩ = some (.string a0_1) := (blk_cell BK216.out 1).trans rfl
                                              have hfz39_0 := blk_frozen BK216.out 0
                                              have hfz39_1 := blk_frozen BK216.out 1
                                              try go_wp2_with (first | ((with_reducible refine gate_callee (f := 10) rfl ?_); refine goesL_ (some 45) rfl rfl Tryd.func10 (by kernel_rfl) rfl #[.agg #[.string a0_0, .string a0_1], .bool ((Int.tmod a2 2) == 0), .bool ((Int.tmod (wrap64 (Int.tdiv a2 2)) 2) == 0)] rfl (by (try simp only [List.map_toArray, List.map_cons, List.map_nil]); first | done | rfl | (simp only [List.length_drop, List.length_take]; rfl)) ?_; (with_reducible refine (ipdu_Put.calls kj3 a0_0 a0_1 ((Int.tmod a2 2) == 0) ((Int.tmod (wrap64 (Int.tdiv a2 2)) 2) == 0) t218 t219 _ ?side1 A14.out).mono ?_); (case side1 => first | ((refine Glob.keep HG.out ?_); (repeat (first | (with_reducible first | exact HB.out | apply below_alloc | apply pw_below_drewN | apply below_drew1 | refine below_set ?_ GE216.out) | exact HB.out)); done) | exact HG.out); rintro e w40 ⟨rfl, hb⟩; refine ⟨_, rfl, ?_⟩; have n0_ := Aside0.mk (blk_below (g := gb216) (o := .cells #[.string a0_0, .string a0_1] 23 (0, 0)) (by (with_reducible repeat (first | refine blk_drewN ?_ _ | refine blk_drew ?_ | refine blk_alloc ?_ _)); exact BK216.out) hb); have n1_ := Aside0.mk (below_step (by repeat (first | (with_reducible first | exact HB.out | apply below_alloc | apply pw_below_drewN | apply below_drew1 | refine below_set ?_ GE216.out) | exact HB.out)) hb); clear BK216; clear HB; have BK216 := n0_; have HB := n1_; clear n0_ n1_; (try clear hb); (try clear hb2); (try clear hk); (try clear hi)) | ((with_reducible refine gate_callee (f := 12) rfl ?_); refine goesL_ (some 63) rfl rfl Tryd.func12 (by kernel_rfl) rfl #[.string (t218 ++ a1), .bool ((Int.tmod a2 2) == 0), .bool ((Int.tmod (wrap64 (Int.tdiv a2 2)) 2) == 0)] rfl (by (try simp only [List.map_toArray, List.map_cons, List.map_nil]); first | done | rfl | (simp only [List.length_drop, List.length_take]; rfl)) ?_; (with_reducible refine (ipdu_Get.calls kj3 (t218 ++ a1) ((Int.tmod a2 2) == 0) ((Int.tmod (wrap64 (Int.tdiv a2 2)) 2) == 0) t221 t222 t223 t224 _ ?side1 A18.out).mono ?_); (case side1 => first | ((refine Glob.keep HG.out ?_); (repeat (first | (with_reducible first | exact HB.out | apply below_alloc | apply pw_below_drewN | apply below_drew1 | refine below_set ?_ GE216.out) | exact HB.out)); done) | exact HG.out); rintro e w41 ⟨rfl, hb⟩; refine ⟨_, rfl, ?_⟩; have n0_ := Aside0.mk (blk_below (g := gb216) (o := .cells #[.string a0_0, .string a0_1] 23 (0, 0)) (by (with_reducible repeat (first | refine blk_drewN ?_ _ | refine blk_drew ?_ | refine blk_alloc ?_ _)); exact BK216.out) hb); have n1_ := Aside0.mk (below_step (by repeat (first | (with_reducible first | exact HB.out | apply below_alloc | apply pw_below_drewN | apply below_drew1 | refine below_set ?_ GE216.out) | exact HB.out)) hb); clear BK216; clear HB; have BK216 := n0_; have HB := n1_; clear n0_ n1_; (try clear hb); (try clear hb2); (try clear hk); (try clear hi)) | ((with_reducible refine gate_dst (N := 11) rfl ?_); (try (refine gate_guard (by rfl) ?_; dsimp only)); refine box_event ?hg (N := 11) ?hd (cs := #[.string (⟨#[]⟩ : ByteArray), .string (⟨#[]⟩ : ByteArray)]) (t := 23) ?hr ?_; (case hd => rfl); (case hg => rfl); (case hr => first | (go_simp; done) | (go_simp; rfl)); intro gb225 hg w42 hbox hb; have n0_ := Aside0.mk (blk_below (g := gb216) (o := .cells #[.string a0_0, .string a0_1] 23 (0, 0)) (by (with_reducible repeat (first | refine blk_drewN ?_ _ | refine blk_drew ?_ | refine blk_alloc ?_ _)); exact BK216.out) hb); have n1_ := Aside0.mk (below_step (by repeat (first | (with_reducible first | exact HB.out | apply below_alloc | apply pw_below_drewN | apply below_drew1 | refine below_set ?_ GE216.out) | exact HB.out)) hb); have n2_ := Aside0.mk (hbox); have n3_ := Aside0.mk ((by rw [hg]; exact (below_size (by repeat (first | (with_reducible first | exact HB.out | apply below_alloc | apply pw_below_drewN | apply below_drew1 | refine below_set ?_ GE216.out) | exact HB.out))) : w.heap.size ≤ gb225)); have n4_ := Aside0.mk ((by rw [hg]; exact (below_size (by repeat (first | (with_reducible first | exact HB.out | apply below_alloc | apply pw_below_drewN | apply below_drew1 | refine below_set ?_ GE216.out) | exact HB.out))) : w.heap.size ≤ gb225)); have n5_ := Aside0.mk ((by rw [hg]; exact Nat.ne_of_lt (blk_lt (g := gb216) (o := .cells #[.string a0_0, .string a0_1] 23 (0, 0)) (by (with_reducible repeat (first | refine blk_drewN ?_ _ | refine blk_drew ?_ | refine blk_alloc ?_ _)); exact BK216.out)) : gb216 ≠ gb225)); have n6_ := Aside0.mk ((by rw [hg]; exact Nat.ne_of_gt (blk_lt (g := gb216) (o := .cells #[.string a0_0, .string a0_1] 23 (0, 0)) (by (with_reducible repeat (first | refine blk_drewN ?_ _ | refine blk_drew ?_ | refine blk_alloc ?_ _)); exact BK216.out)) : gb225 ≠ gb216)); clear BK216; clear HB; have BK216 := n0_; have HB := n1_; have BK225 := n2_; have GW225 := n3_; have GE225 := n4_; have NB216_225 := n5_; have NB225_216 := n6_; clear n0_ n1_ n2_ n3_ n4_ n5_ n6_; clear hb hbox hg; have hnb43 := NB225_216.out; have hnc43 := NB216_225.out; have hcz44_0 : w42.cell? ⟨gb225, 0, none⟩ = some (.string (⟨#[]⟩ : ByteArray)) := (blk_cell BK225.out 0).trans rfl; have hcz44_1 : w42.cell? ⟨gb225, 1, none⟩ = some (.string (⟨#[]⟩ : ByteArray)) := (blk_cell BK225.out 1).trans rfl; have hfz44_0 := blk_frozen BK225.out 0; have hfz44_1 := blk_frozen BK225.out 1) | ((with_reducible refine gate_callee (f := 12) rfl ?_); refine goesL_ (some 80) rfl rfl Tryd.func12 (by kernel_rfl) rfl #[.string (t218.extract 0 ((ji20) : Int).toNat), .bool ((Int.tmod a2 2) == 0), .bool ((Int.tmod (wrap64 (Int.tdiv a2 2)) 2) == 0)] rfl (by (try simp only [List.map_toArray, List.map_cons, List.map_nil]); first | done | (simp only [hji20]; rfl) | rfl | (simp only [List.length_drop, List.length_take]; rfl)) ?_; (with_reducible refine (ipdu_Get.calls kj3 (t218.extract 0 ((ji20) : Int).toNat) ((Int.tmod a2 2) == 0) ((Int.tmod (wrap64 (Int.tdiv a2 2)) 2) == 0) t226 t227 t228 t229 _ ?side1 A23.out).mono ?_); (case side1 => first | ((refine Glob.keep HG.out ?_); (repeat (first | (with_reducible first | exact HB.out | apply below_alloc | apply pw_below_drewN | apply below_drew1 | refine below_set ?_ GE216.out | refine below_set ?_ GE225.out) | exact HB.out)); done) | exact HG.out); rintro e w45 ⟨rfl, hb⟩; refine ⟨_, rfl, ?_⟩; have n0_ := Aside0.mk (blk_below (g := gb216) (o := .cells #[.string a0_0, .string a0_1] 23 (0, 0)) (by (with_reducible repeat (first | refine blk_drewN ?_ _ | refine blk_drew ?_ | refine blk_alloc ?_ _)); refine blk_far ?_ NB216_225.out _; (with_reducible repeat (first | refine blk_drewN ?_ _ | refine blk_drew ?_ | refine blk_alloc ?_ _)); refine blk_far ?_ NB216_225.out _; (with_reducible repeat (first | refine blk_drewN ?_ _ | refine blk_drew ?_ | refine blk_alloc ?_ _)); exact BK216.out) hb); have n1_ := Aside0.mk (blk_below (g := gb225) (o := .cells #[.string t221, .string t222] 23 (0, 0)) (by (with_reducible repeat (first | refine blk_drewN ?_ _ | refine blk_drew ?_ | refine blk_alloc ?_ _)); refine blk_put (cs := #[.string t221, .string (⟨#[]⟩ : ByteArray)]) ?_ 1 _ rfl; (with_reducible repeat (first | refine blk_drewN ?_ _ | refine blk_drew ?_ | refine blk_alloc ?_ _)); refine blk_put (cs := #[.string (⟨#[]⟩ : ByteArray), .string (⟨#[]⟩ : ByteArray)]) ?_ 0 _ rfl; (with_reducible repeat (first | refine blk_drewN ?_ _ | refine blk_drew ?_ | refine blk_alloc ?_ _)); exact BK225.out) hb); have n2_ := Aside0.mk (below_step (by repeat (first | (with_reducible first | exact HB.out | apply below_alloc | apply pw_below_drewN | apply below_drew1 | refine below_set ?_ GE216.out | refine below_set ?_ GE225.out) | exact HB.out)) hb); clear BK216; clear BK225; clear HB; have BK216 := n0_; have BK225 := n1_; have HB := n2_; clear n0_ n1_ n2_; (try clear hb); (try clear hb2); (try clear hk); (try clear hi)) | ((with_reducible refine gate_dst (N := 15) rfl ?_); (try (refine gate_guard (by rfl) ?_; dsimp only)); refine box_event ?hg (N := 15) ?hd (cs := #[.string (⟨#[]⟩ : ByteArray), .string (⟨#[]⟩ : ByteArray)]) (t := 23) ?hr ?_; (case hd => rfl); (case hg => rfl); (case hr => first | (go_simp; done) | (go_simp; rfl)); intro gb230 hg w46 hbox hb; have n0_ := Aside0.mk (blk_below (g := gb216) (o := .cells #[.string a0_0, .string a0_1] 23 (0, 0)) (by (with_reducible repeat (first | refine blk_drewN ?_ _ | refine blk_drew ?_ | refine blk_alloc ?_ _)); exact BK216.out) hb); have n1_ := Aside0.mk (blk_below (g := gb225) (o := .cells #[.string t221, .string t222] 23 (0, 0)) (by (with_reducible repeat (first | refine blk_drewN ?_ _ | refine blk_drew ?_ | refine blk_alloc ?_ _)); exact BK225.out) hb); have n2_ := Aside0.mk (below_step (by repeat (first | (with_reducible first | exact HB.out | apply below_alloc | apply pw_below_drewN | apply below_drew1 | refine below_set ?_ GE216.out | refine below_set ?_ GE225.out) | exact HB.out)) hb); have n3_ := Aside0.mk (hbox); have n4_ := Aside0.mk ((by rw [hg]; exact (below_size (by repeat (first | (with_reducible first | exact HB.out | apply below_alloc | apply pw_below_drewN | apply below_drew1 | refine below_set ?_ GE216.out | refine below_set ?_ GE225.out) | exact HB.out))) : w.heap.size ≤ gb230)); have n5_ := Aside0.mk ((by rw [hg]; exact (below_size (by repeat (first | (with_reducible first | exact HB.out | apply below_alloc | apply pw_below_drewN | apply below_drew1 | refine below_set ?_ GE216.out | refine below_set ?_ GE225.out) | exact HB.out))) : w.heap.size ≤ gb230)); have n6_ := Aside0.mk ((by rw [hg]; exact Nat.ne_of_lt (blk_lt (g := gb216) (o := .cells #[.string a0_0, .string a0_1] 23 (0, 0)) (by (with_reducible repeat (first | refine blk_drewN ?_ _ | refine blk_drew ?_ | refine blk_alloc ?_ _)); exact BK216.out)) : gb216 ≠ gb230)); have n7_ := Aside0.mk ((by rw [hg]; exact Nat.ne_of_gt (blk_lt (g := gb216) (o := .cells #[.string a0_0, .string a0_1] 23 (0, 0)) (by (with_reducible repeat (first | refine blk_drewN ?_ _ | refine blk_drew ?_ | refine blk_alloc ?_ _)); exact BK216.out)) : gb230 ≠ gb216)); have n8_ := Aside0.mk ((by rw [hg]; exact Nat.ne_of_lt (blk_lt (g := gb225) (o := .cells #[.string t221, .string t222] 23 (0, 0)) (by (with_reducible repeat (first | refine blk_drewN ?_ _ | refine blk_drew ?_ | refine blk_alloc ?_ _)); exact BK225.out)) : gb225 ≠ gb230)); have n9_ := Aside0.mk ((by rw [hg]; exact Nat.ne_of_gt (blk_lt (g := gb225) (o := .cells #[.string t221, .string t222] 23 (0, 0)) (by (with_reducible repeat (first | refine blk_drewN ?_ _ | refine blk_drew ?_ | refine blk_alloc ?_ _)); exact BK225.out)) : gb230 ≠ gb225)); clear BK216; clear BK225; clear HB; have BK216 := n0_; have BK225 := n1_; have HB := n2_; have BK230 := n3_; have GW230 := n4_; have GE230 := n5_; have NB216_230 := n6_; have NB230_216 := n7_; have NB225_230 := n8_; have NB230_225 := n9_; clear n0_ n1_ n2_ n3_ n4_ n5_ n6_ n7_ n8_ n9_; clear hb hbox hg; have hnb47 := NB230_216.out; have hnc47 := NB216_230.out; have hnb48 := NB230_225.out; have hnc48 := NB225_230.out; have hcz49_0 : w46.cell? ⟨gb230, 0, none⟩ = some (.string (⟨#[]⟩ : ByteArray)) := (blk_cell BK230.out 0).trans rfl; have hcz49_1 : w46.cell? ⟨gb230, 1, none⟩ = some (.string (⟨#[]⟩ : ByteArray)) := (blk_cell BK230.out 1).trans rfl; have hfz49_0 := blk_frozen BK230.out 0; have hfz49_1 := blk_frozen BK230.out 1))
                                              have n0_ : Aside0 (((w46.setCell ⟨gb230, 0, none⟩ (.string t226)).setCell ⟨gb230, 1, none⟩ (.string t227)).heap[gb216]? = some (.cells #[.string a0_0, .string a0_1] 23 (0, 0))) := ⟨by (with_reducible repeat (first | refine blk_drewN ?_ _ | refine blk_drew ?_ | refine blk_alloc ?_ _)); refine blk_far ?_ NB216_230.out _; (with_reducible repeat (first | refine blk_drewN ?_ _ | refine blk_drew ?_ | refine blk_alloc ?_ _)); refine blk_far ?_ NB216_230.out _; (with_reducible repeat (first | refine blk_drewN ?_ _ | refine blk_drew ?_ | refine blk_alloc ?_ _)); exact BK216.out⟩
                                              have n1_ : Aside0 (((w46.setCell ⟨gb230, 0, none⟩ (.string t226)).setCell ⟨gb230, 1, none⟩ (.string t227)).heap[gb225]? = some (.cells #[.string t221, .string t222] 23 (0, 0))) := ⟨by (with_reducible repeat (first | refine blk_drewN ?_ _ | refine blk_drew ?_ | refine blk_alloc ?_ _)); refine blk_far ?_ NB225_230.out _; (with_reducible repeat (first | refine blk_drewN ?_ _ | refine blk_drew ?_ | refine blk_alloc ?_ _)); refine blk_far ?_ NB225_230.out _; (with_reducible repeat (first | refine blk_drewN ?_ _ | refine blk_drew ?_ | refine blk_alloc ?_ _)); exact BK225.out⟩
                                              have n2_ : Aside0 (((w46.setCell ⟨gb230, 0, none⟩ (.string t226)).setCell ⟨gb230, 1, none⟩ (.string t227)).heap[gb230]? = some (.cells #[.string t226, .string t227] 23 (0, 0))) := ⟨by (with_reducible repeat (first | refine blk_drewN ?_ _ | refine blk_drew ?_ | refine blk_alloc ?_ _)); refine blk_put (cs := #[.string t226, .string (⟨#[]⟩ : ByteArray)]) ?_ 1 _ rfl; (with_reducible repeat (first | refine blk_drewN ?_ _ | refine blk_drew ?_ | refine blk_alloc ?_ _)); refine blk_put (cs := #[.string (⟨#[]⟩ : ByteArray), .string (⟨#[]⟩ : ByteArray)]) ?_ 0 _ rfl; (with_reducible repeat (first | refine blk_drewN ?_ _ | refine blk_drew ?_ | refine blk_alloc ?_ _)); exact BK230.out⟩
                                              have n3_ : Aside0 (Below w.heap.size w ((w46.setCell ⟨gb230, 0, none⟩ (.string t226)).setCell ⟨gb230, 1, none⟩ (.string t227))) := ⟨by repeat (first | (with_reducible first | exact HB.out | apply below_alloc | apply pw_below_drewN | apply below_drew1 | refine below_set ?_ GE216.out | refine below_set ?_ GE225.out | refine below_set ?_ GE230.out) | exact HB.out)⟩
                                              (try clear BK216)
                                              (try clear BK225)
                                              (try clear BK230)
                                              (try clear HB)
                                              generalize ((w46.setCell ⟨gb230, 0, none⟩ (.string t226)).setCell ⟨gb230, 1, none⟩ (.string t227)) = w50 at n0_ n1_ n2_ n3_ ⊢
                                              have BK216 := n0_
                                              have BK225 := n1_
                                              have BK230 := n2_
                                              have HB := n3_
                                              clear n0_ n1_ n2_ n3_
                                              have n0_ := Aside0.mk (blk_drew BK216.out)
                                              have n1_ := Aside0.mk (blk_drew BK225.out)
                                              have n2_ := Aside0.mk (blk_drew BK230.out)
                                              have n3_ := Aside0.mk (below_drew1 HB.out)
                                              clear BK216
                                              clear BK225
                                              clear BK230
                                              clear HB
                                              have BK216 := n0_
                                              have BK225 := n1_
                                              have BK230 := n2_
                                              have HB := n3_
                                              clear n0_ n1_ n2_ n3_
                                              refine start_ (n := 51) (S := fun w' => w'.cell? ⟨gb225, 0, none⟩ = some (.string t221) ∧ w'.cell? ⟨gb225, 1, none⟩ = some (.string t222) ∧ w'.cell? ⟨gb216, 0, none⟩ = some (.string a0_0) ∧ w'.cell? ⟨gb216, 1, none⟩ = some (.string a0_1)) (ds := []) #[false, false, false, false, false, false, false, false, false, false, false, false, false, false, false, false, false, false, false, false, false, false, false, false, false, false, false, false, false, false, false, false, false, false, false, false, false, false, false, false, false, false, false, false, false, false, false, false, false, false, false] (by kernel_rfl) rfl rfl ⟨(blk_cell BK225.out 0).trans rfl, (blk_cell BK225.out 1).trans rfl, (blk_cell BK216.out 0).trans rfl, (blk_cell BK216.out 1).trans rfl⟩ (fun hHeld => ?_); refine with_tabW headgatelaw20_IpduBack.tab12 headgatelaw20_IpduBack.bits12 (fun HT_ HW_ => ?_)
                                              generalize w50.drew = w51 at BK216 BK225 BK230 HB hHeld ⊢
                                              refine pure_ (i := 0) (N := some 84) (v := ?_) (a' := ?_) #[true, false, false, false, false, false, false, false, false, false, false, false, false, false, false, false, false, false, false, false, false, false, false, false, false, false, false, false, false, false, false, false, false, false, false, false, false, false, false, false, false, false, false, false, false, false, false, false, false, false, false] rfl rfl (any_of HT_.out (by kernel_rfl)) (fun _ _ _ h => h) (Or.inl ⟨by rfl, ?_⟩) ?_ ?_
                                              rotate_left
                                              · intro w'
                                                go_simp
                                                with_reducible rfl
                                              rotate_left
                                              · simp only [Act.put, List.setIfInBounds_toArray, List.set_cons_zero, List.set_cons_succ, i64_w, i32_w]
                                                rfl
                                              refine pure_ (i := 1) (N := some 85) (v := ?_) (a' := ?_) #[true, true, false, false, false, false, false, false, false, false, false, false, false, false, false, false, false, false, false, false, false, false, false, false, false, false, false, false, false, false, false, false, false, false, false, false, false, false, false, false, false, false, false, false, false, false, false, false, false, false, false] rfl rfl (any_of HT_.out (by kernel_rfl)) (fun _ _ _ h => h) (Or.inl ⟨by rfl, ?_⟩) ?_ ?_
                                              rotate_left
                                              · intro w'
                                                go_simp
                                                with_reducible rfl
                                              rotate_left
                                              · simp only [Act.put, List.setIfInBounds_toArray, List.set_cons_zero, List.set_cons_succ, i64_w, i32_w]
                                                rfl
                                              refine pure_ (i := 2) (N := some 86) (v := ?_) (a' := ?_) #[true, true, true, false, false, false, false, false, false, false, false, false, false, false, false, false, false, false, false, false, false, false, false, false, false, false, false, false, false, false, false, false, false, false, false, false, false, false, false, false, false, false, false, false, false, false, false, false, false, false, false] rfl rfl (any_of HT_.out (by kernel_rfl)) (fun _ _ _ h => h) (Or.inl ⟨by rfl, ?_⟩) ?_ ?_
                                              rotate_left
                                              · intro w'
                                                go_simp
                                                with_reducible rfl
                                              rotate_left
                                              · simp only [Act.put, List.setIfInBounds_toArray, List.set_cons_zero, List.set_cons_succ, i64_w, i32_w]
                                                rfl
                                              refine pure_ (i := 3) (N := some 87) (v := ?_) (a' := ?_) #[true, true, true, true, false, false, false, false, false, false, false, false, false, false, false, false, false, false, false, false, false, false, false, false, false, false, false, false, false, false, false, false, false, false, false, false, false, false, false, false, false, false, false, false, false, false, false, false, false, false, false] rfl rfl (any_of HT_.out (by kernel_rfl)) (fun _ _ _ h => h) (Or.inl ⟨by rfl, ?_⟩) ?_ ?_
                                              rotate_left
                                              · intro w'
                                                go_simp
                                                with_reducible rfl
                                              rotate_left
                                              · simp only [Act.put, List.setIfInBounds_toArray, List.set_cons_zero, List.set_cons_succ, i64_w, i32_w]
                                                rfl
                                              refine pure_ (i := 4) (N := some 88) (v := ?_) (a' := ?_) #[true, true, true, true, true, false, false, false, false, false, false, false, false, false, false, false, false, false, false, false, false, false, false, false, false, false, false, false, false, false, false, false, false, false, false, false, false, false, false, false, false, false, false, false, false, false, false, false, false, false, false] rfl rfl (any_of HT_.out (by kernel_rfl)) (fun _ _ _ h => h) (Or.inl ⟨by rfl, ?_⟩) ?_ ?_
                                              rotate_left
                                              · intro w'
                                                go_simp
                                                with_reducible rfl
                                              rotate_left
                                              · simp only [Act.put, List.setIfInBounds_toArray, List.set_cons_zero, List.set_cons_succ, i64_w, i32_w]
                                                rfl
                                              refine pure_ (i := 5) (N := some 89) (v := ?_) (a' := ?_) #[true, true, true, true, true, true, false, false, false, false, false, false, false, false, false, false, false, false, false, false, false, false, false, false, false, false, false, false, false, false, false, false, false, false, false, false, false, false, false, false, false, false, false, false, false, false, false, false, false, false, false] rfl rfl (any_of HT_.out (by kernel_rfl)) (fun _ _ _ h => h) (Or.inl ⟨by rfl, ?_⟩) ?_ ?_
                                              rotate_left
                                              · intro w'
                                                go_simp
                                                with_reducible rfl
                                              rotate_left
                                              · simp only [Act.put, List.setIfInBounds_toArray, List.set_cons_zero, List.set_cons_succ, i64_w, i32_w]
                                                rfl
                                              refine pure_ (i := 6) (N := some 90) (v := ?_) (a' := ?_) #[true, true, true, true, true, true, true, false, false, false, false, false, false, false, false, false, false, false, false, false, false, false, false, false, false, false, false, false, false, false, false, false, false, false, false, false, false, false, false, false, false, false, false, false, false, false, false, false, false, false, false] rfl rfl (any_of HT_.out (by kernel_rfl)) (fun _ _ _ h => h) (Or.inl ⟨by rfl, ?_⟩) ?_ ?_
                                              rotate_left
                                              · intro w'
                                                go_simp
                                                with_reducible rfl
                                              rotate_left
                                              · simp only [Act.put, List.setIfInBounds_toArray, List.set_cons_zero, List.set_cons_succ, i64_w, i32_w]
                                                rfl
                                              refine pure_ (i := 7) (N := some 91) (v := ?_) (a' := ?_) #[true, true, true, true, true, true, true, true, false, false, false, false, false, false, false, false, false, false, false, false, false, false, false, false, false, false, false, false, false, false, false, false, false, false, false, false, false, false, false, false, false, false, false, false, false, false, false, false, false, false, false] rfl rfl (any_of HT_.out (by kernel_rfl)) (fun _ _ _ h => h) (Or.inl ⟨by rfl, ?_⟩) ?_ ?_
                                              rotate_left
                                              · intro w'
                                                go_simp
                                                with_reducible rfl
                                              rotate_left
                                              · simp only [Act.put, List.setIfInBounds_toArray, List.set_cons_zero, List.set_cons_succ, i64_w, i32_w]
                                                rfl
                                              refine pure_ (i := 8) (N := some 92) (v := ?_) (a' := ?_) #[true, true, true, true, true, true, true, true, true, false, false, false, false, false, false, false, false, false, false, false, false, false, false, false, false, false, false, false, false, false, false, false, false, false, false, false, false, false, false, false, false, false, false, false, false, false, false, false, false, false, false] rfl rfl (any_of HT_.out (by kernel_rfl)) (fun _ _ _ h => h) (Or.inl ⟨by rfl, ?_⟩) ?_ ?_
                                              rotate_left
                                              · intro w'
                                                go_simp
                                                with_reducible rfl
                                              rotate_left
                                              · simp only [Act.put, List.setIfInBounds_toArray, List.set_cons_zero, List.set_cons_succ, i64_w, i32_w]
                                                rfl
                                              refine pure_ (i := 9) (N := some 93) (v := ?_) (a' := ?_) #[true, true, true, true, true, true, true, true, true, true, false, false, false, false, false, false, false, false, false, false, false, false, false, false, false, false, false, false, false, false, false, false, false, false, false, false, false, false, false, false, false, false, false, false, false, false, false, false, false, false, false] rfl rfl (any_of HT_.out (by kernel_rfl)) (fun _ _ _ h => h) (Or.inl ⟨by rfl, ?_⟩) ?_ ?_
                                              rotate_left
                                              · intro w'
                                                go_simp
                                                with_reducible rfl
                                              rotate_left
                                              · simp only [Act.put, List.setIfInBounds_toArray, List.set_cons_zero, List.set_cons_succ, i64_w, i32_w]
                                                rfl
                                              refine pure_ (i := 11) (N := some 95) (v := ?_) (a' := ?_) #[true, true, true, true, true, true, true, true, true, true, false, true, false, false, false, false, false, false, false, false, false, false, false, false, false, false, false, false, false, false, false, false, false, false, false, false, false, false, false, false, false, false, false, false, false, false, false, false, false, false, false] rfl rfl (any_of HT_.out (by kernel_rfl)) (fun _ _ _ h => h) (Or.inl ⟨by rfl, ?_⟩) ?_ ?_
                                              rotate_left
                                              · intro w'
                                                go_simp
                                                with_reducible rfl
                                              rotate_left
                                              · simp only [Act.put, List.setIfInBounds_toArray, List.set_cons_zero, List.set_cons_succ, i64_w, i32_w]
                                                rfl
                                              refine take_ (i := 10) (N := some 94) (v := ?_) (a' := ?_) #[true, true, true, true, true, true, true, true, true, true, true, true, false, false, false, false, false, false, false, false, false, false, false, false, false, false, false, false, false, false, false, false, false, false, false, false, false, false, false, false, false, false, false, false, false, false, false, false, false, false, false] rfl rfl (take_ofW HT_.out HW_.out (by kernel_rfl)) (fun _ _ _ h => h) (Or.inl ⟨by rfl, ?_⟩) hHeld ?_ ?_
                                              rotate_left
                                              · rintro w' ⟨s0, s1, s2, s3⟩
                                                go_simp
                                                with_reducible rfl
                                              rotate_left
                                              · simp only [Act.put, List.setIfInBounds_toArray, List.set_cons_zero, List.set_cons_succ, i64_w, i32_w]
                                                rfl
                                              refine take_ (i := 12) (N := some 96) (v := ?_) (a' := ?_) #[true, true, true, true, true, true, true, true, true, true, true, true, true, false, false, false, false, false, false, false, false, false, false, false, false, false, false, false, false, false, false, false, false, false, false, false, false, false, false, false, false, false, false, false, false, false, false, false, false, false, false] rfl rfl (take_ofW HT_.out HW_.out (by kernel_rfl)) (fun _ _ _ h => h) (Or.inl ⟨by rfl, ?_⟩) hHeld ?_ ?_
                                              rotate_left
                                              · rintro w' ⟨s0, s1, s2, s3⟩
                                                go_simp
                                                with_reducible rfl
                                              rotate_left
                                              · simp only [Act.put, List.setIfInBounds_toArray, List.set_cons_zero, List.set_cons_succ, i64_w, i32_w]
                                                rfl
                                              refine pure_ (i := 13) (N := some 97) (v := ?_) (a' := ?_) #[true, true, true, true, true, true, true, true, true, true, true, true, true, true, false, false, false, false, false, false, false, false, false, false, false, false, false, false, false, false, false, false, false, false, false, false, false, false, false, false, false, false, false, false, false, false, false, false, false, false, false] rfl rfl (any_of HT_.out (by kernel_rfl)) (fun _ _ _ h => h) (Or.inl ⟨by rfl, ?_⟩) ?_ ?_
                                              rotate_left
                                              · intro w'
                                                go_simp
                                                with_reducible rfl
                                              rotate_left
                                              · simp only [Act.put, List.setIfInBounds_toArray, List.set_cons_zero, List.set_cons_succ, i64_w, i32_w]
                                                rfl
                                              refine pure_ (i := 14) (N := some 98) (v := ?_) (a' := ?_) #[true, true, true, true, true, true, true, true, true, true, true, true, true, true, true, false, false, false, false, false, false, false, false, false, false, false, false, false, false, false, false, false, false, false, false, false, false, false, false, false, false, false, false, false, false, false, false, false, false, false, false] rfl rfl (any_of HT_.out (by kernel_rfl)) (fun _ _ _ h => h) (Or.inl ⟨by rfl, ?_⟩) ?_ ?_
                                              rotate_left
                                              · intro w'
                                                go_simp
                                                with_reducible rfl
                                              rotate_left
                                              · simp only [Act.put, List.setIfInBounds_toArray, List.set_cons_zero, List.set_cons_succ, i64_w, i32_w]
                                                rfl
                                              refine pure_ (i := 15) (N := some 99) (v := ?_) (a' := ?_) #[true, true, true, true, true, true, true, true, true, true, true, true, true, true, true, true, false, false, false, false, false, false, false, false, false, false, false, false, false, false, false, false, false, false, false, false, false, false, false, false, false, false, false, false, false, false, false, false, false, false, false] rfl rfl (any_of HT_.out (by kernel_rfl)) (fun _ _ _ h => h) (Or.inl ⟨by rfl, ?_⟩) ?_ ?_
                                              rotate_left
                                              · intro w'
                                                go_simp
                                                with_reducible rfl
                                              rotate_left
                                              · simp only [Act.put, List.setIfInBounds_toArray, List.set_cons_zero, List.set_cons_succ, i64_w, i32_w]
                                                rfl
                                              refine pure_ (i := 16) (N := some 100) (v := ?_) (a' := ?_) #[true, true, true, true, true, true, true, true, true, true, true, true, true, true, true, true, true, false, false, false, false, false, false, false, false, false, false, false, false, false, false, false, false, false, false, false, false, false, false, false, false, false, false, false, false, false, false, false, false, false, false] rfl rfl (any_of HT_.out (by kernel_rfl)) (fun _ _ _ h => h) (Or.inl ⟨by rfl, ?_⟩) ?_ ?_
                                              rotate_left
                                              · intro w'
                                                go_simp
                                                with_reducible rfl
                                              rotate_left
                                              · simp only [Act.put, List.setIfInBounds_toArray, List.set_cons_zero, List.set_cons_succ, i64_w, i32_w]
                                                rfl
                                              refine take_ (i := 17) (N := some 101) (v := ?_) (a' := ?_) #[true, true, true, true, true, true, true, true, true, true, true, true, true, true, true, true, true, true, false, false, false, false, false, false, false, false, false, false, false, false, false, false, false, false, false, false, false, false, false, false, false, false, false, false, false, false, false, false, false, false, false] rfl rfl (take_ofW HT_.out HW_.out (by kernel_rfl)) (fun _ _ _ h => h) (Or.inl ⟨by rfl, ?_⟩) hHeld ?_ ?_
                                              rotate_left
                                              · rintro w' ⟨s0, s1, s2, s3⟩
                                                go_simp
                                                with_reducible rfl
                                              rotate_left
                                              · simp only [Act.put, List.setIfInBounds_toArray, List.set_cons_zero, List.set_cons_succ, i64_w, i32_w]
                                                rfl
                                              refine pure_ (i := 18) (N := some 102) (v := ?_) (a' := ?_) #[true, true, true, true, true, true, true, true, true, true, true, true, true, true, true, true, true, true, true, false, false, false, false, false, false, false, false, false, false, false, false, false, false, false, false, false, false, false, false, false, false, false, false, false, false, false, false, false, false, false, false] rfl rfl (any_of HT_.out (by kernel_rfl)) (fun _ _ _ h => h) (Or.inl ⟨by rfl, ?_⟩) ?_ ?_
                                              rotate_left
                                              · intro w'
                                                go_simp
                                                with_reducible rfl
                                              rotate_left
                                              · simp only [Act.put, List.setIfInBounds_toArray, List.set_cons_zero, List.set_cons_succ, i64_w, i32_w]
                                                rfl
                                              refine pure_ (i := 19) (N := some 103) (v := ?_) (a' := ?_) #[true, true, true, true, true, true, true, true, true, true, true, true, true, true, true, true, true, true, true, true, false, false, false, false, false, false, false, false, false, false, false, false, false, false, false, false, false, false, false, false, false, false, false, false, false, false, false, false, false, false, false] rfl rfl (any_of HT_.out (by kernel_rfl)) (fun _ _ _ h => h) (Or.inl ⟨by rfl, ?_⟩) ?_ ?_
                                              rotate_left
                                              · intro w'
                                                go_simp
                                                with_reducible rfl
                                              rotate_left
                                              · simp only [Act.put, List.setIfInBounds_toArray, List.set_cons_zero, List.set_cons_succ, i64_w, i32_w]
                                                rfl
                                              refine pure_ (i := 20) (N := some 104) (v := ?_) (a' := ?_) #[true, true, true, true, true, true, true, true, true, true, true, true, true, true, true, true, true, true, true, true, true, false, false, false, false, false, false, false, false, false, false, false, false, false, false, false, false, false, false, false, false, false, false, false, false, false, false, false, false, false, false] rfl rfl (any_of HT_.out (by kernel_rfl)) (fun _ _ _ h => h) (Or.inl ⟨by rfl, ?_⟩) ?_ ?_
                                              rotate_left
                                              · intro w'
                                                go_simp
                                                with_reducible rfl
                                              rotate_left
                                              · simp only [Act.put, List.setIfInBounds_toArray, List.set_cons_zero, List.set_cons_succ, i64_w, i32_w]
                                                rfl
                                              refine pure_ (i := 21) (N := some 105) (v := ?_) (a' := ?_) #[true, true, true, true, true, true, true, true, true, true, true, true, true, true, true, true, true, true, true, true, true, true, false, false, false, false, false, false, false, false, false, false, false, false, false, false, false, false, false, false, false, false, false, false, false, false, false, false, false, false, false] rfl rfl (any_of HT_.out (by kernel_rfl)) (fun _ _ _ h => h) (Or.inl ⟨by rfl, ?_⟩) ?_ ?_
                                              rotate_left
                                              · intro w'
                                                go_simp
                                                with_reducible rfl
                                              rotate_left
                                              · simp only [Act.put, List.setIfInBounds_toArray, List.set_cons_zero, List.set_cons_succ, i64_w, i32_w]
                                                rfl
                                              refine pure_ (i := 22) (N := some 106) (v := ?_) (a' := ?_) #[true, true, true, true, true, true, true, true, true, true, true, true, true, true, true, true, true, true, true, true, true, true, true, false, false, false, false, false, false, false, false, false, false, false, false, false, false, false, false, false, false, false, false, false, false, false, false, false, false, false, false] rfl rfl (any_of HT_.out (by kernel_rfl)) (fun _ _ _ h => h) (Or.inl ⟨by rfl, ?_⟩) ?_ ?_
                                              rotate_left
                                              · intro w'
                                                go_simp
                                                with_reducible rfl
                                              rotate_left
                                              · simp only [Act.put, List.setIfInBounds_toArray, List.set_cons_zero, List.set_cons_succ, i64_w, i32_w]
                                                rfl
                                              refine pure_ (i := 25) (N := some 109) (v := ?_) (a' := ?_) #[true, true, true, true, true, true, true, true, true, true, true, true, true, true, true, true, true, true, true, true, true, true, true, false, false, true, false, false, false, false, false, false, false, false, false, false, false, false, false, false, false, false, false, false, false, false, false, false, false, false, false] rfl rfl (any_of HT_.out (by kernel_rfl)) (fun _ _ _ h => h) (Or.inl ⟨by rfl, ?_⟩) ?_ ?_
                                              rotate_left
                                              · intro w'
                                                go_simp
                                                with_reducible rfl
                                              rotate_left
                                              · simp only [Act.put, List.setIfInBounds_toArray, List.set_cons_zero, List.set_cons_succ, i64_w, i32_w]
                                                rfl
                                              refine take_ (i := 23) (N := some 107) (v := ?_) (a' := ?_) #[true, true, true, true, true, true, true, true, true, true, true, true, true, true, true, true, true, true, true, true, true, true, true, true, false, true, false, false, false, false, false, false, false, false, false, false, false, false, false, false, false, false, false, false, false, false, false, false, false, false, false] rfl rfl (take_ofW HT_.out HW_.out (by kernel_rfl)) (fun _ _ _ h => h) (Or.inl ⟨by rfl, ?_⟩) hHeld ?_ ?_
                                              rotate_left
                                              · rintro w' ⟨s0, s1, s2, s3⟩
                                                go_simp
                                                with_reducible rfl
                                              rotate_left
                                              · simp only [Act.put, List.setIfInBounds_toArray, List.set_cons_zero, List.set_cons_succ, i64_w, i32_w]
                                                rfl
                                              refine pure_ (i := 24) (N := some 108) (v := ?_) (a' := ?_) #[true, true, true, true, true, true, true, true, true, true, true, true, true, true, true, true, true, true, true, true, true, true, true, true, true, true, false, false, false, false, false, false, false, false, false, false, false, false, false, false, false, false, false, false, false, false, false, false, false, false, false] rfl rfl (any_of HT_.out (by kernel_rfl)) (fun _ _ _ h => h) (Or.inl ⟨by rfl, ?_⟩) ?_ ?_
                                              rotate_left
                                              · intro w'
                                                go_simp
                                                with_reducible rfl
                                              rotate_left
                                              · simp only [Act.put, List.setIfInBounds_toArray, List.set_cons_zero, List.set_cons_succ, i64_w, i32_w]
                                                rfl
                                              refine take_ (i := 26) (N := some 110) (v := ?_) (a' := ?_) #[true, true, true, true, true, true, true, true, true, true, true, true, true, true, true, true, true, true, true, true, true, true, true, true, true, true, true, false, false, false, false, false, false, false, false, false, false, false, false, false, false, false, false, false, false, false, false, false, false, false, false] rfl rfl (take_ofW HT_.out HW_.out (by kernel_rfl)) (fun _ _ _ h => h) (Or.inl ⟨by rfl, ?_⟩) hHeld ?_ ?_
                                              rotate_left
                                              · rintro w' ⟨s0, s1, s2, s3⟩
                                                go_simp
                                                with_reducible rfl
                                              rotate_left
                                              · simp only [Act.put, List.setIfInBounds_toArray, List.set_cons_zero, List.set_cons_succ, i64_w, i32_w]
                                                rfl
                                              refine pure_ (i := 27) (N := some 111) (v := ?_) (a' := ?_) #[true, true, true, true, true, true, true, true, true, true, true, true, true, true, true, true, true, true, true, true, true, true, true, true, true, true, true, true, false, false, false, false, false, false, false, false, false, false, false, false, false, false, false, false, false, false, false, false, false, false, false] rfl rfl (any_of HT_.out (by kernel_rfl)) (fun _ _ _ h => h) (Or.inl ⟨by rfl, ?_⟩) ?_ ?_
                                              rotate_left
                                              · intro w'
                                                go_simp
                                                with_reducible rfl
                                              rotate_left
                                              · simp only [Act.put, List.setIfInBounds_toArray, List.set_cons_zero, List.set_cons_succ, i64_w, i32_w]
                                                rfl
                                              refine pure_ (i := 28) (N := some 112) (v := ?_) (a' := ?_) #[true, true, true, true, true, true, true, true, true, true, true, true, true, true, true, true, true, true, true, true, true, true, true, true, true, true, true, true, true, false, false, false, false, false, false, false, false, false, false, false, false, false, false, false, false, false, false, false, false, false, false] rfl rfl (any_of HT_.out (by kernel_rfl)) (fun _ _ _ h => h) (Or.inl ⟨by rfl, ?_⟩) ?_ ?_
                                              rotate_left
                                              · intro w'
                                                go_simp
                                                with_reducible rfl
                                              rotate_left
                                              · simp only [Act.put, List.setIfInBounds_toArray, List.set_cons_zero, List.set_cons_succ, i64_w, i32_w]
                                                rfl
                                              refine pure_ (i := 29) (N := some 113) (v := ?_) (a' := ?_) #[true, true, true, true, true, true, true, true, true, true, true, true, true, true, true, true, true, true, true, true, true, true, true, true, true, true, true, true, true, true, false, false, false, false, false, false, false, false, false, false, false, false, false, false, false, false, false, false, false, false, false] rfl rfl (any_of HT_.out (by kernel_rfl)) (fun _ _ _ h => h) (Or.inl ⟨by rfl, ?_⟩) ?_ ?_
                                              rotate_left
                                              · intro w'
                                                go_simp
                                                with_reducible rfl
                                              rotate_left
                                              · simp only [Act.put, List.setIfInBounds_toArray, List.set_cons_zero, List.set_cons_succ, i64_w, i32_w]
                                                rfl
                                              refine pure_ (i := 30) (N := some 114) (v := ?_) (a' := ?_) #[true, true, true, true, true, true, true, true, true, true, true, true, true, true, true, true, true, true, true, true, true, true, true, true, true, true, true, true, true, true, true, false, false, false, false, false, false, false, false, false, false, false, false, false, false, false, false, false, false, false, false] rfl rfl (any_of HT_.out (by kernel_rfl)) (fun _ _ _ h => h) (Or.inl ⟨by rfl, ?_⟩) ?_ ?_
                                              rotate_left
                                              · intro w'
                                                go_simp
                                                with_reducible rfl
                                              rotate_left
                                              · simp only [Act.put, List.setIfInBounds_toArray, List.set_cons_zero, List.set_cons_succ, i64_w, i32_w]
                                                rfl
                                              refine pure_ (i := 31) (N := some 115) (v := ?_) (a' := ?_) #[true, true, true, true, true, true, true, true, true, true, true, true, true, true, true, true, true, true, true, true, true, true, true, true, true, true, true, true, true, true, true, true, false, false, false, false, false, false, false, false, false, false, false, false, false, false, false, false, false, false, false] rfl rfl (any_of HT_.out (by kernel_rfl)) (fun _ _ _ h => h) (Or.inl ⟨by rfl, ?_⟩) ?_ ?_
                                              rotate_left
                                              · intro w'
                                                go_simp
                                                with_reducible rfl
                                              rotate_left
                                              · simp only [Act.put, List.setIfInBounds_toArray, List.set_cons_zero, List.set_cons_succ, i64_w, i32_w]
                                                rfl
                                              refine pure_ (i := 34) (N := some 118) (v := ?_) (a' := ?_) #[true, true, true, true, true, true, true, true, true, true, true, true, true, true, true, true, true, true, true, true, true, true, true, true, true, true, true, true, true, true, true, true, false, false, true, false, false, false, false, false, false, false, false, false, false, false, false, false, false, false, false] rfl rfl (any_of HT_.out (by kernel_rfl)) (fun _ _ _ h => h) (Or.inl ⟨by rfl, ?_⟩) ?_ ?_
                                              rotate_left
                                              · intro w'
                                                go_simp
                                                with_reducible rfl
                                              rotate_left
                                              · simp only [Act.put, List.setIfInBounds_toArray, List.set_cons_zero, List.set_cons_succ, i64_w, i32_w]
                                                rfl
                                              refine take_ (i := 32) (N := some 116) (v := ?_) (a' := ?_) #[true, true, true, true, true, true, true, true, true, true, true, true, true, true, true, true, true, true, true, true, true, true, true, true, true, true, true, true, true, true, true, true, true, false, true, false, false, false, false, false, false, false, false, false, false, false, false, false, false, false, false] rfl rfl (take_ofW HT_.out HW_.out (by kernel_rfl)) (fun _ _ _ h => h) (Or.inl ⟨by rfl, ?_⟩) hHeld ?_ ?_
                                              rotate_left
                                              · rintro w' ⟨s0, s1, s2, s3⟩
                                                go_simp
                                                with_reducible rfl
                                              rotate_left
                                              · simp only [Act.put, List.setIfInBounds_toArray, List.set_cons_zero, List.set_cons_succ, i64_w, i32_w]
                                                rfl
                                              refine pure_ (i := 33) (N := some 117) (v := ?_) (a' := ?_) #[true, true, true, true, true, true, true, true, true, true, true, true, true, true, true, true, true, true, true, true, true, true, true, true, true, true, true, true, true, true, true, true, true, true, true, false, false, false, false, false, false, false, false, false, false, false, false, false, false, false, false] rfl rfl (any_of HT_.out (by kernel_rfl)) (fun _ _ _ h => h) (Or.inl ⟨by rfl, ?_⟩) ?_ ?_
                                              rotate_left
                                              · intro w'
                                                go_simp
                                                with_reducible rfl
                                              rotate_left
                                              · simp only [Act.put, List.setIfInBounds_toArray, List.set_cons_zero, List.set_cons_succ, i64_w, i32_w]
                                                rfl
                                              refine take_ (i := 35) (N := some 119) (v := ?_) (a' := ?_) #[true, true, true, true, true, true, true, true, true, true, true, true, true, true, true, true, true, true, true, true, true, true, true, true, true, true, true, true, true, true, true, true, true, true, true, true, false, false, false, false, false, false, false, false, false, false, false, false, false, false, false] rfl rfl (take_ofW HT_.out HW_.out (by kernel_rfl)) (fun _ _ _ h => h) (Or.inl ⟨by rfl, ?_⟩) hHeld ?_ ?_
                                              rotate_left
                                              · rintro w' ⟨s0, s1, s2, s3⟩
                                                go_simp
                                                with_reducible rfl
                                              rotate_left
                                              · simp only [Act.put, List.setIfInBounds_toArray, List.set_cons_zero, List.set_cons_succ, i64_w, i32_w]
                                                rfl
                                              refine pure_ (i := 36) (N := some 120) (v := ?_) (a' := ?_) #[true, true, true, true, true, true, true, true, true, true, true, true, true, true, true, true, true, true, true, true, true, true, true, true, true, true, true, true, true, true, true, true, true, true, true, true, true, false, false, false, false, false, false, false, false, false, false, false, false, false, false] rfl rfl (any_of HT_.out (by kernel_rfl)) (fun _ _ _ h => h) (Or.inl ⟨by rfl, ?_⟩) ?_ ?_
                                              rotate_left
                                              · intro w'
                                                go_simp
                                                with_reducible rfl
                                              rotate_left
                                              · simp only [Act.put, List.setIfInBounds_toArray, List.set_cons_zero, List.set_cons_succ, i64_w, i32_w]
                                                rfl
                                              refine pure_ (i := 37) (N := some 121) (v := ?_) (a' := ?_) #[true, true, true, true, true, true, true, true, true, true, true, true, true, true, true, true, true, true, true, true, true, true, true, true, true, true, true, true, true, true, true, true, true, true, true, true, true, true, false, false, false, false, false, false, false, false, false, false, false, false, false] rfl rfl (any_of HT_.out (by kernel_rfl)) (fun _ _ _ h => h) (Or.inl ⟨by rfl, ?_⟩) ?_ ?_
                                              rotate_left
                                              · intro w'
                                                go_simp
                                                with_reducible rfl
                                              rotate_left
                                              · simp only [Act.put, List.setIfInBounds_toArray, List.set_cons_zero, List.set_cons_succ, i64_w, i32_w]
                                                rfl
                                              refine pure_ (i := 38) (N := some 122) (v := ?_) (a' := ?_) #[true, true, true, true, true, true, true, true, true, true, true, true, true, true, true, true, true, true, true, true, true, true, true, true, true, true, true, true, true, true, true, true, true, true, true, true, true, true, true, false, false, false, false, false, false, false, false, false, false, false, false] rfl rfl (any_of HT_.out (by kernel_rfl)) (fun _ _ _ h => h) (Or.inl ⟨by rfl, ?_⟩) ?_ ?_
                                              rotate_left
                                              · intro w'
                                                go_simp
                                                with_reducible rfl
                                              rotate_left
                                              · simp only [Act.put, List.setIfInBounds_toArray, List.set_cons_zero, List.set_cons_succ, i64_w, i32_w]
                                                rfl
                                              refine pure_ (i := 39) (N := some 123) (v := ?_) (a' := ?_) #[true, true, true, true, true, true, true, true, true, true, true, true, true, true, true, true, true, true, true, true, true, true, true, true, true, true, true, true, true, true, true, true, true, true, true, true, true, true, true, true, false, false, false, false, false, false, false, false, false, false, false] rfl rfl (any_of HT_.out (by kernel_rfl)) (fun _ _ _ h => h) (Or.inl ⟨by rfl, ?_⟩) ?_ ?_
                                              rotate_left
                                              · intro w'
                                                go_simp
                                                with_reducible rfl
                                              rotate_left
                                              · simp only [Act.put, List.setIfInBounds_toArray, List.set_cons_zero, List.set_cons_succ, i64_w, i32_w]
                                                rfl
                                              refine pure_ (i := 40) (N := some 124) (v := ?_) (a' := ?_) #[true, true, true, true, true, true, true, true, true, true, true, true, true, true, true, true, true, true, true, true, true, true, true, true, true, true, true, true, true, true, true, true, true, true, true, true, true, true, true, true, true, false, false, false, false, false, false, false, false, false, false] rfl rfl (any_of HT_.out (by kernel_rfl)) (fun _ _ _ h => h) (Or.inl ⟨by rfl, ?_⟩) ?_ ?_
                                              rotate_left
                                              · intro w'
                                                go_simp
                                                with_reducible rfl
                                              rotate_left
                                              · simp only [Act.put, List.setIfInBounds_toArray, List.set_cons_zero, List.set_cons_succ, i64_w, i32_w]
                                                rfl
                                              refine pure_ (i := 41) (N := some 125) (v := ?_) (a' := ?_) #[true, true, true, true, true, true, true, true, true, true, true, true, true, true, true, true, true, true, true, true, true, true, true, true, true, true, true, true, true, true, true, true, true, true, true, true, true, true, true, true, true, true, false, false, false, false, false, false, false, false, false] rfl rfl (any_of HT_.out (by kernel_rfl)) (fun _ _ _ h => h) (Or.inl ⟨by rfl, ?_⟩) ?_ ?_
                                              rotate_left
                                              · intro w'
                                                go_simp
                                                with_reducible rfl
                                              rotate_left
                                              · simp only [Act.put, List.setIfInBounds_toArray, List.set_cons_zero, List.set_cons_succ, i64_w, i32_w]
                                                rfl
                                              refine pure_ (i := 42) (N := some 126) (v := ?_) (a' := ?_) #[true, true, true, true, true, true, true, true, true, true, true, true, true, true, true, true, true, true, true, true, true, true, true, true, true, true, true, true, true, true, true, true, true, true, true, true, true, true, true, true, true, true, true, false, false, false, false, false, false, false, false] rfl rfl (any_of HT_.out (by kernel_rfl)) (fun _ _ _ h => h) (Or.inl ⟨by rfl, ?_⟩) ?_ ?_
                                              rotate_left
                                              · intro w'
                                                go_simp
                                                with_reducible rfl
                                              rotate_left
                                              · simp only [Act.put, List.setIfInBounds_toArray, List.set_cons_zero, List.set_cons_succ, i64_w, i32_w]
                                                rfl
                                              refine pure_ (i := 43) (N := some 127) (v := ?_) (a' := ?_) #[true, true, true, true, true, true, true, true, true, true, true, true, true, true, true, true, true, true, true, true, true, true, true, true, true, true, true, true, true, true, true, true, true, true, true, true, true, true, true, true, true, true, true, true, false, false, false, false, false, false, false] rfl rfl (any_of HT_.out (by kernel_rfl)) (fun _ _ _ h => h) (Or.inl ⟨by rfl, ?_⟩) ?_ ?_
                                              rotate_left
                                              · intro w'
                                                go_simp
                                                with_reducible rfl
                                              rotate_left
                                              · simp only [Act.put, List.setIfInBounds_toArray, List.set_cons_zero, List.set_cons_succ, i64_w, i32_w]
                                                rfl
                                              refine pure_ (i := 44) (N := some 128) (v := ?_) (a' := ?_) #[true, true, true, true, true, true, true, true, true, true, true, true, true, true, true, true, true, true, true, true, true, true, true, true, true, true, true, true, true, true, true, true, true, true, true, true, true, true, true, true, true, true, true, true, true, false, false, false, false, false, false] rfl rfl (any_of HT_.out (by kernel_rfl)) (fun _ _ _ h => h) (Or.inl ⟨by rfl, ?_⟩) ?_ ?_
                                              rotate_left
                                              · intro w'
                                                go_simp
                                                with_reducible rfl
                                              rotate_left
                                              · simp only [Act.put, List.setIfInBounds_toArray, List.set_cons_zero, List.set_cons_succ, i64_w, i32_w]
                                                rfl
                                              refine pure_ (i := 45) (N := some 129) (v := ?_) (a' := ?_) #[true, true, true, true, true, true, true, true, true, true, true, true, true, true, true, true, true, true, true, true, true, true, true, true, true, true, true, true, true, true, true, true, true, true, true, true, true, true, true, true, true, true, true, true, true, true, false, false, false, false, false] rfl rfl (any_of HT_.out (by kernel_rfl)) (fun _ _ _ h => h) (Or.inl ⟨by rfl, ?_⟩) ?_ ?_
                                              rotate_left
                                              · intro w'
                                                go_simp
                                                with_reducible rfl
                                              rotate_left
                                              · simp only [Act.put, List.setIfInBounds_toArray, List.set_cons_zero, List.set_cons_succ, i64_w, i32_w]
                                                rfl
                                              refine pure_ (i := 46) (N := some 130) (v := ?_) (a' := ?_) #[true, true, true, true, true, true, true, true, true, true, true, true, true, true, true, true, true, true, true, true, true, true, true, true, true, true, true, true, true, true, true, true, true, true, true, true, true, true, true, true, true, true, true, true, true, true, true, false, false, false, false] rfl rfl (any_of HT_.out (by kernel_rfl)) (fun _ _ _ h => h) (Or.inl ⟨by rfl, ?_⟩) ?_ ?_
                                              rotate_left
                                              · intro w'
                                                go_simp
                                                with_reducible rfl
                                              rotate_left
                                              · simp only [Act.put, List.setIfInBounds_toArray, List.set_cons_zero, List.set_cons_succ, i64_w, i32_w]
                                                rfl
                                              refine pure_ (i := 47) (N := some 131) (v := ?_) (a' := ?_) #[true, true, true, true, true, true, true, true, true, true, true, true, true, true, true, true, true, true, true, true, true, true, true, true, true, true, true, true, true, true, true, true, true, true, true, true, true, true, true, true, true, true, true, true, true, true, true, true, false, false, false] rfl rfl (any_of HT_.out (by kernel_rfl)) (fun _ _ _ h => h) (Or.inl ⟨by rfl, ?_⟩) ?_ ?_
                                              rotate_left
                                              · intro w'
                                                go_simp
                                                with_reducible rfl
                                              rotate_left
                                              · simp only [Act.put, List.setIfInBounds_toArray, List.set_cons_zero, List.set_cons_succ, i64_w, i32_w]
                                                rfl
                                              refine one_ (i := 48) (N := some 132) #[true, true, true, true, true, true, true, true, true, true, true, true, true, true, true, true, true, true, true, true, true, true, true, true, true, true, true, true, true, true, true, true, true, true, true, true, true, true, true, true, true, true, true, true, true, true, true, true, true, false, false] rfl rfl (one_of HT_.out (by kernel_rfl)) (by decide) (fun K hK => ?_)
                                              refine goes_ Tryd.func9 (by kernel_rfl) rfl #[] (by rfl) rfl rfl (by (try simp only [List.map_toArray, List.map_cons, List.map_nil]); first | done | rfl | (simp only [List.length_drop, List.length_take]; rfl)) ?_
                                              with_reducible refine (headgatelaw20_wakes.calls kj3  t231 _ ?side1 A38.out).mono ?_
                                              (case side1 => first | ((refine Glob.keep HG.out ?_); (repeat (first | (with_reducible first | exact HB.out | apply below_alloc | apply pw_below_drewN | apply below_drew1 | refine below_set ?_ GE216.out | refine below_set ?_ GE225.out | refine below_set ?_ GE230.out) | exact HB.out)); done) | exact HG.out)
                                              rintro e w52 ⟨rfl, hb⟩
                                              refine ⟨_, rfl, ?_⟩
                                              have n0_ := Aside0.mk (blk_below (g := gb216) (o := .cells #[.string a0_0, .string a0_1] 23 (0, 0)) (by (with_reducible repeat (first | refine blk_drewN ?_ _ | refine blk_drew ?_ | refine blk_alloc ?_ _)); exact BK216.out) hb)
                                              have n1_ := Aside0.mk (blk_below (g := gb225) (o := .cells #[.string t221, .string t222] 23 (0, 0)) (by (with_reducible repeat (first | refine blk_drewN ?_ _ | refine blk_drew ?_ | refine blk_alloc ?_ _)); exact BK225.out) hb)
                                              have n2_ := Aside0.mk (blk_below (g := gb230) (o := .cells #[.string t226, .string t227] 23 (0, 0)) (by (with_reducible repeat (first | refine blk_drewN ?_ _ | refine blk_drew ?_ | refine blk_alloc ?_ _)); exact BK230.out) hb)
                                              have n3_ := Aside0.mk (below_step (by repeat (first | (with_reducible first | exact HB.out | apply below_alloc | apply pw_below_drewN | apply below_drew1 | refine below_set ?_ GE216.out | refine below_set ?_ GE225.out | refine below_set ?_ GE230.out) | exact HB.out)) hb)
                                              clear BK216
                                              clear BK225
                                              clear BK230
                                              clear HB
                                              have BK216 := n0_
                                              have BK225 := n1_
                                              have BK230 := n2_
                                              have HB := n3_
                                              clear n0_ n1_ n2_ n3_
                                              (try clear hb)
                                              (try clear hb2)
                                              (try clear hk)
                                              (try clear hi)
                                              refine hK.out _ _ ⟨(blk_cell BK225.out 0).trans rfl, (blk_cell BK225.out 1).trans rfl, (blk_cell BK216.out 0).trans rfl, (blk_cell BK216.out 1).trans rfl⟩ (fun hHeld => ?_)
                                              clear hK K
                                              refine norm_ (a' := ?_) ?_ ?_
                                              rotate_left
                                              · show Act.put _ (some 132) _ = _
                                                simp only [Act.put, List.setIfInBounds_toArray, List.set_cons_zero, List.set_cons_succ, i64_w, i32_w]
                                                rfl
                                              refine pure_ (i := 49) (N := some 133) (v := ?_) (a' := ?_) #[true, true, true, true, true, true, true, true, true, true, true, true, true, true, true, true, true, true, true, true, true, true, true, true, true, true, true, true, true, true, true, true, true, true, true, true, true, true, true, true, true, true, true, true, true, true, true, true, true, true, false] rfl rfl (any_of HT_.out (by kernel_rfl)) (fun _ _ _ h => h) (Or.inl ⟨by rfl, ?_⟩) ?_ ?_
                                              rotate_left
                                              · intro w'
                                                go_simp
                                                with_reducible rfl
                                              rotate_left
                                              · simp only [Act.put, List.setIfInBounds_toArray, List.set_cons_zero, List.set_cons_succ, i64_w, i32_w]
                                                rfl
                                              refine pure_ (i := 50) (N := some 6) (v := ?_) (a' := ?_) #[true, true, true, true, true, true, true, true, true, true, true, true, true, true, true, true, true, true, true, true, true, true, true, true, true, true, true, true, true, true, true, true, true, true, true, true, true, true, true, true, true, true, true, true, true, true, true, true, true, true, true] rfl rfl (any_of HT_.out (by kernel_rfl)) (fun _ _ _ h => h) (Or.inl ⟨by rfl, ?_⟩) ?_ ?_
                                              rotate_left
                                              · intro w'
                                                go_simp
                                                with_reducible rfl
                                              rotate_left
                                              · simp only [Act.put, List.setIfInBounds_toArray, List.set_cons_zero, List.set_cons_succ, i64_w, i32_w]
                                                rfl
                                              refine done_ (done_of HT_.out (by kernel_rfl)) ?_
                                              try go_wp2
                                              go_ret
                                              exact ⟨by first | rfl | (simp [errW_none, errW_some] <;> rfl) | (simp only [← hji20]; first | rfl | (simp [errW_none, errW_some] <;> rfl)) | (simp [*, errW_none, errW_some] <;> rfl), by repeat (first | (with_reducible first | exact HB.out | apply below_alloc | apply pw_below_drewN | apply below_drew1 | refine below_set ?_ GE216.out | refine below_set ?_ GE225.out | refine below_set ?_ GE230.out) | exact HB.out)⟩
                                            · rw [if_neg c37] at H
                                              have c37b0 : (t229 == 0) = false := beq_eq_false_iff_ne.mpr c37
                                              have c37b1 : (t229 != 0) = true := bne_iff_ne.mpr c37
                                              exact absurd ((Option.some.inj H).trans HT0.out) (by decide)
                                          · rw [if_neg c36] at H
                                            have c36b0 : (t228 == 0) = false := beq_eq_false_iff_ne.mpr c36
                                            have c36b1 : (t228 != 0) = true := bne_iff_ne.mpr c36
                                            exact absurd ((Option.some.inj H).trans HT0.out) (by decide)
                                        · rw [if_neg c35] at H
                                          have c35b0 : ((t221.extract 8 t221.size).toList == (a0_0.extract 8 a0_0.size).toList) = false := beq_eq_false_iff_ne.mpr c35
                                          have c35b1 : ((t221.extract 8 t221.size).toList != (a0_0.extract 8 a0_0.size).toList) = true := bne_iff_ne.mpr c35
                                          exact absurd ((Option.some.inj H).trans HT0.out) (by decide)
                                      · rw [if_neg c34] at H
                                        exact absurd H (by simp)
                                    · rw [if_neg c33] at H
                                      exact absurd H (by simp)
                                  · rw [if_neg c32] at H
                                    have c32b0 : ((t221.extract 0 5).toList == (a0_0.extract 0 5).toList) = false := beq_eq_false_iff_ne.mpr c32
                                    have c32b1 : ((t221.extract 0 5).toList != (a0_0.extract 0 5).toList) = true := bne_iff_ne.mpr c32
                                    exact absurd ((Option.some.inj H).trans HT0.out) (by decide)
                                · rw [if_neg c31] at H
                                  exact absurd H (by simp)
                              · rw [if_neg c29] at H
                                exact absurd H (by simp)
                            · rw [if_neg c28] at H
                              exact absurd H (by simp)
                          · rw [if_neg c27] at H
                            have c27b0 : ((t221.size : Int) == 48) = false := beq_eq_false_iff_ne.mpr c27
                            have c27b1 : ((t221.size : Int) != 48) = true := bne_iff_ne.mpr c27
                            exact absurd ((Option.some.inj H).trans HT0.out) (by decide)
                        · rw [if_neg c26] at H
                          have c26b0 : (t222.toList == a0_1.toList) = false := beq_eq_false_iff_ne.mpr c26
                          have c26b1 : (t222.toList != a0_1.toList) = true := bne_iff_ne.mpr c26
                          exact absurd ((Option.some.inj H).trans HT0.out) (by decide)
                      · rw [if_neg c25] at H
                        have c25b0 : (t223 == (t218.size : Int)) = false := beq_eq_false_iff_ne.mpr c25
                        have c25b1 : (t223 != (t218.size : Int)) = true := bne_iff_ne.mpr c25
                        exact absurd ((Option.some.inj H).trans HT0.out) (by decide)
                    · rw [if_neg c24] at H
                      have c24b0 : (t224 == 0) = false := beq_eq_false_iff_ne.mpr c24
                      have c24b1 : (t224 != 0) = true := bne_iff_ne.mpr c24
                      exact absurd ((Option.some.inj H).trans HT0.out) (by decide)
                  · rw [if_neg c22] at H
                    exact absurd H (by simp)
                · rw [if_neg c21] at H
                  exact absurd H (by simp)
            · rw [if_neg c17] at H
              exact absurd H (by simp)
        · rw [if_neg c15] at H
          have c15b0 : (t219 == 0) = false := beq_eq_false_iff_ne.mpr c15
          have c15b1 : (t219 != 0) = true := bne_iff_ne.mpr c15
          by_cases c53 : t218.toList = ([] : List UInt8)
          · rw [if_pos c53] at H
            have c53b0 : (t218.toList == ([] : List UInt8)) = true := beq_iff_eq.mpr c53
            have c53b1 : (t218.toList != ([] : List UInt8)) = false := bne_eq_false_iff_eq.mpr c53
            (try (have c53b2 : (t218 = ByteArray.empty) = True := eq_true (by have h_ := c53; rw [ByteArray.toList_eq] at h_; exact ByteArray.ext (Array.toList_eq_nil_iff.mp h_))))
            clear c53
            replace H := Option.bind_eq_some_iff.mp H
            obtain ⟨t220, A540, H⟩ := H
            replace H : (some t220) = some r := H
            have A54 := Aside0.mk A540
            clear A540
            obtain rfl := Option.some.inj H
            have hcz55_0 : wc.cell? ⟨gb216, 0, none⟩ = some (.string a0_0) := (blk_cell BK216.out 0).trans rfl
            have hcz55_1 : wc.cell? ⟨gb216, 1, none⟩ = some (.string a0_1) := (blk_cell BK216.out 1).trans rfl
            have hfz55_0 := blk_frozen BK216.out 0
            have hfz55_1 := blk_frozen BK216.out 1
            go_wp2_with (first | ((with_reducible refine gate_callee (f := 10) rfl ?_); refine goesL_ (some 45) rfl rfl Tryd.func10 (by kernel_rfl) rfl #[.agg #[.string a0_0, .string a0_1], .bool ((Int.tmod a2 2) == 0), .bool ((Int.tmod (wrap64 (Int.tdiv a2 2)) 2) == 0)] rfl (by (try simp only [List.map_toArray, List.map_cons, List.map_nil]); first | done | rfl | (simp only [List.length_drop, List.length_take]; rfl)) ?_; (with_reducible refine (ipdu_Put.calls kj3 a0_0 a0_1 ((Int.tmod a2 2) == 0) ((Int.tmod (wrap64 (Int.tdiv a2 2)) 2) == 0) t218 t219 _ ?side1 A14.out).mono ?_); (case side1 => first | ((refine Glob.keep HG.out ?_); (repeat (first | (with_reducible first | exact HB.out | apply below_alloc | apply pw_below_drewN | apply below_drew1 | refine below_set ?_ GE216.out) | exact HB.out)); done) | exact HG.out); rintro e w56 ⟨rfl, hb⟩; refine ⟨_, rfl, ?_⟩; have n0_ := Aside0.mk (blk_below (g := gb216) (o := .cells #[.string a0_0, .string a0_1] 23 (0, 0)) (by (with_reducible repeat (first | refine blk_drewN ?_ _ | refine blk_drew ?_ | refine blk_alloc ?_ _)); exact BK216.out) hb); have n1_ := Aside0.mk (below_step (by repeat (first | (with_reducible first | exact HB.out | apply below_alloc | apply pw_below_drewN | apply below_drew1 | refine below_set ?_ GE216.out) | exact HB.out)) hb); clear BK216; clear HB; have BK216 := n0_; have HB := n1_; clear n0_ n1_; (try clear hb); (try clear hb2); (try clear hk); (try clear hi)) | (go_at_call 9; (with_reducible refine (headgatelaw20_wakes.calls kj3  t220 _ ?side1 A54.out).mono ?_); (case side1 => first | ((refine Glob.keep HG.out ?_); (repeat (first | (with_reducible first | exact HB.out | apply below_alloc | apply pw_below_drewN | apply below_drew1 | refine below_set ?_ GE216.out) | exact HB.out)); done) | exact HG.out); rintro e w57 ⟨rfl, hb⟩; have n0_ := Aside0.mk (blk_below (g := gb216) (o := .cells #[.string a0_0, .string a0_1] 23 (0, 0)) (by (with_reducible repeat (first | refine blk_drewN ?_ _ | refine blk_drew ?_ | refine blk_alloc ?_ _)); exact BK216.out) hb); have n1_ := Aside0.mk (below_step (by repeat (first | (with_reducible first | exact HB.out | apply below_alloc | apply pw_below_drewN | apply below_drew1 | refine below_set ?_ GE216.out) | exact HB.out)) hb); clear BK216; clear HB; have BK216 := n0_; have HB := n1_; clear n0_ n1_; (try clear hb); (try clear hb2); (try clear hk); (try clear hi)))
            go_ret
            exact ⟨by first | rfl | (simp [errW_none, errW_some] <;> rfl) | (simp [*, errW_none, errW_some] <;> rfl), by repeat (first | (with_reducible first | exact HB.out | apply below_alloc | apply pw_below_drewN | apply below_drew1 | refine below_set ?_ GE216.out) | exact HB.out)⟩
          · rw [if_neg c53] at H
            have c53b0 : (t218.toList == ([] : List UInt8)) = false := beq_eq_false_iff_ne.mpr c53
            have c53b1 : (t218.toList != ([] : List UInt8)) = true := bne_iff_ne.mpr c53
            (try (have c53b2 : (t218 = ByteArray.empty) = False := eq_false (fun h_ => c53 (by rw [h_, ByteArray.toList_eq]; rfl))))
            exact absurd ((Option.some.inj H).trans HT0.out) (by decide)

-- NOT PRINTED: function 6 (headgatelaw20_IpduTurned)

end Go.Proofs.YtcghbicjhngedaaDoor.P
