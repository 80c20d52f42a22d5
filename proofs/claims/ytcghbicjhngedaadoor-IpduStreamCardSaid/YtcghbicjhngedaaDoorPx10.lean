-- written by this session's patched copy of the printer (wip/tools/patch_print.py); Lean checks it
import Derived.Test.YtcghbicjhngedaaDoorPx0
import Derived.Test.YtcghbicjhngedaaDoorPx2
import Derived.Test.YtcghbicjhngedaaDoorPx3
import Derived.Test.YtcghbicjhngedaaDoorPx4
namespace Go.Proofs.YtcghbicjhngedaaDoor.P
open Go.RowKit Go.Proofs.YtcghbicjhngedaaDoorW.PrintWords Go.Proofs.YtcghbicjhngedaaDoorW.PrintLast Go.Proofs.YtcghbicjhngedaaDoorW.PrintMore
attribute [local go_sem] max2_int min2_int max_two min_two max_three min_three max_four min_four   -- for this text's walks alone
set_option linter.unusedVariables false
set_option linter.unusedSimpArgs false

/-! ### headgatelaw20_IpduStream: function 7 -/
mutual
def headgatelaw20_IpduStream.l0 : Nat → List (S23) → Bool → Bool → ByteArray → List (S23) → Int → Option (Bool)
  | 0, _, _, _, _, _, _ => none
  | k + 1, x0, x1, x2, x7, x8, x9 => if x9 < (x0.length : Int) then (if 0 ≤ x9 then (if (((rd_T23 x0 x9).f0).size : Int) > 20000 then (headgatelaw20_IpduStream.j1 k x0 x1 x2 x7 x8 x9 true) else (headgatelaw20_IpduStream.j1 k x0 x1 x2 x7 x8 x9 (decide ((((rd_T23 x0 x9).f1).size : Int) > 2000)))) else (none)) else (headgatelaw20_IpduStream.l1 k x1 x2 x7 x8 0)
def headgatelaw20_IpduStream.j1 : Nat → List (S23) → Bool → Bool → ByteArray → List (S23) → Int → Bool → Option (Bool)
  | 0, _, _, _, _, _, _, _ => none
  | k + 1, x0, x1, x2, x7, x8, x9, x41 => if x41 = true then ((headgatelaw20_wakes.f k).bind fun t240 => (some t240)) else (if 0 ≤ x9 then (if x9 < (x0.length : Int) then ((ipdu_Put.f k ((rd_T23 x0 x9).f0) ((rd_T23 x0 x9).f1) x1 x2).bind fun bt242 => (if bt242.2 = 0 then (if x7.size + bt242.1.size ≤ 9223372036854775807 then (if x8.length < 4398046511104 then (headgatelaw20_IpduStream.l0 k x0 x1 x2 (x7 ++ bt242.1) (x8 ++ [(⟨(rd_T23 x0 x9).f0, (rd_T23 x0 x9).f1⟩ : S23)]) (wrap64 (x9 + 1))) else (none)) else (none)) else (headgatelaw20_IpduStream.l0 k x0 x1 x2 x7 x8 (wrap64 (x9 + 1))))) else (none)) else (none))
def headgatelaw20_IpduStream.l1 : Nat → Bool → Bool → ByteArray → List (S23) → Int → Option (Bool)
  | 0, _, _, _, _, _ => none
  | k + 1, x1, x2, x7, x8, x12 => if x12 < (x8.length : Int) then ((ipdu_Get.f k x7 x1 x2).bind fun bt248 => (if bt248.2.2.2 = 0 then (if bt248.2.2.1 < 48 then (some false) else (if bt248.2.2.1 > (x7.size : Int) then (some false) else (if 0 ≤ x12 then (if bt248.2.1.toList = ((rd_T23 x8 x12).f1).toList then (if 8 ≤ (bt248.1.size : Int) then (if 8 ≤ (((rd_T23 x8 x12).f0).size : Int) then (if (bt248.1.extract 8 bt248.1.size).toList = (((rd_T23 x8 x12).f0).extract 8 ((rd_T23 x8 x12).f0).size).toList then (if 0 ≤ bt248.2.2.1 then (if bt248.2.2.1 ≤ (x7.size : Int) then (headgatelaw20_IpduStream.l1 k x1 x2 (x7.extract (bt248.2.2.1 : Int).toNat x7.size) x8 (wrap64 (x12 + 1))) else (none)) else (none)) else (some false)) else (none)) else (none)) else (some false)) else (none)))) else (some false))) else (if x7.toList = ([] : List UInt8) then ((headgatelaw20_wakes.f k).bind fun t255 => (some t255)) else (some false))
end
def headgatelaw20_IpduStream.f (k : Nat) (l0 : List (S23)) (a1 : Bool) (a2 : Bool) : Option (Bool) := if (l0.length : Int) > 20 then ((headgatelaw20_wakes.f k).bind fun t237 => (some t237)) else (headgatelaw20_IpduStream.l0 k l0 a1 a2 (⟨#[]⟩ : ByteArray) ([] : List (S23)) 0)
theorem headgatelaw20_IpduStream.mono_l : ∀ k, (∀ y0 y1 y2 y3 y4 y5, LeO (headgatelaw20_IpduStream.l0 k y0 y1 y2 y3 y4 y5) (headgatelaw20_IpduStream.l0 (k + 1) y0 y1 y2 y3 y4 y5)) ∧ (∀ y0 y1 y2 y3 y4 y5 y6, LeO (headgatelaw20_IpduStream.j1 k y0 y1 y2 y3 y4 y5 y6) (headgatelaw20_IpduStream.j1 (k + 1) y0 y1 y2 y3 y4 y5 y6)) ∧ (∀ y0 y1 y2 y3 y4, LeO (headgatelaw20_IpduStream.l1 k y0 y1 y2 y3 y4) (headgatelaw20_IpduStream.l1 (k + 1) y0 y1 y2 y3 y4))
  | 0 => ⟨fun _ _ _ _ _ _ r h => by simp [headgatelaw20_IpduStream.l0] at h, fun _ _ _ _ _ _ _ r h => by simp [headgatelaw20_IpduStream.j1] at h, fun _ _ _ _ _ r h => by simp [headgatelaw20_IpduStream.l1] at h⟩
  | k + 1 => by
    obtain ⟨ih0, ih1, ih2⟩ := headgatelaw20_IpduStream.mono_l k
    refine ⟨?_, ?_, ?_⟩
    · intro y0 y1 y2 y3 y4 y5
      unfold headgatelaw20_IpduStream.l0
      repeat' first
      | (with_reducible exact ih0 _ _ _ _ _ _)
      | (with_reducible exact ih1 _ _ _ _ _ _ _)
      | (with_reducible exact ih2 _ _ _ _ _)
      | (with_reducible exact headgatelaw20_wakes.mono _)
      | (with_reducible exact ipdu_Get.mono _ _ _ _)
      | (with_reducible exact ipdu_Put.mono _ _ _ _ _)
      | (with_reducible exact LeO.refl _)
      | (with_reducible exact LeO.none _)
      | (with_reducible refine LeO.ite ?_ ?_)
      | (with_reducible refine LeO.bind ?_ (fun _ => ?_))
      | exact ih0 _ _ _ _ _ _
      | exact ih1 _ _ _ _ _ _ _
      | exact ih2 _ _ _ _ _
      | exact headgatelaw20_wakes.mono _
      | exact ipdu_Get.mono _ _ _ _
      | exact ipdu_Put.mono _ _ _ _ _
      | exact LeO.none _
      | refine LeO.ite ?_ ?_
      | refine LeO.bind ?_ (fun _ => ?_)
    · intro y0 y1 y2 y3 y4 y5 y6
      unfold headgatelaw20_IpduStream.j1
      repeat' first
      | (with_reducible exact ih0 _ _ _ _ _ _)
      | (with_reducible exact ih1 _ _ _ _ _ _ _)
      | (with_reducible exact ih2 _ _ _ _ _)
      | (with_reducible exact headgatelaw20_wakes.mono _)
      | (with_reducible exact ipdu_Get.mono _ _ _ _)
      | (with_reducible exact ipdu_Put.mono _ _ _ _ _)
      | (with_reducible exact LeO.refl _)
      | (with_reducible exact LeO.none _)
      | (with_reducible refine LeO.ite ?_ ?_)
      | (with_reducible refine LeO.bind ?_ (fun _ => ?_))
      | exact ih0 _ _ _ _ _ _
      | exact ih1 _ _ _ _ _ _ _
      | exact ih2 _ _ _ _ _
      | exact headgatelaw20_wakes.mono _
      | exact ipdu_Get.mono _ _ _ _
      | exact ipdu_Put.mono _ _ _ _ _
      | exact LeO.none _
      | refine LeO.ite ?_ ?_
      | refine LeO.bind ?_ (fun _ => ?_)
    · intro y0 y1 y2 y3 y4
      unfold headgatelaw20_IpduStream.l1
      repeat' first
      | (with_reducible exact ih0 _ _ _ _ _ _)
      | (with_reducible exact ih1 _ _ _ _ _ _ _)
      | (with_reducible exact ih2 _ _ _ _ _)
      | (with_reducible exact headgatelaw20_wakes.mono _)
      | (with_reducible exact ipdu_Get.mono _ _ _ _)
      | (with_reducible exact ipdu_Put.mono _ _ _ _ _)
      | (with_reducible exact LeO.refl _)
      | (with_reducible exact LeO.none _)
      | (with_reducible refine LeO.ite ?_ ?_)
      | (with_reducible refine LeO.bind ?_ (fun _ => ?_))
      | exact ih0 _ _ _ _ _ _
      | exact ih1 _ _ _ _ _ _ _
      | exact ih2 _ _ _ _ _
      | exact headgatelaw20_wakes.mono _
      | exact ipdu_Get.mono _ _ _ _
      | exact ipdu_Put.mono _ _ _ _ _
      | exact LeO.none _
      | refine LeO.ite ?_ ?_
      | refine LeO.bind ?_ (fun _ => ?_)
theorem headgatelaw20_IpduStream.mono : ∀ a0 a1 a2 k, LeO (headgatelaw20_IpduStream.f k a0 a1 a2) (headgatelaw20_IpduStream.f (k + 1) a0 a1 a2) := by
  intro a0 a1 a2 k
  obtain ⟨ih0, ih1, ih2⟩ := headgatelaw20_IpduStream.mono_l k
  unfold headgatelaw20_IpduStream.f
  repeat' first
      | (with_reducible exact ih0 _ _ _ _ _ _)
      | (with_reducible exact ih1 _ _ _ _ _ _ _)
      | (with_reducible exact ih2 _ _ _ _ _)
      | (with_reducible exact headgatelaw20_wakes.mono _)
      | (with_reducible exact ipdu_Get.mono _ _ _ _)
      | (with_reducible exact ipdu_Put.mono _ _ _ _ _)
      | (with_reducible exact LeO.refl _)
      | (with_reducible exact LeO.none _)
      | (with_reducible refine LeO.ite ?_ ?_)
      | (with_reducible refine LeO.bind ?_ (fun _ => ?_))
      | exact ih0 _ _ _ _ _ _
      | exact ih1 _ _ _ _ _ _ _
      | exact ih2 _ _ _ _ _
      | exact headgatelaw20_wakes.mono _
      | exact ipdu_Get.mono _ _ _ _
      | exact ipdu_Put.mono _ _ _ _ _
      | exact LeO.none _
      | refine LeO.ite ?_ ?_
      | refine LeO.bind ?_ (fun _ => ?_)
set_option maxHeartbeats 8000000 in
set_option maxRecDepth 100000 in
theorem headgatelaw20_IpduStream.calls (k : Nat) (A0 : Option Addr) (c0 : Nat) (l0 : List (S23)) (a1 : Bool) (a2 : Bool) (r : Bool) (w : World) (hr0 : Kd.C k23 w A0 l0.length l0) (hc0 : l0.length ≤ c0) (hG : Glob w) (hT : r = true) (h : headgatelaw20_IpduStream.f k l0 a1 a2 = some r) :
    Calls Tryd.prog 7 #[.slice A0 l0.length c0, .bool a1, .bool a2] w fun e w' => e = .returned (.bool r) ∧ Below w.heap.size w w' := by
  have hu23 := Tryd.underlying23
  have HT0 := Aside0.mk hT
  clear hT
  have HG := Aside0.mk hG
  clear hG
  have HR0 := Aside0.mk hr0
  have HC0 := Aside0.mk hc0
  clear hr0 hc0
  have HB := Aside0.mk (Below.refl w.heap.size w)
  have H : (if (l0.length : Int) > 20 then ((headgatelaw20_wakes.f k).bind fun t237 => (some t237)) else (headgatelaw20_IpduStream.l0 k l0 a1 a2 (⟨#[]⟩ : ByteArray) ([] : List (S23)) 0)) = some r := h
  clear h
  by_cases c4 : (l0.length : Int) > 20
  · rw [if_pos c4] at H
    have c4b0 : decide (20 < (l0.length : Int)) = true := decide_eq_true c4
    have c4b1 : decide (20 < l0.length) = true := decide_eq_true (by omega)
    clear c4
    replace H := Option.bind_eq_some_iff.mp H
    obtain ⟨t237, A50, H⟩ := H
    replace H : (some t237) = some r := H
    have A5 := Aside0.mk A50
    clear A50
    obtain rfl := Option.some.inj H
    go_enter Tryd.func7, Tryd.ntmps7
    go_wp2_with (first | (go_at_call 9; (with_reducible refine (headgatelaw20_wakes.calls k  t237 _ ?side1 A5.out).mono ?_); (case side1 => first | ((refine Glob.keep HG.out ?_); (repeat (first | (with_reducible first | exact HB.out | apply below_alloc | apply pw_below_drewN | apply below_drew1) | exact HB.out)); done) | exact HG.out); rintro e w6 ⟨rfl, hb⟩; have n0_ := Aside0.mk (below_step (by repeat (first | (with_reducible first | exact HB.out | apply below_alloc | apply pw_below_drewN | apply below_drew1) | exact HB.out)) hb); clear HB; have HB := n0_; clear n0_; (try clear hb); (try clear hb2); (try clear hk); (try clear hi)))
    repeat (go_quiet (first | (go_at_call 9; (with_reducible refine (headgatelaw20_wakes.calls k  t237 _ ?side1 A5.out).mono ?_); (case side1 => first | ((refine Glob.keep HG.out ?_); (repeat (first | (with_reducible first | exact HB.out | apply below_alloc | apply pw_below_drewN | apply below_drew1) | exact HB.out)); done) | exact HG.out); rintro e w6 ⟨rfl, hb⟩; have n0_ := Aside0.mk (below_step (by repeat (first | (with_reducible first | exact HB.out | apply below_alloc | apply pw_below_drewN | apply below_drew1) | exact HB.out)) hb); clear HB; have HB := n0_; clear n0_; (try clear hb); (try clear hb2); (try clear hk); (try clear hi))); try go_wp2_with (first | (go_at_call 9; (with_reducible refine (headgatelaw20_wakes.calls k  t237 _ ?side1 A5.out).mono ?_); (case side1 => first | ((refine Glob.keep HG.out ?_); (repeat (first | (with_reducible first | exact HB.out | apply below_alloc | apply pw_below_drewN | apply below_drew1) | exact HB.out)); done) | exact HG.out); rintro e w6 ⟨rfl, hb⟩; have n0_ := Aside0.mk (below_step (by repeat (first | (with_reducible first | exact HB.out | apply below_alloc | apply pw_below_drewN | apply below_drew1) | exact HB.out)) hb); clear HB; have HB := n0_; clear n0_; (try clear hb); (try clear hb2); (try clear hk); (try clear hi))))
    go_ret
    exact ⟨by first | rfl | (simp [errW_none, errW_some] <;> rfl) | (simp [*, errW_none, errW_some] <;> rfl), by repeat (first | (with_reducible first | exact HB.out | apply below_alloc | apply pw_below_drewN | apply below_drew1) | exact HB.out)⟩
  · rw [if_neg c4] at H
    have c4b0 : decide (20 < (l0.length : Int)) = false := decide_eq_false c4
    have c4b1 : decide (20 < l0.length) = false := decide_eq_false (by omega)
    clear c4
    have H' := Aside0.mk H
    clear H
    go_enter Tryd.func7, Tryd.ntmps7
    go_wp2
    repeat (go_quiet (fail); try go_wp2)
    go_loopg [7, 8, 9] k (fun kq v7 v8 v9 w' => ∃ (x7_1 : ByteArray) (x8_1 : List (S23)) (x9_1 : Int), v7 = .string x7_1 ∧ v9 = .int .i64 x9_1 ∧ Aside0 (headgatelaw20_IpduStream.l0 kq l0 a1 a2 x7_1 x8_1 x9_1 = some r) ∧ Aside0 (kq ≤ k) ∧ Aside0 (Kd.R k23 23 w' w.heap.size (fun _ => True) v8 x8_1) ∧ Aside0 (Below w.heap.size w w'))
    case atStart => exact ⟨((⟨#[]⟩ : ByteArray)), (([] : List (S23))), (0), (by first | rfl | (simp; done) | (simp [*]; done)), (by first | rfl | (simp; done) | (simp [*]; done)), H', ⟨Nat.le_refl _⟩, ⟨by first | exact Kd.R_nil _ _ _ _ _ | exact Kd.N_nil _ _ _ _ _ | exact Kd.V_nil _ _ _ _ _ | exact Kd.Q_nil _ _ _ _ _ | exact Kd.S_nil _ _ _ _ _⟩, ⟨by repeat (first | (with_reducible first | exact HB.out | apply below_alloc | apply pw_below_drewN | apply below_drew1) | exact HB.out)⟩⟩
    case round =>
      clear H'
      try clear p2
      try clear c4
      try clear c4b0
      try clear c4b1
      obtain ⟨x7_1, x8_1, x9_1, rfl, rfl, HA, HK1, HO_8, HB⟩ := hrel
      cases gk with
      | zero => exact absurd HA.out (by simp [headgatelaw20_IpduStream.l0])
      | succ k1 =>
        have H := HA.out
        clear HA
        simp only [headgatelaw20_IpduStream.l0] at H
        by_cases c7 : x9_1 < (l0.length : Int)
        · rw [if_pos c7] at H
          have c7b0 : decide (x9_1 < (l0.length : Int)) = true := decide_eq_true c7
          clear c7
          have HC8 := Aside0.mk H
          clear H
          go_upto_region 8 with (fail)
          repeat (go_quiet (fail); go_upto_region 8 with (fail))
          go_cut [41] (fun v41 wc => ∃ (kq : Nat) (x41_7 : Bool), v41 = .bool x41_7 ∧ Aside0 (headgatelaw20_IpduStream.j1 kq l0 a1 a2 x7_1 x8_1 x9_1 x41_7 = some r) ∧ Aside0 (kq ≤ k1) ∧ Aside0 (Kd.R k23 23 wc w.heap.size (fun _ => True) u8 x8_1) ∧ Aside0 (Below w.heap.size w wc))
          case first =>
            have H := HC8.out
            clear HC8
            by_cases c9 : 0 ≤ x9_1
            · rw [if_pos c9] at H
              have c9b0 : decide (0 ≤ x9_1) = true := decide_eq_true c9
              clear c9
              (first | rw [c9b0] | (simp only [i64_w, i32_w]; rw [c9b0]) | skip)
              by_cases c10 : (((rd_T23 l0 x9_1).f0).size : Int) > 20000
              · rw [if_pos c10] at H
                have c10b0 : decide (20000 < (((rd_T23 l0 x9_1).f0).size : Int)) = true := decide_eq_true c10
                have c10b1 : decide (20000 < ((rd_T23 l0 x9_1).f0).size) = true := decide_eq_true (by omega)
                clear c10
                have H' := Aside0.mk H
                clear H
                have p238 : 0 ≤ (x9_1 : Int) := of_decide_eq_true (by first | (with_reducible assumption) | assumption)
                have q238 : x9_1 < (l0.length : Int) := of_decide_eq_true (by first | (with_reducible assumption) | assumption)
                obtain ⟨ad238, e238, hx238_0, hx238_1⟩ := at_T23 HR0.out x9_1 p238 q238
                cases e238
                replace hx238_0 := (HB.out.cell (World.block_lt_of_cell? w _ hx238_0)).trans hx238_0
                replace hx238_1 := (HB.out.cell (World.block_lt_of_cell? w _ hx238_1)).trans hx238_1
                replace p238 := eq_true p238
                replace q238 := eq_true q238
                go_wp2
                repeat (go_quiet (fail); try go_wp2)
                go_meet
                case rel => exact ⟨_, (true), (by first | rfl | (simp; done) | (simp [*]; done)), H', ⟨by have := HK1.out; first | omega | exact Nat.le_refl _⟩, ⟨by (with_reducible repeat (first | apply Kd.R_alloc | apply Kd.R_drewN | apply Kd.R_drew)); exact HO_8.out⟩, ⟨by repeat (first | (with_reducible first | exact HB.out | apply below_alloc | apply pw_below_drewN | apply below_drew1) | exact HB.out)⟩⟩
              · rw [if_neg c10] at H
                have c10b0 : decide (20000 < (((rd_T23 l0 x9_1).f0).size : Int)) = false := decide_eq_false c10
                have c10b1 : decide (20000 < ((rd_T23 l0 x9_1).f0).size) = false := decide_eq_false (by omega)
                clear c10
                have H' := Aside0.mk H
                clear H
                have p238 : 0 ≤ (x9_1 : Int) := of_decide_eq_true (by first | (with_reducible assumption) | assumption)
                have q238 : x9_1 < (l0.length : Int) := of_decide_eq_true (by first | (with_reducible assumption) | assumption)
                obtain ⟨ad238, e238, hx238_0, hx238_1⟩ := at_T23 HR0.out x9_1 p238 q238
                cases e238
                replace hx238_0 := (HB.out.cell (World.block_lt_of_cell? w _ hx238_0)).trans hx238_0
                replace hx238_1 := (HB.out.cell (World.block_lt_of_cell? w _ hx238_1)).trans hx238_1
                replace p238 := eq_true p238
                replace q238 := eq_true q238
                have p239 : 0 ≤ (x9_1 : Int) := of_decide_eq_true (by first | (with_reducible assumption) | assumption)
                have q239 : x9_1 < (l0.length : Int) := of_decide_eq_true (by first | (with_reducible assumption) | assumption)
                obtain ⟨ad239, e239, hx239_0, hx239_1⟩ := at_T23 HR0.out x9_1 p239 q239
                obtain rfl : ad238 = ad239 := (by injection e239)
                replace hx239_0 := (HB.out.cell (World.block_lt_of_cell? w _ hx239_0)).trans hx239_0
                replace hx239_1 := (HB.out.cell (World.block_lt_of_cell? w _ hx239_1)).trans hx239_1
                replace p239 := eq_true p239
                replace q239 := eq_true q239
                go_wp2
                repeat (go_quiet (fail); try go_wp2)
                go_meet
                case rel => exact ⟨_, (decide ((((rd_T23 l0 x9_1).f1).size : Int) > 2000)), (by first | rfl | (simp; done) | (simp [*]; done)), H', ⟨by have := HK1.out; first | omega | exact Nat.le_refl _⟩, ⟨by (with_reducible repeat (first | apply Kd.R_alloc | apply Kd.R_drewN | apply Kd.R_drew)); exact HO_8.out⟩, ⟨by repeat (first | (with_reducible first | exact HB.out | apply below_alloc | apply pw_below_drewN | apply below_drew1) | exact HB.out)⟩⟩
            · rw [if_neg c9] at H
              exact absurd H (by simp)
          case rest =>
            clear HC8
            try clear c1
            try clear p2
            try clear q2
            try clear hx2
            try clear c4
            try clear c4b0
            try clear c4b1
            try clear c7
            try clear c7b0
            try clear c9
            try clear c9b0
            try clear c10
            try clear c10b0
            try clear c10b1
            try clear hx238_0
            try clear hx238_1
            try clear hx239_0
            try clear hx239_1
            try clear p2
            try clear p238
            try clear p239
            try clear q238
            try clear q239
            obtain ⟨kq, x41_7, rfl, HA, HJ7, HO_8, HB⟩ := hcut
            cases kq with
            | zero => exact absurd HA.out (by simp [headgatelaw20_IpduStream.j1])
            | succ kj7 =>
              have H := HA.out
              clear HA
              simp only [headgatelaw20_IpduStream.j1] at H
              by_cases c11 : x41_7 = true
              · subst c11
                have H1 : ((headgatelaw20_wakes.f kj7).bind fun t240 => (some t240)) = some r := by rw [if_pos rfl] at H; exact H
                clear H
                have H := H1
                clear H1
                replace H := Option.bind_eq_some_iff.mp H
                obtain ⟨t240, A120, H⟩ := H
                replace H : (some t240) = some r := H
                have A12 := Aside0.mk A120
                clear A120
                obtain rfl := Option.some.inj H
                go_wp2_with (first | (go_at_call 9; (with_reducible refine (headgatelaw20_wakes.calls kj7  t240 _ ?side1 A12.out).mono ?_); (case side1 => first | ((refine Glob.keep HG.out ?_); (repeat (first | (with_reducible first | exact HB.out | apply below_alloc | apply pw_below_drewN | apply below_drew1) | exact HB.out)); done) | exact HG.out); rintro e w13 ⟨rfl, hb⟩; have n0_ := Aside0.mk (Kd.R_below (by (with_reducible repeat (first | apply Kd.R_alloc | apply Kd.R_drewN | apply Kd.R_drew)); exact HO_8.out) hb); have n1_ := Aside0.mk (below_step (by repeat (first | (with_reducible first | exact HB.out | apply below_alloc | apply pw_below_drewN | apply below_drew1) | exact HB.out)) hb); clear HO_8; clear HB; have HO_8 := n0_; have HB := n1_; clear n0_ n1_; (try clear hb); (try clear hb2); (try clear hk); (try clear hi)))
                repeat (go_quiet (first | (go_at_call 9; (with_reducible refine (headgatelaw20_wakes.calls kj7  t240 _ ?side1 A12.out).mono ?_); (case side1 => first | ((refine Glob.keep HG.out ?_); (repeat (first | (with_reducible first | exact HB.out | apply below_alloc | apply pw_below_drewN | apply below_drew1) | exact HB.out)); done) | exact HG.out); rintro e w13 ⟨rfl, hb⟩; have n0_ := Aside0.mk (Kd.R_below (by (with_reducible repeat (first | apply Kd.R_alloc | apply Kd.R_drewN | apply Kd.R_drew)); exact HO_8.out) hb); have n1_ := Aside0.mk (below_step (by repeat (first | (with_reducible first | exact HB.out | apply below_alloc | apply pw_below_drewN | apply below_drew1) | exact HB.out)) hb); clear HO_8; clear HB; have HO_8 := n0_; have HB := n1_; clear n0_ n1_; (try clear hb); (try clear hb2); (try clear hk); (try clear hi))); try go_wp2_with (first | (go_at_call 9; (with_reducible refine (headgatelaw20_wakes.calls kj7  t240 _ ?side1 A12.out).mono ?_); (case side1 => first | ((refine Glob.keep HG.out ?_); (repeat (first | (with_reducible first | exact HB.out | apply below_alloc | apply pw_below_drewN | apply below_drew1) | exact HB.out)); done) | exact HG.out); rintro e w13 ⟨rfl, hb⟩; have n0_ := Aside0.mk (Kd.R_below (by (with_reducible repeat (first | apply Kd.R_alloc | apply Kd.R_drewN | apply Kd.R_drew)); exact HO_8.out) hb); have n1_ := Aside0.mk (below_step (by repeat (first | (with_reducible first | exact HB.out | apply below_alloc | apply pw_below_drewN | apply below_drew1) | exact HB.out)) hb); clear HO_8; clear HB; have HO_8 := n0_; have HB := n1_; clear n0_ n1_; (try clear hb); (try clear hb2); (try clear hk); (try clear hi))))
                go_ret
                exact ⟨by first | rfl | (simp [errW_none, errW_some] <;> rfl) | (simp [*, errW_none, errW_some] <;> rfl), by repeat (first | (with_reducible first | exact HB.out | apply below_alloc | apply pw_below_drewN | apply below_drew1) | exact HB.out)⟩
              · replace c11 := Bool.eq_false_iff.mpr c11
                subst c11
                have H1 : (if 0 ≤ x9_1 then (if x9_1 < (l0.length : Int) then ((ipdu_Put.f kj7 ((rd_T23 l0 x9_1).f0) ((rd_T23 l0 x9_1).f1) a1 a2).bind fun bt242 => (if bt242.2 = 0 then (if x7_1.size + bt242.1.size ≤ 9223372036854775807 then (if x8_1.length < 4398046511104 then (headgatelaw20_IpduStream.l0 kj7 l0 a1 a2 (x7_1 ++ bt242.1) (x8_1 ++ [(⟨(rd_T23 l0 x9_1).f0, (rd_T23 l0 x9_1).f1⟩ : S23)]) (wrap64 (x9_1 + 1))) else (none)) else (none)) else (headgatelaw20_IpduStream.l0 kj7 l0 a1 a2 x7_1 x8_1 (wrap64 (x9_1 + 1))))) else (none)) else (none)) = some r := by rw [if_neg (show ¬ (false = true) by decide)] at H; exact H
                clear H
                have H := H1
                clear H1
                by_cases c14 : 0 ≤ x9_1
                · rw [if_pos c14] at H
                  have c14b0 : decide (0 ≤ x9_1) = true := decide_eq_true c14
                  clear c14
                  by_cases c15 : x9_1 < (l0.length : Int)
                  · rw [if_pos c15] at H
                    have c15b0 : decide (x9_1 < (l0.length : Int)) = true := decide_eq_true c15
                    clear c15
                    replace H := Option.bind_eq_some_iff.mp H
                    obtain ⟨⟨t242, t243⟩, A160, H⟩ := H
                    replace H : (if t243 = 0 then (if x7_1.size + t242.size ≤ 9223372036854775807 then (if x8_1.length < 4398046511104 then (headgatelaw20_IpduStream.l0 kj7 l0 a1 a2 (x7_1 ++ t242) (x8_1 ++ [(⟨(rd_T23 l0 x9_1).f0, (rd_T23 l0 x9_1).f1⟩ : S23)]) (wrap64 (x9_1 + 1))) else (none)) else (none)) else (headgatelaw20_IpduStream.l0 kj7 l0 a1 a2 x7_1 x8_1 (wrap64 (x9_1 + 1)))) = some r := H
                    have A16 := Aside0.mk A160
                    clear A160
                    by_cases c17 : t243 = 0
                    · rw [if_pos c17] at H
                      have c17b0 : (t243 == 0) = true := beq_iff_eq.mpr c17
                      have c17b1 : (t243 != 0) = false := bne_eq_false_iff_eq.mpr c17
                      clear c17
                      by_cases c18 : x7_1.size + t242.size ≤ 9223372036854775807
                      · rw [if_pos c18] at H
                        have c18b0 := eq_true c18
                        have c18b1 : decide (x7_1.size + t242.size ≤ 9223372036854775807) = true := decide_eq_true c18
                        try have c18b2 : (9223372036854775807 < x7_1.size + t242.size) = False := eq_false (Nat.not_lt.2 c18)
                        by_cases c19 : x8_1.length < 4398046511104
                        · rw [if_pos c19] at H
                          have LMc19 := Aside0.mk c19
                          clear c19
                          obtain ⟨y245, hy245⟩ : ∃ y_ : List (S23), y_ = (x8_1 ++ [(⟨(rd_T23 l0 x9_1).f0, (rd_T23 l0 x9_1).f1⟩ : S23)]) := ⟨_, rfl⟩
                          replace H : (headgatelaw20_IpduStream.l0 kj7 l0 a1 a2 (x7_1 ++ t242) y245 (wrap64 (x9_1 + 1))) = some r := by first | (rw [hy245]; with_reducible exact H) | (have H2_ := (Option.bind_some _ _).symm.trans H; rw [hy245]; with_reducible exact H2_) | (have H2_ := (Option.bind_some _ _).symm.trans H; with_reducible exact H2_) | with_reducible exact H | (rw [hy245]; exact H) | exact H
                          have Ny245 := Aside0.mk hy245
                          clear hy245
                          have H' := Aside0.mk H
                          clear H
                          have p241 : 0 ≤ (x9_1 : Int) := of_decide_eq_true (by first | (with_reducible assumption) | assumption)
                          have q241 : x9_1 < (l0.length : Int) := of_decide_eq_true (by first | (with_reducible assumption) | assumption)
                          obtain ⟨ad241, e241, hx241_0, hx241_1⟩ := at_T23 HR0.out x9_1 p241 q241
                          cases e241
                          replace hx241_0 := (HB.out.cell (World.block_lt_of_cell? w _ hx241_0)).trans hx241_0
                          replace hx241_1 := (HB.out.cell (World.block_lt_of_cell? w _ hx241_1)).trans hx241_1
                          replace p241 := eq_true p241
                          replace q241 := eq_true q241
                          go_wp2_with (first | (go_at_call 10; (with_reducible refine (ipdu_Put.calls kj7 ((rd_T23 l0 x9_1).f0) ((rd_T23 l0 x9_1).f1) a1 a2 t242 t243 _ ?side1 A16.out).mono ?_); (case side1 => first | ((refine Glob.keep HG.out ?_); (repeat (first | (with_reducible first | exact HB.out | apply below_alloc | apply pw_below_drewN | apply below_drew1) | exact HB.out)); done) | exact HG.out); rintro e w20 ⟨rfl, hb⟩; have n0_ := Aside0.mk (Kd.R_below (by (with_reducible repeat (first | apply Kd.R_alloc | apply Kd.R_drewN | apply Kd.R_drew)); exact HO_8.out) hb); have n1_ := Aside0.mk (below_step (by repeat (first | (with_reducible first | exact HB.out | apply below_alloc | apply pw_below_drewN | apply below_drew1) | exact HB.out)) hb); clear HO_8; clear HB; have HO_8 := n0_; have HB := n1_; clear n0_ n1_; (try clear hb); (try clear hb2); (try clear hk); (try clear hi); have p244 : 0 ≤ (x9_1 : Int) := of_decide_eq_true (by first | (with_reducible assumption) | assumption); have q244 : x9_1 < (l0.length : Int) := of_decide_eq_true (by first | (with_reducible assumption) | assumption); obtain ⟨ad244, e244, hx244_0, hx244_1⟩ := at_T23 HR0.out x9_1 p244 q244; obtain rfl : ad241 = ad244 := (by injection e244); replace hx244_0 := (HB.out.cell (World.block_lt_of_cell? w _ hx244_0)).trans hx244_0; replace hx244_1 := (HB.out.cell (World.block_lt_of_cell? w _ hx244_1)).trans hx244_1; replace p244 := eq_true p244; replace q244 := eq_true q244) | ((with_reducible refine gate_builtin (b := .append) (xs := #[.tmp 58, .tmp 63]) rfl ?_); (try (refine gate_guard (by rfl) ?_; dsimp only)); at_builtin; refine Kd.R_append k23 (w0 := w) w.heap.size rfl (.tmp 58) (.tmp 63) 43 23 (.agg #[(.string ⟨#[]⟩), (.string ⟨#[]⟩)]) 32 rfl Tryd.underlying43 info23 rfl (by decide) (by omega) u8 x8_1 (⟨(rd_T23 l0 x9_1).f0, (rd_T23 l0 x9_1).f1⟩ : S23) [.string ((rd_T23 l0 x9_1).f0), .string ((rd_T23 l0 x9_1).f1)] (fun _ => True) (fun _ => False) rfl rfl ?aP (fun _ hk => hk.elim) ?aF ?aO ?aB ?aS ?aL ?_; (case aP => exact k23_mkM _ _ _ (⟨(rd_T23 l0 x9_1).f0, (rd_T23 l0 x9_1).f1⟩ : S23)); (case aB => exact (by repeat (first | (with_reducible first | exact HB.out | apply below_alloc | apply pw_below_drewN | apply below_drew1) | exact HB.out))); (case aF => exact (fun _ _ => trivial)); (case aO => exact (by (with_reducible repeat (first | apply Kd.R_alloc | apply Kd.R_drewN | apply Kd.R_drew)); exact HO_8.out)); (case aS => exact (below_size (by repeat (first | (with_reducible first | exact HB.out | apply below_alloc | apply pw_below_drewN | apply below_drew1) | exact HB.out)))); (case aL => have := LMc19.out; omega); intro v246 w21 ho hb hg hat; rw [← Ny245.out] at ho; have n0_ := Aside0.mk (hb); have n1_ := Aside0.mk (ho); clear HB; clear HO_8; have HB := n0_; have HO247 := n1_; clear n0_ n1_; clear ho hb hg hat))
                          repeat (go_quiet (first | (go_at_call 10; (with_reducible refine (ipdu_Put.calls kj7 ((rd_T23 l0 x9_1).f0) ((rd_T23 l0 x9_1).f1) a1 a2 t242 t243 _ ?side1 A16.out).mono ?_); (case side1 => first | ((refine Glob.keep HG.out ?_); (repeat (first | (with_reducible first | exact HB.out | apply below_alloc | apply pw_below_drewN | apply below_drew1) | exact HB.out)); done) | exact HG.out); rintro e w20 ⟨rfl, hb⟩; have n0_ := Aside0.mk (Kd.R_below (by (with_reducible repeat (first | apply Kd.R_alloc | apply Kd.R_drewN | apply Kd.R_drew)); exact HO_8.out) hb); have n1_ := Aside0.mk (below_step (by repeat (first | (with_reducible first | exact HB.out | apply below_alloc | apply pw_below_drewN | apply below_drew1) | exact HB.out)) hb); clear HO_8; clear HB; have HO_8 := n0_; have HB := n1_; clear n0_ n1_; (try clear hb); (try clear hb2); (try clear hk); (try clear hi); have p244 : 0 ≤ (x9_1 : Int) := of_decide_eq_true (by first | (with_reducible assumption) | assumption); have q244 : x9_1 < (l0.length : Int) := of_decide_eq_true (by first | (with_reducible assumption) | assumption); obtain ⟨ad244, e244, hx244_0, hx244_1⟩ := at_T23 HR0.out x9_1 p244 q244; obtain rfl : ad241 = ad244 := (by injection e244); replace hx244_0 := (HB.out.cell (World.block_lt_of_cell? w _ hx244_0)).trans hx244_0; replace hx244_1 := (HB.out.cell (World.block_lt_of_cell? w _ hx244_1)).trans hx244_1; replace p244 := eq_true p244; replace q244 := eq_true q244) | ((with_reducible refine gate_builtin (b := .append) (xs := #[.tmp 58, .tmp 63]) rfl ?_); (try (refine gate_guard (by rfl) ?_; dsimp only)); at_builtin; refine Kd.R_append k23 (w0 := w) w.heap.size rfl (.tmp 58) (.tmp 63) 43 23 (.agg #[(.string ⟨#[]⟩), (.string ⟨#[]⟩)]) 32 rfl Tryd.underlying43 info23 rfl (by decide) (by omega) u8 x8_1 (⟨(rd_T23 l0 x9_1).f0, (rd_T23 l0 x9_1).f1⟩ : S23) [.string ((rd_T23 l0 x9_1).f0), .string ((rd_T23 l0 x9_1).f1)] (fun _ => True) (fun _ => False) rfl rfl ?aP (fun _ hk => hk.elim) ?aF ?aO ?aB ?aS ?aL ?_; (case aP => exact k23_mkM _ _ _ (⟨(rd_T23 l0 x9_1).f0, (rd_T23 l0 x9_1).f1⟩ : S23)); (case aB => exact (by repeat (first | (with_reducible first | exact HB.out | apply below_alloc | apply pw_below_drewN | apply below_drew1) | exact HB.out))); (case aF => exact (fun _ _ => trivial)); (case aO => exact (by (with_reducible repeat (first | apply Kd.R_alloc | apply Kd.R_drewN | apply Kd.R_drew)); exact HO_8.out)); (case aS => exact (below_size (by repeat (first | (with_reducible first | exact HB.out | apply below_alloc | apply pw_below_drewN | apply below_drew1) | exact HB.out)))); (case aL => have := LMc19.out; omega); intro v246 w21 ho hb hg hat; rw [← Ny245.out] at ho; have n0_ := Aside0.mk (hb); have n1_ := Aside0.mk (ho); clear HB; clear HO_8; have HB := n0_; have HO247 := n1_; clear n0_ n1_; clear ho hb hg hat)); try go_wp2_with (first | (go_at_call 10; (with_reducible refine (ipdu_Put.calls kj7 ((rd_T23 l0 x9_1).f0) ((rd_T23 l0 x9_1).f1) a1 a2 t242 t243 _ ?side1 A16.out).mono ?_); (case side1 => first | ((refine Glob.keep HG.out ?_); (repeat (first | (with_reducible first | exact HB.out | apply below_alloc | apply pw_below_drewN | apply below_drew1) | exact HB.out)); done) | exact HG.out); rintro e w20 ⟨rfl, hb⟩; have n0_ := Aside0.mk (Kd.R_below (by (with_reducible repeat (first | apply Kd.R_alloc | apply Kd.R_drewN | apply Kd.R_drew)); exact HO_8.out) hb); have n1_ := Aside0.mk (below_step (by repeat (first | (with_reducible first | exact HB.out | apply below_alloc | apply pw_below_drewN | apply below_drew1) | exact HB.out)) hb); clear HO_8; clear HB; have HO_8 := n0_; have HB := n1_; clear n0_ n1_; (try clear hb); (try clear hb2); (try clear hk); (try clear hi); have p244 : 0 ≤ (x9_1 : Int) := of_decide_eq_true (by first | (with_reducible assumption) | assumption); have q244 : x9_1 < (l0.length : Int) := of_decide_eq_true (by first | (with_reducible assumption) | assumption); obtain ⟨ad244, e244, hx244_0, hx244_1⟩ := at_T23 HR0.out x9_1 p244 q244; obtain rfl : ad241 = ad244 := (by injection e244); replace hx244_0 := (HB.out.cell (World.block_lt_of_cell? w _ hx244_0)).trans hx244_0; replace hx244_1 := (HB.out.cell (World.block_lt_of_cell? w _ hx244_1)).trans hx244_1; replace p244 := eq_true p244; replace q244 := eq_true q244) | ((with_reducible refine gate_builtin (b := .append) (xs := #[.tmp 58, .tmp 63]) rfl ?_); (try (refine gate_guard (by rfl) ?_; dsimp only)); at_builtin; refine Kd.R_append k23 (w0 := w) w.heap.size rfl (.tmp 58) (.tmp 63) 43 23 (.agg #[(.string ⟨#[]⟩), (.string ⟨#[]⟩)]) 32 rfl Tryd.underlying43 info23 rfl (by decide) (by omega) u8 x8_1 (⟨(rd_T23 l0 x9_1).f0, (rd_T23 l0 x9_1).f1⟩ : S23) [.string ((rd_T23 l0 x9_1).f0), .string ((rd_T23 l0 x9_1).f1)] (fun _ => True) (fun _ => False) rfl rfl ?aP (fun _ hk => hk.elim) ?aF ?aO ?aB ?aS ?aL ?_; (case aP => exact k23_mkM _ _ _ (⟨(rd_T23 l0 x9_1).f0, (rd_T23 l0 x9_1).f1⟩ : S23)); (case aB => exact (by repeat (first | (with_reducible first | exact HB.out | apply below_alloc | apply pw_below_drewN | apply below_drew1) | exact HB.out))); (case aF => exact (fun _ _ => trivial)); (case aO => exact (by (with_reducible repeat (first | apply Kd.R_alloc | apply Kd.R_drewN | apply Kd.R_drew)); exact HO_8.out)); (case aS => exact (below_size (by repeat (first | (with_reducible first | exact HB.out | apply below_alloc | apply pw_below_drewN | apply below_drew1) | exact HB.out)))); (case aL => have := LMc19.out; omega); intro v246 w21 ho hb hg hat; rw [← Ny245.out] at ho; have n0_ := Aside0.mk (hb); have n1_ := Aside0.mk (ho); clear HB; clear HO_8; have HB := n0_; have HO247 := n1_; clear n0_ n1_; clear ho hb hg hat)))
                          go_roundg kj7
                          case measure => have := HK1.out; have := HJ7.out; omega
                          case rel => exact ⟨(x7_1 ++ t242), (y245), (wrap64 (x9_1 + 1)), (by first | rfl | (simp; done) | (simp [*]; done)), (by first | rfl | (simp; done) | (simp [*]; done)), H', ⟨by have := HK1.out; have := HJ7.out; omega⟩, ⟨by (with_reducible repeat (first | apply Kd.R_alloc | apply Kd.R_drewN | apply Kd.R_drew)); exact HO247.out⟩, ⟨by repeat (first | (with_reducible first | exact HB.out | apply below_alloc | apply pw_below_drewN | apply below_drew1) | exact HB.out)⟩⟩
                        · rw [if_neg c19] at H
                          exact absurd H (by simp)
                      · rw [if_neg c18] at H
                        exact absurd H (by simp)
                    · rw [if_neg c17] at H
                      have c17b0 : (t243 == 0) = false := beq_eq_false_iff_ne.mpr c17
                      have c17b1 : (t243 != 0) = true := bne_iff_ne.mpr c17
                      have H' := Aside0.mk H
                      clear H
                      have p241 : 0 ≤ (x9_1 : Int) := of_decide_eq_true (by first | (with_reducible assumption) | assumption)
                      have q241 : x9_1 < (l0.length : Int) := of_decide_eq_true (by first | (with_reducible assumption) | assumption)
                      obtain ⟨ad241, e241, hx241_0, hx241_1⟩ := at_T23 HR0.out x9_1 p241 q241
                      cases e241
                      replace hx241_0 := (HB.out.cell (World.block_lt_of_cell? w _ hx241_0)).trans hx241_0
                      replace hx241_1 := (HB.out.cell (World.block_lt_of_cell? w _ hx241_1)).trans hx241_1
                      replace p241 := eq_true p241
                      replace q241 := eq_true q241
                      go_wp2_with (first | (go_at_call 10; (with_reducible refine (ipdu_Put.calls kj7 ((rd_T23 l0 x9_1).f0) ((rd_T23 l0 x9_1).f1) a1 a2 t242 t243 _ ?side1 A16.out).mono ?_); (case side1 => first | ((refine Glob.keep HG.out ?_); (repeat (first | (with_reducible first | exact HB.out | apply below_alloc | apply pw_below_drewN | apply below_drew1) | exact HB.out)); done) | exact HG.out); rintro e w22 ⟨rfl, hb⟩; have n0_ := Aside0.mk (Kd.R_below (by (with_reducible repeat (first | apply Kd.R_alloc | apply Kd.R_drewN | apply Kd.R_drew)); exact HO_8.out) hb); have n1_ := Aside0.mk (below_step (by repeat (first | (with_reducible first | exact HB.out | apply below_alloc | apply pw_below_drewN | apply below_drew1) | exact HB.out)) hb); clear HO_8; clear HB; have HO_8 := n0_; have HB := n1_; clear n0_ n1_; (try clear hb); (try clear hb2); (try clear hk); (try clear hi)))
                      repeat (go_quiet (first | (go_at_call 10; (with_reducible refine (ipdu_Put.calls kj7 ((rd_T23 l0 x9_1).f0) ((rd_T23 l0 x9_1).f1) a1 a2 t242 t243 _ ?side1 A16.out).mono ?_); (case side1 => first | ((refine Glob.keep HG.out ?_); (repeat (first | (with_reducible first | exact HB.out | apply below_alloc | apply pw_below_drewN | apply below_drew1) | exact HB.out)); done) | exact HG.out); rintro e w22 ⟨rfl, hb⟩; have n0_ := Aside0.mk (Kd.R_below (by (with_reducible repeat (first | apply Kd.R_alloc | apply Kd.R_drewN | apply Kd.R_drew)); exact HO_8.out) hb); have n1_ := Aside0.mk (below_step (by repeat (first | (with_reducible first | exact HB.out | apply below_alloc | apply pw_below_drewN | apply below_drew1) | exact HB.out)) hb); clear HO_8; clear HB; have HO_8 := n0_; have HB := n1_; clear n0_ n1_; (try clear hb); (try clear hb2); (try clear hk); (try clear hi))); try go_wp2_with (first | (go_at_call 10; (with_reducible refine (ipdu_Put.calls kj7 ((rd_T23 l0 x9_1).f0) ((rd_T23 l0 x9_1).f1) a1 a2 t242 t243 _ ?side1 A16.out).mono ?_); (case side1 => first | ((refine Glob.keep HG.out ?_); (repeat (first | (with_reducible first | exact HB.out | apply below_alloc | apply pw_below_drewN | apply below_drew1) | exact HB.out)); done) | exact HG.out); rintro e w22 ⟨rfl, hb⟩; have n0_ := Aside0.mk (Kd.R_below (by (with_reducible repeat (first | apply Kd.R_alloc | apply Kd.R_drewN | apply Kd.R_drew)); exact HO_8.out) hb); have n1_ := Aside0.mk (below_step (by repeat (first | (with_reducible first | exact HB.out | apply below_alloc | apply pw_below_drewN | apply below_drew1) | exact HB.out)) hb); clear HO_8; clear HB; have HO_8 := n0_; have HB := n1_; clear n0_ n1_; (try clear hb); (try clear hb2); (try clear hk); (try clear hi))))
                      go_roundg kj7
                      case measure => have := HK1.out; have := HJ7.out; omega
                      case rel => exact ⟨(x7_1), (x8_1), (wrap64 (x9_1 + 1)), (by first | rfl | (simp; done) | (simp [*]; done)), (by first | rfl | (simp; done) | (simp [*]; done)), H', ⟨by have := HK1.out; have := HJ7.out; omega⟩, ⟨by (with_reducible repeat (first | apply Kd.R_alloc | apply Kd.R_drewN | apply Kd.R_drew)); exact HO_8.out⟩, ⟨by repeat (first | (with_reducible first | exact HB.out | apply below_alloc | apply pw_below_drewN | apply below_drew1) | exact HB.out)⟩⟩
                  · rw [if_neg c15] at H
                    exact absurd H (by simp)
                · rw [if_neg c14] at H
                  exact absurd H (by simp)
        · rw [if_neg c7] at H
          have c7b0 : decide (x9_1 < (l0.length : Int)) = false := decide_eq_false c7
          clear c7
          have H' := Aside0.mk H
          clear H
          go_wp2
          repeat (go_quiet (fail); try go_wp2)
          go_loopg [7, 12] k1 (fun kq v7 v12 w' => ∃ (x7_2 : ByteArray) (x12_2 : Int), v7 = .string x7_2 ∧ v12 = .int .i64 x12_2 ∧ Aside0 (headgatelaw20_IpduStream.l1 kq a1 a2 x7_2 x8_1 x12_2 = some r) ∧ Aside0 (kq ≤ k1) ∧ Aside0 (Kd.R k23 23 w' w.heap.size (fun _ => True) u8 x8_1) ∧ Aside0 (Below w.heap.size w w'))
          case atStart => exact ⟨(x7_1), (0), (by first | rfl | (simp; done) | (simp [*]; done)), (by first | rfl | (simp; done) | (simp [*]; done)), H', ⟨Nat.le_refl _⟩, ⟨by (with_reducible repeat (first | apply Kd.R_alloc | apply Kd.R_drewN | apply Kd.R_drew)); exact HO_8.out⟩, ⟨by repeat (first | (with_reducible first | exact HB.out | apply below_alloc | apply pw_below_drewN | apply below_drew1) | exact HB.out)⟩⟩
          case round =>
            clear H'
            try clear c1
            try clear p2
            try clear q2
            try clear hx2
            try clear c4
            try clear c4b0
            try clear c4b1
            try clear p6
            try clear c7
            try clear c7b0
            try clear c9
            try clear c9b0
            try clear c10
            try clear c10b0
            try clear c10b1
            try clear c11
            try clear c14
            try clear c14b0
            try clear c15
            try clear c15b0
            try clear c17
            try clear c17b0
            try clear c17b1
            try clear c18
            try clear c18b0
            try clear c18b1
            try clear c18b2
            try clear c19
            try clear hx238_0
            try clear hx238_1
            try clear hx239_0
            try clear hx239_1
            try clear hx241_0
            try clear hx241_1
            try clear hx244_0
            try clear hx244_1
            try clear p2
            try clear p238
            try clear p239
            try clear p241
            try clear p244
            try clear q2
            try clear q238
            try clear q239
            try clear q241
            try clear q244
            obtain ⟨x7_2, x12_2, rfl, rfl, HA, HK2, HO_8, HB⟩ := hrel
            cases gk with
            | zero => exact absurd HA.out (by simp [headgatelaw20_IpduStream.l1])
            | succ k2 =>
              have H := HA.out
              clear HA
              simp only [headgatelaw20_IpduStream.l1] at H
              by_cases c23 : x12_2 < (x8_1.length : Int)
              · rw [if_pos c23] at H
                have c23b0 : decide (x12_2 < (x8_1.length : Int)) = true := decide_eq_true c23
                clear c23
                replace H := Option.bind_eq_some_iff.mp H
                obtain ⟨⟨t248, t249, t250, t251⟩, A240, H⟩ := H
                replace H : (if t251 = 0 then (if t250 < 48 then (some false) else (if t250 > (x7_2.size : Int) then (some false) else (if 0 ≤ x12_2 then (if t249.toList = ((rd_T23 x8_1 x12_2).f1).toList then (if 8 ≤ (t248.size : Int) then (if 8 ≤ (((rd_T23 x8_1 x12_2).f0).size : Int) then (if (t248.extract 8 t248.size).toList = (((rd_T23 x8_1 x12_2).f0).extract 8 ((rd_T23 x8_1 x12_2).f0).size).toList then (if 0 ≤ t250 then (if t250 ≤ (x7_2.size : Int) then (headgatelaw20_IpduStream.l1 k2 a1 a2 (x7_2.extract (t250 : Int).toNat x7_2.size) x8_1 (wrap64 (x12_2 + 1))) else (none)) else (none)) else (some false)) else (none)) else (none)) else (some false)) else (none)))) else (some false)) = some r := H
                have A24 := Aside0.mk A240
                clear A240
                by_cases c25 : t251 = 0
                · rw [if_pos c25] at H
                  have c25b0 : (t251 == 0) = true := beq_iff_eq.mpr c25
                  have c25b1 : (t251 != 0) = false := bne_eq_false_iff_eq.mpr c25
                  clear c25
                  by_cases c26 : t250 < 48
                  · rw [if_pos c26] at H
                    have c26b0 : decide (t250 < 48) = true := decide_eq_true c26
                    clear c26
                    exact absurd ((Option.some.inj H).trans HT0.out) (by decide)
                  · rw [if_neg c26] at H
                    have c26b0 : decide (t250 < 48) = false := decide_eq_false c26
                    clear c26
                    by_cases c27 : t250 > (x7_2.size : Int)
                    · rw [if_pos c27] at H
                      have c27b0 : decide ((x7_2.size : Int) < t250) = true := decide_eq_true c27
                      clear c27
                      exact absurd ((Option.some.inj H).trans HT0.out) (by decide)
                    · rw [if_neg c27] at H
                      have c27b0 : decide ((x7_2.size : Int) < t250) = false := decide_eq_false c27
                      clear c27
                      by_cases c28 : 0 ≤ x12_2
                      · rw [if_pos c28] at H
                        have c28b0 : decide (0 ≤ x12_2) = true := decide_eq_true c28
                        clear c28
                        by_cases c29 : t249.toList = ((rd_T23 x8_1 x12_2).f1).toList
                        · rw [if_pos c29] at H
                          have c29b0 : (t249.toList == ((rd_T23 x8_1 x12_2).f1).toList) = true := beq_iff_eq.mpr c29
                          have c29b1 : (t249.toList != ((rd_T23 x8_1 x12_2).f1).toList) = false := bne_eq_false_iff_eq.mpr c29
                          clear c29
                          by_cases c30 : 8 ≤ (t248.size : Int)
                          · rw [if_pos c30] at H
                            have c30b0 := eq_true c30
                            have c30b1 : decide (8 ≤ (t248.size : Int)) = true := decide_eq_true c30
                            clear c30
                            by_cases c31 : 8 ≤ (((rd_T23 x8_1 x12_2).f0).size : Int)
                            · rw [if_pos c31] at H
                              have c31b0 := eq_true c31
                              have c31b1 : decide (8 ≤ (((rd_T23 x8_1 x12_2).f0).size : Int)) = true := decide_eq_true c31
                              clear c31
                              by_cases c32 : (t248.extract 8 t248.size).toList = (((rd_T23 x8_1 x12_2).f0).extract 8 ((rd_T23 x8_1 x12_2).f0).size).toList
                              · rw [if_pos c32] at H
                                have c32b0 : ((t248.extract 8 t248.size).toList == (((rd_T23 x8_1 x12_2).f0).extract 8 ((rd_T23 x8_1 x12_2).f0).size).toList) = true := beq_iff_eq.mpr c32
                                have c32b1 : ((t248.extract 8 t248.size).toList != (((rd_T23 x8_1 x12_2).f0).extract 8 ((rd_T23 x8_1 x12_2).f0).size).toList) = false := bne_eq_false_iff_eq.mpr c32
                                clear c32
                                by_cases c33 : 0 ≤ t250
                                · rw [if_pos c33] at H
                                  have c33b0 := eq_true c33
                                  have c33b1 : decide (0 ≤ t250) = true := decide_eq_true c33
                                  clear c33
                                  by_cases c34 : t250 ≤ (x7_2.size : Int)
                                  · rw [if_pos c34] at H
                                    have c34b0 := eq_true c34
                                    have c34b1 : decide (t250 ≤ (x7_2.size : Int)) = true := decide_eq_true c34
                                    clear c34
                                    have H' := Aside0.mk H
                                    clear H
                                    obtain ⟨Ao35, co35, eo35⟩ := Kd.R_slice HO_8.out
                                    subst eo35
                                    go_wp2_with (first | (go_at_call 12; (with_reducible refine (ipdu_Get.calls k2 x7_2 a1 a2 t248 t249 t250 t251 _ ?side1 A24.out).mono ?_); (case side1 => first | ((refine Glob.keep HG.out ?_); (repeat (first | (with_reducible first | exact HB.out | apply below_alloc | apply pw_below_drewN | apply below_drew1) | exact HB.out)); done) | exact HG.out); rintro e w36 ⟨rfl, hb⟩; have n0_ := Aside0.mk (Kd.R_below (by (with_reducible repeat (first | apply Kd.R_alloc | apply Kd.R_drewN | apply Kd.R_drew)); exact HO_8.out) hb); have n1_ := Aside0.mk (below_step (by repeat (first | (with_reducible first | exact HB.out | apply below_alloc | apply pw_below_drewN | apply below_drew1) | exact HB.out)) hb); clear HO_8; clear HB; have HO_8 := n0_; have HB := n1_; clear n0_ n1_; (try clear hb); (try clear hb2); (try clear hk); (try clear hi)) | ((with_reducible refine gate_dst (N := 13) rfl ?_); (try (refine gate_guard (by rfl) ?_; dsimp only)); refine box_event ?hg (N := 13) ?hd (cs := #[.string (⟨#[]⟩ : ByteArray), .string (⟨#[]⟩ : ByteArray)]) (t := 23) ?hr ?_; (case hd => rfl); (case hg => rfl); (case hr => first | (go_simp; done) | (go_simp; rfl)); intro gb252 hg w37 hbox hb; have n0_ := Aside0.mk (Kd.R_below (Kd.R_elderB (by (with_reducible repeat (first | apply Kd.R_alloc | apply Kd.R_drewN | apply Kd.R_drew)); exact HO_8.out) gb252 (Nat.le_of_eq hg.symm)) hb); have n1_ := Aside0.mk (below_step (by repeat (first | (with_reducible first | exact HB.out | apply below_alloc | apply pw_below_drewN | apply below_drew1) | exact HB.out)) hb); have n2_ := Aside0.mk (hbox); have n3_ := Aside0.mk ((by rw [hg]; exact (below_size (by repeat (first | (with_reducible first | exact HB.out | apply below_alloc | apply pw_below_drewN | apply below_drew1) | exact HB.out))) : w.heap.size ≤ gb252)); have n4_ := Aside0.mk ((by rw [hg]; exact (below_size (by repeat (first | (with_reducible first | exact HB.out | apply below_alloc | apply pw_below_drewN | apply below_drew1) | exact HB.out))) : w.heap.size ≤ gb252)); clear HO_8; clear HB; have HO_8 := n0_; have HB := n1_; have BK252 := n2_; have GW252 := n3_; have GE252 := n4_; clear n0_ n1_ n2_ n3_ n4_; clear hb hbox hg; have hcz38_0 : w37.cell? ⟨gb252, 0, none⟩ = some (.string (⟨#[]⟩ : ByteArray)) := (blk_cell BK252.out 0).trans rfl; have hcz38_1 : w37.cell? ⟨gb252, 1, none⟩ = some (.string (⟨#[]⟩ : ByteArray)) := (blk_cell BK252.out 1).trans rfl; have hfz38_0 := blk_frozen BK252.out 0; have hfz38_1 := blk_frozen BK252.out 1; have p253 : 0 ≤ (x12_2 : Int) := of_decide_eq_true (by first | (with_reducible assumption) | assumption); have q253 : x12_2 < (x8_1.length : Int) := of_decide_eq_true (by first | (with_reducible assumption) | assumption); obtain ⟨ad253, e253, hx253_0, hx253_1⟩ := at_T23 (Kd.R_reads' HO_8.out).2.2 x12_2 p253 q253; cases e253; have hn253_0 : ad253.block ≠ gb252 := Kd.own_blk (by first | exact Kd.R_ne HO_8.out BK252.out (by decide) | exact (fun e_ => (HO_8.out.1 _ e_.symm).2 rfl)); have hn253_1 : ad253.block ≠ gb252 := Kd.own_blk (by first | exact Kd.R_ne HO_8.out BK252.out (by decide) | exact (fun e_ => (HO_8.out.1 _ e_.symm).2 rfl)); replace hx253_0 := (cell_far (p := ⟨gb252, 0, none⟩) (by first | (rw [add_block]; exact hn253_0) | (show (Addr.add _ _).block ≠ _; rw [add_block]; exact hn253_0) | exact hn253_0) (.string t248)).trans hx253_0; replace hx253_1 := (cell_far (p := ⟨gb252, 0, none⟩) (by first | (rw [add_block]; exact hn253_0) | (show (Addr.add _ _).block ≠ _; rw [add_block]; exact hn253_0) | exact hn253_0) (.string t248)).trans hx253_1; replace hx253_0 := (cell_far (p := ⟨gb252, 1, none⟩) (by first | (rw [add_block]; exact hn253_1) | (show (Addr.add _ _).block ≠ _; rw [add_block]; exact hn253_1) | exact hn253_1) (.string t249)).trans hx253_0; replace hx253_1 := (cell_far (p := ⟨gb252, 1, none⟩) (by first | (rw [add_block]; exact hn253_1) | (show (Addr.add _ _).block ≠ _; rw [add_block]; exact hn253_1) | exact hn253_1) (.string t249)).trans hx253_1; (try have hy253_0 := fun (n_ : Nat) => (show ((((w37.drewN n_).setCell ⟨gb252, 0, none⟩ (.string t248)).setCell ⟨gb252, 1, none⟩ (.string t249))).cell? _ = some _ from hx253_0)); (try have hy253_1 := fun (n_ : Nat) => (show ((((w37.drewN n_).setCell ⟨gb252, 0, none⟩ (.string t248)).setCell ⟨gb252, 1, none⟩ (.string t249))).cell? _ = some _ from hx253_1)); clear hn253_0; clear hn253_1; replace p253 := eq_true p253; replace q253 := eq_true q253; have p254 : 0 ≤ (x12_2 : Int) := of_decide_eq_true (by first | (with_reducible assumption) | assumption); have q254 : x12_2 < (x8_1.length : Int) := of_decide_eq_true (by first | (with_reducible assumption) | assumption); obtain ⟨ad254, e254, hx254_0, hx254_1⟩ := at_T23 (Kd.R_reads' HO_8.out).2.2 x12_2 p254 q254; obtain rfl : ad253 = ad254 := (by injection e254); have hn254_0 : ad253.block ≠ gb252 := Kd.own_blk (by first | exact Kd.R_ne HO_8.out BK252.out (by decide) | exact (fun e_ => (HO_8.out.1 _ e_.symm).2 rfl)); have hn254_1 : ad253.block ≠ gb252 := Kd.own_blk (by first | exact Kd.R_ne HO_8.out BK252.out (by decide) | exact (fun e_ => (HO_8.out.1 _ e_.symm).2 rfl)); replace hx254_0 := (cell_far (p := ⟨gb252, 0, none⟩) (by first | (rw [add_block]; exact hn254_0) | (show (Addr.add _ _).block ≠ _; rw [add_block]; exact hn254_0) | exact hn254_0) (.string t248)).trans hx254_0; replace hx254_1 := (cell_far (p := ⟨gb252, 0, none⟩) (by first | (rw [add_block]; exact hn254_0) | (show (Addr.add _ _).block ≠ _; rw [add_block]; exact hn254_0) | exact hn254_0) (.string t248)).trans hx254_1; replace hx254_0 := (cell_far (p := ⟨gb252, 1, none⟩) (by first | (rw [add_block]; exact hn254_1) | (show (Addr.add _ _).block ≠ _; rw [add_block]; exact hn254_1) | exact hn254_1) (.string t249)).trans hx254_0; replace hx254_1 := (cell_far (p := ⟨gb252, 1, none⟩) (by first | (rw [add_block]; exact hn254_1) | (show (Addr.add _ _).block ≠ _; rw [add_block]; exact hn254_1) | exact hn254_1) (.string t249)).trans hx254_1; (try have hy254_0 := fun (n_ : Nat) => (show ((((w37.drewN n_).setCell ⟨gb252, 0, none⟩ (.string t248)).setCell ⟨gb252, 1, none⟩ (.string t249))).cell? _ = some _ from hx254_0)); (try have hy254_1 := fun (n_ : Nat) => (show ((((w37.drewN n_).setCell ⟨gb252, 0, none⟩ (.string t248)).setCell ⟨gb252, 1, none⟩ (.string t249))).cell? _ = some _ from hx254_1)); clear hn254_0; clear hn254_1; replace p254 := eq_true p254; replace q254 := eq_true q254))
                                    repeat (go_quiet (first | (go_at_call 12; (with_reducible refine (ipdu_Get.calls k2 x7_2 a1 a2 t248 t249 t250 t251 _ ?side1 A24.out).mono ?_); (case side1 => first | ((refine Glob.keep HG.out ?_); (repeat (first | (with_reducible first | exact HB.out | apply below_alloc | apply pw_below_drewN | apply below_drew1) | exact HB.out)); done) | exact HG.out); rintro e w36 ⟨rfl, hb⟩; have n0_ := Aside0.mk (Kd.R_below (by (with_reducible repeat (first | apply Kd.R_alloc | apply Kd.R_drewN | apply Kd.R_drew)); exact HO_8.out) hb); have n1_ := Aside0.mk (below_step (by repeat (first | (with_reducible first | exact HB.out | apply below_alloc | apply pw_below_drewN | apply below_drew1) | exact HB.out)) hb); clear HO_8; clear HB; have HO_8 := n0_; have HB := n1_; clear n0_ n1_; (try clear hb); (try clear hb2); (try clear hk); (try clear hi)) | ((with_reducible refine gate_dst (N := 13) rfl ?_); (try (refine gate_guard (by rfl) ?_; dsimp only)); refine box_event ?hg (N := 13) ?hd (cs := #[.string (⟨#[]⟩ : ByteArray), .string (⟨#[]⟩ : ByteArray)]) (t := 23) ?hr ?_; (case hd => rfl); (case hg => rfl); (case hr => first | (go_simp; done) | (go_simp; rfl)); intro gb252 hg w37 hbox hb; have n0_ := Aside0.mk (Kd.R_below (Kd.R_elderB (by (with_reducible repeat (first | apply Kd.R_alloc | apply Kd.R_drewN | apply Kd.R_drew)); exact HO_8.out) gb252 (Nat.le_of_eq hg.symm)) hb); have n1_ := Aside0.mk (below_step (by repeat (first | (with_reducible first | exact HB.out | apply below_alloc | apply pw_below_drewN | apply below_drew1) | exact HB.out)) hb); have n2_ := Aside0.mk (hbox); have n3_ := Aside0.mk ((by rw [hg]; exact (below_size (by repeat (first | (with_reducible first | exact HB.out | apply below_alloc | apply pw_below_drewN | apply below_drew1) | exact HB.out))) : w.heap.size ≤ gb252)); have n4_ := Aside0.mk ((by rw [hg]; exact (below_size (by repeat (first | (with_reducible first | exact HB.out | apply below_alloc | apply pw_below_drewN | apply below_drew1) | exact HB.out))) : w.heap.size ≤ gb252)); clear HO_8; clear HB; have HO_8 := n0_; have HB := n1_; have BK252 := n2_; have GW252 := n3_; have GE252 := n4_; clear n0_ n1_ n2_ n3_ n4_; clear hb hbox hg; have hcz38_0 : w37.cell? ⟨gb252, 0, none⟩ = some (.string (⟨#[]⟩ : ByteArray)) := (blk_cell BK252.out 0).trans rfl; have hcz38_1 : w37.cell? ⟨gb252, 1, none⟩ = some (.string (⟨#[]⟩ : ByteArray)) := (blk_cell BK252.out 1).trans rfl; have hfz38_0 := blk_frozen BK252.out 0; have hfz38_1 := blk_frozen BK252.out 1; have p253 : 0 ≤ (x12_2 : Int) := of_decide_eq_true (by first | (with_reducible assumption) | assumption); have q253 : x12_2 < (x8_1.length : Int) := of_decide_eq_true (by first | (with_reducible assumption) | assumption); obtain ⟨ad253, e253, hx253_0, hx253_1⟩ := at_T23 (Kd.R_reads' HO_8.out).2.2 x12_2 p253 q253; cases e253; have hn253_0 : ad253.block ≠ gb252 := Kd.own_blk (by first | exact Kd.R_ne HO_8.out BK252.out (by decide) | exact (fun e_ => (HO_8.out.1 _ e_.symm).2 rfl)); have hn253_1 : ad253.block ≠ gb252 := Kd.own_blk (by first | exact Kd.R_ne HO_8.out BK252.out (by decide) | exact (fun e_ => (HO_8.out.1 _ e_.symm).2 rfl)); replace hx253_0 := (cell_far (p := ⟨gb252, 0, none⟩) (by first | (rw [add_block]; exact hn253_0) | (show (Addr.add _ _).block ≠ _; rw [add_block]; exact hn253_0) | exact hn253_0) (.string t248)).trans hx253_0; replace hx253_1 := (cell_far (p := ⟨gb252, 0, none⟩) (by first | (rw [add_block]; exact hn253_0) | (show (Addr.add _ _).block ≠ _; rw [add_block]; exact hn253_0) | exact hn253_0) (.string t248)).trans hx253_1; replace hx253_0 := (cell_far (p := ⟨gb252, 1, none⟩) (by first | (rw [add_block]; exact hn253_1) | (show (Addr.add _ _).block ≠ _; rw [add_block]; exact hn253_1) | exact hn253_1) (.string t249)).trans hx253_0; replace hx253_1 := (cell_far (p := ⟨gb252, 1, none⟩) (by first | (rw [add_block]; exact hn253_1) | (show (Addr.add _ _).block ≠ _; rw [add_block]; exact hn253_1) | exact hn253_1) (.string t249)).trans hx253_1; (try have hy253_0 := fun (n_ : Nat) => (show ((((w37.drewN n_).setCell ⟨gb252, 0, none⟩ (.string t248)).setCell ⟨gb252, 1, none⟩ (.string t249))).cell? _ = some _ from hx253_0)); (try have hy253_1 := fun (n_ : Nat) => (show ((((w37.drewN n_).setCell ⟨gb252, 0, none⟩ (.string t248)).setCell ⟨gb252, 1, none⟩ (.string t249))).cell? _ = some _ from hx253_1)); clear hn253_0; clear hn253_1; replace p253 := eq_true p253; replace q253 := eq_true q253; have p254 : 0 ≤ (x12_2 : Int) := of_decide_eq_true (by first | (with_reducible assumption) | assumption); have q254 : x12_2 < (x8_1.length : Int) := of_decide_eq_true (by first | (with_reducible assumption) | assumption); obtain ⟨ad254, e254, hx254_0, hx254_1⟩ := at_T23 (Kd.R_reads' HO_8.out).2.2 x12_2 p254 q254; obtain rfl : ad253 = ad254 := (by injection e254); have hn254_0 : ad253.block ≠ gb252 := Kd.own_blk (by first | exact Kd.R_ne HO_8.out BK252.out (by decide) | exact (fun e_ => (HO_8.out.1 _ e_.symm).2 rfl)); have hn254_1 : ad253.block ≠ gb252 := Kd.own_blk (by first | exact Kd.R_ne HO_8.out BK252.out (by decide) | exact (fun e_ => (HO_8.out.1 _ e_.symm).2 rfl)); replace hx254_0 := (cell_far (p := ⟨gb252, 0, none⟩) (by first | (rw [add_block]; exact hn254_0) | (show (Addr.add _ _).block ≠ _; rw [add_block]; exact hn254_0) | exact hn254_0) (.string t248)).trans hx254_0; replace hx254_1 := (cell_far (p := ⟨gb252, 0, none⟩) (by first | (rw [add_block]; exact hn254_0) | (show (Addr.add _ _).block ≠ _; rw [add_block]; exact hn254_0) | exact hn254_0) (.string t248)).trans hx254_1; replace hx254_0 := (cell_far (p := ⟨gb252, 1, none⟩) (by first | (rw [add_block]; exact hn254_1) | (show (Addr.add _ _).block ≠ _; rw [add_block]; exact hn254_1) | exact hn254_1) (.string t249)).trans hx254_0; replace hx254_1 := (cell_far (p := ⟨gb252, 1, none⟩) (by first | (rw [add_block]; exact hn254_1) | (show (Addr.add _ _).block ≠ _; rw [add_block]; exact hn254_1) | exact hn254_1) (.string t249)).trans hx254_1; (try have hy254_0 := fun (n_ : Nat) => (show ((((w37.drewN n_).setCell ⟨gb252, 0, none⟩ (.string t248)).setCell ⟨gb252, 1, none⟩ (.string t249))).cell? _ = some _ from hx254_0)); (try have hy254_1 := fun (n_ : Nat) => (show ((((w37.drewN n_).setCell ⟨gb252, 0, none⟩ (.string t248)).setCell ⟨gb252, 1, none⟩ (.string t249))).cell? _ = some _ from hx254_1)); clear hn254_0; clear hn254_1; replace p254 := eq_true p254; replace q254 := eq_true q254)); try go_wp2_with (first | (go_at_call 12; (with_reducible refine (ipdu_Get.calls k2 x7_2 a1 a2 t248 t249 t250 t251 _ ?side1 A24.out).mono ?_); (case side1 => first | ((refine Glob.keep HG.out ?_); (repeat (first | (with_reducible first | exact HB.out | apply below_alloc | apply pw_below_drewN | apply below_drew1) | exact HB.out)); done) | exact HG.out); rintro e w36 ⟨rfl, hb⟩; have n0_ := Aside0.mk (Kd.R_below (by (with_reducible repeat (first | apply Kd.R_alloc | apply Kd.R_drewN | apply Kd.R_drew)); exact HO_8.out) hb); have n1_ := Aside0.mk (below_step (by repeat (first | (with_reducible first | exact HB.out | apply below_alloc | apply pw_below_drewN | apply below_drew1) | exact HB.out)) hb); clear HO_8; clear HB; have HO_8 := n0_; have HB := n1_; clear n0_ n1_; (try clear hb); (try clear hb2); (try clear hk); (try clear hi)) | ((with_reducible refine gate_dst (N := 13) rfl ?_); (try (refine gate_guard (by rfl) ?_; dsimp only)); refine box_event ?hg (N := 13) ?hd (cs := #[.string (⟨#[]⟩ : ByteArray), .string (⟨#[]⟩ : ByteArray)]) (t := 23) ?hr ?_; (case hd => rfl); (case hg => rfl); (case hr => first | (go_simp; done) | (go_simp; rfl)); intro gb252 hg w37 hbox hb; have n0_ := Aside0.mk (Kd.R_below (Kd.R_elderB (by (with_reducible repeat (first | apply Kd.R_alloc | apply Kd.R_drewN | apply Kd.R_drew)); exact HO_8.out) gb252 (Nat.le_of_eq hg.symm)) hb); have n1_ := Aside0.mk (below_step (by repeat (first | (with_reducible first | exact HB.out | apply below_alloc | apply pw_below_drewN | apply below_drew1) | exact HB.out)) hb); have n2_ := Aside0.mk (hbox); have n3_ := Aside0.mk ((by rw [hg]; exact (below_size (by repeat (first | (with_reducible first | exact HB.out | apply below_alloc | apply pw_below_drewN | apply below_drew1) | exact HB.out))) : w.heap.size ≤ gb252)); have n4_ := Aside0.mk ((by rw [hg]; exact (below_size (by repeat (first | (with_reducible first | exact HB.out | apply below_alloc | apply pw_below_drewN | apply below_drew1) | exact HB.out))) : w.heap.size ≤ gb252)); clear HO_8; clear HB; have HO_8 := n0_; have HB := n1_; have BK252 := n2_; have GW252 := n3_; have GE252 := n4_; clear n0_ n1_ n2_ n3_ n4_; clear hb hbox hg; have hcz38_0 : w37.cell? ⟨gb252, 0, none⟩ = some (.string (⟨#[]⟩ : ByteArray)) := (blk_cell BK252.out 0).trans rfl; have hcz38_1 : w37.cell? ⟨gb252, 1, none⟩ = some (.string (⟨#[]⟩ : ByteArray)) := (blk_cell BK252.out 1).trans rfl; have hfz38_0 := blk_frozen BK252.out 0; have hfz38_1 := blk_frozen BK252.out 1; have p253 : 0 ≤ (x12_2 : Int) := of_decide_eq_true (by first | (with_reducible assumption) | assumption); have q253 : x12_2 < (x8_1.length : Int) := of_decide_eq_true (by first | (with_reducible assumption) | assumption); obtain ⟨ad253, e253, hx253_0, hx253_1⟩ := at_T23 (Kd.R_reads' HO_8.out).2.2 x12_2 p253 q253; cases e253; have hn253_0 : ad253.block ≠ gb252 := Kd.own_blk (by first | exact Kd.R_ne HO_8.out BK252.out (by decide) | exact (fun e_ => (HO_8.out.1 _ e_.symm).2 rfl)); have hn253_1 : ad253.block ≠ gb252 := Kd.own_blk (by first | exact Kd.R_ne HO_8.out BK252.out (by decide) | exact (fun e_ => (HO_8.out.1 _ e_.symm).2 rfl)); replace hx253_0 := (cell_far (p := ⟨gb252, 0, none⟩) (by first | (rw [add_block]; exact hn253_0) | (show (Addr.add _ _).block ≠ _; rw [add_block]; exact hn253_0) | exact hn253_0) (.string t248)).trans hx253_0; replace hx253_1 := (cell_far (p := ⟨gb252, 0, none⟩) (by first | (rw [add_block]; exact hn253_0) | (show (Addr.add _ _).block ≠ _; rw [add_block]; exact hn253_0) | exact hn253_0) (.string t248)).trans hx253_1; replace hx253_0 := (cell_far (p := ⟨gb252, 1, none⟩) (by first | (rw [add_block]; exact hn253_1) | (show (Addr.add _ _).block ≠ _; rw [add_block]; exact hn253_1) | exact hn253_1) (.string t249)).trans hx253_0; replace hx253_1 := (cell_far (p := ⟨gb252, 1, none⟩) (by first | (rw [add_block]; exact hn253_1) | (show (Addr.add _ _).block ≠ _; rw [add_block]; exact hn253_1) | exact hn253_1) (.string t249)).trans hx253_1; (try have hy253_0 := fun (n_ : Nat) => (show ((((w37.drewN n_).setCell ⟨gb252, 0, none⟩ (.string t248)).setCell ⟨gb252, 1, none⟩ (.string t249))).cell? _ = some _ from hx253_0)); (try have hy253_1 := fun (n_ : Nat) => (show ((((w37.drewN n_).setCell ⟨gb252, 0, none⟩ (.string t248)).setCell ⟨gb252, 1, none⟩ (.string t249))).cell? _ = some _ from hx253_1)); clear hn253_0; clear hn253_1; replace p253 := eq_true p253; replace q253 := eq_true q253; have p254 : 0 ≤ (x12_2 : Int) := of_decide_eq_true (by first | (with_reducible assumption) | assumption); have q254 : x12_2 < (x8_1.length : Int) := of_decide_eq_true (by first | (with_reducible assumption) | assumption); obtain ⟨ad254, e254, hx254_0, hx254_1⟩ := at_T23 (Kd.R_reads' HO_8.out).2.2 x12_2 p254 q254; obtain rfl : ad253 = ad254 := (by injection e254); have hn254_0 : ad253.block ≠ gb252 := Kd.own_blk (by first | exact Kd.R_ne HO_8.out BK252.out (by decide) | exact (fun e_ => (HO_8.out.1 _ e_.symm).2 rfl)); have hn254_1 : ad253.block ≠ gb252 := Kd.own_blk (by first | exact Kd.R_ne HO_8.out BK252.out (by decide) | exact (fun e_ => (HO_8.out.1 _ e_.symm).2 rfl)); replace hx254_0 := (cell_far (p := ⟨gb252, 0, none⟩) (by first | (rw [add_block]; exact hn254_0) | (show (Addr.add _ _).block ≠ _; rw [add_block]; exact hn254_0) | exact hn254_0) (.string t248)).trans hx254_0; replace hx254_1 := (cell_far (p := ⟨gb252, 0, none⟩) (by first | (rw [add_block]; exact hn254_0) | (show (Addr.add _ _).block ≠ _; rw [add_block]; exact hn254_0) | exact hn254_0) (.string t248)).trans hx254_1; replace hx254_0 := (cell_far (p := ⟨gb252, 1, none⟩) (by first | (rw [add_block]; exact hn254_1) | (show (Addr.add _ _).block ≠ _; rw [add_block]; exact hn254_1) | exact hn254_1) (.string t249)).trans hx254_0; replace hx254_1 := (cell_far (p := ⟨gb252, 1, none⟩) (by first | (rw [add_block]; exact hn254_1) | (show (Addr.add _ _).block ≠ _; rw [add_block]; exact hn254_1) | exact hn254_1) (.string t249)).trans hx254_1; (try have hy254_0 := fun (n_ : Nat) => (show ((((w37.drewN n_).setCell ⟨gb252, 0, none⟩ (.string t248)).setCell ⟨gb252, 1, none⟩ (.string t249))).cell? _ = some _ from hx254_0)); (try have hy254_1 := fun (n_ : Nat) => (show ((((w37.drewN n_).setCell ⟨gb252, 0, none⟩ (.string t248)).setCell ⟨gb252, 1, none⟩ (.string t249))).cell? _ = some _ from hx254_1)); clear hn254_0; clear hn254_1; replace p254 := eq_true p254; replace q254 := eq_true q254)))
                                    go_roundg k2
                                    case measure => have := HK1.out; have := HK2.out; omega
                                    case rel => exact ⟨(x7_2.extract (t250 : Int).toNat x7_2.size), (wrap64 (x12_2 + 1)), (by first | rfl | (simp; done) | (simp [*]; done)), (by first | rfl | (simp; done) | (simp [*]; done)), H', ⟨by have := HK1.out; have := HK2.out; omega⟩, ⟨by (with_reducible repeat (first | apply Kd.R_alloc | apply Kd.R_drewN | apply Kd.R_drew)); exact Kd.R_mono (Kd.R_far (p := ⟨gb252, 1, none⟩) (Kd.R_far (p := ⟨gb252, 0, none⟩) (Kd.R_mono HO_8.out (fun k_ hk => (⟨hk, hk.2⟩ : _ ∧ k_ ≠ gb252))) (fun _ hk => hk.2) (.string t248)) (fun _ hk => hk.2) (.string t249)) (fun _ hk => trivial)⟩, ⟨by repeat (first | (with_reducible first | exact HB.out | apply below_alloc | apply pw_below_drewN | apply below_drew1 | refine below_set ?_ GE252.out) | exact HB.out)⟩⟩
                                  · rw [if_neg c34] at H
                                    exact absurd H (by simp)
                                · rw [if_neg c33] at H
                                  exact absurd H (by simp)
                              · rw [if_neg c32] at H
                                have c32b0 : ((t248.extract 8 t248.size).toList == (((rd_T23 x8_1 x12_2).f0).extract 8 ((rd_T23 x8_1 x12_2).f0).size).toList) = false := beq_eq_false_iff_ne.mpr c32
                                have c32b1 : ((t248.extract 8 t248.size).toList != (((rd_T23 x8_1 x12_2).f0).extract 8 ((rd_T23 x8_1 x12_2).f0).size).toList) = true := bne_iff_ne.mpr c32
                                exact absurd ((Option.some.inj H).trans HT0.out) (by decide)
                            · rw [if_neg c31] at H
                              exact absurd H (by simp)
                          · rw [if_neg c30] at H
                            exact absurd H (by simp)
                        · rw [if_neg c29] at H
                          have c29b0 : (t249.toList == ((rd_T23 x8_1 x12_2).f1).toList) = false := beq_eq_false_iff_ne.mpr c29
                          have c29b1 : (t249.toList != ((rd_T23 x8_1 x12_2).f1).toList) = true := bne_iff_ne.mpr c29
                          exact absurd ((Option.some.inj H).trans HT0.out) (by decide)
                      · rw [if_neg c28] at H
                        exact absurd H (by simp)
                · rw [if_neg c25] at H
                  have c25b0 : (t251 == 0) = false := beq_eq_false_iff_ne.mpr c25
                  have c25b1 : (t251 != 0) = true := bne_iff_ne.mpr c25
                  exact absurd ((Option.some.inj H).trans HT0.out) (by decide)
              · rw [if_neg c23] at H
                have c23b0 : decide (x12_2 < (x8_1.length : Int)) = false := decide_eq_false c23
                clear c23
                by_cases c39 : x7_2.toList = ([] : List UInt8)
                · rw [if_pos c39] at H
                  have c39b0 : (x7_2.toList == ([] : List UInt8)) = true := beq_iff_eq.mpr c39
                  have c39b1 : (x7_2.toList != ([] : List UInt8)) = false := bne_eq_false_iff_eq.mpr c39
                  (try (have c39b2 : (x7_2 = ByteArray.empty) = True := eq_true (by have h_ := c39; rw [ByteArray.toList_eq] at h_; exact ByteArray.ext (Array.toList_eq_nil_iff.mp h_))))
                  clear c39
                  replace H := Option.bind_eq_some_iff.mp H
                  obtain ⟨t255, A400, H⟩ := H
                  replace H : (some t255) = some r := H
                  have A40 := Aside0.mk A400
                  clear A400
                  obtain rfl := Option.some.inj H
                  obtain ⟨Ao41, co41, eo41⟩ := Kd.R_slice HO_8.out
                  subst eo41
                  go_wp2_with (first | (go_at_call 9; (with_reducible refine (headgatelaw20_wakes.calls k2  t255 _ ?side1 A40.out).mono ?_); (case side1 => first | ((refine Glob.keep HG.out ?_); (repeat (first | (with_reducible first | exact HB.out | apply below_alloc | apply pw_below_drewN | apply below_drew1) | exact HB.out)); done) | exact HG.out); rintro e w42 ⟨rfl, hb⟩; have n0_ := Aside0.mk (Kd.R_below (by (with_reducible repeat (first | apply Kd.R_alloc | apply Kd.R_drewN | apply Kd.R_drew)); exact HO_8.out) hb); have n1_ := Aside0.mk (below_step (by repeat (first | (with_reducible first | exact HB.out | apply below_alloc | apply pw_below_drewN | apply below_drew1) | exact HB.out)) hb); clear HO_8; clear HB; have HO_8 := n0_; have HB := n1_; clear n0_ n1_; (try clear hb); (try clear hb2); (try clear hk); (try clear hi)))
                  repeat (go_quiet (first | (go_at_call 9; (with_reducible refine (headgatelaw20_wakes.calls k2  t255 _ ?side1 A40.out).mono ?_); (case side1 => first | ((refine Glob.keep HG.out ?_); (repeat (first | (with_reducible first | exact HB.out | apply below_alloc | apply pw_below_drewN | apply below_drew1) | exact HB.out)); done) | exact HG.out); rintro e w42 ⟨rfl, hb⟩; have n0_ := Aside0.mk (Kd.R_below (by (with_reducible repeat (first | apply Kd.R_alloc | apply Kd.R_drewN | apply Kd.R_drew)); exact HO_8.out) hb); have n1_ := Aside0.mk (below_step (by repeat (first | (with_reducible first | exact HB.out | apply below_alloc | apply pw_below_drewN | apply below_drew1) | exact HB.out)) hb); clear HO_8; clear HB; have HO_8 := n0_; have HB := n1_; clear n0_ n1_; (try clear hb); (try clear hb2); (try clear hk); (try clear hi))); try go_wp2_with (first | (go_at_call 9; (with_reducible refine (headgatelaw20_wakes.calls k2  t255 _ ?side1 A40.out).mono ?_); (case side1 => first | ((refine Glob.keep HG.out ?_); (repeat (first | (with_reducible first | exact HB.out | apply below_alloc | apply pw_below_drewN | apply below_drew1) | exact HB.out)); done) | exact HG.out); rintro e w42 ⟨rfl, hb⟩; have n0_ := Aside0.mk (Kd.R_below (by (with_reducible repeat (first | apply Kd.R_alloc | apply Kd.R_drewN | apply Kd.R_drew)); exact HO_8.out) hb); have n1_ := Aside0.mk (below_step (by repeat (first | (with_reducible first | exact HB.out | apply below_alloc | apply pw_below_drewN | apply below_drew1) | exact HB.out)) hb); clear HO_8; clear HB; have HO_8 := n0_; have HB := n1_; clear n0_ n1_; (try clear hb); (try clear hb2); (try clear hk); (try clear hi))))
                  go_ret
                  exact ⟨by first | rfl | (simp [errW_none, errW_some] <;> rfl) | (simp [*, errW_none, errW_some] <;> rfl), by repeat (first | (with_reducible first | exact HB.out | apply below_alloc | apply pw_below_drewN | apply below_drew1) | exact HB.out)⟩
                · rw [if_neg c39] at H
                  have c39b0 : (x7_2.toList == ([] : List UInt8)) = false := beq_eq_false_iff_ne.mpr c39
                  have c39b1 : (x7_2.toList != ([] : List UInt8)) = true := bne_iff_ne.mpr c39
                  (try (have c39b2 : (x7_2 = ByteArray.empty) = False := eq_false (fun h_ => c39 (by rw [h_, ByteArray.toList_eq]; rfl))))
                  exact absurd ((Option.some.inj H).trans HT0.out) (by decide)

/-! ### ipdu_Kind: function 15 -/
def ipdu_Kind.f (a0_0 : ByteArray) (a0_1 : ByteArray) : Option (Int × Bool) := if a0_0.toList = ([] : List UInt8) then (some (0, false)) else (if 0 < (a0_0.size : Int) then (some (wrap64 (Go.bits .and .u8 (bt a0_0 0) 63), ((Go.bits .and .u8 (bt a0_0 0) 64) != 0))) else (none))
set_option maxHeartbeats 8000000 in
set_option maxRecDepth 100000 in
theorem ipdu_Kind.calls (a0_0 : ByteArray) (a0_1 : ByteArray) (r1 : Int) (r2 : Bool) (w : World) (h : ipdu_Kind.f a0_0 a0_1 = some (r1, r2)) :
    Calls Tryd.prog 15 #[.agg #[.string a0_0, .string a0_1]] w fun e w' => e = .returned (.tuple #[.int .i64 r1, .bool r2]) ∧ Below w.heap.size w w' := by
  have hu23 := Tryd.underlying23
  have HB := Aside0.mk (Below.refl w.heap.size w)
  have H : (if a0_0.toList = ([] : List UInt8) then (some (0, false)) else (if 0 < (a0_0.size : Int) then (some (wrap64 (Go.bits .and .u8 (bt a0_0 0) 63), ((Go.bits .and .u8 (bt a0_0 0) 64) != 0))) else (none))) = some (r1, r2) := h
  clear h
  by_cases c2 : a0_0.toList = ([] : List UInt8)
  · rw [if_pos c2] at H
    have c2b0 : (a0_0.toList == ([] : List UInt8)) = true := beq_iff_eq.mpr c2
    have c2b1 : (a0_0.toList != ([] : List UInt8)) = false := bne_eq_false_iff_eq.mpr c2
    (try (have c2b2 : (a0_0 = ByteArray.empty) = True := eq_true (by have h_ := c2; rw [ByteArray.toList_eq] at h_; exact ByteArray.ext (Array.toList_eq_nil_iff.mp h_))))
    clear c2
    simp only [Option.some.injEq, Prod.mk.injEq] at H
    obtain ⟨rfl, rfl⟩ := H
    go_enter Tryd.func15, Tryd.ntmps15
    go_wp2_with (first | ((with_reducible refine gate_dst (N := 1) rfl ?_); refine box_event ?hg (N := 1) ?hd (cs := #[.string a0_0, .string a0_1]) (t := 23) ?hr ?_; (case hd => rfl); (case hg => rfl); (case hr => first | (go_simp; done) | (go_simp; rfl)); intro gb256 hg w3 hbox hb; have n0_ := Aside0.mk (below_step (by repeat (first | (with_reducible first | exact HB.out | apply below_alloc | apply pw_below_drewN | apply below_drew1) | exact HB.out)) hb); have n1_ := Aside0.mk (hbox); have n2_ := Aside0.mk ((by rw [hg]; exact (below_size (by repeat (first | (with_reducible first | exact HB.out | apply below_alloc | apply pw_below_drewN | apply below_drew1) | exact HB.out))) : w.heap.size ≤ gb256)); have n3_ := Aside0.mk ((by rw [hg]; exact (below_size (by repeat (first | (with_reducible first | exact HB.out | apply below_alloc | apply pw_below_drewN | apply below_drew1) | exact HB.out))) : w.heap.size ≤ gb256)); clear HB; have HB := n0_; have BK256 := n1_; have GW256 := n2_; have GE256 := n3_; clear n0_ n1_ n2_ n3_; clear hb hbox hg; have hcz4_0 : w3.cell? ⟨gb256, 0, none⟩ = some (.string a0_0) := (blk_cell BK256.out 0).trans rfl; have hcz4_1 : w3.cell? ⟨gb256, 1, none⟩ = some (.string a0_1) := (blk_cell BK256.out 1).trans rfl; have hfz4_0 := blk_frozen BK256.out 0; have hfz4_1 := blk_frozen BK256.out 1))
    repeat (go_quiet (first | ((with_reducible refine gate_dst (N := 1) rfl ?_); refine box_event ?hg (N := 1) ?hd (cs := #[.string a0_0, .string a0_1]) (t := 23) ?hr ?_; (case hd => rfl); (case hg => rfl); (case hr => first | (go_simp; done) | (go_simp; rfl)); intro gb256 hg w3 hbox hb; have n0_ := Aside0.mk (below_step (by repeat (first | (with_reducible first | exact HB.out | apply below_alloc | apply pw_below_drewN | apply below_drew1) | exact HB.out)) hb); have n1_ := Aside0.mk (hbox); have n2_ := Aside0.mk ((by rw [hg]; exact (below_size (by repeat (first | (with_reducible first | exact HB.out | apply below_alloc | apply pw_below_drewN | apply below_drew1) | exact HB.out))) : w.heap.size ≤ gb256)); have n3_ := Aside0.mk ((by rw [hg]; exact (below_size (by repeat (first | (with_reducible first | exact HB.out | apply below_alloc | apply pw_below_drewN | apply below_drew1) | exact HB.out))) : w.heap.size ≤ gb256)); clear HB; have HB := n0_; have BK256 := n1_; have GW256 := n2_; have GE256 := n3_; clear n0_ n1_ n2_ n3_; clear hb hbox hg; have hcz4_0 : w3.cell? ⟨gb256, 0, none⟩ = some (.string a0_0) := (blk_cell BK256.out 0).trans rfl; have hcz4_1 : w3.cell? ⟨gb256, 1, none⟩ = some (.string a0_1) := (blk_cell BK256.out 1).trans rfl; have hfz4_0 := blk_frozen BK256.out 0; have hfz4_1 := blk_frozen BK256.out 1)); try go_wp2_with (first | ((with_reducible refine gate_dst (N := 1) rfl ?_); refine box_event ?hg (N := 1) ?hd (cs := #[.string a0_0, .string a0_1]) (t := 23) ?hr ?_; (case hd => rfl); (case hg => rfl); (case hr => first | (go_simp; done) | (go_simp; rfl)); intro gb256 hg w3 hbox hb; have n0_ := Aside0.mk (below_step (by repeat (first | (with_reducible first | exact HB.out | apply below_alloc | apply pw_below_drewN | apply below_drew1) | exact HB.out)) hb); have n1_ := Aside0.mk (hbox); have n2_ := Aside0.mk ((by rw [hg]; exact (below_size (by repeat (first | (with_reducible first | exact HB.out | apply below_alloc | apply pw_below_drewN | apply below_drew1) | exact HB.out))) : w.heap.size ≤ gb256)); have n3_ := Aside0.mk ((by rw [hg]; exact (below_size (by repeat (first | (with_reducible first | exact HB.out | apply below_alloc | apply pw_below_drewN | apply below_drew1) | exact HB.out))) : w.heap.size ≤ gb256)); clear HB; have HB := n0_; have BK256 := n1_; have GW256 := n2_; have GE256 := n3_; clear n0_ n1_ n2_ n3_; clear hb hbox hg; have hcz4_0 : w3.cell? ⟨gb256, 0, none⟩ = some (.string a0_0) := (blk_cell BK256.out 0).trans rfl; have hcz4_1 : w3.cell? ⟨gb256, 1, none⟩ = some (.string a0_1) := (blk_cell BK256.out 1).trans rfl; have hfz4_0 := blk_frozen BK256.out 0; have hfz4_1 := blk_frozen BK256.out 1)))
    go_ret2
    exact ⟨by first | rfl | (simp [errW_none, errW_some] <;> rfl) | (simp [*, errW_none, errW_some] <;> rfl), by repeat (first | (with_reducible first | exact HB.out | apply below_alloc | apply pw_below_drewN | apply below_drew1 | refine below_set ?_ GE256.out) | exact HB.out)⟩
  · rw [if_neg c2] at H
    have c2b0 : (a0_0.toList == ([] : List UInt8)) = false := beq_eq_false_iff_ne.mpr c2
    have c2b1 : (a0_0.toList != ([] : List UInt8)) = true := bne_iff_ne.mpr c2
    (try (have c2b2 : (a0_0 = ByteArray.empty) = False := eq_false (fun h_ => c2 (by rw [h_, ByteArray.toList_eq]; rfl))))
    by_cases c5 : 0 < (a0_0.size : Int)
    · rw [if_pos c5] at H
      have c5b0 : decide (0 < (a0_0.size : Int)) = true := decide_eq_true c5
      have c5b1 : decide (0 < a0_0.size) = true := decide_eq_true (by omega)
      clear c5
      simp only [Option.some.injEq, Prod.mk.injEq] at H
      obtain ⟨rfl, rfl⟩ := H
      go_enter Tryd.func15, Tryd.ntmps15
      go_wp2_with (first | ((with_reducible refine gate_dst (N := 1) rfl ?_); refine box_event ?hg (N := 1) ?hd (cs := #[.string a0_0, .string a0_1]) (t := 23) ?hr ?_; (case hd => rfl); (case hg => rfl); (case hr => first | (go_simp; done) | (go_simp; rfl)); intro gb256 hg w8 hbox hb; have n0_ := Aside0.mk (below_step (by repeat (first | (with_reducible first | exact HB.out | apply below_alloc | apply pw_below_drewN | apply below_drew1) | exact HB.out)) hb); have n1_ := Aside0.mk (hbox); have n2_ := Aside0.mk ((by rw [hg]; exact (below_size (by repeat (first | (with_reducible first | exact HB.out | apply below_alloc | apply pw_below_drewN | apply below_drew1) | exact HB.out))) : w.heap.size ≤ gb256)); have n3_ := Aside0.mk ((by rw [hg]; exact (below_size (by repeat (first | (with_reducible first | exact HB.out | apply below_alloc | apply pw_below_drewN | apply below_drew1) | exact HB.out))) : w.heap.size ≤ gb256)); clear HB; have HB := n0_; have BK256 := n1_; have GW256 := n2_; have GE256 := n3_; clear n0_ n1_ n2_ n3_; clear hb hbox hg; have hcz9_0 : w8.cell? ⟨gb256, 0, none⟩ = some (.string a0_0) := (blk_cell BK256.out 0).trans rfl; have hcz9_1 : w8.cell? ⟨gb256, 1, none⟩ = some (.string a0_1) := (blk_cell BK256.out 1).trans rfl; have hfz9_0 := blk_frozen BK256.out 0; have hfz9_1 := blk_frozen BK256.out 1; have p6 : 0 ≤ (0 : Int) := (by omega); have q6 : 0 < a0_0.size := (by have : (0 : Int) < (a0_0.size : Int) := of_decide_eq_true (by first | (with_reducible assumption) | assumption); omega); have hx6 : ∀ h : 0 < a0_0.size, ((a0_0[0]'h).toNat : Int) = bt a0_0 0 := bt_at a0_0 0; clear p6; have qi6 : (0 < (a0_0.size : Int)) = True := eq_true (of_decide_eq_true (by first | (with_reducible assumption) | assumption)); replace q6 := eq_true q6; have p7 : 0 ≤ (0 : Int) := (by omega); have q7 : 0 < a0_0.size := (by have : (0 : Int) < (a0_0.size : Int) := of_decide_eq_true (by first | (with_reducible assumption) | assumption); omega); have hx7 : ∀ h : 0 < a0_0.size, ((a0_0[0]'h).toNat : Int) = bt a0_0 0 := bt_at a0_0 0; clear p7; have qi7 : (0 < (a0_0.size : Int)) = True := eq_true (of_decide_eq_true (by first | (with_reducible assumption) | assumption)); replace q7 := eq_true q7))
      repeat (go_quiet (first | ((with_reducible refine gate_dst (N := 1) rfl ?_); refine box_event ?hg (N := 1) ?hd (cs := #[.string a0_0, .string a0_1]) (t := 23) ?hr ?_; (case hd => rfl); (case hg => rfl); (case hr => first | (go_simp; done) | (go_simp; rfl)); intro gb256 hg w8 hbox hb; have n0_ := Aside0.mk (below_step (by repeat (first | (with_reducible first | exact HB.out | apply below_alloc | apply pw_below_drewN | apply below_drew1) | exact HB.out)) hb); have n1_ := Aside0.mk (hbox); have n2_ := Aside0.mk ((by rw [hg]; exact (below_size (by repeat (first | (with_reducible first | exact HB.out | apply below_alloc | apply pw_below_drewN | apply below_drew1) | exact HB.out))) : w.heap.size ≤ gb256)); have n3_ := Aside0.mk ((by rw [hg]; exact (below_size (by repeat (first | (with_reducible first | exact HB.out | apply below_alloc | apply pw_below_drewN | apply below_drew1) | exact HB.out))) : w.heap.size ≤ gb256)); clear HB; have HB := n0_; have BK256 := n1_; have GW256 := n2_; have GE256 := n3_; clear n0_ n1_ n2_ n3_; clear hb hbox hg; have hcz9_0 : w8.cell? ⟨gb256, 0, none⟩ = some (.string a0_0) := (blk_cell BK256.out 0).trans rfl; have hcz9_1 : w8.cell? ⟨gb256, 1, none⟩ = some (.string a0_1) := (blk_cell BK256.out 1).trans rfl; have hfz9_0 := blk_frozen BK256.out 0; have hfz9_1 := blk_frozen BK256.out 1; have p6 : 0 ≤ (0 : Int) := (by omega); have q6 : 0 < a0_0.size := (by have : (0 : Int) < (a0_0.size : Int) := of_decide_eq_true (by first | (with_reducible assumption) | assumption); omega); have hx6 : ∀ h : 0 < a0_0.size, ((a0_0[0]'h).toNat : Int) = bt a0_0 0 := bt_at a0_0 0; clear p6; have qi6 : (0 < (a0_0.size : Int)) = True := eq_true (of_decide_eq_true (by first | (with_reducible assumption) | assumption)); replace q6 := eq_true q6; have p7 : 0 ≤ (0 : Int) := (by omega); have q7 : 0 < a0_0.size := (by have : (0 : Int) < (a0_0.size : Int) := of_decide_eq_true (by first | (with_reducible assumption) | assumption); omega); have hx7 : ∀ h : 0 < a0_0.size, ((a0_0[0]'h).toNat : Int) = bt a0_0 0 := bt_at a0_0 0; clear p7; have qi7 : (0 < (a0_0.size : Int)) = True := eq_true (of_decide_eq_true (by first | (with_reducible assumption) | assumption)); replace q7 := eq_true q7)); try go_wp2_with (first | ((with_reducible refine gate_dst (N := 1) rfl ?_); refine box_event ?hg (N := 1) ?hd (cs := #[.string a0_0, .string a0_1]) (t := 23) ?hr ?_; (case hd => rfl); (case hg => rfl); (case hr => first | (go_simp; done) | (go_simp; rfl)); intro gb256 hg w8 hbox hb; have n0_ := Aside0.mk (below_step (by repeat (first | (with_reducible first | exact HB.out | apply below_alloc | apply pw_below_drewN | apply below_drew1) | exact HB.out)) hb); have n1_ := Aside0.mk (hbox); have n2_ := Aside0.mk ((by rw [hg]; exact (below_size (by repeat (first | (with_reducible first | exact HB.out | apply below_alloc | apply pw_below_drewN | apply below_drew1) | exact HB.out))) : w.heap.size ≤ gb256)); have n3_ := Aside0.mk ((by rw [hg]; exact (below_size (by repeat (first | (with_reducible first | exact HB.out | apply below_alloc | apply pw_below_drewN | apply below_drew1) | exact HB.out))) : w.heap.size ≤ gb256)); clear HB; have HB := n0_; have BK256 := n1_; have GW256 := n2_; have GE256 := n3_; clear n0_ n1_ n2_ n3_; clear hb hbox hg; have hcz9_0 : w8.cell? ⟨gb256, 0, none⟩ = some (.string a0_0) := (blk_cell BK256.out 0).trans rfl; have hcz9_1 : w8.cell? ⟨gb256, 1, none⟩ = some (.string a0_1) := (blk_cell BK256.out 1).trans rfl; have hfz9_0 := blk_frozen BK256.out 0; have hfz9_1 := blk_frozen BK256.out 1; have p6 : 0 ≤ (0 : Int) := (by omega); have q6 : 0 < a0_0.size := (by have : (0 : Int) < (a0_0.size : Int) := of_decide_eq_true (by first | (with_reducible assumption) | assumption); omega); have hx6 : ∀ h : 0 < a0_0.size, ((a0_0[0]'h).toNat : Int) = bt a0_0 0 := bt_at a0_0 0; clear p6; have qi6 : (0 < (a0_0.size : Int)) = True := eq_true (of_decide_eq_true (by first | (with_reducible assumption) | assumption)); replace q6 := eq_true q6; have p7 : 0 ≤ (0 : Int) := (by omega); have q7 : 0 < a0_0.size := (by have : (0 : Int) < (a0_0.size : Int) := of_decide_eq_true (by first | (with_reducible assumption) | assumption); omega); have hx7 : ∀ h : 0 < a0_0.size, ((a0_0[0]'h).toNat : Int) = bt a0_0 0 := bt_at a0_0 0; clear p7; have qi7 : (0 < (a0_0.size : Int)) = True := eq_true (of_decide_eq_true (by first | (with_reducible assumption) | assumption)); replace q7 := eq_true q7)))
      go_ret2
      exact ⟨by first | rfl | (simp [errW_none, errW_some] <;> rfl) | (simp [*, errW_none, errW_some] <;> rfl), by repeat (first | (with_reducible first | exact HB.out | apply below_alloc | apply pw_below_drewN | apply below_drew1 | refine below_set ?_ GE256.out) | exact HB.out)⟩
    · rw [if_neg c5] at H
      exact absurd H (by simp)

/-! ### headgateref20_Kind: function 16 -/
def headgateref20_Kind.f (a0_0 : ByteArray) (a0_1 : ByteArray) : Option (Int × Bool) := if a0_0.toList = ([] : List UInt8) then (some (0, false)) else (if 0 < (a0_0.size : Int) then (some (wrap64 (Int.tmod (bt a0_0 0) 64), ((((Int.tdiv (bt a0_0 0) 64) % 256) % 2) == 1))) else (none))
set_option maxHeartbeats 8000000 in
set_option maxRecDepth 100000 in
theorem headgateref20_Kind.calls (a0_0 : ByteArray) (a0_1 : ByteArray) (r1 : Int) (r2 : Bool) (w : World) (h : headgateref20_Kind.f a0_0 a0_1 = some (r1, r2)) :
    Calls Tryd.prog 16 #[.agg #[.string a0_0, .string a0_1]] w fun e w' => e = .returned (.tuple #[.int .i64 r1, .bool r2]) ∧ Below w.heap.size w w' := by
  have hu23 := Tryd.underlying23
  have HB := Aside0.mk (Below.refl w.heap.size w)
  have H : (if a0_0.toList = ([] : List UInt8) then (some (0, false)) else (if 0 < (a0_0.size : Int) then (some (wrap64 (Int.tmod (bt a0_0 0) 64), ((((Int.tdiv (bt a0_0 0) 64) % 256) % 2) == 1))) else (none))) = some (r1, r2) := h
  clear h
  by_cases c2 : a0_0.toList = ([] : List UInt8)
  · rw [if_pos c2] at H
    have c2b0 : (a0_0.toList == ([] : List UInt8)) = true := beq_iff_eq.mpr c2
    have c2b1 : (a0_0.toList != ([] : List UInt8)) = false := bne_eq_false_iff_eq.mpr c2
    (try (have c2b2 : (a0_0 = ByteArray.empty) = True := eq_true (by have h_ := c2; rw [ByteArray.toList_eq] at h_; exact ByteArray.ext (Array.toList_eq_nil_iff.mp h_))))
    clear c2
    simp only [Option.some.injEq, Prod.mk.injEq] at H
    obtain ⟨rfl, rfl⟩ := H
    go_enter Tryd.func16, Tryd.ntmps16
    go_wp2_with (first | ((with_reducible refine gate_dst (N := 1) rfl ?_); refine box_event ?hg (N := 1) ?hd (cs := #[.string a0_0, .string a0_1]) (t := 23) ?hr ?_; (case hd => rfl); (case hg => rfl); (case hr => first | (go_simp; done) | (go_simp; rfl)); intro gb257 hg w3 hbox hb; have n0_ := Aside0.mk (below_step (by repeat (first | (with_reducible first | exact HB.out | apply below_alloc | apply pw_below_drewN | apply below_drew1) | exact HB.out)) hb); have n1_ := Aside0.mk (hbox); have n2_ := Aside0.mk ((by rw [hg]; exact (below_size (by repeat (first | (with_reducible first | exact HB.out | apply below_alloc | apply pw_below_drewN | apply below_drew1) | exact HB.out))) : w.heap.size ≤ gb257)); have n3_ := Aside0.mk ((by rw [hg]; exact (below_size (by repeat (first | (with_reducible first | exact HB.out | apply below_alloc | apply pw_below_drewN | apply below_drew1) | exact HB.out))) : w.heap.size ≤ gb257)); clear HB; have HB := n0_; have BK257 := n1_; have GW257 := n2_; have GE257 := n3_; clear n0_ n1_ n2_ n3_; clear hb hbox hg; have hcz4_0 : w3.cell? ⟨gb257, 0, none⟩ = some (.string a0_0) := (blk_cell BK257.out 0).trans rfl; have hcz4_1 : w3.cell? ⟨gb257, 1, none⟩ = some (.string a0_1) := (blk_cell BK257.out 1).trans rfl; have hfz4_0 := blk_frozen BK257.out 0; have hfz4_1 := blk_frozen BK257.out 1))
    repeat (go_quiet (first | ((with_reducible refine gate_dst (N := 1) rfl ?_); refine box_event ?hg (N := 1) ?hd (cs := #[.string a0_0, .string a0_1]) (t := 23) ?hr ?_; (case hd => rfl); (case hg => rfl); (case hr => first | (go_simp; done) | (go_simp; rfl)); intro gb257 hg w3 hbox hb; have n0_ := Aside0.mk (below_step (by repeat (first | (with_reducible first | exact HB.out | apply below_alloc | apply pw_below_drewN | apply below_drew1) | exact HB.out)) hb); have n1_ := Aside0.mk (hbox); have n2_ := Aside0.mk ((by rw [hg]; exact (below_size (by repeat (first | (with_reducible first | exact HB.out | apply below_alloc | apply pw_below_drewN | apply below_drew1) | exact HB.out))) : w.heap.size ≤ gb257)); have n3_ := Aside0.mk ((by rw [hg]; exact (below_size (by repeat (first | (with_reducible first | exact HB.out | apply below_alloc | apply pw_below_drewN | apply below_drew1) | exact HB.out))) : w.heap.size ≤ gb257)); clear HB; have HB := n0_; have BK257 := n1_; have GW257 := n2_; have GE257 := n3_; clear n0_ n1_ n2_ n3_; clear hb hbox hg; have hcz4_0 : w3.cell? ⟨gb257, 0, none⟩ = some (.string a0_0) := (blk_cell BK257.out 0).trans rfl; have hcz4_1 : w3.cell? ⟨gb257, 1, none⟩ = some (.string a0_1) := (blk_cell BK257.out 1).trans rfl; have hfz4_0 := blk_frozen BK257.out 0; have hfz4_1 := blk_frozen BK257.out 1)); try go_wp2_with (first | ((with_reducible refine gate_dst (N := 1) rfl ?_); refine box_event ?hg (N := 1) ?hd (cs := #[.string a0_0, .string a0_1]) (t := 23) ?hr ?_; (case hd => rfl); (case hg => rfl); (case hr => first | (go_simp; done) | (go_simp; rfl)); intro gb257 hg w3 hbox hb; have n0_ := Aside0.mk (below_step (by repeat (first | (with_reducible first | exact HB.out | apply below_alloc | apply pw_below_drewN | apply below_drew1) | exact HB.out)) hb); have n1_ := Aside0.mk (hbox); have n2_ := Aside0.mk ((by rw [hg]; exact (below_size (by repeat (first | (with_reducible first | exact HB.out | apply below_alloc | apply pw_below_drewN | apply below_drew1) | exact HB.out))) : w.heap.size ≤ gb257)); have n3_ := Aside0.mk ((by rw [hg]; exact (below_size (by repeat (first | (with_reducible first | exact HB.out | apply below_alloc | apply pw_below_drewN | apply below_drew1) | exact HB.out))) : w.heap.size ≤ gb257)); clear HB; have HB := n0_; have BK257 := n1_; have GW257 := n2_; have GE257 := n3_; clear n0_ n1_ n2_ n3_; clear hb hbox hg; have hcz4_0 : w3.cell? ⟨gb257, 0, none⟩ = some (.string a0_0) := (blk_cell BK257.out 0).trans rfl; have hcz4_1 : w3.cell? ⟨gb257, 1, none⟩ = some (.string a0_1) := (blk_cell BK257.out 1).trans rfl; have hfz4_0 := blk_frozen BK257.out 0; have hfz4_1 := blk_frozen BK257.out 1)))
    go_ret2
    exact ⟨by first | rfl | (simp [errW_none, errW_some] <;> rfl) | (simp [*, errW_none, errW_some] <;> rfl), by repeat (first | (with_reducible first | exact HB.out | apply below_alloc | apply pw_below_drewN | apply below_drew1 | refine below_set ?_ GE257.out) | exact HB.out)⟩
  · rw [if_neg c2] at H
    have c2b0 : (a0_0.toList == ([] : List UInt8)) = false := beq_eq_false_iff_ne.mpr c2
    have c2b1 : (a0_0.toList != ([] : List UInt8)) = true := bne_iff_ne.mpr c2
    (try (have c2b2 : (a0_0 = ByteArray.empty) = False := eq_false (fun h_ => c2 (by rw [h_, ByteArray.toList_eq]; rfl))))
    by_cases c5 : 0 < (a0_0.size : Int)
    · rw [if_pos c5] at H
      have c5b0 : decide (0 < (a0_0.size : Int)) = true := decide_eq_true c5
      have c5b1 : decide (0 < a0_0.size) = true := decide_eq_true (by omega)
      clear c5
      simp only [Option.some.injEq, Prod.mk.injEq] at H
      obtain ⟨rfl, rfl⟩ := H
      go_enter Tryd.func16, Tryd.ntmps16
      go_wp2_with (first | ((with_reducible refine gate_dst (N := 1) rfl ?_); refine box_event ?hg (N := 1) ?hd (cs := #[.string a0_0, .string a0_1]) (t := 23) ?hr ?_; (case hd => rfl); (case hg => rfl); (case hr => first | (go_simp; done) | (go_simp; rfl)); intro gb257 hg w8 hbox hb; have n0_ := Aside0.mk (below_step (by repeat (first | (with_reducible first | exact HB.out | apply below_alloc | apply pw_below_drewN | apply below_drew1) | exact HB.out)) hb); have n1_ := Aside0.mk (hbox); have n2_ := Aside0.mk ((by rw [hg]; exact (below_size (by repeat (first | (with_reducible first | exact HB.out | apply below_alloc | apply pw_below_drewN | apply below_drew1) | exact HB.out))) : w.heap.size ≤ gb257)); have n3_ := Aside0.mk ((by rw [hg]; exact (below_size (by repeat (first | (with_reducible first | exact HB.out | apply below_alloc | apply pw_below_drewN | apply below_drew1) | exact HB.out))) : w.heap.size ≤ gb257)); clear HB; have HB := n0_; have BK257 := n1_; have GW257 := n2_; have GE257 := n3_; clear n0_ n1_ n2_ n3_; clear hb hbox hg; have hcz9_0 : w8.cell? ⟨gb257, 0, none⟩ = some (.string a0_0) := (blk_cell BK257.out 0).trans rfl; have hcz9_1 : w8.cell? ⟨gb257, 1, none⟩ = some (.string a0_1) := (blk_cell BK257.out 1).trans rfl; have hfz9_0 := blk_frozen BK257.out 0; have hfz9_1 := blk_frozen BK257.out 1; have p6 : 0 ≤ (0 : Int) := (by omega); have q6 : 0 < a0_0.size := (by have : (0 : Int) < (a0_0.size : Int) := of_decide_eq_true (by first | (with_reducible assumption) | assumption); omega); have hx6 : ∀ h : 0 < a0_0.size, ((a0_0[0]'h).toNat : Int) = bt a0_0 0 := bt_at a0_0 0; clear p6; have qi6 : (0 < (a0_0.size : Int)) = True := eq_true (of_decide_eq_true (by first | (with_reducible assumption) | assumption)); replace q6 := eq_true q6; have p7 : 0 ≤ (0 : Int) := (by omega); have q7 : 0 < a0_0.size := (by have : (0 : Int) < (a0_0.size : Int) := of_decide_eq_true (by first | (with_reducible assumption) | assumption); omega); have hx7 : ∀ h : 0 < a0_0.size, ((a0_0[0]'h).toNat : Int) = bt a0_0 0 := bt_at a0_0 0; clear p7; have qi7 : (0 < (a0_0.size : Int)) = True := eq_true (of_decide_eq_true (by first | (with_reducible assumption) | assumption)); replace q7 := eq_true q7))
      repeat (go_quiet (first | ((with_reducible refine gate_dst (N := 1) rfl ?_); refine box_event ?hg (N := 1) ?hd (cs := #[.string a0_0, .string a0_1]) (t := 23) ?hr ?_; (case hd => rfl); (case hg => rfl); (case hr => first | (go_simp; done) | (go_simp; rfl)); intro gb257 hg w8 hbox hb; have n0_ := Aside0.mk (below_step (by repeat (first | (with_reducible first | exact HB.out | apply below_alloc | apply pw_below_drewN | apply below_drew1) | exact HB.out)) hb); have n1_ := Aside0.mk (hbox); have n2_ := Aside0.mk ((by rw [hg]; exact (below_size (by repeat (first | (with_reducible first | exact HB.out | apply below_alloc | apply pw_below_drewN | apply below_drew1) | exact HB.out))) : w.heap.size ≤ gb257)); have n3_ := Aside0.mk ((by rw [hg]; exact (below_size (by repeat (first | (with_reducible first | exact HB.out | apply below_alloc | apply pw_below_drewN | apply below_drew1) | exact HB.out))) : w.heap.size ≤ gb257)); clear HB; have HB := n0_; have BK257 := n1_; have GW257 := n2_; have GE257 := n3_; clear n0_ n1_ n2_ n3_; clear hb hbox hg; have hcz9_0 : w8.cell? ⟨gb257, 0, none⟩ = some (.string a0_0) := (blk_cell BK257.out 0).trans rfl; have hcz9_1 : w8.cell? ⟨gb257, 1, none⟩ = some (.string a0_1) := (blk_cell BK257.out 1).trans rfl; have hfz9_0 := blk_frozen BK257.out 0; have hfz9_1 := blk_frozen BK257.out 1; have p6 : 0 ≤ (0 : Int) := (by omega); have q6 : 0 < a0_0.size := (by have : (0 : Int) < (a0_0.size : Int) := of_decide_eq_true (by first | (with_reducible assumption) | assumption); omega); have hx6 : ∀ h : 0 < a0_0.size, ((a0_0[0]'h).toNat : Int) = bt a0_0 0 := bt_at a0_0 0; clear p6; have qi6 : (0 < (a0_0.size : Int)) = True := eq_true (of_decide_eq_true (by first | (with_reducible assumption) | assumption)); replace q6 := eq_true q6; have p7 : 0 ≤ (0 : Int) := (by omega); have q7 : 0 < a0_0.size := (by have : (0 : Int) < (a0_0.size : Int) := of_decide_eq_true (by first | (with_reducible assumption) | assumption); omega); have hx7 : ∀ h : 0 < a0_0.size, ((a0_0[0]'h).toNat : Int) = bt a0_0 0 := bt_at a0_0 0; clear p7; have qi7 : (0 < (a0_0.size : Int)) = True := eq_true (of_decide_eq_true (by first | (with_reducible assumption) | assumption)); replace q7 := eq_true q7)); try go_wp2_with (first | ((with_reducible refine gate_dst (N := 1) rfl ?_); refine box_event ?hg (N := 1) ?hd (cs := #[.string a0_0, .string a0_1]) (t := 23) ?hr ?_; (case hd => rfl); (case hg => rfl); (case hr => first | (go_simp; done) | (go_simp; rfl)); intro gb257 hg w8 hbox hb; have n0_ := Aside0.mk (below_step (by repeat (first | (with_reducible first | exact HB.out | apply below_alloc | apply pw_below_drewN | apply below_drew1) | exact HB.out)) hb); have n1_ := Aside0.mk (hbox); have n2_ := Aside0.mk ((by rw [hg]; exact (below_size (by repeat (first | (with_reducible first | exact HB.out | apply below_alloc | apply pw_below_drewN | apply below_drew1) | exact HB.out))) : w.heap.size ≤ gb257)); have n3_ := Aside0.mk ((by rw [hg]; exact (below_size (by repeat (first | (with_reducible first | exact HB.out | apply below_alloc | apply pw_below_drewN | apply below_drew1) | exact HB.out))) : w.heap.size ≤ gb257)); clear HB; have HB := n0_; have BK257 := n1_; have GW257 := n2_; have GE257 := n3_; clear n0_ n1_ n2_ n3_; clear hb hbox hg; have hcz9_0 : w8.cell? ⟨gb257, 0, none⟩ = some (.string a0_0) := (blk_cell BK257.out 0).trans rfl; have hcz9_1 : w8.cell? ⟨gb257, 1, none⟩ = some (.string a0_1) := (blk_cell BK257.out 1).trans rfl; have hfz9_0 := blk_frozen BK257.out 0; have hfz9_1 := blk_frozen BK257.out 1; have p6 : 0 ≤ (0 : Int) := (by omega); have q6 : 0 < a0_0.size := (by have : (0 : Int) < (a0_0.size : Int) := of_decide_eq_true (by first | (with_reducible assumption) | assumption); omega); have hx6 : ∀ h : 0 < a0_0.size, ((a0_0[0]'h).toNat : Int) = bt a0_0 0 := bt_at a0_0 0; clear p6; have qi6 : (0 < (a0_0.size : Int)) = True := eq_true (of_decide_eq_true (by first | (with_reducible assumption) | assumption)); replace q6 := eq_true q6; have p7 : 0 ≤ (0 : Int) := (by omega); have q7 : 0 < a0_0.size := (by have : (0 : Int) < (a0_0.size : Int) := of_decide_eq_true (by first | (with_reducible assumption) | assumption); omega); have hx7 : ∀ h : 0 < a0_0.size, ((a0_0[0]'h).toNat : Int) = bt a0_0 0 := bt_at a0_0 0; clear p7; have qi7 : (0 < (a0_0.size : Int)) = True := eq_true (of_decide_eq_true (by first | (with_reducible assumption) | assumption)); replace q7 := eq_true q7)))
      go_ret2
      exact ⟨by first | rfl | (simp [errW_none, errW_some] <;> rfl) | (simp [*, errW_none, errW_some] <;> rfl), by repeat (first | (with_reducible first | exact HB.out | apply below_alloc | apply pw_below_drewN | apply below_drew1 | refine below_set ?_ GE257.out) | exact HB.out)⟩
    · rw [if_neg c5] at H
      exact absurd H (by simp)

end Go.Proofs.YtcghbicjhngedaaDoor.P
