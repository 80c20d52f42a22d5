-- written by this session's patched copy of the printer (wip/tools/patch_print.py); Lean checks it
import Derived.Test.YtkbjhblffbcleaaDoorWXtra
import Derived.Test.YtkbjhblffbcleaaDoorPx0
import Derived.Test.YtkbjhblffbcleaaDoorPx3
import Derived.Test.YtkbjhblffbcleaaDoorPx4
import Derived.Test.YtkbjhblffbcleaaDoorPx5
import Derived.Test.YtkbjhblffbcleaaDoorPx10
namespace Go.Proofs.YtkbjhblffbcleaaDoor.P
open Go.RowKit Go.Proofs.YtkbjhblffbcleaaDoorW.PrintWords Go.Proofs.YtkbjhblffbcleaaDoorW.PrintLast Go.Proofs.YtkbjhblffbcleaaDoorW.PrintMore
attribute [local go_sem] max2_int min2_int max_two min_two max_three min_three max_four min_four   -- for this text's walks alone
set_option linter.unusedVariables false
set_option linter.unusedSimpArgs false
set_option linter.unnecessarySimpa false

/-! ### headgatelaw29_TpduStream: function 5 -/
mutual
def headgatelaw29_TpduStream.l0 : Nat → List (S24) → Bool → Bool → ByteArray → List (S24) → Int → Option (Bool)
 | 0, _, _, _, _, _, _ => none
 | k + 1, x0, x1, x2, x7, x8, x9 => if x9 < (x0.length : Int) then (if 0 ≤ x9 then (if (((rd_T24 x0 x9).f2).size : Int) > 20000 then (headgatelaw29_TpduStream.j1 k x0 x1 x2 x7 x8 x9 true) else (headgatelaw29_TpduStream.j1 k x0 x1 x2 x7 x8 x9 (decide ((((rd_T24 x0 x9).f3).size : Int) > 2000)))) else (none)) else (headgatelaw29_TpduStream.l1 k x1 x2 x7 x8 0)
def headgatelaw29_TpduStream.j1 : Nat → List (S24) → Bool → Bool → ByteArray → List (S24) → Int → Bool → Option (Bool)
 | 0, _, _, _, _, _, _, _ => none
 | k + 1, x0, x1, x2, x7, x8, x9, x41 => if x41 = true then ((headgatelaw29_wakes.f k).bind fun t255 => (some t255)) else (if 0 ≤ x9 then (if x9 < (x0.length : Int) then ((tpdu_Put.f k ((rd_T24 x0 x9).f0) ((rd_T24 x0 x9).f1) ((rd_T24 x0 x9).f2) ((rd_T24 x0 x9).f3) x1 x2).bind fun bt257 => (if bt257.2 = 0 then (if x7.size + bt257.1.size ≤ 9223372036854775807 then (if x8.length < 2932031007402 then (headgatelaw29_TpduStream.l0 k x0 x1 x2 (x7 ++ bt257.1) (x8 ++ [(⟨(rd_T24 x0 x9).f0, (rd_T24 x0 x9).f1, (rd_T24 x0 x9).f2, (rd_T24 x0 x9).f3⟩ : S24)]) (wrap64 (x9 + 1))) else (none)) else (none)) else (headgatelaw29_TpduStream.l0 k x0 x1 x2 x7 x8 (wrap64 (x9 + 1))))) else (none)) else (none))
def headgatelaw29_TpduStream.l1 : Nat → Bool → Bool → ByteArray → List (S24) → Int → Option (Bool)
 | 0, _, _, _, _, _ => none
 | k + 1, x1, x2, x7, x8, x12 => if x12 < (x8.length : Int) then ((tpdu_Get.f k x7 x1 x2).bind fun bt264 => (if bt264.2.2.2.2.2 = 0 then (if bt264.2.2.2.2.1 < 8 then (some false) else (if bt264.2.2.2.2.1 > (x7.size : Int) then (some false) else (if 0 ≤ x12 then ((headgateref29_Same.f bt264.1 bt264.2.1 bt264.2.2.1 bt264.2.2.2.1 ((rd_T24 x8 x12).f0) ((rd_T24 x8 x12).f1) ((rd_T24 x8 x12).f2) ((rd_T24 x8 x12).f3)).bind fun t272 => (if t272 = true then (if 0 ≤ bt264.2.2.2.2.1 then (if bt264.2.2.2.2.1 ≤ (x7.size : Int) then (headgatelaw29_TpduStream.l1 k x1 x2 (x7.extract (bt264.2.2.2.2.1 : Int).toNat x7.size) x8 (wrap64 (x12 + 1))) else (none)) else (none)) else (some false))) else (none)))) else (some false))) else (if x7.toList = ([] : List UInt8) then ((headgatelaw29_wakes.f k).bind fun t263 => (some t263)) else (some false))
end
def headgatelaw29_TpduStream.f (k : Nat) (l0 : List (S24)) (a1 : Bool) (a2 : Bool) : Option (Bool) := if (l0.length : Int) > 20 then ((headgatelaw29_wakes.f k).bind fun t252 => (some t252)) else (headgatelaw29_TpduStream.l0 k l0 a1 a2 (⟨#[]⟩ : ByteArray) ([] : List (S24)) 0)
theorem headgatelaw29_TpduStream.mono_l : ∀ k, (∀ y0 y1 y2 y3 y4 y5, LeO (headgatelaw29_TpduStream.l0 k y0 y1 y2 y3 y4 y5) (headgatelaw29_TpduStream.l0 (k + 1) y0 y1 y2 y3 y4 y5)) ∧ (∀ y0 y1 y2 y3 y4 y5 y6, LeO (headgatelaw29_TpduStream.j1 k y0 y1 y2 y3 y4 y5 y6) (headgatelaw29_TpduStream.j1 (k + 1) y0 y1 y2 y3 y4 y5 y6)) ∧ (∀ y0 y1 y2 y3 y4, LeO (headgatelaw29_TpduStream.l1 k y0 y1 y2 y3 y4) (headgatelaw29_TpduStream.l1 (k + 1) y0 y1 y2 y3 y4))
 | 0 => ⟨fun _ _ _ _ _ _ r h => by simp [headgatelaw29_TpduStream.l0] at h, fun _ _ _ _ _ _ _ r h => by simp [headgatelaw29_TpduStream.j1] at h, fun _ _ _ _ _ r h => by simp [headgatelaw29_TpduStream.l1] at h⟩
 | k + 1 => by
  obtain ⟨ih0, ih1, ih2⟩ := headgatelaw29_TpduStream.mono_l k
  refine ⟨?_, ?_, ?_⟩
  ·intro y0 y1 y2 y3 y4 y5
   unfold headgatelaw29_TpduStream.l0
   repeat' first
   | (with_reducible exact ih0 _ _ _ _ _ _)
   | (with_reducible exact ih1 _ _ _ _ _ _ _)
   | (with_reducible exact ih2 _ _ _ _ _)
   | (with_reducible exact headgatelaw29_wakes.mono _)
   | (with_reducible exact tpdu_Get.mono _ _ _ _)
   | (with_reducible exact tpdu_Put.mono _ _ _ _ _ _ _)
   | (with_reducible exact LeO.refl _)
   | (with_reducible exact LeO.none _)
   | (with_reducible refine LeO.ite ?_ ?_)
   | (with_reducible refine LeO.bind ?_ (fun _ => ?_))
   | exact ih0 _ _ _ _ _ _
   | exact ih1 _ _ _ _ _ _ _
   | exact ih2 _ _ _ _ _
   | exact headgatelaw29_wakes.mono _
   | exact tpdu_Get.mono _ _ _ _
   | exact tpdu_Put.mono _ _ _ _ _ _ _
   | exact LeO.none _
   | refine LeO.ite ?_ ?_
   | refine LeO.bind ?_ (fun _ => ?_)
  ·intro y0 y1 y2 y3 y4 y5 y6
   unfold headgatelaw29_TpduStream.j1
   repeat' first
   | (with_reducible exact ih0 _ _ _ _ _ _)
   | (with_reducible exact ih1 _ _ _ _ _ _ _)
   | (with_reducible exact ih2 _ _ _ _ _)
   | (with_reducible exact headgatelaw29_wakes.mono _)
   | (with_reducible exact tpdu_Get.mono _ _ _ _)
   | (with_reducible exact tpdu_Put.mono _ _ _ _ _ _ _)
   | (with_reducible exact LeO.refl _)
   | (with_reducible exact LeO.none _)
   | (with_reducible refine LeO.ite ?_ ?_)
   | (with_reducible refine LeO.bind ?_ (fun _ => ?_))
   | exact ih0 _ _ _ _ _ _
   | exact ih1 _ _ _ _ _ _ _
   | exact ih2 _ _ _ _ _
   | exact headgatelaw29_wakes.mono _
   | exact tpdu_Get.mono _ _ _ _
   | exact tpdu_Put.mono _ _ _ _ _ _ _
   | exact LeO.none _
   | refine LeO.ite ?_ ?_
   | refine LeO.bind ?_ (fun _ => ?_)
  ·intro y0 y1 y2 y3 y4
   unfold headgatelaw29_TpduStream.l1
   repeat' first
   | (with_reducible exact ih0 _ _ _ _ _ _)
   | (with_reducible exact ih1 _ _ _ _ _ _ _)
   | (with_reducible exact ih2 _ _ _ _ _)
   | (with_reducible exact headgatelaw29_wakes.mono _)
   | (with_reducible exact tpdu_Get.mono _ _ _ _)
   | (with_reducible exact tpdu_Put.mono _ _ _ _ _ _ _)
   | (with_reducible exact LeO.refl _)
   | (with_reducible exact LeO.none _)
   | (with_reducible refine LeO.ite ?_ ?_)
   | (with_reducible refine LeO.bind ?_ (fun _ => ?_))
   | exact ih0 _ _ _ _ _ _
   | exact ih1 _ _ _ _ _ _ _
   | exact ih2 _ _ _ _ _
   | exact headgatelaw29_wakes.mono _
   | exact tpdu_Get.mono _ _ _ _
   | exact tpdu_Put.mono _ _ _ _ _ _ _
   | exact LeO.none _
   | refine LeO.ite ?_ ?_
   | refine LeO.bind ?_ (fun _ => ?_)
theorem headgatelaw29_TpduStream.mono : ∀ a0 a1 a2 k, LeO (headgatelaw29_TpduStream.f k a0 a1 a2) (headgatelaw29_TpduStream.f (k + 1) a0 a1 a2) := by
 intro a0 a1 a2 k
 obtain ⟨ih0, ih1, ih2⟩ := headgatelaw29_TpduStream.mono_l k
 unfold headgatelaw29_TpduStream.f
 repeat' first
   | (with_reducible exact ih0 _ _ _ _ _ _)
   | (with_reducible exact ih1 _ _ _ _ _ _ _)
   | (with_reducible exact ih2 _ _ _ _ _)
   | (with_reducible exact headgatelaw29_wakes.mono _)
   | (with_reducible exact tpdu_Get.mono _ _ _ _)
   | (with_reducible exact tpdu_Put.mono _ _ _ _ _ _ _)
   | (with_reducible exact LeO.refl _)
   | (with_reducible exact LeO.none _)
   | (with_reducible refine LeO.ite ?_ ?_)
   | (with_reducible refine LeO.bind ?_ (fun _ => ?_))
   | exact ih0 _ _ _ _ _ _
   | exact ih1 _ _ _ _ _ _ _
   | exact ih2 _ _ _ _ _
   | exact headgatelaw29_wakes.mono _
   | exact tpdu_Get.mono _ _ _ _
   | exact tpdu_Put.mono _ _ _ _ _ _ _
   | exact LeO.none _
   | refine LeO.ite ?_ ?_
   | refine LeO.bind ?_ (fun _ => ?_)
def headgatelaw29_TpduStream.T18 : Bool × List (List Nat × List Nat) := (true, [([], []), ([0], [0]), ([1], [1]), ([2], [2]), ([3, 2], [2, 3]), ([2, 4], [2, 4]), ([5, 2], [5]), ([6], [6]), ([6], [6]), ([8, 6], [6, 8]), ([7, 9, 6], [6, 7, 9]), ([6, 10], [6, 10]), ([11, 6], [11]), ([12], [12]), ([12], [12]), ([12], [12]), ([14, 15, 12], [12, 14, 15]), ([16, 12], [12, 16]), ([13, 17, 12, 12], [12, 13, 17]), ([18, 12], [12, 18]), ([12, 19], [12, 19])])
def headgatelaw29_TpduStream.B18 : List Nat := [0, 1, 3, 7, 15, 31, 63, 127, 127, 383, 1023, 2047, 4095, 8191, 8191, 8191, 57343, 122879, 262143, 524287, 1048575]
theorem headgatelaw29_TpduStream.tab18 : rtab .any (opsOf Tryd.f5 18) = headgatelaw29_TpduStream.T18 := by kernel_rfl
theorem headgatelaw29_TpduStream.bits18 : waitsOk headgatelaw29_TpduStream.T18.2 headgatelaw29_TpduStream.B18 = true := by kernel_rfl
abbrev d5x0 : Array Bool := #[false, false, false, false, false, false, false, false, false, false, false, false, false, false, false, false, false, false, false, false, false]
abbrev d5x1 : Array Bool := dB 21 1
abbrev d5x2 : Array Bool := dB 21 3
abbrev d5x3 : Array Bool := dB 21 7
abbrev d5x4 : Array Bool := dB 21 15
abbrev d5x5 : Array Bool := dB 21 31
abbrev d5x6 : Array Bool := dB 21 63
abbrev d5x7 : Array Bool := dB 21 127
abbrev d5x8 : Array Bool := dB 21 255
abbrev d5x9 : Array Bool := dB 21 511
abbrev d5x10 : Array Bool := dB 21 1023
abbrev d5x11 : Array Bool := dB 21 2047
abbrev d5x12 : Array Bool := dB 21 4095
abbrev d5x13 : Array Bool := dB 21 8191
abbrev d5x14 : Array Bool := dB 21 24575
abbrev d5x15 : Array Bool := dB 21 57343
abbrev d5x16 : Array Bool := dB 21 122879
abbrev d5x17 : Array Bool := dB 21 131071
abbrev d5x18 : Array Bool := dB 21 262143
abbrev d5x19 : Array Bool := dB 21 524287
abbrev d5x20 : Array Bool := dB 21 1048575
abbrev d5x21 : Array Bool := dB 21 2097151
set_option maxHeartbeats 8000000 in
set_option maxRecDepth 100000 in
theorem headgatelaw29_TpduStream.calls (k : Nat) (A0 : Option Addr) (c0 : Nat) (l0 : List (S24)) (a1 : Bool) (a2 : Bool) (r : Bool) (w : World) (hr0 : Kd.C k24 w A0 l0.length l0) (hc0 : l0.length ≤ c0) (hG : Glob w) (hT : r = true) (h : headgatelaw29_TpduStream.f k l0 a1 a2 = some r) :
  Calls Tryd.prog 5 #[.slice A0 l0.length c0, .bool a1, .bool a2] w fun e w' => e = .returned (.bool r) ∧ Below w.heap.size w w' := by
 have hu24 := Tryd.underlying24
 have HT0 := Aside0.mk hT
 clear hT
 have HG := Aside0.mk hG
 clear hG
 have HR0 := Aside0.mk hr0
 have HC0 := Aside0.mk hc0
 clear hr0 hc0
 have HB := Aside0.mk (Below.refl w.heap.size w)
 have H : (if (l0.length : Int) > 20 then ((headgatelaw29_wakes.f k).bind fun t252 => (some t252)) else (headgatelaw29_TpduStream.l0 k l0 a1 a2 (⟨#[]⟩ : ByteArray) ([] : List (S24)) 0)) = some r := h
 clear h
 by_cases c4 : (l0.length : Int) > 20
 ·rw [if_pos c4] at H
  have c4b0 : decide (20 < (l0.length : Int)) = true := decide_eq_true c4
  have c4b1 : decide (20 < l0.length) = true := decide_eq_true (by omega)
  clear c4
  replace H := Option.bind_eq_some_iff.mp H
  obtain ⟨t252, A50, H⟩ := H
  try dsimp only at H
  have A5 := Aside0.mk A50
  clear A50
  obtain rfl := Option.some.inj H
  go_enter Tryd.func5, Tryd.ntmps5
  go_wp2_with (first | ((with_reducible refine gate_callee (f := 8) rfl ?_); refine goesL_ (some 19) rfl rfl Tryd.func8 (by kernel_rfl) rfl #[] rfl (by (try simp only [List.map_toArray, List.map_cons, List.map_nil]); first | done | rfl | (simp only [List.length_drop, List.length_take]; rfl)) ?_; (with_reducible refine (headgatelaw29_wakes.calls k  t252 _ ?side1 A5.out).mono ?_); (case side1 => first | ((refine Glob.keep HG.out ?_); (repeat (first | (with_reducible first | exact HB.out | apply below_alloc | apply pw_below_drewN | apply below_drew1) | exact HB.out)); done) | exact HG.out); rintro e w6 ⟨rfl, hb⟩; refine ⟨_, rfl, ?_⟩; have n0_ := Aside0.mk (below_step (by repeat (first | (with_reducible first | exact HB.out | apply below_alloc | apply pw_below_drewN | apply below_drew1) | exact HB.out)) hb); clear HB; have HB := n0_; clear n0_; (try clear hb); (try clear hb2); (try clear hk); (try clear hi)))
  go_ret
  exact ⟨by first | rfl | (simp [errW_none, errW_some] <;> rfl) | (simp [*, errW_none, errW_some] <;> rfl) | (simp [bt, *]; done) | (unfold bt; simp [*]; done), by repeat (first | (with_reducible first | exact HB.out | apply below_alloc | apply pw_below_drewN | apply below_drew1) | exact HB.out)⟩
 rw [if_neg c4] at H
 have c4b0 : decide (20 < (l0.length : Int)) = false := decide_eq_false c4
 have c4b1 : decide (20 < l0.length) = false := decide_eq_false (by omega)
 clear c4
 have H' := Aside0.mk H
 clear H
 go_enter Tryd.func5, Tryd.ntmps5
 go_wp2
 go_loopg [7, 8, 9] k (fun kq v7 v8 v9 w' => ∃ (x7_1 : ByteArray) (x8_1 : List (S24)) (x9_1 : Int), v7 = .string x7_1 ∧ v9 = .int .i64 x9_1 ∧ Aside0 (headgatelaw29_TpduStream.l0 kq l0 a1 a2 x7_1 x8_1 x9_1 = some r) ∧ Aside0 (kq ≤ k) ∧ Aside0 (Kd.R k24 24 w' w.heap.size (fun _ => True) v8 x8_1) ∧ Aside0 (Below w.heap.size w w'))
 case atStart => exact ⟨((⟨#[]⟩ : ByteArray)), (([] : List (S24))), (0), (by first | rfl | (simp; done) | (simp [*]; done)), (by first | rfl | (simp; done) | (simp [*]; done)), H', ⟨Nat.le_refl _⟩, ⟨by first | exact Kd.R_nil _ _ _ _ _ | exact Kd.N_nil _ _ _ _ _ | exact Kd.V_nil _ _ _ _ _ | exact Kd.Q_nil _ _ _ _ _ | exact Kd.S_nil _ _ _ _ _⟩, ⟨by repeat (first | (with_reducible first | exact HB.out | apply below_alloc | apply pw_below_drewN | apply below_drew1) | exact HB.out)⟩⟩
 case round =>
  clear H'
  try clear p2
  try clear c4
  try clear c4b0
  try clear c4b1
  try clear c5
  obtain ⟨x7_1, x8_1, x9_1, rfl, rfl, HA, HK1, HO_8, HB⟩ := hrel
  cases gk with
  | zero => exact absurd HA.out (by simp [headgatelaw29_TpduStream.l0])
  | succ k1 =>
   have H := HA.out
   clear HA
   simp only [headgatelaw29_TpduStream.l0] at H
   by_cases c7 : x9_1 < (l0.length : Int)
   ·rw [if_pos c7] at H
    have c7b0 : decide (x9_1 < (l0.length : Int)) = true := decide_eq_true c7
    clear c7
    have HC8 := Aside0.mk H
    clear H
    go_upto_region 8 with (fail)
    go_cut [41] (fun v41 wc => ∃ (kq : Nat) (x41_7 : Bool), v41 = .bool x41_7 ∧ Aside0 (headgatelaw29_TpduStream.j1 kq l0 a1 a2 x7_1 x8_1 x9_1 x41_7 = some r) ∧ Aside0 (kq ≤ k1) ∧ Aside0 (Kd.R k24 24 wc w.heap.size (fun _ => True) u8 x8_1) ∧ Aside0 (Below w.heap.size w wc))
    case first =>
     have H := HC8.out
     clear HC8
     refine neg_first (p := (0 ≤ x9_1)) (fun c9 => ?_) (fun c9 => ?_)
     ·rw [if_neg c9] at H
      exact absurd H (by simp)
     rw [if_pos c9] at H
     have c9b0 : decide (0 ≤ x9_1) = true := decide_eq_true c9
     clear c9
     (first | rw [c9b0] | (simp only [i64_w, i32_w]; rw [c9b0]) | skip)
     by_cases c10 : (((rd_T24 l0 x9_1).f2).size : Int) > 20000
     ·rw [if_pos c10] at H
      have c10b0 : decide (20000 < (((rd_T24 l0 x9_1).f2).size : Int)) = true := decide_eq_true c10
      have c10b1 : decide (20000 < ((rd_T24 l0 x9_1).f2).size) = true := decide_eq_true (by omega)
      clear c10
      have H' := Aside0.mk H
      clear H
      have p253 : 0 ≤ (x9_1 : Int) := of_decide_eq_true (by first | (with_reducible assumption) | assumption)
      have q253 : x9_1 < (l0.length : Int) := of_decide_eq_true (by first | (with_reducible assumption) | assumption)
      obtain ⟨ad253, e253, hx253_0, hx253_1, hx253_2, hx253_3⟩ := at_T24 HR0.out x9_1 p253 q253
      cases e253
      replace hx253_0 := (HB.out.cell (World.block_lt_of_cell? w _ hx253_0)).trans hx253_0
      replace hx253_1 := (HB.out.cell (World.block_lt_of_cell? w _ hx253_1)).trans hx253_1
      replace hx253_2 := (HB.out.cell (World.block_lt_of_cell? w _ hx253_2)).trans hx253_2
      replace hx253_3 := (HB.out.cell (World.block_lt_of_cell? w _ hx253_3)).trans hx253_3
      replace p253 := eq_true p253
      replace q253 := eq_true q253
      go_wp2
      go_meet
      case rel => exact ⟨_, (true), (by first | rfl | (simp; done) | (simp [*]; done)), H', ⟨by have := HK1.out; first | omega | exact Nat.le_refl _⟩, ⟨by (with_reducible repeat (first | apply Kd.R_alloc | apply Kd.R_drewN | apply Kd.R_drew)); exact HO_8.out⟩, ⟨by repeat (first | (with_reducible first | exact HB.out | apply below_alloc | apply pw_below_drewN | apply below_drew1) | exact HB.out)⟩⟩
     rw [if_neg c10] at H
     have c10b0 : decide (20000 < (((rd_T24 l0 x9_1).f2).size : Int)) = false := decide_eq_false c10
     have c10b1 : decide (20000 < ((rd_T24 l0 x9_1).f2).size) = false := decide_eq_false (by omega)
     clear c10
     have H' := Aside0.mk H
     clear H
     have p253 : 0 ≤ (x9_1 : Int) := of_decide_eq_true (by first | (with_reducible assumption) | assumption)
     have q253 : x9_1 < (l0.length : Int) := of_decide_eq_true (by first | (with_reducible assumption) | assumption)
     obtain ⟨ad253, e253, hx253_0, hx253_1, hx253_2, hx253_3⟩ := at_T24 HR0.out x9_1 p253 q253
     cases e253
     replace hx253_0 := (HB.out.cell (World.block_lt_of_cell? w _ hx253_0)).trans hx253_0
     replace hx253_1 := (HB.out.cell (World.block_lt_of_cell? w _ hx253_1)).trans hx253_1
     replace hx253_2 := (HB.out.cell (World.block_lt_of_cell? w _ hx253_2)).trans hx253_2
     replace hx253_3 := (HB.out.cell (World.block_lt_of_cell? w _ hx253_3)).trans hx253_3
     replace p253 := eq_true p253
     replace q253 := eq_true q253
     have p254 : 0 ≤ (x9_1 : Int) := of_decide_eq_true (by first | (with_reducible assumption) | assumption)
     have q254 : x9_1 < (l0.length : Int) := of_decide_eq_true (by first | (with_reducible assumption) | assumption)
     obtain ⟨ad254, e254, hx254_0, hx254_1, hx254_2, hx254_3⟩ := at_T24 HR0.out x9_1 p254 q254
     obtain rfl : ad253 = ad254 := (by injection e254)
     replace hx254_0 := (HB.out.cell (World.block_lt_of_cell? w _ hx254_0)).trans hx254_0
     replace hx254_1 := (HB.out.cell (World.block_lt_of_cell? w _ hx254_1)).trans hx254_1
     replace hx254_2 := (HB.out.cell (World.block_lt_of_cell? w _ hx254_2)).trans hx254_2
     replace hx254_3 := (HB.out.cell (World.block_lt_of_cell? w _ hx254_3)).trans hx254_3
     replace p254 := eq_true p254
     replace q254 := eq_true q254
     go_wp2
     go_meet
     case rel => exact ⟨_, (decide ((((rd_T24 l0 x9_1).f3).size : Int) > 2000)), (by first | rfl | (simp; done) | (simp [*]; done)), H', ⟨by have := HK1.out; first | omega | exact Nat.le_refl _⟩, ⟨by (with_reducible repeat (first | apply Kd.R_alloc | apply Kd.R_drewN | apply Kd.R_drew)); exact HO_8.out⟩, ⟨by repeat (first | (with_reducible first | exact HB.out | apply below_alloc | apply pw_below_drewN | apply below_drew1) | exact HB.out)⟩⟩
    case rest =>
     clear HC8
     try clear c1
     try clear p2
     try clear q2
     try clear hx2
     try clear c4
     try clear c4b0
     try clear c4b1
     try clear c5
     try clear c7
     try clear c7b0
     try clear c8
     try clear c9
     try clear c9b0
     try clear c10
     try clear c10b0
     try clear c10b1
     try clear hx253_0
     try clear hx253_1
     try clear hx253_2
     try clear hx253_3
     try clear hx254_0
     try clear hx254_1
     try clear hx254_2
     try clear hx254_3
     try clear p2
     try clear p253
     try clear p254
     try clear q253
     try clear q254
     obtain ⟨kq, x41_7, rfl, HA, HJ7, HO_8, HB⟩ := hcut
     cases kq with
     | zero => exact absurd HA.out (by simp [headgatelaw29_TpduStream.j1])
     | succ kj7 =>
      have H := HA.out
      clear HA
      simp only [headgatelaw29_TpduStream.j1] at H
      by_cases c11 : x41_7 = true
      ·subst c11
       have H1 := H
       rw [if_pos rfl] at H1
       clear H
       have H := H1
       clear H1
       replace H := Option.bind_eq_some_iff.mp H
       obtain ⟨t255, A120, H⟩ := H
       try dsimp only at H
       have A12 := Aside0.mk A120
       clear A120
       obtain rfl := Option.some.inj H
       go_wp2_with (first | ((with_reducible refine gate_callee (f := 8) rfl ?_); refine goesL_ (some 42) rfl rfl Tryd.func8 (by kernel_rfl) rfl #[] rfl (by (try simp only [List.map_toArray, List.map_cons, List.map_nil]); first | done | rfl | (simp only [List.length_drop, List.length_take]; rfl)) ?_; (with_reducible refine (headgatelaw29_wakes.calls kj7  t255 _ ?side1 A12.out).mono ?_); (case side1 => first | ((refine Glob.keep HG.out ?_); (repeat (first | (with_reducible first | exact HB.out | apply below_alloc | apply pw_below_drewN | apply below_drew1) | exact HB.out)); done) | exact HG.out); rintro e w13 ⟨rfl, hb⟩; refine ⟨_, rfl, ?_⟩; have n0_ := Aside0.mk (Kd.R_below (by (with_reducible repeat (first | apply Kd.R_alloc | apply Kd.R_drewN | apply Kd.R_drew)); exact HO_8.out) hb); have n1_ := Aside0.mk (below_step (by repeat (first | (with_reducible first | exact HB.out | apply below_alloc | apply pw_below_drewN | apply below_drew1) | exact HB.out)) hb); clear HO_8; clear HB; have HO_8 := n0_; have HB := n1_; clear n0_ n1_; (try clear hb); (try clear hb2); (try clear hk); (try clear hi)))
       go_ret
       exact ⟨by first | rfl | (simp [errW_none, errW_some] <;> rfl) | (simp [*, errW_none, errW_some] <;> rfl) | (simp [bt, *]; done) | (unfold bt; simp [*]; done), by repeat (first | (with_reducible first | exact HB.out | apply below_alloc | apply pw_below_drewN | apply below_drew1) | exact HB.out)⟩
      replace c11 := Bool.eq_false_iff.mpr c11
      subst c11
      have H1 := H
      rw [if_neg (show ¬ (false = true) by decide)] at H1
      clear H
      have H := H1
      clear H1
      refine neg_first (p := (0 ≤ x9_1)) (fun c14 => ?_) (fun c14 => ?_)
      ·rw [if_neg c14] at H
       exact absurd H (by simp)
      rw [if_pos c14] at H
      have c14b0 : decide (0 ≤ x9_1) = true := decide_eq_true c14
      clear c14
      refine neg_first (p := (x9_1 < (l0.length : Int))) (fun c15 => ?_) (fun c15 => ?_)
      ·rw [if_neg c15] at H
       exact absurd H (by simp)
      rw [if_pos c15] at H
      have c15b0 : decide (x9_1 < (l0.length : Int)) = true := decide_eq_true c15
      clear c15
      replace H := Option.bind_eq_some_iff.mp H
      obtain ⟨⟨t257, t258⟩, A160, H⟩ := H
      try dsimp only at H
      have A16 := Aside0.mk A160
      clear A160
      refine neg_first (p := (t258 = 0)) (fun c17 => ?_) (fun c17 => ?_)
      ·rw [if_neg c17] at H
       have c17b0 : (t258 == 0) = false := beq_eq_false_iff_ne.mpr c17
       have c17b1 : (t258 != 0) = true := bne_iff_ne.mpr c17
       have H' := Aside0.mk H
       clear H
       have p256 : 0 ≤ (x9_1 : Int) := of_decide_eq_true (by first | (with_reducible assumption) | assumption)
       have q256 : x9_1 < (l0.length : Int) := of_decide_eq_true (by first | (with_reducible assumption) | assumption)
       obtain ⟨ad256, e256, hx256_0, hx256_1, hx256_2, hx256_3⟩ := at_T24 HR0.out x9_1 p256 q256
       cases e256
       replace hx256_0 := (HB.out.cell (World.block_lt_of_cell? w _ hx256_0)).trans hx256_0
       replace hx256_1 := (HB.out.cell (World.block_lt_of_cell? w _ hx256_1)).trans hx256_1
       replace hx256_2 := (HB.out.cell (World.block_lt_of_cell? w _ hx256_2)).trans hx256_2
       replace hx256_3 := (HB.out.cell (World.block_lt_of_cell? w _ hx256_3)).trans hx256_3
       replace p256 := eq_true p256
       replace q256 := eq_true q256
       go_wp2_with (first | ((with_reducible refine gate_callee (f := 13) rfl ?_); refine goesL_ (some 50) rfl rfl Tryd.func13 (by kernel_rfl) rfl #[.agg #[.int .i64 ((rd_T24 l0 x9_1).f0), .int .i64 ((rd_T24 l0 x9_1).f1), .string ((rd_T24 l0 x9_1).f2), .string ((rd_T24 l0 x9_1).f3)], .bool a1, .bool a2] rfl (by (try simp only [List.map_toArray, List.map_cons, List.map_nil]); first | done | rfl | (simp only [List.length_drop, List.length_take]; rfl)) ?_; (with_reducible refine (tpdu_Put.calls kj7 ((rd_T24 l0 x9_1).f0) ((rd_T24 l0 x9_1).f1) ((rd_T24 l0 x9_1).f2) ((rd_T24 l0 x9_1).f3) a1 a2 t257 t258 _ ?side1 A16.out).mono ?_); (case side1 => first | ((refine Glob.keep HG.out ?_); (repeat (first | (with_reducible first | exact HB.out | apply below_alloc | apply pw_below_drewN | apply below_drew1) | exact HB.out)); done) | exact HG.out); rintro e w22 ⟨rfl, hb⟩; refine ⟨_, rfl, ?_⟩; have n0_ := Aside0.mk (Kd.R_below (by (with_reducible repeat (first | apply Kd.R_alloc | apply Kd.R_drewN | apply Kd.R_drew)); exact HO_8.out) hb); have n1_ := Aside0.mk (below_step (by repeat (first | (with_reducible first | exact HB.out | apply below_alloc | apply pw_below_drewN | apply below_drew1) | exact HB.out)) hb); clear HO_8; clear HB; have HO_8 := n0_; have HB := n1_; clear n0_ n1_; (try clear hb); (try clear hb2); (try clear hk); (try clear hi)))
       go_roundg kj7
       case measure => have := HK1.out; have := HJ7.out; omega
       case rel => exact ⟨(x7_1), (x8_1), (wrap64 (x9_1 + 1)), (by first | rfl | (simp; done) | (simp [*]; done)), (by first | rfl | (simp; done) | (simp [*]; done)), H', ⟨by have := HK1.out; have := HJ7.out; omega⟩, ⟨by (with_reducible repeat (first | apply Kd.R_alloc | apply Kd.R_drewN | apply Kd.R_drew)); exact HO_8.out⟩, ⟨by repeat (first | (with_reducible first | exact HB.out | apply below_alloc | apply pw_below_drewN | apply below_drew1) | exact HB.out)⟩⟩
      rw [if_pos c17] at H
      have c17b0 : (t258 == 0) = true := beq_iff_eq.mpr c17
      have c17b1 : (t258 != 0) = false := bne_eq_false_iff_eq.mpr c17
      clear c17
      refine neg_first (p := (x7_1.size + t257.size ≤ 9223372036854775807)) (fun c18 => ?_) (fun c18 => ?_)
      ·rw [if_neg c18] at H
       exact absurd H (by simp)
      rw [if_pos c18] at H
      have c18b0 := eq_true c18
      have c18b1 : decide (x7_1.size + t257.size ≤ 9223372036854775807) = true := decide_eq_true c18
      try have c18b2 : (9223372036854775807 < x7_1.size + t257.size) = False := eq_false (Nat.not_lt.2 c18)
      refine neg_first (p := (x8_1.length < 2932031007402)) (fun c19 => ?_) (fun c19 => ?_)
      ·rw [if_neg c19] at H
       exact absurd H (by simp)
      rw [if_pos c19] at H
      have LMc19 := Aside0.mk c19
      clear c19
      obtain ⟨y260, hy260⟩ : ∃ y_ : List (S24), y_ = (x8_1 ++ [(⟨(rd_T24 l0 x9_1).f0, (rd_T24 l0 x9_1).f1, (rd_T24 l0 x9_1).f2, (rd_T24 l0 x9_1).f3⟩ : S24)]) := ⟨_, rfl⟩
      replace H : (headgatelaw29_TpduStream.l0 kj7 l0 a1 a2 (x7_1 ++ t257) y260 (wrap64 (x9_1 + 1))) = some r := by first | (rw [hy260]; with_reducible exact H) | (have H2_ := (Option.bind_some _ _).symm.trans H; rw [hy260]; with_reducible exact H2_) | (have H2_ := (Option.bind_some _ _).symm.trans H; with_reducible exact H2_) | with_reducible exact H | (rw [hy260]; exact H) | exact H
      have Ny260 := Aside0.mk hy260
      clear hy260
      have H' := Aside0.mk H
      clear H
      have p256 : 0 ≤ (x9_1 : Int) := of_decide_eq_true (by first | (with_reducible assumption) | assumption)
      have q256 : x9_1 < (l0.length : Int) := of_decide_eq_true (by first | (with_reducible assumption) | assumption)
      obtain ⟨ad256, e256, hx256_0, hx256_1, hx256_2, hx256_3⟩ := at_T24 HR0.out x9_1 p256 q256
      cases e256
      replace hx256_0 := (HB.out.cell (World.block_lt_of_cell? w _ hx256_0)).trans hx256_0
      replace hx256_1 := (HB.out.cell (World.block_lt_of_cell? w _ hx256_1)).trans hx256_1
      replace hx256_2 := (HB.out.cell (World.block_lt_of_cell? w _ hx256_2)).trans hx256_2
      replace hx256_3 := (HB.out.cell (World.block_lt_of_cell? w _ hx256_3)).trans hx256_3
      replace p256 := eq_true p256
      replace q256 := eq_true q256
      go_wp2_with (first | ((with_reducible refine gate_callee (f := 13) rfl ?_); refine goesL_ (some 50) rfl rfl Tryd.func13 (by kernel_rfl) rfl #[.agg #[.int .i64 ((rd_T24 l0 x9_1).f0), .int .i64 ((rd_T24 l0 x9_1).f1), .string ((rd_T24 l0 x9_1).f2), .string ((rd_T24 l0 x9_1).f3)], .bool a1, .bool a2] rfl (by (try simp only [List.map_toArray, List.map_cons, List.map_nil]); first | done | rfl | (simp only [List.length_drop, List.length_take]; rfl)) ?_; (with_reducible refine (tpdu_Put.calls kj7 ((rd_T24 l0 x9_1).f0) ((rd_T24 l0 x9_1).f1) ((rd_T24 l0 x9_1).f2) ((rd_T24 l0 x9_1).f3) a1 a2 t257 t258 _ ?side1 A16.out).mono ?_); (case side1 => first | ((refine Glob.keep HG.out ?_); (repeat (first | (with_reducible first | exact HB.out | apply below_alloc | apply pw_below_drewN | apply below_drew1) | exact HB.out)); done) | exact HG.out); rintro e w20 ⟨rfl, hb⟩; refine ⟨_, rfl, ?_⟩; have n0_ := Aside0.mk (Kd.R_below (by (with_reducible repeat (first | apply Kd.R_alloc | apply Kd.R_drewN | apply Kd.R_drew)); exact HO_8.out) hb); have n1_ := Aside0.mk (below_step (by repeat (first | (with_reducible first | exact HB.out | apply below_alloc | apply pw_below_drewN | apply below_drew1) | exact HB.out)) hb); clear HO_8; clear HB; have HO_8 := n0_; have HB := n1_; clear n0_ n1_; (try clear hb); (try clear hb2); (try clear hk); (try clear hi); have p259 : 0 ≤ (x9_1 : Int) := of_decide_eq_true (by first | (with_reducible assumption) | assumption); have q259 : x9_1 < (l0.length : Int) := of_decide_eq_true (by first | (with_reducible assumption) | assumption); obtain ⟨ad259, e259, hx259_0, hx259_1, hx259_2, hx259_3⟩ := at_T24 HR0.out x9_1 p259 q259; obtain rfl : ad256 = ad259 := (by injection e259); replace hx259_0 := (HB.out.cell (World.block_lt_of_cell? w _ hx259_0)).trans hx259_0; replace hx259_1 := (HB.out.cell (World.block_lt_of_cell? w _ hx259_1)).trans hx259_1; replace hx259_2 := (HB.out.cell (World.block_lt_of_cell? w _ hx259_2)).trans hx259_2; replace hx259_3 := (HB.out.cell (World.block_lt_of_cell? w _ hx259_3)).trans hx259_3; replace p259 := eq_true p259; replace q259 := eq_true q259) | ((with_reducible refine gate_builtin (b := .append) (xs := #[.tmp 58, .tmp 63]) rfl ?_); (try (refine gate_guard (by rfl) ?_; dsimp only)); at_builtin; refine Kd.R_append k24 (w0 := w) w.heap.size rfl (.tmp 58) (.tmp 63) 39 24 (.agg #[(.int .i64 0), (.int .i64 0), (.string ⟨#[]⟩), (.string ⟨#[]⟩)]) 48 rfl Tryd.underlying39 info24 rfl (by decide) (by omega) u8 x8_1 (⟨(rd_T24 l0 x9_1).f0, (rd_T24 l0 x9_1).f1, (rd_T24 l0 x9_1).f2, (rd_T24 l0 x9_1).f3⟩ : S24) [.int .i64 ((rd_T24 l0 x9_1).f0), .int .i64 ((rd_T24 l0 x9_1).f1), .string ((rd_T24 l0 x9_1).f2), .string ((rd_T24 l0 x9_1).f3)] (fun _ => True) (fun _ => False) rfl rfl ?aP (fun _ hk => hk.elim) ?aF ?aO ?aB ?aS ?aL ?_; (case aP => exact k24_mkM _ _ _ (⟨(rd_T24 l0 x9_1).f0, (rd_T24 l0 x9_1).f1, (rd_T24 l0 x9_1).f2, (rd_T24 l0 x9_1).f3⟩ : S24)); (case aB => exact (by repeat (first | (with_reducible first | exact HB.out | apply below_alloc | apply pw_below_drewN | apply below_drew1) | exact HB.out))); (case aF => exact (fun _ _ => trivial)); (case aO => exact (by (with_reducible repeat (first | apply Kd.R_alloc | apply Kd.R_drewN | apply Kd.R_drew)); exact HO_8.out)); (case aS => exact (below_size (by repeat (first | (with_reducible first | exact HB.out | apply below_alloc | apply pw_below_drewN | apply below_drew1) | exact HB.out)))); (case aL => have := LMc19.out; omega); intro v261 w21 ho hb hg hat; rw [← Ny260.out] at ho; have n0_ := Aside0.mk (hb); have n1_ := Aside0.mk (ho); clear HB; clear HO_8; have HB := n0_; have HO262 := n1_; clear n0_ n1_; clear ho hb hg hat))
      go_roundg kj7
      case measure => have := HK1.out; have := HJ7.out; omega
      case rel => exact ⟨(x7_1 ++ t257), (y260), (wrap64 (x9_1 + 1)), (by first | rfl | (simp; done) | (simp [*]; done)), (by first | rfl | (simp; done) | (simp [*]; done)), H', ⟨by have := HK1.out; have := HJ7.out; omega⟩, ⟨by (with_reducible repeat (first | apply Kd.R_alloc | apply Kd.R_drewN | apply Kd.R_drew)); exact HO262.out⟩, ⟨by repeat (first | (with_reducible first | exact HB.out | apply below_alloc | apply pw_below_drewN | apply below_drew1) | exact HB.out)⟩⟩
   rw [if_neg c7] at H
   have c7b0 : decide (x9_1 < (l0.length : Int)) = false := decide_eq_false c7
   clear c7
   have H' := Aside0.mk H
   clear H
   go_wp2
   go_loopg [7, 12] k1 (fun kq v7 v12 w' => ∃ (x7_2 : ByteArray) (x12_2 : Int), v7 = .string x7_2 ∧ v12 = .int .i64 x12_2 ∧ Aside0 (headgatelaw29_TpduStream.l1 kq a1 a2 x7_2 x8_1 x12_2 = some r) ∧ Aside0 (kq ≤ k1) ∧ Aside0 (Kd.R k24 24 w' w.heap.size (fun _ => True) u8 x8_1) ∧ Aside0 (Below w.heap.size w w'))
   case atStart => exact ⟨(x7_1), (0), (by first | rfl | (simp; done) | (simp [*]; done)), (by first | rfl | (simp; done) | (simp [*]; done)), H', ⟨Nat.le_refl _⟩, ⟨by (with_reducible repeat (first | apply Kd.R_alloc | apply Kd.R_drewN | apply Kd.R_drew)); exact HO_8.out⟩, ⟨by repeat (first | (with_reducible first | exact HB.out | apply below_alloc | apply pw_below_drewN | apply below_drew1) | exact HB.out)⟩⟩
   case round =>
    clear H'
    try clear c1
    try clear p2
    try clear q2
    try clear hx2
    try clear c4
    try clear c4b0
    try clear c4b1
    try clear c5
    try clear p6
    try clear c7
    try clear c7b0
    try clear c8
    try clear c9
    try clear c9b0
    try clear c10
    try clear c10b0
    try clear c10b1
    try clear c11
    try clear c13
    try clear c14
    try clear c14b0
    try clear c15
    try clear c15b0
    try clear c17
    try clear c17b0
    try clear c17b1
    try clear c18
    try clear c18b0
    try clear c18b1
    try clear c18b2
    try clear c19
    try clear hx253_0
    try clear hx253_1
    try clear hx253_2
    try clear hx253_3
    try clear hx254_0
    try clear hx254_1
    try clear hx254_2
    try clear hx254_3
    try clear hx256_0
    try clear hx256_1
    try clear hx256_2
    try clear hx256_3
    try clear hx259_0
    try clear hx259_1
    try clear hx259_2
    try clear hx259_3
    try clear p2
    try clear p253
    try clear p254
    try clear p256
    try clear p259
    try clear q2
    try clear q253
    try clear q254
    try clear q256
    try clear q259
    obtain ⟨x7_2, x12_2, rfl, rfl, HA, HK2, HO_8, HB⟩ := hrel
    cases gk with
    | zero => exact absurd HA.out (by simp [headgatelaw29_TpduStream.l1])
    | succ k2 =>
     have H := HA.out
     clear HA
     simp only [headgatelaw29_TpduStream.l1] at H
     refine neg_first (p := (x12_2 < (x8_1.length : Int))) (fun c23 => ?_) (fun c23 => ?_)
     ·rw [if_neg c23] at H
      have c23b0 : decide (x12_2 < (x8_1.length : Int)) = false := decide_eq_false c23
      clear c23
      refine neg_first (p := (x7_2.toList = ([] : List UInt8))) (fun c40 => ?_) (fun c40 => ?_)
      ·rw [if_neg c40] at H
       have c40b0 : (x7_2.toList == ([] : List UInt8)) = false := beq_eq_false_iff_ne.mpr c40
       have c40b1 : (x7_2.toList != ([] : List UInt8)) = true := bne_iff_ne.mpr c40
       (try (have c40b2 : (x7_2 = ByteArray.empty) = False := eq_false (fun h_ => c40 (by rw [h_, ByteArray.toList_eq]; rfl))))
       exact absurd ((Option.some.inj H).trans HT0.out) (by decide)

      rw [if_pos c40] at H
      have c40b0 : (x7_2.toList == ([] : List UInt8)) = true := beq_iff_eq.mpr c40
      have c40b1 : (x7_2.toList != ([] : List UInt8)) = false := bne_eq_false_iff_eq.mpr c40
      (try (have c40b2 : (x7_2 = ByteArray.empty) = True := eq_true (by have h_ := c40; rw [ByteArray.toList_eq] at h_; exact ByteArray.ext (Array.toList_eq_nil_iff.mp h_))))
      clear c40
      replace H := Option.bind_eq_some_iff.mp H
      obtain ⟨t263, A410, H⟩ := H
      try dsimp only at H
      have A41 := Aside0.mk A410
      clear A410
      obtain rfl := Option.some.inj H
      obtain ⟨Ao42, co42, eo42⟩ := Kd.R_slice HO_8.out
      subst eo42
      go_wp2_with (first | (go_at_call 8; (with_reducible refine (headgatelaw29_wakes.calls k2  t263 _ ?side1 A41.out).mono ?_); (case side1 => first | ((refine Glob.keep HG.out ?_); (repeat (first | (with_reducible first | exact HB.out | apply below_alloc | apply pw_below_drewN | apply below_drew1) | exact HB.out)); done) | exact HG.out); rintro e w43 ⟨rfl, hb⟩; have n0_ := Aside0.mk (Kd.R_below (by (with_reducible repeat (first | apply Kd.R_alloc | apply Kd.R_drewN | apply Kd.R_drew)); exact HO_8.out) hb); have n1_ := Aside0.mk (below_step (by repeat (first | (with_reducible first | exact HB.out | apply below_alloc | apply pw_below_drewN | apply below_drew1) | exact HB.out)) hb); clear HO_8; clear HB; have HO_8 := n0_; have HB := n1_; clear n0_ n1_; (try clear hb); (try clear hb2); (try clear hk); (try clear hi)))
      go_ret
      exact ⟨by first | rfl | (simp [errW_none, errW_some] <;> rfl) | (simp [*, errW_none, errW_some] <;> rfl) | (simp [bt, *]; done) | (unfold bt; simp [*]; done), by repeat (first | (with_reducible first | exact HB.out | apply below_alloc | apply pw_below_drewN | apply below_drew1) | exact HB.out)⟩
     rw [if_pos c23] at H
     have c23b0 : decide (x12_2 < (x8_1.length : Int)) = true := decide_eq_true c23
     clear c23
     replace H := Option.bind_eq_some_iff.mp H
     obtain ⟨⟨t264, t265, t266, t267, t268, t269⟩, A240, H⟩ := H
     try dsimp only at H
     have A24 := Aside0.mk A240
     clear A240
     refine neg_first (p := (t269 = 0)) (fun c25 => ?_) (fun c25 => ?_)
     ·rw [if_neg c25] at H
      have c25b0 : (t269 == 0) = false := beq_eq_false_iff_ne.mpr c25
      have c25b1 : (t269 != 0) = true := bne_iff_ne.mpr c25
      exact absurd ((Option.some.inj H).trans HT0.out) (by decide)
     rw [if_pos c25] at H
     have c25b0 : (t269 == 0) = true := beq_iff_eq.mpr c25
     have c25b1 : (t269 != 0) = false := bne_eq_false_iff_eq.mpr c25
     clear c25
     by_cases c26 : t268 < 8
     ·rw [if_pos c26] at H
      have c26b0 : decide (t268 < 8) = true := decide_eq_true c26
      clear c26
      exact absurd ((Option.some.inj H).trans HT0.out) (by decide)
     rw [if_neg c26] at H
     have c26b0 : decide (t268 < 8) = false := decide_eq_false c26
     clear c26
     by_cases c27 : t268 > (x7_2.size : Int)
     ·rw [if_pos c27] at H
      have c27b0 : decide ((x7_2.size : Int) < t268) = true := decide_eq_true c27
      clear c27
      exact absurd ((Option.some.inj H).trans HT0.out) (by decide)
     rw [if_neg c27] at H
     have c27b0 : decide ((x7_2.size : Int) < t268) = false := decide_eq_false c27
     clear c27
     refine neg_first (p := (0 ≤ x12_2)) (fun c28 => ?_) (fun c28 => ?_)
     ·rw [if_neg c28] at H
      exact absurd H (by simp)
     rw [if_pos c28] at H
     have c28b0 : decide (0 ≤ x12_2) = true := decide_eq_true c28
     clear c28
     replace H := Option.bind_eq_some_iff.mp H
     obtain ⟨t272, A290, H⟩ := H
     try dsimp only at H
     have A29 := Aside0.mk A290
     clear A290
     refine neg_first (p := (t272 = true)) (fun c30 => ?_) (fun c30 => ?_)
     ·replace c30 := Bool.eq_false_iff.mpr c30
      subst c30
      have H1 := H
      rw [if_neg (show ¬ (false = true) by decide)] at H1
      clear H
      have H := H1
      clear H1
      exact absurd ((Option.some.inj H).trans HT0.out) (by decide)
     subst c30
     have H1 := H
     rw [if_pos rfl] at H1
     clear H
     have H := H1
     clear H1
     refine neg_first (p := (0 ≤ t268)) (fun c31 => ?_) (fun c31 => ?_)
     ·rw [if_neg c31] at H
      exact absurd H (by simp)
     rw [if_pos c31] at H
     have c31b0 := eq_true c31
     have c31b1 : decide (0 ≤ t268) = true := decide_eq_true c31
     clear c31
     refine neg_first (p := (t268 ≤ (x7_2.size : Int))) (fun c32 => ?_) (fun c32 => ?_)
     ·rw [if_neg c32] at H
      exact absurd H (by simp)
     rw [if_pos c32] at H
     have c32b0 := eq_true c32
     have c32b1 : decide (t268 ≤ (x7_2.size : Int)) = true := decide_eq_true c32
     clear c32
     have H' := Aside0.mk H
     clear H
     obtain ⟨Ao33, co33, eo33⟩ := Kd.R_slice HO_8.out
     subst eo33
     try go_wp2_with (first | ((with_reducible refine gate_callee (f := 9) rfl ?_); refine goesL_ (some 75) rfl rfl Tryd.func9 (by kernel_rfl) rfl #[.string x7_2, .bool a1, .bool a2] rfl (by (try simp only [List.map_toArray, List.map_cons, List.map_nil]); first | done | rfl | (simp only [List.length_drop, List.length_take]; rfl)) ?_; (with_reducible refine (tpdu_Get.calls k2 x7_2 a1 a2 t264 t265 t266 t267 t268 t269 _ ?side1 A24.out).mono ?_); (case side1 => first | ((refine Glob.keep HG.out ?_); (repeat (first | (with_reducible first | exact HB.out | apply below_alloc | apply pw_below_drewN | apply below_drew1) | exact HB.out)); done) | exact HG.out); rintro e w34 ⟨rfl, hb⟩; refine ⟨_, rfl, ?_⟩; have n0_ := Aside0.mk (Kd.R_below (by (with_reducible repeat (first | apply Kd.R_alloc | apply Kd.R_drewN | apply Kd.R_drew)); exact HO_8.out) hb); have n1_ := Aside0.mk (below_step (by repeat (first | (with_reducible first | exact HB.out | apply below_alloc | apply pw_below_drewN | apply below_drew1) | exact HB.out)) hb); clear HO_8; clear HB; have HO_8 := n0_; have HB := n1_; clear n0_ n1_; (try clear hb); (try clear hb2); (try clear hk); (try clear hi)) | ((with_reducible refine gate_dst (N := 13) rfl ?_); (try (refine gate_guard (by rfl) ?_; dsimp only)); refine box_event ?hg (N := 13) ?hd (cs := #[.int .i64 0, .int .i64 0, .string (⟨#[]⟩ : ByteArray), .string (⟨#[]⟩ : ByteArray)]) (t := 24) ?hr ?_; (case hd => rfl); (case hg => rfl); (case hr => first | (go_simp; done) | (go_simp; rfl)); intro gb270 hg w35 hbox hb; have n0_ := Aside0.mk (Kd.R_below (Kd.R_elderB (by (with_reducible repeat (first | apply Kd.R_alloc | apply Kd.R_drewN | apply Kd.R_drew)); exact HO_8.out) gb270 (Nat.le_of_eq hg.symm)) hb); have n1_ := Aside0.mk (below_step (by repeat (first | (with_reducible first | exact HB.out | apply below_alloc | apply pw_below_drewN | apply below_drew1) | exact HB.out)) hb); have n2_ := Aside0.mk (hbox); have n3_ := Aside0.mk ((by rw [hg]; exact (below_size (by repeat (first | (with_reducible first | exact HB.out | apply below_alloc | apply pw_below_drewN | apply below_drew1) | exact HB.out))) : w.heap.size ≤ gb270)); have n4_ := Aside0.mk ((by rw [hg]; exact (below_size (by repeat (first | (with_reducible first | exact HB.out | apply below_alloc | apply pw_below_drewN | apply below_drew1) | exact HB.out))) : w.heap.size ≤ gb270)); clear HO_8; clear HB; have HO_8 := n0_; have HB := n1_; have BK270 := n2_; have GW270 := n3_; have GE270 := n4_; clear n0_ n1_ n2_ n3_ n4_; clear hb hbox hg; have hcz36_0 : w35.cell? ⟨gb270, 0, none⟩ = some (.int .i64 0) := (blk_cell BK270.out 0).trans rfl; have hcz36_1 : w35.cell? ⟨gb270, 1, none⟩ = some (.int .i64 0) := (blk_cell BK270.out 1).trans rfl; have hcz36_2 : w35.cell? ⟨gb270, 2, none⟩ = some (.string (⟨#[]⟩ : ByteArray)) := (blk_cell BK270.out 2).trans rfl; have hcz36_3 : w35.cell? ⟨gb270, 3, none⟩ = some (.string (⟨#[]⟩ : ByteArray)) := (blk_cell BK270.out 3).trans rfl; have hfz36_0 := blk_frozen BK270.out 0; have hfz36_1 := blk_frozen BK270.out 1; have hfz36_2 := blk_frozen BK270.out 2; have hfz36_3 := blk_frozen BK270.out 3))
     have n0_ : Aside0 (Kd.R k24 24 ((((w35.setCell ⟨gb270, 0, none⟩ (.int .i64 t264)).setCell ⟨gb270, 1, none⟩ (.int .i64 t265)).setCell ⟨gb270, 2, none⟩ (.string t266)).setCell ⟨gb270, 3, none⟩ (.string t267)) w.heap.size (fun k_ => k_ ≠ gb270) (.slice Ao33 x8_1.length co33) x8_1) := ⟨by (with_reducible repeat (first | apply Kd.R_alloc | apply Kd.R_drewN | apply Kd.R_drew)); exact Kd.R_mono (Kd.R_far (p := ⟨gb270, 3, none⟩) (Kd.R_far (p := ⟨gb270, 2, none⟩) (Kd.R_far (p := ⟨gb270, 1, none⟩) (Kd.R_far (p := ⟨gb270, 0, none⟩) (Kd.R_mono HO_8.out (fun k_ hk => (⟨hk, hk.2⟩ : _ ∧ k_ ≠ gb270))) (fun _ hk => hk.2) (.int .i64 t264)) (fun _ hk => hk.2) (.int .i64 t265)) (fun _ hk => hk.2) (.string t266)) (fun _ hk => hk.2) (.string t267)) (fun _ hk => hk.1.2)⟩
     have n1_ : Aside0 (((((w35.setCell ⟨gb270, 0, none⟩ (.int .i64 t264)).setCell ⟨gb270, 1, none⟩ (.int .i64 t265)).setCell ⟨gb270, 2, none⟩ (.string t266)).setCell ⟨gb270, 3, none⟩ (.string t267)).heap[gb270]? = some (.cells #[.int .i64 t264, .int .i64 t265, .string t266, .string t267] 24 (0, 0))) := ⟨by (with_reducible repeat (first | refine blk_drewN ?_ _ | refine blk_drew ?_ | refine blk_alloc ?_ _)); refine blk_put (cs := #[.int .i64 t264, .int .i64 t265, .string t266, .string (⟨#[]⟩ : ByteArray)]) ?_ 3 _ rfl; (with_reducible repeat (first | refine blk_drewN ?_ _ | refine blk_drew ?_ | refine blk_alloc ?_ _)); refine blk_put (cs := #[.int .i64 t264, .int .i64 t265, .string (⟨#[]⟩ : ByteArray), .string (⟨#[]⟩ : ByteArray)]) ?_ 2 _ rfl; (with_reducible repeat (first | refine blk_drewN ?_ _ | refine blk_drew ?_ | refine blk_alloc ?_ _)); refine blk_put (cs := #[.int .i64 t264, .int .i64 0, .string (⟨#[]⟩ : ByteArray), .string (⟨#[]⟩ : ByteArray)]) ?_ 1 _ rfl; (with_reducible repeat (first | refine blk_drewN ?_ _ | refine blk_drew ?_ | refine blk_alloc ?_ _)); refine blk_put (cs := #[.int .i64 0, .int .i64 0, .string (⟨#[]⟩ : ByteArray), .string (⟨#[]⟩ : ByteArray)]) ?_ 0 _ rfl; (with_reducible repeat (first | refine blk_drewN ?_ _ | refine blk_drew ?_ | refine blk_alloc ?_ _)); exact BK270.out⟩
     have n2_ : Aside0 (Below w.heap.size w ((((w35.setCell ⟨gb270, 0, none⟩ (.int .i64 t264)).setCell ⟨gb270, 1, none⟩ (.int .i64 t265)).setCell ⟨gb270, 2, none⟩ (.string t266)).setCell ⟨gb270, 3, none⟩ (.string t267))) := ⟨by repeat (first | (with_reducible first | exact HB.out | apply below_alloc | apply pw_below_drewN | apply below_drew1 | refine below_set ?_ GE270.out) | exact HB.out)⟩
     (try clear HO_8)
     (try clear BK270)
     (try clear HB)
     generalize ((((w35.setCell ⟨gb270, 0, none⟩ (.int .i64 t264)).setCell ⟨gb270, 1, none⟩ (.int .i64 t265)).setCell ⟨gb270, 2, none⟩ (.string t266)).setCell ⟨gb270, 3, none⟩ (.string t267)) = w37 at n0_ n1_ n2_ ⊢
     have HO_8 := n0_
     have BK270 := n1_
     have HB := n2_
     clear n0_ n1_ n2_
     have n0_ := Aside0.mk (Kd.R_drew HO_8.out)
     have n1_ := Aside0.mk (blk_drew BK270.out)
     have n2_ := Aside0.mk (below_drew1 HB.out)
     clear HO_8
     clear BK270
     clear HB
     have HO_8 := n0_
     have BK270 := n1_
     have HB := n2_
     clear n0_ n1_ n2_
     have p271 : 0 ≤ (x12_2 : Int) := of_decide_eq_true (by first | (with_reducible assumption) | assumption)
     have q271 : x12_2 < (x8_1.length : Int) := of_decide_eq_true (by first | (with_reducible assumption) | assumption)
     obtain ⟨ad271, e271, hx271_0, hx271_1, hx271_2, hx271_3⟩ := at_T24 (Kd.R_reads' HO_8.out).2.2 x12_2 p271 q271
     cases e271
     replace p271 := eq_true p271
     replace q271 := eq_true q271
     refine start_ (n := 21) (S := fun w' => w'.cell? ⟨gb270, 0, none⟩ = some (.int .i64 t264) ∧ w'.cell? ⟨gb270, 1, none⟩ = some (.int .i64 t265) ∧ w'.cell? ⟨gb270, 2, none⟩ = some (.string t266) ∧ w'.cell? ⟨gb270, 3, none⟩ = some (.string t267) ∧ w'.cell? (ad271.add ((x12_2).toNat * 4)) = some (.int .i64 ((rd_T24 x8_1 x12_2).f0)) ∧ w'.cell? ⟨(ad271.add ((x12_2).toNat * 4)).block, (ad271.add ((x12_2).toNat * 4)).off + 1, none⟩ = some (.int .i64 ((rd_T24 x8_1 x12_2).f1)) ∧ w'.cell? ⟨(ad271.add ((x12_2).toNat * 4)).block, (ad271.add ((x12_2).toNat * 4)).off + 2, none⟩ = some (.string ((rd_T24 x8_1 x12_2).f2)) ∧ w'.cell? ⟨(ad271.add ((x12_2).toNat * 4)).block, (ad271.add ((x12_2).toNat * 4)).off + 3, none⟩ = some (.string ((rd_T24 x8_1 x12_2).f3))) (ds := []) d5x0 (by kernel_rfl) rfl rfl ⟨(blk_cell BK270.out 0).trans rfl, (blk_cell BK270.out 1).trans rfl, (blk_cell BK270.out 2).trans rfl, (blk_cell BK270.out 3).trans rfl, hx271_0, hx271_1, hx271_2, hx271_3⟩ (fun hHeld => ?_); refine with_tabW headgatelaw29_TpduStream.tab18 headgatelaw29_TpduStream.bits18 (fun HT_ HW_ => ?_)
     generalize w37.drew = w38 at HO_8 BK270 HB hx271_0 hx271_1 hx271_2 hx271_3 hHeld ⊢
     refine pon_ 0 (some 79) d5x1 HT_.out ?_
     refine pon_ 1 (some 80) d5x2 HT_.out ?_
     refine pon_ 2 (some 81) d5x3 HT_.out ?_
     refine pon_ 3 (some 82) d5x4 HT_.out ?_
     refine pon_ 4 (some 83) d5x5 HT_.out ?_
     refine pon_ 5 (some 84) d5x6 HT_.out ?_
     refine pon_ 6 (some 85) d5x7 HT_.out ?_
     refine pon_ 7 (some 86) d5x8 HT_.out ?_
     refine pon_ 8 (some 87) d5x9 HT_.out ?_
     refine pon_ 9 (some 88) d5x10 HT_.out ?_
     refine pon_ 10 (some 89) d5x11 HT_.out ?_
     refine pon_ 11 (some 90) d5x12 HT_.out ?_
     refine pon_ 12 (some 91) d5x13 HT_.out ?_
     refine pon_ 14 (some 93) d5x14 HT_.out ?_
     refine pon_ 15 (some 94) d5x15 HT_.out ?_
     refine pon_ 16 (some 95) d5x16 HT_.out ?_
     refine ptk_ 13 (some 92) d5x17 HT_.out HW_.out hHeld ?_
     refine ptk_ 17 (some 96) d5x18 HT_.out HW_.out hHeld ?_
     refine one_ (i := 18) (N := some 97) d5x19 rfl rfl (one_of HT_.out (by kernel_rfl)) (by decide) (fun K hK => ?_)
     refine goes_ Tryd.func11 (by kernel_rfl) rfl #[.agg #[.int .i64 t264, .int .i64 t265, .string t266, .string t267], .agg #[.int .i64 ((rd_T24 x8_1 x12_2).f0), .int .i64 ((rd_T24 x8_1 x12_2).f1), .string ((rd_T24 x8_1 x12_2).f2), .string ((rd_T24 x8_1 x12_2).f3)]] (by rfl) rfl rfl (by (try simp only [List.map_toArray, List.map_cons, List.map_nil]); first | done | rfl | (simp only [List.length_drop, List.length_take]; rfl)) ?_
     with_reducible refine (headgateref29_Same.calls t264 t265 t266 t267 ((rd_T24 x8_1 x12_2).f0) ((rd_T24 x8_1 x12_2).f1) ((rd_T24 x8_1 x12_2).f2) ((rd_T24 x8_1 x12_2).f3) true _ A29.out).mono ?_
     rintro e w39 ⟨rfl, hb⟩
     have HS4_ := (hb.cell (World.block_lt_of_cell? _ _ (hHeld.2.2.2.2.1))).trans (hHeld.2.2.2.2.1)
     have HS5_ := (hb.cell (World.block_lt_of_cell? _ _ (hHeld.2.2.2.2.2.1))).trans (hHeld.2.2.2.2.2.1)
     have HS6_ := (hb.cell (World.block_lt_of_cell? _ _ (hHeld.2.2.2.2.2.2.1))).trans (hHeld.2.2.2.2.2.2.1)
     have HS7_ := (hb.cell (World.block_lt_of_cell? _ _ (hHeld.2.2.2.2.2.2.2))).trans (hHeld.2.2.2.2.2.2.2)
     refine ⟨_, rfl, ?_⟩
     have n0_ := Aside0.mk (Kd.R_below (by (with_reducible repeat (first | apply Kd.R_alloc | apply Kd.R_drewN | apply Kd.R_drew)); exact HO_8.out) hb)
     have n1_ := Aside0.mk (blk_below (g := gb270) (o := .cells #[.int .i64 t264, .int .i64 t265, .string t266, .string t267] 24 (0, 0)) (by (with_reducible repeat (first | refine blk_drewN ?_ _ | refine blk_drew ?_ | refine blk_alloc ?_ _)); exact BK270.out) hb)
     have n2_ := Aside0.mk (below_step (by repeat (first | (with_reducible first | exact HB.out | apply below_alloc | apply pw_below_drewN | apply below_drew1 | refine below_set ?_ GE270.out) | exact HB.out)) hb)
     clear HO_8
     clear BK270
     clear HB
     have HO_8 := n0_
     have BK270 := n1_
     have HB := n2_
     clear n0_ n1_ n2_
     (try clear hb)
     (try clear hb2)
     (try clear hk)
     (try clear hi)
     refine hK.out _ _ ⟨(blk_cell BK270.out 0).trans rfl, (blk_cell BK270.out 1).trans rfl, (blk_cell BK270.out 2).trans rfl, (blk_cell BK270.out 3).trans rfl, HS4_, HS5_, HS6_, HS7_⟩ (fun hHeld => ?_)
     clear hK K
     refine norm_ (a' := ?_) ?_ ?_
     rotate_left
     ·show Act.put _ (some 97) _ = _
      simp only [Act.put, la_, lb_, lc_, i64_w, i32_w]
      rfl
     refine pon_ 19 (some 98) d5x20 HT_.out ?_
     refine pon_ 20 (some 99) d5x21 HT_.out ?_
     refine done_ (done_of HT_.out (by kernel_rfl)) ?_
     try go_wp2
     go_roundg k2
     case measure => have := HK1.out; have := HK2.out; omega
     case rel => exact ⟨(x7_2.extract (t268 : Int).toNat x7_2.size), (wrap64 (x12_2 + 1)), (by first | rfl | (simp; done) | (simp [*]; done)), (by first | rfl | (simp; done) | (simp [*]; done)), H', ⟨by have := HK1.out; have := HK2.out; omega⟩, ⟨by (with_reducible repeat (first | apply Kd.R_alloc | apply Kd.R_drewN | apply Kd.R_drew)); exact Kd.R_mono HO_8.out (fun _ hk => trivial)⟩, ⟨by repeat (first | (with_reducible first | exact HB.out | apply below_alloc | apply pw_below_drewN | apply below_drew1 | refine below_set ?_ GE270.out) | exact HB.out)⟩⟩
end Go.Proofs.YtkbjhblffbcleaaDoor.P
