-- written by this session's patched copy of the printer (wip/tools/patch_print.py); Lean checks it
import Derived.Test.YtflbeoejkbnhmaaDoorPx0
import Derived.Test.YtflbeoejkbnhmaaDoorPx1
import Derived.Test.YtflbeoejkbnhmaaDoorPx2
import Derived.Test.YtflbeoejkbnhmaaDoorPx3
namespace Go.Proofs.YtflbeoejkbnhmaaDoor.P
open Go.RowKit Go.Proofs.YtflbeoejkbnhmaaDoorW.PrintWords Go.Proofs.YtflbeoejkbnhmaaDoorW.PrintLast Go.Proofs.YtflbeoejkbnhmaaDoorW.PrintMore
attribute [local go_sem] max2_int min2_int max_two min_two max_three min_three max_four min_four   -- for this text's walks alone
set_option linter.unusedVariables false
set_option linter.unusedSimpArgs false

/-! ### headgatelaw10_AccessGrows: function 7 -/
mutual
def headgatelaw10_AccessGrows.j0 : Nat → ByteArray → Int → Bool → List (S37) → Int → ByteArray → Int → Bool → Option (Bool)
  | 0, _, _, _, _, _, _, _, _ => none
  | k + 1, x1, x2, x16, x248000, x248001, x248002, x248003, x248004 => if x16 = true then ((headgatelaw10_wakes.f k).bind fun t249 => (some t249)) else ((headgatekeep_CopyTable.f x248000 x248001 x248002 x248003 x248004).bind fun bt250 => ((headgatekeep_CopyTable.f x248000 x248001 x248002 x248003 x248004).bind fun bt258 => (if bt258.1.length < 5864062014805 then (headgatelaw10_AccessGrows.l0 k x1 0 x248000 x248001 x248002 x248003 x248004 bt250.1 bt250.2.1 bt250.2.2.1 bt250.2.2.2.1 bt250.2.2.2.2 (bt258.1 ++ [(⟨x1, x2⟩ : S37)]) bt258.2.1 bt258.2.2.1 bt258.2.2.2.1 bt258.2.2.2.2) else (none))))
def headgatelaw10_AccessGrows.l0 : Nat → ByteArray → Int → List (S37) → Int → ByteArray → Int → Bool → List (S37) → Int → ByteArray → Int → Bool → List (S37) → Int → ByteArray → Int → Bool → Option (Bool)
  | 0, _, _, _, _, _, _, _, _, _, _, _, _, _, _, _, _, _ => none
  | k + 1, x1, x9, x248000, x248001, x248002, x248003, x248004, x258000, x258001, x258002, x258003, x258004, x266000, x266001, x266002, x266003, x266004 => if x9 ≤ 16 then ((access_May.f k x258000 x258001 x258002 x258003 x258004 x1 x9).bind fun t274 => (if t274 = true then ((access_May.f k x266000 x266001 x266002 x266003 x266004 x1 x9).bind fun t275 => (if t275 = true then (headgatelaw10_AccessGrows.l0 k x1 (wrap64 (x9 + 1)) x248000 x248001 x248002 x248003 x248004 x258000 x258001 x258002 x258003 x258004 x266000 x266001 x266002 x266003 x266004) else (some false))) else (headgatelaw10_AccessGrows.l0 k x1 (wrap64 (x9 + 1)) x248000 x248001 x248002 x248003 x248004 x258000 x258001 x258002 x258003 x258004 x266000 x266001 x266002 x266003 x266004))) else ((headgateref10_Type.f x248001).bind fun t269 => (if t269 = true then (if x248001 < 3 then ((headgatelaw10_wakes.f k).bind fun t270 => (some t270)) else ((access_May.f k x266000 x266001 x266002 x266003 x266004 x1 3).bind fun t271 => (if t271 = true then ((headgatelaw10_wakes.f k).bind fun t272 => (some t272)) else (some false)))) else ((headgatelaw10_wakes.f k).bind fun t273 => (some t273))))
end
def headgatelaw10_AccessGrows.f (k : Nat) (l0_0 : List (S37)) (a0_1 : Int) (a0_2 : ByteArray) (a0_3 : Int) (a0_4 : Bool) (a1 : ByteArray) (a2 : Int) : Option (Bool) := (headgatelaw10_Large.f k l0_0 a0_1 a0_2 a0_3 a0_4).bind fun t248 => (if t248 = true then (headgatelaw10_AccessGrows.j0 k a1 a2 true l0_0 a0_1 a0_2 a0_3 a0_4) else (headgatelaw10_AccessGrows.j0 k a1 a2 (decide ((a1.size : Int) > 1000)) l0_0 a0_1 a0_2 a0_3 a0_4))
theorem headgatelaw10_AccessGrows.mono_l : ∀ k, (∀ y0 y1 y2 y3 y4 y5 y6 y7, LeO (headgatelaw10_AccessGrows.j0 k y0 y1 y2 y3 y4 y5 y6 y7) (headgatelaw10_AccessGrows.j0 (k + 1) y0 y1 y2 y3 y4 y5 y6 y7)) ∧ (∀ y0 y1 y2 y3 y4 y5 y6 y7 y8 y9 y10 y11 y12 y13 y14 y15 y16, LeO (headgatelaw10_AccessGrows.l0 k y0 y1 y2 y3 y4 y5 y6 y7 y8 y9 y10 y11 y12 y13 y14 y15 y16) (headgatelaw10_AccessGrows.l0 (k + 1) y0 y1 y2 y3 y4 y5 y6 y7 y8 y9 y10 y11 y12 y13 y14 y15 y16))
  | 0 => ⟨fun _ _ _ _ _ _ _ _ r h => by simp [headgatelaw10_AccessGrows.j0] at h, fun _ _ _ _ _ _ _ _ _ _ _ _ _ _ _ _ _ r h => by simp [headgatelaw10_AccessGrows.l0] at h⟩
  | k + 1 => by
    obtain ⟨ih0, ih1⟩ := headgatelaw10_AccessGrows.mono_l k
    refine ⟨?_, ?_⟩
    · intro y0 y1 y2 y3 y4 y5 y6 y7
      unfold headgatelaw10_AccessGrows.j0
      repeat' first
      | (with_reducible exact ih0 _ _ _ _ _ _ _ _)
      | (with_reducible exact ih1 _ _ _ _ _ _ _ _ _ _ _ _ _ _ _ _ _)
      | (with_reducible exact access_May.mono _ _ _ _ _ _ _ _)
      | (with_reducible exact headgatelaw10_Large.mono _ _ _ _ _ _)
      | (with_reducible exact headgatelaw10_wakes.mono _)
      | (with_reducible exact LeO.refl _)
      | (with_reducible exact LeO.none _)
      | (with_reducible refine LeO.ite ?_ ?_)
      | (with_reducible refine LeO.bind ?_ (fun _ => ?_))
      | exact ih0 _ _ _ _ _ _ _ _
      | exact ih1 _ _ _ _ _ _ _ _ _ _ _ _ _ _ _ _ _
      | exact access_May.mono _ _ _ _ _ _ _ _
      | exact headgatelaw10_Large.mono _ _ _ _ _ _
      | exact headgatelaw10_wakes.mono _
      | exact LeO.none _
      | refine LeO.ite ?_ ?_
      | refine LeO.bind ?_ (fun _ => ?_)
    · intro y0 y1 y2 y3 y4 y5 y6 y7 y8 y9 y10 y11 y12 y13 y14 y15 y16
      unfold headgatelaw10_AccessGrows.l0
      repeat' first
      | (with_reducible exact ih0 _ _ _ _ _ _ _ _)
      | (with_reducible exact ih1 _ _ _ _ _ _ _ _ _ _ _ _ _ _ _ _ _)
      | (with_reducible exact access_May.mono _ _ _ _ _ _ _ _)
      | (with_reducible exact headgatelaw10_Large.mono _ _ _ _ _ _)
      | (with_reducible exact headgatelaw10_wakes.mono _)
      | (with_reducible exact LeO.refl _)
      | (with_reducible exact LeO.none _)
      | (with_reducible refine LeO.ite ?_ ?_)
      | (with_reducible refine LeO.bind ?_ (fun _ => ?_))
      | exact ih0 _ _ _ _ _ _ _ _
      | exact ih1 _ _ _ _ _ _ _ _ _ _ _ _ _ _ _ _ _
      | exact access_May.mono _ _ _ _ _ _ _ _
      | exact headgatelaw10_Large.mono _ _ _ _ _ _
      | exact headgatelaw10_wakes.mono _
      | exact LeO.none _
      | refine LeO.ite ?_ ?_
      | refine LeO.bind ?_ (fun _ => ?_)
theorem headgatelaw10_AccessGrows.mono : ∀ a0 a1 a2 a3 a4 a5 a6 k, LeO (headgatelaw10_AccessGrows.f k a0 a1 a2 a3 a4 a5 a6) (headgatelaw10_AccessGrows.f (k + 1) a0 a1 a2 a3 a4 a5 a6) := by
  intro a0 a1 a2 a3 a4 a5 a6 k
  obtain ⟨ih0, ih1⟩ := headgatelaw10_AccessGrows.mono_l k
  unfold headgatelaw10_AccessGrows.f
  repeat' first
      | (with_reducible exact ih0 _ _ _ _ _ _ _ _)
      | (with_reducible exact ih1 _ _ _ _ _ _ _ _ _ _ _ _ _ _ _ _ _)
      | (with_reducible exact access_May.mono _ _ _ _ _ _ _ _)
      | (with_reducible exact headgatelaw10_Large.mono _ _ _ _ _ _)
      | (with_reducible exact headgatelaw10_wakes.mono _)
      | (with_reducible exact LeO.refl _)
      | (with_reducible exact LeO.none _)
      | (with_reducible refine LeO.ite ?_ ?_)
      | (with_reducible refine LeO.bind ?_ (fun _ => ?_))
      | exact ih0 _ _ _ _ _ _ _ _
      | exact ih1 _ _ _ _ _ _ _ _ _ _ _ _ _ _ _ _ _
      | exact access_May.mono _ _ _ _ _ _ _ _
      | exact headgatelaw10_Large.mono _ _ _ _ _ _
      | exact headgatelaw10_wakes.mono _
      | exact LeO.none _
      | refine LeO.ite ?_ ?_
      | refine LeO.bind ?_ (fun _ => ?_)
set_option maxHeartbeats 8000000 in
set_option maxRecDepth 100000 in
theorem headgatelaw10_AccessGrows.calls (k : Nat) (A0_0 : Option Addr) (c0_0 : Nat) (l0_0 : List (S37)) (a0_1 : Int) (a0_2 : ByteArray) (a0_3 : Int) (a0_4 : Bool) (a1 : ByteArray) (a2 : Int) (r : Bool) (w : World) (hr0_0 : Kd.C k37 w A0_0 l0_0.length l0_0) (hc0_0 : l0_0.length ≤ c0_0) (hG : Glob w) (hT : r = true) (h : headgatelaw10_AccessGrows.f k l0_0 a0_1 a0_2 a0_3 a0_4 a1 a2 = some r) :
    Calls Tryd.prog 7 #[.agg #[.slice A0_0 l0_0.length c0_0, .int .i64 a0_1, .string a0_2, .int .u32 a0_3, .bool a0_4], .string a1, .int .u64 a2] w fun e w' => e = .returned (.bool r) ∧ Below w.heap.size w w' := by
  have hu27 := Tryd.underlying27
  have hu37 := Tryd.underlying37
  have HT0 := Aside0.mk hT
  clear hT
  have HG := Aside0.mk hG
  clear hG
  have HR0_0 := Aside0.mk hr0_0
  have HC0_0 := Aside0.mk hc0_0
  clear hr0_0 hc0_0
  have HB := Aside0.mk (Below.refl w.heap.size w)
  have H : ((headgatelaw10_Large.f k l0_0 a0_1 a0_2 a0_3 a0_4).bind fun t248 => (if t248 = true then (headgatelaw10_AccessGrows.j0 k a1 a2 true l0_0 a0_1 a0_2 a0_3 a0_4) else (headgatelaw10_AccessGrows.j0 k a1 a2 (decide ((a1.size : Int) > 1000)) l0_0 a0_1 a0_2 a0_3 a0_4))) = some r := h
  clear h
  have HC4 := Aside0.mk H
  clear H
  go_enter Tryd.func7, Tryd.ntmps7
  go_upto_region 1 with (first | ((with_reducible refine gate_dst (N := 3) rfl ?_); (try (refine gate_guard (by rfl) ?_; dsimp only)); refine box_event ?hg (N := 3) ?hd (cs := #[.slice A0_0 l0_0.length c0_0, .int .i64 a0_1, .string a0_2, .int .u32 a0_3, .bool a0_4]) (t := 27) ?hr ?_; (case hd => rfl); (case hg => rfl); (case hr => first | (go_simp; done) | (go_simp; rfl)); intro gb247 hg w5 hbox hb; have n0_ := Aside0.mk (below_step (by repeat (first | (with_reducible first | exact HB.out | apply below_alloc | apply pw_below_drewN | apply below_drew1) | exact HB.out)) hb); have n1_ := Aside0.mk (hbox); have n2_ := Aside0.mk ((by rw [hg]; exact (below_size (by repeat (first | (with_reducible first | exact HB.out | apply below_alloc | apply pw_below_drewN | apply below_drew1) | exact HB.out))) : w.heap.size ≤ gb247)); have n3_ := Aside0.mk ((by rw [hg]; exact (below_size (by repeat (first | (with_reducible first | exact HB.out | apply below_alloc | apply pw_below_drewN | apply below_drew1) | exact HB.out))) : w.heap.size ≤ gb247)); clear HB; have HB := n0_; have BK247 := n1_; have GW247 := n2_; have GE247 := n3_; clear n0_ n1_ n2_ n3_; clear hb hbox hg))
  (try simp only [Act.put, List.setIfInBounds_toArray, List.set_cons_zero, List.set_cons_succ])
  go_cut [16] (fun v16 wc => ∃ (kq : Nat) (x16_3 : Bool), v16 = .bool x16_3 ∧ Aside0 (headgatelaw10_AccessGrows.j0 kq a1 a2 x16_3 l0_0 a0_1 a0_2 a0_3 a0_4 = some r) ∧ Aside0 (kq ≤ k) ∧ Aside0 (wc.heap[gb247]? = some (.cells #[(.slice A0_0 l0_0.length c0_0), .int .i64 a0_1, .string a0_2, .int .u32 a0_3, .bool a0_4] 27 (0, 0))) ∧ Aside0 (Below w.heap.size w wc))
  case first =>
    have H := HC4.out
    clear HC4
    replace H := Option.bind_eq_some_iff.mp H
    obtain ⟨t248, A60, H⟩ := H
    replace H : (if t248 = true then (headgatelaw10_AccessGrows.j0 k a1 a2 true l0_0 a0_1 a0_2 a0_3 a0_4) else (headgatelaw10_AccessGrows.j0 k a1 a2 (decide ((a1.size : Int) > 1000)) l0_0 a0_1 a0_2 a0_3 a0_4)) = some r := H
    have A6 := Aside0.mk A60
    clear A60
    by_cases c7 : t248 = true
    · subst c7
      have H1 : (headgatelaw10_AccessGrows.j0 k a1 a2 true l0_0 a0_1 a0_2 a0_3 a0_4) = some r := by rw [if_pos rfl] at H; exact H
      clear H
      have H := H1
      clear H1
      have H' := Aside0.mk H
      clear H
      have hcz8_0 : w5.cell? ⟨gb247, 0, none⟩ = some (.slice A0_0 l0_0.length c0_0) := (blk_cell BK247.out 0).trans rfl
      have hcz8_1 : w5.cell? ⟨gb247, 1, none⟩ = some (.int .i64 a0_1) := (blk_cell BK247.out 1).trans rfl
      have hcz8_2 : w5.cell? ⟨gb247, 2, none⟩ = some (.string a0_2) := (blk_cell BK247.out 2).trans rfl
      have hcz8_3 : w5.cell? ⟨gb247, 3, none⟩ = some (.int .u32 a0_3) := (blk_cell BK247.out 3).trans rfl
      have hcz8_4 : w5.cell? ⟨gb247, 4, none⟩ = some (.bool a0_4) := (blk_cell BK247.out 4).trans rfl
      have hfz8_0 := blk_frozen BK247.out 0
      have hfz8_1 := blk_frozen BK247.out 1
      have hfz8_2 := blk_frozen BK247.out 2
      have hfz8_3 := blk_frozen BK247.out 3
      have hfz8_4 := blk_frozen BK247.out 4
      go_wp2_with (first | ((with_reducible refine gate_callee (f := 8) rfl ?_); refine goesL_ (some 11) rfl rfl Tryd.func8 (by kernel_rfl) rfl #[.agg #[.slice A0_0 l0_0.length c0_0, .int .i64 a0_1, .string a0_2, .int .u32 a0_3, .bool a0_4]] rfl (by (try simp only [List.map_toArray, List.map_cons, List.map_nil]); first | done | rfl | (simp only [List.length_drop, List.length_take]; rfl)) ?_; (with_reducible refine (headgatelaw10_Large.calls k _ _ l0_0 a0_1 a0_2 a0_3 a0_4 true _ ?side1 ?side2 A6.out).mono ?_); (case side1 => repeat (first | exact (Kd.C_below HR0_0.out HB.out) | (with_reducible refine Kd.C_alloc ?_ _) | (with_reducible refine Kd.C_drewN ?_ _) | (with_reducible refine Kd.C_drew ?_))); (case side2 => exact HC0_0.out); rintro e w9 ⟨rfl, hb⟩; refine ⟨_, rfl, ?_⟩; have n0_ := Aside0.mk (blk_below (g := gb247) (o := .cells #[.slice A0_0 l0_0.length c0_0, .int .i64 a0_1, .string a0_2, .int .u32 a0_3, .bool a0_4] 27 (0, 0)) (by (with_reducible repeat (first | refine blk_drewN ?_ _ | refine blk_drew ?_ | refine blk_alloc ?_ _)); exact BK247.out) hb); have n1_ := Aside0.mk (below_step (by repeat (first | (with_reducible first | exact HB.out | apply below_alloc | apply pw_below_drewN | apply below_drew1 | refine below_set ?_ GE247.out) | exact HB.out)) hb); clear BK247; clear HB; have BK247 := n0_; have HB := n1_; clear n0_ n1_; (try clear hb); (try clear hb2); (try clear hk); (try clear hi)))
      go_meet
      case rel => exact ⟨_, (true), (by first | rfl | (simp; done) | (simp [*]; done)), H', ⟨by first | omega | exact Nat.le_refl _⟩, ⟨by (with_reducible repeat (first | refine blk_drewN ?_ _ | refine blk_drew ?_ | refine blk_alloc ?_ _)); exact BK247.out⟩, ⟨by repeat (first | (with_reducible first | exact HB.out | apply below_alloc | apply pw_below_drewN | apply below_drew1 | refine below_set ?_ GE247.out) | exact HB.out)⟩⟩
    · replace c7 := Bool.eq_false_iff.mpr c7
      subst c7
      have H1 : (headgatelaw10_AccessGrows.j0 k a1 a2 (decide ((a1.size : Int) > 1000)) l0_0 a0_1 a0_2 a0_3 a0_4) = some r := by rw [if_neg (show ¬ (false = true) by decide)] at H; exact H
      clear H
      have H := H1
      clear H1
      have H' := Aside0.mk H
      clear H
      have hcz10_0 : w5.cell? ⟨gb247, 0, none⟩ = some (.slice A0_0 l0_0.length c0_0) := (blk_cell BK247.out 0).trans rfl
      have hcz10_1 : w5.cell? ⟨gb247, 1, none⟩ = some (.int .i64 a0_1) := (blk_cell BK247.out 1).trans rfl
      have hcz10_2 : w5.cell? ⟨gb247, 2, none⟩ = some (.string a0_2) := (blk_cell BK247.out 2).trans rfl
      have hcz10_3 : w5.cell? ⟨gb247, 3, none⟩ = some (.int .u32 a0_3) := (blk_cell BK247.out 3).trans rfl
      have hcz10_4 : w5.cell? ⟨gb247, 4, none⟩ = some (.bool a0_4) := (blk_cell BK247.out 4).trans rfl
      have hfz10_0 := blk_frozen BK247.out 0
      have hfz10_1 := blk_frozen BK247.out 1
      have hfz10_2 := blk_frozen BK247.out 2
      have hfz10_3 := blk_frozen BK247.out 3
      have hfz10_4 := blk_frozen BK247.out 4
      go_wp2_with (first | ((with_reducible refine gate_callee (f := 8) rfl ?_); refine goesL_ (some 11) rfl rfl Tryd.func8 (by kernel_rfl) rfl #[.agg #[.slice A0_0 l0_0.length c0_0, .int .i64 a0_1, .string a0_2, .int .u32 a0_3, .bool a0_4]] rfl (by (try simp only [List.map_toArray, List.map_cons, List.map_nil]); first | done | rfl | (simp only [List.length_drop, List.length_take]; rfl)) ?_; (with_reducible refine (headgatelaw10_Large.calls k _ _ l0_0 a0_1 a0_2 a0_3 a0_4 false _ ?side1 ?side2 A6.out).mono ?_); (case side1 => repeat (first | exact (Kd.C_below HR0_0.out HB.out) | (with_reducible refine Kd.C_alloc ?_ _) | (with_reducible refine Kd.C_drewN ?_ _) | (with_reducible refine Kd.C_drew ?_))); (case side2 => exact HC0_0.out); rintro e w11 ⟨rfl, hb⟩; refine ⟨_, rfl, ?_⟩; have n0_ := Aside0.mk (blk_below (g := gb247) (o := .cells #[.slice A0_0 l0_0.length c0_0, .int .i64 a0_1, .string a0_2, .int .u32 a0_3, .bool a0_4] 27 (0, 0)) (by (with_reducible repeat (first | refine blk_drewN ?_ _ | refine blk_drew ?_ | refine blk_alloc ?_ _)); exact BK247.out) hb); have n1_ := Aside0.mk (below_step (by repeat (first | (with_reducible first | exact HB.out | apply below_alloc | apply pw_below_drewN | apply below_drew1 | refine below_set ?_ GE247.out) | exact HB.out)) hb); clear BK247; clear HB; have BK247 := n0_; have HB := n1_; clear n0_ n1_; (try clear hb); (try clear hb2); (try clear hk); (try clear hi)))
      go_meet
      case rel => exact ⟨_, (decide ((a1.size : Int) > 1000)), (by first | rfl | (simp; done) | (simp [*]; done)), H', ⟨by first | omega | exact Nat.le_refl _⟩, ⟨by (with_reducible repeat (first | refine blk_drewN ?_ _ | refine blk_drew ?_ | refine blk_alloc ?_ _)); exact BK247.out⟩, ⟨by repeat (first | (with_reducible first | exact HB.out | apply below_alloc | apply pw_below_drewN | apply below_drew1 | refine below_set ?_ GE247.out) | exact HB.out)⟩⟩
  case rest =>
    clear HC4
    try clear p2
    try clear c7
    try clear c8
    try clear hcz10_0
    try clear hcz10_1
    try clear hcz10_2
    try clear hcz10_3
    try clear hcz10_4
    try clear hcz8_0
    try clear hcz8_1
    try clear hcz8_2
    try clear hcz8_3
    try clear hcz8_4
    try clear hfz10_0
    try clear hfz10_1
    try clear hfz10_2
    try clear hfz10_3
    try clear hfz10_4
    try clear hfz8_0
    try clear hfz8_1
    try clear hfz8_2
    try clear hfz8_3
    try clear hfz8_4
    obtain ⟨kq, x16_3, rfl, HA, HJ3, BK247, HB⟩ := hcut
    cases kq with
    | zero => exact absurd HA.out (by simp [headgatelaw10_AccessGrows.j0])
    | succ kj3 =>
      have H := HA.out
      clear HA
      simp only [headgatelaw10_AccessGrows.j0] at H
      by_cases c12 : x16_3 = true
      · subst c12
        have H1 : ((headgatelaw10_wakes.f kj3).bind fun t249 => (some t249)) = some r := by rw [if_pos rfl] at H; exact H
        clear H
        have H := H1
        clear H1
        replace H := Option.bind_eq_some_iff.mp H
        obtain ⟨t249, A130, H⟩ := H
        replace H : (some t249) = some r := H
        have A13 := Aside0.mk A130
        clear A130
        obtain rfl := Option.some.inj H
        go_wp2_with (first | ((with_reducible refine gate_callee (f := 9) rfl ?_); refine goesL_ (some 17) rfl rfl Tryd.func9 (by kernel_rfl) rfl #[] rfl (by (try simp only [List.map_toArray, List.map_cons, List.map_nil]); first | done | rfl | (simp only [List.length_drop, List.length_take]; rfl)) ?_; (with_reducible refine (headgatelaw10_wakes.calls kj3  t249 _ ?side1 A13.out).mono ?_); (case side1 => first | ((refine Glob.keep HG.out ?_); (repeat (first | (with_reducible first | exact HB.out | apply below_alloc | apply pw_below_drewN | apply below_drew1 | refine below_set ?_ GE247.out) | exact HB.out)); done) | exact HG.out); rintro e w14 ⟨rfl, hb⟩; refine ⟨_, rfl, ?_⟩; have n0_ := Aside0.mk (blk_below (g := gb247) (o := .cells #[.slice A0_0 l0_0.length c0_0, .int .i64 a0_1, .string a0_2, .int .u32 a0_3, .bool a0_4] 27 (0, 0)) (by (with_reducible repeat (first | refine blk_drewN ?_ _ | refine blk_drew ?_ | refine blk_alloc ?_ _)); exact BK247.out) hb); have n1_ := Aside0.mk (below_step (by repeat (first | (with_reducible first | exact HB.out | apply below_alloc | apply pw_below_drewN | apply below_drew1 | refine below_set ?_ GE247.out) | exact HB.out)) hb); clear BK247; clear HB; have BK247 := n0_; have HB := n1_; clear n0_ n1_; (try clear hb); (try clear hb2); (try clear hk); (try clear hi)))
        go_ret
        exact ⟨by first | rfl | (simp [errW_none, errW_some] <;> rfl) | (simp [*, errW_none, errW_some] <;> rfl), by repeat (first | (with_reducible first | exact HB.out | apply below_alloc | apply pw_below_drewN | apply below_drew1 | refine below_set ?_ GE247.out) | exact HB.out)⟩
      · replace c12 := Bool.eq_false_iff.mpr c12
        subst c12
        have H1 : ((headgatekeep_CopyTable.f l0_0 a0_1 a0_2 a0_3 a0_4).bind fun bt250 => ((headgatekeep_CopyTable.f l0_0 a0_1 a0_2 a0_3 a0_4).bind fun bt258 => (if bt258.1.length < 5864062014805 then (headgatelaw10_AccessGrows.l0 kj3 a1 0 l0_0 a0_1 a0_2 a0_3 a0_4 bt250.1 bt250.2.1 bt250.2.2.1 bt250.2.2.2.1 bt250.2.2.2.2 (bt258.1 ++ [(⟨a1, a2⟩ : S37)]) bt258.2.1 bt258.2.2.1 bt258.2.2.2.1 bt258.2.2.2.2) else (none)))) = some r := by rw [if_neg (show ¬ (false = true) by decide)] at H; exact H
        clear H
        have H := H1
        clear H1
        replace H := Option.bind_eq_some_iff.mp H
        obtain ⟨⟨t250, t253, t254, t255, t256⟩, A150, H⟩ := H
        replace H : ((headgatekeep_CopyTable.f l0_0 a0_1 a0_2 a0_3 a0_4).bind fun bt258 => (if bt258.1.length < 5864062014805 then (headgatelaw10_AccessGrows.l0 kj3 a1 0 l0_0 a0_1 a0_2 a0_3 a0_4 t250 t253 t254 t255 t256 (bt258.1 ++ [(⟨a1, a2⟩ : S37)]) bt258.2.1 bt258.2.2.1 bt258.2.2.2.1 bt258.2.2.2.2) else (none))) = some r := H
        have A15 := Aside0.mk A150
        clear A150
        replace H := Option.bind_eq_some_iff.mp H
        obtain ⟨⟨t258, t261, t262, t263, t264⟩, A160, H⟩ := H
        replace H : (if t258.length < 5864062014805 then (headgatelaw10_AccessGrows.l0 kj3 a1 0 l0_0 a0_1 a0_2 a0_3 a0_4 t250 t253 t254 t255 t256 (t258 ++ [(⟨a1, a2⟩ : S37)]) t261 t262 t263 t264) else (none)) = some r := H
        have A16 := Aside0.mk A160
        clear A160
        by_cases c17 : t258.length < 5864062014805
        · rw [if_pos c17] at H
          have LMc17 := Aside0.mk c17
          clear c17
          obtain ⟨y266, hy266⟩ : ∃ y_ : List (S37), y_ = (t258 ++ [(⟨a1, a2⟩ : S37)]) := ⟨_, rfl⟩
          replace H : (headgatelaw10_AccessGrows.l0 kj3 a1 0 l0_0 a0_1 a0_2 a0_3 a0_4 t250 t253 t254 t255 t256 y266 t261 t262 t263 t264) = some r := by first | (rw [hy266]; with_reducible exact H) | (have H2_ := (Option.bind_some _ _).symm.trans H; rw [hy266]; with_reducible exact H2_) | (have H2_ := (Option.bind_some _ _).symm.trans H; with_reducible exact H2_) | with_reducible exact H | (rw [hy266]; exact H) | exact H
          have Ny266 := Aside0.mk hy266
          clear hy266
          have H' := Aside0.mk H
          clear H
          have hcz18_0 : wc.cell? ⟨gb247, 0, none⟩ = some (.slice A0_0 l0_0.length c0_0) := (blk_cell BK247.out 0).trans rfl
          have hcz18_1 : wc.cell? ⟨gb247, 1, none⟩ = some (.int .i64 a0_1) := (blk_cell BK247.out 1).trans rfl
          have hcz18_2 : wc.cell? ⟨gb247, 2, none⟩ = some (.string a0_2) := (blk_cell BK247.out 2).trans rfl
          have hcz18_3 : wc.cell? ⟨gb247, 3, none⟩ = some (.int .u32 a0_3) := (blk_cell BK247.out 3).trans rfl
          have hcz18_4 : wc.cell? ⟨gb247, 4, none⟩ = some (.bool a0_4) := (blk_cell BK247.out 4).trans rfl
          have hfz18_0 := blk_frozen BK247.out 0
          have hfz18_1 := blk_frozen BK247.out 1
          have hfz18_2 := blk_frozen BK247.out 2
          have hfz18_3 := blk_frozen BK247.out 3
          have hfz18_4 := blk_frozen BK247.out 4
          go_wp2_with (first | ((with_reducible refine gate_callee (f := 10) rfl ?_); refine goesL_ (some 19) rfl rfl Tryd.func10 (by kernel_rfl) rfl #[.agg #[.slice A0_0 l0_0.length c0_0, .int .i64 a0_1, .string a0_2, .int .u32 a0_3, .bool a0_4]] rfl (by (try simp only [List.map_toArray, List.map_cons, List.map_nil]); first | done | rfl | (simp only [List.length_drop, List.length_take]; rfl)) ?_; (with_reducible refine (headgatekeep_CopyTable.calls _ _ l0_0 a0_1 a0_2 a0_3 a0_4 t250 t253 t254 t255 t256 _ ?side1 ?side2 A15.out).mono ?_); (case side1 => repeat (first | exact (Kd.C_below HR0_0.out HB.out) | (with_reducible refine Kd.C_alloc ?_ _) | (with_reducible refine Kd.C_drewN ?_ _) | (with_reducible refine Kd.C_drew ?_))); (case side2 => exact HC0_0.out); rintro e w19 ⟨v251, rfl, ho0, hb⟩; refine ⟨_, rfl, ?_⟩; have n0_ := Aside0.mk (Kd.R_lower ho0 (below_size (by repeat (first | (with_reducible first | exact HB.out | apply below_alloc | apply pw_below_drewN | apply below_drew1 | refine below_set ?_ GE247.out) | exact HB.out)))); have n1_ := Aside0.mk (blk_below (g := gb247) (o := .cells #[.slice A0_0 l0_0.length c0_0, .int .i64 a0_1, .string a0_2, .int .u32 a0_3, .bool a0_4] 27 (0, 0)) (by (with_reducible repeat (first | refine blk_drewN ?_ _ | refine blk_drew ?_ | refine blk_alloc ?_ _)); exact BK247.out) hb); have n2_ := Aside0.mk (below_step (by repeat (first | (with_reducible first | exact HB.out | apply below_alloc | apply pw_below_drewN | apply below_drew1 | refine below_set ?_ GE247.out) | exact HB.out)) hb); clear BK247; clear HB; have HO252 := n0_; have BK247 := n1_; have HB := n2_; clear n0_ n1_ n2_; (try clear hb); (try clear hb2); (try clear hk); (try clear hi); (try clear ho0)) | ((with_reducible refine gate_dst (N := 7) rfl ?_); (try (refine gate_guard (by rfl) ?_; dsimp only)); refine box_event ?hg (N := 7) ?hd (cs := #[.slice none 0 0, .int .i64 0, .string (⟨#[]⟩ : ByteArray), .int .u32 0, .bool false]) (t := 27) ?hr ?_; (case hd => rfl); (case hg => rfl); (case hr => first | (go_simp; done) | (go_simp; rfl)); intro gb257 hg w20 hbox hb; have n0_ := Aside0.mk (Kd.R_below (by (with_reducible repeat (first | apply Kd.R_alloc | apply Kd.R_drewN | apply Kd.R_drew)); exact HO252.out) hb); have n1_ := Aside0.mk (blk_below (g := gb247) (o := .cells #[.slice A0_0 l0_0.length c0_0, .int .i64 a0_1, .string a0_2, .int .u32 a0_3, .bool a0_4] 27 (0, 0)) (by (with_reducible repeat (first | refine blk_drewN ?_ _ | refine blk_drew ?_ | refine blk_alloc ?_ _)); exact BK247.out) hb); have n2_ := Aside0.mk (below_step (by repeat (first | (with_reducible first | exact HB.out | apply below_alloc | apply pw_below_drewN | apply below_drew1 | refine below_set ?_ GE247.out) | exact HB.out)) hb); have n3_ := Aside0.mk (hbox); have n4_ := Aside0.mk ((by rw [hg]; exact (below_size (by repeat (first | (with_reducible first | exact HB.out | apply below_alloc | apply pw_below_drewN | apply below_drew1 | refine below_set ?_ GE247.out) | exact HB.out))) : w.heap.size ≤ gb257)); have n5_ := Aside0.mk ((by rw [hg]; exact (below_size (by repeat (first | (with_reducible first | exact HB.out | apply below_alloc | apply pw_below_drewN | apply below_drew1 | refine below_set ?_ GE247.out) | exact HB.out))) : w.heap.size ≤ gb257)); have n6_ := Aside0.mk ((by rw [hg]; exact Nat.ne_of_lt (blk_lt (g := gb247) (o := .cells #[.slice A0_0 l0_0.length c0_0, .int .i64 a0_1, .string a0_2, .int .u32 a0_3, .bool a0_4] 27 (0, 0)) (by (with_reducible repeat (first | refine blk_drewN ?_ _ | refine blk_drew ?_ | refine blk_alloc ?_ _)); exact BK247.out)) : gb247 ≠ gb257)); have n7_ := Aside0.mk ((by rw [hg]; exact Nat.ne_of_gt (blk_lt (g := gb247) (o := .cells #[.slice A0_0 l0_0.length c0_0, .int .i64 a0_1, .string a0_2, .int .u32 a0_3, .bool a0_4] 27 (0, 0)) (by (with_reducible repeat (first | refine blk_drewN ?_ _ | refine blk_drew ?_ | refine blk_alloc ?_ _)); exact BK247.out)) : gb257 ≠ gb247)); clear HO252; clear BK247; clear HB; have HO252 := n0_; have BK247 := n1_; have HB := n2_; have BK257 := n3_; have GW257 := n4_; have GE257 := n5_; have NB247_257 := n6_; have NB257_247 := n7_; clear n0_ n1_ n2_ n3_ n4_ n5_ n6_ n7_; clear hb hbox hg; obtain ⟨Ao21, co21, eo21⟩ := Kd.R_slice HO252.out; subst eo21; have hnb22 := NB257_247.out; have hnc22 := NB247_257.out; have hcz23_0 : w20.cell? ⟨gb257, 0, none⟩ = some (.slice none 0 0) := (blk_cell BK257.out 0).trans rfl; have hcz23_1 : w20.cell? ⟨gb257, 1, none⟩ = some (.int .i64 0) := (blk_cell BK257.out 1).trans rfl; have hcz23_2 : w20.cell? ⟨gb257, 2, none⟩ = some (.string (⟨#[]⟩ : ByteArray)) := (blk_cell BK257.out 2).trans rfl; have hcz23_3 : w20.cell? ⟨gb257, 3, none⟩ = some (.int .u32 0) := (blk_cell BK257.out 3).trans rfl; have hcz23_4 : w20.cell? ⟨gb257, 4, none⟩ = some (.bool false) := (blk_cell BK257.out 4).trans rfl; have hfz23_0 := blk_frozen BK257.out 0; have hfz23_1 := blk_frozen BK257.out 1; have hfz23_2 := blk_frozen BK257.out 2; have hfz23_3 := blk_frozen BK257.out 3; have hfz23_4 := blk_frozen BK257.out 4; have hcz24_0 : w20.cell? ⟨gb247, 0, none⟩ = some (.slice A0_0 l0_0.length c0_0) := (blk_cell BK247.out 0).trans rfl; have hcz24_1 : w20.cell? ⟨gb247, 1, none⟩ = some (.int .i64 a0_1) := (blk_cell BK247.out 1).trans rfl; have hcz24_2 : w20.cell? ⟨gb247, 2, none⟩ = some (.string a0_2) := (blk_cell BK247.out 2).trans rfl; have hcz24_3 : w20.cell? ⟨gb247, 3, none⟩ = some (.int .u32 a0_3) := (blk_cell BK247.out 3).trans rfl; have hcz24_4 : w20.cell? ⟨gb247, 4, none⟩ = some (.bool a0_4) := (blk_cell BK247.out 4).trans rfl; have hfz24_0 := blk_frozen BK247.out 0; have hfz24_1 := blk_frozen BK247.out 1; have hfz24_2 := blk_frozen BK247.out 2; have hfz24_3 := blk_frozen BK247.out 3; have hfz24_4 := blk_frozen BK247.out 4) | ((with_reducible refine gate_callee (f := 10) rfl ?_); refine goesL_ (some 21) rfl rfl Tryd.func10 (by kernel_rfl) rfl #[.agg #[.slice A0_0 l0_0.length c0_0, .int .i64 a0_1, .string a0_2, .int .u32 a0_3, .bool a0_4]] rfl (by (try simp only [List.map_toArray, List.map_cons, List.map_nil]); first | done | rfl | (simp only [List.length_drop, List.length_take]; rfl)) ?_; (with_reducible refine (headgatekeep_CopyTable.calls _ _ l0_0 a0_1 a0_2 a0_3 a0_4 t258 t261 t262 t263 t264 _ ?side1 ?side2 A16.out).mono ?_); (case side1 => exact Kd.C_below HR0_0.out (by repeat (first | (with_reducible first | exact HB.out | apply below_alloc | apply pw_below_drewN | apply below_drew1 | refine below_set ?_ GE247.out | refine below_set ?_ GE257.out) | exact HB.out))); (case side2 => exact HC0_0.out); rintro e w25 ⟨v259, rfl, ho0, hb⟩; refine ⟨_, rfl, ?_⟩; have n0_ := Aside0.mk (Kd.R_elder' (by (with_reducible repeat (first | apply Kd.R_alloc | apply Kd.R_drewN | apply Kd.R_drew)); exact (Kd.R_mono (Kd.R_far (p := ⟨gb257, 4, none⟩) (Kd.R_far (p := ⟨gb257, 3, none⟩) (Kd.R_far (p := ⟨gb257, 2, none⟩) (Kd.R_far (p := ⟨gb257, 1, none⟩) (Kd.R_far (p := ⟨gb257, 0, none⟩) (Kd.R_types HO252.out BK257.out (by decide)) (fun _ hk => hk.2) (.slice Ao21 t250.length co21)) (fun _ hk => hk.2) (.int .i64 t253)) (fun _ hk => hk.2) (.string t254)) (fun _ hk => hk.2) (.int .u32 t255)) (fun _ hk => hk.2) (.bool t256)) (fun _ h_ => h_.1))) (Kd.R_base ho0) hb); have n1_ := Aside0.mk (Kd.R_lower (Kd.R_new' ho0 (Kd.R_lt (by (with_reducible repeat (first | apply Kd.R_alloc | apply Kd.R_drewN | apply Kd.R_drew)); exact (Kd.R_mono (Kd.R_far (p := ⟨gb257, 4, none⟩) (Kd.R_far (p := ⟨gb257, 3, none⟩) (Kd.R_far (p := ⟨gb257, 2, none⟩) (Kd.R_far (p := ⟨gb257, 1, none⟩) (Kd.R_far (p := ⟨gb257, 0, none⟩) (Kd.R_types HO252.out BK257.out (by decide)) (fun _ hk => hk.2) (.slice Ao21 t250.length co21)) (fun _ hk => hk.2) (.int .i64 t253)) (fun _ hk => hk.2) (.string t254)) (fun _ hk => hk.2) (.int .u32 t255)) (fun _ hk => hk.2) (.bool t256)) (fun _ h_ => h_.1))))) (below_size (by repeat (first | (with_reducible first | exact HB.out | apply below_alloc | apply pw_below_drewN | apply below_drew1 | refine below_set ?_ GE247.out | refine below_set ?_ GE257.out) | exact HB.out)))); have n2_ := Aside0.mk (blk_below (g := gb247) (o := .cells #[.slice A0_0 l0_0.length c0_0, .int .i64 a0_1, .string a0_2, .int .u32 a0_3, .bool a0_4] 27 (0, 0)) (by (with_reducible repeat (first | refine blk_drewN ?_ _ | refine blk_drew ?_ | refine blk_alloc ?_ _)); refine blk_far ?_ NB247_257.out _; (with_reducible repeat (first | refine blk_drewN ?_ _ | refine blk_drew ?_ | refine blk_alloc ?_ _)); refine blk_far ?_ NB247_257.out _; (with_reducible repeat (first | refine blk_drewN ?_ _ | refine blk_drew ?_ | refine blk_alloc ?_ _)); refine blk_far ?_ NB247_257.out _; (with_reducible repeat (first | refine blk_drewN ?_ _ | refine blk_drew ?_ | refine blk_alloc ?_ _)); refine blk_far ?_ NB247_257.out _; (with_reducible repeat (first | refine blk_drewN ?_ _ | refine blk_drew ?_ | refine blk_alloc ?_ _)); refine blk_far ?_ NB247_257.out _; (with_reducible repeat (first | refine blk_drewN ?_ _ | refine blk_drew ?_ | refine blk_alloc ?_ _)); exact BK247.out) hb); have n3_ := Aside0.mk (blk_below (g := gb257) (o := .cells #[.slice Ao21 t250.length co21, .int .i64 t253, .string t254, .int .u32 t255, .bool t256] 27 (0, 0)) (by (with_reducible repeat (first | refine blk_drewN ?_ _ | refine blk_drew ?_ | refine blk_alloc ?_ _)); refine blk_put (cs := #[.slice Ao21 t250.length co21, .int .i64 t253, .string t254, .int .u32 t255, .bool false]) ?_ 4 _ rfl; (with_reducible repeat (first | refine blk_drewN ?_ _ | refine blk_drew ?_ | refine blk_alloc ?_ _)); refine blk_put (cs := #[.slice Ao21 t250.length co21, .int .i64 t253, .string t254, .int .u32 0, .bool false]) ?_ 3 _ rfl; (with_reducible repeat (first | refine blk_drewN ?_ _ | refine blk_drew ?_ | refine blk_alloc ?_ _)); refine blk_put (cs := #[.slice Ao21 t250.length co21, .int .i64 t253, .string (⟨#[]⟩ : ByteArray), .int .u32 0, .bool false]) ?_ 2 _ rfl; (with_reducible repeat (first | refine blk_drewN ?_ _ | refine blk_drew ?_ | refine blk_alloc ?_ _)); refine blk_put (cs := #[.slice Ao21 t250.length co21, .int .i64 0, .string (⟨#[]⟩ : ByteArray), .int .u32 0, .bool false]) ?_ 1 _ rfl; (with_reducible repeat (first | refine blk_drewN ?_ _ | refine blk_drew ?_ | refine blk_alloc ?_ _)); refine blk_put (cs := #[.slice none 0 0, .int .i64 0, .string (⟨#[]⟩ : ByteArray), .int .u32 0, .bool false]) ?_ 0 _ rfl; (with_reducible repeat (first | refine blk_drewN ?_ _ | refine blk_drew ?_ | refine blk_alloc ?_ _)); exact BK257.out) hb); have n4_ := Aside0.mk (below_step (by repeat (first | (with_reducible first | exact HB.out | apply below_alloc | apply pw_below_drewN | apply below_drew1 | refine below_set ?_ GE247.out | refine below_set ?_ GE257.out) | exact HB.out)) hb); clear HO252; clear BK247; clear BK257; clear HB; have HO252 := n0_; have HO260 := n1_; have BK247 := n2_; have BK257 := n3_; have HB := n4_; clear n0_ n1_ n2_ n3_ n4_; (try clear hb); (try clear hb2); (try clear hk); (try clear hi); (try clear ho0)) | ((with_reducible refine gate_dst (N := 8) rfl ?_); (try (refine gate_guard (by rfl) ?_; dsimp only)); refine box_event ?hg (N := 8) ?hd (cs := #[.slice none 0 0, .int .i64 0, .string (⟨#[]⟩ : ByteArray), .int .u32 0, .bool false]) (t := 27) ?hr ?_; (case hd => rfl); (case hg => rfl); (case hr => first | (go_simp; done) | (go_simp; rfl)); intro gb265 hg w26 hbox hb; have n0_ := Aside0.mk (Kd.R_below (by (with_reducible repeat (first | apply Kd.R_alloc | apply Kd.R_drewN | apply Kd.R_drew)); exact HO252.out) hb); have n1_ := Aside0.mk (Kd.R_below (by (with_reducible repeat (first | apply Kd.R_alloc | apply Kd.R_drewN | apply Kd.R_drew)); exact HO260.out) hb); have n2_ := Aside0.mk (blk_below (g := gb247) (o := .cells #[.slice A0_0 l0_0.length c0_0, .int .i64 a0_1, .string a0_2, .int .u32 a0_3, .bool a0_4] 27 (0, 0)) (by (with_reducible repeat (first | refine blk_drewN ?_ _ | refine blk_drew ?_ | refine blk_alloc ?_ _)); exact BK247.out) hb); have n3_ := Aside0.mk (blk_below (g := gb257) (o := .cells #[.slice Ao21 t250.length co21, .int .i64 t253, .string t254, .int .u32 t255, .bool t256] 27 (0, 0)) (by (with_reducible repeat (first | refine blk_drewN ?_ _ | refine blk_drew ?_ | refine blk_alloc ?_ _)); exact BK257.out) hb); have n4_ := Aside0.mk (below_step (by repeat (first | (with_reducible first | exact HB.out | apply below_alloc | apply pw_below_drewN | apply below_drew1 | refine below_set ?_ GE247.out | refine below_set ?_ GE257.out) | exact HB.out)) hb); have n5_ := Aside0.mk (hbox); have n6_ := Aside0.mk ((by rw [hg]; exact (below_size (by repeat (first | (with_reducible first | exact HB.out | apply below_alloc | apply pw_below_drewN | apply below_drew1 | refine below_set ?_ GE247.out | refine below_set ?_ GE257.out) | exact HB.out))) : w.heap.size ≤ gb265)); have n7_ := Aside0.mk ((by rw [hg]; exact (below_size (by repeat (first | (with_reducible first | exact HB.out | apply below_alloc | apply pw_below_drewN | apply below_drew1 | refine below_set ?_ GE247.out | refine below_set ?_ GE257.out) | exact HB.out))) : w.heap.size ≤ gb265)); have n8_ := Aside0.mk ((by rw [hg]; exact Nat.ne_of_lt (blk_lt (g := gb247) (o := .cells #[.slice A0_0 l0_0.length c0_0, .int .i64 a0_1, .string a0_2, .int .u32 a0_3, .bool a0_4] 27 (0, 0)) (by (with_reducible repeat (first | refine blk_drewN ?_ _ | refine blk_drew ?_ | refine blk_alloc ?_ _)); exact BK247.out)) : gb247 ≠ gb265)); have n9_ := Aside0.mk ((by rw [hg]; exact Nat.ne_of_gt (blk_lt (g := gb247) (o := .cells #[.slice A0_0 l0_0.length c0_0, .int .i64 a0_1, .string a0_2, .int .u32 a0_3, .bool a0_4] 27 (0, 0)) (by (with_reducible repeat (first | refine blk_drewN ?_ _ | refine blk_drew ?_ | refine blk_alloc ?_ _)); exact BK247.out)) : gb265 ≠ gb247)); have n10_ := Aside0.mk ((by rw [hg]; exact Nat.ne_of_lt (blk_lt (g := gb257) (o := .cells #[.slice Ao21 t250.length co21, .int .i64 t253, .string t254, .int .u32 t255, .bool t256] 27 (0, 0)) (by (with_reducible repeat (first | refine blk_drewN ?_ _ | refine blk_drew ?_ | refine blk_alloc ?_ _)); exact BK257.out)) : gb257 ≠ gb265)); have n11_ := Aside0.mk ((by rw [hg]; exact Nat.ne_of_gt (blk_lt (g := gb257) (o := .cells #[.slice Ao21 t250.length co21, .int .i64 t253, .string t254, .int .u32 t255, .bool t256] 27 (0, 0)) (by (with_reducible repeat (first | refine blk_drewN ?_ _ | refine blk_drew ?_ | refine blk_alloc ?_ _)); exact BK257.out)) : gb265 ≠ gb257)); clear HO252; clear HO260; clear BK247; clear BK257; clear HB; have HO252 := n0_; have HO260 := n1_; have BK247 := n2_; have BK257 := n3_; have HB := n4_; have BK265 := n5_; have GW265 := n6_; have GE265 := n7_; have NB247_265 := n8_; have NB265_247 := n9_; have NB257_265 := n10_; have NB265_257 := n11_; clear n0_ n1_ n2_ n3_ n4_ n5_ n6_ n7_ n8_ n9_ n10_ n11_; clear hb hbox hg; obtain ⟨Ao27, co27, eo27⟩ := Kd.R_slice HO260.out; subst eo27; have hnb28 := NB265_247.out; have hnc28 := NB247_265.out; have hnb29 := NB265_257.out; have hnc29 := NB257_265.out; have hcz30_0 : w26.cell? ⟨gb265, 0, none⟩ = some (.slice none 0 0) := (blk_cell BK265.out 0).trans rfl; have hcz30_1 : w26.cell? ⟨gb265, 1, none⟩ = some (.int .i64 0) := (blk_cell BK265.out 1).trans rfl; have hcz30_2 : w26.cell? ⟨gb265, 2, none⟩ = some (.string (⟨#[]⟩ : ByteArray)) := (blk_cell BK265.out 2).trans rfl; have hcz30_3 : w26.cell? ⟨gb265, 3, none⟩ = some (.int .u32 0) := (blk_cell BK265.out 3).trans rfl; have hcz30_4 : w26.cell? ⟨gb265, 4, none⟩ = some (.bool false) := (blk_cell BK265.out 4).trans rfl; have hfz30_0 := blk_frozen BK265.out 0; have hfz30_1 := blk_frozen BK265.out 1; have hfz30_2 := blk_frozen BK265.out 2; have hfz30_3 := blk_frozen BK265.out 3; have hfz30_4 := blk_frozen BK265.out 4) | ((with_reducible refine gate_builtin (b := .append) (xs := #[.tmp 23, .tmp 27]) rfl ?_); (try (refine gate_guard (by rfl) ?_; dsimp only)); at_builtin; refine Kd.R_append k37 (w0 := w) w.heap.size rfl (.tmp 23) (.tmp 27) 22 37 (.agg #[(.string ⟨#[]⟩), (.int .u64 0)]) 24 rfl Tryd.underlying22 info37 rfl (by decide) (by omega) (.slice Ao27 t258.length co27) t258 (⟨a1, a2⟩ : S37) [.string a1, .int .u64 a2] (fun k_ => some k_ ≠ (.slice Ao21 t250.length co21 : Value).ownBlock) (fun _ => False) rfl (by first | (go_simp; done) | (go_simp; rfl)) ?aP (fun _ hk => hk.elim) ?aF ?aO ?aB ?aS ?aL ?_; (case aP => exact k37_mkM _ _ _ (⟨a1, a2⟩ : S37)); (case aB => exact (by repeat (first | (with_reducible first | exact HB.out | apply below_alloc | apply pw_below_drewN | apply below_drew1 | refine below_set ?_ GE247.out | refine below_set ?_ GE257.out | refine below_set ?_ GE265.out) | exact HB.out))); (case aF => exact (fun k_ hk => Kd.fresh' (Kd.R_lt (by (with_reducible repeat (first | apply Kd.R_alloc | apply Kd.R_drewN | apply Kd.R_drew)); exact (Kd.R_mono (Kd.R_far (p := ⟨gb265, 4, none⟩) (Kd.R_far (p := ⟨gb265, 3, none⟩) (Kd.R_far (p := ⟨gb265, 2, none⟩) (Kd.R_far (p := ⟨gb265, 1, none⟩) (Kd.R_far (p := ⟨gb265, 0, none⟩) (Kd.R_types HO252.out BK265.out (by decide)) (fun _ hk => hk.2) (.slice Ao27 t258.length co27)) (fun _ hk => hk.2) (.int .i64 t261)) (fun _ hk => hk.2) (.string t262)) (fun _ hk => hk.2) (.int .u32 t263)) (fun _ hk => hk.2) (.bool t264)) (fun _ h_ => h_.1)))) k_ hk)); (case aO => exact (by (with_reducible repeat (first | apply Kd.R_alloc | apply Kd.R_drewN | apply Kd.R_drew)); exact Kd.R_mono (Kd.R_far (p := ⟨gb265, 4, none⟩) (Kd.R_far (p := ⟨gb265, 3, none⟩) (Kd.R_far (p := ⟨gb265, 2, none⟩) (Kd.R_far (p := ⟨gb265, 1, none⟩) (Kd.R_far (p := ⟨gb265, 0, none⟩) (Kd.R_types HO260.out BK265.out (by decide)) (fun _ hk => hk.2) (.slice Ao27 t258.length co27)) (fun _ hk => hk.2) (.int .i64 t261)) (fun _ hk => hk.2) (.string t262)) (fun _ hk => hk.2) (.int .u32 t263)) (fun _ hk => hk.2) (.bool t264)) (fun _ hk => hk.1.2))); (case aS => exact (below_size (by repeat (first | (with_reducible first | exact HB.out | apply below_alloc | apply pw_below_drewN | apply below_drew1 | refine below_set ?_ GE247.out | refine below_set ?_ GE257.out | refine below_set ?_ GE265.out) | exact HB.out)))); (case aL => have := LMc17.out; omega); intro v267 w31 ho hb hg hat; rw [← Ny266.out] at ho; have n0_ := Aside0.mk (blk_grown (g := gb247) (o := .cells #[.slice A0_0 l0_0.length c0_0, .int .i64 a0_1, .string a0_2, .int .u32 a0_3, .bool a0_4] 27 (0, 0)) (by (with_reducible repeat (first | refine blk_drewN ?_ _ | refine blk_drew ?_ | refine blk_alloc ?_ _)); refine blk_far ?_ NB247_265.out _; (with_reducible repeat (first | refine blk_drewN ?_ _ | refine blk_drew ?_ | refine blk_alloc ?_ _)); refine blk_far ?_ NB247_265.out _; (with_reducible repeat (first | refine blk_drewN ?_ _ | refine blk_drew ?_ | refine blk_alloc ?_ _)); refine blk_far ?_ NB247_265.out _; (with_reducible repeat (first | refine blk_drewN ?_ _ | refine blk_drew ?_ | refine blk_alloc ?_ _)); refine blk_far ?_ NB247_265.out _; (with_reducible repeat (first | refine blk_drewN ?_ _ | refine blk_drew ?_ | refine blk_alloc ?_ _)); refine blk_far ?_ NB247_265.out _; (with_reducible repeat (first | refine blk_drewN ?_ _ | refine blk_drew ?_ | refine blk_alloc ?_ _)); exact BK247.out) hg (Kd.R_ne HO260.out BK247.out (by decide))); have n1_ := Aside0.mk (Kd.R_after (ok := (fun _ => True)) (by (with_reducible repeat (first | apply Kd.R_alloc | apply Kd.R_drewN | apply Kd.R_drew)); exact Kd.R_mono (Kd.R_far (p := ⟨gb265, 4, none⟩) (Kd.R_far (p := ⟨gb265, 3, none⟩) (Kd.R_far (p := ⟨gb265, 2, none⟩) (Kd.R_far (p := ⟨gb265, 1, none⟩) (Kd.R_far (p := ⟨gb265, 0, none⟩) (Kd.R_types HO252.out BK265.out (by decide)) (fun _ hk => hk.2) (.slice Ao27 t258.length co27)) (fun _ hk => hk.2) (.int .i64 t261)) (fun _ hk => hk.2) (.string t262)) (fun _ hk => hk.2) (.int .u32 t263)) (fun _ hk => hk.2) (.bool t264)) (fun _ hk => ⟨trivial, hk.1.2⟩)) hg hat); have n2_ := Aside0.mk (blk_grown (g := gb257) (o := .cells #[.slice Ao21 t250.length co21, .int .i64 t253, .string t254, .int .u32 t255, .bool t256] 27 (0, 0)) (by (with_reducible repeat (first | refine blk_drewN ?_ _ | refine blk_drew ?_ | refine blk_alloc ?_ _)); refine blk_far ?_ NB257_265.out _; (with_reducible repeat (first | refine blk_drewN ?_ _ | refine blk_drew ?_ | refine blk_alloc ?_ _)); refine blk_far ?_ NB257_265.out _; (with_reducible repeat (first | refine blk_drewN ?_ _ | refine blk_drew ?_ | refine blk_alloc ?_ _)); refine blk_far ?_ NB257_265.out _; (with_reducible repeat (first | refine blk_drewN ?_ _ | refine blk_drew ?_ | refine blk_alloc ?_ _)); refine blk_far ?_ NB257_265.out _; (with_reducible repeat (first | refine blk_drewN ?_ _ | refine blk_drew ?_ | refine blk_alloc ?_ _)); refine blk_far ?_ NB257_265.out _; (with_reducible repeat (first | refine blk_drewN ?_ _ | refine blk_drew ?_ | refine blk_alloc ?_ _)); exact BK257.out) hg (Kd.R_ne HO260.out BK257.out (by decide))); have n3_ := Aside0.mk (blk_grown (g := gb265) (o := .cells #[.slice Ao27 t258.length co27, .int .i64 t261, .string t262, .int .u32 t263, .bool t264] 27 (0, 0)) (by (with_reducible repeat (first | refine blk_drewN ?_ _ | refine blk_drew ?_ | refine blk_alloc ?_ _)); refine blk_put (cs := #[.slice Ao27 t258.length co27, .int .i64 t261, .string t262, .int .u32 t263, .bool false]) ?_ 4 _ rfl; (with_reducible repeat (first | refine blk_drewN ?_ _ | refine blk_drew ?_ | refine blk_alloc ?_ _)); refine blk_put (cs := #[.slice Ao27 t258.length co27, .int .i64 t261, .string t262, .int .u32 0, .bool false]) ?_ 3 _ rfl; (with_reducible repeat (first | refine blk_drewN ?_ _ | refine blk_drew ?_ | refine blk_alloc ?_ _)); refine blk_put (cs := #[.slice Ao27 t258.length co27, .int .i64 t261, .string (⟨#[]⟩ : ByteArray), .int .u32 0, .bool false]) ?_ 2 _ rfl; (with_reducible repeat (first | refine blk_drewN ?_ _ | refine blk_drew ?_ | refine blk_alloc ?_ _)); refine blk_put (cs := #[.slice Ao27 t258.length co27, .int .i64 0, .string (⟨#[]⟩ : ByteArray), .int .u32 0, .bool false]) ?_ 1 _ rfl; (with_reducible repeat (first | refine blk_drewN ?_ _ | refine blk_drew ?_ | refine blk_alloc ?_ _)); refine blk_put (cs := #[.slice none 0 0, .int .i64 0, .string (⟨#[]⟩ : ByteArray), .int .u32 0, .bool false]) ?_ 0 _ rfl; (with_reducible repeat (first | refine blk_drewN ?_ _ | refine blk_drew ?_ | refine blk_alloc ?_ _)); exact BK265.out) hg (Kd.R_ne HO260.out BK265.out (by decide))); have n4_ := Aside0.mk (hb); have n5_ := Aside0.mk (ho); clear BK247; clear HO252; clear BK257; clear BK265; clear HB; clear HO260; have BK247 := n0_; have HO252 := n1_; have BK257 := n2_; have BK265 := n3_; have HB := n4_; have HO268 := n5_; clear n0_ n1_ n2_ n3_ n4_ n5_; clear ho hb hg hat; obtain ⟨Ao32, co32, eo32⟩ := Kd.R_slice HO268.out; subst eo32; have hcz33_0 : w31.cell? ⟨gb265, 0, none⟩ = some (.slice Ao27 t258.length co27) := (blk_cell BK265.out 0).trans rfl; have hcz33_1 : w31.cell? ⟨gb265, 1, none⟩ = some (.int .i64 t261) := (blk_cell BK265.out 1).trans rfl; have hcz33_2 : w31.cell? ⟨gb265, 2, none⟩ = some (.string t262) := (blk_cell BK265.out 2).trans rfl; have hcz33_3 : w31.cell? ⟨gb265, 3, none⟩ = some (.int .u32 t263) := (blk_cell BK265.out 3).trans rfl; have hcz33_4 : w31.cell? ⟨gb265, 4, none⟩ = some (.bool t264) := (blk_cell BK265.out 4).trans rfl; have hfz33_0 := blk_frozen BK265.out 0; have hfz33_1 := blk_frozen BK265.out 1; have hfz33_2 := blk_frozen BK265.out 2; have hfz33_3 := blk_frozen BK265.out 3; have hfz33_4 := blk_frozen BK265.out 4))
          go_loopg [9] kj3 (fun kq v9 w' => ∃ (x9_2 : Int), v9 = .int .i64 x9_2 ∧ Aside0 (headgatelaw10_AccessGrows.l0 kq a1 x9_2 l0_0 a0_1 a0_2 a0_3 a0_4 t250 t253 t254 t255 t256 y266 t261 t262 t263 t264 = some r) ∧ Aside0 (kq ≤ kj3) ∧ Aside0 (Kd.R k37 37 w' w.heap.size (fun k_ => some k_ ≠ ((.slice Ao32 y266.length co32) : Value).ownBlock) (.slice Ao21 t250.length co21) t250) ∧ Aside0 (Kd.R k37 37 w' w.heap.size (fun k_ => some k_ ≠ ((.slice Ao21 t250.length co21) : Value).ownBlock) (.slice Ao32 y266.length co32) y266) ∧ Aside0 (w'.heap[gb247]? = some (.cells #[(.slice A0_0 l0_0.length c0_0), .int .i64 a0_1, .string a0_2, .int .u32 a0_3, .bool a0_4] 27 (0, 0))) ∧ Aside0 (w'.heap[gb257]? = some (.cells #[(.slice Ao21 t250.length co21), .int .i64 t253, .string t254, .int .u32 t255, .bool t256] 27 (0, 0))) ∧ Aside0 (w'.heap[gb265]? = some (.cells #[(.slice Ao32 y266.length co32), .int .i64 t261, .string t262, .int .u32 t263, .bool t264] 27 (0, 0))) ∧ Aside0 (Below w.heap.size w w'))
          case atStart => exact ⟨(0), (by first | rfl | (simp; done) | (simp [*]; done)), H', ⟨Nat.le_refl _⟩, ⟨by (with_reducible repeat (first | apply Kd.R_alloc | apply Kd.R_drewN | apply Kd.R_drew)); exact Kd.R_mono (Kd.R_far (p := ⟨gb265, 0, none⟩) (Kd.R_types HO252.out BK265.out (by decide)) (fun _ hk => hk.2) (.slice Ao32 y266.length co32)) (fun _ hk => hk.1.2)⟩, ⟨by (with_reducible repeat (first | apply Kd.R_alloc | apply Kd.R_drewN | apply Kd.R_drew)); exact Kd.R_mono (Kd.R_far (p := ⟨gb265, 0, none⟩) (Kd.R_types HO268.out BK265.out (by decide)) (fun _ hk => hk.2) (.slice Ao32 y266.length co32)) (fun _ hk => hk.1)⟩, ⟨by (with_reducible repeat (first | refine blk_drewN ?_ _ | refine blk_drew ?_ | refine blk_alloc ?_ _)); refine blk_far ?_ NB247_265.out _; (with_reducible repeat (first | refine blk_drewN ?_ _ | refine blk_drew ?_ | refine blk_alloc ?_ _)); exact BK247.out⟩, ⟨by (with_reducible repeat (first | refine blk_drewN ?_ _ | refine blk_drew ?_ | refine blk_alloc ?_ _)); refine blk_far ?_ NB257_265.out _; (with_reducible repeat (first | refine blk_drewN ?_ _ | refine blk_drew ?_ | refine blk_alloc ?_ _)); exact BK257.out⟩, ⟨by (with_reducible repeat (first | refine blk_drewN ?_ _ | refine blk_drew ?_ | refine blk_alloc ?_ _)); refine blk_put (cs := #[.slice Ao27 t258.length co27, .int .i64 t261, .string t262, .int .u32 t263, .bool t264]) ?_ 0 _ rfl; (with_reducible repeat (first | refine blk_drewN ?_ _ | refine blk_drew ?_ | refine blk_alloc ?_ _)); exact BK265.out⟩, ⟨by repeat (first | (with_reducible first | exact HB.out | apply below_alloc | apply pw_below_drewN | apply below_drew1 | refine below_set ?_ GE247.out | refine below_set ?_ GE257.out | refine below_set ?_ GE265.out) | exact HB.out)⟩⟩
          case round =>
            clear H'
            try clear c1
            try clear c2
            try clear p2
            try clear c7
            try clear c8
            try clear c9
            try clear c10
            try clear c12
            try clear c17
            try clear c22
            try clear c28
            try clear c29
            try clear hcz10_0
            try clear hcz10_1
            try clear hcz10_2
            try clear hcz10_3
            try clear hcz10_4
            try clear hcz18_0
            try clear hcz18_1
            try clear hcz18_2
            try clear hcz18_3
            try clear hcz18_4
            try clear hcz23_0
            try clear hcz23_1
            try clear hcz23_2
            try clear hcz23_3
            try clear hcz23_4
            try clear hcz24_0
            try clear hcz24_1
            try clear hcz24_2
            try clear hcz24_3
            try clear hcz24_4
            try clear hcz30_0
            try clear hcz30_1
            try clear hcz30_2
            try clear hcz30_3
            try clear hcz30_4
            try clear hcz33_0
            try clear hcz33_1
            try clear hcz33_2
            try clear hcz33_3
            try clear hcz33_4
            try clear hcz8_0
            try clear hcz8_1
            try clear hcz8_2
            try clear hcz8_3
            try clear hcz8_4
            try clear hfz10_0
            try clear hfz10_1
            try clear hfz10_2
            try clear hfz10_3
            try clear hfz10_4
            try clear hfz18_0
            try clear hfz18_1
            try clear hfz18_2
            try clear hfz18_3
            try clear hfz18_4
            try clear hfz23_0
            try clear hfz23_1
            try clear hfz23_2
            try clear hfz23_3
            try clear hfz23_4
            try clear hfz24_0
            try clear hfz24_1
            try clear hfz24_2
            try clear hfz24_3
            try clear hfz24_4
            try clear hfz30_0
            try clear hfz30_1
            try clear hfz30_2
            try clear hfz30_3
            try clear hfz30_4
            try clear hfz33_0
            try clear hfz33_1
            try clear hfz33_2
            try clear hfz33_3
            try clear hfz33_4
            try clear hfz8_0
            try clear hfz8_1
            try clear hfz8_2
            try clear hfz8_3
            try clear hfz8_4
            try clear p2
            obtain ⟨x9_2, rfl, HA, HK2, HO_258000, HO_266000, BK247, BK257, BK265, HB⟩ := hrel
            cases gk with
            | zero => exact absurd HA.out (by simp [headgatelaw10_AccessGrows.l0])
            | succ k2 =>
              have H := HA.out
              clear HA
              simp only [headgatelaw10_AccessGrows.l0] at H
              by_cases c34 : x9_2 ≤ 16
              · rw [if_pos c34] at H
                have c34b0 : decide (x9_2 ≤ 16) = true := decide_eq_true c34
                clear c34
                replace H := Option.bind_eq_some_iff.mp H
                obtain ⟨t274, A350, H⟩ := H
                replace H : (if t274 = true then ((access_May.f k2 y266 t261 t262 t263 t264 a1 x9_2).bind fun t275 => (if t275 = true then (headgatelaw10_AccessGrows.l0 k2 a1 (wrap64 (x9_2 + 1)) l0_0 a0_1 a0_2 a0_3 a0_4 t250 t253 t254 t255 t256 y266 t261 t262 t263 t264) else (some false))) else (headgatelaw10_AccessGrows.l0 k2 a1 (wrap64 (x9_2 + 1)) l0_0 a0_1 a0_2 a0_3 a0_4 t250 t253 t254 t255 t256 y266 t261 t262 t263 t264)) = some r := H
                have A35 := Aside0.mk A350
                clear A350
                by_cases c36 : t274 = true
                · subst c36
                  have H1 : ((access_May.f k2 y266 t261 t262 t263 t264 a1 x9_2).bind fun t275 => (if t275 = true then (headgatelaw10_AccessGrows.l0 k2 a1 (wrap64 (x9_2 + 1)) l0_0 a0_1 a0_2 a0_3 a0_4 t250 t253 t254 t255 t256 y266 t261 t262 t263 t264) else (some false))) = some r := by rw [if_pos rfl] at H; exact H
                  clear H
                  have H := H1
                  clear H1
                  replace H := Option.bind_eq_some_iff.mp H
                  obtain ⟨t275, A370, H⟩ := H
                  replace H : (if t275 = true then (headgatelaw10_AccessGrows.l0 k2 a1 (wrap64 (x9_2 + 1)) l0_0 a0_1 a0_2 a0_3 a0_4 t250 t253 t254 t255 t256 y266 t261 t262 t263 t264) else (some false)) = some r := H
                  have A37 := Aside0.mk A370
                  clear A370
                  by_cases c38 : t275 = true
                  · subst c38
                    have H1 : (headgatelaw10_AccessGrows.l0 k2 a1 (wrap64 (x9_2 + 1)) l0_0 a0_1 a0_2 a0_3 a0_4 t250 t253 t254 t255 t256 y266 t261 t262 t263 t264) = some r := by rw [if_pos rfl] at H; exact H
                    clear H
                    have H := H1
                    clear H1
                    have H' := Aside0.mk H
                    clear H
                    have hnb39 := NB257_247.out
                    have hnc39 := NB247_257.out
                    have hnb40 := NB257_265.out
                    have hnc40 := NB265_257.out
                    have hcz41_0 : wr.cell? ⟨gb257, 0, none⟩ = some (.slice Ao21 t250.length co21) := (blk_cell BK257.out 0).trans rfl
                    have hcz41_1 : wr.cell? ⟨gb257, 1, none⟩ = some (.int .i64 t253) := (blk_cell BK257.out 1).trans rfl
                    have hcz41_2 : wr.cell? ⟨gb257, 2, none⟩ = some (.string t254) := (blk_cell BK257.out 2).trans rfl
                    have hcz41_3 : wr.cell? ⟨gb257, 3, none⟩ = some (.int .u32 t255) := (blk_cell BK257.out 3).trans rfl
                    have hcz41_4 : wr.cell? ⟨gb257, 4, none⟩ = some (.bool t256) := (blk_cell BK257.out 4).trans rfl
                    have hfz41_0 := blk_frozen BK257.out 0
                    have hfz41_1 := blk_frozen BK257.out 1
                    have hfz41_2 := blk_frozen BK257.out 2
                    have hfz41_3 := blk_frozen BK257.out 3
                    have hfz41_4 := blk_frozen BK257.out 4
                    go_wp2_with (first | ((with_reducible refine gate_callee (f := 13) rfl ?_); refine goesL_ (some 37) rfl rfl Tryd.func13 (by kernel_rfl) rfl #[.agg #[.slice Ao21 t250.length co21, .int .i64 t253, .string t254, .int .u32 t255, .bool t256], .string a1, .int .i64 x9_2] rfl (by (try simp only [List.map_toArray, List.map_cons, List.map_nil]); first | done | rfl | (simp only [List.length_drop, List.length_take]; rfl)) ?_; (with_reducible refine (access_May.calls k2 _ _ t250 t253 t254 t255 t256 a1 x9_2 true _ ?side1 ?side2 ?side3 A35.out).mono ?_); (case side1 => repeat (first | exact (Kd.R_reads' HO_258000.out).2.2 | (with_reducible refine Kd.C_alloc ?_ _) | (with_reducible refine Kd.C_drewN ?_ _) | (with_reducible refine Kd.C_drew ?_))); (case side2 => exact (Kd.R_reads' HO_258000.out).2.1); (case side3 => first | ((refine Glob.keep HG.out ?_); (repeat (first | (with_reducible first | exact HB.out | apply below_alloc | apply pw_below_drewN | apply below_drew1 | refine below_set ?_ GE247.out | refine below_set ?_ GE257.out | refine below_set ?_ GE265.out) | exact HB.out)); done) | exact HG.out); rintro e w42 ⟨rfl, hb⟩; refine ⟨_, rfl, ?_⟩; have n0_ := Aside0.mk (Kd.R_below (by (with_reducible repeat (first | apply Kd.R_alloc | apply Kd.R_drewN | apply Kd.R_drew)); exact HO_258000.out) hb); have n1_ := Aside0.mk (Kd.R_below (by (with_reducible repeat (first | apply Kd.R_alloc | apply Kd.R_drewN | apply Kd.R_drew)); exact HO_266000.out) hb); have n2_ := Aside0.mk (blk_below (g := gb247) (o := .cells #[.slice A0_0 l0_0.length c0_0, .int .i64 a0_1, .string a0_2, .int .u32 a0_3, .bool a0_4] 27 (0, 0)) (by (with_reducible repeat (first | refine blk_drewN ?_ _ | refine blk_drew ?_ | refine blk_alloc ?_ _)); exact BK247.out) hb); have n3_ := Aside0.mk (blk_below (g := gb257) (o := .cells #[.slice Ao21 t250.length co21, .int .i64 t253, .string t254, .int .u32 t255, .bool t256] 27 (0, 0)) (by (with_reducible repeat (first | refine blk_drewN ?_ _ | refine blk_drew ?_ | refine blk_alloc ?_ _)); exact BK257.out) hb); have n4_ := Aside0.mk (blk_below (g := gb265) (o := .cells #[.slice Ao32 y266.length co32, .int .i64 t261, .string t262, .int .u32 t263, .bool t264] 27 (0, 0)) (by (with_reducible repeat (first | refine blk_drewN ?_ _ | refine blk_drew ?_ | refine blk_alloc ?_ _)); exact BK265.out) hb); have n5_ := Aside0.mk (below_step (by repeat (first | (with_reducible first | exact HB.out | apply below_alloc | apply pw_below_drewN | apply below_drew1 | refine below_set ?_ GE247.out | refine below_set ?_ GE257.out | refine below_set ?_ GE265.out) | exact HB.out)) hb); clear HO_258000; clear HO_266000; clear BK247; clear BK257; clear BK265; clear HB; have HO_258000 := n0_; have HO_266000 := n1_; have BK247 := n2_; have BK257 := n3_; have BK265 := n4_; have HB := n5_; clear n0_ n1_ n2_ n3_ n4_ n5_; (try clear hb); (try clear hb2); (try clear hk); (try clear hi); have hnb43 := NB265_247.out; have hnc43 := NB247_265.out; have hcz44_0 : w42.cell? ⟨gb265, 0, none⟩ = some (.slice Ao32 y266.length co32) := (blk_cell BK265.out 0).trans rfl; have hcz44_1 : w42.cell? ⟨gb265, 1, none⟩ = some (.int .i64 t261) := (blk_cell BK265.out 1).trans rfl; have hcz44_2 : w42.cell? ⟨gb265, 2, none⟩ = some (.string t262) := (blk_cell BK265.out 2).trans rfl; have hcz44_3 : w42.cell? ⟨gb265, 3, none⟩ = some (.int .u32 t263) := (blk_cell BK265.out 3).trans rfl; have hcz44_4 : w42.cell? ⟨gb265, 4, none⟩ = some (.bool t264) := (blk_cell BK265.out 4).trans rfl; have hfz44_0 := blk_frozen BK265.out 0; have hfz44_1 := blk_frozen BK265.out 1; have hfz44_2 := blk_frozen BK265.out 2; have hfz44_3 := blk_frozen BK265.out 3; have hfz44_4 := blk_frozen BK265.out 4) | (go_at_call 13; (with_reducible refine (access_May.calls k2 _ _ y266 t261 t262 t263 t264 a1 x9_2 true _ ?side1 ?side2 ?side3 A37.out).mono ?_); (case side1 => repeat (first | exact (Kd.R_reads' HO_266000.out).2.2 | (with_reducible refine Kd.C_alloc ?_ _) | (with_reducible refine Kd.C_drewN ?_ _) | (with_reducible refine Kd.C_drew ?_))); (case side2 => exact (Kd.R_reads' HO_266000.out).2.1); (case side3 => first | ((refine Glob.keep HG.out ?_); (repeat (first | (with_reducible first | exact HB.out | apply below_alloc | apply pw_below_drewN | apply below_drew1 | refine below_set ?_ GE247.out | refine below_set ?_ GE257.out | refine below_set ?_ GE265.out) | exact HB.out)); done) | exact HG.out); rintro e w45 ⟨rfl, hb⟩; have n0_ := Aside0.mk (Kd.R_below (by (with_reducible repeat (first | apply Kd.R_alloc | apply Kd.R_drewN | apply Kd.R_drew)); exact HO_258000.out) hb); have n1_ := Aside0.mk (Kd.R_below (by (with_reducible repeat (first | apply Kd.R_alloc | apply Kd.R_drewN | apply Kd.R_drew)); exact HO_266000.out) hb); have n2_ := Aside0.mk (blk_below (g := gb247) (o := .cells #[.slice A0_0 l0_0.length c0_0, .int .i64 a0_1, .string a0_2, .int .u32 a0_3, .bool a0_4] 27 (0, 0)) (by (with_reducible repeat (first | refine blk_drewN ?_ _ | refine blk_drew ?_ | refine blk_alloc ?_ _)); exact BK247.out) hb); have n3_ := Aside0.mk (blk_below (g := gb257) (o := .cells #[.slice Ao21 t250.length co21, .int .i64 t253, .string t254, .int .u32 t255, .bool t256] 27 (0, 0)) (by (with_reducible repeat (first | refine blk_drewN ?_ _ | refine blk_drew ?_ | refine blk_alloc ?_ _)); exact BK257.out) hb); have n4_ := Aside0.mk (blk_below (g := gb265) (o := .cells #[.slice Ao32 y266.length co32, .int .i64 t261, .string t262, .int .u32 t263, .bool t264] 27 (0, 0)) (by (with_reducible repeat (first | refine blk_drewN ?_ _ | refine blk_drew ?_ | refine blk_alloc ?_ _)); exact BK265.out) hb); have n5_ := Aside0.mk (below_step (by repeat (first | (with_reducible first | exact HB.out | apply below_alloc | apply pw_below_drewN | apply below_drew1 | refine below_set ?_ GE247.out | refine below_set ?_ GE257.out | refine below_set ?_ GE265.out) | exact HB.out)) hb); clear HO_258000; clear HO_266000; clear BK247; clear BK257; clear BK265; clear HB; have HO_258000 := n0_; have HO_266000 := n1_; have BK247 := n2_; have BK257 := n3_; have BK265 := n4_; have HB := n5_; clear n0_ n1_ n2_ n3_ n4_ n5_; (try clear hb); (try clear hb2); (try clear hk); (try clear hi)))
                    go_roundg k2
                    case measure => have := HJ3.out; have := HK2.out; omega
                    case rel => exact ⟨(wrap64 (x9_2 + 1)), (by first | rfl | (simp; done) | (simp [*]; done)), H', ⟨by have := HJ3.out; have := HK2.out; omega⟩, ⟨by (with_reducible repeat (first | apply Kd.R_alloc | apply Kd.R_drewN | apply Kd.R_drew)); exact HO_258000.out⟩, ⟨by (with_reducible repeat (first | apply Kd.R_alloc | apply Kd.R_drewN | apply Kd.R_drew)); exact HO_266000.out⟩, ⟨by (with_reducible repeat (first | refine blk_drewN ?_ _ | refine blk_drew ?_ | refine blk_alloc ?_ _)); exact BK247.out⟩, ⟨by (with_reducible repeat (first | refine blk_drewN ?_ _ | refine blk_drew ?_ | refine blk_alloc ?_ _)); exact BK257.out⟩, ⟨by (with_reducible repeat (first | refine blk_drewN ?_ _ | refine blk_drew ?_ | refine blk_alloc ?_ _)); exact BK265.out⟩, ⟨by repeat (first | (with_reducible first | exact HB.out | apply below_alloc | apply pw_below_drewN | apply below_drew1 | refine below_set ?_ GE247.out | refine below_set ?_ GE257.out | refine below_set ?_ GE265.out) | exact HB.out)⟩⟩
                  · replace c38 := Bool.eq_false_iff.mpr c38
                    subst c38
                    have H1 : (some false) = some r := by rw [if_neg (show ¬ (false = true) by decide)] at H; exact H
                    clear H
                    have H := H1
                    clear H1
                    exact absurd ((Option.some.inj H).trans HT0.out) (by decide)
                · replace c36 := Bool.eq_false_iff.mpr c36
                  subst c36
                  have H1 : (headgatelaw10_AccessGrows.l0 k2 a1 (wrap64 (x9_2 + 1)) l0_0 a0_1 a0_2 a0_3 a0_4 t250 t253 t254 t255 t256 y266 t261 t262 t263 t264) = some r := by rw [if_neg (show ¬ (false = true) by decide)] at H; exact H
                  clear H
                  have H := H1
                  clear H1
                  have H' := Aside0.mk H
                  clear H
                  have hnb46 := NB257_247.out
                  have hnc46 := NB247_257.out
                  have hnb47 := NB257_265.out
                  have hnc47 := NB265_257.out
                  have hcz48_0 : wr.cell? ⟨gb257, 0, none⟩ = some (.slice Ao21 t250.length co21) := (blk_cell BK257.out 0).trans rfl
                  have hcz48_1 : wr.cell? ⟨gb257, 1, none⟩ = some (.int .i64 t253) := (blk_cell BK257.out 1).trans rfl
                  have hcz48_2 : wr.cell? ⟨gb257, 2, none⟩ = some (.string t254) := (blk_cell BK257.out 2).trans rfl
                  have hcz48_3 : wr.cell? ⟨gb257, 3, none⟩ = some (.int .u32 t255) := (blk_cell BK257.out 3).trans rfl
                  have hcz48_4 : wr.cell? ⟨gb257, 4, none⟩ = some (.bool t256) := (blk_cell BK257.out 4).trans rfl
                  have hfz48_0 := blk_frozen BK257.out 0
                  have hfz48_1 := blk_frozen BK257.out 1
                  have hfz48_2 := blk_frozen BK257.out 2
                  have hfz48_3 := blk_frozen BK257.out 3
                  have hfz48_4 := blk_frozen BK257.out 4
                  go_wp2_with (first | ((with_reducible refine gate_callee (f := 13) rfl ?_); refine goesL_ (some 37) rfl rfl Tryd.func13 (by kernel_rfl) rfl #[.agg #[.slice Ao21 t250.length co21, .int .i64 t253, .string t254, .int .u32 t255, .bool t256], .string a1, .int .i64 x9_2] rfl (by (try simp only [List.map_toArray, List.map_cons, List.map_nil]); first | done | rfl | (simp only [List.length_drop, List.length_take]; rfl)) ?_; (with_reducible refine (access_May.calls k2 _ _ t250 t253 t254 t255 t256 a1 x9_2 false _ ?side1 ?side2 ?side3 A35.out).mono ?_); (case side1 => repeat (first | exact (Kd.R_reads' HO_258000.out).2.2 | (with_reducible refine Kd.C_alloc ?_ _) | (with_reducible refine Kd.C_drewN ?_ _) | (with_reducible refine Kd.C_drew ?_))); (case side2 => exact (Kd.R_reads' HO_258000.out).2.1); (case side3 => first | ((refine Glob.keep HG.out ?_); (repeat (first | (with_reducible first | exact HB.out | apply below_alloc | apply pw_below_drewN | apply below_drew1 | refine below_set ?_ GE247.out | refine below_set ?_ GE257.out | refine below_set ?_ GE265.out) | exact HB.out)); done) | exact HG.out); rintro e w49 ⟨rfl, hb⟩; refine ⟨_, rfl, ?_⟩; have n0_ := Aside0.mk (Kd.R_below (by (with_reducible repeat (first | apply Kd.R_alloc | apply Kd.R_drewN | apply Kd.R_drew)); exact HO_258000.out) hb); have n1_ := Aside0.mk (Kd.R_below (by (with_reducible repeat (first | apply Kd.R_alloc | apply Kd.R_drewN | apply Kd.R_drew)); exact HO_266000.out) hb); have n2_ := Aside0.mk (blk_below (g := gb247) (o := .cells #[.slice A0_0 l0_0.length c0_0, .int .i64 a0_1, .string a0_2, .int .u32 a0_3, .bool a0_4] 27 (0, 0)) (by (with_reducible repeat (first | refine blk_drewN ?_ _ | refine blk_drew ?_ | refine blk_alloc ?_ _)); exact BK247.out) hb); have n3_ := Aside0.mk (blk_below (g := gb257) (o := .cells #[.slice Ao21 t250.length co21, .int .i64 t253, .string t254, .int .u32 t255, .bool t256] 27 (0, 0)) (by (with_reducible repeat (first | refine blk_drewN ?_ _ | refine blk_drew ?_ | refine blk_alloc ?_ _)); exact BK257.out) hb); have n4_ := Aside0.mk (blk_below (g := gb265) (o := .cells #[.slice Ao32 y266.length co32, .int .i64 t261, .string t262, .int .u32 t263, .bool t264] 27 (0, 0)) (by (with_reducible repeat (first | refine blk_drewN ?_ _ | refine blk_drew ?_ | refine blk_alloc ?_ _)); exact BK265.out) hb); have n5_ := Aside0.mk (below_step (by repeat (first | (with_reducible first | exact HB.out | apply below_alloc | apply pw_below_drewN | apply below_drew1 | refine below_set ?_ GE247.out | refine below_set ?_ GE257.out | refine below_set ?_ GE265.out) | exact HB.out)) hb); clear HO_258000; clear HO_266000; clear BK247; clear BK257; clear BK265; clear HB; have HO_258000 := n0_; have HO_266000 := n1_; have BK247 := n2_; have BK257 := n3_; have BK265 := n4_; have HB := n5_; clear n0_ n1_ n2_ n3_ n4_ n5_; (try clear hb); (try clear hb2); (try clear hk); (try clear hi)))
                  go_roundg k2
                  case measure => have := HJ3.out; have := HK2.out; omega
                  case rel => exact ⟨(wrap64 (x9_2 + 1)), (by first | rfl | (simp; done) | (simp [*]; done)), H', ⟨by have := HJ3.out; have := HK2.out; omega⟩, ⟨by (with_reducible repeat (first | apply Kd.R_alloc | apply Kd.R_drewN | apply Kd.R_drew)); exact HO_258000.out⟩, ⟨by (with_reducible repeat (first | apply Kd.R_alloc | apply Kd.R_drewN | apply Kd.R_drew)); exact HO_266000.out⟩, ⟨by (with_reducible repeat (first | refine blk_drewN ?_ _ | refine blk_drew ?_ | refine blk_alloc ?_ _)); exact BK247.out⟩, ⟨by (with_reducible repeat (first | refine blk_drewN ?_ _ | refine blk_drew ?_ | refine blk_alloc ?_ _)); exact BK257.out⟩, ⟨by (with_reducible repeat (first | refine blk_drewN ?_ _ | refine blk_drew ?_ | refine blk_alloc ?_ _)); exact BK265.out⟩, ⟨by repeat (first | (with_reducible first | exact HB.out | apply below_alloc | apply pw_below_drewN | apply below_drew1 | refine below_set ?_ GE247.out | refine below_set ?_ GE257.out | refine below_set ?_ GE265.out) | exact HB.out)⟩⟩
              · rw [if_neg c34] at H
                have c34b0 : decide (x9_2 ≤ 16) = false := decide_eq_false c34
                clear c34
                replace H := Option.bind_eq_some_iff.mp H
                obtain ⟨t269, A500, H⟩ := H
                replace H : (if t269 = true then (if a0_1 < 3 then ((headgatelaw10_wakes.f k2).bind fun t270 => (some t270)) else ((access_May.f k2 y266 t261 t262 t263 t264 a1 3).bind fun t271 => (if t271 = true then ((headgatelaw10_wakes.f k2).bind fun t272 => (some t272)) else (some false)))) else ((headgatelaw10_wakes.f k2).bind fun t273 => (some t273))) = some r := H
                have A50 := Aside0.mk A500
                clear A500
                by_cases c51 : t269 = true
                · subst c51
                  have H1 : (if a0_1 < 3 then ((headgatelaw10_wakes.f k2).bind fun t270 => (some t270)) else ((access_May.f k2 y266 t261 t262 t263 t264 a1 3).bind fun t271 => (if t271 = true then ((headgatelaw10_wakes.f k2).bind fun t272 => (some t272)) else (some false)))) = some r := by rw [if_pos rfl] at H; exact H
                  clear H
                  have H := H1
                  clear H1
                  by_cases c52 : a0_1 < 3
                  · rw [if_pos c52] at H
                    have c52b0 : decide (a0_1 < 3) = true := decide_eq_true c52
                    clear c52
                    replace H := Option.bind_eq_some_iff.mp H
                    obtain ⟨t270, A530, H⟩ := H
                    replace H : (some t270) = some r := H
                    have A53 := Aside0.mk A530
                    clear A530
                    obtain rfl := Option.some.inj H
                    have hnb54 := NB247_257.out
                    have hnc54 := NB257_247.out
                    have hnb55 := NB247_265.out
                    have hnc55 := NB265_247.out
                    have hcz56_0 : wr.cell? ⟨gb247, 0, none⟩ = some (.slice A0_0 l0_0.length c0_0) := (blk_cell BK247.out 0).trans rfl
                    have hcz56_1 : wr.cell? ⟨gb247, 1, none⟩ = some (.int .i64 a0_1) := (blk_cell BK247.out 1).trans rfl
                    have hcz56_2 : wr.cell? ⟨gb247, 2, none⟩ = some (.string a0_2) := (blk_cell BK247.out 2).trans rfl
                    have hcz56_3 : wr.cell? ⟨gb247, 3, none⟩ = some (.int .u32 a0_3) := (blk_cell BK247.out 3).trans rfl
                    have hcz56_4 : wr.cell? ⟨gb247, 4, none⟩ = some (.bool a0_4) := (blk_cell BK247.out 4).trans rfl
                    have hfz56_0 := blk_frozen BK247.out 0
                    have hfz56_1 := blk_frozen BK247.out 1
                    have hfz56_2 := blk_frozen BK247.out 2
                    have hfz56_3 := blk_frozen BK247.out 3
                    have hfz56_4 := blk_frozen BK247.out 4
                    go_wp2_with (first | ((with_reducible refine gate_callee (f := 17) rfl ?_); refine goesL_ (some 48) rfl rfl Tryd.func17 (by kernel_rfl) rfl #[.int .i64 a0_1] rfl (by (try simp only [List.map_toArray, List.map_cons, List.map_nil]); first | done | rfl | (simp only [List.length_drop, List.length_take]; rfl)) ?_; (with_reducible refine (headgateref10_Type.calls a0_1 true _ A50.out).mono ?_); rintro e w' ⟨rfl, ⟨nd, rfl⟩⟩; refine ⟨_, rfl, ?_⟩) | (go_at_call 9; (with_reducible refine (headgatelaw10_wakes.calls k2  t270 _ ?side1 A53.out).mono ?_); (case side1 => first | ((refine Glob.keep HG.out ?_); (repeat (first | (with_reducible first | exact HB.out | apply below_alloc | apply pw_below_drewN | apply below_drew1 | refine below_set ?_ GE247.out | refine below_set ?_ GE257.out | refine below_set ?_ GE265.out) | exact HB.out)); done) | exact HG.out); rintro e w57 ⟨rfl, hb⟩; have n0_ := Aside0.mk (Kd.R_below (by (with_reducible repeat (first | apply Kd.R_alloc | apply Kd.R_drewN | apply Kd.R_drew)); exact HO_258000.out) hb); have n1_ := Aside0.mk (Kd.R_below (by (with_reducible repeat (first | apply Kd.R_alloc | apply Kd.R_drewN | apply Kd.R_drew)); exact HO_266000.out) hb); have n2_ := Aside0.mk (blk_below (g := gb247) (o := .cells #[.slice A0_0 l0_0.length c0_0, .int .i64 a0_1, .string a0_2, .int .u32 a0_3, .bool a0_4] 27 (0, 0)) (by (with_reducible repeat (first | refine blk_drewN ?_ _ | refine blk_drew ?_ | refine blk_alloc ?_ _)); exact BK247.out) hb); have n3_ := Aside0.mk (blk_below (g := gb257) (o := .cells #[.slice Ao21 t250.length co21, .int .i64 t253, .string t254, .int .u32 t255, .bool t256] 27 (0, 0)) (by (with_reducible repeat (first | refine blk_drewN ?_ _ | refine blk_drew ?_ | refine blk_alloc ?_ _)); exact BK257.out) hb); have n4_ := Aside0.mk (blk_below (g := gb265) (o := .cells #[.slice Ao32 y266.length co32, .int .i64 t261, .string t262, .int .u32 t263, .bool t264] 27 (0, 0)) (by (with_reducible repeat (first | refine blk_drewN ?_ _ | refine blk_drew ?_ | refine blk_alloc ?_ _)); exact BK265.out) hb); have n5_ := Aside0.mk (below_step (by repeat (first | (with_reducible first | exact HB.out | apply below_alloc | apply pw_below_drewN | apply below_drew1 | refine below_set ?_ GE247.out | refine below_set ?_ GE257.out | refine below_set ?_ GE265.out) | exact HB.out)) hb); clear HO_258000; clear HO_266000; clear BK247; clear BK257; clear BK265; clear HB; have HO_258000 := n0_; have HO_266000 := n1_; have BK247 := n2_; have BK257 := n3_; have BK265 := n4_; have HB := n5_; clear n0_ n1_ n2_ n3_ n4_ n5_; (try clear hb); (try clear hb2); (try clear hk); (try clear hi)))
                    go_ret
                    exact ⟨by first | rfl | (simp [errW_none, errW_some] <;> rfl) | (simp [*, errW_none, errW_some] <;> rfl), by repeat (first | (with_reducible first | exact HB.out | apply below_alloc | apply pw_below_drewN | apply below_drew1 | refine below_set ?_ GE247.out | refine below_set ?_ GE257.out | refine below_set ?_ GE265.out) | exact HB.out)⟩
                  · rw [if_neg c52] at H
                    have c52b0 : decide (a0_1 < 3) = false := decide_eq_false c52
                    clear c52
                    replace H := Option.bind_eq_some_iff.mp H
                    obtain ⟨t271, A580, H⟩ := H
                    replace H : (if t271 = true then ((headgatelaw10_wakes.f k2).bind fun t272 => (some t272)) else (some false)) = some r := H
                    have A58 := Aside0.mk A580
                    clear A580
                    by_cases c59 : t271 = true
                    · subst c59
                      have H1 : ((headgatelaw10_wakes.f k2).bind fun t272 => (some t272)) = some r := by rw [if_pos rfl] at H; exact H
                      clear H
                      have H := H1
                      clear H1
                      replace H := Option.bind_eq_some_iff.mp H
                      obtain ⟨t272, A600, H⟩ := H
                      replace H : (some t272) = some r := H
                      have A60 := Aside0.mk A600
                      clear A600
                      obtain rfl := Option.some.inj H
                      have hnb61 := NB247_257.out
                      have hnc61 := NB257_247.out
                      have hnb62 := NB247_265.out
                      have hnc62 := NB265_247.out
                      have hcz63_0 : wr.cell? ⟨gb247, 0, none⟩ = some (.slice A0_0 l0_0.length c0_0) := (blk_cell BK247.out 0).trans rfl
                      have hcz63_1 : wr.cell? ⟨gb247, 1, none⟩ = some (.int .i64 a0_1) := (blk_cell BK247.out 1).trans rfl
                      have hcz63_2 : wr.cell? ⟨gb247, 2, none⟩ = some (.string a0_2) := (blk_cell BK247.out 2).trans rfl
                      have hcz63_3 : wr.cell? ⟨gb247, 3, none⟩ = some (.int .u32 a0_3) := (blk_cell BK247.out 3).trans rfl
                      have hcz63_4 : wr.cell? ⟨gb247, 4, none⟩ = some (.bool a0_4) := (blk_cell BK247.out 4).trans rfl
                      have hfz63_0 := blk_frozen BK247.out 0
                      have hfz63_1 := blk_frozen BK247.out 1
                      have hfz63_2 := blk_frozen BK247.out 2
                      have hfz63_3 := blk_frozen BK247.out 3
                      have hfz63_4 := blk_frozen BK247.out 4
                      go_wp2_with (first | ((with_reducible refine gate_callee (f := 17) rfl ?_); refine goesL_ (some 48) rfl rfl Tryd.func17 (by kernel_rfl) rfl #[.int .i64 a0_1] rfl (by (try simp only [List.map_toArray, List.map_cons, List.map_nil]); first | done | rfl | (simp only [List.length_drop, List.length_take]; rfl)) ?_; (with_reducible refine (headgateref10_Type.calls a0_1 true _ A50.out).mono ?_); rintro e w' ⟨rfl, ⟨nd, rfl⟩⟩; refine ⟨_, rfl, ?_⟩; have hnb64 := NB265_257.out; have hnc64 := NB257_265.out; have hcz65_0 : wr.cell? ⟨gb265, 0, none⟩ = some (.slice Ao32 y266.length co32) := (blk_cell BK265.out 0).trans rfl; have hcz65_1 : wr.cell? ⟨gb265, 1, none⟩ = some (.int .i64 t261) := (blk_cell BK265.out 1).trans rfl; have hcz65_2 : wr.cell? ⟨gb265, 2, none⟩ = some (.string t262) := (blk_cell BK265.out 2).trans rfl; have hcz65_3 : wr.cell? ⟨gb265, 3, none⟩ = some (.int .u32 t263) := (blk_cell BK265.out 3).trans rfl; have hcz65_4 : wr.cell? ⟨gb265, 4, none⟩ = some (.bool t264) := (blk_cell BK265.out 4).trans rfl; have hfz65_0 := blk_frozen BK265.out 0; have hfz65_1 := blk_frozen BK265.out 1; have hfz65_2 := blk_frozen BK265.out 2; have hfz65_3 := blk_frozen BK265.out 3; have hfz65_4 := blk_frozen BK265.out 4) | (go_at_call 13; (with_reducible refine (access_May.calls k2 _ _ y266 t261 t262 t263 t264 a1 3 true _ ?side1 ?side2 ?side3 A58.out).mono ?_); (case side1 => repeat (first | exact (Kd.R_reads' HO_266000.out).2.2 | (with_reducible refine Kd.C_alloc ?_ _) | (with_reducible refine Kd.C_drewN ?_ _) | (with_reducible refine Kd.C_drew ?_))); (case side2 => exact (Kd.R_reads' HO_266000.out).2.1); (case side3 => first | ((refine Glob.keep HG.out ?_); (repeat (first | (with_reducible first | exact HB.out | apply below_alloc | apply pw_below_drewN | apply below_drew1 | refine below_set ?_ GE247.out | refine below_set ?_ GE257.out | refine below_set ?_ GE265.out) | exact HB.out)); done) | exact HG.out); rintro e w66 ⟨rfl, hb⟩; have n0_ := Aside0.mk (Kd.R_below (by (with_reducible repeat (first | apply Kd.R_alloc | apply Kd.R_drewN | apply Kd.R_drew)); exact HO_258000.out) hb); have n1_ := Aside0.mk (Kd.R_below (by (with_reducible repeat (first | apply Kd.R_alloc | apply Kd.R_drewN | apply Kd.R_drew)); exact HO_266000.out) hb); have n2_ := Aside0.mk (blk_below (g := gb247) (o := .cells #[.slice A0_0 l0_0.length c0_0, .int .i64 a0_1, .string a0_2, .int .u32 a0_3, .bool a0_4] 27 (0, 0)) (by (with_reducible repeat (first | refine blk_drewN ?_ _ | refine blk_drew ?_ | refine blk_alloc ?_ _)); exact BK247.out) hb); have n3_ := Aside0.mk (blk_below (g := gb257) (o := .cells #[.slice Ao21 t250.length co21, .int .i64 t253, .string t254, .int .u32 t255, .bool t256] 27 (0, 0)) (by (with_reducible repeat (first | refine blk_drewN ?_ _ | refine blk_drew ?_ | refine blk_alloc ?_ _)); exact BK257.out) hb); have n4_ := Aside0.mk (blk_below (g := gb265) (o := .cells #[.slice Ao32 y266.length co32, .int .i64 t261, .string t262, .int .u32 t263, .bool t264] 27 (0, 0)) (by (with_reducible repeat (first | refine blk_drewN ?_ _ | refine blk_drew ?_ | refine blk_alloc ?_ _)); exact BK265.out) hb); have n5_ := Aside0.mk (below_step (by repeat (first | (with_reducible first | exact HB.out | apply below_alloc | apply pw_below_drewN | apply below_drew1 | refine below_set ?_ GE247.out | refine below_set ?_ GE257.out | refine below_set ?_ GE265.out) | exact HB.out)) hb); clear HO_258000; clear HO_266000; clear BK247; clear BK257; clear BK265; clear HB; have HO_258000 := n0_; have HO_266000 := n1_; have BK247 := n2_; have BK257 := n3_; have BK265 := n4_; have HB := n5_; clear n0_ n1_ n2_ n3_ n4_ n5_; (try clear hb); (try clear hb2); (try clear hk); (try clear hi)) | (go_at_call 9; (with_reducible refine (headgatelaw10_wakes.calls k2  t272 _ ?side1 A60.out).mono ?_); (case side1 => first | ((refine Glob.keep HG.out ?_); (repeat (first | (with_reducible first | exact HB.out | apply below_alloc | apply pw_below_drewN | apply below_drew1 | refine below_set ?_ GE247.out | refine below_set ?_ GE257.out | refine below_set ?_ GE265.out) | exact HB.out)); done) | exact HG.out); rintro e w67 ⟨rfl, hb⟩; have n0_ := Aside0.mk (Kd.R_below (by (with_reducible repeat (first | apply Kd.R_alloc | apply Kd.R_drewN | apply Kd.R_drew)); exact HO_258000.out) hb); have n1_ := Aside0.mk (Kd.R_below (by (with_reducible repeat (first | apply Kd.R_alloc | apply Kd.R_drewN | apply Kd.R_drew)); exact HO_266000.out) hb); have n2_ := Aside0.mk (blk_below (g := gb247) (o := .cells #[.slice A0_0 l0_0.length c0_0, .int .i64 a0_1, .string a0_2, .int .u32 a0_3, .bool a0_4] 27 (0, 0)) (by (with_reducible repeat (first | refine blk_drewN ?_ _ | refine blk_drew ?_ | refine blk_alloc ?_ _)); exact BK247.out) hb); have n3_ := Aside0.mk (blk_below (g := gb257) (o := .cells #[.slice Ao21 t250.length co21, .int .i64 t253, .string t254, .int .u32 t255, .bool t256] 27 (0, 0)) (by (with_reducible repeat (first | refine blk_drewN ?_ _ | refine blk_drew ?_ | refine blk_alloc ?_ _)); exact BK257.out) hb); have n4_ := Aside0.mk (blk_below (g := gb265) (o := .cells #[.slice Ao32 y266.length co32, .int .i64 t261, .string t262, .int .u32 t263, .bool t264] 27 (0, 0)) (by (with_reducible repeat (first | refine blk_drewN ?_ _ | refine blk_drew ?_ | refine blk_alloc ?_ _)); exact BK265.out) hb); have n5_ := Aside0.mk (below_step (by repeat (first | (with_reducible first | exact HB.out | apply below_alloc | apply pw_below_drewN | apply below_drew1 | refine below_set ?_ GE247.out | refine below_set ?_ GE257.out | refine below_set ?_ GE265.out) | exact HB.out)) hb); clear HO_258000; clear HO_266000; clear BK247; clear BK257; clear BK265; clear HB; have HO_258000 := n0_; have HO_266000 := n1_; have BK247 := n2_; have BK257 := n3_; have BK265 := n4_; have HB := n5_; clear n0_ n1_ n2_ n3_ n4_ n5_; (try clear hb); (try clear hb2); (try clear hk); (try clear hi)))
                      go_ret
                      exact ⟨by first | rfl | (simp [errW_none, errW_some] <;> rfl) | (simp [*, errW_none, errW_some] <;> rfl), by repeat (first | (with_reducible first | exact HB.out | apply below_alloc | apply pw_below_drewN | apply below_drew1 | refine below_set ?_ GE247.out | refine below_set ?_ GE257.out | refine below_set ?_ GE265.out) | exact HB.out)⟩
                    · replace c59 := Bool.eq_false_iff.mpr c59
                      subst c59
                      have H1 : (some false) = some r := by rw [if_neg (show ¬ (false = true) by decide)] at H; exact H
                      clear H
                      have H := H1
                      clear H1
                      exact absurd ((Option.some.inj H).trans HT0.out) (by decide)
                · replace c51 := Bool.eq_false_iff.mpr c51
                  subst c51
                  have H1 : ((headgatelaw10_wakes.f k2).bind fun t273 => (some t273)) = some r := by rw [if_neg (show ¬ (false = true) by decide)] at H; exact H
                  clear H
                  have H := H1
                  clear H1
                  replace H := Option.bind_eq_some_iff.mp H
                  obtain ⟨t273, A680, H⟩ := H
                  replace H : (some t273) = some r := H
                  have A68 := Aside0.mk A680
                  clear A680
                  obtain rfl := Option.some.inj H
                  have hnb69 := NB247_257.out
                  have hnc69 := NB257_247.out
                  have hnb70 := NB247_265.out
                  have hnc70 := NB265_247.out
                  have hcz71_0 : wr.cell? ⟨gb247, 0, none⟩ = some (.slice A0_0 l0_0.length c0_0) := (blk_cell BK247.out 0).trans rfl
                  have hcz71_1 : wr.cell? ⟨gb247, 1, none⟩ = some (.int .i64 a0_1) := (blk_cell BK247.out 1).trans rfl
                  have hcz71_2 : wr.cell? ⟨gb247, 2, none⟩ = some (.string a0_2) := (blk_cell BK247.out 2).trans rfl
                  have hcz71_3 : wr.cell? ⟨gb247, 3, none⟩ = some (.int .u32 a0_3) := (blk_cell BK247.out 3).trans rfl
                  have hcz71_4 : wr.cell? ⟨gb247, 4, none⟩ = some (.bool a0_4) := (blk_cell BK247.out 4).trans rfl
                  have hfz71_0 := blk_frozen BK247.out 0
                  have hfz71_1 := blk_frozen BK247.out 1
                  have hfz71_2 := blk_frozen BK247.out 2
                  have hfz71_3 := blk_frozen BK247.out 3
                  have hfz71_4 := blk_frozen BK247.out 4
                  go_wp2_with (first | ((with_reducible refine gate_callee (f := 17) rfl ?_); refine goesL_ (some 48) rfl rfl Tryd.func17 (by kernel_rfl) rfl #[.int .i64 a0_1] rfl (by (try simp only [List.map_toArray, List.map_cons, List.map_nil]); first | done | rfl | (simp only [List.length_drop, List.length_take]; rfl)) ?_; (with_reducible refine (headgateref10_Type.calls a0_1 false _ A50.out).mono ?_); rintro e w' ⟨rfl, ⟨nd, rfl⟩⟩; refine ⟨_, rfl, ?_⟩) | (go_at_call 9; (with_reducible refine (headgatelaw10_wakes.calls k2  t273 _ ?side1 A68.out).mono ?_); (case side1 => first | ((refine Glob.keep HG.out ?_); (repeat (first | (with_reducible first | exact HB.out | apply below_alloc | apply pw_below_drewN | apply below_drew1 | refine below_set ?_ GE247.out | refine below_set ?_ GE257.out | refine below_set ?_ GE265.out) | exact HB.out)); done) | exact HG.out); rintro e w72 ⟨rfl, hb⟩; have n0_ := Aside0.mk (Kd.R_below (by (with_reducible repeat (first | apply Kd.R_alloc | apply Kd.R_drewN | apply Kd.R_drew)); exact HO_258000.out) hb); have n1_ := Aside0.mk (Kd.R_below (by (with_reducible repeat (first | apply Kd.R_alloc | apply Kd.R_drewN | apply Kd.R_drew)); exact HO_266000.out) hb); have n2_ := Aside0.mk (blk_below (g := gb247) (o := .cells #[.slice A0_0 l0_0.length c0_0, .int .i64 a0_1, .string a0_2, .int .u32 a0_3, .bool a0_4] 27 (0, 0)) (by (with_reducible repeat (first | refine blk_drewN ?_ _ | refine blk_drew ?_ | refine blk_alloc ?_ _)); exact BK247.out) hb); have n3_ := Aside0.mk (blk_below (g := gb257) (o := .cells #[.slice Ao21 t250.length co21, .int .i64 t253, .string t254, .int .u32 t255, .bool t256] 27 (0, 0)) (by (with_reducible repeat (first | refine blk_drewN ?_ _ | refine blk_drew ?_ | refine blk_alloc ?_ _)); exact BK257.out) hb); have n4_ := Aside0.mk (blk_below (g := gb265) (o := .cells #[.slice Ao32 y266.length co32, .int .i64 t261, .string t262, .int .u32 t263, .bool t264] 27 (0, 0)) (by (with_reducible repeat (first | refine blk_drewN ?_ _ | refine blk_drew ?_ | refine blk_alloc ?_ _)); exact BK265.out) hb); have n5_ := Aside0.mk (below_step (by repeat (first | (with_reducible first | exact HB.out | apply below_alloc | apply pw_below_drewN | apply below_drew1 | refine below_set ?_ GE247.out | refine below_set ?_ GE257.out | refine below_set ?_ GE265.out) | exact HB.out)) hb); clear HO_258000; clear HO_266000; clear BK247; clear BK257; clear BK265; clear HB; have HO_258000 := n0_; have HO_266000 := n1_; have BK247 := n2_; have BK257 := n3_; have BK265 := n4_; have HB := n5_; clear n0_ n1_ n2_ n3_ n4_ n5_; (try clear hb); (try clear hb2); (try clear hk); (try clear hi)))
                  go_ret
                  exact ⟨by first | rfl | (simp [errW_none, errW_some] <;> rfl) | (simp [*, errW_none, errW_some] <;> rfl), by repeat (first | (with_reducible first | exact HB.out | apply below_alloc | apply pw_below_drewN | apply below_drew1 | refine below_set ?_ GE247.out | refine below_set ?_ GE257.out | refine below_set ?_ GE265.out) | exact HB.out)⟩
        · rw [if_neg c17] at H
          exact absurd H (by simp)

end Go.Proofs.YtflbeoejkbnhmaaDoor.P
