-- written by this session's patched copy of the printer (wip/tools/patch_print.py); Lean checks it
import Derived.Test.YtflbeoejkbnhmaaDoorPx0
import Derived.Test.YtflbeoejkbnhmaaDoorPx1
namespace Go.Proofs.YtflbeoejkbnhmaaDoor.P
open Go.RowKit Go.Proofs.YtflbeoejkbnhmaaDoorW.PrintWords Go.Proofs.YtflbeoejkbnhmaaDoorW.PrintLast Go.Proofs.YtflbeoejkbnhmaaDoorW.PrintMore
attribute [local go_sem] max2_int min2_int max_two min_two max_three min_three max_four min_four   -- for this text's walks alone
set_option linter.unusedVariables false
set_option linter.unusedSimpArgs false

/-! ### access_May: function 13 -/
def access_May.j0 : Nat → ByteArray → Int → Bool → List (S37) → Int → ByteArray → Int → Bool → Option (Bool)
  | 0, _, _, _, _, _, _, _, _ => none
  | k + 1, x1, x2, x27, x111000, x111001, x111002, x111003, x111004 => if x27 = true then (some true) else (if 0 ≤ x111001 then (if x111001 < 7 then ((access_Changes.f x2).bind fun t117 => (if t117 = true then (if (Go.bits .and .i64 (rd G_access_lets.tab x111001) 4) = 0 then (some false) else ((access_registered.f k x111000 x111001 x111002 x111003 x111004 x1).bind fun t118 => (some t118))) else (if (Go.bits .and .i64 (rd G_access_lets.tab x111001) 1) = 0 then (if (Go.bits .and .i64 (rd G_access_lets.tab x111001) 2) = 0 then (some false) else ((access_registered.f k x111000 x111001 x111002 x111003 x111004 x1).bind fun t119 => (some t119))) else (some true)))) else (none)) else (none))
def access_May.f (k : Nat) (l0_0 : List (S37)) (a0_1 : Int) (a0_2 : ByteArray) (a0_3 : Int) (a0_4 : Bool) (a1 : ByteArray) (a2 : Int) : Option (Bool) := (access_Type.f a0_1).bind fun t111 => (if t111 = true then ((access_Reads.f a2).bind fun t112 => (if t112 = true then ((access_Holds.f k l0_0 a0_1 a0_2 a0_3 a0_4 a1).bind fun t113 => (access_May.j0 k a1 a2 t113 l0_0 a0_1 a0_2 a0_3 a0_4)) else ((access_Changes.f a2).bind fun t114 => (if t114 = true then ((access_Holds.f k l0_0 a0_1 a0_2 a0_3 a0_4 a1).bind fun t115 => (access_May.j0 k a1 a2 t115 l0_0 a0_1 a0_2 a0_3 a0_4)) else (access_May.j0 k a1 a2 true l0_0 a0_1 a0_2 a0_3 a0_4))))) else (access_May.j0 k a1 a2 true l0_0 a0_1 a0_2 a0_3 a0_4))
theorem access_May.mono_l : ∀ k, (∀ y0 y1 y2 y3 y4 y5 y6 y7, LeO (access_May.j0 k y0 y1 y2 y3 y4 y5 y6 y7) (access_May.j0 (k + 1) y0 y1 y2 y3 y4 y5 y6 y7))
  | 0 => fun _ _ _ _ _ _ _ _ r h => by simp [access_May.j0] at h
  | k + 1 => by
    have ih0 := access_May.mono_l k
    · intro y0 y1 y2 y3 y4 y5 y6 y7
      unfold access_May.j0
      repeat' first
      | (with_reducible exact ih0 _ _ _ _ _ _ _ _)
      | (with_reducible exact access_Holds.mono _ _ _ _ _ _ _)
      | (with_reducible exact access_registered.mono _ _ _ _ _ _ _)
      | (with_reducible exact LeO.refl _)
      | (with_reducible exact LeO.none _)
      | (with_reducible refine LeO.ite ?_ ?_)
      | (with_reducible refine LeO.bind ?_ (fun _ => ?_))
      | exact ih0 _ _ _ _ _ _ _ _
      | exact access_Holds.mono _ _ _ _ _ _ _
      | exact access_registered.mono _ _ _ _ _ _ _
      | exact LeO.none _
      | refine LeO.ite ?_ ?_
      | refine LeO.bind ?_ (fun _ => ?_)
theorem access_May.mono : ∀ a0 a1 a2 a3 a4 a5 a6 k, LeO (access_May.f k a0 a1 a2 a3 a4 a5 a6) (access_May.f (k + 1) a0 a1 a2 a3 a4 a5 a6) := by
  intro a0 a1 a2 a3 a4 a5 a6 k
  have ih0 := access_May.mono_l k
  unfold access_May.f
  repeat' first
      | (with_reducible exact ih0 _ _ _ _ _ _ _ _)
      | (with_reducible exact access_Holds.mono _ _ _ _ _ _ _)
      | (with_reducible exact access_registered.mono _ _ _ _ _ _ _)
      | (with_reducible exact LeO.refl _)
      | (with_reducible exact LeO.none _)
      | (with_reducible refine LeO.ite ?_ ?_)
      | (with_reducible refine LeO.bind ?_ (fun _ => ?_))
      | exact ih0 _ _ _ _ _ _ _ _
      | exact access_Holds.mono _ _ _ _ _ _ _
      | exact access_registered.mono _ _ _ _ _ _ _
      | exact LeO.none _
      | refine LeO.ite ?_ ?_
      | refine LeO.bind ?_ (fun _ => ?_)
set_option maxHeartbeats 8000000 in
set_option maxRecDepth 100000 in
theorem access_May.calls (k : Nat) (A0_0 : Option Addr) (c0_0 : Nat) (l0_0 : List (S37)) (a0_1 : Int) (a0_2 : ByteArray) (a0_3 : Int) (a0_4 : Bool) (a1 : ByteArray) (a2 : Int) (r : Bool) (w : World) (hr0_0 : Kd.C k37 w A0_0 l0_0.length l0_0) (hc0_0 : l0_0.length ≤ c0_0) (hG : Glob w) (h : access_May.f k l0_0 a0_1 a0_2 a0_3 a0_4 a1 a2 = some r) :
    Calls Tryd.prog 13 #[.agg #[.slice A0_0 l0_0.length c0_0, .int .i64 a0_1, .string a0_2, .int .u32 a0_3, .bool a0_4], .string a1, .int .i64 a2] w fun e w' => e = .returned (.bool r) ∧ Below w.heap.size w w' := by
  have hu27 := Tryd.underlying27
  have HRgl0 := Aside0.mk (G_access_lets.reads (Glob.access_lets hG))
  have HG := Aside0.mk hG
  clear hG
  have HR0_0 := Aside0.mk hr0_0
  have HC0_0 := Aside0.mk hc0_0
  clear hr0_0 hc0_0
  have HB := Aside0.mk (Below.refl w.heap.size w)
  have H : ((access_Type.f a0_1).bind fun t111 => (if t111 = true then ((access_Reads.f a2).bind fun t112 => (if t112 = true then ((access_Holds.f k l0_0 a0_1 a0_2 a0_3 a0_4 a1).bind fun t113 => (access_May.j0 k a1 a2 t113 l0_0 a0_1 a0_2 a0_3 a0_4)) else ((access_Changes.f a2).bind fun t114 => (if t114 = true then ((access_Holds.f k l0_0 a0_1 a0_2 a0_3 a0_4 a1).bind fun t115 => (access_May.j0 k a1 a2 t115 l0_0 a0_1 a0_2 a0_3 a0_4)) else (access_May.j0 k a1 a2 true l0_0 a0_1 a0_2 a0_3 a0_4))))) else (access_May.j0 k a1 a2 true l0_0 a0_1 a0_2 a0_3 a0_4))) = some r := h
  clear h
  have HC4 := Aside0.mk H
  clear H
  go_enter Tryd.func13, Tryd.ntmps13
  go_upto_region 1 with (first | ((with_reducible refine gate_dst (N := 3) rfl ?_); refine box_event ?hg (N := 3) ?hd (cs := #[.slice A0_0 l0_0.length c0_0, .int .i64 a0_1, .string a0_2, .int .u32 a0_3, .bool a0_4]) (t := 27) ?hr ?_; (case hd => rfl); (case hg => rfl); (case hr => first | (go_simp; done) | (go_simp; rfl)); intro gb110 hg w5 hbox hb; have n0_ := Aside0.mk (below_step (by repeat (first | (with_reducible first | exact HB.out | apply below_alloc | apply pw_below_drewN | apply below_drew1) | exact HB.out)) hb); have n1_ := Aside0.mk (hbox); have n2_ := Aside0.mk ((by rw [hg]; exact (below_size (by repeat (first | (with_reducible first | exact HB.out | apply below_alloc | apply pw_below_drewN | apply below_drew1) | exact HB.out))) : w.heap.size ≤ gb110)); have n3_ := Aside0.mk ((by rw [hg]; exact (below_size (by repeat (first | (with_reducible first | exact HB.out | apply below_alloc | apply pw_below_drewN | apply below_drew1) | exact HB.out))) : w.heap.size ≤ gb110)); clear HB; have HB := n0_; have BK110 := n1_; have GW110 := n2_; have GE110 := n3_; clear n0_ n1_ n2_ n3_; clear hb hbox hg))
  (try simp only [Act.put, List.setIfInBounds_toArray, List.set_cons_zero, List.set_cons_succ])
  go_cut [27] (fun v27 wc => ∃ (kq : Nat) (x27_3 : Bool), v27 = .bool x27_3 ∧ Aside0 (access_May.j0 kq a1 a2 x27_3 l0_0 a0_1 a0_2 a0_3 a0_4 = some r) ∧ Aside0 (kq ≤ k) ∧ Aside0 (wc.heap[gb110]? = some (.cells #[(.slice A0_0 l0_0.length c0_0), .int .i64 a0_1, .string a0_2, .int .u32 a0_3, .bool a0_4] 27 (0, 0))) ∧ Aside0 (Below w.heap.size w wc))
  case first =>
    have H := HC4.out
    clear HC4
    replace H := Option.bind_eq_some_iff.mp H
    obtain ⟨t111, A60, H⟩ := H
    replace H : (if t111 = true then ((access_Reads.f a2).bind fun t112 => (if t112 = true then ((access_Holds.f k l0_0 a0_1 a0_2 a0_3 a0_4 a1).bind fun t113 => (access_May.j0 k a1 a2 t113 l0_0 a0_1 a0_2 a0_3 a0_4)) else ((access_Changes.f a2).bind fun t114 => (if t114 = true then ((access_Holds.f k l0_0 a0_1 a0_2 a0_3 a0_4 a1).bind fun t115 => (access_May.j0 k a1 a2 t115 l0_0 a0_1 a0_2 a0_3 a0_4)) else (access_May.j0 k a1 a2 true l0_0 a0_1 a0_2 a0_3 a0_4))))) else (access_May.j0 k a1 a2 true l0_0 a0_1 a0_2 a0_3 a0_4)) = some r := H
    have A6 := Aside0.mk A60
    clear A60
    by_cases c7 : t111 = true
    · subst c7
      have H1 : ((access_Reads.f a2).bind fun t112 => (if t112 = true then ((access_Holds.f k l0_0 a0_1 a0_2 a0_3 a0_4 a1).bind fun t113 => (access_May.j0 k a1 a2 t113 l0_0 a0_1 a0_2 a0_3 a0_4)) else ((access_Changes.f a2).bind fun t114 => (if t114 = true then ((access_Holds.f k l0_0 a0_1 a0_2 a0_3 a0_4 a1).bind fun t115 => (access_May.j0 k a1 a2 t115 l0_0 a0_1 a0_2 a0_3 a0_4)) else (access_May.j0 k a1 a2 true l0_0 a0_1 a0_2 a0_3 a0_4))))) = some r := by rw [if_pos rfl] at H; exact H
      clear H
      have H := H1
      clear H1
      replace H := Option.bind_eq_some_iff.mp H
      obtain ⟨t112, A80, H⟩ := H
      replace H : (if t112 = true then ((access_Holds.f k l0_0 a0_1 a0_2 a0_3 a0_4 a1).bind fun t113 => (access_May.j0 k a1 a2 t113 l0_0 a0_1 a0_2 a0_3 a0_4)) else ((access_Changes.f a2).bind fun t114 => (if t114 = true then ((access_Holds.f k l0_0 a0_1 a0_2 a0_3 a0_4 a1).bind fun t115 => (access_May.j0 k a1 a2 t115 l0_0 a0_1 a0_2 a0_3 a0_4)) else (access_May.j0 k a1 a2 true l0_0 a0_1 a0_2 a0_3 a0_4)))) = some r := H
      have A8 := Aside0.mk A80
      clear A80
      by_cases c9 : t112 = true
      · subst c9
        have H1 : ((access_Holds.f k l0_0 a0_1 a0_2 a0_3 a0_4 a1).bind fun t113 => (access_May.j0 k a1 a2 t113 l0_0 a0_1 a0_2 a0_3 a0_4)) = some r := by rw [if_pos rfl] at H; exact H
        clear H
        have H := H1
        clear H1
        replace H := Option.bind_eq_some_iff.mp H
        obtain ⟨t113, A100, H⟩ := H
        replace H : (access_May.j0 k a1 a2 t113 l0_0 a0_1 a0_2 a0_3 a0_4) = some r := H
        have A10 := Aside0.mk A100
        clear A100
        have H' := Aside0.mk H
        clear H
        have hcz11_0 : w5.cell? ⟨gb110, 0, none⟩ = some (.slice A0_0 l0_0.length c0_0) := (blk_cell BK110.out 0).trans rfl
        have hcz11_1 : w5.cell? ⟨gb110, 1, none⟩ = some (.int .i64 a0_1) := (blk_cell BK110.out 1).trans rfl
        have hcz11_2 : w5.cell? ⟨gb110, 2, none⟩ = some (.string a0_2) := (blk_cell BK110.out 2).trans rfl
        have hcz11_3 : w5.cell? ⟨gb110, 3, none⟩ = some (.int .u32 a0_3) := (blk_cell BK110.out 3).trans rfl
        have hcz11_4 : w5.cell? ⟨gb110, 4, none⟩ = some (.bool a0_4) := (blk_cell BK110.out 4).trans rfl
        have hfz11_0 := blk_frozen BK110.out 0
        have hfz11_1 := blk_frozen BK110.out 1
        have hfz11_2 := blk_frozen BK110.out 2
        have hfz11_3 := blk_frozen BK110.out 3
        have hfz11_4 := blk_frozen BK110.out 4
        go_wp2_with (first | ((with_reducible refine gate_callee (f := 16) rfl ?_); refine goesL_ (some 11) rfl rfl Tryd.func16 (by kernel_rfl) rfl #[.int .i64 a0_1] rfl (by (try simp only [List.map_toArray, List.map_cons, List.map_nil]); first | done | rfl | (simp only [List.length_drop, List.length_take]; rfl)) ?_; (with_reducible refine (access_Type.calls a0_1 true _ A6.out).mono ?_); rintro e w' ⟨rfl, ⟨nd, rfl⟩⟩; refine ⟨_, rfl, ?_⟩) | (go_at_call 18; (with_reducible refine (access_Reads.calls a2 true _ A8.out).mono ?_); rintro e w' ⟨rfl, ⟨nd, rfl⟩⟩) | (go_at_call 11; (with_reducible refine (access_Holds.calls k _ _ l0_0 a0_1 a0_2 a0_3 a0_4 a1 t113 _ ?side1 ?side2 ?side3 A10.out).mono ?_); (case side1 => repeat (first | exact (Kd.C_below HR0_0.out (by repeat (first | (with_reducible first | exact HB.out | apply below_alloc | apply pw_below_drewN | apply below_drew1 | refine below_set ?_ GE110.out) | exact HB.out))) | (with_reducible refine Kd.C_alloc ?_ _) | (with_reducible refine Kd.C_drewN ?_ _) | (with_reducible refine Kd.C_drew ?_))); (case side2 => exact HC0_0.out); (case side3 => first | ((refine Glob.keep HG.out ?_); (repeat (first | (with_reducible first | exact HB.out | apply below_alloc | apply pw_below_drewN | apply below_drew1 | refine below_set ?_ GE110.out) | exact HB.out)); done) | exact HG.out); rintro e w12 ⟨rfl, hb⟩; have n0_ := Aside0.mk (blk_below (g := gb110) (o := .cells #[.slice A0_0 l0_0.length c0_0, .int .i64 a0_1, .string a0_2, .int .u32 a0_3, .bool a0_4] 27 (0, 0)) (by (with_reducible repeat (first | refine blk_drewN ?_ _ | refine blk_drew ?_ | refine blk_alloc ?_ _)); exact BK110.out) hb); have n1_ := Aside0.mk (below_step (by repeat (first | (with_reducible first | exact HB.out | apply below_alloc | apply pw_below_drewN | apply below_drew1 | refine below_set ?_ GE110.out) | exact HB.out)) hb); clear BK110; clear HB; have BK110 := n0_; have HB := n1_; clear n0_ n1_; (try clear hb); (try clear hb2); (try clear hk); (try clear hi)))
        go_meet
        case rel => exact ⟨_, (t113), (by first | rfl | (simp; done) | (simp [*]; done)), H', ⟨by first | omega | exact Nat.le_refl _⟩, ⟨by (with_reducible repeat (first | refine blk_drewN ?_ _ | refine blk_drew ?_ | refine blk_alloc ?_ _)); exact BK110.out⟩, ⟨by repeat (first | (with_reducible first | exact HB.out | apply below_alloc | apply pw_below_drewN | apply below_drew1 | refine below_set ?_ GE110.out) | exact HB.out)⟩⟩
      · replace c9 := Bool.eq_false_iff.mpr c9
        subst c9
        have H1 : ((access_Changes.f a2).bind fun t114 => (if t114 = true then ((access_Holds.f k l0_0 a0_1 a0_2 a0_3 a0_4 a1).bind fun t115 => (access_May.j0 k a1 a2 t115 l0_0 a0_1 a0_2 a0_3 a0_4)) else (access_May.j0 k a1 a2 true l0_0 a0_1 a0_2 a0_3 a0_4))) = some r := by rw [if_neg (show ¬ (false = true) by decide)] at H; exact H
        clear H
        have H := H1
        clear H1
        replace H := Option.bind_eq_some_iff.mp H
        obtain ⟨t114, A130, H⟩ := H
        replace H : (if t114 = true then ((access_Holds.f k l0_0 a0_1 a0_2 a0_3 a0_4 a1).bind fun t115 => (access_May.j0 k a1 a2 t115 l0_0 a0_1 a0_2 a0_3 a0_4)) else (access_May.j0 k a1 a2 true l0_0 a0_1 a0_2 a0_3 a0_4)) = some r := H
        have A13 := Aside0.mk A130
        clear A130
        by_cases c14 : t114 = true
        · subst c14
          have H1 : ((access_Holds.f k l0_0 a0_1 a0_2 a0_3 a0_4 a1).bind fun t115 => (access_May.j0 k a1 a2 t115 l0_0 a0_1 a0_2 a0_3 a0_4)) = some r := by rw [if_pos rfl] at H; exact H
          clear H
          have H := H1
          clear H1
          replace H := Option.bind_eq_some_iff.mp H
          obtain ⟨t115, A150, H⟩ := H
          replace H : (access_May.j0 k a1 a2 t115 l0_0 a0_1 a0_2 a0_3 a0_4) = some r := H
          have A15 := Aside0.mk A150
          clear A150
          have H' := Aside0.mk H
          clear H
          have hcz16_0 : w5.cell? ⟨gb110, 0, none⟩ = some (.slice A0_0 l0_0.length c0_0) := (blk_cell BK110.out 0).trans rfl
          have hcz16_1 : w5.cell? ⟨gb110, 1, none⟩ = some (.int .i64 a0_1) := (blk_cell BK110.out 1).trans rfl
          have hcz16_2 : w5.cell? ⟨gb110, 2, none⟩ = some (.string a0_2) := (blk_cell BK110.out 2).trans rfl
          have hcz16_3 : w5.cell? ⟨gb110, 3, none⟩ = some (.int .u32 a0_3) := (blk_cell BK110.out 3).trans rfl
          have hcz16_4 : w5.cell? ⟨gb110, 4, none⟩ = some (.bool a0_4) := (blk_cell BK110.out 4).trans rfl
          have hfz16_0 := blk_frozen BK110.out 0
          have hfz16_1 := blk_frozen BK110.out 1
          have hfz16_2 := blk_frozen BK110.out 2
          have hfz16_3 := blk_frozen BK110.out 3
          have hfz16_4 := blk_frozen BK110.out 4
          go_wp2_with (first | ((with_reducible refine gate_callee (f := 16) rfl ?_); refine goesL_ (some 11) rfl rfl Tryd.func16 (by kernel_rfl) rfl #[.int .i64 a0_1] rfl (by (try simp only [List.map_toArray, List.map_cons, List.map_nil]); first | done | rfl | (simp only [List.length_drop, List.length_take]; rfl)) ?_; (with_reducible refine (access_Type.calls a0_1 true _ A6.out).mono ?_); rintro e w' ⟨rfl, ⟨nd, rfl⟩⟩; refine ⟨_, rfl, ?_⟩) | (go_at_call 18; (with_reducible refine (access_Reads.calls a2 false _ A8.out).mono ?_); rintro e w' ⟨rfl, ⟨nd, rfl⟩⟩) | (go_at_call 20; (with_reducible refine (access_Changes.calls a2 true _ A13.out).mono ?_); rintro e w' ⟨rfl, ⟨nd, rfl⟩⟩) | (go_at_call 11; (with_reducible refine (access_Holds.calls k _ _ l0_0 a0_1 a0_2 a0_3 a0_4 a1 t115 _ ?side1 ?side2 ?side3 A15.out).mono ?_); (case side1 => repeat (first | exact (Kd.C_below HR0_0.out (by repeat (first | (with_reducible first | exact HB.out | apply below_alloc | apply pw_below_drewN | apply below_drew1 | refine below_set ?_ GE110.out) | exact HB.out))) | (with_reducible refine Kd.C_alloc ?_ _) | (with_reducible refine Kd.C_drewN ?_ _) | (with_reducible refine Kd.C_drew ?_))); (case side2 => exact HC0_0.out); (case side3 => first | ((refine Glob.keep HG.out ?_); (repeat (first | (with_reducible first | exact HB.out | apply below_alloc | apply pw_below_drewN | apply below_drew1 | refine below_set ?_ GE110.out) | exact HB.out)); done) | exact HG.out); rintro e w17 ⟨rfl, hb⟩; have n0_ := Aside0.mk (blk_below (g := gb110) (o := .cells #[.slice A0_0 l0_0.length c0_0, .int .i64 a0_1, .string a0_2, .int .u32 a0_3, .bool a0_4] 27 (0, 0)) (by (with_reducible repeat (first | refine blk_drewN ?_ _ | refine blk_drew ?_ | refine blk_alloc ?_ _)); exact BK110.out) hb); have n1_ := Aside0.mk (below_step (by repeat (first | (with_reducible first | exact HB.out | apply below_alloc | apply pw_below_drewN | apply below_drew1 | refine below_set ?_ GE110.out) | exact HB.out)) hb); clear BK110; clear HB; have BK110 := n0_; have HB := n1_; clear n0_ n1_; (try clear hb); (try clear hb2); (try clear hk); (try clear hi)))
          go_meet
          case rel => exact ⟨_, (t115), (by first | rfl | (simp; done) | (simp [*]; done)), H', ⟨by first | omega | exact Nat.le_refl _⟩, ⟨by (with_reducible repeat (first | refine blk_drewN ?_ _ | refine blk_drew ?_ | refine blk_alloc ?_ _)); exact BK110.out⟩, ⟨by repeat (first | (with_reducible first | exact HB.out | apply below_alloc | apply pw_below_drewN | apply below_drew1 | refine below_set ?_ GE110.out) | exact HB.out)⟩⟩
        · replace c14 := Bool.eq_false_iff.mpr c14
          subst c14
          have H1 : (access_May.j0 k a1 a2 true l0_0 a0_1 a0_2 a0_3 a0_4) = some r := by rw [if_neg (show ¬ (false = true) by decide)] at H; exact H
          clear H
          have H := H1
          clear H1
          have H' := Aside0.mk H
          clear H
          have hcz18_0 : w5.cell? ⟨gb110, 0, none⟩ = some (.slice A0_0 l0_0.length c0_0) := (blk_cell BK110.out 0).trans rfl
          have hcz18_1 : w5.cell? ⟨gb110, 1, none⟩ = some (.int .i64 a0_1) := (blk_cell BK110.out 1).trans rfl
          have hcz18_2 : w5.cell? ⟨gb110, 2, none⟩ = some (.string a0_2) := (blk_cell BK110.out 2).trans rfl
          have hcz18_3 : w5.cell? ⟨gb110, 3, none⟩ = some (.int .u32 a0_3) := (blk_cell BK110.out 3).trans rfl
          have hcz18_4 : w5.cell? ⟨gb110, 4, none⟩ = some (.bool a0_4) := (blk_cell BK110.out 4).trans rfl
          have hfz18_0 := blk_frozen BK110.out 0
          have hfz18_1 := blk_frozen BK110.out 1
          have hfz18_2 := blk_frozen BK110.out 2
          have hfz18_3 := blk_frozen BK110.out 3
          have hfz18_4 := blk_frozen BK110.out 4
          go_wp2_with (first | ((with_reducible refine gate_callee (f := 16) rfl ?_); refine goesL_ (some 11) rfl rfl Tryd.func16 (by kernel_rfl) rfl #[.int .i64 a0_1] rfl (by (try simp only [List.map_toArray, List.map_cons, List.map_nil]); first | done | rfl | (simp only [List.length_drop, List.length_take]; rfl)) ?_; (with_reducible refine (access_Type.calls a0_1 true _ A6.out).mono ?_); rintro e w' ⟨rfl, ⟨nd, rfl⟩⟩; refine ⟨_, rfl, ?_⟩) | (go_at_call 18; (with_reducible refine (access_Reads.calls a2 false _ A8.out).mono ?_); rintro e w' ⟨rfl, ⟨nd, rfl⟩⟩) | (go_at_call 20; (with_reducible refine (access_Changes.calls a2 false _ A13.out).mono ?_); rintro e w' ⟨rfl, ⟨nd, rfl⟩⟩))
          go_meet
          case rel => exact ⟨_, (true), (by first | rfl | (simp; done) | (simp [*]; done)), H', ⟨by first | omega | exact Nat.le_refl _⟩, ⟨by (with_reducible repeat (first | refine blk_drewN ?_ _ | refine blk_drew ?_ | refine blk_alloc ?_ _)); exact BK110.out⟩, ⟨by repeat (first | (with_reducible first | exact HB.out | apply below_alloc | apply pw_below_drewN | apply below_drew1 | refine below_set ?_ GE110.out) | exact HB.out)⟩⟩
    · replace c7 := Bool.eq_false_iff.mpr c7
      subst c7
      have H1 : (access_May.j0 k a1 a2 true l0_0 a0_1 a0_2 a0_3 a0_4) = some r := by rw [if_neg (show ¬ (false = true) by decide)] at H; exact H
      clear H
      have H := H1
      clear H1
      have H' := Aside0.mk H
      clear H
      have hcz19_0 : w5.cell? ⟨gb110, 0, none⟩ = some (.slice A0_0 l0_0.length c0_0) := (blk_cell BK110.out 0).trans rfl
      have hcz19_1 : w5.cell? ⟨gb110, 1, none⟩ = some (.int .i64 a0_1) := (blk_cell BK110.out 1).trans rfl
      have hcz19_2 : w5.cell? ⟨gb110, 2, none⟩ = some (.string a0_2) := (blk_cell BK110.out 2).trans rfl
      have hcz19_3 : w5.cell? ⟨gb110, 3, none⟩ = some (.int .u32 a0_3) := (blk_cell BK110.out 3).trans rfl
      have hcz19_4 : w5.cell? ⟨gb110, 4, none⟩ = some (.bool a0_4) := (blk_cell BK110.out 4).trans rfl
      have hfz19_0 := blk_frozen BK110.out 0
      have hfz19_1 := blk_frozen BK110.out 1
      have hfz19_2 := blk_frozen BK110.out 2
      have hfz19_3 := blk_frozen BK110.out 3
      have hfz19_4 := blk_frozen BK110.out 4
      go_wp2_with (first | ((with_reducible refine gate_callee (f := 16) rfl ?_); refine goesL_ (some 11) rfl rfl Tryd.func16 (by kernel_rfl) rfl #[.int .i64 a0_1] rfl (by (try simp only [List.map_toArray, List.map_cons, List.map_nil]); first | done | rfl | (simp only [List.length_drop, List.length_take]; rfl)) ?_; (with_reducible refine (access_Type.calls a0_1 false _ A6.out).mono ?_); rintro e w' ⟨rfl, ⟨nd, rfl⟩⟩; refine ⟨_, rfl, ?_⟩))
      go_meet
      case rel => exact ⟨_, (true), (by first | rfl | (simp; done) | (simp [*]; done)), H', ⟨by first | omega | exact Nat.le_refl _⟩, ⟨by (with_reducible repeat (first | refine blk_drewN ?_ _ | refine blk_drew ?_ | refine blk_alloc ?_ _)); exact BK110.out⟩, ⟨by repeat (first | (with_reducible first | exact HB.out | apply below_alloc | apply pw_below_drewN | apply below_drew1 | refine below_set ?_ GE110.out) | exact HB.out)⟩⟩
  case rest =>
    clear HC4
    try clear c1
    try clear p2
    try clear c7
    try clear c9
    try clear c13
    try clear c14
    try clear c16
    try clear hcz11_0
    try clear hcz11_1
    try clear hcz11_2
    try clear hcz11_3
    try clear hcz11_4
    try clear hcz16_0
    try clear hcz16_1
    try clear hcz16_2
    try clear hcz16_3
    try clear hcz16_4
    try clear hcz18_0
    try clear hcz18_1
    try clear hcz18_2
    try clear hcz18_3
    try clear hcz18_4
    try clear hcz19_0
    try clear hcz19_1
    try clear hcz19_2
    try clear hcz19_3
    try clear hcz19_4
    try clear hfz11_0
    try clear hfz11_1
    try clear hfz11_2
    try clear hfz11_3
    try clear hfz11_4
    try clear hfz16_0
    try clear hfz16_1
    try clear hfz16_2
    try clear hfz16_3
    try clear hfz16_4
    try clear hfz18_0
    try clear hfz18_1
    try clear hfz18_2
    try clear hfz18_3
    try clear hfz18_4
    try clear hfz19_0
    try clear hfz19_1
    try clear hfz19_2
    try clear hfz19_3
    try clear hfz19_4
    obtain ⟨kq, x27_3, rfl, HA, HJ3, BK110, HB⟩ := hcut
    cases kq with
    | zero => exact absurd HA.out (by simp [access_May.j0])
    | succ kj3 =>
      have H := HA.out
      clear HA
      simp only [access_May.j0] at H
      by_cases c20 : x27_3 = true
      · subst c20
        have H1 : (some true) = some r := by rw [if_pos rfl] at H; exact H
        clear H
        have H := H1
        clear H1
        obtain rfl := Option.some.inj H
        go_wp2
        go_ret
        exact ⟨by first | rfl | (simp [errW_none, errW_some] <;> rfl) | (simp [*, errW_none, errW_some] <;> rfl) | (simp [bt, *]; done) | (unfold bt; simp [*]; done), by repeat (first | (with_reducible first | exact HB.out | apply below_alloc | apply pw_below_drewN | apply below_drew1 | refine below_set ?_ GE110.out) | exact HB.out)⟩
      · replace c20 := Bool.eq_false_iff.mpr c20
        subst c20
        have H1 : (if 0 ≤ a0_1 then (if a0_1 < 7 then ((access_Changes.f a2).bind fun t117 => (if t117 = true then (if (Go.bits .and .i64 (rd G_access_lets.tab a0_1) 4) = 0 then (some false) else ((access_registered.f kj3 l0_0 a0_1 a0_2 a0_3 a0_4 a1).bind fun t118 => (some t118))) else (if (Go.bits .and .i64 (rd G_access_lets.tab a0_1) 1) = 0 then (if (Go.bits .and .i64 (rd G_access_lets.tab a0_1) 2) = 0 then (some false) else ((access_registered.f kj3 l0_0 a0_1 a0_2 a0_3 a0_4 a1).bind fun t119 => (some t119))) else (some true)))) else (none)) else (none)) = some r := by rw [if_neg (show ¬ (false = true) by decide)] at H; exact H
        clear H
        have H := H1
        clear H1
        by_cases c21 : 0 ≤ a0_1
        · rw [if_pos c21] at H
          have c21b0 : decide (0 ≤ a0_1) = true := decide_eq_true c21
          clear c21
          by_cases c22 : a0_1 < 7
          · rw [if_pos c22] at H
            have c22b0 : decide (a0_1 < 7) = true := decide_eq_true c22
            clear c22
            replace H := Option.bind_eq_some_iff.mp H
            obtain ⟨t117, A230, H⟩ := H
            replace H : (if t117 = true then (if (Go.bits .and .i64 (rd G_access_lets.tab a0_1) 4) = 0 then (some false) else ((access_registered.f kj3 l0_0 a0_1 a0_2 a0_3 a0_4 a1).bind fun t118 => (some t118))) else (if (Go.bits .and .i64 (rd G_access_lets.tab a0_1) 1) = 0 then (if (Go.bits .and .i64 (rd G_access_lets.tab a0_1) 2) = 0 then (some false) else ((access_registered.f kj3 l0_0 a0_1 a0_2 a0_3 a0_4 a1).bind fun t119 => (some t119))) else (some true))) = some r := H
            have A23 := Aside0.mk A230
            clear A230
            by_cases c24 : t117 = true
            · subst c24
              have H1 : (if (Go.bits .and .i64 (rd G_access_lets.tab a0_1) 4) = 0 then (some false) else ((access_registered.f kj3 l0_0 a0_1 a0_2 a0_3 a0_4 a1).bind fun t118 => (some t118))) = some r := by rw [if_pos rfl] at H; exact H
              clear H
              have H := H1
              clear H1
              by_cases c25 : (Go.bits .and .i64 (rd G_access_lets.tab a0_1) 4) = 0
              · rw [if_pos c25] at H
                have c25b0 : ((Go.bits .and .i64 (rd G_access_lets.tab a0_1) 4) == 0) = true := beq_iff_eq.mpr c25
                have c25b1 : ((Go.bits .and .i64 (rd G_access_lets.tab a0_1) 4) != 0) = false := bne_eq_false_iff_eq.mpr c25
                clear c25
                obtain rfl := Option.some.inj H
                have hcz26_0 : wc.cell? ⟨gb110, 0, none⟩ = some (.slice A0_0 l0_0.length c0_0) := (blk_cell BK110.out 0).trans rfl
                have hcz26_1 : wc.cell? ⟨gb110, 1, none⟩ = some (.int .i64 a0_1) := (blk_cell BK110.out 1).trans rfl
                have hcz26_2 : wc.cell? ⟨gb110, 2, none⟩ = some (.string a0_2) := (blk_cell BK110.out 2).trans rfl
                have hcz26_3 : wc.cell? ⟨gb110, 3, none⟩ = some (.int .u32 a0_3) := (blk_cell BK110.out 3).trans rfl
                have hcz26_4 : wc.cell? ⟨gb110, 4, none⟩ = some (.bool a0_4) := (blk_cell BK110.out 4).trans rfl
                have hfz26_0 := blk_frozen BK110.out 0
                have hfz26_1 := blk_frozen BK110.out 1
                have hfz26_2 := blk_frozen BK110.out 2
                have hfz26_3 := blk_frozen BK110.out 3
                have hfz26_4 := blk_frozen BK110.out 4
                have p116 : 0 ≤ (a0_1 : Int) := of_decide_eq_true (by first | (with_reducible assumption) | assumption)
                have q116 : a0_1 < (G_access_lets.tab.length : Int) := of_decide_eq_true (by first | (with_reducible assumption) | assumption)
                have qg116 : (a0_1 < (7 : Int)) = True := eq_true q116
                obtain ⟨ad116, e116, hx116_0⟩ := Kd.at_int HRgl0.out a0_1 p116 q116
                obtain rfl : (⟨0, 0, none⟩ : Addr) = ad116 := (by injection e116)
                (first | simp only [add_plain] at hx116_0 | simp only [add_at] at hx116_0 | simp only [Addr.add, Nat.zero_add] at hx116_0 | skip)
                replace hx116_0 := (HB.out.cell (World.block_lt_of_cell? w _ hx116_0)).trans hx116_0
                replace p116 := eq_true p116
                replace q116 := eq_true q116
                go_wp2_with (first | ((with_reducible refine gate_callee (f := 20) rfl ?_); refine goesL_ (some 34) rfl rfl Tryd.func20 (by kernel_rfl) rfl #[.int .i64 a2] rfl (by (try simp only [List.map_toArray, List.map_cons, List.map_nil]); first | done | rfl | (simp only [List.length_drop, List.length_take]; rfl)) ?_; (with_reducible refine (access_Changes.calls a2 true _ A23.out).mono ?_); rintro e w' ⟨rfl, ⟨nd, rfl⟩⟩; refine ⟨_, rfl, ?_⟩))
                go_ret
                exact ⟨by first | rfl | (simp [errW_none, errW_some] <;> rfl) | (simp [*, errW_none, errW_some] <;> rfl) | (simp [bt, *]; done) | (unfold bt; simp [*]; done), by repeat (first | (with_reducible first | exact HB.out | apply below_alloc | apply pw_below_drewN | apply below_drew1 | refine below_set ?_ GE110.out) | exact HB.out)⟩
              · rw [if_neg c25] at H
                have c25b0 : ((Go.bits .and .i64 (rd G_access_lets.tab a0_1) 4) == 0) = false := beq_eq_false_iff_ne.mpr c25
                have c25b1 : ((Go.bits .and .i64 (rd G_access_lets.tab a0_1) 4) != 0) = true := bne_iff_ne.mpr c25
                replace H := Option.bind_eq_some_iff.mp H
                obtain ⟨t118, A270, H⟩ := H
                replace H : (some t118) = some r := H
                have A27 := Aside0.mk A270
                clear A270
                obtain rfl := Option.some.inj H
                have hcz28_0 : wc.cell? ⟨gb110, 0, none⟩ = some (.slice A0_0 l0_0.length c0_0) := (blk_cell BK110.out 0).trans rfl
                have hcz28_1 : wc.cell? ⟨gb110, 1, none⟩ = some (.int .i64 a0_1) := (blk_cell BK110.out 1).trans rfl
                have hcz28_2 : wc.cell? ⟨gb110, 2, none⟩ = some (.string a0_2) := (blk_cell BK110.out 2).trans rfl
                have hcz28_3 : wc.cell? ⟨gb110, 3, none⟩ = some (.int .u32 a0_3) := (blk_cell BK110.out 3).trans rfl
                have hcz28_4 : wc.cell? ⟨gb110, 4, none⟩ = some (.bool a0_4) := (blk_cell BK110.out 4).trans rfl
                have hfz28_0 := blk_frozen BK110.out 0
                have hfz28_1 := blk_frozen BK110.out 1
                have hfz28_2 := blk_frozen BK110.out 2
                have hfz28_3 := blk_frozen BK110.out 3
                have hfz28_4 := blk_frozen BK110.out 4
                have p116 : 0 ≤ (a0_1 : Int) := of_decide_eq_true (by first | (with_reducible assumption) | assumption)
                have q116 : a0_1 < (G_access_lets.tab.length : Int) := of_decide_eq_true (by first | (with_reducible assumption) | assumption)
                have qg116 : (a0_1 < (7 : Int)) = True := eq_true q116
                obtain ⟨ad116, e116, hx116_0⟩ := Kd.at_int HRgl0.out a0_1 p116 q116
                obtain rfl : (⟨0, 0, none⟩ : Addr) = ad116 := (by injection e116)
                (first | simp only [add_plain] at hx116_0 | simp only [add_at] at hx116_0 | simp only [Addr.add, Nat.zero_add] at hx116_0 | skip)
                replace hx116_0 := (HB.out.cell (World.block_lt_of_cell? w _ hx116_0)).trans hx116_0
                replace p116 := eq_true p116
                replace q116 := eq_true q116
                go_wp2_with (first | ((with_reducible refine gate_callee (f := 20) rfl ?_); refine goesL_ (some 34) rfl rfl Tryd.func20 (by kernel_rfl) rfl #[.int .i64 a2] rfl (by (try simp only [List.map_toArray, List.map_cons, List.map_nil]); first | done | rfl | (simp only [List.length_drop, List.length_take]; rfl)) ?_; (with_reducible refine (access_Changes.calls a2 true _ A23.out).mono ?_); rintro e w' ⟨rfl, ⟨nd, rfl⟩⟩; refine ⟨_, rfl, ?_⟩) | (go_at_call 23; (with_reducible refine (access_registered.calls kj3 _ _ l0_0 a0_1 a0_2 a0_3 a0_4 a1 t118 _ ?side1 ?side2 A27.out).mono ?_); (case side1 => repeat (first | exact (Kd.C_below HR0_0.out (by repeat (first | (with_reducible first | exact HB.out | apply below_alloc | apply pw_below_drewN | apply below_drew1 | refine below_set ?_ GE110.out) | exact HB.out))) | (with_reducible refine Kd.C_alloc ?_ _) | (with_reducible refine Kd.C_drewN ?_ _) | (with_reducible refine Kd.C_drew ?_))); (case side2 => exact HC0_0.out); rintro e w29 ⟨rfl, hb⟩; have n0_ := Aside0.mk (blk_below (g := gb110) (o := .cells #[.slice A0_0 l0_0.length c0_0, .int .i64 a0_1, .string a0_2, .int .u32 a0_3, .bool a0_4] 27 (0, 0)) (by (with_reducible repeat (first | refine blk_drewN ?_ _ | refine blk_drew ?_ | refine blk_alloc ?_ _)); exact BK110.out) hb); have n1_ := Aside0.mk (below_step (by repeat (first | (with_reducible first | exact HB.out | apply below_alloc | apply pw_below_drewN | apply below_drew1 | refine below_set ?_ GE110.out) | exact HB.out)) hb); clear BK110; clear HB; have BK110 := n0_; have HB := n1_; clear n0_ n1_; (try clear hb); (try clear hb2); (try clear hk); (try clear hi)))
                go_ret
                exact ⟨by first | rfl | (simp [errW_none, errW_some] <;> rfl) | (simp [*, errW_none, errW_some] <;> rfl) | (simp [bt, *]; done) | (unfold bt; simp [*]; done), by repeat (first | (with_reducible first | exact HB.out | apply below_alloc | apply pw_below_drewN | apply below_drew1 | refine below_set ?_ GE110.out) | exact HB.out)⟩
            · replace c24 := Bool.eq_false_iff.mpr c24
              subst c24
              have H1 : (if (Go.bits .and .i64 (rd G_access_lets.tab a0_1) 1) = 0 then (if (Go.bits .and .i64 (rd G_access_lets.tab a0_1) 2) = 0 then (some false) else ((access_registered.f kj3 l0_0 a0_1 a0_2 a0_3 a0_4 a1).bind fun t119 => (some t119))) else (some true)) = some r := by rw [if_neg (show ¬ (false = true) by decide)] at H; exact H
              clear H
              have H := H1
              clear H1
              by_cases c30 : (Go.bits .and .i64 (rd G_access_lets.tab a0_1) 1) = 0
              · rw [if_pos c30] at H
                have c30b0 : ((Go.bits .and .i64 (rd G_access_lets.tab a0_1) 1) == 0) = true := beq_iff_eq.mpr c30
                have c30b1 : ((Go.bits .and .i64 (rd G_access_lets.tab a0_1) 1) != 0) = false := bne_eq_false_iff_eq.mpr c30
                clear c30
                by_cases c31 : (Go.bits .and .i64 (rd G_access_lets.tab a0_1) 2) = 0
                · rw [if_pos c31] at H
                  have c31b0 : ((Go.bits .and .i64 (rd G_access_lets.tab a0_1) 2) == 0) = true := beq_iff_eq.mpr c31
                  have c31b1 : ((Go.bits .and .i64 (rd G_access_lets.tab a0_1) 2) != 0) = false := bne_eq_false_iff_eq.mpr c31
                  clear c31
                  obtain rfl := Option.some.inj H
                  have hcz32_0 : wc.cell? ⟨gb110, 0, none⟩ = some (.slice A0_0 l0_0.length c0_0) := (blk_cell BK110.out 0).trans rfl
                  have hcz32_1 : wc.cell? ⟨gb110, 1, none⟩ = some (.int .i64 a0_1) := (blk_cell BK110.out 1).trans rfl
                  have hcz32_2 : wc.cell? ⟨gb110, 2, none⟩ = some (.string a0_2) := (blk_cell BK110.out 2).trans rfl
                  have hcz32_3 : wc.cell? ⟨gb110, 3, none⟩ = some (.int .u32 a0_3) := (blk_cell BK110.out 3).trans rfl
                  have hcz32_4 : wc.cell? ⟨gb110, 4, none⟩ = some (.bool a0_4) := (blk_cell BK110.out 4).trans rfl
                  have hfz32_0 := blk_frozen BK110.out 0
                  have hfz32_1 := blk_frozen BK110.out 1
                  have hfz32_2 := blk_frozen BK110.out 2
                  have hfz32_3 := blk_frozen BK110.out 3
                  have hfz32_4 := blk_frozen BK110.out 4
                  have p116 : 0 ≤ (a0_1 : Int) := of_decide_eq_true (by first | (with_reducible assumption) | assumption)
                  have q116 : a0_1 < (G_access_lets.tab.length : Int) := of_decide_eq_true (by first | (with_reducible assumption) | assumption)
                  have qg116 : (a0_1 < (7 : Int)) = True := eq_true q116
                  obtain ⟨ad116, e116, hx116_0⟩ := Kd.at_int HRgl0.out a0_1 p116 q116
                  obtain rfl : (⟨0, 0, none⟩ : Addr) = ad116 := (by injection e116)
                  (first | simp only [add_plain] at hx116_0 | simp only [add_at] at hx116_0 | simp only [Addr.add, Nat.zero_add] at hx116_0 | skip)
                  replace hx116_0 := (HB.out.cell (World.block_lt_of_cell? w _ hx116_0)).trans hx116_0
                  replace p116 := eq_true p116
                  replace q116 := eq_true q116
                  go_wp2_with (first | ((with_reducible refine gate_callee (f := 20) rfl ?_); refine goesL_ (some 34) rfl rfl Tryd.func20 (by kernel_rfl) rfl #[.int .i64 a2] rfl (by (try simp only [List.map_toArray, List.map_cons, List.map_nil]); first | done | rfl | (simp only [List.length_drop, List.length_take]; rfl)) ?_; (with_reducible refine (access_Changes.calls a2 false _ A23.out).mono ?_); rintro e w' ⟨rfl, ⟨nd, rfl⟩⟩; refine ⟨_, rfl, ?_⟩))
                  go_ret
                  exact ⟨by first | rfl | (simp [errW_none, errW_some] <;> rfl) | (simp [*, errW_none, errW_some] <;> rfl) | (simp [bt, *]; done) | (unfold bt; simp [*]; done), by repeat (first | (with_reducible first | exact HB.out | apply below_alloc | apply pw_below_drewN | apply below_drew1 | refine below_set ?_ GE110.out) | exact HB.out)⟩
                · rw [if_neg c31] at H
                  have c31b0 : ((Go.bits .and .i64 (rd G_access_lets.tab a0_1) 2) == 0) = false := beq_eq_false_iff_ne.mpr c31
                  have c31b1 : ((Go.bits .and .i64 (rd G_access_lets.tab a0_1) 2) != 0) = true := bne_iff_ne.mpr c31
                  replace H := Option.bind_eq_some_iff.mp H
                  obtain ⟨t119, A330, H⟩ := H
                  replace H : (some t119) = some r := H
                  have A33 := Aside0.mk A330
                  clear A330
                  obtain rfl := Option.some.inj H
                  have hcz34_0 : wc.cell? ⟨gb110, 0, none⟩ = some (.slice A0_0 l0_0.length c0_0) := (blk_cell BK110.out 0).trans rfl
                  have hcz34_1 : wc.cell? ⟨gb110, 1, none⟩ = some (.int .i64 a0_1) := (blk_cell BK110.out 1).trans rfl
                  have hcz34_2 : wc.cell? ⟨gb110, 2, none⟩ = some (.string a0_2) := (blk_cell BK110.out 2).trans rfl
                  have hcz34_3 : wc.cell? ⟨gb110, 3, none⟩ = some (.int .u32 a0_3) := (blk_cell BK110.out 3).trans rfl
                  have hcz34_4 : wc.cell? ⟨gb110, 4, none⟩ = some (.bool a0_4) := (blk_cell BK110.out 4).trans rfl
                  have hfz34_0 := blk_frozen BK110.out 0
                  have hfz34_1 := blk_frozen BK110.out 1
                  have hfz34_2 := blk_frozen BK110.out 2
                  have hfz34_3 := blk_frozen BK110.out 3
                  have hfz34_4 := blk_frozen BK110.out 4
                  have p116 : 0 ≤ (a0_1 : Int) := of_decide_eq_true (by first | (with_reducible assumption) | assumption)
                  have q116 : a0_1 < (G_access_lets.tab.length : Int) := of_decide_eq_true (by first | (with_reducible assumption) | assumption)
                  have qg116 : (a0_1 < (7 : Int)) = True := eq_true q116
                  obtain ⟨ad116, e116, hx116_0⟩ := Kd.at_int HRgl0.out a0_1 p116 q116
                  obtain rfl : (⟨0, 0, none⟩ : Addr) = ad116 := (by injection e116)
                  (first | simp only [add_plain] at hx116_0 | simp only [add_at] at hx116_0 | simp only [Addr.add, Nat.zero_add] at hx116_0 | skip)
                  replace hx116_0 := (HB.out.cell (World.block_lt_of_cell? w _ hx116_0)).trans hx116_0
                  replace p116 := eq_true p116
                  replace q116 := eq_true q116
                  go_wp2_with (first | ((with_reducible refine gate_callee (f := 20) rfl ?_); refine goesL_ (some 34) rfl rfl Tryd.func20 (by kernel_rfl) rfl #[.int .i64 a2] rfl (by (try simp only [List.map_toArray, List.map_cons, List.map_nil]); first | done | rfl | (simp only [List.length_drop, List.length_take]; rfl)) ?_; (with_reducible refine (access_Changes.calls a2 false _ A23.out).mono ?_); rintro e w' ⟨rfl, ⟨nd, rfl⟩⟩; refine ⟨_, rfl, ?_⟩) | (go_at_call 23; (with_reducible refine (access_registered.calls kj3 _ _ l0_0 a0_1 a0_2 a0_3 a0_4 a1 t119 _ ?side1 ?side2 A33.out).mono ?_); (case side1 => repeat (first | exact (Kd.C_below HR0_0.out (by repeat (first | (with_reducible first | exact HB.out | apply below_alloc | apply pw_below_drewN | apply below_drew1 | refine below_set ?_ GE110.out) | exact HB.out))) | (with_reducible refine Kd.C_alloc ?_ _) | (with_reducible refine Kd.C_drewN ?_ _) | (with_reducible refine Kd.C_drew ?_))); (case side2 => exact HC0_0.out); rintro e w35 ⟨rfl, hb⟩; have n0_ := Aside0.mk (blk_below (g := gb110) (o := .cells #[.slice A0_0 l0_0.length c0_0, .int .i64 a0_1, .string a0_2, .int .u32 a0_3, .bool a0_4] 27 (0, 0)) (by (with_reducible repeat (first | refine blk_drewN ?_ _ | refine blk_drew ?_ | refine blk_alloc ?_ _)); exact BK110.out) hb); have n1_ := Aside0.mk (below_step (by repeat (first | (with_reducible first | exact HB.out | apply below_alloc | apply pw_below_drewN | apply below_drew1 | refine below_set ?_ GE110.out) | exact HB.out)) hb); clear BK110; clear HB; have BK110 := n0_; have HB := n1_; clear n0_ n1_; (try clear hb); (try clear hb2); (try clear hk); (try clear hi)))
                  go_ret
                  exact ⟨by first | rfl | (simp [errW_none, errW_some] <;> rfl) | (simp [*, errW_none, errW_some] <;> rfl) | (simp [bt, *]; done) | (unfold bt; simp [*]; done), by repeat (first | (with_reducible first | exact HB.out | apply below_alloc | apply pw_below_drewN | apply below_drew1 | refine below_set ?_ GE110.out) | exact HB.out)⟩
              · rw [if_neg c30] at H
                have c30b0 : ((Go.bits .and .i64 (rd G_access_lets.tab a0_1) 1) == 0) = false := beq_eq_false_iff_ne.mpr c30
                have c30b1 : ((Go.bits .and .i64 (rd G_access_lets.tab a0_1) 1) != 0) = true := bne_iff_ne.mpr c30
                obtain rfl := Option.some.inj H
                have hcz36_0 : wc.cell? ⟨gb110, 0, none⟩ = some (.slice A0_0 l0_0.length c0_0) := (blk_cell BK110.out 0).trans rfl
                have hcz36_1 : wc.cell? ⟨gb110, 1, none⟩ = some (.int .i64 a0_1) := (blk_cell BK110.out 1).trans rfl
                have hcz36_2 : wc.cell? ⟨gb110, 2, none⟩ = some (.string a0_2) := (blk_cell BK110.out 2).trans rfl
                have hcz36_3 : wc.cell? ⟨gb110, 3, none⟩ = some (.int .u32 a0_3) := (blk_cell BK110.out 3).trans rfl
                have hcz36_4 : wc.cell? ⟨gb110, 4, none⟩ = some (.bool a0_4) := (blk_cell BK110.out 4).trans rfl
                have hfz36_0 := blk_frozen BK110.out 0
                have hfz36_1 := blk_frozen BK110.out 1
                have hfz36_2 := blk_frozen BK110.out 2
                have hfz36_3 := blk_frozen BK110.out 3
                have hfz36_4 := blk_frozen BK110.out 4
                have p116 : 0 ≤ (a0_1 : Int) := of_decide_eq_true (by first | (with_reducible assumption) | assumption)
                have q116 : a0_1 < (G_access_lets.tab.length : Int) := of_decide_eq_true (by first | (with_reducible assumption) | assumption)
                have qg116 : (a0_1 < (7 : Int)) = True := eq_true q116
                obtain ⟨ad116, e116, hx116_0⟩ := Kd.at_int HRgl0.out a0_1 p116 q116
                obtain rfl : (⟨0, 0, none⟩ : Addr) = ad116 := (by injection e116)
                (first | simp only [add_plain] at hx116_0 | simp only [add_at] at hx116_0 | simp only [Addr.add, Nat.zero_add] at hx116_0 | skip)
                replace hx116_0 := (HB.out.cell (World.block_lt_of_cell? w _ hx116_0)).trans hx116_0
                replace p116 := eq_true p116
                replace q116 := eq_true q116
                go_wp2_with (first | ((with_reducible refine gate_callee (f := 20) rfl ?_); refine goesL_ (some 34) rfl rfl Tryd.func20 (by kernel_rfl) rfl #[.int .i64 a2] rfl (by (try simp only [List.map_toArray, List.map_cons, List.map_nil]); first | done | rfl | (simp only [List.length_drop, List.length_take]; rfl)) ?_; (with_reducible refine (access_Changes.calls a2 false _ A23.out).mono ?_); rintro e w' ⟨rfl, ⟨nd, rfl⟩⟩; refine ⟨_, rfl, ?_⟩))
                go_ret
                exact ⟨by first | rfl | (simp [errW_none, errW_some] <;> rfl) | (simp [*, errW_none, errW_some] <;> rfl) | (simp [bt, *]; done) | (unfold bt; simp [*]; done), by repeat (first | (with_reducible first | exact HB.out | apply below_alloc | apply pw_below_drewN | apply below_drew1 | refine below_set ?_ GE110.out) | exact HB.out)⟩
          · rw [if_neg c22] at H
            exact absurd H (by simp)
        · rw [if_neg c21] at H
          exact absurd H (by simp)

/-! ### headgatelaw10_wakes: function 9 -/
def headgatelaw10_wakes.f (k : Nat)  : Option (Bool) := (some (([(⟨(⟨#[97]⟩ : ByteArray), 1⟩ : S37), (⟨(⟨#[98]⟩ : ByteArray), 2⟩ : S37)] : List (S37)) : List (S37))).bind fun y120 => ((access_May.f k y120 1 (⟨#[97]⟩ : ByteArray) 0 false (⟨#[98]⟩ : ByteArray) 2).bind fun t124 => (if t124 = true then ((access_May.f k y120 1 (⟨#[97]⟩ : ByteArray) 0 false (⟨#[98]⟩ : ByteArray) 3).bind fun t125 => (if t125 = true then (some false) else ((access_May.f k y120 1 (⟨#[97]⟩ : ByteArray) 0 false (⟨#[97]⟩ : ByteArray) 3).bind fun t126 => (if t126 = true then ((access_Holds.f k y120 1 (⟨#[97]⟩ : ByteArray) 0 false (⟨#[97]⟩ : ByteArray)).bind fun t127 => (if t127 = true then ((access_Type.f 6).bind fun t128 => (some t128)) else (some false))) else (some false))))) else (some false)))
theorem headgatelaw10_wakes.mono : ∀ k, LeO (headgatelaw10_wakes.f k ) (headgatelaw10_wakes.f (k + 1) ) := by
  intro  k
  unfold headgatelaw10_wakes.f
  repeat' first
      | (with_reducible exact access_Holds.mono _ _ _ _ _ _ _)
      | (with_reducible exact access_May.mono _ _ _ _ _ _ _ _)
      | (with_reducible exact LeO.refl _)
      | (with_reducible exact LeO.none _)
      | (with_reducible refine LeO.ite ?_ ?_)
      | (with_reducible refine LeO.bind ?_ (fun _ => ?_))
      | exact access_Holds.mono _ _ _ _ _ _ _
      | exact access_May.mono _ _ _ _ _ _ _ _
      | exact LeO.none _
      | refine LeO.ite ?_ ?_
      | refine LeO.bind ?_ (fun _ => ?_)
set_option maxHeartbeats 8000000 in
set_option maxRecDepth 100000 in
theorem headgatelaw10_wakes.calls (k : Nat)  (r : Bool) (w : World) (hG : Glob w) (h : headgatelaw10_wakes.f k  = some r) :
    Calls Tryd.prog 9 #[] w fun e w' => e = .returned (.bool r) ∧ Below w.heap.size w w' := by
  have hu37 := Tryd.underlying37
  have hu24 := Tryd.underlying24
  have hu27 := Tryd.underlying27
  have HG := Aside0.mk hG
  clear hG
  have HB := Aside0.mk (Below.refl w.heap.size w)
  have H : ((some (([(⟨(⟨#[97]⟩ : ByteArray), 1⟩ : S37), (⟨(⟨#[98]⟩ : ByteArray), 2⟩ : S37)] : List (S37)) : List (S37))).bind fun y120 => ((access_May.f k y120 1 (⟨#[97]⟩ : ByteArray) 0 false (⟨#[98]⟩ : ByteArray) 2).bind fun t124 => (if t124 = true then ((access_May.f k y120 1 (⟨#[97]⟩ : ByteArray) 0 false (⟨#[98]⟩ : ByteArray) 3).bind fun t125 => (if t125 = true then (some false) else ((access_May.f k y120 1 (⟨#[97]⟩ : ByteArray) 0 false (⟨#[97]⟩ : ByteArray) 3).bind fun t126 => (if t126 = true then ((access_Holds.f k y120 1 (⟨#[97]⟩ : ByteArray) 0 false (⟨#[97]⟩ : ByteArray)).bind fun t127 => (if t127 = true then ((access_Type.f 6).bind fun t128 => (some t128)) else (some false))) else (some false))))) else (some false)))) = some r := h
  clear h
  obtain ⟨y120, hy120⟩ : ∃ y_ : List (S37), y_ = (([(⟨(⟨#[97]⟩ : ByteArray), 1⟩ : S37), (⟨(⟨#[98]⟩ : ByteArray), 2⟩ : S37)] : List (S37))) := ⟨_, rfl⟩
  replace H : ((access_May.f k y120 1 (⟨#[97]⟩ : ByteArray) 0 false (⟨#[98]⟩ : ByteArray) 2).bind fun t124 => (if t124 = true then ((access_May.f k y120 1 (⟨#[97]⟩ : ByteArray) 0 false (⟨#[98]⟩ : ByteArray) 3).bind fun t125 => (if t125 = true then (some false) else ((access_May.f k y120 1 (⟨#[97]⟩ : ByteArray) 0 false (⟨#[97]⟩ : ByteArray) 3).bind fun t126 => (if t126 = true then ((access_Holds.f k y120 1 (⟨#[97]⟩ : ByteArray) 0 false (⟨#[97]⟩ : ByteArray)).bind fun t127 => (if t127 = true then ((access_Type.f 6).bind fun t128 => (some t128)) else (some false))) else (some false))))) else (some false))) = some r := by first | (rw [hy120]; with_reducible exact H) | (have H2_ := (Option.bind_some _ _).symm.trans H; rw [hy120]; with_reducible exact H2_) | (have H2_ := (Option.bind_some _ _).symm.trans H; with_reducible exact H2_) | with_reducible exact H | (rw [hy120]; exact H) | exact H
  have Ny120 := Aside0.mk hy120
  clear hy120
  replace H := Option.bind_eq_some_iff.mp H
  obtain ⟨t124, A10, H⟩ := H
  replace H : (if t124 = true then ((access_May.f k y120 1 (⟨#[97]⟩ : ByteArray) 0 false (⟨#[98]⟩ : ByteArray) 3).bind fun t125 => (if t125 = true then (some false) else ((access_May.f k y120 1 (⟨#[97]⟩ : ByteArray) 0 false (⟨#[97]⟩ : ByteArray) 3).bind fun t126 => (if t126 = true then ((access_Holds.f k y120 1 (⟨#[97]⟩ : ByteArray) 0 false (⟨#[97]⟩ : ByteArray)).bind fun t127 => (if t127 = true then ((access_Type.f 6).bind fun t128 => (some t128)) else (some false))) else (some false))))) else (some false)) = some r := H
  have A1 := Aside0.mk A10
  clear A10
  by_cases c2 : t124 = true
  · subst c2
    have H1 : ((access_May.f k y120 1 (⟨#[97]⟩ : ByteArray) 0 false (⟨#[98]⟩ : ByteArray) 3).bind fun t125 => (if t125 = true then (some false) else ((access_May.f k y120 1 (⟨#[97]⟩ : ByteArray) 0 false (⟨#[97]⟩ : ByteArray) 3).bind fun t126 => (if t126 = true then ((access_Holds.f k y120 1 (⟨#[97]⟩ : ByteArray) 0 false (⟨#[97]⟩ : ByteArray)).bind fun t127 => (if t127 = true then ((access_Type.f 6).bind fun t128 => (some t128)) else (some false))) else (some false))))) = some r := by rw [if_pos rfl] at H; exact H
    clear H
    have H := H1
    clear H1
    replace H := Option.bind_eq_some_iff.mp H
    obtain ⟨t125, A30, H⟩ := H
    replace H : (if t125 = true then (some false) else ((access_May.f k y120 1 (⟨#[97]⟩ : ByteArray) 0 false (⟨#[97]⟩ : ByteArray) 3).bind fun t126 => (if t126 = true then ((access_Holds.f k y120 1 (⟨#[97]⟩ : ByteArray) 0 false (⟨#[97]⟩ : ByteArray)).bind fun t127 => (if t127 = true then ((access_Type.f 6).bind fun t128 => (some t128)) else (some false))) else (some false)))) = some r := H
    have A3 := Aside0.mk A30
    clear A30
    by_cases c4 : t125 = true
    · subst c4
      have H1 : (some false) = some r := by rw [if_pos rfl] at H; exact H
      clear H
      have H := H1
      clear H1
      obtain rfl := Option.some.inj H
      go_enter Tryd.func9, Tryd.ntmps9
      go_wp2_with (first | ((with_reducible refine gate_dst (N := 4) rfl ?_); refine Kd.R_lit k37 _ 37 ?hg (N := 4) ?hd (xs := ([(⟨(⟨#[97]⟩ : ByteArray), 1⟩ : S37), (⟨(⟨#[98]⟩ : ByteArray), 2⟩ : S37)] : List (S37))) (inner := [.string (⟨#[97]⟩ : ByteArray), .int .u64 1, .string (⟨#[98]⟩ : ByteArray), .int .u64 2]) (ok := fun _ => True) (okp := fun _ => True) ?hr ?hp (fun _ hk => hk) trivial (Below.refl _ _) (Nat.le_refl _) (by simp) ?_; (case hd => rfl); (case hg => rfl); (case hr => first | (go_simp; done) | (go_simp; rfl)); (case hp => exact (Reps.c2 (show Kd.M k37 _ _ _ (⟨(⟨#[97]⟩ : ByteArray), 1⟩ : S37) [.string (⟨#[97]⟩ : ByteArray), .int .u64 1] from (k37_mkM _ _ _ (⟨(⟨#[97]⟩ : ByteArray), 1⟩ : S37) )) (Reps.c2 (show Kd.M k37 _ _ _ (⟨(⟨#[98]⟩ : ByteArray), 2⟩ : S37) [.string (⟨#[98]⟩ : ByteArray), .int .u64 2] from (k37_mkM _ _ _ (⟨(⟨#[98]⟩ : ByteArray), 2⟩ : S37) )) (Reps.none _ _)))); intro v121 w5 ho6 hb hg_ hnew_; clear hg_ hnew_; (first | rw [← Ny120.out] at ho6 | (simp only [Int.reduceToNat] at ho6; rw [← Ny120.out] at ho6)); have n0_ := Aside0.mk (Kd.R_lower ho6 (below_size (by repeat (first | (with_reducible first | exact HB.out | apply below_alloc | apply pw_below_drewN | apply below_drew1) | exact HB.out)))); have n1_ := Aside0.mk (below_step (by repeat (first | (with_reducible first | exact HB.out | apply below_alloc | apply pw_below_drewN | apply below_drew1) | exact HB.out)) hb); clear HB; have HO122 := n0_; have HB := n1_; clear n0_ n1_; clear hb ho6; obtain ⟨Ao7, co7, eo7⟩ := Kd.R_slice HO122.out; subst eo7) | ((with_reducible refine gate_dst (N := 1) rfl ?_); refine box_event ?hg (N := 1) ?hd (cs := #[.slice none 0 0, .int .i64 0, .string (⟨#[]⟩ : ByteArray), .int .u32 0, .bool false]) (t := 27) ?hr ?_; (case hd => rfl); (case hg => rfl); (case hr => first | (go_simp; done) | (go_simp; rfl)); intro gb123 hg w8 hbox hb; have n0_ := Aside0.mk (Kd.R_below (by (with_reducible repeat (first | apply Kd.R_alloc | apply Kd.R_drewN | apply Kd.R_drew)); exact HO122.out) hb); have n1_ := Aside0.mk (below_step (by repeat (first | (with_reducible first | exact HB.out | apply below_alloc | apply pw_below_drewN | apply below_drew1) | exact HB.out)) hb); have n2_ := Aside0.mk (hbox); have n3_ := Aside0.mk ((by rw [hg]; exact (below_size (by repeat (first | (with_reducible first | exact HB.out | apply below_alloc | apply pw_below_drewN | apply below_drew1) | exact HB.out))) : w.heap.size ≤ gb123)); have n4_ := Aside0.mk ((by rw [hg]; exact (below_size (by repeat (first | (with_reducible first | exact HB.out | apply below_alloc | apply pw_below_drewN | apply below_drew1) | exact HB.out))) : w.heap.size ≤ gb123)); clear HO122; clear HB; have HO122 := n0_; have HB := n1_; have BK123 := n2_; have GW123 := n3_; have GE123 := n4_; clear n0_ n1_ n2_ n3_ n4_; clear hb hbox hg; have hcz9_0 : w8.cell? ⟨gb123, 0, none⟩ = some (.slice none 0 0) := (blk_cell BK123.out 0).trans rfl; have hcz9_1 : w8.cell? ⟨gb123, 1, none⟩ = some (.int .i64 0) := (blk_cell BK123.out 1).trans rfl; have hcz9_2 : w8.cell? ⟨gb123, 2, none⟩ = some (.string (⟨#[]⟩ : ByteArray)) := (blk_cell BK123.out 2).trans rfl; have hcz9_3 : w8.cell? ⟨gb123, 3, none⟩ = some (.int .u32 0) := (blk_cell BK123.out 3).trans rfl; have hcz9_4 : w8.cell? ⟨gb123, 4, none⟩ = some (.bool false) := (blk_cell BK123.out 4).trans rfl; have hfz9_0 := blk_frozen BK123.out 0; have hfz9_1 := blk_frozen BK123.out 1; have hfz9_2 := blk_frozen BK123.out 2; have hfz9_3 := blk_frozen BK123.out 3; have hfz9_4 := blk_frozen BK123.out 4) | ((with_reducible refine gate_callee (f := 13) rfl ?_); refine goesL_ (some 8) rfl rfl Tryd.func13 (by kernel_rfl) rfl #[.agg #[.slice Ao7 y120.length co7, .int .i64 1, .string (⟨#[97]⟩ : ByteArray), .int .u32 0, .bool false], .string (⟨#[98]⟩ : ByteArray), .int .i64 2] rfl (by (try simp only [List.map_toArray, List.map_cons, List.map_nil]); first | done | rfl | (simp only [List.length_drop, List.length_take]; rfl)) ?_; (with_reducible refine (access_May.calls k _ _ y120 1 (⟨#[97]⟩ : ByteArray) 0 false (⟨#[98]⟩ : ByteArray) 2 true _ ?side1 ?side2 ?side3 A1.out).mono ?_); (case side1 => refine (Kd.R_reads' (e := 37) (base := w.heap.size) (ok := fun k_ => True) (n := y120.length) (c := co7) ?_).2.2; exact (by (with_reducible repeat (first | apply Kd.R_alloc | apply Kd.R_drewN | apply Kd.R_drew)); exact (Kd.R_mono (Kd.R_far (p := ⟨gb123, 4, none⟩) (Kd.R_far (p := ⟨gb123, 3, none⟩) (Kd.R_far (p := ⟨gb123, 2, none⟩) (Kd.R_far (p := ⟨gb123, 1, none⟩) (Kd.R_far (p := ⟨gb123, 0, none⟩) (Kd.R_types HO122.out BK123.out (by decide)) (fun _ hk => hk.2) (.slice Ao7 y120.length co7)) (fun _ hk => hk.2) (.int .i64 1)) (fun _ hk => hk.2) (.string (⟨#[97]⟩ : ByteArray))) (fun _ hk => hk.2) (.int .u32 0)) (fun _ hk => hk.2) (.bool false)) (fun _ h_ => h_.1)))); (case side2 => exact (Kd.R_reads' HO122.out).2.1); (case side3 => first | ((refine Glob.keep HG.out ?_); (repeat (first | (with_reducible first | exact HB.out | apply below_alloc | apply pw_below_drewN | apply below_drew1 | refine below_set ?_ GE123.out) | exact HB.out)); done) | exact HG.out); rintro e w10 ⟨rfl, hb⟩; refine ⟨_, rfl, ?_⟩; have n0_ := Aside0.mk (Kd.R_below (by (with_reducible repeat (first | apply Kd.R_alloc | apply Kd.R_drewN | apply Kd.R_drew)); exact (Kd.R_mono (Kd.R_far (p := ⟨gb123, 4, none⟩) (Kd.R_far (p := ⟨gb123, 3, none⟩) (Kd.R_far (p := ⟨gb123, 2, none⟩) (Kd.R_far (p := ⟨gb123, 1, none⟩) (Kd.R_far (p := ⟨gb123, 0, none⟩) (Kd.R_types HO122.out BK123.out (by decide)) (fun _ hk => hk.2) (.slice Ao7 y120.length co7)) (fun _ hk => hk.2) (.int .i64 1)) (fun _ hk => hk.2) (.string (⟨#[97]⟩ : ByteArray))) (fun _ hk => hk.2) (.int .u32 0)) (fun _ hk => hk.2) (.bool false)) (fun _ h_ => h_.1))) hb); have n1_ := Aside0.mk (blk_below (g := gb123) (o := .cells #[.slice Ao7 y120.length co7, .int .i64 1, .string (⟨#[97]⟩ : ByteArray), .int .u32 0, .bool false] 27 (0, 0)) (by (with_reducible repeat (first | refine blk_drewN ?_ _ | refine blk_drew ?_ | refine blk_alloc ?_ _)); refine blk_put (cs := #[.slice Ao7 y120.length co7, .int .i64 1, .string (⟨#[97]⟩ : ByteArray), .int .u32 0, .bool false]) ?_ 4 _ rfl; (with_reducible repeat (first | refine blk_drewN ?_ _ | refine blk_drew ?_ | refine blk_alloc ?_ _)); refine blk_put (cs := #[.slice Ao7 y120.length co7, .int .i64 1, .string (⟨#[97]⟩ : ByteArray), .int .u32 0, .bool false]) ?_ 3 _ rfl; (with_reducible repeat (first | refine blk_drewN ?_ _ | refine blk_drew ?_ | refine blk_alloc ?_ _)); refine blk_put (cs := #[.slice Ao7 y120.length co7, .int .i64 1, .string (⟨#[]⟩ : ByteArray), .int .u32 0, .bool false]) ?_ 2 _ rfl; (with_reducible repeat (first | refine blk_drewN ?_ _ | refine blk_drew ?_ | refine blk_alloc ?_ _)); refine blk_put (cs := #[.slice Ao7 y120.length co7, .int .i64 0, .string (⟨#[]⟩ : ByteArray), .int .u32 0, .bool false]) ?_ 1 _ rfl; (with_reducible repeat (first | refine blk_drewN ?_ _ | refine blk_drew ?_ | refine blk_alloc ?_ _)); refine blk_put (cs := #[.slice none 0 0, .int .i64 0, .string (⟨#[]⟩ : ByteArray), .int .u32 0, .bool false]) ?_ 0 _ rfl; (with_reducible repeat (first | refine blk_drewN ?_ _ | refine blk_drew ?_ | refine blk_alloc ?_ _)); exact BK123.out) hb); have n2_ := Aside0.mk (below_step (by repeat (first | (with_reducible first | exact HB.out | apply below_alloc | apply pw_below_drewN | apply below_drew1 | refine below_set ?_ GE123.out) | exact HB.out)) hb); clear HO122; clear BK123; clear HB; have HO122 := n0_; have BK123 := n1_; have HB := n2_; clear n0_ n1_ n2_; (try clear hb); (try clear hb2); (try clear hk); (try clear hi); have hcz11_0 : w10.cell? ⟨gb123, 0, none⟩ = some (.slice Ao7 y120.length co7) := (blk_cell BK123.out 0).trans rfl; have hcz11_1 : w10.cell? ⟨gb123, 1, none⟩ = some (.int .i64 1) := (blk_cell BK123.out 1).trans rfl; have hcz11_2 : w10.cell? ⟨gb123, 2, none⟩ = some (.string (⟨#[97]⟩ : ByteArray)) := (blk_cell BK123.out 2).trans rfl; have hcz11_3 : w10.cell? ⟨gb123, 3, none⟩ = some (.int .u32 0) := (blk_cell BK123.out 3).trans rfl; have hcz11_4 : w10.cell? ⟨gb123, 4, none⟩ = some (.bool false) := (blk_cell BK123.out 4).trans rfl; have hfz11_0 := blk_frozen BK123.out 0; have hfz11_1 := blk_frozen BK123.out 1; have hfz11_2 := blk_frozen BK123.out 2; have hfz11_3 := blk_frozen BK123.out 3; have hfz11_4 := blk_frozen BK123.out 4) | (go_at_call 13; (with_reducible refine (access_May.calls k _ _ y120 1 (⟨#[97]⟩ : ByteArray) 0 false (⟨#[98]⟩ : ByteArray) 3 true _ ?side1 ?side2 ?side3 A3.out).mono ?_); (case side1 => repeat (first | exact (Kd.R_reads' HO122.out).2.2 | (with_reducible refine Kd.C_alloc ?_ _) | (with_reducible refine Kd.C_drewN ?_ _) | (with_reducible refine Kd.C_drew ?_))); (case side2 => exact (Kd.R_reads' HO122.out).2.1); (case side3 => first | ((refine Glob.keep HG.out ?_); (repeat (first | (with_reducible first | exact HB.out | apply below_alloc | apply pw_below_drewN | apply below_drew1 | refine below_set ?_ GE123.out) | exact HB.out)); done) | exact HG.out); rintro e w12 ⟨rfl, hb⟩; have n0_ := Aside0.mk (Kd.R_below (by (with_reducible repeat (first | apply Kd.R_alloc | apply Kd.R_drewN | apply Kd.R_drew)); exact HO122.out) hb); have n1_ := Aside0.mk (blk_below (g := gb123) (o := .cells #[.slice Ao7 y120.length co7, .int .i64 1, .string (⟨#[97]⟩ : ByteArray), .int .u32 0, .bool false] 27 (0, 0)) (by (with_reducible repeat (first | refine blk_drewN ?_ _ | refine blk_drew ?_ | refine blk_alloc ?_ _)); exact BK123.out) hb); have n2_ := Aside0.mk (below_step (by repeat (first | (with_reducible first | exact HB.out | apply below_alloc | apply pw_below_drewN | apply below_drew1 | refine below_set ?_ GE123.out) | exact HB.out)) hb); clear HO122; clear BK123; clear HB; have HO122 := n0_; have BK123 := n1_; have HB := n2_; clear n0_ n1_ n2_; (try clear hb); (try clear hb2); (try clear hk); (try clear hi)))
      go_ret
      exact ⟨by first | rfl | (simp [errW_none, errW_some] <;> rfl) | (simp [*, errW_none, errW_some] <;> rfl) | (simp [bt, *]; done) | (unfold bt; simp [*]; done), by repeat (first | (with_reducible first | exact HB.out | apply below_alloc | apply pw_below_drewN | apply below_drew1 | refine below_set ?_ GE123.out) | exact HB.out)⟩
    · replace c4 := Bool.eq_false_iff.mpr c4
      subst c4
      have H1 : ((access_May.f k y120 1 (⟨#[97]⟩ : ByteArray) 0 false (⟨#[97]⟩ : ByteArray) 3).bind fun t126 => (if t126 = true then ((access_Holds.f k y120 1 (⟨#[97]⟩ : ByteArray) 0 false (⟨#[97]⟩ : ByteArray)).bind fun t127 => (if t127 = true then ((access_Type.f 6).bind fun t128 => (some t128)) else (some false))) else (some false))) = some r := by rw [if_neg (show ¬ (false = true) by decide)] at H; exact H
      clear H
      have H := H1
      clear H1
      replace H := Option.bind_eq_some_iff.mp H
      obtain ⟨t126, A130, H⟩ := H
      replace H : (if t126 = true then ((access_Holds.f k y120 1 (⟨#[97]⟩ : ByteArray) 0 false (⟨#[97]⟩ : ByteArray)).bind fun t127 => (if t127 = true then ((access_Type.f 6).bind fun t128 => (some t128)) else (some false))) else (some false)) = some r := H
      have A13 := Aside0.mk A130
      clear A130
      by_cases c14 : t126 = true
      · subst c14
        have H1 : ((access_Holds.f k y120 1 (⟨#[97]⟩ : ByteArray) 0 false (⟨#[97]⟩ : ByteArray)).bind fun t127 => (if t127 = true then ((access_Type.f 6).bind fun t128 => (some t128)) else (some false))) = some r := by rw [if_pos rfl] at H; exact H
        clear H
        have H := H1
        clear H1
        replace H := Option.bind_eq_some_iff.mp H
        obtain ⟨t127, A150, H⟩ := H
        replace H : (if t127 = true then ((access_Type.f 6).bind fun t128 => (some t128)) else (some false)) = some r := H
        have A15 := Aside0.mk A150
        clear A150
        by_cases c16 : t127 = true
        · subst c16
          have H1 : ((access_Type.f 6).bind fun t128 => (some t128)) = some r := by rw [if_pos rfl] at H; exact H
          clear H
          have H := H1
          clear H1
          replace H := Option.bind_eq_some_iff.mp H
          obtain ⟨t128, A170, H⟩ := H
          replace H : (some t128) = some r := H
          have A17 := Aside0.mk A170
          clear A170
          obtain rfl := Option.some.inj H
          go_enter Tryd.func9, Tryd.ntmps9
          go_wp2_with (first | ((with_reducible refine gate_dst (N := 4) rfl ?_); refine Kd.R_lit k37 _ 37 ?hg (N := 4) ?hd (xs := ([(⟨(⟨#[97]⟩ : ByteArray), 1⟩ : S37), (⟨(⟨#[98]⟩ : ByteArray), 2⟩ : S37)] : List (S37))) (inner := [.string (⟨#[97]⟩ : ByteArray), .int .u64 1, .string (⟨#[98]⟩ : ByteArray), .int .u64 2]) (ok := fun _ => True) (okp := fun _ => True) ?hr ?hp (fun _ hk => hk) trivial (Below.refl _ _) (Nat.le_refl _) (by simp) ?_; (case hd => rfl); (case hg => rfl); (case hr => first | (go_simp; done) | (go_simp; rfl)); (case hp => exact (Reps.c2 (show Kd.M k37 _ _ _ (⟨(⟨#[97]⟩ : ByteArray), 1⟩ : S37) [.string (⟨#[97]⟩ : ByteArray), .int .u64 1] from (k37_mkM _ _ _ (⟨(⟨#[97]⟩ : ByteArray), 1⟩ : S37) )) (Reps.c2 (show Kd.M k37 _ _ _ (⟨(⟨#[98]⟩ : ByteArray), 2⟩ : S37) [.string (⟨#[98]⟩ : ByteArray), .int .u64 2] from (k37_mkM _ _ _ (⟨(⟨#[98]⟩ : ByteArray), 2⟩ : S37) )) (Reps.none _ _)))); intro v121 w18 ho19 hb hg_ hnew_; clear hg_ hnew_; (first | rw [← Ny120.out] at ho19 | (simp only [Int.reduceToNat] at ho19; rw [← Ny120.out] at ho19)); have n0_ := Aside0.mk (Kd.R_lower ho19 (below_size (by repeat (first | (with_reducible first | exact HB.out | apply below_alloc | apply pw_below_drewN | apply below_drew1) | exact HB.out)))); have n1_ := Aside0.mk (below_step (by repeat (first | (with_reducible first | exact HB.out | apply below_alloc | apply pw_below_drewN | apply below_drew1) | exact HB.out)) hb); clear HB; have HO122 := n0_; have HB := n1_; clear n0_ n1_; clear hb ho19; obtain ⟨Ao20, co20, eo20⟩ := Kd.R_slice HO122.out; subst eo20) | ((with_reducible refine gate_dst (N := 1) rfl ?_); refine box_event ?hg (N := 1) ?hd (cs := #[.slice none 0 0, .int .i64 0, .string (⟨#[]⟩ : ByteArray), .int .u32 0, .bool false]) (t := 27) ?hr ?_; (case hd => rfl); (case hg => rfl); (case hr => first | (go_simp; done) | (go_simp; rfl)); intro gb123 hg w21 hbox hb; have n0_ := Aside0.mk (Kd.R_below (by (with_reducible repeat (first | apply Kd.R_alloc | apply Kd.R_drewN | apply Kd.R_drew)); exact HO122.out) hb); have n1_ := Aside0.mk (below_step (by repeat (first | (with_reducible first | exact HB.out | apply below_alloc | apply pw_below_drewN | apply below_drew1) | exact HB.out)) hb); have n2_ := Aside0.mk (hbox); have n3_ := Aside0.mk ((by rw [hg]; exact (below_size (by repeat (first | (with_reducible first | exact HB.out | apply below_alloc | apply pw_below_drewN | apply below_drew1) | exact HB.out))) : w.heap.size ≤ gb123)); have n4_ := Aside0.mk ((by rw [hg]; exact (below_size (by repeat (first | (with_reducible first | exact HB.out | apply below_alloc | apply pw_below_drewN | apply below_drew1) | exact HB.out))) : w.heap.size ≤ gb123)); clear HO122; clear HB; have HO122 := n0_; have HB := n1_; have BK123 := n2_; have GW123 := n3_; have GE123 := n4_; clear n0_ n1_ n2_ n3_ n4_; clear hb hbox hg; have hcz22_0 : w21.cell? ⟨gb123, 0, none⟩ = some (.slice none 0 0) := (blk_cell BK123.out 0).trans rfl; have hcz22_1 : w21.cell? ⟨gb123, 1, none⟩ = some (.int .i64 0) := (blk_cell BK123.out 1).trans rfl; have hcz22_2 : w21.cell? ⟨gb123, 2, none⟩ = some (.string (⟨#[]⟩ : ByteArray)) := (blk_cell BK123.out 2).trans rfl; have hcz22_3 : w21.cell? ⟨gb123, 3, none⟩ = some (.int .u32 0) := (blk_cell BK123.out 3).trans rfl; have hcz22_4 : w21.cell? ⟨gb123, 4, none⟩ = some (.bool false) := (blk_cell BK123.out 4).trans rfl; have hfz22_0 := blk_frozen BK123.out 0; have hfz22_1 := blk_frozen BK123.out 1; have hfz22_2 := blk_frozen BK123.out 2; have hfz22_3 := blk_frozen BK123.out 3; have hfz22_4 := blk_frozen BK123.out 4) | ((with_reducible refine gate_callee (f := 13) rfl ?_); refine goesL_ (some 8) rfl rfl Tryd.func13 (by kernel_rfl) rfl #[.agg #[.slice Ao20 y120.length co20, .int .i64 1, .string (⟨#[97]⟩ : ByteArray), .int .u32 0, .bool false], .string (⟨#[98]⟩ : ByteArray), .int .i64 2] rfl (by (try simp only [List.map_toArray, List.map_cons, List.map_nil]); first | done | rfl | (simp only [List.length_drop, List.length_take]; rfl)) ?_; (with_reducible refine (access_May.calls k _ _ y120 1 (⟨#[97]⟩ : ByteArray) 0 false (⟨#[98]⟩ : ByteArray) 2 true _ ?side1 ?side2 ?side3 A1.out).mono ?_); (case side1 => refine (Kd.R_reads' (e := 37) (base := w.heap.size) (ok := fun k_ => True) (n := y120.length) (c := co20) ?_).2.2; exact (by (with_reducible repeat (first | apply Kd.R_alloc | apply Kd.R_drewN | apply Kd.R_drew)); exact (Kd.R_mono (Kd.R_far (p := ⟨gb123, 4, none⟩) (Kd.R_far (p := ⟨gb123, 3, none⟩) (Kd.R_far (p := ⟨gb123, 2, none⟩) (Kd.R_far (p := ⟨gb123, 1, none⟩) (Kd.R_far (p := ⟨gb123, 0, none⟩) (Kd.R_types HO122.out BK123.out (by decide)) (fun _ hk => hk.2) (.slice Ao20 y120.length co20)) (fun _ hk => hk.2) (.int .i64 1)) (fun _ hk => hk.2) (.string (⟨#[97]⟩ : ByteArray))) (fun _ hk => hk.2) (.int .u32 0)) (fun _ hk => hk.2) (.bool false)) (fun _ h_ => h_.1)))); (case side2 => exact (Kd.R_reads' HO122.out).2.1); (case side3 => first | ((refine Glob.keep HG.out ?_); (repeat (first | (with_reducible first | exact HB.out | apply below_alloc | apply pw_below_drewN | apply below_drew1 | refine below_set ?_ GE123.out) | exact HB.out)); done) | exact HG.out); rintro e w23 ⟨rfl, hb⟩; refine ⟨_, rfl, ?_⟩; have n0_ := Aside0.mk (Kd.R_below (by (with_reducible repeat (first | apply Kd.R_alloc | apply Kd.R_drewN | apply Kd.R_drew)); exact (Kd.R_mono (Kd.R_far (p := ⟨gb123, 4, none⟩) (Kd.R_far (p := ⟨gb123, 3, none⟩) (Kd.R_far (p := ⟨gb123, 2, none⟩) (Kd.R_far (p := ⟨gb123, 1, none⟩) (Kd.R_far (p := ⟨gb123, 0, none⟩) (Kd.R_types HO122.out BK123.out (by decide)) (fun _ hk => hk.2) (.slice Ao20 y120.length co20)) (fun _ hk => hk.2) (.int .i64 1)) (fun _ hk => hk.2) (.string (⟨#[97]⟩ : ByteArray))) (fun _ hk => hk.2) (.int .u32 0)) (fun _ hk => hk.2) (.bool false)) (fun _ h_ => h_.1))) hb); have n1_ := Aside0.mk (blk_below (g := gb123) (o := .cells #[.slice Ao20 y120.length co20, .int .i64 1, .string (⟨#[97]⟩ : ByteArray), .int .u32 0, .bool false] 27 (0, 0)) (by (with_reducible repeat (first | refine blk_drewN ?_ _ | refine blk_drew ?_ | refine blk_alloc ?_ _)); refine blk_put (cs := #[.slice Ao20 y120.length co20, .int .i64 1, .string (⟨#[97]⟩ : ByteArray), .int .u32 0, .bool false]) ?_ 4 _ rfl; (with_reducible repeat (first | refine blk_drewN ?_ _ | refine blk_drew ?_ | refine blk_alloc ?_ _)); refine blk_put (cs := #[.slice Ao20 y120.length co20, .int .i64 1, .string (⟨#[97]⟩ : ByteArray), .int .u32 0, .bool false]) ?_ 3 _ rfl; (with_reducible repeat (first | refine blk_drewN ?_ _ | refine blk_drew ?_ | refine blk_alloc ?_ _)); refine blk_put (cs := #[.slice Ao20 y120.length co20, .int .i64 1, .string (⟨#[]⟩ : ByteArray), .int .u32 0, .bool false]) ?_ 2 _ rfl; (with_reducible repeat (first | refine blk_drewN ?_ _ | refine blk_drew ?_ | refine blk_alloc ?_ _)); refine blk_put (cs := #[.slice Ao20 y120.length co20, .int .i64 0, .string (⟨#[]⟩ : ByteArray), .int .u32 0, .bool false]) ?_ 1 _ rfl; (with_reducible repeat (first | refine blk_drewN ?_ _ | refine blk_drew ?_ | refine blk_alloc ?_ _)); refine blk_put (cs := #[.slice none 0 0, .int .i64 0, .string (⟨#[]⟩ : ByteArray), .int .u32 0, .bool false]) ?_ 0 _ rfl; (with_reducible repeat (first | refine blk_drewN ?_ _ | refine blk_drew ?_ | refine blk_alloc ?_ _)); exact BK123.out) hb); have n2_ := Aside0.mk (below_step (by repeat (first | (with_reducible first | exact HB.out | apply below_alloc | apply pw_below_drewN | apply below_drew1 | refine below_set ?_ GE123.out) | exact HB.out)) hb); clear HO122; clear BK123; clear HB; have HO122 := n0_; have BK123 := n1_; have HB := n2_; clear n0_ n1_ n2_; (try clear hb); (try clear hb2); (try clear hk); (try clear hi); have hcz24_0 : w23.cell? ⟨gb123, 0, none⟩ = some (.slice Ao20 y120.length co20) := (blk_cell BK123.out 0).trans rfl; have hcz24_1 : w23.cell? ⟨gb123, 1, none⟩ = some (.int .i64 1) := (blk_cell BK123.out 1).trans rfl; have hcz24_2 : w23.cell? ⟨gb123, 2, none⟩ = some (.string (⟨#[97]⟩ : ByteArray)) := (blk_cell BK123.out 2).trans rfl; have hcz24_3 : w23.cell? ⟨gb123, 3, none⟩ = some (.int .u32 0) := (blk_cell BK123.out 3).trans rfl; have hcz24_4 : w23.cell? ⟨gb123, 4, none⟩ = some (.bool false) := (blk_cell BK123.out 4).trans rfl; have hfz24_0 := blk_frozen BK123.out 0; have hfz24_1 := blk_frozen BK123.out 1; have hfz24_2 := blk_frozen BK123.out 2; have hfz24_3 := blk_frozen BK123.out 3; have hfz24_4 := blk_frozen BK123.out 4) | (go_at_call 13; (with_reducible refine (access_May.calls k _ _ y120 1 (⟨#[97]⟩ : ByteArray) 0 false (⟨#[98]⟩ : ByteArray) 3 false _ ?side1 ?side2 ?side3 A3.out).mono ?_); (case side1 => repeat (first | exact (Kd.R_reads' HO122.out).2.2 | (with_reducible refine Kd.C_alloc ?_ _) | (with_reducible refine Kd.C_drewN ?_ _) | (with_reducible refine Kd.C_drew ?_))); (case side2 => exact (Kd.R_reads' HO122.out).2.1); (case side3 => first | ((refine Glob.keep HG.out ?_); (repeat (first | (with_reducible first | exact HB.out | apply below_alloc | apply pw_below_drewN | apply below_drew1 | refine below_set ?_ GE123.out) | exact HB.out)); done) | exact HG.out); rintro e w25 ⟨rfl, hb⟩; have n0_ := Aside0.mk (Kd.R_below (by (with_reducible repeat (first | apply Kd.R_alloc | apply Kd.R_drewN | apply Kd.R_drew)); exact HO122.out) hb); have n1_ := Aside0.mk (blk_below (g := gb123) (o := .cells #[.slice Ao20 y120.length co20, .int .i64 1, .string (⟨#[97]⟩ : ByteArray), .int .u32 0, .bool false] 27 (0, 0)) (by (with_reducible repeat (first | refine blk_drewN ?_ _ | refine blk_drew ?_ | refine blk_alloc ?_ _)); exact BK123.out) hb); have n2_ := Aside0.mk (below_step (by repeat (first | (with_reducible first | exact HB.out | apply below_alloc | apply pw_below_drewN | apply below_drew1 | refine below_set ?_ GE123.out) | exact HB.out)) hb); clear HO122; clear BK123; clear HB; have HO122 := n0_; have BK123 := n1_; have HB := n2_; clear n0_ n1_ n2_; (try clear hb); (try clear hb2); (try clear hk); (try clear hi); have hcz26_0 : w25.cell? ⟨gb123, 0, none⟩ = some (.slice Ao20 y120.length co20) := (blk_cell BK123.out 0).trans rfl; have hcz26_1 : w25.cell? ⟨gb123, 1, none⟩ = some (.int .i64 1) := (blk_cell BK123.out 1).trans rfl; have hcz26_2 : w25.cell? ⟨gb123, 2, none⟩ = some (.string (⟨#[97]⟩ : ByteArray)) := (blk_cell BK123.out 2).trans rfl; have hcz26_3 : w25.cell? ⟨gb123, 3, none⟩ = some (.int .u32 0) := (blk_cell BK123.out 3).trans rfl; have hcz26_4 : w25.cell? ⟨gb123, 4, none⟩ = some (.bool false) := (blk_cell BK123.out 4).trans rfl; have hfz26_0 := blk_frozen BK123.out 0; have hfz26_1 := blk_frozen BK123.out 1; have hfz26_2 := blk_frozen BK123.out 2; have hfz26_3 := blk_frozen BK123.out 3; have hfz26_4 := blk_frozen BK123.out 4) | (go_at_call 13; (with_reducible refine (access_May.calls k _ _ y120 1 (⟨#[97]⟩ : ByteArray) 0 false (⟨#[97]⟩ : ByteArray) 3 true _ ?side1 ?side2 ?side3 A13.out).mono ?_); (case side1 => repeat (first | exact (Kd.R_reads' HO122.out).2.2 | (with_reducible refine Kd.C_alloc ?_ _) | (with_reducible refine Kd.C_drewN ?_ _) | (with_reducible refine Kd.C_drew ?_))); (case side2 => exact (Kd.R_reads' HO122.out).2.1); (case side3 => first | ((refine Glob.keep HG.out ?_); (repeat (first | (with_reducible first | exact HB.out | apply below_alloc | apply pw_below_drewN | apply below_drew1 | refine below_set ?_ GE123.out) | exact HB.out)); done) | exact HG.out); rintro e w27 ⟨rfl, hb⟩; have n0_ := Aside0.mk (Kd.R_below (by (with_reducible repeat (first | apply Kd.R_alloc | apply Kd.R_drewN | apply Kd.R_drew)); exact HO122.out) hb); have n1_ := Aside0.mk (blk_below (g := gb123) (o := .cells #[.slice Ao20 y120.length co20, .int .i64 1, .string (⟨#[97]⟩ : ByteArray), .int .u32 0, .bool false] 27 (0, 0)) (by (with_reducible repeat (first | refine blk_drewN ?_ _ | refine blk_drew ?_ | refine blk_alloc ?_ _)); exact BK123.out) hb); have n2_ := Aside0.mk (below_step (by repeat (first | (with_reducible first | exact HB.out | apply below_alloc | apply pw_below_drewN | apply below_drew1 | refine below_set ?_ GE123.out) | exact HB.out)) hb); clear HO122; clear BK123; clear HB; have HO122 := n0_; have BK123 := n1_; have HB := n2_; clear n0_ n1_ n2_; (try clear hb); (try clear hb2); (try clear hk); (try clear hi); have hcz28_0 : w27.cell? ⟨gb123, 0, none⟩ = some (.slice Ao20 y120.length co20) := (blk_cell BK123.out 0).trans rfl; have hcz28_1 : w27.cell? ⟨gb123, 1, none⟩ = some (.int .i64 1) := (blk_cell BK123.out 1).trans rfl; have hcz28_2 : w27.cell? ⟨gb123, 2, none⟩ = some (.string (⟨#[97]⟩ : ByteArray)) := (blk_cell BK123.out 2).trans rfl; have hcz28_3 : w27.cell? ⟨gb123, 3, none⟩ = some (.int .u32 0) := (blk_cell BK123.out 3).trans rfl; have hcz28_4 : w27.cell? ⟨gb123, 4, none⟩ = some (.bool false) := (blk_cell BK123.out 4).trans rfl; have hfz28_0 := blk_frozen BK123.out 0; have hfz28_1 := blk_frozen BK123.out 1; have hfz28_2 := blk_frozen BK123.out 2; have hfz28_3 := blk_frozen BK123.out 3; have hfz28_4 := blk_frozen BK123.out 4) | (go_at_call 11; (with_reducible refine (access_Holds.calls k _ _ y120 1 (⟨#[97]⟩ : ByteArray) 0 false (⟨#[97]⟩ : ByteArray) true _ ?side1 ?side2 ?side3 A15.out).mono ?_); (case side1 => repeat (first | exact (Kd.R_reads' HO122.out).2.2 | (with_reducible refine Kd.C_alloc ?_ _) | (with_reducible refine Kd.C_drewN ?_ _) | (with_reducible refine Kd.C_drew ?_))); (case side2 => exact (Kd.R_reads' HO122.out).2.1); (case side3 => first | ((refine Glob.keep HG.out ?_); (repeat (first | (with_reducible first | exact HB.out | apply below_alloc | apply pw_below_drewN | apply below_drew1 | refine below_set ?_ GE123.out) | exact HB.out)); done) | exact HG.out); rintro e w29 ⟨rfl, hb⟩; have n0_ := Aside0.mk (Kd.R_below (by (with_reducible repeat (first | apply Kd.R_alloc | apply Kd.R_drewN | apply Kd.R_drew)); exact HO122.out) hb); have n1_ := Aside0.mk (blk_below (g := gb123) (o := .cells #[.slice Ao20 y120.length co20, .int .i64 1, .string (⟨#[97]⟩ : ByteArray), .int .u32 0, .bool false] 27 (0, 0)) (by (with_reducible repeat (first | refine blk_drewN ?_ _ | refine blk_drew ?_ | refine blk_alloc ?_ _)); exact BK123.out) hb); have n2_ := Aside0.mk (below_step (by repeat (first | (with_reducible first | exact HB.out | apply below_alloc | apply pw_below_drewN | apply below_drew1 | refine below_set ?_ GE123.out) | exact HB.out)) hb); clear HO122; clear BK123; clear HB; have HO122 := n0_; have BK123 := n1_; have HB := n2_; clear n0_ n1_ n2_; (try clear hb); (try clear hb2); (try clear hk); (try clear hi)) | (go_at_call 16; (with_reducible refine (access_Type.calls 6 t128 _ A17.out).mono ?_); rintro e w' ⟨rfl, ⟨nd, rfl⟩⟩))
          go_ret
          exact ⟨by first | rfl | (simp [errW_none, errW_some] <;> rfl) | (simp [*, errW_none, errW_some] <;> rfl) | (simp [bt, *]; done) | (unfold bt; simp [*]; done), by repeat (first | (with_reducible first | exact HB.out | apply below_alloc | apply pw_below_drewN | apply below_drew1 | refine below_set ?_ GE123.out) | exact HB.out)⟩
        · replace c16 := Bool.eq_false_iff.mpr c16
          subst c16
          have H1 : (some false) = some r := by rw [if_neg (show ¬ (false = true) by decide)] at H; exact H
          clear H
          have H := H1
          clear H1
          obtain rfl := Option.some.inj H
          go_enter Tryd.func9, Tryd.ntmps9
          go_wp2_with (first | ((with_reducible refine gate_dst (N := 4) rfl ?_); refine Kd.R_lit k37 _ 37 ?hg (N := 4) ?hd (xs := ([(⟨(⟨#[97]⟩ : ByteArray), 1⟩ : S37), (⟨(⟨#[98]⟩ : ByteArray), 2⟩ : S37)] : List (S37))) (inner := [.string (⟨#[97]⟩ : ByteArray), .int .u64 1, .string (⟨#[98]⟩ : ByteArray), .int .u64 2]) (ok := fun _ => True) (okp := fun _ => True) ?hr ?hp (fun _ hk => hk) trivial (Below.refl _ _) (Nat.le_refl _) (by simp) ?_; (case hd => rfl); (case hg => rfl); (case hr => first | (go_simp; done) | (go_simp; rfl)); (case hp => exact (Reps.c2 (show Kd.M k37 _ _ _ (⟨(⟨#[97]⟩ : ByteArray), 1⟩ : S37) [.string (⟨#[97]⟩ : ByteArray), .int .u64 1] from (k37_mkM _ _ _ (⟨(⟨#[97]⟩ : ByteArray), 1⟩ : S37) )) (Reps.c2 (show Kd.M k37 _ _ _ (⟨(⟨#[98]⟩ : ByteArray), 2⟩ : S37) [.string (⟨#[98]⟩ : ByteArray), .int .u64 2] from (k37_mkM _ _ _ (⟨(⟨#[98]⟩ : ByteArray), 2⟩ : S37) )) (Reps.none _ _)))); intro v121 w30 ho31 hb hg_ hnew_; clear hg_ hnew_; (first | rw [← Ny120.out] at ho31 | (simp only [Int.reduceToNat] at ho31; rw [← Ny120.out] at ho31)); have n0_ := Aside0.mk (Kd.R_lower ho31 (below_size (by repeat (first | (with_reducible first | exact HB.out | apply below_alloc | apply pw_below_drewN | apply below_drew1) | exact HB.out)))); have n1_ := Aside0.mk (below_step (by repeat (first | (with_reducible first | exact HB.out | apply below_alloc | apply pw_below_drewN | apply below_drew1) | exact HB.out)) hb); clear HB; have HO122 := n0_; have HB := n1_; clear n0_ n1_; clear hb ho31; obtain ⟨Ao32, co32, eo32⟩ := Kd.R_slice HO122.out; subst eo32) | ((with_reducible refine gate_dst (N := 1) rfl ?_); refine box_event ?hg (N := 1) ?hd (cs := #[.slice none 0 0, .int .i64 0, .string (⟨#[]⟩ : ByteArray), .int .u32 0, .bool false]) (t := 27) ?hr ?_; (case hd => rfl); (case hg => rfl); (case hr => first | (go_simp; done) | (go_simp; rfl)); intro gb123 hg w33 hbox hb; have n0_ := Aside0.mk (Kd.R_below (by (with_reducible repeat (first | apply Kd.R_alloc | apply Kd.R_drewN | apply Kd.R_drew)); exact HO122.out) hb); have n1_ := Aside0.mk (below_step (by repeat (first | (with_reducible first | exact HB.out | apply below_alloc | apply pw_below_drewN | apply below_drew1) | exact HB.out)) hb); have n2_ := Aside0.mk (hbox); have n3_ := Aside0.mk ((by rw [hg]; exact (below_size (by repeat (first | (with_reducible first | exact HB.out | apply below_alloc | apply pw_below_drewN | apply below_drew1) | exact HB.out))) : w.heap.size ≤ gb123)); have n4_ := Aside0.mk ((by rw [hg]; exact (below_size (by repeat (first | (with_reducible first | exact HB.out | apply below_alloc | apply pw_below_drewN | apply below_drew1) | exact HB.out))) : w.heap.size ≤ gb123)); clear HO122; clear HB; have HO122 := n0_; have HB := n1_; have BK123 := n2_; have GW123 := n3_; have GE123 := n4_; clear n0_ n1_ n2_ n3_ n4_; clear hb hbox hg; have hcz34_0 : w33.cell? ⟨gb123, 0, none⟩ = some (.slice none 0 0) := (blk_cell BK123.out 0).trans rfl; have hcz34_1 : w33.cell? ⟨gb123, 1, none⟩ = some (.int .i64 0) := (blk_cell BK123.out 1).trans rfl; have hcz34_2 : w33.cell? ⟨gb123, 2, none⟩ = some (.string (⟨#[]⟩ : ByteArray)) := (blk_cell BK123.out 2).trans rfl; have hcz34_3 : w33.cell? ⟨gb123, 3, none⟩ = some (.int .u32 0) := (blk_cell BK123.out 3).trans rfl; have hcz34_4 : w33.cell? ⟨gb123, 4, none⟩ = some (.bool false) := (blk_cell BK123.out 4).trans rfl; have hfz34_0 := blk_frozen BK123.out 0; have hfz34_1 := blk_frozen BK123.out 1; have hfz34_2 := blk_frozen BK123.out 2; have hfz34_3 := blk_frozen BK123.out 3; have hfz34_4 := blk_frozen BK123.out 4) | ((with_reducible refine gate_callee (f := 13) rfl ?_); refine goesL_ (some 8) rfl rfl Tryd.func13 (by kernel_rfl) rfl #[.agg #[.slice Ao32 y120.length co32, .int .i64 1, .string (⟨#[97]⟩ : ByteArray), .int .u32 0, .bool false], .string (⟨#[98]⟩ : ByteArray), .int .i64 2] rfl (by (try simp only [List.map_toArray, List.map_cons, List.map_nil]); first | done | rfl | (simp only [List.length_drop, List.length_take]; rfl)) ?_; (with_reducible refine (access_May.calls k _ _ y120 1 (⟨#[97]⟩ : ByteArray) 0 false (⟨#[98]⟩ : ByteArray) 2 true _ ?side1 ?side2 ?side3 A1.out).mono ?_); (case side1 => refine (Kd.R_reads' (e := 37) (base := w.heap.size) (ok := fun k_ => True) (n := y120.length) (c := co32) ?_).2.2; exact (by (with_reducible repeat (first | apply Kd.R_alloc | apply Kd.R_drewN | apply Kd.R_drew)); exact (Kd.R_mono (Kd.R_far (p := ⟨gb123, 4, none⟩) (Kd.R_far (p := ⟨gb123, 3, none⟩) (Kd.R_far (p := ⟨gb123, 2, none⟩) (Kd.R_far (p := ⟨gb123, 1, none⟩) (Kd.R_far (p := ⟨gb123, 0, none⟩) (Kd.R_types HO122.out BK123.out (by decide)) (fun _ hk => hk.2) (.slice Ao32 y120.length co32)) (fun _ hk => hk.2) (.int .i64 1)) (fun _ hk => hk.2) (.string (⟨#[97]⟩ : ByteArray))) (fun _ hk => hk.2) (.int .u32 0)) (fun _ hk => hk.2) (.bool false)) (fun _ h_ => h_.1)))); (case side2 => exact (Kd.R_reads' HO122.out).2.1); (case side3 => first | ((refine Glob.keep HG.out ?_); (repeat (first | (with_reducible first | exact HB.out | apply below_alloc | apply pw_below_drewN | apply below_drew1 | refine below_set ?_ GE123.out) | exact HB.out)); done) | exact HG.out); rintro e w35 ⟨rfl, hb⟩; refine ⟨_, rfl, ?_⟩; have n0_ := Aside0.mk (Kd.R_below (by (with_reducible repeat (first | apply Kd.R_alloc | apply Kd.R_drewN | apply Kd.R_drew)); exact (Kd.R_mono (Kd.R_far (p := ⟨gb123, 4, none⟩) (Kd.R_far (p := ⟨gb123, 3, none⟩) (Kd.R_far (p := ⟨gb123, 2, none⟩) (Kd.R_far (p := ⟨gb123, 1, none⟩) (Kd.R_far (p := ⟨gb123, 0, none⟩) (Kd.R_types HO122.out BK123.out (by decide)) (fun _ hk => hk.2) (.slice Ao32 y120.length co32)) (fun _ hk => hk.2) (.int .i64 1)) (fun _ hk => hk.2) (.string (⟨#[97]⟩ : ByteArray))) (fun _ hk => hk.2) (.int .u32 0)) (fun _ hk => hk.2) (.bool false)) (fun _ h_ => h_.1))) hb); have n1_ := Aside0.mk (blk_below (g := gb123) (o := .cells #[.slice Ao32 y120.length co32, .int .i64 1, .string (⟨#[97]⟩ : ByteArray), .int .u32 0, .bool false] 27 (0, 0)) (by (with_reducible repeat (first | refine blk_drewN ?_ _ | refine blk_drew ?_ | refine blk_alloc ?_ _)); refine blk_put (cs := #[.slice Ao32 y120.length co32, .int .i64 1, .string (⟨#[97]⟩ : ByteArray), .int .u32 0, .bool false]) ?_ 4 _ rfl; (with_reducible repeat (first | refine blk_drewN ?_ _ | refine blk_drew ?_ | refine blk_alloc ?_ _)); refine blk_put (cs := #[.slice Ao32 y120.length co32, .int .i64 1, .string (⟨#[97]⟩ : ByteArray), .int .u32 0, .bool false]) ?_ 3 _ rfl; (with_reducible repeat (first | refine blk_drewN ?_ _ | refine blk_drew ?_ | refine blk_alloc ?_ _)); refine blk_put (cs := #[.slice Ao32 y120.length co32, .int .i64 1, .string (⟨#[]⟩ : ByteArray), .int .u32 0, .bool false]) ?_ 2 _ rfl; (with_reducible repeat (first | refine blk_drewN ?_ _ | refine blk_drew ?_ | refine blk_alloc ?_ _)); refine blk_put (cs := #[.slice Ao32 y120.length co32, .int .i64 0, .string (⟨#[]⟩ : ByteArray), .int .u32 0, .bool false]) ?_ 1 _ rfl; (with_reducible repeat (first | refine blk_drewN ?_ _ | refine blk_drew ?_ | refine blk_alloc ?_ _)); refine blk_put (cs := #[.slice none 0 0, .int .i64 0, .string (⟨#[]⟩ : ByteArray), .int .u32 0, .bool false]) ?_ 0 _ rfl; (with_reducible repeat (first | refine blk_drewN ?_ _ | refine blk_drew ?_ | refine blk_alloc ?_ _)); exact BK123.out) hb); have n2_ := Aside0.mk (below_step (by repeat (first | (with_reducible first | exact HB.out | apply below_alloc | apply pw_below_drewN | apply below_drew1 | refine below_set ?_ GE123.out) | exact HB.out)) hb); clear HO122; clear BK123; clear HB; have HO122 := n0_; have BK123 := n1_; have HB := n2_; clear n0_ n1_ n2_; (try clear hb); (try clear hb2); (try clear hk); (try clear hi); have hcz36_0 : w35.cell? ⟨gb123, 0, none⟩ = some (.slice Ao32 y120.length co32) := (blk_cell BK123.out 0).trans rfl; have hcz36_1 : w35.cell? ⟨gb123, 1, none⟩ = some (.int .i64 1) := (blk_cell BK123.out 1).trans rfl; have hcz36_2 : w35.cell? ⟨gb123, 2, none⟩ = some (.string (⟨#[97]⟩ : ByteArray)) := (blk_cell BK123.out 2).trans rfl; have hcz36_3 : w35.cell? ⟨gb123, 3, none⟩ = some (.int .u32 0) := (blk_cell BK123.out 3).trans rfl; have hcz36_4 : w35.cell? ⟨gb123, 4, none⟩ = some (.bool false) := (blk_cell BK123.out 4).trans rfl; have hfz36_0 := blk_frozen BK123.out 0; have hfz36_1 := blk_frozen BK123.out 1; have hfz36_2 := blk_frozen BK123.out 2; have hfz36_3 := blk_frozen BK123.out 3; have hfz36_4 := blk_frozen BK123.out 4) | (go_at_call 13; (with_reducible refine (access_May.calls k _ _ y120 1 (⟨#[97]⟩ : ByteArray) 0 false (⟨#[98]⟩ : ByteArray) 3 false _ ?side1 ?side2 ?side3 A3.out).mono ?_); (case side1 => repeat (first | exact (Kd.R_reads' HO122.out).2.2 | (with_reducible refine Kd.C_alloc ?_ _) | (with_reducible refine Kd.C_drewN ?_ _) | (with_reducible refine Kd.C_drew ?_))); (case side2 => exact (Kd.R_reads' HO122.out).2.1); (case side3 => first | ((refine Glob.keep HG.out ?_); (repeat (first | (with_reducible first | exact HB.out | apply below_alloc | apply pw_below_drewN | apply below_drew1 | refine below_set ?_ GE123.out) | exact HB.out)); done) | exact HG.out); rintro e w37 ⟨rfl, hb⟩; have n0_ := Aside0.mk (Kd.R_below (by (with_reducible repeat (first | apply Kd.R_alloc | apply Kd.R_drewN | apply Kd.R_drew)); exact HO122.out) hb); have n1_ := Aside0.mk (blk_below (g := gb123) (o := .cells #[.slice Ao32 y120.length co32, .int .i64 1, .string (⟨#[97]⟩ : ByteArray), .int .u32 0, .bool false] 27 (0, 0)) (by (with_reducible repeat (first | refine blk_drewN ?_ _ | refine blk_drew ?_ | refine blk_alloc ?_ _)); exact BK123.out) hb); have n2_ := Aside0.mk (below_step (by repeat (first | (with_reducible first | exact HB.out | apply below_alloc | apply pw_below_drewN | apply below_drew1 | refine below_set ?_ GE123.out) | exact HB.out)) hb); clear HO122; clear BK123; clear HB; have HO122 := n0_; have BK123 := n1_; have HB := n2_; clear n0_ n1_ n2_; (try clear hb); (try clear hb2); (try clear hk); (try clear hi); have hcz38_0 : w37.cell? ⟨gb123, 0, none⟩ = some (.slice Ao32 y120.length co32) := (blk_cell BK123.out 0).trans rfl; have hcz38_1 : w37.cell? ⟨gb123, 1, none⟩ = some (.int .i64 1) := (blk_cell BK123.out 1).trans rfl; have hcz38_2 : w37.cell? ⟨gb123, 2, none⟩ = some (.string (⟨#[97]⟩ : ByteArray)) := (blk_cell BK123.out 2).trans rfl; have hcz38_3 : w37.cell? ⟨gb123, 3, none⟩ = some (.int .u32 0) := (blk_cell BK123.out 3).trans rfl; have hcz38_4 : w37.cell? ⟨gb123, 4, none⟩ = some (.bool false) := (blk_cell BK123.out 4).trans rfl; have hfz38_0 := blk_frozen BK123.out 0; have hfz38_1 := blk_frozen BK123.out 1; have hfz38_2 := blk_frozen BK123.out 2; have hfz38_3 := blk_frozen BK123.out 3; have hfz38_4 := blk_frozen BK123.out 4) | (go_at_call 13; (with_reducible refine (access_May.calls k _ _ y120 1 (⟨#[97]⟩ : ByteArray) 0 false (⟨#[97]⟩ : ByteArray) 3 true _ ?side1 ?side2 ?side3 A13.out).mono ?_); (case side1 => repeat (first | exact (Kd.R_reads' HO122.out).2.2 | (with_reducible refine Kd.C_alloc ?_ _) | (with_reducible refine Kd.C_drewN ?_ _) | (with_reducible refine Kd.C_drew ?_))); (case side2 => exact (Kd.R_reads' HO122.out).2.1); (case side3 => first | ((refine Glob.keep HG.out ?_); (repeat (first | (with_reducible first | exact HB.out | apply below_alloc | apply pw_below_drewN | apply below_drew1 | refine below_set ?_ GE123.out) | exact HB.out)); done) | exact HG.out); rintro e w39 ⟨rfl, hb⟩; have n0_ := Aside0.mk (Kd.R_below (by (with_reducible repeat (first | apply Kd.R_alloc | apply Kd.R_drewN | apply Kd.R_drew)); exact HO122.out) hb); have n1_ := Aside0.mk (blk_below (g := gb123) (o := .cells #[.slice Ao32 y120.length co32, .int .i64 1, .string (⟨#[97]⟩ : ByteArray), .int .u32 0, .bool false] 27 (0, 0)) (by (with_reducible repeat (first | refine blk_drewN ?_ _ | refine blk_drew ?_ | refine blk_alloc ?_ _)); exact BK123.out) hb); have n2_ := Aside0.mk (below_step (by repeat (first | (with_reducible first | exact HB.out | apply below_alloc | apply pw_below_drewN | apply below_drew1 | refine below_set ?_ GE123.out) | exact HB.out)) hb); clear HO122; clear BK123; clear HB; have HO122 := n0_; have BK123 := n1_; have HB := n2_; clear n0_ n1_ n2_; (try clear hb); (try clear hb2); (try clear hk); (try clear hi); have hcz40_0 : w39.cell? ⟨gb123, 0, none⟩ = some (.slice Ao32 y120.length co32) := (blk_cell BK123.out 0).trans rfl; have hcz40_1 : w39.cell? ⟨gb123, 1, none⟩ = some (.int .i64 1) := (blk_cell BK123.out 1).trans rfl; have hcz40_2 : w39.cell? ⟨gb123, 2, none⟩ = some (.string (⟨#[97]⟩ : ByteArray)) := (blk_cell BK123.out 2).trans rfl; have hcz40_3 : w39.cell? ⟨gb123, 3, none⟩ = some (.int .u32 0) := (blk_cell BK123.out 3).trans rfl; have hcz40_4 : w39.cell? ⟨gb123, 4, none⟩ = some (.bool false) := (blk_cell BK123.out 4).trans rfl; have hfz40_0 := blk_frozen BK123.out 0; have hfz40_1 := blk_frozen BK123.out 1; have hfz40_2 := blk_frozen BK123.out 2; have hfz40_3 := blk_frozen BK123.out 3; have hfz40_4 := blk_frozen BK123.out 4) | (go_at_call 11; (with_reducible refine (access_Holds.calls k _ _ y120 1 (⟨#[97]⟩ : ByteArray) 0 false (⟨#[97]⟩ : ByteArray) false _ ?side1 ?side2 ?side3 A15.out).mono ?_); (case side1 => repeat (first | exact (Kd.R_reads' HO122.out).2.2 | (with_reducible refine Kd.C_alloc ?_ _) | (with_reducible refine Kd.C_drewN ?_ _) | (with_reducible refine Kd.C_drew ?_))); (case side2 => exact (Kd.R_reads' HO122.out).2.1); (case side3 => first | ((refine Glob.keep HG.out ?_); (repeat (first | (with_reducible first | exact HB.out | apply below_alloc | apply pw_below_drewN | apply below_drew1 | refine below_set ?_ GE123.out) | exact HB.out)); done) | exact HG.out); rintro e w41 ⟨rfl, hb⟩; have n0_ := Aside0.mk (Kd.R_below (by (with_reducible repeat (first | apply Kd.R_alloc | apply Kd.R_drewN | apply Kd.R_drew)); exact HO122.out) hb); have n1_ := Aside0.mk (blk_below (g := gb123) (o := .cells #[.slice Ao32 y120.length co32, .int .i64 1, .string (⟨#[97]⟩ : ByteArray), .int .u32 0, .bool false] 27 (0, 0)) (by (with_reducible repeat (first | refine blk_drewN ?_ _ | refine blk_drew ?_ | refine blk_alloc ?_ _)); exact BK123.out) hb); have n2_ := Aside0.mk (below_step (by repeat (first | (with_reducible first | exact HB.out | apply below_alloc | apply pw_below_drewN | apply below_drew1 | refine below_set ?_ GE123.out) | exact HB.out)) hb); clear HO122; clear BK123; clear HB; have HO122 := n0_; have BK123 := n1_; have HB := n2_; clear n0_ n1_ n2_; (try clear hb); (try clear hb2); (try clear hk); (try clear hi)))
          go_ret
          exact ⟨by first | rfl | (simp [errW_none, errW_some] <;> rfl) | (simp [*, errW_none, errW_some] <;> rfl) | (simp [bt, *]; done) | (unfold bt; simp [*]; done), by repeat (first | (with_reducible first | exact HB.out | apply below_alloc | apply pw_below_drewN | apply below_drew1 | refine below_set ?_ GE123.out) | exact HB.out)⟩
      · replace c14 := Bool.eq_false_iff.mpr c14
        subst c14
        have H1 : (some false) = some r := by rw [if_neg (show ¬ (false = true) by decide)] at H; exact H
        clear H
        have H := H1
        clear H1
        obtain rfl := Option.some.inj H
        go_enter Tryd.func9, Tryd.ntmps9
        go_wp2_with (first | ((with_reducible refine gate_dst (N := 4) rfl ?_); refine Kd.R_lit k37 _ 37 ?hg (N := 4) ?hd (xs := ([(⟨(⟨#[97]⟩ : ByteArray), 1⟩ : S37), (⟨(⟨#[98]⟩ : ByteArray), 2⟩ : S37)] : List (S37))) (inner := [.string (⟨#[97]⟩ : ByteArray), .int .u64 1, .string (⟨#[98]⟩ : ByteArray), .int .u64 2]) (ok := fun _ => True) (okp := fun _ => True) ?hr ?hp (fun _ hk => hk) trivial (Below.refl _ _) (Nat.le_refl _) (by simp) ?_; (case hd => rfl); (case hg => rfl); (case hr => first | (go_simp; done) | (go_simp; rfl)); (case hp => exact (Reps.c2 (show Kd.M k37 _ _ _ (⟨(⟨#[97]⟩ : ByteArray), 1⟩ : S37) [.string (⟨#[97]⟩ : ByteArray), .int .u64 1] from (k37_mkM _ _ _ (⟨(⟨#[97]⟩ : ByteArray), 1⟩ : S37) )) (Reps.c2 (show Kd.M k37 _ _ _ (⟨(⟨#[98]⟩ : ByteArray), 2⟩ : S37) [.string (⟨#[98]⟩ : ByteArray), .int .u64 2] from (k37_mkM _ _ _ (⟨(⟨#[98]⟩ : ByteArray), 2⟩ : S37) )) (Reps.none _ _)))); intro v121 w42 ho43 hb hg_ hnew_; clear hg_ hnew_; (first | rw [← Ny120.out] at ho43 | (simp only [Int.reduceToNat] at ho43; rw [← Ny120.out] at ho43)); have n0_ := Aside0.mk (Kd.R_lower ho43 (below_size (by repeat (first | (with_reducible first | exact HB.out | apply below_alloc | apply pw_below_drewN | apply below_drew1) | exact HB.out)))); have n1_ := Aside0.mk (below_step (by repeat (first | (with_reducible first | exact HB.out | apply below_alloc | apply pw_below_drewN | apply below_drew1) | exact HB.out)) hb); clear HB; have HO122 := n0_; have HB := n1_; clear n0_ n1_; clear hb ho43; obtain ⟨Ao44, co44, eo44⟩ := Kd.R_slice HO122.out; subst eo44) | ((with_reducible refine gate_dst (N := 1) rfl ?_); refine box_event ?hg (N := 1) ?hd (cs := #[.slice none 0 0, .int .i64 0, .string (⟨#[]⟩ : ByteArray), .int .u32 0, .bool false]) (t := 27) ?hr ?_; (case hd => rfl); (case hg => rfl); (case hr => first | (go_simp; done) | (go_simp; rfl)); intro gb123 hg w45 hbox hb; have n0_ := Aside0.mk (Kd.R_below (by (with_reducible repeat (first | apply Kd.R_alloc | apply Kd.R_drewN | apply Kd.R_drew)); exact HO122.out) hb); have n1_ := Aside0.mk (below_step (by repeat (first | (with_reducible first | exact HB.out | apply below_alloc | apply pw_below_drewN | apply below_drew1) | exact HB.out)) hb); have n2_ := Aside0.mk (hbox); have n3_ := Aside0.mk ((by rw [hg]; exact (below_size (by repeat (first | (with_reducible first | exact HB.out | apply below_alloc | apply pw_below_drewN | apply below_drew1) | exact HB.out))) : w.heap.size ≤ gb123)); have n4_ := Aside0.mk ((by rw [hg]; exact (below_size (by repeat (first | (with_reducible first | exact HB.out | apply below_alloc | apply pw_below_drewN | apply below_drew1) | exact HB.out))) : w.heap.size ≤ gb123)); clear HO122; clear HB; have HO122 := n0_; have HB := n1_; have BK123 := n2_; have GW123 := n3_; have GE123 := n4_; clear n0_ n1_ n2_ n3_ n4_; clear hb hbox hg; have hcz46_0 : w45.cell? ⟨gb123, 0, none⟩ = some (.slice none 0 0) := (blk_cell BK123.out 0).trans rfl; have hcz46_1 : w45.cell? ⟨gb123, 1, none⟩ = some (.int .i64 0) := (blk_cell BK123.out 1).trans rfl; have hcz46_2 : w45.cell? ⟨gb123, 2, none⟩ = some (.string (⟨#[]⟩ : ByteArray)) := (blk_cell BK123.out 2).trans rfl; have hcz46_3 : w45.cell? ⟨gb123, 3, none⟩ = some (.int .u32 0) := (blk_cell BK123.out 3).trans rfl; have hcz46_4 : w45.cell? ⟨gb123, 4, none⟩ = some (.bool false) := (blk_cell BK123.out 4).trans rfl; have hfz46_0 := blk_frozen BK123.out 0; have hfz46_1 := blk_frozen BK123.out 1; have hfz46_2 := blk_frozen BK123.out 2; have hfz46_3 := blk_frozen BK123.out 3; have hfz46_4 := blk_frozen BK123.out 4) | ((with_reducible refine gate_callee (f := 13) rfl ?_); refine goesL_ (some 8) rfl rfl Tryd.func13 (by kernel_rfl) rfl #[.agg #[.slice Ao44 y120.length co44, .int .i64 1, .string (⟨#[97]⟩ : ByteArray), .int .u32 0, .bool false], .string (⟨#[98]⟩ : ByteArray), .int .i64 2] rfl (by (try simp only [List.map_toArray, List.map_cons, List.map_nil]); first | done | rfl | (simp only [List.length_drop, List.length_take]; rfl)) ?_; (with_reducible refine (access_May.calls k _ _ y120 1 (⟨#[97]⟩ : ByteArray) 0 false (⟨#[98]⟩ : ByteArray) 2 true _ ?side1 ?side2 ?side3 A1.out).mono ?_); (case side1 => refine (Kd.R_reads' (e := 37) (base := w.heap.size) (ok := fun k_ => True) (n := y120.length) (c := co44) ?_).2.2; exact (by (with_reducible repeat (first | apply Kd.R_alloc | apply Kd.R_drewN | apply Kd.R_drew)); exact (Kd.R_mono (Kd.R_far (p := ⟨gb123, 4, none⟩) (Kd.R_far (p := ⟨gb123, 3, none⟩) (Kd.R_far (p := ⟨gb123, 2, none⟩) (Kd.R_far (p := ⟨gb123, 1, none⟩) (Kd.R_far (p := ⟨gb123, 0, none⟩) (Kd.R_types HO122.out BK123.out (by decide)) (fun _ hk => hk.2) (.slice Ao44 y120.length co44)) (fun _ hk => hk.2) (.int .i64 1)) (fun _ hk => hk.2) (.string (⟨#[97]⟩ : ByteArray))) (fun _ hk => hk.2) (.int .u32 0)) (fun _ hk => hk.2) (.bool false)) (fun _ h_ => h_.1)))); (case side2 => exact (Kd.R_reads' HO122.out).2.1); (case side3 => first | ((refine Glob.keep HG.out ?_); (repeat (first | (with_reducible first | exact HB.out | apply below_alloc | apply pw_below_drewN | apply below_drew1 | refine below_set ?_ GE123.out) | exact HB.out)); done) | exact HG.out); rintro e w47 ⟨rfl, hb⟩; refine ⟨_, rfl, ?_⟩; have n0_ := Aside0.mk (Kd.R_below (by (with_reducible repeat (first | apply Kd.R_alloc | apply Kd.R_drewN | apply Kd.R_drew)); exact (Kd.R_mono (Kd.R_far (p := ⟨gb123, 4, none⟩) (Kd.R_far (p := ⟨gb123, 3, none⟩) (Kd.R_far (p := ⟨gb123, 2, none⟩) (Kd.R_far (p := ⟨gb123, 1, none⟩) (Kd.R_far (p := ⟨gb123, 0, none⟩) (Kd.R_types HO122.out BK123.out (by decide)) (fun _ hk => hk.2) (.slice Ao44 y120.length co44)) (fun _ hk => hk.2) (.int .i64 1)) (fun _ hk => hk.2) (.string (⟨#[97]⟩ : ByteArray))) (fun _ hk => hk.2) (.int .u32 0)) (fun _ hk => hk.2) (.bool false)) (fun _ h_ => h_.1))) hb); have n1_ := Aside0.mk (blk_below (g := gb123) (o := .cells #[.slice Ao44 y120.length co44, .int .i64 1, .string (⟨#[97]⟩ : ByteArray), .int .u32 0, .bool false] 27 (0, 0)) (by (with_reducible repeat (first | refine blk_drewN ?_ _ | refine blk_drew ?_ | refine blk_alloc ?_ _)); refine blk_put (cs := #[.slice Ao44 y120.length co44, .int .i64 1, .string (⟨#[97]⟩ : ByteArray), .int .u32 0, .bool false]) ?_ 4 _ rfl; (with_reducible repeat (first | refine blk_drewN ?_ _ | refine blk_drew ?_ | refine blk_alloc ?_ _)); refine blk_put (cs := #[.slice Ao44 y120.length co44, .int .i64 1, .string (⟨#[97]⟩ : ByteArray), .int .u32 0, .bool false]) ?_ 3 _ rfl; (with_reducible repeat (first | refine blk_drewN ?_ _ | refine blk_drew ?_ | refine blk_alloc ?_ _)); refine blk_put (cs := #[.slice Ao44 y120.length co44, .int .i64 1, .string (⟨#[]⟩ : ByteArray), .int .u32 0, .bool false]) ?_ 2 _ rfl; (with_reducible repeat (first | refine blk_drewN ?_ _ | refine blk_drew ?_ | refine blk_alloc ?_ _)); refine blk_put (cs := #[.slice Ao44 y120.length co44, .int .i64 0, .string (⟨#[]⟩ : ByteArray), .int .u32 0, .bool false]) ?_ 1 _ rfl; (with_reducible repeat (first | refine blk_drewN ?_ _ | refine blk_drew ?_ | refine blk_alloc ?_ _)); refine blk_put (cs := #[.slice none 0 0, .int .i64 0, .string (⟨#[]⟩ : ByteArray), .int .u32 0, .bool false]) ?_ 0 _ rfl; (with_reducible repeat (first | refine blk_drewN ?_ _ | refine blk_drew ?_ | refine blk_alloc ?_ _)); exact BK123.out) hb); have n2_ := Aside0.mk (below_step (by repeat (first | (with_reducible first | exact HB.out | apply below_alloc | apply pw_below_drewN | apply below_drew1 | refine below_set ?_ GE123.out) | exact HB.out)) hb); clear HO122; clear BK123; clear HB; have HO122 := n0_; have BK123 := n1_; have HB := n2_; clear n0_ n1_ n2_; (try clear hb); (try clear hb2); (try clear hk); (try clear hi); have hcz48_0 : w47.cell? ⟨gb123, 0, none⟩ = some (.slice Ao44 y120.length co44) := (blk_cell BK123.out 0).trans rfl; have hcz48_1 : w47.cell? ⟨gb123, 1, none⟩ = some (.int .i64 1) := (blk_cell BK123.out 1).trans rfl; have hcz48_2 : w47.cell? ⟨gb123, 2, none⟩ = some (.string (⟨#[97]⟩ : ByteArray)) := (blk_cell BK123.out 2).trans rfl; have hcz48_3 : w47.cell? ⟨gb123, 3, none⟩ = some (.int .u32 0) := (blk_cell BK123.out 3).trans rfl; have hcz48_4 : w47.cell? ⟨gb123, 4, none⟩ = some (.bool false) := (blk_cell BK123.out 4).trans rfl; have hfz48_0 := blk_frozen BK123.out 0; have hfz48_1 := blk_frozen BK123.out 1; have hfz48_2 := blk_frozen BK123.out 2; have hfz48_3 := blk_frozen BK123.out 3; have hfz48_4 := blk_frozen BK123.out 4) | (go_at_call 13; (with_reducible refine (access_May.calls k _ _ y120 1 (⟨#[97]⟩ : ByteArray) 0 false (⟨#[98]⟩ : ByteArray) 3 false _ ?side1 ?side2 ?side3 A3.out).mono ?_); (case side1 => repeat (first | exact (Kd.R_reads' HO122.out).2.2 | (with_reducible refine Kd.C_alloc ?_ _) | (with_reducible refine Kd.C_drewN ?_ _) | (with_reducible refine Kd.C_drew ?_))); (case side2 => exact (Kd.R_reads' HO122.out).2.1); (case side3 => first | ((refine Glob.keep HG.out ?_); (repeat (first | (with_reducible first | exact HB.out | apply below_alloc | apply pw_below_drewN | apply below_drew1 | refine below_set ?_ GE123.out) | exact HB.out)); done) | exact HG.out); rintro e w49 ⟨rfl, hb⟩; have n0_ := Aside0.mk (Kd.R_below (by (with_reducible repeat (first | apply Kd.R_alloc | apply Kd.R_drewN | apply Kd.R_drew)); exact HO122.out) hb); have n1_ := Aside0.mk (blk_below (g := gb123) (o := .cells #[.slice Ao44 y120.length co44, .int .i64 1, .string (⟨#[97]⟩ : ByteArray), .int .u32 0, .bool false] 27 (0, 0)) (by (with_reducible repeat (first | refine blk_drewN ?_ _ | refine blk_drew ?_ | refine blk_alloc ?_ _)); exact BK123.out) hb); have n2_ := Aside0.mk (below_step (by repeat (first | (with_reducible first | exact HB.out | apply below_alloc | apply pw_below_drewN | apply below_drew1 | refine below_set ?_ GE123.out) | exact HB.out)) hb); clear HO122; clear BK123; clear HB; have HO122 := n0_; have BK123 := n1_; have HB := n2_; clear n0_ n1_ n2_; (try clear hb); (try clear hb2); (try clear hk); (try clear hi); have hcz50_0 : w49.cell? ⟨gb123, 0, none⟩ = some (.slice Ao44 y120.length co44) := (blk_cell BK123.out 0).trans rfl; have hcz50_1 : w49.cell? ⟨gb123, 1, none⟩ = some (.int .i64 1) := (blk_cell BK123.out 1).trans rfl; have hcz50_2 : w49.cell? ⟨gb123, 2, none⟩ = some (.string (⟨#[97]⟩ : ByteArray)) := (blk_cell BK123.out 2).trans rfl; have hcz50_3 : w49.cell? ⟨gb123, 3, none⟩ = some (.int .u32 0) := (blk_cell BK123.out 3).trans rfl; have hcz50_4 : w49.cell? ⟨gb123, 4, none⟩ = some (.bool false) := (blk_cell BK123.out 4).trans rfl; have hfz50_0 := blk_frozen BK123.out 0; have hfz50_1 := blk_frozen BK123.out 1; have hfz50_2 := blk_frozen BK123.out 2; have hfz50_3 := blk_frozen BK123.out 3; have hfz50_4 := blk_frozen BK123.out 4) | (go_at_call 13; (with_reducible refine (access_May.calls k _ _ y120 1 (⟨#[97]⟩ : ByteArray) 0 false (⟨#[97]⟩ : ByteArray) 3 false _ ?side1 ?side2 ?side3 A13.out).mono ?_); (case side1 => repeat (first | exact (Kd.R_reads' HO122.out).2.2 | (with_reducible refine Kd.C_alloc ?_ _) | (with_reducible refine Kd.C_drewN ?_ _) | (with_reducible refine Kd.C_drew ?_))); (case side2 => exact (Kd.R_reads' HO122.out).2.1); (case side3 => first | ((refine Glob.keep HG.out ?_); (repeat (first | (with_reducible first | exact HB.out | apply below_alloc | apply pw_below_drewN | apply below_drew1 | refine below_set ?_ GE123.out) | exact HB.out)); done) | exact HG.out); rintro e w51 ⟨rfl, hb⟩; have n0_ := Aside0.mk (Kd.R_below (by (with_reducible repeat (first | apply Kd.R_alloc | apply Kd.R_drewN | apply Kd.R_drew)); exact HO122.out) hb); have n1_ := Aside0.mk (blk_below (g := gb123) (o := .cells #[.slice Ao44 y120.length co44, .int .i64 1, .string (⟨#[97]⟩ : ByteArray), .int .u32 0, .bool false] 27 (0, 0)) (by (with_reducible repeat (first | refine blk_drewN ?_ _ | refine blk_drew ?_ | refine blk_alloc ?_ _)); exact BK123.out) hb); have n2_ := Aside0.mk (below_step (by repeat (first | (with_reducible first | exact HB.out | apply below_alloc | apply pw_below_drewN | apply below_drew1 | refine below_set ?_ GE123.out) | exact HB.out)) hb); clear HO122; clear BK123; clear HB; have HO122 := n0_; have BK123 := n1_; have HB := n2_; clear n0_ n1_ n2_; (try clear hb); (try clear hb2); (try clear hk); (try clear hi)))
        go_ret
        exact ⟨by first | rfl | (simp [errW_none, errW_some] <;> rfl) | (simp [*, errW_none, errW_some] <;> rfl) | (simp [bt, *]; done) | (unfold bt; simp [*]; done), by repeat (first | (with_reducible first | exact HB.out | apply below_alloc | apply pw_below_drewN | apply below_drew1 | refine below_set ?_ GE123.out) | exact HB.out)⟩
  · replace c2 := Bool.eq_false_iff.mpr c2
    subst c2
    have H1 : (some false) = some r := by rw [if_neg (show ¬ (false = true) by decide)] at H; exact H
    clear H
    have H := H1
    clear H1
    obtain rfl := Option.some.inj H
    go_enter Tryd.func9, Tryd.ntmps9
    go_wp2_with (first | ((with_reducible refine gate_dst (N := 4) rfl ?_); refine Kd.R_lit k37 _ 37 ?hg (N := 4) ?hd (xs := ([(⟨(⟨#[97]⟩ : ByteArray), 1⟩ : S37), (⟨(⟨#[98]⟩ : ByteArray), 2⟩ : S37)] : List (S37))) (inner := [.string (⟨#[97]⟩ : ByteArray), .int .u64 1, .string (⟨#[98]⟩ : ByteArray), .int .u64 2]) (ok := fun _ => True) (okp := fun _ => True) ?hr ?hp (fun _ hk => hk) trivial (Below.refl _ _) (Nat.le_refl _) (by simp) ?_; (case hd => rfl); (case hg => rfl); (case hr => first | (go_simp; done) | (go_simp; rfl)); (case hp => exact (Reps.c2 (show Kd.M k37 _ _ _ (⟨(⟨#[97]⟩ : ByteArray), 1⟩ : S37) [.string (⟨#[97]⟩ : ByteArray), .int .u64 1] from (k37_mkM _ _ _ (⟨(⟨#[97]⟩ : ByteArray), 1⟩ : S37) )) (Reps.c2 (show Kd.M k37 _ _ _ (⟨(⟨#[98]⟩ : ByteArray), 2⟩ : S37) [.string (⟨#[98]⟩ : ByteArray), .int .u64 2] from (k37_mkM _ _ _ (⟨(⟨#[98]⟩ : ByteArray), 2⟩ : S37) )) (Reps.none _ _)))); intro v121 w52 ho53 hb hg_ hnew_; clear hg_ hnew_; (first | rw [← Ny120.out] at ho53 | (simp only [Int.reduceToNat] at ho53; rw [← Ny120.out] at ho53)); have n0_ := Aside0.mk (Kd.R_lower ho53 (below_size (by repeat (first | (with_reducible first | exact HB.out | apply below_alloc | apply pw_below_drewN | apply below_drew1) | exact HB.out)))); have n1_ := Aside0.mk (below_step (by repeat (first | (with_reducible first | exact HB.out | apply below_alloc | apply pw_below_drewN | apply below_drew1) | exact HB.out)) hb); clear HB; have HO122 := n0_; have HB := n1_; clear n0_ n1_; clear hb ho53; obtain ⟨Ao54, co54, eo54⟩ := Kd.R_slice HO122.out; subst eo54) | ((with_reducible refine gate_dst (N := 1) rfl ?_); refine box_event ?hg (N := 1) ?hd (cs := #[.slice none 0 0, .int .i64 0, .string (⟨#[]⟩ : ByteArray), .int .u32 0, .bool false]) (t := 27) ?hr ?_; (case hd => rfl); (case hg => rfl); (case hr => first | (go_simp; done) | (go_simp; rfl)); intro gb123 hg w55 hbox hb; have n0_ := Aside0.mk (Kd.R_below (by (with_reducible repeat (first | apply Kd.R_alloc | apply Kd.R_drewN | apply Kd.R_drew)); exact HO122.out) hb); have n1_ := Aside0.mk (below_step (by repeat (first | (with_reducible first | exact HB.out | apply below_alloc | apply pw_below_drewN | apply below_drew1) | exact HB.out)) hb); have n2_ := Aside0.mk (hbox); have n3_ := Aside0.mk ((by rw [hg]; exact (below_size (by repeat (first | (with_reducible first | exact HB.out | apply below_alloc | apply pw_below_drewN | apply below_drew1) | exact HB.out))) : w.heap.size ≤ gb123)); have n4_ := Aside0.mk ((by rw [hg]; exact (below_size (by repeat (first | (with_reducible first | exact HB.out | apply below_alloc | apply pw_below_drewN | apply below_drew1) | exact HB.out))) : w.heap.size ≤ gb123)); clear HO122; clear HB; have HO122 := n0_; have HB := n1_; have BK123 := n2_; have GW123 := n3_; have GE123 := n4_; clear n0_ n1_ n2_ n3_ n4_; clear hb hbox hg; have hcz56_0 : w55.cell? ⟨gb123, 0, none⟩ = some (.slice none 0 0) := (blk_cell BK123.out 0).trans rfl; have hcz56_1 : w55.cell? ⟨gb123, 1, none⟩ = some (.int .i64 0) := (blk_cell BK123.out 1).trans rfl; have hcz56_2 : w55.cell? ⟨gb123, 2, none⟩ = some (.string (⟨#[]⟩ : ByteArray)) := (blk_cell BK123.out 2).trans rfl; have hcz56_3 : w55.cell? ⟨gb123, 3, none⟩ = some (.int .u32 0) := (blk_cell BK123.out 3).trans rfl; have hcz56_4 : w55.cell? ⟨gb123, 4, none⟩ = some (.bool false) := (blk_cell BK123.out 4).trans rfl; have hfz56_0 := blk_frozen BK123.out 0; have hfz56_1 := blk_frozen BK123.out 1; have hfz56_2 := blk_frozen BK123.out 2; have hfz56_3 := blk_frozen BK123.out 3; have hfz56_4 := blk_frozen BK123.out 4) | ((with_reducible refine gate_callee (f := 13) rfl ?_); refine goesL_ (some 8) rfl rfl Tryd.func13 (by kernel_rfl) rfl #[.agg #[.slice Ao54 y120.length co54, .int .i64 1, .string (⟨#[97]⟩ : ByteArray), .int .u32 0, .bool false], .string (⟨#[98]⟩ : ByteArray), .int .i64 2] rfl (by (try simp only [List.map_toArray, List.map_cons, List.map_nil]); first | done | rfl | (simp only [List.length_drop, List.length_take]; rfl)) ?_; (with_reducible refine (access_May.calls k _ _ y120 1 (⟨#[97]⟩ : ByteArray) 0 false (⟨#[98]⟩ : ByteArray) 2 false _ ?side1 ?side2 ?side3 A1.out).mono ?_); (case side1 => refine (Kd.R_reads' (e := 37) (base := w.heap.size) (ok := fun k_ => True) (n := y120.length) (c := co54) ?_).2.2; exact (by (with_reducible repeat (first | apply Kd.R_alloc | apply Kd.R_drewN | apply Kd.R_drew)); exact (Kd.R_mono (Kd.R_far (p := ⟨gb123, 4, none⟩) (Kd.R_far (p := ⟨gb123, 3, none⟩) (Kd.R_far (p := ⟨gb123, 2, none⟩) (Kd.R_far (p := ⟨gb123, 1, none⟩) (Kd.R_far (p := ⟨gb123, 0, none⟩) (Kd.R_types HO122.out BK123.out (by decide)) (fun _ hk => hk.2) (.slice Ao54 y120.length co54)) (fun _ hk => hk.2) (.int .i64 1)) (fun _ hk => hk.2) (.string (⟨#[97]⟩ : ByteArray))) (fun _ hk => hk.2) (.int .u32 0)) (fun _ hk => hk.2) (.bool false)) (fun _ h_ => h_.1)))); (case side2 => exact (Kd.R_reads' HO122.out).2.1); (case side3 => first | ((refine Glob.keep HG.out ?_); (repeat (first | (with_reducible first | exact HB.out | apply below_alloc | apply pw_below_drewN | apply below_drew1 | refine below_set ?_ GE123.out) | exact HB.out)); done) | exact HG.out); rintro e w57 ⟨rfl, hb⟩; refine ⟨_, rfl, ?_⟩; have n0_ := Aside0.mk (Kd.R_below (by (with_reducible repeat (first | apply Kd.R_alloc | apply Kd.R_drewN | apply Kd.R_drew)); exact (Kd.R_mono (Kd.R_far (p := ⟨gb123, 4, none⟩) (Kd.R_far (p := ⟨gb123, 3, none⟩) (Kd.R_far (p := ⟨gb123, 2, none⟩) (Kd.R_far (p := ⟨gb123, 1, none⟩) (Kd.R_far (p := ⟨gb123, 0, none⟩) (Kd.R_types HO122.out BK123.out (by decide)) (fun _ hk => hk.2) (.slice Ao54 y120.length co54)) (fun _ hk => hk.2) (.int .i64 1)) (fun _ hk => hk.2) (.string (⟨#[97]⟩ : ByteArray))) (fun _ hk => hk.2) (.int .u32 0)) (fun _ hk => hk.2) (.bool false)) (fun _ h_ => h_.1))) hb); have n1_ := Aside0.mk (blk_below (g := gb123) (o := .cells #[.slice Ao54 y120.length co54, .int .i64 1, .string (⟨#[97]⟩ : ByteArray), .int .u32 0, .bool false] 27 (0, 0)) (by (with_reducible repeat (first | refine blk_drewN ?_ _ | refine blk_drew ?_ | refine blk_alloc ?_ _)); refine blk_put (cs := #[.slice Ao54 y120.length co54, .int .i64 1, .string (⟨#[97]⟩ : ByteArray), .int .u32 0, .bool false]) ?_ 4 _ rfl; (with_reducible repeat (first | refine blk_drewN ?_ _ | refine blk_drew ?_ | refine blk_alloc ?_ _)); refine blk_put (cs := #[.slice Ao54 y120.length co54, .int .i64 1, .string (⟨#[97]⟩ : ByteArray), .int .u32 0, .bool false]) ?_ 3 _ rfl; (with_reducible repeat (first | refine blk_drewN ?_ _ | refine blk_drew ?_ | refine blk_alloc ?_ _)); refine blk_put (cs := #[.slice Ao54 y120.length co54, .int .i64 1, .string (⟨#[]⟩ : ByteArray), .int .u32 0, .bool false]) ?_ 2 _ rfl; (with_reducible repeat (first | refine blk_drewN ?_ _ | refine blk_drew ?_ | refine blk_alloc ?_ _)); refine blk_put (cs := #[.slice Ao54 y120.length co54, .int .i64 0, .string (⟨#[]⟩ : ByteArray), .int .u32 0, .bool false]) ?_ 1 _ rfl; (with_reducible repeat (first | refine blk_drewN ?_ _ | refine blk_drew ?_ | refine blk_alloc ?_ _)); refine blk_put (cs := #[.slice none 0 0, .int .i64 0, .string (⟨#[]⟩ : ByteArray), .int .u32 0, .bool false]) ?_ 0 _ rfl; (with_reducible repeat (first | refine blk_drewN ?_ _ | refine blk_drew ?_ | refine blk_alloc ?_ _)); exact BK123.out) hb); have n2_ := Aside0.mk (below_step (by repeat (first | (with_reducible first | exact HB.out | apply below_alloc | apply pw_below_drewN | apply below_drew1 | refine below_set ?_ GE123.out) | exact HB.out)) hb); clear HO122; clear BK123; clear HB; have HO122 := n0_; have BK123 := n1_; have HB := n2_; clear n0_ n1_ n2_; (try clear hb); (try clear hb2); (try clear hk); (try clear hi)))
    go_ret
    exact ⟨by first | rfl | (simp [errW_none, errW_some] <;> rfl) | (simp [*, errW_none, errW_some] <;> rfl) | (simp [bt, *]; done) | (unfold bt; simp [*]; done), by repeat (first | (with_reducible first | exact HB.out | apply below_alloc | apply pw_below_drewN | apply below_drew1 | refine below_set ?_ GE123.out) | exact HB.out)⟩

/-! ### headgatekeep_CopyTable: function 10 -/
def headgatekeep_CopyTable.f (l0_0 : List (S37)) (a0_1 : Int) (a0_2 : ByteArray) (a0_3 : Int) (a0_4 : Bool) : Option ((List (S37)) × Int × ByteArray × Int × Bool) := (some (([] : List (S37)) : List (S37))).bind fun y131 => (if y131.length + l0_0.length < 5864062014805 then (some ((y131 ++ l0_0), a0_1, a0_2, a0_3, a0_4)) else (none))
set_option maxHeartbeats 8000000 in
set_option maxRecDepth 100000 in
theorem headgatekeep_CopyTable.calls (A0_0 : Option Addr) (c0_0 : Nat) (l0_0 : List (S37)) (a0_1 : Int) (a0_2 : ByteArray) (a0_3 : Int) (a0_4 : Bool) (r1 : List (S37)) (r2 : Int) (r3 : ByteArray) (r4 : Int) (r5 : Bool) (w : World) (hr0_0 : Kd.C k37 w A0_0 l0_0.length l0_0) (hc0_0 : l0_0.length ≤ c0_0) (h : headgatekeep_CopyTable.f l0_0 a0_1 a0_2 a0_3 a0_4 = some (r1, r2, r3, r4, r5)) :
    Calls Tryd.prog 10 #[.agg #[.slice A0_0 l0_0.length c0_0, .int .i64 a0_1, .string a0_2, .int .u32 a0_3, .bool a0_4]] w fun e w' => ∃ v0_ : Value, e = .returned (.agg #[v0_, .int .i64 r2, .string r3, .int .u32 r4, .bool r5]) ∧ Kd.R k37 37 w' w.heap.size (fun _ => True) v0_ r1 ∧ Below w.heap.size w w' := by
  have hu27 := Tryd.underlying27
  have HR0_0 := Aside0.mk hr0_0
  have HC0_0 := Aside0.mk hc0_0
  clear hr0_0 hc0_0
  have HB := Aside0.mk (Below.refl w.heap.size w)
  have H : ((some (([] : List (S37)) : List (S37))).bind fun y131 => (if y131.length + l0_0.length < 5864062014805 then (some ((y131 ++ l0_0), a0_1, a0_2, a0_3, a0_4)) else (none))) = some (r1, r2, r3, r4, r5) := h
  clear h
  obtain ⟨y131, hy131⟩ : ∃ y_ : List (S37), y_ = (([] : List (S37))) := ⟨_, rfl⟩
  replace H : (if y131.length + l0_0.length < 5864062014805 then (some ((y131 ++ l0_0), a0_1, a0_2, a0_3, a0_4)) else (none)) = some (r1, r2, r3, r4, r5) := by first | (rw [hy131]; with_reducible exact H) | (have H2_ := (Option.bind_some _ _).symm.trans H; rw [hy131]; with_reducible exact H2_) | (have H2_ := (Option.bind_some _ _).symm.trans H; with_reducible exact H2_) | with_reducible exact H | (rw [hy131]; exact H) | exact H
  have Ny131 := Aside0.mk hy131
  clear hy131
  by_cases c2 : y131.length + l0_0.length < 5864062014805
  · rw [if_pos c2] at H
    have LMc2 := Aside0.mk c2
    clear c2
    obtain ⟨y134, hy134⟩ : ∃ y_ : List (S37), y_ = (y131 ++ l0_0) := ⟨_, rfl⟩
    replace H : (some (y134, a0_1, a0_2, a0_3, a0_4)) = some (r1, r2, r3, r4, r5) := by first | (rw [hy134]; with_reducible exact H) | (have H2_ := (Option.bind_some _ _).symm.trans H; rw [hy134]; with_reducible exact H2_) | (have H2_ := (Option.bind_some _ _).symm.trans H; with_reducible exact H2_) | with_reducible exact H | (rw [hy134]; exact H) | exact H
    have Ny134 := Aside0.mk hy134
    clear hy134
    simp only [Option.some.injEq, Prod.mk.injEq] at H
    obtain ⟨rfl, rfl, rfl, rfl, rfl⟩ := H
    go_enter Tryd.func10, Tryd.ntmps10
    go_wp2_with (first | ((with_reducible refine gate_dst (N := 1) rfl ?_); refine box_event ?hg (N := 1) ?hd (cs := #[.slice A0_0 l0_0.length c0_0, .int .i64 a0_1, .string a0_2, .int .u32 a0_3, .bool a0_4]) (t := 27) ?hr ?_; (case hd => rfl); (case hg => rfl); (case hr => first | (go_simp; done) | (go_simp; rfl)); intro gb129 hg w3 hbox hb; have n0_ := Aside0.mk (below_step (by repeat (first | (with_reducible first | exact HB.out | apply below_alloc | apply pw_below_drewN | apply below_drew1) | exact HB.out)) hb); have n1_ := Aside0.mk (hbox); have n2_ := Aside0.mk ((by rw [hg]; exact (below_size (by repeat (first | (with_reducible first | exact HB.out | apply below_alloc | apply pw_below_drewN | apply below_drew1) | exact HB.out))) : w.heap.size ≤ gb129)); have n3_ := Aside0.mk ((by rw [hg]; exact (below_size (by repeat (first | (with_reducible first | exact HB.out | apply below_alloc | apply pw_below_drewN | apply below_drew1) | exact HB.out))) : w.heap.size ≤ gb129)); clear HB; have HB := n0_; have BK129 := n1_; have GW129 := n2_; have GE129 := n3_; clear n0_ n1_ n2_ n3_; clear hb hbox hg) | ((with_reducible refine gate_dst (N := 2) rfl ?_); refine box_event ?hg (N := 2) ?hd (cs := #[.slice none 0 0, .int .i64 0, .string (⟨#[]⟩ : ByteArray), .int .u32 0, .bool false]) (t := 27) ?hr ?_; (case hd => rfl); (case hg => rfl); (case hr => first | (go_simp; done) | (go_simp; rfl)); intro gb130 hg w4 hbox hb; have n0_ := Aside0.mk (blk_below (g := gb129) (o := .cells #[.slice A0_0 l0_0.length c0_0, .int .i64 a0_1, .string a0_2, .int .u32 a0_3, .bool a0_4] 27 (0, 0)) (by (with_reducible repeat (first | refine blk_drewN ?_ _ | refine blk_drew ?_ | refine blk_alloc ?_ _)); exact BK129.out) hb); have n1_ := Aside0.mk (below_step (by repeat (first | (with_reducible first | exact HB.out | apply below_alloc | apply pw_below_drewN | apply below_drew1 | refine below_set ?_ GE129.out) | exact HB.out)) hb); have n2_ := Aside0.mk (hbox); have n3_ := Aside0.mk ((by rw [hg]; exact (below_size (by repeat (first | (with_reducible first | exact HB.out | apply below_alloc | apply pw_below_drewN | apply below_drew1 | refine below_set ?_ GE129.out) | exact HB.out))) : w.heap.size ≤ gb130)); have n4_ := Aside0.mk ((by rw [hg]; exact (below_size (by repeat (first | (with_reducible first | exact HB.out | apply below_alloc | apply pw_below_drewN | apply below_drew1 | refine below_set ?_ GE129.out) | exact HB.out))) : w.heap.size ≤ gb130)); have n5_ := Aside0.mk ((by rw [hg]; exact Nat.ne_of_lt (blk_lt (g := gb129) (o := .cells #[.slice A0_0 l0_0.length c0_0, .int .i64 a0_1, .string a0_2, .int .u32 a0_3, .bool a0_4] 27 (0, 0)) (by (with_reducible repeat (first | refine blk_drewN ?_ _ | refine blk_drew ?_ | refine blk_alloc ?_ _)); exact BK129.out)) : gb129 ≠ gb130)); have n6_ := Aside0.mk ((by rw [hg]; exact Nat.ne_of_gt (blk_lt (g := gb129) (o := .cells #[.slice A0_0 l0_0.length c0_0, .int .i64 a0_1, .string a0_2, .int .u32 a0_3, .bool a0_4] 27 (0, 0)) (by (with_reducible repeat (first | refine blk_drewN ?_ _ | refine blk_drew ?_ | refine blk_alloc ?_ _)); exact BK129.out)) : gb130 ≠ gb129)); clear BK129; clear HB; have BK129 := n0_; have HB := n1_; have BK130 := n2_; have GW130 := n3_; have GE130 := n4_; have NB129_130 := n5_; have NB130_129 := n6_; clear n0_ n1_ n2_ n3_ n4_ n5_ n6_; clear hb hbox hg) | ((with_reducible refine gate_dst (N := 3) rfl ?_); refine Kd.R_lit k37 _ 37 ?hg (N := 3) ?hd (xs := ([] : List (S37))) (inner := []) (ok := fun _ => True) (okp := fun _ => True) ?hr ?hp (fun _ hk => hk) trivial (Below.refl _ _) (Nat.le_refl _) (by simp) ?_; (case hd => rfl); (case hg => rfl); (case hr => first | (go_simp; done) | (go_simp; rfl)); (case hp => exact (Reps.none _ _)); intro v132 w5 ho6 hb hg_ hnew_; clear hg_ hnew_; (first | rw [← Ny131.out] at ho6 | (simp only [Int.reduceToNat] at ho6; rw [← Ny131.out] at ho6)); have n0_ := Aside0.mk (Kd.R_lower ho6 (below_size (by repeat (first | (with_reducible first | exact HB.out | apply below_alloc | apply pw_below_drewN | apply below_drew1 | refine below_set ?_ GE129.out | refine below_set ?_ GE130.out) | exact HB.out)))); have n1_ := Aside0.mk (blk_below (g := gb129) (o := .cells #[.slice A0_0 l0_0.length c0_0, .int .i64 a0_1, .string a0_2, .int .u32 a0_3, .bool a0_4] 27 (0, 0)) (by (with_reducible repeat (first | refine blk_drewN ?_ _ | refine blk_drew ?_ | refine blk_alloc ?_ _)); exact BK129.out) hb); have n2_ := Aside0.mk (blk_below (g := gb130) (o := .cells #[.slice none 0 0, .int .i64 0, .string (⟨#[]⟩ : ByteArray), .int .u32 0, .bool false] 27 (0, 0)) (by (with_reducible repeat (first | refine blk_drewN ?_ _ | refine blk_drew ?_ | refine blk_alloc ?_ _)); exact BK130.out) hb); have n3_ := Aside0.mk (below_step (by repeat (first | (with_reducible first | exact HB.out | apply below_alloc | apply pw_below_drewN | apply below_drew1 | refine below_set ?_ GE129.out | refine below_set ?_ GE130.out) | exact HB.out)) hb); clear BK129; clear BK130; clear HB; have HO133 := n0_; have BK129 := n1_; have BK130 := n2_; have HB := n3_; clear n0_ n1_ n2_ n3_; clear hb ho6; have hnb7 := NB129_130.out; have hnc7 := NB130_129.out; have hcz8_0 : w5.cell? ⟨gb129, 0, none⟩ = some (.slice A0_0 l0_0.length c0_0) := (blk_cell BK129.out 0).trans rfl; have hcz8_1 : w5.cell? ⟨gb129, 1, none⟩ = some (.int .i64 a0_1) := (blk_cell BK129.out 1).trans rfl; have hcz8_2 : w5.cell? ⟨gb129, 2, none⟩ = some (.string a0_2) := (blk_cell BK129.out 2).trans rfl; have hcz8_3 : w5.cell? ⟨gb129, 3, none⟩ = some (.int .u32 a0_3) := (blk_cell BK129.out 3).trans rfl; have hcz8_4 : w5.cell? ⟨gb129, 4, none⟩ = some (.bool a0_4) := (blk_cell BK129.out 4).trans rfl; have hfz8_0 := blk_frozen BK129.out 0; have hfz8_1 := blk_frozen BK129.out 1; have hfz8_2 := blk_frozen BK129.out 2; have hfz8_3 := blk_frozen BK129.out 3; have hfz8_4 := blk_frozen BK129.out 4) | ((with_reducible refine gate_builtin (b := .append) (xs := #[.tmp 3, .tmp 5]) rfl ?_); at_builtin; refine Kd.R_append_rows k37 (w0 := w) w.heap.size rfl (.tmp 3) (.tmp 5) 22 37 (.agg #[(.string ⟨#[]⟩), (.int .u64 0)]) 24 rfl Tryd.underlying22 info37 rfl (by decide) (by omega) v132 y131 l0_0 _ _ _ (fun _ => True) (fun _ => False) rfl rfl ?aO ?aR (fun _ _ h => h) (fun _ h => h.elim) ?aF ?aB ?aS ?aL ?_; (case aR => repeat (first | exact (Kd.C_below HR0_0.out HB.out) | (with_reducible refine Kd.C_alloc ?_ _) | (with_reducible refine Kd.C_drewN ?_ _) | (with_reducible refine Kd.C_drew ?_))); (case aB => exact (by repeat (first | (with_reducible first | exact HB.out | apply below_alloc | apply pw_below_drewN | apply below_drew1 | refine below_set ?_ GE129.out | refine below_set ?_ GE130.out) | exact HB.out))); (case aF => exact (fun _ _ => trivial)); (case aO => exact (by (with_reducible repeat (first | apply Kd.R_alloc | apply Kd.R_drewN | apply Kd.R_drew)); exact HO133.out)); (case aS => exact (below_size (by repeat (first | (with_reducible first | exact HB.out | apply below_alloc | apply pw_below_drewN | apply below_drew1 | refine below_set ?_ GE129.out | refine below_set ?_ GE130.out) | exact HB.out)))); (case aL => have := LMc2.out; omega); intro v135 w9 ho hb hg hat; rw [← Ny134.out] at ho; have n0_ := Aside0.mk (blk_grown (g := gb129) (o := .cells #[.slice A0_0 l0_0.length c0_0, .int .i64 a0_1, .string a0_2, .int .u32 a0_3, .bool a0_4] 27 (0, 0)) (by (with_reducible repeat (first | refine blk_drewN ?_ _ | refine blk_drew ?_ | refine blk_alloc ?_ _)); exact BK129.out) hg (Kd.R_ne HO133.out BK129.out (by decide))); have n1_ := Aside0.mk (blk_grown (g := gb130) (o := .cells #[.slice none 0 0, .int .i64 0, .string (⟨#[]⟩ : ByteArray), .int .u32 0, .bool false] 27 (0, 0)) (by (with_reducible repeat (first | refine blk_drewN ?_ _ | refine blk_drew ?_ | refine blk_alloc ?_ _)); exact BK130.out) hg (Kd.R_ne HO133.out BK130.out (by decide))); have n2_ := Aside0.mk (hb); have n3_ := Aside0.mk (ho); clear BK129; clear BK130; clear HB; clear HO133; have BK129 := n0_; have BK130 := n1_; have HB := n2_; have HO136 := n3_; clear n0_ n1_ n2_ n3_; clear ho hb hg hat; obtain ⟨Ao10, co10, eo10⟩ := Kd.R_slice HO136.out; subst eo10; have hcz11_0 : w9.cell? ⟨gb129, 0, none⟩ = some (.slice A0_0 l0_0.length c0_0) := (blk_cell BK129.out 0).trans rfl; have hcz11_1 : w9.cell? ⟨gb129, 1, none⟩ = some (.int .i64 a0_1) := (blk_cell BK129.out 1).trans rfl; have hcz11_2 : w9.cell? ⟨gb129, 2, none⟩ = some (.string a0_2) := (blk_cell BK129.out 2).trans rfl; have hcz11_3 : w9.cell? ⟨gb129, 3, none⟩ = some (.int .u32 a0_3) := (blk_cell BK129.out 3).trans rfl; have hcz11_4 : w9.cell? ⟨gb129, 4, none⟩ = some (.bool a0_4) := (blk_cell BK129.out 4).trans rfl; have hfz11_0 := blk_frozen BK129.out 0; have hfz11_1 := blk_frozen BK129.out 1; have hfz11_2 := blk_frozen BK129.out 2; have hfz11_3 := blk_frozen BK129.out 3; have hfz11_4 := blk_frozen BK129.out 4; have hcz12_0 : w9.cell? ⟨gb130, 0, none⟩ = some (.slice none 0 0) := (blk_cell BK130.out 0).trans rfl; have hcz12_1 : w9.cell? ⟨gb130, 1, none⟩ = some (.int .i64 0) := (blk_cell BK130.out 1).trans rfl; have hcz12_2 : w9.cell? ⟨gb130, 2, none⟩ = some (.string (⟨#[]⟩ : ByteArray)) := (blk_cell BK130.out 2).trans rfl; have hcz12_3 : w9.cell? ⟨gb130, 3, none⟩ = some (.int .u32 0) := (blk_cell BK130.out 3).trans rfl; have hcz12_4 : w9.cell? ⟨gb130, 4, none⟩ = some (.bool false) := (blk_cell BK130.out 4).trans rfl; have hfz12_0 := blk_frozen BK130.out 0; have hfz12_1 := blk_frozen BK130.out 1; have hfz12_2 := blk_frozen BK130.out 2; have hfz12_3 := blk_frozen BK130.out 3; have hfz12_4 := blk_frozen BK130.out 4))
    refine bodyPost_ret (results_cell_row rfl _ _ gb130 27 #[.slice Ao10 y134.length co10, .int .i64 a0_1, .string a0_2, .int .u32 a0_3, .bool a0_4] (0, 0) _ rfl (by (with_reducible repeat (first | refine blk_drewN ?_ _ | refine blk_drew ?_ | refine blk_alloc ?_ _)); refine blk_put (cs := #[.slice Ao10 y134.length co10, .int .i64 a0_1, .string a0_2, .int .u32 a0_3, .bool false]) ?_ 4 _ rfl; (with_reducible repeat (first | refine blk_drewN ?_ _ | refine blk_drew ?_ | refine blk_alloc ?_ _)); refine blk_put (cs := #[.slice Ao10 y134.length co10, .int .i64 a0_1, .string a0_2, .int .u32 0, .bool false]) ?_ 3 _ rfl; (with_reducible repeat (first | refine blk_drewN ?_ _ | refine blk_drew ?_ | refine blk_alloc ?_ _)); refine blk_put (cs := #[.slice Ao10 y134.length co10, .int .i64 a0_1, .string (⟨#[]⟩ : ByteArray), .int .u32 0, .bool false]) ?_ 2 _ rfl; (with_reducible repeat (first | refine blk_drewN ?_ _ | refine blk_drew ?_ | refine blk_alloc ?_ _)); refine blk_put (cs := #[.slice Ao10 y134.length co10, .int .i64 0, .string (⟨#[]⟩ : ByteArray), .int .u32 0, .bool false]) ?_ 1 _ rfl; (with_reducible repeat (first | refine blk_drewN ?_ _ | refine blk_drew ?_ | refine blk_alloc ?_ _)); refine blk_put (cs := #[.slice none 0 0, .int .i64 0, .string (⟨#[]⟩ : ByteArray), .int .u32 0, .bool false]) ?_ 0 _ rfl; (with_reducible repeat (first | refine blk_drewN ?_ _ | refine blk_drew ?_ | refine blk_alloc ?_ _)); refine blk_far ?_ NB130_129.out _; (with_reducible repeat (first | refine blk_drewN ?_ _ | refine blk_drew ?_ | refine blk_alloc ?_ _)); exact BK130.out) Tryd.underlying27 rfl (by kernel_rfl)) rfl ?_
    exact ⟨_, by first | rfl | (simp [errW_none, errW_some] <;> rfl) | (simp [*, errW_none, errW_some] <;> rfl) | (simp [bt, *]; done) | (unfold bt; simp [*]; done), by (with_reducible repeat (first | apply Kd.R_alloc | apply Kd.R_drewN | apply Kd.R_drew)); exact Kd.R_mono (Kd.R_far (p := ⟨gb130, 4, none⟩) (Kd.R_far (p := ⟨gb130, 3, none⟩) (Kd.R_far (p := ⟨gb130, 2, none⟩) (Kd.R_far (p := ⟨gb130, 1, none⟩) (Kd.R_far (p := ⟨gb130, 0, none⟩) (Kd.R_far (p := ⟨gb129, 0, none⟩) (Kd.R_types (Kd.R_types HO136.out BK129.out (by decide)) BK130.out (by decide)) (fun _ hk => hk.1.2) (.slice Ao10 y134.length co10)) (fun _ hk => hk.2) (.slice Ao10 y134.length co10)) (fun _ hk => hk.2) (.int .i64 a0_1)) (fun _ hk => hk.2) (.string a0_2)) (fun _ hk => hk.2) (.int .u32 a0_3)) (fun _ hk => hk.2) (.bool a0_4)) (fun _ hk => trivial), by repeat (first | (with_reducible first | exact HB.out | apply below_alloc | apply pw_below_drewN | apply below_drew1 | refine below_set ?_ GE129.out | refine below_set ?_ GE130.out) | exact HB.out)⟩
  · rw [if_neg c2] at H
    exact absurd H (by simp)

/-! ### headgateref10_Registered: function 22 -/
def headgateref10_Registered.l0 : Nat → ByteArray → Int → List (S37) → Int → ByteArray → Int → Bool → Option (Bool)
  | 0, _, _, _, _, _, _, _ => none
  | k + 1, x1, x5, x138000, x138001, x138002, x138003, x138004 => if x5 < (x138000.length : Int) then (if 0 ≤ x5 then (if ((rd_T37 x138000 x5).f0).toList = x1.toList then (some true) else (headgateref10_Registered.l0 k x1 (wrap64 (x5 + 1)) x138000 x138001 x138002 x138003 x138004)) else (none)) else (some false)
def headgateref10_Registered.f (k : Nat) (l0_0 : List (S37)) (a0_1 : Int) (a0_2 : ByteArray) (a0_3 : Int) (a0_4 : Bool) (a1 : ByteArray) : Option (Bool) := headgateref10_Registered.l0 k a1 0 l0_0 a0_1 a0_2 a0_3 a0_4
theorem headgateref10_Registered.mono_l : ∀ k, (∀ y0 y1 y2 y3 y4 y5 y6, LeO (headgateref10_Registered.l0 k y0 y1 y2 y3 y4 y5 y6) (headgateref10_Registered.l0 (k + 1) y0 y1 y2 y3 y4 y5 y6))
  | 0 => fun _ _ _ _ _ _ _ r h => by simp [headgateref10_Registered.l0] at h
  | k + 1 => by
    have ih0 := headgateref10_Registered.mono_l k
    · intro y0 y1 y2 y3 y4 y5 y6
      unfold headgateref10_Registered.l0
      repeat' first
      | (with_reducible exact ih0 _ _ _ _ _ _ _)
      | (with_reducible exact LeO.refl _)
      | (with_reducible exact LeO.none _)
      | (with_reducible refine LeO.ite ?_ ?_)
      | (with_reducible refine LeO.bind ?_ (fun _ => ?_))
      | exact ih0 _ _ _ _ _ _ _
      | exact LeO.none _
      | refine LeO.ite ?_ ?_
      | refine LeO.bind ?_ (fun _ => ?_)
theorem headgateref10_Registered.mono : ∀ a0 a1 a2 a3 a4 a5 k, LeO (headgateref10_Registered.f k a0 a1 a2 a3 a4 a5) (headgateref10_Registered.f (k + 1) a0 a1 a2 a3 a4 a5) := by
  intro a0 a1 a2 a3 a4 a5 k
  have ih0 := headgateref10_Registered.mono_l k
  unfold headgateref10_Registered.f
  repeat' first
      | (with_reducible exact ih0 _ _ _ _ _ _ _)
      | (with_reducible exact LeO.refl _)
      | (with_reducible exact LeO.none _)
      | (with_reducible refine LeO.ite ?_ ?_)
      | (with_reducible refine LeO.bind ?_ (fun _ => ?_))
      | exact ih0 _ _ _ _ _ _ _
      | exact LeO.none _
      | refine LeO.ite ?_ ?_
      | refine LeO.bind ?_ (fun _ => ?_)
set_option maxHeartbeats 8000000 in
set_option maxRecDepth 100000 in
theorem headgateref10_Registered.calls (k : Nat) (A0_0 : Option Addr) (c0_0 : Nat) (l0_0 : List (S37)) (a0_1 : Int) (a0_2 : ByteArray) (a0_3 : Int) (a0_4 : Bool) (a1 : ByteArray) (r : Bool) (w : World) (hr0_0 : Kd.C k37 w A0_0 l0_0.length l0_0) (hc0_0 : l0_0.length ≤ c0_0) (h : headgateref10_Registered.f k l0_0 a0_1 a0_2 a0_3 a0_4 a1 = some r) :
    Calls Tryd.prog 22 #[.agg #[.slice A0_0 l0_0.length c0_0, .int .i64 a0_1, .string a0_2, .int .u32 a0_3, .bool a0_4], .string a1] w fun e w' => e = .returned (.bool r) ∧ Below w.heap.size w w' := by
  have hu27 := Tryd.underlying27
  have HR0_0 := Aside0.mk hr0_0
  have HC0_0 := Aside0.mk hc0_0
  clear hr0_0 hc0_0
  have HB := Aside0.mk (Below.refl w.heap.size w)
  have H : (headgateref10_Registered.l0 k a1 0 l0_0 a0_1 a0_2 a0_3 a0_4) = some r := h
  clear h
  have H' := Aside0.mk H
  clear H
  go_enter Tryd.func22, Tryd.ntmps22
  go_wp2_with (first | ((with_reducible refine gate_dst (N := 2) rfl ?_); refine box_event ?hg (N := 2) ?hd (cs := #[.slice A0_0 l0_0.length c0_0, .int .i64 a0_1, .string a0_2, .int .u32 a0_3, .bool a0_4]) (t := 27) ?hr ?_; (case hd => rfl); (case hg => rfl); (case hr => first | (go_simp; done) | (go_simp; rfl)); intro gb137 hg w3 hbox hb; have n0_ := Aside0.mk (below_step (by repeat (first | (with_reducible first | exact HB.out | apply below_alloc | apply pw_below_drewN | apply below_drew1) | exact HB.out)) hb); have n1_ := Aside0.mk (hbox); have n2_ := Aside0.mk ((by rw [hg]; exact (below_size (by repeat (first | (with_reducible first | exact HB.out | apply below_alloc | apply pw_below_drewN | apply below_drew1) | exact HB.out))) : w.heap.size ≤ gb137)); have n3_ := Aside0.mk ((by rw [hg]; exact (below_size (by repeat (first | (with_reducible first | exact HB.out | apply below_alloc | apply pw_below_drewN | apply below_drew1) | exact HB.out))) : w.heap.size ≤ gb137)); clear HB; have HB := n0_; have BK137 := n1_; have GW137 := n2_; have GE137 := n3_; clear n0_ n1_ n2_ n3_; clear hb hbox hg))
  go_loopg [5] k (fun kq v5 w' => ∃ (x5_1 : Int), v5 = .int .i64 x5_1 ∧ Aside0 (headgateref10_Registered.l0 kq a1 x5_1 l0_0 a0_1 a0_2 a0_3 a0_4 = some r) ∧ Aside0 (kq ≤ k) ∧ Aside0 (w'.heap[gb137]? = some (.cells #[(.slice A0_0 l0_0.length c0_0), .int .i64 a0_1, .string a0_2, .int .u32 a0_3, .bool a0_4] 27 (0, 0))) ∧ Aside0 (Below w.heap.size w w'))
  case atStart => exact ⟨(0), (by first | rfl | (simp; done) | (simp [*]; done)), H', ⟨Nat.le_refl _⟩, ⟨by (with_reducible repeat (first | refine blk_drewN ?_ _ | refine blk_drew ?_ | refine blk_alloc ?_ _)); exact BK137.out⟩, ⟨by repeat (first | (with_reducible first | exact HB.out | apply below_alloc | apply pw_below_drewN | apply below_drew1 | refine below_set ?_ GE137.out) | exact HB.out)⟩⟩
  case round =>
    clear H'
    try clear c2
    try clear p2
    obtain ⟨x5_1, rfl, HA, HK1, BK137, HB⟩ := hrel
    cases gk with
    | zero => exact absurd HA.out (by simp [headgateref10_Registered.l0])
    | succ k1 =>
      have H := HA.out
      clear HA
      simp only [headgateref10_Registered.l0] at H
      by_cases c4 : x5_1 < (l0_0.length : Int)
      · rw [if_pos c4] at H
        have c4b0 : decide (x5_1 < (l0_0.length : Int)) = true := decide_eq_true c4
        clear c4
        by_cases c5 : 0 ≤ x5_1
        · rw [if_pos c5] at H
          have c5b0 : decide (0 ≤ x5_1) = true := decide_eq_true c5
          clear c5
          by_cases c6 : ((rd_T37 l0_0 x5_1).f0).toList = a1.toList
          · rw [if_pos c6] at H
            have c6b0 : (((rd_T37 l0_0 x5_1).f0).toList == a1.toList) = true := beq_iff_eq.mpr c6
            have c6b1 : (((rd_T37 l0_0 x5_1).f0).toList != a1.toList) = false := bne_eq_false_iff_eq.mpr c6
            clear c6
            obtain rfl := Option.some.inj H
            have hcz7_0 : wr.cell? ⟨gb137, 0, none⟩ = some (.slice A0_0 l0_0.length c0_0) := (blk_cell BK137.out 0).trans rfl
            have hcz7_1 : wr.cell? ⟨gb137, 1, none⟩ = some (.int .i64 a0_1) := (blk_cell BK137.out 1).trans rfl
            have hcz7_2 : wr.cell? ⟨gb137, 2, none⟩ = some (.string a0_2) := (blk_cell BK137.out 2).trans rfl
            have hcz7_3 : wr.cell? ⟨gb137, 3, none⟩ = some (.int .u32 a0_3) := (blk_cell BK137.out 3).trans rfl
            have hcz7_4 : wr.cell? ⟨gb137, 4, none⟩ = some (.bool a0_4) := (blk_cell BK137.out 4).trans rfl
            have hfz7_0 := blk_frozen BK137.out 0
            have hfz7_1 := blk_frozen BK137.out 1
            have hfz7_2 := blk_frozen BK137.out 2
            have hfz7_3 := blk_frozen BK137.out 3
            have hfz7_4 := blk_frozen BK137.out 4
            have p138 : 0 ≤ (x5_1 : Int) := of_decide_eq_true (by first | (with_reducible assumption) | assumption)
            have q138 : x5_1 < (l0_0.length : Int) := of_decide_eq_true (by first | (with_reducible assumption) | assumption)
            obtain ⟨ad138, e138, hx138_0, hx138_1⟩ := at_T37 HR0_0.out x5_1 p138 q138
            cases e138
            replace hx138_0 := (HB.out.cell (World.block_lt_of_cell? w _ hx138_0)).trans hx138_0
            replace hx138_1 := (HB.out.cell (World.block_lt_of_cell? w _ hx138_1)).trans hx138_1
            replace p138 := eq_true p138
            replace q138 := eq_true q138
            go_wp2
            go_ret
            exact ⟨by first | rfl | (simp [errW_none, errW_some] <;> rfl) | (simp [*, errW_none, errW_some] <;> rfl) | (simp [bt, *]; done) | (unfold bt; simp [*]; done), by repeat (first | (with_reducible first | exact HB.out | apply below_alloc | apply pw_below_drewN | apply below_drew1 | refine below_set ?_ GE137.out) | exact HB.out)⟩
          · rw [if_neg c6] at H
            have c6b0 : (((rd_T37 l0_0 x5_1).f0).toList == a1.toList) = false := beq_eq_false_iff_ne.mpr c6
            have c6b1 : (((rd_T37 l0_0 x5_1).f0).toList != a1.toList) = true := bne_iff_ne.mpr c6
            have H' := Aside0.mk H
            clear H
            have hcz8_0 : wr.cell? ⟨gb137, 0, none⟩ = some (.slice A0_0 l0_0.length c0_0) := (blk_cell BK137.out 0).trans rfl
            have hcz8_1 : wr.cell? ⟨gb137, 1, none⟩ = some (.int .i64 a0_1) := (blk_cell BK137.out 1).trans rfl
            have hcz8_2 : wr.cell? ⟨gb137, 2, none⟩ = some (.string a0_2) := (blk_cell BK137.out 2).trans rfl
            have hcz8_3 : wr.cell? ⟨gb137, 3, none⟩ = some (.int .u32 a0_3) := (blk_cell BK137.out 3).trans rfl
            have hcz8_4 : wr.cell? ⟨gb137, 4, none⟩ = some (.bool a0_4) := (blk_cell BK137.out 4).trans rfl
            have hfz8_0 := blk_frozen BK137.out 0
            have hfz8_1 := blk_frozen BK137.out 1
            have hfz8_2 := blk_frozen BK137.out 2
            have hfz8_3 := blk_frozen BK137.out 3
            have hfz8_4 := blk_frozen BK137.out 4
            have p138 : 0 ≤ (x5_1 : Int) := of_decide_eq_true (by first | (with_reducible assumption) | assumption)
            have q138 : x5_1 < (l0_0.length : Int) := of_decide_eq_true (by first | (with_reducible assumption) | assumption)
            obtain ⟨ad138, e138, hx138_0, hx138_1⟩ := at_T37 HR0_0.out x5_1 p138 q138
            cases e138
            replace hx138_0 := (HB.out.cell (World.block_lt_of_cell? w _ hx138_0)).trans hx138_0
            replace hx138_1 := (HB.out.cell (World.block_lt_of_cell? w _ hx138_1)).trans hx138_1
            replace p138 := eq_true p138
            replace q138 := eq_true q138
            go_wp2
            go_roundg k1
            case measure => have := HK1.out; omega
            case rel => exact ⟨(wrap64 (x5_1 + 1)), (by first | rfl | (simp; done) | (simp [*]; done)), H', ⟨by have := HK1.out; omega⟩, ⟨by (with_reducible repeat (first | refine blk_drewN ?_ _ | refine blk_drew ?_ | refine blk_alloc ?_ _)); exact BK137.out⟩, ⟨by repeat (first | (with_reducible first | exact HB.out | apply below_alloc | apply pw_below_drewN | apply below_drew1 | refine below_set ?_ GE137.out) | exact HB.out)⟩⟩
        · rw [if_neg c5] at H
          exact absurd H (by simp)
      · rw [if_neg c4] at H
        have c4b0 : decide (x5_1 < (l0_0.length : Int)) = false := decide_eq_false c4
        clear c4
        obtain rfl := Option.some.inj H
        have hcz9_0 : wr.cell? ⟨gb137, 0, none⟩ = some (.slice A0_0 l0_0.length c0_0) := (blk_cell BK137.out 0).trans rfl
        have hcz9_1 : wr.cell? ⟨gb137, 1, none⟩ = some (.int .i64 a0_1) := (blk_cell BK137.out 1).trans rfl
        have hcz9_2 : wr.cell? ⟨gb137, 2, none⟩ = some (.string a0_2) := (blk_cell BK137.out 2).trans rfl
        have hcz9_3 : wr.cell? ⟨gb137, 3, none⟩ = some (.int .u32 a0_3) := (blk_cell BK137.out 3).trans rfl
        have hcz9_4 : wr.cell? ⟨gb137, 4, none⟩ = some (.bool a0_4) := (blk_cell BK137.out 4).trans rfl
        have hfz9_0 := blk_frozen BK137.out 0
        have hfz9_1 := blk_frozen BK137.out 1
        have hfz9_2 := blk_frozen BK137.out 2
        have hfz9_3 := blk_frozen BK137.out 3
        have hfz9_4 := blk_frozen BK137.out 4
        go_wp2
        go_ret
        exact ⟨by first | rfl | (simp [errW_none, errW_some] <;> rfl) | (simp [*, errW_none, errW_some] <;> rfl) | (simp [bt, *]; done) | (unfold bt; simp [*]; done), by repeat (first | (with_reducible first | exact HB.out | apply below_alloc | apply pw_below_drewN | apply below_drew1 | refine below_set ?_ GE137.out) | exact HB.out)⟩

end Go.Proofs.YtflbeoejkbnhmaaDoor.P
