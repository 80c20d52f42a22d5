-- written by this session's patched copy of the printer (wip/tools/patch_print.py); Lean checks it
import Derived.Test.YtkjdbdjbfoookaaPx0
import Derived.Test.YtkjdbdjbfoookaaPx1
namespace Go.Proofs.Ytkjdbdjbfoookaa.P
open Go.RowKit Go.Proofs.YtkjdbdjbfoookaaW.PrintWords Go.Proofs.YtkjdbdjbfoookaaW.PrintLast Go.Proofs.YtkjdbdjbfoookaaW.PrintMore
attribute [local go_sem] max2_int min2_int max_two min_two max_three min_three max_four min_four   -- for this text's walks alone
set_option linter.unusedVariables false
set_option linter.unusedSimpArgs false

/-! ### fields_Bits: function 23 -/
def fields_Bits.f (a0 : Int) (a1 : Int) (a2 : Int) : Option (Int) :=
  if a1 < 0 then some 0 else if a2 < 1 then some 0 else if 64 < a2 then some 0 else if 64 - a2 < a1 then some 0 else some (shr .u64 (shl .u64 a0 (64 - a2 - a1)) (64 - a2))
set_option maxHeartbeats 4000000 in
set_option maxRecDepth 100000 in
theorem fields_Bits.calls (a0 : Int) (a1 : Int) (a2 : Int) (r : Int) (w : World) (h : fields_Bits.f a0 a1 a2 = some r) :
    Calls Try.prog 23 #[.int .u64 a0, .int .i64 a1, .int .i64 a2] w fun e w' => e = .returned (.int .u64 r) ∧ Drawn0 w w' := by
  unfold fields_Bits.f at h
  by_cases h1 : a1 < 0
  · rw [if_pos h1] at h
    obtain rfl := Option.some.inj h
    clear h
    go_enter Try.func23, Try.ntmps23
    go_wp2
    go_ret
    exact ⟨rfl, Drawn0.refl _⟩
  · rw [if_neg h1] at h
    by_cases h2 : a2 < 1
    · rw [if_pos h2] at h
      obtain rfl := Option.some.inj h
      clear h
      go_enter Try.func23, Try.ntmps23
      go_wp2
      go_ret
      exact ⟨rfl, Drawn0.refl _⟩
    · rw [if_neg h2] at h
      by_cases h3 : 64 < a2
      · rw [if_pos h3] at h
        obtain rfl := Option.some.inj h
        clear h
        go_enter Try.func23, Try.ntmps23
        go_wp2
        go_ret
        exact ⟨rfl, Drawn0.refl _⟩
      · rw [if_neg h3] at h
        by_cases h4 : 64 - a2 < a1
        · rw [if_pos h4] at h
          obtain rfl := Option.some.inj h
          clear h
          go_enter Try.func23, Try.ntmps23
          go_wp2
          go_ret
          exact ⟨rfl, Drawn0.refl _⟩
        · rw [if_neg h4] at h
          have e1 : min (64 - a2 - a1).toNat 64 = (64 - a2 - a1).toNat := by omega
          have e2 : min (64 - a2).toNat 64 = (64 - a2).toNat := by omega
          have e : r = IntKind.u64.wrap (a0 * 2 ^ (64 - a2 - a1).toNat) / 2 ^ (64 - a2).toNat := by
            have := Option.some.inj h
            rw [← this]
            unfold shr shl
            rw [show IntKind.u64.bits = 64 from rfl, e1, e2]
          have HE := Aside0.mk e
          clear h e e1 e2
          have b1 : 0 ≤ 64 - a2 - a1 := by omega
          have b2 : 64 - a2 - a1 ≤ 64 := by omega
          have b3 : 0 ≤ 64 - a2 := by omega
          have b4 : 64 - a2 ≤ 64 := by omega
          go_enter Try.func23, Try.ntmps23
          go_wp2
          go_ret
          exact ⟨by rw [HE.out]; rfl, Drawn0.refl _⟩

/-! ### headgatelaw01_FieldsParts: function 8 -/
def headgatelaw01_FieldsParts.j0 : Nat → ByteArray → Int → Int → Int → Bool → Option (Bool)
  | 0, _, _, _, _, _ => none
  | k + 1, x0, x1, x7, x8, x44 => if x44 = true then ((headgatelaw01_wakes.f k).bind fun t184 => (some t184)) else (if (IntKind.u64.wrap (wrap64 ((wrap64 ((wrap64 ((x0.size : Int) - x7)) - x8)) + 1))) = 0 then (none) else ((fields_Big.f k x0 (wrap64 (Int.tmod (IntKind.u64.wrap (x1)) (IntKind.u64.wrap (wrap64 ((wrap64 ((wrap64 ((x0.size : Int) - x7)) - x8)) + 1))))) (wrap64 (x7 + x8))).bind fun bt185 => ((fields_Big.f k x0 (wrap64 (Int.tmod (IntKind.u64.wrap (x1)) (IntKind.u64.wrap (wrap64 ((wrap64 ((wrap64 ((x0.size : Int) - x7)) - x8)) + 1))))) x7).bind fun bt187 => ((fields_Big.f k x0 (wrap64 ((wrap64 (Int.tmod (IntKind.u64.wrap (x1)) (IntKind.u64.wrap (wrap64 ((wrap64 ((wrap64 ((x0.size : Int) - x7)) - x8)) + 1))))) + x7)) x8).bind fun bt189 => ((fields_Little.f k x0 (wrap64 (Int.tmod (IntKind.u64.wrap (x1)) (IntKind.u64.wrap (wrap64 ((wrap64 ((wrap64 ((x0.size : Int) - x7)) - x8)) + 1))))) (wrap64 (x7 + x8))).bind fun bt191 => ((fields_Little.f k x0 (wrap64 (Int.tmod (IntKind.u64.wrap (x1)) (IntKind.u64.wrap (wrap64 ((wrap64 ((wrap64 ((x0.size : Int) - x7)) - x8)) + 1))))) x7).bind fun bt193 => ((fields_Little.f k x0 (wrap64 ((wrap64 (Int.tmod (IntKind.u64.wrap (x1)) (IntKind.u64.wrap (wrap64 ((wrap64 ((wrap64 ((x0.size : Int) - x7)) - x8)) + 1))))) + x7)) x8).bind fun bt195 => (if bt185.2 = true then (if bt187.2 = true then (if bt189.2 = true then (if 0 ≤ (IntKind.u64.wrap (8 * (IntKind.u64.wrap (x8)))) then (if bt185.1 = (Go.bits .or .u64 (shl .u64 bt187.1 (IntKind.u64.wrap (8 * (IntKind.u64.wrap (x8))))) bt189.1) then (if 0 ≤ (IntKind.u64.wrap (8 * (IntKind.u64.wrap (x7)))) then (if bt191.1 = (Go.bits .or .u64 (shl .u64 bt195.1 (IntKind.u64.wrap (8 * (IntKind.u64.wrap (x7))))) bt193.1) then ((fields_Bits.f bt185.1 (wrap64 (8 * x8)) (wrap64 (8 * x7))).bind fun t197 => (if t197 = bt187.1 then ((headgatelaw01_wakes.f k).bind fun t198 => (some t198)) else (some false))) else (some false)) else (none)) else (some false)) else (none)) else (some false)) else (some false)) else (some false)))))))))
def headgatelaw01_FieldsParts.f (k : Nat) (a0 : ByteArray) (a1 : Int) (a2_0 : Int) (a2_1 : Int) : Option (Bool) := if (a0.size : Int) > 100000 then (headgatelaw01_FieldsParts.j0 k a0 a1 (wrap64 (1 + (wrap64 (Int.tmod (IntKind.u64.wrap (a2_0)) 4)))) (wrap64 (1 + (wrap64 (Int.tmod (IntKind.u64.wrap (a2_1)) 4)))) true) else (headgatelaw01_FieldsParts.j0 k a0 a1 (wrap64 (1 + (wrap64 (Int.tmod (IntKind.u64.wrap (a2_0)) 4)))) (wrap64 (1 + (wrap64 (Int.tmod (IntKind.u64.wrap (a2_1)) 4)))) (decide ((a0.size : Int) < (wrap64 ((wrap64 (1 + (wrap64 (Int.tmod (IntKind.u64.wrap (a2_0)) 4)))) + (wrap64 (1 + (wrap64 (Int.tmod (IntKind.u64.wrap (a2_1)) 4)))))))))
theorem headgatelaw01_FieldsParts.mono_l : ∀ k, (∀ y0 y1 y2 y3 y4, LeO (headgatelaw01_FieldsParts.j0 k y0 y1 y2 y3 y4) (headgatelaw01_FieldsParts.j0 (k + 1) y0 y1 y2 y3 y4))
  | 0 => fun _ _ _ _ _ r h => by simp [headgatelaw01_FieldsParts.j0] at h
  | k + 1 => by
    have ih0 := headgatelaw01_FieldsParts.mono_l k
    · intro y0 y1 y2 y3 y4
      unfold headgatelaw01_FieldsParts.j0
      repeat' first
      | (with_reducible exact ih0 _ _ _ _ _)
      | (with_reducible exact fields_Big.mono _ _ _ _)
      | (with_reducible exact fields_Little.mono _ _ _ _)
      | (with_reducible exact headgatelaw01_wakes.mono _)
      | (with_reducible exact LeO.refl _)
      | (with_reducible exact LeO.none _)
      | (with_reducible refine LeO.ite ?_ ?_)
      | (with_reducible refine LeO.bind ?_ (fun _ => ?_))
      | exact ih0 _ _ _ _ _
      | exact fields_Big.mono _ _ _ _
      | exact fields_Little.mono _ _ _ _
      | exact headgatelaw01_wakes.mono _
      | exact LeO.none _
      | refine LeO.ite ?_ ?_
      | refine LeO.bind ?_ (fun _ => ?_)
theorem headgatelaw01_FieldsParts.mono : ∀ a0 a1 a2 a3 k, LeO (headgatelaw01_FieldsParts.f k a0 a1 a2 a3) (headgatelaw01_FieldsParts.f (k + 1) a0 a1 a2 a3) := by
  intro a0 a1 a2 a3 k
  have ih0 := headgatelaw01_FieldsParts.mono_l k
  unfold headgatelaw01_FieldsParts.f
  repeat' first
      | (with_reducible exact ih0 _ _ _ _ _)
      | (with_reducible exact fields_Big.mono _ _ _ _)
      | (with_reducible exact fields_Little.mono _ _ _ _)
      | (with_reducible exact headgatelaw01_wakes.mono _)
      | (with_reducible exact LeO.refl _)
      | (with_reducible exact LeO.none _)
      | (with_reducible refine LeO.ite ?_ ?_)
      | (with_reducible refine LeO.bind ?_ (fun _ => ?_))
      | exact ih0 _ _ _ _ _
      | exact fields_Big.mono _ _ _ _
      | exact fields_Little.mono _ _ _ _
      | exact headgatelaw01_wakes.mono _
      | exact LeO.none _
      | refine LeO.ite ?_ ?_
      | refine LeO.bind ?_ (fun _ => ?_)
set_option maxHeartbeats 8000000 in
set_option maxRecDepth 100000 in
theorem headgatelaw01_FieldsParts.calls (k : Nat) (a0 : ByteArray) (a1 : Int) (a2_0 : Int) (a2_1 : Int) (r : Bool) (w : World) (hT : r = true) (h : headgatelaw01_FieldsParts.f k a0 a1 a2_0 a2_1 = some r) :
    Calls Try.prog 8 #[.string a0, .int .i64 a1, .agg #[.int .i64 a2_0, .int .i64 a2_1]] w fun e w' => e = .returned (.bool r) ∧ Below w.heap.size w w' := by
  have hu35 := Try.underlying35
  have HT0 := Aside0.mk hT
  clear hT
  have HB := Aside0.mk (Below.refl w.heap.size w)
  have H : (if (a0.size : Int) > 100000 then (headgatelaw01_FieldsParts.j0 k a0 a1 (wrap64 (1 + (wrap64 (Int.tmod (IntKind.u64.wrap (a2_0)) 4)))) (wrap64 (1 + (wrap64 (Int.tmod (IntKind.u64.wrap (a2_1)) 4)))) true) else (headgatelaw01_FieldsParts.j0 k a0 a1 (wrap64 (1 + (wrap64 (Int.tmod (IntKind.u64.wrap (a2_0)) 4)))) (wrap64 (1 + (wrap64 (Int.tmod (IntKind.u64.wrap (a2_1)) 4)))) (decide ((a0.size : Int) < (wrap64 ((wrap64 (1 + (wrap64 (Int.tmod (IntKind.u64.wrap (a2_0)) 4)))) + (wrap64 (1 + (wrap64 (Int.tmod (IntKind.u64.wrap (a2_1)) 4)))))))))) = some r := h
  clear h
  have HC4 := Aside0.mk H
  clear H
  go_enter Try.func8, Try.ntmps8
  go_upto_region 2 with (first | ((with_reducible refine gate_dst (N := 5) rfl ?_); (try (refine gate_guard (by rfl) ?_; dsimp only)); refine box_event ?hg (N := 5) ?hd (cs := #[.int .i64 a2_0, .int .i64 a2_1]) (t := 35) ?hr ?_; (case hd => rfl); (case hg => rfl); (case hr => first | (go_simp; done) | (go_simp; rfl)); intro gb183 hg w5 hbox hb; have n0_ := Aside0.mk (below_step (by repeat (first | (with_reducible first | exact HB.out | apply below_alloc | apply pw_below_drewN | apply below_drew1) | exact HB.out)) hb); have n1_ := Aside0.mk (hbox); have n2_ := Aside0.mk ((by rw [hg]; exact (below_size (by repeat (first | (with_reducible first | exact HB.out | apply below_alloc | apply pw_below_drewN | apply below_drew1) | exact HB.out))) : w.heap.size ≤ gb183)); have n3_ := Aside0.mk ((by rw [hg]; exact (below_size (by repeat (first | (with_reducible first | exact HB.out | apply below_alloc | apply pw_below_drewN | apply below_drew1) | exact HB.out))) : w.heap.size ≤ gb183)); clear HB; have HB := n0_; have BK183 := n1_; have GW183 := n2_; have GE183 := n3_; clear n0_ n1_ n2_ n3_; clear hb hbox hg; have hcz6_0 : w5.cell? ⟨gb183, 0, none⟩ = some (.int .i64 a2_0) := (blk_cell BK183.out 0).trans rfl; have hcz6_1 : w5.cell? ⟨gb183, 1, none⟩ = some (.int .i64 a2_1) := (blk_cell BK183.out 1).trans rfl; have hfz6_0 := blk_frozen BK183.out 0; have hfz6_1 := blk_frozen BK183.out 1))
  repeat (go_quiet (first | ((with_reducible refine gate_dst (N := 5) rfl ?_); (try (refine gate_guard (by rfl) ?_; dsimp only)); refine box_event ?hg (N := 5) ?hd (cs := #[.int .i64 a2_0, .int .i64 a2_1]) (t := 35) ?hr ?_; (case hd => rfl); (case hg => rfl); (case hr => first | (go_simp; done) | (go_simp; rfl)); intro gb183 hg w5 hbox hb; have n0_ := Aside0.mk (below_step (by repeat (first | (with_reducible first | exact HB.out | apply below_alloc | apply pw_below_drewN | apply below_drew1) | exact HB.out)) hb); have n1_ := Aside0.mk (hbox); have n2_ := Aside0.mk ((by rw [hg]; exact (below_size (by repeat (first | (with_reducible first | exact HB.out | apply below_alloc | apply pw_below_drewN | apply below_drew1) | exact HB.out))) : w.heap.size ≤ gb183)); have n3_ := Aside0.mk ((by rw [hg]; exact (below_size (by repeat (first | (with_reducible first | exact HB.out | apply below_alloc | apply pw_below_drewN | apply below_drew1) | exact HB.out))) : w.heap.size ≤ gb183)); clear HB; have HB := n0_; have BK183 := n1_; have GW183 := n2_; have GE183 := n3_; clear n0_ n1_ n2_ n3_; clear hb hbox hg; have hcz6_0 : w5.cell? ⟨gb183, 0, none⟩ = some (.int .i64 a2_0) := (blk_cell BK183.out 0).trans rfl; have hcz6_1 : w5.cell? ⟨gb183, 1, none⟩ = some (.int .i64 a2_1) := (blk_cell BK183.out 1).trans rfl; have hfz6_0 := blk_frozen BK183.out 0; have hfz6_1 := blk_frozen BK183.out 1)); go_upto_region 2 with (first | ((with_reducible refine gate_dst (N := 5) rfl ?_); (try (refine gate_guard (by rfl) ?_; dsimp only)); refine box_event ?hg (N := 5) ?hd (cs := #[.int .i64 a2_0, .int .i64 a2_1]) (t := 35) ?hr ?_; (case hd => rfl); (case hg => rfl); (case hr => first | (go_simp; done) | (go_simp; rfl)); intro gb183 hg w5 hbox hb; have n0_ := Aside0.mk (below_step (by repeat (first | (with_reducible first | exact HB.out | apply below_alloc | apply pw_below_drewN | apply below_drew1) | exact HB.out)) hb); have n1_ := Aside0.mk (hbox); have n2_ := Aside0.mk ((by rw [hg]; exact (below_size (by repeat (first | (with_reducible first | exact HB.out | apply below_alloc | apply pw_below_drewN | apply below_drew1) | exact HB.out))) : w.heap.size ≤ gb183)); have n3_ := Aside0.mk ((by rw [hg]; exact (below_size (by repeat (first | (with_reducible first | exact HB.out | apply below_alloc | apply pw_below_drewN | apply below_drew1) | exact HB.out))) : w.heap.size ≤ gb183)); clear HB; have HB := n0_; have BK183 := n1_; have GW183 := n2_; have GE183 := n3_; clear n0_ n1_ n2_ n3_; clear hb hbox hg; have hcz6_0 : w5.cell? ⟨gb183, 0, none⟩ = some (.int .i64 a2_0) := (blk_cell BK183.out 0).trans rfl; have hcz6_1 : w5.cell? ⟨gb183, 1, none⟩ = some (.int .i64 a2_1) := (blk_cell BK183.out 1).trans rfl; have hfz6_0 := blk_frozen BK183.out 0; have hfz6_1 := blk_frozen BK183.out 1)))
  (try simp only [Act.put, List.setIfInBounds_toArray, List.set_cons_zero, List.set_cons_succ])
  go_cut [44] (fun v44 wc => ∃ (kq : Nat) (x44_3 : Bool), v44 = .bool x44_3 ∧ Aside0 (headgatelaw01_FieldsParts.j0 kq a0 a1 (wrap64 (1 + (wrap64 (Int.tmod (IntKind.u64.wrap (a2_0)) 4)))) (wrap64 (1 + (wrap64 (Int.tmod (IntKind.u64.wrap (a2_1)) 4)))) x44_3 = some r) ∧ Aside0 (kq ≤ k) ∧ Aside0 (wc.heap[gb183]? = some (.cells #[.int .i64 a2_0, .int .i64 a2_1] 35 (0, 0))) ∧ Aside0 (Below w.heap.size w wc))
  case first =>
    have H := HC4.out
    clear HC4
    by_cases c7 : (a0.size : Int) > 100000
    · rw [if_pos c7] at H
      have c7b0 : decide (100000 < (a0.size : Int)) = true := decide_eq_true c7
      have c7b1 : decide (100000 < a0.size) = true := decide_eq_true (by omega)
      clear c7
      (first | rw [c7b0] | (simp only [i64_w, i32_w]; rw [c7b0]) | skip)
      have H' := Aside0.mk H
      clear H
      go_wp2
      repeat (go_quiet (fail); try go_wp2)
      go_meet
      case rel => exact ⟨_, (true), (by first | rfl | (simp; done) | (simp [*]; done)), H', ⟨by first | omega | exact Nat.le_refl _⟩, ⟨by (with_reducible repeat (first | refine blk_drewN ?_ _ | refine blk_drew ?_ | refine blk_alloc ?_ _)); exact BK183.out⟩, ⟨by repeat (first | (with_reducible first | exact HB.out | apply below_alloc | apply pw_below_drewN | apply below_drew1 | refine below_set ?_ GE183.out) | exact HB.out)⟩⟩
    · rw [if_neg c7] at H
      have c7b0 : decide (100000 < (a0.size : Int)) = false := decide_eq_false c7
      have c7b1 : decide (100000 < a0.size) = false := decide_eq_false (by omega)
      clear c7
      (first | rw [c7b0] | (simp only [i64_w, i32_w]; rw [c7b0]) | skip)
      have H' := Aside0.mk H
      clear H
      go_wp2
      repeat (go_quiet (fail); try go_wp2)
      go_meet
      case rel => exact ⟨_, (decide ((a0.size : Int) < (wrap64 ((wrap64 (1 + (wrap64 (Int.tmod (IntKind.u64.wrap (a2_0)) 4)))) + (wrap64 (1 + (wrap64 (Int.tmod (IntKind.u64.wrap (a2_1)) 4)))))))), (by first | rfl | (simp; done) | (simp [*]; done)), H', ⟨by first | omega | exact Nat.le_refl _⟩, ⟨by (with_reducible repeat (first | refine blk_drewN ?_ _ | refine blk_drew ?_ | refine blk_alloc ?_ _)); exact BK183.out⟩, ⟨by repeat (first | (with_reducible first | exact HB.out | apply below_alloc | apply pw_below_drewN | apply below_drew1 | refine below_set ?_ GE183.out) | exact HB.out)⟩⟩
  case rest =>
    clear HC4
    try clear p2
    try clear p6
    try clear c7
    try clear c7b0
    try clear c7b1
    try clear hcz6_0
    try clear hcz6_1
    try clear hfz6_0
    try clear hfz6_1
    obtain ⟨kq, x44_3, rfl, HA, HJ3, BK183, HB⟩ := hcut
    cases kq with
    | zero => exact absurd HA.out (by simp [headgatelaw01_FieldsParts.j0])
    | succ kj3 =>
      have H := HA.out
      clear HA
      simp only [headgatelaw01_FieldsParts.j0] at H
      by_cases c8 : x44_3 = true
      · subst c8
        have H1 : ((headgatelaw01_wakes.f kj3).bind fun t184 => (some t184)) = some r := by rw [if_pos rfl] at H; exact H
        clear H
        have H := H1
        clear H1
        replace H := Option.bind_eq_some_iff.mp H
        obtain ⟨t184, A90, H⟩ := H
        replace H : (some t184) = some r := H
        have A9 := Aside0.mk A90
        clear A90
        obtain rfl := Option.some.inj H
        go_wp2_with (first | (go_at_call 10; (with_reducible refine (headgatelaw01_wakes.calls kj3  t184 _ A9.out).mono ?_); rintro e w10 ⟨rfl, hb⟩; have n0_ := Aside0.mk (blk_below (g := gb183) (o := .cells #[.int .i64 a2_0, .int .i64 a2_1] 35 (0, 0)) (by (with_reducible repeat (first | refine blk_drewN ?_ _ | refine blk_drew ?_ | refine blk_alloc ?_ _)); exact BK183.out) hb); have n1_ := Aside0.mk (below_step (by repeat (first | (with_reducible first | exact HB.out | apply below_alloc | apply pw_below_drewN | apply below_drew1 | refine below_set ?_ GE183.out) | exact HB.out)) hb); clear BK183; clear HB; have BK183 := n0_; have HB := n1_; clear n0_ n1_; (try clear hb); (try clear hb2); (try clear hk); (try clear hi)))
        repeat (go_quiet (first | (go_at_call 10; (with_reducible refine (headgatelaw01_wakes.calls kj3  t184 _ A9.out).mono ?_); rintro e w10 ⟨rfl, hb⟩; have n0_ := Aside0.mk (blk_below (g := gb183) (o := .cells #[.int .i64 a2_0, .int .i64 a2_1] 35 (0, 0)) (by (with_reducible repeat (first | refine blk_drewN ?_ _ | refine blk_drew ?_ | refine blk_alloc ?_ _)); exact BK183.out) hb); have n1_ := Aside0.mk (below_step (by repeat (first | (with_reducible first | exact HB.out | apply below_alloc | apply pw_below_drewN | apply below_drew1 | refine below_set ?_ GE183.out) | exact HB.out)) hb); clear BK183; clear HB; have BK183 := n0_; have HB := n1_; clear n0_ n1_; (try clear hb); (try clear hb2); (try clear hk); (try clear hi))); try go_wp2_with (first | (go_at_call 10; (with_reducible refine (headgatelaw01_wakes.calls kj3  t184 _ A9.out).mono ?_); rintro e w10 ⟨rfl, hb⟩; have n0_ := Aside0.mk (blk_below (g := gb183) (o := .cells #[.int .i64 a2_0, .int .i64 a2_1] 35 (0, 0)) (by (with_reducible repeat (first | refine blk_drewN ?_ _ | refine blk_drew ?_ | refine blk_alloc ?_ _)); exact BK183.out) hb); have n1_ := Aside0.mk (below_step (by repeat (first | (with_reducible first | exact HB.out | apply below_alloc | apply pw_below_drewN | apply below_drew1 | refine below_set ?_ GE183.out) | exact HB.out)) hb); clear BK183; clear HB; have BK183 := n0_; have HB := n1_; clear n0_ n1_; (try clear hb); (try clear hb2); (try clear hk); (try clear hi))))
        go_ret
        exact ⟨by first | rfl | (simp [errW_none, errW_some] <;> rfl) | (simp [*, errW_none, errW_some] <;> rfl), by repeat (first | (with_reducible first | exact HB.out | apply below_alloc | apply pw_below_drewN | apply below_drew1 | refine below_set ?_ GE183.out) | exact HB.out)⟩
      · replace c8 := Bool.eq_false_iff.mpr c8
        subst c8
        have H1 : (if (IntKind.u64.wrap (wrap64 ((wrap64 ((wrap64 ((a0.size : Int) - (wrap64 (1 + (wrap64 (Int.tmod (IntKind.u64.wrap (a2_0)) 4)))))) - (wrap64 (1 + (wrap64 (Int.tmod (IntKind.u64.wrap (a2_1)) 4)))))) + 1))) = 0 then (none) else ((fields_Big.f kj3 a0 (wrap64 (Int.tmod (IntKind.u64.wrap (a1)) (IntKind.u64.wrap (wrap64 ((wrap64 ((wrap64 ((a0.size : Int) - (wrap64 (1 + (wrap64 (Int.tmod (IntKind.u64.wrap (a2_0)) 4)))))) - (wrap64 (1 + (wrap64 (Int.tmod (IntKind.u64.wrap (a2_1)) 4)))))) + 1))))) (wrap64 ((wrap64 (1 + (wrap64 (Int.tmod (IntKind.u64.wrap (a2_0)) 4)))) + (wrap64 (1 + (wrap64 (Int.tmod (IntKind.u64.wrap (a2_1)) 4))))))).bind fun bt185 => ((fields_Big.f kj3 a0 (wrap64 (Int.tmod (IntKind.u64.wrap (a1)) (IntKind.u64.wrap (wrap64 ((wrap64 ((wrap64 ((a0.size : Int) - (wrap64 (1 + (wrap64 (Int.tmod (IntKind.u64.wrap (a2_0)) 4)))))) - (wrap64 (1 + (wrap64 (Int.tmod (IntKind.u64.wrap (a2_1)) 4)))))) + 1))))) (wrap64 (1 + (wrap64 (Int.tmod (IntKind.u64.wrap (a2_0)) 4))))).bind fun bt187 => ((fields_Big.f kj3 a0 (wrap64 ((wrap64 (Int.tmod (IntKind.u64.wrap (a1)) (IntKind.u64.wrap (wrap64 ((wrap64 ((wrap64 ((a0.size : Int) - (wrap64 (1 + (wrap64 (Int.tmod (IntKind.u64.wrap (a2_0)) 4)))))) - (wrap64 (1 + (wrap64 (Int.tmod (IntKind.u64.wrap (a2_1)) 4)))))) + 1))))) + (wrap64 (1 + (wrap64 (Int.tmod (IntKind.u64.wrap (a2_0)) 4)))))) (wrap64 (1 + (wrap64 (Int.tmod (IntKind.u64.wrap (a2_1)) 4))))).bind fun bt189 => ((fields_Little.f kj3 a0 (wrap64 (Int.tmod (IntKind.u64.wrap (a1)) (IntKind.u64.wrap (wrap64 ((wrap64 ((wrap64 ((a0.size : Int) - (wrap64 (1 + (wrap64 (Int.tmod (IntKind.u64.wrap (a2_0)) 4)))))) - (wrap64 (1 + (wrap64 (Int.tmod (IntKind.u64.wrap (a2_1)) 4)))))) + 1))))) (wrap64 ((wrap64 (1 + (wrap64 (Int.tmod (IntKind.u64.wrap (a2_0)) 4)))) + (wrap64 (1 + (wrap64 (Int.tmod (IntKind.u64.wrap (a2_1)) 4))))))).bind fun bt191 => ((fields_Little.f kj3 a0 (wrap64 (Int.tmod (IntKind.u64.wrap (a1)) (IntKind.u64.wrap (wrap64 ((wrap64 ((wrap64 ((a0.size : Int) - (wrap64 (1 + (wrap64 (Int.tmod (IntKind.u64.wrap (a2_0)) 4)))))) - (wrap64 (1 + (wrap64 (Int.tmod (IntKind.u64.wrap (a2_1)) 4)))))) + 1))))) (wrap64 (1 + (wrap64 (Int.tmod (IntKind.u64.wrap (a2_0)) 4))))).bind fun bt193 => ((fields_Little.f kj3 a0 (wrap64 ((wrap64 (Int.tmod (IntKind.u64.wrap (a1)) (IntKind.u64.wrap (wrap64 ((wrap64 ((wrap64 ((a0.size : Int) - (wrap64 (1 + (wrap64 (Int.tmod (IntKind.u64.wrap (a2_0)) 4)))))) - (wrap64 (1 + (wrap64 (Int.tmod (IntKind.u64.wrap (a2_1)) 4)))))) + 1))))) + (wrap64 (1 + (wrap64 (Int.tmod (IntKind.u64.wrap (a2_0)) 4)))))) (wrap64 (1 + (wrap64 (Int.tmod (IntKind.u64.wrap (a2_1)) 4))))).bind fun bt195 => (if bt185.2 = true then (if bt187.2 = true then (if bt189.2 = true then (if 0 ≤ (IntKind.u64.wrap (8 * (IntKind.u64.wrap ((wrap64 (1 + (wrap64 (Int.tmod (IntKind.u64.wrap (a2_1)) 4)))))))) then (if bt185.1 = (Go.bits .or .u64 (shl .u64 bt187.1 (IntKind.u64.wrap (8 * (IntKind.u64.wrap ((wrap64 (1 + (wrap64 (Int.tmod (IntKind.u64.wrap (a2_1)) 4))))))))) bt189.1) then (if 0 ≤ (IntKind.u64.wrap (8 * (IntKind.u64.wrap ((wrap64 (1 + (wrap64 (Int.tmod (IntKind.u64.wrap (a2_0)) 4)))))))) then (if bt191.1 = (Go.bits .or .u64 (shl .u64 bt195.1 (IntKind.u64.wrap (8 * (IntKind.u64.wrap ((wrap64 (1 + (wrap64 (Int.tmod (IntKind.u64.wrap (a2_0)) 4))))))))) bt193.1) then ((fields_Bits.f bt185.1 (wrap64 (8 * (wrap64 (1 + (wrap64 (Int.tmod (IntKind.u64.wrap (a2_1)) 4)))))) (wrap64 (8 * (wrap64 (1 + (wrap64 (Int.tmod (IntKind.u64.wrap (a2_0)) 4))))))).bind fun t197 => (if t197 = bt187.1 then ((headgatelaw01_wakes.f kj3).bind fun t198 => (some t198)) else (some false))) else (some false)) else (none)) else (some false)) else (none)) else (some false)) else (some false)) else (some false))))))))) = some r := by rw [if_neg (show ¬ (false = true) by decide)] at H; exact H
        clear H
        have H := H1
        clear H1
        by_cases c11 : (IntKind.u64.wrap (wrap64 ((wrap64 ((wrap64 ((a0.size : Int) - (wrap64 (1 + (wrap64 (Int.tmod (IntKind.u64.wrap (a2_0)) 4)))))) - (wrap64 (1 + (wrap64 (Int.tmod (IntKind.u64.wrap (a2_1)) 4)))))) + 1))) = 0
        · rw [if_pos c11] at H
          exact absurd H (by simp)
        · rw [if_neg c11] at H
          have c11b0 : ((IntKind.u64.wrap (wrap64 ((wrap64 ((wrap64 ((a0.size : Int) - (wrap64 (1 + (wrap64 (Int.tmod (IntKind.u64.wrap (a2_0)) 4)))))) - (wrap64 (1 + (wrap64 (Int.tmod (IntKind.u64.wrap (a2_1)) 4)))))) + 1))) == 0) = false := beq_eq_false_iff_ne.mpr c11
          have c11b1 : ((IntKind.u64.wrap (wrap64 ((wrap64 ((wrap64 ((a0.size : Int) - (wrap64 (1 + (wrap64 (Int.tmod (IntKind.u64.wrap (a2_0)) 4)))))) - (wrap64 (1 + (wrap64 (Int.tmod (IntKind.u64.wrap (a2_1)) 4)))))) + 1))) != 0) = true := bne_iff_ne.mpr c11
          replace H := Option.bind_eq_some_iff.mp H
          obtain ⟨⟨t185, t186⟩, A120, H⟩ := H
          replace H : ((fields_Big.f kj3 a0 (wrap64 (Int.tmod (IntKind.u64.wrap (a1)) (IntKind.u64.wrap (wrap64 ((wrap64 ((wrap64 ((a0.size : Int) - (wrap64 (1 + (wrap64 (Int.tmod (IntKind.u64.wrap (a2_0)) 4)))))) - (wrap64 (1 + (wrap64 (Int.tmod (IntKind.u64.wrap (a2_1)) 4)))))) + 1))))) (wrap64 (1 + (wrap64 (Int.tmod (IntKind.u64.wrap (a2_0)) 4))))).bind fun bt187 => ((fields_Big.f kj3 a0 (wrap64 ((wrap64 (Int.tmod (IntKind.u64.wrap (a1)) (IntKind.u64.wrap (wrap64 ((wrap64 ((wrap64 ((a0.size : Int) - (wrap64 (1 + (wrap64 (Int.tmod (IntKind.u64.wrap (a2_0)) 4)))))) - (wrap64 (1 + (wrap64 (Int.tmod (IntKind.u64.wrap (a2_1)) 4)))))) + 1))))) + (wrap64 (1 + (wrap64 (Int.tmod (IntKind.u64.wrap (a2_0)) 4)))))) (wrap64 (1 + (wrap64 (Int.tmod (IntKind.u64.wrap (a2_1)) 4))))).bind fun bt189 => ((fields_Little.f kj3 a0 (wrap64 (Int.tmod (IntKind.u64.wrap (a1)) (IntKind.u64.wrap (wrap64 ((wrap64 ((wrap64 ((a0.size : Int) - (wrap64 (1 + (wrap64 (Int.tmod (IntKind.u64.wrap (a2_0)) 4)))))) - (wrap64 (1 + (wrap64 (Int.tmod (IntKind.u64.wrap (a2_1)) 4)))))) + 1))))) (wrap64 ((wrap64 (1 + (wrap64 (Int.tmod (IntKind.u64.wrap (a2_0)) 4)))) + (wrap64 (1 + (wrap64 (Int.tmod (IntKind.u64.wrap (a2_1)) 4))))))).bind fun bt191 => ((fields_Little.f kj3 a0 (wrap64 (Int.tmod (IntKind.u64.wrap (a1)) (IntKind.u64.wrap (wrap64 ((wrap64 ((wrap64 ((a0.size : Int) - (wrap64 (1 + (wrap64 (Int.tmod (IntKind.u64.wrap (a2_0)) 4)))))) - (wrap64 (1 + (wrap64 (Int.tmod (IntKind.u64.wrap (a2_1)) 4)))))) + 1))))) (wrap64 (1 + (wrap64 (Int.tmod (IntKind.u64.wrap (a2_0)) 4))))).bind fun bt193 => ((fields_Little.f kj3 a0 (wrap64 ((wrap64 (Int.tmod (IntKind.u64.wrap (a1)) (IntKind.u64.wrap (wrap64 ((wrap64 ((wrap64 ((a0.size : Int) - (wrap64 (1 + (wrap64 (Int.tmod (IntKind.u64.wrap (a2_0)) 4)))))) - (wrap64 (1 + (wrap64 (Int.tmod (IntKind.u64.wrap (a2_1)) 4)))))) + 1))))) + (wrap64 (1 + (wrap64 (Int.tmod (IntKind.u64.wrap (a2_0)) 4)))))) (wrap64 (1 + (wrap64 (Int.tmod (IntKind.u64.wrap (a2_1)) 4))))).bind fun bt195 => (if t186 = true then (if bt187.2 = true then (if bt189.2 = true then (if 0 ≤ (IntKind.u64.wrap (8 * (IntKind.u64.wrap ((wrap64 (1 + (wrap64 (Int.tmod (IntKind.u64.wrap (a2_1)) 4)))))))) then (if t185 = (Go.bits .or .u64 (shl .u64 bt187.1 (IntKind.u64.wrap (8 * (IntKind.u64.wrap ((wrap64 (1 + (wrap64 (Int.tmod (IntKind.u64.wrap (a2_1)) 4))))))))) bt189.1) then (if 0 ≤ (IntKind.u64.wrap (8 * (IntKind.u64.wrap ((wrap64 (1 + (wrap64 (Int.tmod (IntKind.u64.wrap (a2_0)) 4)))))))) then (if bt191.1 = (Go.bits .or .u64 (shl .u64 bt195.1 (IntKind.u64.wrap (8 * (IntKind.u64.wrap ((wrap64 (1 + (wrap64 (Int.tmod (IntKind.u64.wrap (a2_0)) 4))))))))) bt193.1) then ((fields_Bits.f t185 (wrap64 (8 * (wrap64 (1 + (wrap64 (Int.tmod (IntKind.u64.wrap (a2_1)) 4)))))) (wrap64 (8 * (wrap64 (1 + (wrap64 (Int.tmod (IntKind.u64.wrap (a2_0)) 4))))))).bind fun t197 => (if t197 = bt187.1 then ((headgatelaw01_wakes.f kj3).bind fun t198 => (some t198)) else (some false))) else (some false)) else (none)) else (some false)) else (none)) else (some false)) else (some false)) else (some false))))))) = some r := H
          have A12 := Aside0.mk A120
          clear A120
          replace H := Option.bind_eq_some_iff.mp H
          obtain ⟨⟨t187, t188⟩, A130, H⟩ := H
          replace H : ((fields_Big.f kj3 a0 (wrap64 ((wrap64 (Int.tmod (IntKind.u64.wrap (a1)) (IntKind.u64.wrap (wrap64 ((wrap64 ((wrap64 ((a0.size : Int) - (wrap64 (1 + (wrap64 (Int.tmod (IntKind.u64.wrap (a2_0)) 4)))))) - (wrap64 (1 + (wrap64 (Int.tmod (IntKind.u64.wrap (a2_1)) 4)))))) + 1))))) + (wrap64 (1 + (wrap64 (Int.tmod (IntKind.u64.wrap (a2_0)) 4)))))) (wrap64 (1 + (wrap64 (Int.tmod (IntKind.u64.wrap (a2_1)) 4))))).bind fun bt189 => ((fields_Little.f kj3 a0 (wrap64 (Int.tmod (IntKind.u64.wrap (a1)) (IntKind.u64.wrap (wrap64 ((wrap64 ((wrap64 ((a0.size : Int) - (wrap64 (1 + (wrap64 (Int.tmod (IntKind.u64.wrap (a2_0)) 4)))))) - (wrap64 (1 + (wrap64 (Int.tmod (IntKind.u64.wrap (a2_1)) 4)))))) + 1))))) (wrap64 ((wrap64 (1 + (wrap64 (Int.tmod (IntKind.u64.wrap (a2_0)) 4)))) + (wrap64 (1 + (wrap64 (Int.tmod (IntKind.u64.wrap (a2_1)) 4))))))).bind fun bt191 => ((fields_Little.f kj3 a0 (wrap64 (Int.tmod (IntKind.u64.wrap (a1)) (IntKind.u64.wrap (wrap64 ((wrap64 ((wrap64 ((a0.size : Int) - (wrap64 (1 + (wrap64 (Int.tmod (IntKind.u64.wrap (a2_0)) 4)))))) - (wrap64 (1 + (wrap64 (Int.tmod (IntKind.u64.wrap (a2_1)) 4)))))) + 1))))) (wrap64 (1 + (wrap64 (Int.tmod (IntKind.u64.wrap (a2_0)) 4))))).bind fun bt193 => ((fields_Little.f kj3 a0 (wrap64 ((wrap64 (Int.tmod (IntKind.u64.wrap (a1)) (IntKind.u64.wrap (wrap64 ((wrap64 ((wrap64 ((a0.size : Int) - (wrap64 (1 + (wrap64 (Int.tmod (IntKind.u64.wrap (a2_0)) 4)))))) - (wrap64 (1 + (wrap64 (Int.tmod (IntKind.u64.wrap (a2_1)) 4)))))) + 1))))) + (wrap64 (1 + (wrap64 (Int.tmod (IntKind.u64.wrap (a2_0)) 4)))))) (wrap64 (1 + (wrap64 (Int.tmod (IntKind.u64.wrap (a2_1)) 4))))).bind fun bt195 => (if t186 = true then (if t188 = true then (if bt189.2 = true then (if 0 ≤ (IntKind.u64.wrap (8 * (IntKind.u64.wrap ((wrap64 (1 + (wrap64 (Int.tmod (IntKind.u64.wrap (a2_1)) 4)))))))) then (if t185 = (Go.bits .or .u64 (shl .u64 t187 (IntKind.u64.wrap (8 * (IntKind.u64.wrap ((wrap64 (1 + (wrap64 (Int.tmod (IntKind.u64.wrap (a2_1)) 4))))))))) bt189.1) then (if 0 ≤ (IntKind.u64.wrap (8 * (IntKind.u64.wrap ((wrap64 (1 + (wrap64 (Int.tmod (IntKind.u64.wrap (a2_0)) 4)))))))) then (if bt191.1 = (Go.bits .or .u64 (shl .u64 bt195.1 (IntKind.u64.wrap (8 * (IntKind.u64.wrap ((wrap64 (1 + (wrap64 (Int.tmod (IntKind.u64.wrap (a2_0)) 4))))))))) bt193.1) then ((fields_Bits.f t185 (wrap64 (8 * (wrap64 (1 + (wrap64 (Int.tmod (IntKind.u64.wrap (a2_1)) 4)))))) (wrap64 (8 * (wrap64 (1 + (wrap64 (Int.tmod (IntKind.u64.wrap (a2_0)) 4))))))).bind fun t197 => (if t197 = t187 then ((headgatelaw01_wakes.f kj3).bind fun t198 => (some t198)) else (some false))) else (some false)) else (none)) else (some false)) else (none)) else (some false)) else (some false)) else (some false)))))) = some r := H
          have A13 := Aside0.mk A130
          clear A130
          replace H := Option.bind_eq_some_iff.mp H
          obtain ⟨⟨t189, t190⟩, A140, H⟩ := H
          replace H : ((fields_Little.f kj3 a0 (wrap64 (Int.tmod (IntKind.u64.wrap (a1)) (IntKind.u64.wrap (wrap64 ((wrap64 ((wrap64 ((a0.size : Int) - (wrap64 (1 + (wrap64 (Int.tmod (IntKind.u64.wrap (a2_0)) 4)))))) - (wrap64 (1 + (wrap64 (Int.tmod (IntKind.u64.wrap (a2_1)) 4)))))) + 1))))) (wrap64 ((wrap64 (1 + (wrap64 (Int.tmod (IntKind.u64.wrap (a2_0)) 4)))) + (wrap64 (1 + (wrap64 (Int.tmod (IntKind.u64.wrap (a2_1)) 4))))))).bind fun bt191 => ((fields_Little.f kj3 a0 (wrap64 (Int.tmod (IntKind.u64.wrap (a1)) (IntKind.u64.wrap (wrap64 ((wrap64 ((wrap64 ((a0.size : Int) - (wrap64 (1 + (wrap64 (Int.tmod (IntKind.u64.wrap (a2_0)) 4)))))) - (wrap64 (1 + (wrap64 (Int.tmod (IntKind.u64.wrap (a2_1)) 4)))))) + 1))))) (wrap64 (1 + (wrap64 (Int.tmod (IntKind.u64.wrap (a2_0)) 4))))).bind fun bt193 => ((fields_Little.f kj3 a0 (wrap64 ((wrap64 (Int.tmod (IntKind.u64.wrap (a1)) (IntKind.u64.wrap (wrap64 ((wrap64 ((wrap64 ((a0.size : Int) - (wrap64 (1 + (wrap64 (Int.tmod (IntKind.u64.wrap (a2_0)) 4)))))) - (wrap64 (1 + (wrap64 (Int.tmod (IntKind.u64.wrap (a2_1)) 4)))))) + 1))))) + (wrap64 (1 + (wrap64 (Int.tmod (IntKind.u64.wrap (a2_0)) 4)))))) (wrap64 (1 + (wrap64 (Int.tmod (IntKind.u64.wrap (a2_1)) 4))))).bind fun bt195 => (if t186 = true then (if t188 = true then (if t190 = true then (if 0 ≤ (IntKind.u64.wrap (8 * (IntKind.u64.wrap ((wrap64 (1 + (wrap64 (Int.tmod (IntKind.u64.wrap (a2_1)) 4)))))))) then (if t185 = (Go.bits .or .u64 (shl .u64 t187 (IntKind.u64.wrap (8 * (IntKind.u64.wrap ((wrap64 (1 + (wrap64 (Int.tmod (IntKind.u64.wrap (a2_1)) 4))))))))) t189) then (if 0 ≤ (IntKind.u64.wrap (8 * (IntKind.u64.wrap ((wrap64 (1 + (wrap64 (Int.tmod (IntKind.u64.wrap (a2_0)) 4)))))))) then (if bt191.1 = (Go.bits .or .u64 (shl .u64 bt195.1 (IntKind.u64.wrap (8 * (IntKind.u64.wrap ((wrap64 (1 + (wrap64 (Int.tmod (IntKind.u64.wrap (a2_0)) 4))))))))) bt193.1) then ((fields_Bits.f t185 (wrap64 (8 * (wrap64 (1 + (wrap64 (Int.tmod (IntKind.u64.wrap (a2_1)) 4)))))) (wrap64 (8 * (wrap64 (1 + (wrap64 (Int.tmod (IntKind.u64.wrap (a2_0)) 4))))))).bind fun t197 => (if t197 = t187 then ((headgatelaw01_wakes.f kj3).bind fun t198 => (some t198)) else (some false))) else (some false)) else (none)) else (some false)) else (none)) else (some false)) else (some false)) else (some false))))) = some r := H
          have A14 := Aside0.mk A140
          clear A140
          replace H := Option.bind_eq_some_iff.mp H
          obtain ⟨⟨t191, t192⟩, A150, H⟩ := H
          replace H : ((fields_Little.f kj3 a0 (wrap64 (Int.tmod (IntKind.u64.wrap (a1)) (IntKind.u64.wrap (wrap64 ((wrap64 ((wrap64 ((a0.size : Int) - (wrap64 (1 + (wrap64 (Int.tmod (IntKind.u64.wrap (a2_0)) 4)))))) - (wrap64 (1 + (wrap64 (Int.tmod (IntKind.u64.wrap (a2_1)) 4)))))) + 1))))) (wrap64 (1 + (wrap64 (Int.tmod (IntKind.u64.wrap (a2_0)) 4))))).bind fun bt193 => ((fields_Little.f kj3 a0 (wrap64 ((wrap64 (Int.tmod (IntKind.u64.wrap (a1)) (IntKind.u64.wrap (wrap64 ((wrap64 ((wrap64 ((a0.size : Int) - (wrap64 (1 + (wrap64 (Int.tmod (IntKind.u64.wrap (a2_0)) 4)))))) - (wrap64 (1 + (wrap64 (Int.tmod (IntKind.u64.wrap (a2_1)) 4)))))) + 1))))) + (wrap64 (1 + (wrap64 (Int.tmod (IntKind.u64.wrap (a2_0)) 4)))))) (wrap64 (1 + (wrap64 (Int.tmod (IntKind.u64.wrap (a2_1)) 4))))).bind fun bt195 => (if t186 = true then (if t188 = true then (if t190 = true then (if 0 ≤ (IntKind.u64.wrap (8 * (IntKind.u64.wrap ((wrap64 (1 + (wrap64 (Int.tmod (IntKind.u64.wrap (a2_1)) 4)))))))) then (if t185 = (Go.bits .or .u64 (shl .u64 t187 (IntKind.u64.wrap (8 * (IntKind.u64.wrap ((wrap64 (1 + (wrap64 (Int.tmod (IntKind.u64.wrap (a2_1)) 4))))))))) t189) then (if 0 ≤ (IntKind.u64.wrap (8 * (IntKind.u64.wrap ((wrap64 (1 + (wrap64 (Int.tmod (IntKind.u64.wrap (a2_0)) 4)))))))) then (if t191 = (Go.bits .or .u64 (shl .u64 bt195.1 (IntKind.u64.wrap (8 * (IntKind.u64.wrap ((wrap64 (1 + (wrap64 (Int.tmod (IntKind.u64.wrap (a2_0)) 4))))))))) bt193.1) then ((fields_Bits.f t185 (wrap64 (8 * (wrap64 (1 + (wrap64 (Int.tmod (IntKind.u64.wrap (a2_1)) 4)))))) (wrap64 (8 * (wrap64 (1 + (wrap64 (Int.tmod (IntKind.u64.wrap (a2_0)) 4))))))).bind fun t197 => (if t197 = t187 then ((headgatelaw01_wakes.f kj3).bind fun t198 => (some t198)) else (some false))) else (some false)) else (none)) else (some false)) else (none)) else (some false)) else (some false)) else (some false)))) = some r := H
          have A15 := Aside0.mk A150
          clear A150
          replace H := Option.bind_eq_some_iff.mp H
          obtain ⟨⟨t193, t194⟩, A160, H⟩ := H
          replace H : ((fields_Little.f kj3 a0 (wrap64 ((wrap64 (Int.tmod (IntKind.u64.wrap (a1)) (IntKind.u64.wrap (wrap64 ((wrap64 ((wrap64 ((a0.size : Int) - (wrap64 (1 + (wrap64 (Int.tmod (IntKind.u64.wrap (a2_0)) 4)))))) - (wrap64 (1 + (wrap64 (Int.tmod (IntKind.u64.wrap (a2_1)) 4)))))) + 1))))) + (wrap64 (1 + (wrap64 (Int.tmod (IntKind.u64.wrap (a2_0)) 4)))))) (wrap64 (1 + (wrap64 (Int.tmod (IntKind.u64.wrap (a2_1)) 4))))).bind fun bt195 => (if t186 = true then (if t188 = true then (if t190 = true then (if 0 ≤ (IntKind.u64.wrap (8 * (IntKind.u64.wrap ((wrap64 (1 + (wrap64 (Int.tmod (IntKind.u64.wrap (a2_1)) 4)))))))) then (if t185 = (Go.bits .or .u64 (shl .u64 t187 (IntKind.u64.wrap (8 * (IntKind.u64.wrap ((wrap64 (1 + (wrap64 (Int.tmod (IntKind.u64.wrap (a2_1)) 4))))))))) t189) then (if 0 ≤ (IntKind.u64.wrap (8 * (IntKind.u64.wrap ((wrap64 (1 + (wrap64 (Int.tmod (IntKind.u64.wrap (a2_0)) 4)))))))) then (if t191 = (Go.bits .or .u64 (shl .u64 bt195.1 (IntKind.u64.wrap (8 * (IntKind.u64.wrap ((wrap64 (1 + (wrap64 (Int.tmod (IntKind.u64.wrap (a2_0)) 4))))))))) t193) then ((fields_Bits.f t185 (wrap64 (8 * (wrap64 (1 + (wrap64 (Int.tmod (IntKind.u64.wrap (a2_1)) 4)))))) (wrap64 (8 * (wrap64 (1 + (wrap64 (Int.tmod (IntKind.u64.wrap (a2_0)) 4))))))).bind fun t197 => (if t197 = t187 then ((headgatelaw01_wakes.f kj3).bind fun t198 => (some t198)) else (some false))) else (some false)) else (none)) else (some false)) else (none)) else (some false)) else (some false)) else (some false))) = some r := H
          have A16 := Aside0.mk A160
          clear A160
          replace H := Option.bind_eq_some_iff.mp H
          obtain ⟨⟨t195, t196⟩, A170, H⟩ := H
          replace H : (if t186 = true then (if t188 = true then (if t190 = true then (if 0 ≤ (IntKind.u64.wrap (8 * (IntKind.u64.wrap ((wrap64 (1 + (wrap64 (Int.tmod (IntKind.u64.wrap (a2_1)) 4)))))))) then (if t185 = (Go.bits .or .u64 (shl .u64 t187 (IntKind.u64.wrap (8 * (IntKind.u64.wrap ((wrap64 (1 + (wrap64 (Int.tmod (IntKind.u64.wrap (a2_1)) 4))))))))) t189) then (if 0 ≤ (IntKind.u64.wrap (8 * (IntKind.u64.wrap ((wrap64 (1 + (wrap64 (Int.tmod (IntKind.u64.wrap (a2_0)) 4)))))))) then (if t191 = (Go.bits .or .u64 (shl .u64 t195 (IntKind.u64.wrap (8 * (IntKind.u64.wrap ((wrap64 (1 + (wrap64 (Int.tmod (IntKind.u64.wrap (a2_0)) 4))))))))) t193) then ((fields_Bits.f t185 (wrap64 (8 * (wrap64 (1 + (wrap64 (Int.tmod (IntKind.u64.wrap (a2_1)) 4)))))) (wrap64 (8 * (wrap64 (1 + (wrap64 (Int.tmod (IntKind.u64.wrap (a2_0)) 4))))))).bind fun t197 => (if t197 = t187 then ((headgatelaw01_wakes.f kj3).bind fun t198 => (some t198)) else (some false))) else (some false)) else (none)) else (some false)) else (none)) else (some false)) else (some false)) else (some false)) = some r := H
          have A17 := Aside0.mk A170
          clear A170
          by_cases c18 : t186 = true
          · subst c18
            have H1 : (if t188 = true then (if t190 = true then (if 0 ≤ (IntKind.u64.wrap (8 * (IntKind.u64.wrap ((wrap64 (1 + (wrap64 (Int.tmod (IntKind.u64.wrap (a2_1)) 4)))))))) then (if t185 = (Go.bits .or .u64 (shl .u64 t187 (IntKind.u64.wrap (8 * (IntKind.u64.wrap ((wrap64 (1 + (wrap64 (Int.tmod (IntKind.u64.wrap (a2_1)) 4))))))))) t189) then (if 0 ≤ (IntKind.u64.wrap (8 * (IntKind.u64.wrap ((wrap64 (1 + (wrap64 (Int.tmod (IntKind.u64.wrap (a2_0)) 4)))))))) then (if t191 = (Go.bits .or .u64 (shl .u64 t195 (IntKind.u64.wrap (8 * (IntKind.u64.wrap ((wrap64 (1 + (wrap64 (Int.tmod (IntKind.u64.wrap (a2_0)) 4))))))))) t193) then ((fields_Bits.f t185 (wrap64 (8 * (wrap64 (1 + (wrap64 (Int.tmod (IntKind.u64.wrap (a2_1)) 4)))))) (wrap64 (8 * (wrap64 (1 + (wrap64 (Int.tmod (IntKind.u64.wrap (a2_0)) 4))))))).bind fun t197 => (if t197 = t187 then ((headgatelaw01_wakes.f kj3).bind fun t198 => (some t198)) else (some false))) else (some false)) else (none)) else (some false)) else (none)) else (some false)) else (some false)) = some r := by rw [if_pos rfl] at H; exact H
            clear H
            have H := H1
            clear H1
            by_cases c19 : t188 = true
            · subst c19
              have H1 : (if t190 = true then (if 0 ≤ (IntKind.u64.wrap (8 * (IntKind.u64.wrap ((wrap64 (1 + (wrap64 (Int.tmod (IntKind.u64.wrap (a2_1)) 4)))))))) then (if t185 = (Go.bits .or .u64 (shl .u64 t187 (IntKind.u64.wrap (8 * (IntKind.u64.wrap ((wrap64 (1 + (wrap64 (Int.tmod (IntKind.u64.wrap (a2_1)) 4))))))))) t189) then (if 0 ≤ (IntKind.u64.wrap (8 * (IntKind.u64.wrap ((wrap64 (1 + (wrap64 (Int.tmod (IntKind.u64.wrap (a2_0)) 4)))))))) then (if t191 = (Go.bits .or .u64 (shl .u64 t195 (IntKind.u64.wrap (8 * (IntKind.u64.wrap ((wrap64 (1 + (wrap64 (Int.tmod (IntKind.u64.wrap (a2_0)) 4))))))))) t193) then ((fields_Bits.f t185 (wrap64 (8 * (wrap64 (1 + (wrap64 (Int.tmod (IntKind.u64.wrap (a2_1)) 4)))))) (wrap64 (8 * (wrap64 (1 + (wrap64 (Int.tmod (IntKind.u64.wrap (a2_0)) 4))))))).bind fun t197 => (if t197 = t187 then ((headgatelaw01_wakes.f kj3).bind fun t198 => (some t198)) else (some false))) else (some false)) else (none)) else (some false)) else (none)) else (some false)) = some r := by rw [if_pos rfl] at H; exact H
              clear H
              have H := H1
              clear H1
              by_cases c20 : t190 = true
              · subst c20
                have H1 : (if 0 ≤ (IntKind.u64.wrap (8 * (IntKind.u64.wrap ((wrap64 (1 + (wrap64 (Int.tmod (IntKind.u64.wrap (a2_1)) 4)))))))) then (if t185 = (Go.bits .or .u64 (shl .u64 t187 (IntKind.u64.wrap (8 * (IntKind.u64.wrap ((wrap64 (1 + (wrap64 (Int.tmod (IntKind.u64.wrap (a2_1)) 4))))))))) t189) then (if 0 ≤ (IntKind.u64.wrap (8 * (IntKind.u64.wrap ((wrap64 (1 + (wrap64 (Int.tmod (IntKind.u64.wrap (a2_0)) 4)))))))) then (if t191 = (Go.bits .or .u64 (shl .u64 t195 (IntKind.u64.wrap (8 * (IntKind.u64.wrap ((wrap64 (1 + (wrap64 (Int.tmod (IntKind.u64.wrap (a2_0)) 4))))))))) t193) then ((fields_Bits.f t185 (wrap64 (8 * (wrap64 (1 + (wrap64 (Int.tmod (IntKind.u64.wrap (a2_1)) 4)))))) (wrap64 (8 * (wrap64 (1 + (wrap64 (Int.tmod (IntKind.u64.wrap (a2_0)) 4))))))).bind fun t197 => (if t197 = t187 then ((headgatelaw01_wakes.f kj3).bind fun t198 => (some t198)) else (some false))) else (some false)) else (none)) else (some false)) else (none)) = some r := by rw [if_pos rfl] at H; exact H
                clear H
                have H := H1
                clear H1
                obtain ⟨ji21, hji21⟩ : ∃ j_ : Int, (IntKind.u64.wrap (8 * (IntKind.u64.wrap ((wrap64 (1 + (wrap64 (Int.tmod (IntKind.u64.wrap (a2_1)) 4)))))))) = j_ := ⟨_, rfl⟩
                replace H : (if 0 ≤ (ji21) then (if t185 = (Go.bits .or .u64 (shl .u64 t187 (ji21)) t189) then (if 0 ≤ (IntKind.u64.wrap (8 * (IntKind.u64.wrap ((wrap64 (1 + (wrap64 (Int.tmod (IntKind.u64.wrap (a2_0)) 4)))))))) then (if t191 = (Go.bits .or .u64 (shl .u64 t195 (IntKind.u64.wrap (8 * (IntKind.u64.wrap ((wrap64 (1 + (wrap64 (Int.tmod (IntKind.u64.wrap (a2_0)) 4))))))))) t193) then ((fields_Bits.f t185 (wrap64 (8 * (wrap64 (1 + (wrap64 (Int.tmod (IntKind.u64.wrap (a2_1)) 4)))))) (wrap64 (8 * (wrap64 (1 + (wrap64 (Int.tmod (IntKind.u64.wrap (a2_0)) 4))))))).bind fun t197 => (if t197 = t187 then ((headgatelaw01_wakes.f kj3).bind fun t198 => (some t198)) else (some false))) else (some false)) else (none)) else (some false)) else (none)) = some r := by first | (rw [hji21] at H; exact H) | (simp only [hji21] at H ⊢; exact H)
                (try rw [hji21] at A12)
                (try rw [hji21] at A13)
                (try rw [hji21] at A14)
                (try rw [hji21] at A15)
                (try rw [hji21] at A16)
                (try rw [hji21] at A17)
                by_cases c22 : 0 ≤ (ji21)
                · rw [if_pos c22] at H
                  have c22b0 := eq_true c22
                  have c22b1 : decide (0 ≤ (ji21)) = true := decide_eq_true c22
                  clear c22
                  obtain ⟨ji23, hji23⟩ : ∃ j_ : Int, (shl .u64 t187 (ji21)) = j_ := ⟨_, rfl⟩
                  replace H : (if t185 = (Go.bits .or .u64 (ji23) t189) then (if 0 ≤ (IntKind.u64.wrap (8 * (IntKind.u64.wrap ((wrap64 (1 + (wrap64 (Int.tmod (IntKind.u64.wrap (a2_0)) 4)))))))) then (if t191 = (Go.bits .or .u64 (shl .u64 t195 (IntKind.u64.wrap (8 * (IntKind.u64.wrap ((wrap64 (1 + (wrap64 (Int.tmod (IntKind.u64.wrap (a2_0)) 4))))))))) t193) then ((fields_Bits.f t185 (wrap64 (8 * (wrap64 (1 + (wrap64 (Int.tmod (IntKind.u64.wrap (a2_1)) 4)))))) (wrap64 (8 * (wrap64 (1 + (wrap64 (Int.tmod (IntKind.u64.wrap (a2_0)) 4))))))).bind fun t197 => (if t197 = t187 then ((headgatelaw01_wakes.f kj3).bind fun t198 => (some t198)) else (some false))) else (some false)) else (none)) else (some false)) = some r := by first | (rw [hji23] at H; exact H) | (simp only [hji23] at H ⊢; exact H)
                  (try rw [hji23] at A12)
                  (try rw [hji23] at A13)
                  (try rw [hji23] at A14)
                  (try rw [hji23] at A15)
                  (try rw [hji23] at A16)
                  (try rw [hji23] at A17)
                  have hji23_ : (IntKind.u64.wrap (t187 * 2 ^ min (ji21).toNat 64)) = ji23 := hji23
                  have hji23z : (ji21) ≤ 64 → (IntKind.u64.wrap (t187 * 2 ^ (ji21).toNat)) = ji23 := shl_small hji23
                  by_cases c24 : t185 = (Go.bits .or .u64 (ji23) t189)
                  · rw [if_pos c24] at H
                    have c24b0 : (t185 == (Go.bits .or .u64 (ji23) t189)) = true := beq_iff_eq.mpr c24
                    have c24b1 : (t185 != (Go.bits .or .u64 (ji23) t189)) = false := bne_eq_false_iff_eq.mpr c24
                    clear c24
                    obtain ⟨ji25, hji25⟩ : ∃ j_ : Int, (IntKind.u64.wrap (8 * (IntKind.u64.wrap ((wrap64 (1 + (wrap64 (Int.tmod (IntKind.u64.wrap (a2_0)) 4)))))))) = j_ := ⟨_, rfl⟩
                    replace H : (if 0 ≤ (ji25) then (if t191 = (Go.bits .or .u64 (shl .u64 t195 (ji25)) t193) then ((fields_Bits.f t185 (wrap64 (8 * (wrap64 (1 + (wrap64 (Int.tmod (IntKind.u64.wrap (a2_1)) 4)))))) (wrap64 (8 * (wrap64 (1 + (wrap64 (Int.tmod (IntKind.u64.wrap (a2_0)) 4))))))).bind fun t197 => (if t197 = t187 then ((headgatelaw01_wakes.f kj3).bind fun t198 => (some t198)) else (some false))) else (some false)) else (none)) = some r := by first | (rw [hji25] at H; exact H) | (simp only [hji25] at H ⊢; exact H)
                    (try rw [hji25] at A12)
                    (try rw [hji25] at A13)
                    (try rw [hji25] at A14)
                    (try rw [hji25] at A15)
                    (try rw [hji25] at A16)
                    (try rw [hji25] at A17)
                    by_cases c26 : 0 ≤ (ji25)
                    · rw [if_pos c26] at H
                      have c26b0 := eq_true c26
                      have c26b1 : decide (0 ≤ (ji25)) = true := decide_eq_true c26
                      clear c26
                      obtain ⟨ji27, hji27⟩ : ∃ j_ : Int, (shl .u64 t195 (ji25)) = j_ := ⟨_, rfl⟩
                      replace H : (if t191 = (Go.bits .or .u64 (ji27) t193) then ((fields_Bits.f t185 (wrap64 (8 * (wrap64 (1 + (wrap64 (Int.tmod (IntKind.u64.wrap (a2_1)) 4)))))) (wrap64 (8 * (wrap64 (1 + (wrap64 (Int.tmod (IntKind.u64.wrap (a2_0)) 4))))))).bind fun t197 => (if t197 = t187 then ((headgatelaw01_wakes.f kj3).bind fun t198 => (some t198)) else (some false))) else (some false)) = some r := by first | (rw [hji27] at H; exact H) | (simp only [hji27] at H ⊢; exact H)
                      (try rw [hji27] at A12)
                      (try rw [hji27] at A13)
                      (try rw [hji27] at A14)
                      (try rw [hji27] at A15)
                      (try rw [hji27] at A16)
                      (try rw [hji27] at A17)
                      have hji27_ : (IntKind.u64.wrap (t195 * 2 ^ min (ji25).toNat 64)) = ji27 := hji27
                      have hji27z : (ji25) ≤ 64 → (IntKind.u64.wrap (t195 * 2 ^ (ji25).toNat)) = ji27 := shl_small hji27
                      by_cases c28 : t191 = (Go.bits .or .u64 (ji27) t193)
                      · rw [if_pos c28] at H
                        have c28b0 : (t191 == (Go.bits .or .u64 (ji27) t193)) = true := beq_iff_eq.mpr c28
                        have c28b1 : (t191 != (Go.bits .or .u64 (ji27) t193)) = false := bne_eq_false_iff_eq.mpr c28
                        clear c28
                        replace H := Option.bind_eq_some_iff.mp H
                        obtain ⟨t197, A290, H⟩ := H
                        replace H : (if t197 = t187 then ((headgatelaw01_wakes.f kj3).bind fun t198 => (some t198)) else (some false)) = some r := H
                        have A29 := Aside0.mk A290
                        clear A290
                        by_cases c30 : t197 = t187
                        · rw [if_pos c30] at H
                          have c30b0 : (t197 == t187) = true := beq_iff_eq.mpr c30
                          have c30b1 : (t197 != t187) = false := bne_eq_false_iff_eq.mpr c30
                          clear c30
                          replace H := Option.bind_eq_some_iff.mp H
                          obtain ⟨t198, A310, H⟩ := H
                          replace H : (some t198) = some r := H
                          have A31 := Aside0.mk A310
                          clear A310
                          obtain rfl := Option.some.inj H
                          go_wp2_with (first | (go_at_call 11; (with_reducible refine (fields_Big.calls kj3 a0 (wrap64 (Int.tmod (IntKind.u64.wrap (a1)) (IntKind.u64.wrap (wrap64 ((wrap64 ((wrap64 ((a0.size : Int) - (wrap64 (1 + (wrap64 (Int.tmod (IntKind.u64.wrap (a2_0)) 4)))))) - (wrap64 (1 + (wrap64 (Int.tmod (IntKind.u64.wrap (a2_1)) 4)))))) + 1))))) (wrap64 ((wrap64 (1 + (wrap64 (Int.tmod (IntKind.u64.wrap (a2_0)) 4)))) + (wrap64 (1 + (wrap64 (Int.tmod (IntKind.u64.wrap (a2_1)) 4)))))) t185 true _ A12.out).mono ?_); rintro e w32 ⟨rfl, hb⟩; have n0_ := Aside0.mk (blk_below (g := gb183) (o := .cells #[.int .i64 a2_0, .int .i64 a2_1] 35 (0, 0)) (by (with_reducible repeat (first | refine blk_drewN ?_ _ | refine blk_drew ?_ | refine blk_alloc ?_ _)); exact BK183.out) hb); have n1_ := Aside0.mk (below_step (by repeat (first | (with_reducible first | exact HB.out | apply below_alloc | apply pw_below_drewN | apply below_drew1 | refine below_set ?_ GE183.out) | exact HB.out)) hb); clear BK183; clear HB; have BK183 := n0_; have HB := n1_; clear n0_ n1_; (try clear hb); (try clear hb2); (try clear hk); (try clear hi)) | (go_at_call 11; (with_reducible refine (fields_Big.calls kj3 a0 (wrap64 (Int.tmod (IntKind.u64.wrap (a1)) (IntKind.u64.wrap (wrap64 ((wrap64 ((wrap64 ((a0.size : Int) - (wrap64 (1 + (wrap64 (Int.tmod (IntKind.u64.wrap (a2_0)) 4)))))) - (wrap64 (1 + (wrap64 (Int.tmod (IntKind.u64.wrap (a2_1)) 4)))))) + 1))))) (wrap64 (1 + (wrap64 (Int.tmod (IntKind.u64.wrap (a2_0)) 4)))) t187 true _ A13.out).mono ?_); rintro e w33 ⟨rfl, hb⟩; have n0_ := Aside0.mk (blk_below (g := gb183) (o := .cells #[.int .i64 a2_0, .int .i64 a2_1] 35 (0, 0)) (by (with_reducible repeat (first | refine blk_drewN ?_ _ | refine blk_drew ?_ | refine blk_alloc ?_ _)); exact BK183.out) hb); have n1_ := Aside0.mk (below_step (by repeat (first | (with_reducible first | exact HB.out | apply below_alloc | apply pw_below_drewN | apply below_drew1 | refine below_set ?_ GE183.out) | exact HB.out)) hb); clear BK183; clear HB; have BK183 := n0_; have HB := n1_; clear n0_ n1_; (try clear hb); (try clear hb2); (try clear hk); (try clear hi)) | (go_at_call 11; (with_reducible refine (fields_Big.calls kj3 a0 (wrap64 ((wrap64 (Int.tmod (IntKind.u64.wrap (a1)) (IntKind.u64.wrap (wrap64 ((wrap64 ((wrap64 ((a0.size : Int) - (wrap64 (1 + (wrap64 (Int.tmod (IntKind.u64.wrap (a2_0)) 4)))))) - (wrap64 (1 + (wrap64 (Int.tmod (IntKind.u64.wrap (a2_1)) 4)))))) + 1))))) + (wrap64 (1 + (wrap64 (Int.tmod (IntKind.u64.wrap (a2_0)) 4)))))) (wrap64 (1 + (wrap64 (Int.tmod (IntKind.u64.wrap (a2_1)) 4)))) t189 true _ A14.out).mono ?_); rintro e w34 ⟨rfl, hb⟩; have n0_ := Aside0.mk (blk_below (g := gb183) (o := .cells #[.int .i64 a2_0, .int .i64 a2_1] 35 (0, 0)) (by (with_reducible repeat (first | refine blk_drewN ?_ _ | refine blk_drew ?_ | refine blk_alloc ?_ _)); exact BK183.out) hb); have n1_ := Aside0.mk (below_step (by repeat (first | (with_reducible first | exact HB.out | apply below_alloc | apply pw_below_drewN | apply below_drew1 | refine below_set ?_ GE183.out) | exact HB.out)) hb); clear BK183; clear HB; have BK183 := n0_; have HB := n1_; clear n0_ n1_; (try clear hb); (try clear hb2); (try clear hk); (try clear hi)) | (go_at_call 13; (with_reducible refine (fields_Little.calls kj3 a0 (wrap64 (Int.tmod (IntKind.u64.wrap (a1)) (IntKind.u64.wrap (wrap64 ((wrap64 ((wrap64 ((a0.size : Int) - (wrap64 (1 + (wrap64 (Int.tmod (IntKind.u64.wrap (a2_0)) 4)))))) - (wrap64 (1 + (wrap64 (Int.tmod (IntKind.u64.wrap (a2_1)) 4)))))) + 1))))) (wrap64 ((wrap64 (1 + (wrap64 (Int.tmod (IntKind.u64.wrap (a2_0)) 4)))) + (wrap64 (1 + (wrap64 (Int.tmod (IntKind.u64.wrap (a2_1)) 4)))))) t191 t192 _ A15.out).mono ?_); rintro e w35 ⟨rfl, hb⟩; have n0_ := Aside0.mk (blk_below (g := gb183) (o := .cells #[.int .i64 a2_0, .int .i64 a2_1] 35 (0, 0)) (by (with_reducible repeat (first | refine blk_drewN ?_ _ | refine blk_drew ?_ | refine blk_alloc ?_ _)); exact BK183.out) hb); have n1_ := Aside0.mk (below_step (by repeat (first | (with_reducible first | exact HB.out | apply below_alloc | apply pw_below_drewN | apply below_drew1 | refine below_set ?_ GE183.out) | exact HB.out)) hb); clear BK183; clear HB; have BK183 := n0_; have HB := n1_; clear n0_ n1_; (try clear hb); (try clear hb2); (try clear hk); (try clear hi)) | (go_at_call 13; (with_reducible refine (fields_Little.calls kj3 a0 (wrap64 (Int.tmod (IntKind.u64.wrap (a1)) (IntKind.u64.wrap (wrap64 ((wrap64 ((wrap64 ((a0.size : Int) - (wrap64 (1 + (wrap64 (Int.tmod (IntKind.u64.wrap (a2_0)) 4)))))) - (wrap64 (1 + (wrap64 (Int.tmod (IntKind.u64.wrap (a2_1)) 4)))))) + 1))))) (wrap64 (1 + (wrap64 (Int.tmod (IntKind.u64.wrap (a2_0)) 4)))) t193 t194 _ A16.out).mono ?_); rintro e w36 ⟨rfl, hb⟩; have n0_ := Aside0.mk (blk_below (g := gb183) (o := .cells #[.int .i64 a2_0, .int .i64 a2_1] 35 (0, 0)) (by (with_reducible repeat (first | refine blk_drewN ?_ _ | refine blk_drew ?_ | refine blk_alloc ?_ _)); exact BK183.out) hb); have n1_ := Aside0.mk (below_step (by repeat (first | (with_reducible first | exact HB.out | apply below_alloc | apply pw_below_drewN | apply below_drew1 | refine below_set ?_ GE183.out) | exact HB.out)) hb); clear BK183; clear HB; have BK183 := n0_; have HB := n1_; clear n0_ n1_; (try clear hb); (try clear hb2); (try clear hk); (try clear hi)) | (go_at_call 13; (with_reducible refine (fields_Little.calls kj3 a0 (wrap64 ((wrap64 (Int.tmod (IntKind.u64.wrap (a1)) (IntKind.u64.wrap (wrap64 ((wrap64 ((wrap64 ((a0.size : Int) - (wrap64 (1 + (wrap64 (Int.tmod (IntKind.u64.wrap (a2_0)) 4)))))) - (wrap64 (1 + (wrap64 (Int.tmod (IntKind.u64.wrap (a2_1)) 4)))))) + 1))))) + (wrap64 (1 + (wrap64 (Int.tmod (IntKind.u64.wrap (a2_0)) 4)))))) (wrap64 (1 + (wrap64 (Int.tmod (IntKind.u64.wrap (a2_1)) 4)))) t195 t196 _ A17.out).mono ?_); rintro e w37 ⟨rfl, hb⟩; have n0_ := Aside0.mk (blk_below (g := gb183) (o := .cells #[.int .i64 a2_0, .int .i64 a2_1] 35 (0, 0)) (by (with_reducible repeat (first | refine blk_drewN ?_ _ | refine blk_drew ?_ | refine blk_alloc ?_ _)); exact BK183.out) hb); have n1_ := Aside0.mk (below_step (by repeat (first | (with_reducible first | exact HB.out | apply below_alloc | apply pw_below_drewN | apply below_drew1 | refine below_set ?_ GE183.out) | exact HB.out)) hb); clear BK183; clear HB; have BK183 := n0_; have HB := n1_; clear n0_ n1_; (try clear hb); (try clear hb2); (try clear hk); (try clear hi)) | (go_at_call 23; (with_reducible refine (fields_Bits.calls t185 (wrap64 (8 * (wrap64 (1 + (wrap64 (Int.tmod (IntKind.u64.wrap (a2_1)) 4)))))) (wrap64 (8 * (wrap64 (1 + (wrap64 (Int.tmod (IntKind.u64.wrap (a2_0)) 4)))))) t197 _ A29.out).mono ?_); rintro e w' ⟨rfl, ⟨nd, rfl⟩⟩; (try first | exact ⟨rfl, _, World.drewN_drewN _ _ _⟩ | exact ⟨rfl, _, Eq.trans (World.drewN_drewN _ _ _) (congrArg (World.drewN _) (Nat.add_assoc _ _ _))⟩)) | (go_at_call 10; (with_reducible refine (headgatelaw01_wakes.calls kj3  t198 _ A31.out).mono ?_); rintro e w38 ⟨rfl, hb⟩; have n0_ := Aside0.mk (blk_below (g := gb183) (o := .cells #[.int .i64 a2_0, .int .i64 a2_1] 35 (0, 0)) (by (with_reducible repeat (first | refine blk_drewN ?_ _ | refine blk_drew ?_ | refine blk_alloc ?_ _)); exact BK183.out) hb); have n1_ := Aside0.mk (below_step (by repeat (first | (with_reducible first | exact HB.out | apply below_alloc | apply pw_below_drewN | apply below_drew1 | refine below_set ?_ GE183.out) | exact HB.out)) hb); clear BK183; clear HB; have BK183 := n0_; have HB := n1_; clear n0_ n1_; (try clear hb); (try clear hb2); (try clear hk); (try clear hi)))
                          repeat (go_quiet (first | (go_at_call 11; (with_reducible refine (fields_Big.calls kj3 a0 (wrap64 (Int.tmod (IntKind.u64.wrap (a1)) (IntKind.u64.wrap (wrap64 ((wrap64 ((wrap64 ((a0.size : Int) - (wrap64 (1 + (wrap64 (Int.tmod (IntKind.u64.wrap (a2_0)) 4)))))) - (wrap64 (1 + (wrap64 (Int.tmod (IntKind.u64.wrap (a2_1)) 4)))))) + 1))))) (wrap64 ((wrap64 (1 + (wrap64 (Int.tmod (IntKind.u64.wrap (a2_0)) 4)))) + (wrap64 (1 + (wrap64 (Int.tmod (IntKind.u64.wrap (a2_1)) 4)))))) t185 true _ A12.out).mono ?_); rintro e w32 ⟨rfl, hb⟩; have n0_ := Aside0.mk (blk_below (g := gb183) (o := .cells #[.int .i64 a2_0, .int .i64 a2_1] 35 (0, 0)) (by (with_reducible repeat (first | refine blk_drewN ?_ _ | refine blk_drew ?_ | refine blk_alloc ?_ _)); exact BK183.out) hb); have n1_ := Aside0.mk (below_step (by repeat (first | (with_reducible first | exact HB.out | apply below_alloc | apply pw_below_drewN | apply below_drew1 | refine below_set ?_ GE183.out) | exact HB.out)) hb); clear BK183; clear HB; have BK183 := n0_; have HB := n1_; clear n0_ n1_; (try clear hb); (try clear hb2); (try clear hk); (try clear hi)) | (go_at_call 11; (with_reducible refine (fields_Big.calls kj3 a0 (wrap64 (Int.tmod (IntKind.u64.wrap (a1)) (IntKind.u64.wrap (wrap64 ((wrap64 ((wrap64 ((a0.size : Int) - (wrap64 (1 + (wrap64 (Int.tmod (IntKind.u64.wrap (a2_0)) 4)))))) - (wrap64 (1 + (wrap64 (Int.tmod (IntKind.u64.wrap (a2_1)) 4)))))) + 1))))) (wrap64 (1 + (wrap64 (Int.tmod (IntKind.u64.wrap (a2_0)) 4)))) t187 true _ A13.out).mono ?_); rintro e w33 ⟨rfl, hb⟩; have n0_ := Aside0.mk (blk_below (g := gb183) (o := .cells #[.int .i64 a2_0, .int .i64 a2_1] 35 (0, 0)) (by (with_reducible repeat (first | refine blk_drewN ?_ _ | refine blk_drew ?_ | refine blk_alloc ?_ _)); exact BK183.out) hb); have n1_ := Aside0.mk (below_step (by repeat (first | (with_reducible first | exact HB.out | apply below_alloc | apply pw_below_drewN | apply below_drew1 | refine below_set ?_ GE183.out) | exact HB.out)) hb); clear BK183; clear HB; have BK183 := n0_; have HB := n1_; clear n0_ n1_; (try clear hb); (try clear hb2); (try clear hk); (try clear hi)) | (go_at_call 11; (with_reducible refine (fields_Big.calls kj3 a0 (wrap64 ((wrap64 (Int.tmod (IntKind.u64.wrap (a1)) (IntKind.u64.wrap (wrap64 ((wrap64 ((wrap64 ((a0.size : Int) - (wrap64 (1 + (wrap64 (Int.tmod (IntKind.u64.wrap (a2_0)) 4)))))) - (wrap64 (1 + (wrap64 (Int.tmod (IntKind.u64.wrap (a2_1)) 4)))))) + 1))))) + (wrap64 (1 + (wrap64 (Int.tmod (IntKind.u64.wrap (a2_0)) 4)))))) (wrap64 (1 + (wrap64 (Int.tmod (IntKind.u64.wrap (a2_1)) 4)))) t189 true _ A14.out).mono ?_); rintro e w34 ⟨rfl, hb⟩; have n0_ := Aside0.mk (blk_below (g := gb183) (o := .cells #[.int .i64 a2_0, .int .i64 a2_1] 35 (0, 0)) (by (with_reducible repeat (first | refine blk_drewN ?_ _ | refine blk_drew ?_ | refine blk_alloc ?_ _)); exact BK183.out) hb); have n1_ := Aside0.mk (below_step (by repeat (first | (with_reducible first | exact HB.out | apply below_alloc | apply pw_below_drewN | apply below_drew1 | refine below_set ?_ GE183.out) | exact HB.out)) hb); clear BK183; clear HB; have BK183 := n0_; have HB := n1_; clear n0_ n1_; (try clear hb); (try clear hb2); (try clear hk); (try clear hi)) | (go_at_call 13; (with_reducible refine (fields_Little.calls kj3 a0 (wrap64 (Int.tmod (IntKind.u64.wrap (a1)) (IntKind.u64.wrap (wrap64 ((wrap64 ((wrap64 ((a0.size : Int) - (wrap64 (1 + (wrap64 (Int.tmod (IntKind.u64.wrap (a2_0)) 4)))))) - (wrap64 (1 + (wrap64 (Int.tmod (IntKind.u64.wrap (a2_1)) 4)))))) + 1))))) (wrap64 ((wrap64 (1 + (wrap64 (Int.tmod (IntKind.u64.wrap (a2_0)) 4)))) + (wrap64 (1 + (wrap64 (Int.tmod (IntKind.u64.wrap (a2_1)) 4)))))) t191 t192 _ A15.out).mono ?_); rintro e w35 ⟨rfl, hb⟩; have n0_ := Aside0.mk (blk_below (g := gb183) (o := .cells #[.int .i64 a2_0, .int .i64 a2_1] 35 (0, 0)) (by (with_reducible repeat (first | refine blk_drewN ?_ _ | refine blk_drew ?_ | refine blk_alloc ?_ _)); exact BK183.out) hb); have n1_ := Aside0.mk (below_step (by repeat (first | (with_reducible first | exact HB.out | apply below_alloc | apply pw_below_drewN | apply below_drew1 | refine below_set ?_ GE183.out) | exact HB.out)) hb); clear BK183; clear HB; have BK183 := n0_; have HB := n1_; clear n0_ n1_; (try clear hb); (try clear hb2); (try clear hk); (try clear hi)) | (go_at_call 13; (with_reducible refine (fields_Little.calls kj3 a0 (wrap64 (Int.tmod (IntKind.u64.wrap (a1)) (IntKind.u64.wrap (wrap64 ((wrap64 ((wrap64 ((a0.size : Int) - (wrap64 (1 + (wrap64 (Int.tmod (IntKind.u64.wrap (a2_0)) 4)))))) - (wrap64 (1 + (wrap64 (Int.tmod (IntKind.u64.wrap (a2_1)) 4)))))) + 1))))) (wrap64 (1 + (wrap64 (Int.tmod (IntKind.u64.wrap (a2_0)) 4)))) t193 t194 _ A16.out).mono ?_); rintro e w36 ⟨rfl, hb⟩; have n0_ := Aside0.mk (blk_below (g := gb183) (o := .cells #[.int .i64 a2_0, .int .i64 a2_1] 35 (0, 0)) (by (with_reducible repeat (first | refine blk_drewN ?_ _ | refine blk_drew ?_ | refine blk_alloc ?_ _)); exact BK183.out) hb); have n1_ := Aside0.mk (below_step (by repeat (first | (with_reducible first | exact HB.out | apply below_alloc | apply pw_below_drewN | apply below_drew1 | refine below_set ?_ GE183.out) | exact HB.out)) hb); clear BK183; clear HB; have BK183 := n0_; have HB := n1_; clear n0_ n1_; (try clear hb); (try clear hb2); (try clear hk); (try clear hi)) | (go_at_call 13; (with_reducible refine (fields_Little.calls kj3 a0 (wrap64 ((wrap64 (Int.tmod (IntKind.u64.wrap (a1)) (IntKind.u64.wrap (wrap64 ((wrap64 ((wrap64 ((a0.size : Int) - (wrap64 (1 + (wrap64 (Int.tmod (IntKind.u64.wrap (a2_0)) 4)))))) - (wrap64 (1 + (wrap64 (Int.tmod (IntKind.u64.wrap (a2_1)) 4)))))) + 1))))) + (wrap64 (1 + (wrap64 (Int.tmod (IntKind.u64.wrap (a2_0)) 4)))))) (wrap64 (1 + (wrap64 (Int.tmod (IntKind.u64.wrap (a2_1)) 4)))) t195 t196 _ A17.out).mono ?_); rintro e w37 ⟨rfl, hb⟩; have n0_ := Aside0.mk (blk_below (g := gb183) (o := .cells #[.int .i64 a2_0, .int .i64 a2_1] 35 (0, 0)) (by (with_reducible repeat (first | refine blk_drewN ?_ _ | refine blk_drew ?_ | refine blk_alloc ?_ _)); exact BK183.out) hb); have n1_ := Aside0.mk (below_step (by repeat (first | (with_reducible first | exact HB.out | apply below_alloc | apply pw_below_drewN | apply below_drew1 | refine below_set ?_ GE183.out) | exact HB.out)) hb); clear BK183; clear HB; have BK183 := n0_; have HB := n1_; clear n0_ n1_; (try clear hb); (try clear hb2); (try clear hk); (try clear hi)) | (go_at_call 23; (with_reducible refine (fields_Bits.calls t185 (wrap64 (8 * (wrap64 (1 + (wrap64 (Int.tmod (IntKind.u64.wrap (a2_1)) 4)))))) (wrap64 (8 * (wrap64 (1 + (wrap64 (Int.tmod (IntKind.u64.wrap (a2_0)) 4)))))) t197 _ A29.out).mono ?_); rintro e w' ⟨rfl, ⟨nd, rfl⟩⟩; (try first | exact ⟨rfl, _, World.drewN_drewN _ _ _⟩ | exact ⟨rfl, _, Eq.trans (World.drewN_drewN _ _ _) (congrArg (World.drewN _) (Nat.add_assoc _ _ _))⟩)) | (go_at_call 10; (with_reducible refine (headgatelaw01_wakes.calls kj3  t198 _ A31.out).mono ?_); rintro e w38 ⟨rfl, hb⟩; have n0_ := Aside0.mk (blk_below (g := gb183) (o := .cells #[.int .i64 a2_0, .int .i64 a2_1] 35 (0, 0)) (by (with_reducible repeat (first | refine blk_drewN ?_ _ | refine blk_drew ?_ | refine blk_alloc ?_ _)); exact BK183.out) hb); have n1_ := Aside0.mk (below_step (by repeat (first | (with_reducible first | exact HB.out | apply below_alloc | apply pw_below_drewN | apply below_drew1 | refine below_set ?_ GE183.out) | exact HB.out)) hb); clear BK183; clear HB; have BK183 := n0_; have HB := n1_; clear n0_ n1_; (try clear hb); (try clear hb2); (try clear hk); (try clear hi))); try go_wp2_with (first | (go_at_call 11; (with_reducible refine (fields_Big.calls kj3 a0 (wrap64 (Int.tmod (IntKind.u64.wrap (a1)) (IntKind.u64.wrap (wrap64 ((wrap64 ((wrap64 ((a0.size : Int) - (wrap64 (1 + (wrap64 (Int.tmod (IntKind.u64.wrap (a2_0)) 4)))))) - (wrap64 (1 + (wrap64 (Int.tmod (IntKind.u64.wrap (a2_1)) 4)))))) + 1))))) (wrap64 ((wrap64 (1 + (wrap64 (Int.tmod (IntKind.u64.wrap (a2_0)) 4)))) + (wrap64 (1 + (wrap64 (Int.tmod (IntKind.u64.wrap (a2_1)) 4)))))) t185 true _ A12.out).mono ?_); rintro e w32 ⟨rfl, hb⟩; have n0_ := Aside0.mk (blk_below (g := gb183) (o := .cells #[.int .i64 a2_0, .int .i64 a2_1] 35 (0, 0)) (by (with_reducible repeat (first | refine blk_drewN ?_ _ | refine blk_drew ?_ | refine blk_alloc ?_ _)); exact BK183.out) hb); have n1_ := Aside0.mk (below_step (by repeat (first | (with_reducible first | exact HB.out | apply below_alloc | apply pw_below_drewN | apply below_drew1 | refine below_set ?_ GE183.out) | exact HB.out)) hb); clear BK183; clear HB; have BK183 := n0_; have HB := n1_; clear n0_ n1_; (try clear hb); (try clear hb2); (try clear hk); (try clear hi)) | (go_at_call 11; (with_reducible refine (fields_Big.calls kj3 a0 (wrap64 (Int.tmod (IntKind.u64.wrap (a1)) (IntKind.u64.wrap (wrap64 ((wrap64 ((wrap64 ((a0.size : Int) - (wrap64 (1 + (wrap64 (Int.tmod (IntKind.u64.wrap (a2_0)) 4)))))) - (wrap64 (1 + (wrap64 (Int.tmod (IntKind.u64.wrap (a2_1)) 4)))))) + 1))))) (wrap64 (1 + (wrap64 (Int.tmod (IntKind.u64.wrap (a2_0)) 4)))) t187 true _ A13.out).mono ?_); rintro e w33 ⟨rfl, hb⟩; have n0_ := Aside0.mk (blk_below (g := gb183) (o := .cells #[.int .i64 a2_0, .int .i64 a2_1] 35 (0, 0)) (by (with_reducible repeat (first | refine blk_drewN ?_ _ | refine blk_drew ?_ | refine blk_alloc ?_ _)); exact BK183.out) hb); have n1_ := Aside0.mk (below_step (by repeat (first | (with_reducible first | exact HB.out | apply below_alloc | apply pw_below_drewN | apply below_drew1 | refine below_set ?_ GE183.out) | exact HB.out)) hb); clear BK183; clear HB; have BK183 := n0_; have HB := n1_; clear n0_ n1_; (try clear hb); (try clear hb2); (try clear hk); (try clear hi)) | (go_at_call 11; (with_reducible refine (fields_Big.calls kj3 a0 (wrap64 ((wrap64 (Int.tmod (IntKind.u64.wrap (a1)) (IntKind.u64.wrap (wrap64 ((wrap64 ((wrap64 ((a0.size : Int) - (wrap64 (1 + (wrap64 (Int.tmod (IntKind.u64.wrap (a2_0)) 4)))))) - (wrap64 (1 + (wrap64 (Int.tmod (IntKind.u64.wrap (a2_1)) 4)))))) + 1))))) + (wrap64 (1 + (wrap64 (Int.tmod (IntKind.u64.wrap (a2_0)) 4)))))) (wrap64 (1 + (wrap64 (Int.tmod (IntKind.u64.wrap (a2_1)) 4)))) t189 true _ A14.out).mono ?_); rintro e w34 ⟨rfl, hb⟩; have n0_ := Aside0.mk (blk_below (g := gb183) (o := .cells #[.int .i64 a2_0, .int .i64 a2_1] 35 (0, 0)) (by (with_reducible repeat (first | refine blk_drewN ?_ _ | refine blk_drew ?_ | refine blk_alloc ?_ _)); exact BK183.out) hb); have n1_ := Aside0.mk (below_step (by repeat (first | (with_reducible first | exact HB.out | apply below_alloc | apply pw_below_drewN | apply below_drew1 | refine below_set ?_ GE183.out) | exact HB.out)) hb); clear BK183; clear HB; have BK183 := n0_; have HB := n1_; clear n0_ n1_; (try clear hb); (try clear hb2); (try clear hk); (try clear hi)) | (go_at_call 13; (with_reducible refine (fields_Little.calls kj3 a0 (wrap64 (Int.tmod (IntKind.u64.wrap (a1)) (IntKind.u64.wrap (wrap64 ((wrap64 ((wrap64 ((a0.size : Int) - (wrap64 (1 + (wrap64 (Int.tmod (IntKind.u64.wrap (a2_0)) 4)))))) - (wrap64 (1 + (wrap64 (Int.tmod (IntKind.u64.wrap (a2_1)) 4)))))) + 1))))) (wrap64 ((wrap64 (1 + (wrap64 (Int.tmod (IntKind.u64.wrap (a2_0)) 4)))) + (wrap64 (1 + (wrap64 (Int.tmod (IntKind.u64.wrap (a2_1)) 4)))))) t191 t192 _ A15.out).mono ?_); rintro e w35 ⟨rfl, hb⟩; have n0_ := Aside0.mk (blk_below (g := gb183) (o := .cells #[.int .i64 a2_0, .int .i64 a2_1] 35 (0, 0)) (by (with_reducible repeat (first | refine blk_drewN ?_ _ | refine blk_drew ?_ | refine blk_alloc ?_ _)); exact BK183.out) hb); have n1_ := Aside0.mk (below_step (by repeat (first | (with_reducible first | exact HB.out | apply below_alloc | apply pw_below_drewN | apply below_drew1 | refine below_set ?_ GE183.out) | exact HB.out)) hb); clear BK183; clear HB; have BK183 := n0_; have HB := n1_; clear n0_ n1_; (try clear hb); (try clear hb2); (try clear hk); (try clear hi)) | (go_at_call 13; (with_reducible refine (fields_Little.calls kj3 a0 (wrap64 (Int.tmod (IntKind.u64.wrap (a1)) (IntKind.u64.wrap (wrap64 ((wrap64 ((wrap64 ((a0.size : Int) - (wrap64 (1 + (wrap64 (Int.tmod (IntKind.u64.wrap (a2_0)) 4)))))) - (wrap64 (1 + (wrap64 (Int.tmod (IntKind.u64.wrap (a2_1)) 4)))))) + 1))))) (wrap64 (1 + (wrap64 (Int.tmod (IntKind.u64.wrap (a2_0)) 4)))) t193 t194 _ A16.out).mono ?_); rintro e w36 ⟨rfl, hb⟩; have n0_ := Aside0.mk (blk_below (g := gb183) (o := .cells #[.int .i64 a2_0, .int .i64 a2_1] 35 (0, 0)) (by (with_reducible repeat (first | refine blk_drewN ?_ _ | refine blk_drew ?_ | refine blk_alloc ?_ _)); exact BK183.out) hb); have n1_ := Aside0.mk (below_step (by repeat (first | (with_reducible first | exact HB.out | apply below_alloc | apply pw_below_drewN | apply below_drew1 | refine below_set ?_ GE183.out) | exact HB.out)) hb); clear BK183; clear HB; have BK183 := n0_; have HB := n1_; clear n0_ n1_; (try clear hb); (try clear hb2); (try clear hk); (try clear hi)) | (go_at_call 13; (with_reducible refine (fields_Little.calls kj3 a0 (wrap64 ((wrap64 (Int.tmod (IntKind.u64.wrap (a1)) (IntKind.u64.wrap (wrap64 ((wrap64 ((wrap64 ((a0.size : Int) - (wrap64 (1 + (wrap64 (Int.tmod (IntKind.u64.wrap (a2_0)) 4)))))) - (wrap64 (1 + (wrap64 (Int.tmod (IntKind.u64.wrap (a2_1)) 4)))))) + 1))))) + (wrap64 (1 + (wrap64 (Int.tmod (IntKind.u64.wrap (a2_0)) 4)))))) (wrap64 (1 + (wrap64 (Int.tmod (IntKind.u64.wrap (a2_1)) 4)))) t195 t196 _ A17.out).mono ?_); rintro e w37 ⟨rfl, hb⟩; have n0_ := Aside0.mk (blk_below (g := gb183) (o := .cells #[.int .i64 a2_0, .int .i64 a2_1] 35 (0, 0)) (by (with_reducible repeat (first | refine blk_drewN ?_ _ | refine blk_drew ?_ | refine blk_alloc ?_ _)); exact BK183.out) hb); have n1_ := Aside0.mk (below_step (by repeat (first | (with_reducible first | exact HB.out | apply below_alloc | apply pw_below_drewN | apply below_drew1 | refine below_set ?_ GE183.out) | exact HB.out)) hb); clear BK183; clear HB; have BK183 := n0_; have HB := n1_; clear n0_ n1_; (try clear hb); (try clear hb2); (try clear hk); (try clear hi)) | (go_at_call 23; (with_reducible refine (fields_Bits.calls t185 (wrap64 (8 * (wrap64 (1 + (wrap64 (Int.tmod (IntKind.u64.wrap (a2_1)) 4)))))) (wrap64 (8 * (wrap64 (1 + (wrap64 (Int.tmod (IntKind.u64.wrap (a2_0)) 4)))))) t197 _ A29.out).mono ?_); rintro e w' ⟨rfl, ⟨nd, rfl⟩⟩; (try first | exact ⟨rfl, _, World.drewN_drewN _ _ _⟩ | exact ⟨rfl, _, Eq.trans (World.drewN_drewN _ _ _) (congrArg (World.drewN _) (Nat.add_assoc _ _ _))⟩)) | (go_at_call 10; (with_reducible refine (headgatelaw01_wakes.calls kj3  t198 _ A31.out).mono ?_); rintro e w38 ⟨rfl, hb⟩; have n0_ := Aside0.mk (blk_below (g := gb183) (o := .cells #[.int .i64 a2_0, .int .i64 a2_1] 35 (0, 0)) (by (with_reducible repeat (first | refine blk_drewN ?_ _ | refine blk_drew ?_ | refine blk_alloc ?_ _)); exact BK183.out) hb); have n1_ := Aside0.mk (below_step (by repeat (first | (with_reducible first | exact HB.out | apply below_alloc | apply pw_below_drewN | apply below_drew1 | refine below_set ?_ GE183.out) | exact HB.out)) hb); clear BK183; clear HB; have BK183 := n0_; have HB := n1_; clear n0_ n1_; (try clear hb); (try clear hb2); (try clear hk); (try clear hi))))
                          go_ret
                          exact ⟨by first | rfl | (simp [errW_none, errW_some] <;> rfl) | (simp only [← hji21, ← hji23, ← hji25, ← hji27]; first | rfl | (simp [errW_none, errW_some] <;> rfl)) | (simp [*, errW_none, errW_some] <;> rfl), by repeat (first | (with_reducible first | exact HB.out | apply below_alloc | apply pw_below_drewN | apply below_drew1 | refine below_set ?_ GE183.out) | exact HB.out)⟩
                        · rw [if_neg c30] at H
                          have c30b0 : (t197 == t187) = false := beq_eq_false_iff_ne.mpr c30
                          have c30b1 : (t197 != t187) = true := bne_iff_ne.mpr c30
                          exact absurd ((Option.some.inj H).trans HT0.out) (by decide)
                      · rw [if_neg c28] at H
                        have c28b0 : (t191 == (Go.bits .or .u64 (ji27) t193)) = false := beq_eq_false_iff_ne.mpr c28
                        have c28b1 : (t191 != (Go.bits .or .u64 (ji27) t193)) = true := bne_iff_ne.mpr c28
                        exact absurd ((Option.some.inj H).trans HT0.out) (by decide)
                    · rw [if_neg c26] at H
                      exact absurd H (by simp)
                  · rw [if_neg c24] at H
                    have c24b0 : (t185 == (Go.bits .or .u64 (ji23) t189)) = false := beq_eq_false_iff_ne.mpr c24
                    have c24b1 : (t185 != (Go.bits .or .u64 (ji23) t189)) = true := bne_iff_ne.mpr c24
                    exact absurd ((Option.some.inj H).trans HT0.out) (by decide)
                · rw [if_neg c22] at H
                  exact absurd H (by simp)
              · replace c20 := Bool.eq_false_iff.mpr c20
                subst c20
                have H1 : (some false) = some r := by rw [if_neg (show ¬ (false = true) by decide)] at H; exact H
                clear H
                have H := H1
                clear H1
                exact absurd ((Option.some.inj H).trans HT0.out) (by decide)
            · replace c19 := Bool.eq_false_iff.mpr c19
              subst c19
              have H1 : (some false) = some r := by rw [if_neg (show ¬ (false = true) by decide)] at H; exact H
              clear H
              have H := H1
              clear H1
              exact absurd ((Option.some.inj H).trans HT0.out) (by decide)
          · replace c18 := Bool.eq_false_iff.mpr c18
            subst c18
            have H1 : (some false) = some r := by rw [if_neg (show ¬ (false = true) by decide)] at H; exact H
            clear H
            have H := H1
            clear H1
            exact absurd ((Option.some.inj H).trans HT0.out) (by decide)

/-! ### headgateref01_Bits: function 24 -/
mutual
def headgateref01_Bits.j0 : Nat → Int → Int → Int → Bool → Option (Int)
  | 0, _, _, _, _ => none
  | k + 1, x0, x1, x2, x26 => if x26 = true then (some 0) else (headgateref01_Bits.l0 k x0 x1 x2 0)
def headgateref01_Bits.l0 : Nat → Int → Int → Int → Int → Option (Int)
  | 0, _, _, _, _ => none
  | k + 1, x0, x1, x2, x7 => if x7 < x1 then (headgateref01_Bits.l0 k (IntKind.u64.wrap (Int.tdiv x0 2)) x1 x2 (wrap64 (x7 + 1))) else (headgateref01_Bits.l1 k x0 x2 0 1 0)
def headgateref01_Bits.l1 : Nat → Int → Int → Int → Int → Int → Option (Int)
  | 0, _, _, _, _, _ => none
  | k + 1, x0, x2, x8, x9, x10 => if x10 < x2 then (headgateref01_Bits.l1 k (IntKind.u64.wrap (Int.tdiv x0 2)) x2 (IntKind.u64.wrap (x8 + (IntKind.u64.wrap ((Int.tmod x0 2) * x9)))) (IntKind.u64.wrap (x9 * 2)) (wrap64 (x10 + 1))) else (some x8)
end
def headgateref01_Bits.f (k : Nat) (a0 : Int) (a1 : Int) (a2 : Int) : Option (Int) := if a1 < 0 then (headgateref01_Bits.j0 k a0 a1 a2 true) else (if a2 < 1 then (headgateref01_Bits.j0 k a0 a1 a2 true) else (if a1 > 63 then (headgateref01_Bits.j0 k a0 a1 a2 true) else (headgateref01_Bits.j0 k a0 a1 a2 (decide (a2 > (wrap64 (64 - a1)))))))
theorem headgateref01_Bits.mono_l : ∀ k, (∀ y0 y1 y2 y3, LeO (headgateref01_Bits.j0 k y0 y1 y2 y3) (headgateref01_Bits.j0 (k + 1) y0 y1 y2 y3)) ∧ (∀ y0 y1 y2 y3, LeO (headgateref01_Bits.l0 k y0 y1 y2 y3) (headgateref01_Bits.l0 (k + 1) y0 y1 y2 y3)) ∧ (∀ y0 y1 y2 y3 y4, LeO (headgateref01_Bits.l1 k y0 y1 y2 y3 y4) (headgateref01_Bits.l1 (k + 1) y0 y1 y2 y3 y4))
  | 0 => ⟨fun _ _ _ _ r h => by simp [headgateref01_Bits.j0] at h, fun _ _ _ _ r h => by simp [headgateref01_Bits.l0] at h, fun _ _ _ _ _ r h => by simp [headgateref01_Bits.l1] at h⟩
  | k + 1 => by
    obtain ⟨ih0, ih1, ih2⟩ := headgateref01_Bits.mono_l k
    refine ⟨?_, ?_, ?_⟩
    · intro y0 y1 y2 y3
      unfold headgateref01_Bits.j0
      repeat' first
      | (with_reducible exact ih0 _ _ _ _)
      | (with_reducible exact ih1 _ _ _ _)
      | (with_reducible exact ih2 _ _ _ _ _)
      | (with_reducible exact LeO.refl _)
      | (with_reducible exact LeO.none _)
      | (with_reducible refine LeO.ite ?_ ?_)
      | (with_reducible refine LeO.bind ?_ (fun _ => ?_))
      | exact ih0 _ _ _ _
      | exact ih1 _ _ _ _
      | exact ih2 _ _ _ _ _
      | exact LeO.none _
      | refine LeO.ite ?_ ?_
      | refine LeO.bind ?_ (fun _ => ?_)
    · intro y0 y1 y2 y3
      unfold headgateref01_Bits.l0
      repeat' first
      | (with_reducible exact ih0 _ _ _ _)
      | (with_reducible exact ih1 _ _ _ _)
      | (with_reducible exact ih2 _ _ _ _ _)
      | (with_reducible exact LeO.refl _)
      | (with_reducible exact LeO.none _)
      | (with_reducible refine LeO.ite ?_ ?_)
      | (with_reducible refine LeO.bind ?_ (fun _ => ?_))
      | exact ih0 _ _ _ _
      | exact ih1 _ _ _ _
      | exact ih2 _ _ _ _ _
      | exact LeO.none _
      | refine LeO.ite ?_ ?_
      | refine LeO.bind ?_ (fun _ => ?_)
    · intro y0 y1 y2 y3 y4
      unfold headgateref01_Bits.l1
      repeat' first
      | (with_reducible exact ih0 _ _ _ _)
      | (with_reducible exact ih1 _ _ _ _)
      | (with_reducible exact ih2 _ _ _ _ _)
      | (with_reducible exact LeO.refl _)
      | (with_reducible exact LeO.none _)
      | (with_reducible refine LeO.ite ?_ ?_)
      | (with_reducible refine LeO.bind ?_ (fun _ => ?_))
      | exact ih0 _ _ _ _
      | exact ih1 _ _ _ _
      | exact ih2 _ _ _ _ _
      | exact LeO.none _
      | refine LeO.ite ?_ ?_
      | refine LeO.bind ?_ (fun _ => ?_)
theorem headgateref01_Bits.mono : ∀ a0 a1 a2 k, LeO (headgateref01_Bits.f k a0 a1 a2) (headgateref01_Bits.f (k + 1) a0 a1 a2) := by
  intro a0 a1 a2 k
  obtain ⟨ih0, ih1, ih2⟩ := headgateref01_Bits.mono_l k
  unfold headgateref01_Bits.f
  repeat' first
      | (with_reducible exact ih0 _ _ _ _)
      | (with_reducible exact ih1 _ _ _ _)
      | (with_reducible exact ih2 _ _ _ _ _)
      | (with_reducible exact LeO.refl _)
      | (with_reducible exact LeO.none _)
      | (with_reducible refine LeO.ite ?_ ?_)
      | (with_reducible refine LeO.bind ?_ (fun _ => ?_))
      | exact ih0 _ _ _ _
      | exact ih1 _ _ _ _
      | exact ih2 _ _ _ _ _
      | exact LeO.none _
      | refine LeO.ite ?_ ?_
      | refine LeO.bind ?_ (fun _ => ?_)
set_option maxHeartbeats 8000000 in
set_option maxRecDepth 100000 in
theorem headgateref01_Bits.calls (k : Nat) (a0 : Int) (a1 : Int) (a2 : Int) (r : Int) (w : World) (h : headgateref01_Bits.f k a0 a1 a2 = some r) :
    Calls Try.prog 24 #[.int .u64 a0, .int .i64 a1, .int .i64 a2] w fun e w' => e = .returned (.int .u64 r) ∧ Drawn0 w w' := by
  have H : (if a1 < 0 then (headgateref01_Bits.j0 k a0 a1 a2 true) else (if a2 < 1 then (headgateref01_Bits.j0 k a0 a1 a2 true) else (if a1 > 63 then (headgateref01_Bits.j0 k a0 a1 a2 true) else (headgateref01_Bits.j0 k a0 a1 a2 (decide (a2 > (wrap64 (64 - a1)))))))) = some r := h
  clear h
  have HC4 := Aside0.mk H
  clear H
  go_enter Try.func24, Try.ntmps24
  go_upto_region 1 with (fail)
  go_cut [26] (fun v26 wc => ∃ (kq : Nat) (x26_3 : Bool), v26 = .bool x26_3 ∧ Aside0 (headgateref01_Bits.j0 kq a0 a1 a2 x26_3 = some r) ∧ Aside0 (kq ≤ k) ∧ Drawn0 w wc)
  case first =>
    have H := HC4.out
    clear HC4
    by_cases c5 : a1 < 0
    · rw [if_pos c5] at H
      have c5b0 : decide (a1 < 0) = true := decide_eq_true c5
      clear c5
      (first | rw [c5b0] | (simp only [i64_w, i32_w]; rw [c5b0]) | skip)
      have H' := Aside0.mk H
      clear H
      go_wp2
      go_meet
      case rel => exact ⟨_, (true), (by first | rfl | (simp; done) | (simp [*]; done)), H', ⟨by first | omega | exact Nat.le_refl _⟩, by repeat (first | exact Drawn0.refl _ | apply Drawn0.step)⟩
    · rw [if_neg c5] at H
      have c5b0 : decide (a1 < 0) = false := decide_eq_false c5
      clear c5
      (first | rw [c5b0] | (simp only [i64_w, i32_w]; rw [c5b0]) | skip)
      by_cases c6 : a2 < 1
      · rw [if_pos c6] at H
        have c6b0 : decide (a2 < 1) = true := decide_eq_true c6
        clear c6
        have H' := Aside0.mk H
        clear H
        go_wp2
        go_meet
        case rel => exact ⟨_, (true), (by first | rfl | (simp; done) | (simp [*]; done)), H', ⟨by first | omega | exact Nat.le_refl _⟩, by repeat (first | exact Drawn0.refl _ | apply Drawn0.step)⟩
      · rw [if_neg c6] at H
        have c6b0 : decide (a2 < 1) = false := decide_eq_false c6
        clear c6
        by_cases c7 : a1 > 63
        · rw [if_pos c7] at H
          have c7b0 : decide (63 < a1) = true := decide_eq_true c7
          clear c7
          have H' := Aside0.mk H
          clear H
          go_wp2
          go_meet
          case rel => exact ⟨_, (true), (by first | rfl | (simp; done) | (simp [*]; done)), H', ⟨by first | omega | exact Nat.le_refl _⟩, by repeat (first | exact Drawn0.refl _ | apply Drawn0.step)⟩
        · rw [if_neg c7] at H
          have c7b0 : decide (63 < a1) = false := decide_eq_false c7
          clear c7
          have H' := Aside0.mk H
          clear H
          go_wp2
          go_meet
          case rel => exact ⟨_, (decide (a2 > (wrap64 (64 - a1)))), (by first | rfl | (simp; done) | (simp [*]; done)), H', ⟨by first | omega | exact Nat.le_refl _⟩, by repeat (first | exact Drawn0.refl _ | apply Drawn0.step)⟩
  case rest =>
    clear HC4
    try clear c2
    try clear p2
    try clear c5
    try clear c5b0
    try clear c6
    try clear c6b0
    try clear p6
    try clear c7
    try clear c7b0
    obtain ⟨kq, x26_3, rfl, HA, HJ3, ⟨mc3, rfl⟩⟩ := hcut
    cases kq with
    | zero => exact absurd HA.out (by simp [headgateref01_Bits.j0])
    | succ kj3 =>
      have H := HA.out
      clear HA
      simp only [headgateref01_Bits.j0] at H
      by_cases c8 : x26_3 = true
      · subst c8
        have H1 : (some 0) = some r := by rw [if_pos rfl] at H; exact H
        clear H
        have H := H1
        clear H1
        obtain rfl := Option.some.inj H
        go_wp2
        go_ret
        exact ⟨by first | rfl | (simp; done) | (simp [*]; done), by repeat (first | exact Drawn0.refl _ | apply Drawn0.step)⟩
      · replace c8 := Bool.eq_false_iff.mpr c8
        subst c8
        have H1 : (headgateref01_Bits.l0 kj3 a0 a1 a2 0) = some r := by rw [if_neg (show ¬ (false = true) by decide)] at H; exact H
        clear H
        have H := H1
        clear H1
        have H' := Aside0.mk H
        clear H
        go_wp2
        go_loopg [0, 7] kj3 (fun kq v0 v7 w' => ∃ (x0_2 : Int) (x7_2 : Int), v0 = .int .u64 x0_2 ∧ v7 = .int .i64 x7_2 ∧ Aside0 (headgateref01_Bits.l0 kq x0_2 a1 a2 x7_2 = some r) ∧ Aside0 (kq ≤ kj3) ∧ Drawn0 w w')
        case atStart => exact ⟨(a0), (0), (by first | rfl | (simp; done) | (simp [*]; done)), (by first | rfl | (simp; done) | (simp [*]; done)), H', ⟨Nat.le_refl _⟩, by repeat (first | exact Drawn0.refl _ | apply Drawn0.step)⟩
        case round =>
          clear H'
          try clear c2
          try clear p2
          try clear c3
          try clear c5
          try clear c5b0
          try clear c6
          try clear c6b0
          try clear p6
          try clear c7
          try clear c7b0
          try clear c8
          try clear p2
          try clear p6
          obtain ⟨x0_2, x7_2, rfl, rfl, HA, HK2, ⟨m2, rfl⟩⟩ := hrel
          cases gk with
          | zero => exact absurd HA.out (by simp [headgateref01_Bits.l0])
          | succ k2 =>
            have H := HA.out
            clear HA
            simp only [headgateref01_Bits.l0] at H
            by_cases c9 : x7_2 < a1
            · rw [if_pos c9] at H
              have c9b0 : decide (x7_2 < a1) = true := decide_eq_true c9
              clear c9
              have H' := Aside0.mk H
              clear H
              go_wp2
              go_roundg k2
              case measure => have := HJ3.out; have := HK2.out; omega
              case rel => exact ⟨(IntKind.u64.wrap (Int.tdiv x0_2 2)), (wrap64 (x7_2 + 1)), (by first | rfl | (simp; done) | (simp [*]; done)), (by first | rfl | (simp; done) | (simp [*]; done)), H', ⟨by have := HJ3.out; have := HK2.out; omega⟩, by repeat (first | exact Drawn0.refl _ | apply Drawn0.step)⟩
            · rw [if_neg c9] at H
              have c9b0 : decide (x7_2 < a1) = false := decide_eq_false c9
              clear c9
              have H' := Aside0.mk H
              clear H
              go_wp2
              go_loopg [0, 8, 9, 10] k2 (fun kq v0 v8 v9 v10 w' => ∃ (x0_3 : Int) (x8_3 : Int) (x9_3 : Int) (x10_3 : Int), v0 = .int .u64 x0_3 ∧ v8 = .int .u64 x8_3 ∧ v9 = .int .u64 x9_3 ∧ v10 = .int .i64 x10_3 ∧ Aside0 (headgateref01_Bits.l1 kq x0_3 a2 x8_3 x9_3 x10_3 = some r) ∧ Aside0 (kq ≤ k2) ∧ Drawn0 w w')
              case atStart => exact ⟨(x0_2), (0), (1), (0), (by first | rfl | (simp; done) | (simp [*]; done)), (by first | rfl | (simp; done) | (simp [*]; done)), (by first | rfl | (simp; done) | (simp [*]; done)), (by first | rfl | (simp; done) | (simp [*]; done)), H', ⟨Nat.le_refl _⟩, by repeat (first | exact Drawn0.refl _ | apply Drawn0.step)⟩
              case round =>
                clear H'
                try clear c2
                try clear p2
                try clear c3
                try clear c5
                try clear c5b0
                try clear c6
                try clear c6b0
                try clear p6
                try clear c7
                try clear c7b0
                try clear c8
                try clear c9
                try clear c9b0
                try clear p2
                try clear p6
                obtain ⟨x0_3, x8_3, x9_3, x10_3, rfl, rfl, rfl, rfl, HA, HK3, ⟨m3, rfl⟩⟩ := hrel
                cases gk with
                | zero => exact absurd HA.out (by simp [headgateref01_Bits.l1])
                | succ k3 =>
                  have H := HA.out
                  clear HA
                  simp only [headgateref01_Bits.l1] at H
                  by_cases c10 : x10_3 < a2
                  · rw [if_pos c10] at H
                    have c10b0 : decide (x10_3 < a2) = true := decide_eq_true c10
                    clear c10
                    have H' := Aside0.mk H
                    clear H
                    go_wp2
                    go_roundg k3
                    case measure => have := HJ3.out; have := HK2.out; have := HK3.out; omega
                    case rel => exact ⟨(IntKind.u64.wrap (Int.tdiv x0_3 2)), (IntKind.u64.wrap (x8_3 + (IntKind.u64.wrap ((Int.tmod x0_3 2) * x9_3)))), (IntKind.u64.wrap (x9_3 * 2)), (wrap64 (x10_3 + 1)), (by first | rfl | (simp; done) | (simp [*]; done)), (by first | rfl | (simp; done) | (simp [*]; done)), (by first | rfl | (simp; done) | (simp [*]; done)), (by first | rfl | (simp; done) | (simp [*]; done)), H', ⟨by have := HJ3.out; have := HK2.out; have := HK3.out; omega⟩, by repeat (first | exact Drawn0.refl _ | apply Drawn0.step)⟩
                  · rw [if_neg c10] at H
                    have c10b0 : decide (x10_3 < a2) = false := decide_eq_false c10
                    clear c10
                    obtain rfl := Option.some.inj H
                    go_wp2
                    go_ret
                    exact ⟨by first | rfl | (simp; done) | (simp [*]; done), by repeat (first | exact Drawn0.refl _ | apply Drawn0.step)⟩

/-! ### fields_Bit: function 25 -/
def fields_Bit.f (a0 : Int) (a1 : Int) : Option (Bool) := if a1 ≥ 0 then (if a1 < 64 then (if 0 ≤ a1 then (some ((Go.bits .and .u64 (shr .u64 a0 a1) 1) == 1)) else (none)) else (some false)) else (some false)
set_option maxHeartbeats 8000000 in
set_option maxRecDepth 100000 in
theorem fields_Bit.calls (a0 : Int) (a1 : Int) (r : Bool) (w : World) (h : fields_Bit.f a0 a1 = some r) :
    Calls Try.prog 25 #[.int .u64 a0, .int .i64 a1] w fun e w' => e = .returned (.bool r) ∧ Drawn0 w w' := by
  have H : (if a1 ≥ 0 then (if a1 < 64 then (if 0 ≤ a1 then (some ((Go.bits .and .u64 (shr .u64 a0 a1) 1) == 1)) else (none)) else (some false)) else (some false)) = some r := h
  clear h
  by_cases c3 : a1 ≥ 0
  · rw [if_pos c3] at H
    have c3b0 : decide (0 ≤ a1) = true := decide_eq_true c3
    clear c3
    by_cases c4 : a1 < 64
    · rw [if_pos c4] at H
      have c4b0 : decide (a1 < 64) = true := decide_eq_true c4
      clear c4
      by_cases c5 : 0 ≤ a1
      · rw [if_pos c5] at H
        have c5b0 := eq_true c5
        have c5b1 : decide (0 ≤ a1) = true := decide_eq_true c5
        clear c5
        obtain ⟨ji6, hji6⟩ : ∃ j_ : Int, (shr .u64 a0 a1) = j_ := ⟨_, rfl⟩
        replace H : (some ((Go.bits .and .u64 (ji6) 1) == 1)) = some r := by first | (rw [hji6] at H; exact H) | (simp only [hji6] at H ⊢; exact H)
        have hji6_ : (a0 / 2 ^ min a1.toNat 64) = ji6 := hji6
        have hji6z : a1 ≤ 64 → (a0 / 2 ^ a1.toNat) = ji6 := shr_small hji6
        obtain rfl := Option.some.inj H
        go_enter Try.func25, Try.ntmps25
        go_wp2
        go_ret
        exact ⟨by first | rfl | (simp; done) | (simp only [← hji6] <;> (first | rfl | simp)) | (simp [*]; done), by repeat (first | exact Drawn0.refl _ | apply Drawn0.step)⟩
      · rw [if_neg c5] at H
        exact absurd H (by simp)
    · rw [if_neg c4] at H
      have c4b0 : decide (a1 < 64) = false := decide_eq_false c4
      clear c4
      obtain rfl := Option.some.inj H
      go_enter Try.func25, Try.ntmps25
      go_wp2
      go_ret
      exact ⟨by first | rfl | (simp; done) | (simp [*]; done), by repeat (first | exact Drawn0.refl _ | apply Drawn0.step)⟩
  · rw [if_neg c3] at H
    have c3b0 : decide (0 ≤ a1) = false := decide_eq_false c3
    clear c3
    obtain rfl := Option.some.inj H
    go_enter Try.func25, Try.ntmps25
    go_wp2
    go_ret
    exact ⟨by first | rfl | (simp; done) | (simp [*]; done), by repeat (first | exact Drawn0.refl _ | apply Drawn0.step)⟩

/-! ### headgateref01_Bit: function 26 -/
def headgateref01_Bit.f (k : Nat) (a0 : Int) (a1 : Int) : Option (Bool) := (headgateref01_Bits.f k a0 a1 1).bind fun t199 => (some (t199 == 1))
theorem headgateref01_Bit.mono : ∀ a0 a1 k, LeO (headgateref01_Bit.f k a0 a1) (headgateref01_Bit.f (k + 1) a0 a1) := by
  intro a0 a1 k
  unfold headgateref01_Bit.f
  repeat' first
      | (with_reducible exact headgateref01_Bits.mono _ _ _ _)
      | (with_reducible exact LeO.refl _)
      | (with_reducible exact LeO.none _)
      | (with_reducible refine LeO.ite ?_ ?_)
      | (with_reducible refine LeO.bind ?_ (fun _ => ?_))
      | exact headgateref01_Bits.mono _ _ _ _
      | exact LeO.none _
      | refine LeO.ite ?_ ?_
      | refine LeO.bind ?_ (fun _ => ?_)
set_option maxHeartbeats 8000000 in
set_option maxRecDepth 100000 in
theorem headgateref01_Bit.calls (k : Nat) (a0 : Int) (a1 : Int) (r : Bool) (w : World) (h : headgateref01_Bit.f k a0 a1 = some r) :
    Calls Try.prog 26 #[.int .u64 a0, .int .i64 a1] w fun e w' => e = .returned (.bool r) ∧ Drawn0 w w' := by
  have H : ((headgateref01_Bits.f k a0 a1 1).bind fun t199 => (some (t199 == 1))) = some r := h
  clear h
  replace H := Option.bind_eq_some_iff.mp H
  obtain ⟨t199, A30, H⟩ := H
  replace H : (some (t199 == 1)) = some r := H
  have A3 := Aside0.mk A30
  clear A30
  obtain rfl := Option.some.inj H
  go_enter Try.func26, Try.ntmps26
  go_wp2_with (first | ((with_reducible refine gate_callee (f := 24) rfl ?_); refine goesL_ (some 7) rfl rfl Try.func24 (by kernel_rfl) rfl #[.int .u64 a0, .int .i64 a1, .int .i64 1] rfl (by (try simp only [List.map_toArray, List.map_cons, List.map_nil]); first | done | rfl | (simp only [List.length_drop, List.length_take]; rfl)) ?_; (with_reducible refine (headgateref01_Bits.calls k a0 a1 1 t199 _ A3.out).mono ?_); rintro e w' ⟨rfl, ⟨nd, rfl⟩⟩; refine ⟨_, rfl, ?_⟩))
  go_ret
  exact ⟨by first | rfl | (simp; done) | (simp [*]; done), by repeat (first | exact Drawn0.refl _ | apply Drawn0.step)⟩

/-! ### headgatelaw01_FieldsBits: function 9 -/
def headgatelaw01_FieldsBits.f (k : Nat) (a0 : Int) (a1 : Int) (a2 : Int) : Option (Bool) := (fields_Bits.f a0 a1 a2).bind fun t200 => ((headgateref01_Bits.f k a0 a1 a2).bind fun t201 => (if t200 = t201 then ((fields_Bit.f a0 a1).bind fun t202 => ((headgateref01_Bit.f k a0 a1).bind fun t203 => (if (t202 == t203) = true then ((headgatelaw01_wakes.f k).bind fun t204 => (some t204)) else (some false)))) else (some false)))
theorem headgatelaw01_FieldsBits.mono : ∀ a0 a1 a2 k, LeO (headgatelaw01_FieldsBits.f k a0 a1 a2) (headgatelaw01_FieldsBits.f (k + 1) a0 a1 a2) := by
  intro a0 a1 a2 k
  unfold headgatelaw01_FieldsBits.f
  repeat' first
      | (with_reducible exact headgatelaw01_wakes.mono _)
      | (with_reducible exact headgateref01_Bit.mono _ _ _)
      | (with_reducible exact headgateref01_Bits.mono _ _ _ _)
      | (with_reducible exact LeO.refl _)
      | (with_reducible exact LeO.none _)
      | (with_reducible refine LeO.ite ?_ ?_)
      | (with_reducible refine LeO.bind ?_ (fun _ => ?_))
      | exact headgatelaw01_wakes.mono _
      | exact headgateref01_Bit.mono _ _ _
      | exact headgateref01_Bits.mono _ _ _ _
      | exact LeO.none _
      | refine LeO.ite ?_ ?_
      | refine LeO.bind ?_ (fun _ => ?_)
set_option maxHeartbeats 8000000 in
set_option maxRecDepth 100000 in
theorem headgatelaw01_FieldsBits.calls (k : Nat) (a0 : Int) (a1 : Int) (a2 : Int) (r : Bool) (w : World) (hT : r = true) (h : headgatelaw01_FieldsBits.f k a0 a1 a2 = some r) :
    Calls Try.prog 9 #[.int .u64 a0, .int .i64 a1, .int .i64 a2] w fun e w' => e = .returned (.bool r) ∧ Below w.heap.size w w' := by
  have HT0 := Aside0.mk hT
  clear hT
  have HB := Aside0.mk (Below.refl w.heap.size w)
  have H : ((fields_Bits.f a0 a1 a2).bind fun t200 => ((headgateref01_Bits.f k a0 a1 a2).bind fun t201 => (if t200 = t201 then ((fields_Bit.f a0 a1).bind fun t202 => ((headgateref01_Bit.f k a0 a1).bind fun t203 => (if (t202 == t203) = true then ((headgatelaw01_wakes.f k).bind fun t204 => (some t204)) else (some false)))) else (some false)))) = some r := h
  clear h
  replace H := Option.bind_eq_some_iff.mp H
  obtain ⟨t200, A40, H⟩ := H
  replace H : ((headgateref01_Bits.f k a0 a1 a2).bind fun t201 => (if t200 = t201 then ((fields_Bit.f a0 a1).bind fun t202 => ((headgateref01_Bit.f k a0 a1).bind fun t203 => (if (t202 == t203) = true then ((headgatelaw01_wakes.f k).bind fun t204 => (some t204)) else (some false)))) else (some false))) = some r := H
  have A4 := Aside0.mk A40
  clear A40
  replace H := Option.bind_eq_some_iff.mp H
  obtain ⟨t201, A50, H⟩ := H
  replace H : (if t200 = t201 then ((fields_Bit.f a0 a1).bind fun t202 => ((headgateref01_Bit.f k a0 a1).bind fun t203 => (if (t202 == t203) = true then ((headgatelaw01_wakes.f k).bind fun t204 => (some t204)) else (some false)))) else (some false)) = some r := H
  have A5 := Aside0.mk A50
  clear A50
  by_cases c6 : t200 = t201
  · rw [if_pos c6] at H
    have c6b0 : (t200 == t201) = true := beq_iff_eq.mpr c6
    have c6b1 : (t200 != t201) = false := bne_eq_false_iff_eq.mpr c6
    clear c6
    replace H := Option.bind_eq_some_iff.mp H
    obtain ⟨t202, A70, H⟩ := H
    replace H : ((headgateref01_Bit.f k a0 a1).bind fun t203 => (if (t202 == t203) = true then ((headgatelaw01_wakes.f k).bind fun t204 => (some t204)) else (some false))) = some r := H
    have A7 := Aside0.mk A70
    clear A70
    replace H := Option.bind_eq_some_iff.mp H
    obtain ⟨t203, A80, H⟩ := H
    replace H : (if (t202 == t203) = true then ((headgatelaw01_wakes.f k).bind fun t204 => (some t204)) else (some false)) = some r := H
    have A8 := Aside0.mk A80
    clear A80
    by_cases c9 : (t202 == t203) = true
    · rw [if_pos c9] at H
      have c9b0 : (t202 == t203) = true := c9
      (try (have c9b1 : decide (t202 = t203) = true := by simpa using c9))
      (try (have c9b2 : (t202 == t203) = true := by simpa using c9))
      clear c9
      replace H := Option.bind_eq_some_iff.mp H
      obtain ⟨t204, A100, H⟩ := H
      replace H : (some t204) = some r := H
      have A10 := Aside0.mk A100
      clear A100
      obtain rfl := Option.some.inj H
      go_enter Try.func9, Try.ntmps9
      go_wp2_with (first | ((with_reducible refine gate_callee (f := 23) rfl ?_); refine goesL_ (some 10) rfl rfl Try.func23 (by kernel_rfl) rfl #[.int .u64 a0, .int .i64 a1, .int .i64 a2] rfl (by (try simp only [List.map_toArray, List.map_cons, List.map_nil]); first | done | rfl | (simp only [List.length_drop, List.length_take]; rfl)) ?_; (with_reducible refine (fields_Bits.calls a0 a1 a2 t200 _ A4.out).mono ?_); rintro e w' ⟨rfl, ⟨nd, rfl⟩⟩; refine ⟨_, rfl, ?_⟩) | ((with_reducible refine gate_callee (f := 24) rfl ?_); refine goesL_ (some 14) rfl rfl Try.func24 (by kernel_rfl) rfl #[.int .u64 a0, .int .i64 a1, .int .i64 a2] rfl (by (try simp only [List.map_toArray, List.map_cons, List.map_nil]); first | done | rfl | (simp only [List.length_drop, List.length_take]; rfl)) ?_; (with_reducible refine (headgateref01_Bits.calls k a0 a1 a2 t201 _ A5.out).mono ?_); rintro e w' ⟨rfl, ⟨nd, rfl⟩⟩; refine ⟨_, rfl, ?_⟩) | (go_at_call 25; (with_reducible refine (fields_Bit.calls a0 a1 t202 _ A7.out).mono ?_); rintro e w' ⟨rfl, ⟨nd, rfl⟩⟩) | (go_at_call 26; (with_reducible refine (headgateref01_Bit.calls k a0 a1 t203 _ A8.out).mono ?_); rintro e w' ⟨rfl, ⟨nd, rfl⟩⟩) | (go_at_call 10; (with_reducible refine (headgatelaw01_wakes.calls k  t204 _ A10.out).mono ?_); rintro e w11 ⟨rfl, hb⟩; have n0_ := Aside0.mk (below_step (by repeat (first | (with_reducible first | exact HB.out | apply below_alloc | apply pw_below_drewN | apply below_drew1) | exact HB.out)) hb); clear HB; have HB := n0_; clear n0_; (try clear hb); (try clear hb2); (try clear hk); (try clear hi)))
      go_ret
      exact ⟨by first | rfl | (simp [errW_none, errW_some] <;> rfl) | (simp [*, errW_none, errW_some] <;> rfl), by repeat (first | (with_reducible first | exact HB.out | apply below_alloc | apply pw_below_drewN | apply below_drew1) | exact HB.out)⟩
    · rw [if_neg c9] at H
      have c9b0 : (t202 == t203) = false := by simpa using c9
      (try (have c9b1 : decide (t202 = t203) = false := by simpa using c9))
      (try (have c9b2 : (t202 == t203) = false := by simpa using c9))
      (try (have c9b3 : ¬ (t202 = t203) := by simpa using c9))
      clear c9
      exact absurd ((Option.some.inj H).trans HT0.out) (by decide)
  · rw [if_neg c6] at H
    have c6b0 : (t200 == t201) = false := beq_eq_false_iff_ne.mpr c6
    have c6b1 : (t200 != t201) = true := bne_iff_ne.mpr c6
    exact absurd ((Option.some.inj H).trans HT0.out) (by decide)

end Go.Proofs.Ytkjdbdjbfoookaa.P
