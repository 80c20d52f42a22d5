-- written by this session's patched copy of the printer (wip/tools/patch_print.py); Lean checks it
import Derived.Test.YtkbjhblffbcleaaDoorPx0
import Derived.Test.YtkbjhblffbcleaaDoorPx1
import Derived.Test.YtkbjhblffbcleaaDoorPx3
import Derived.Test.YtkbjhblffbcleaaDoorBytesAt
import Derived.Test.YtkbjhblffbcleaaDoorPx4
import Derived.Test.YtkbjhblffbcleaaDoorPx5
namespace Go.Proofs.YtkbjhblffbcleaaDoor.P
open Go.RowKit Go.Proofs.YtkbjhblffbcleaaDoorW.PrintWords Go.Proofs.YtkbjhblffbcleaaDoorW.PrintLast Go.Proofs.YtkbjhblffbcleaaDoorW.PrintMore
attribute [local go_sem] max2_int min2_int max_two min_two max_three min_three max_four min_four   -- for this text's walks alone
set_option linter.unusedVariables false
set_option linter.unusedSimpArgs false
set_option linter.unnecessarySimpa false

/-! ### headgatelaw29_large: function 12 -/
def headgatelaw29_large.f (a0_0 : Int) (a0_1 : Int) (a0_2 : ByteArray) (a0_3 : ByteArray) : Option (Bool) := if (a0_2.size : Int) > 20000 then (some true) else (some (decide ((a0_3.size : Int) > 20000)))
set_option maxHeartbeats 8000000 in
set_option maxRecDepth 100000 in
theorem headgatelaw29_large.calls (a0_0 : Int) (a0_1 : Int) (a0_2 : ByteArray) (a0_3 : ByteArray) (r : Bool) (w : World) (h : headgatelaw29_large.f a0_0 a0_1 a0_2 a0_3 = some r) :
    Calls Tryd.prog 12 #[.agg #[.int .i64 a0_0, .int .i64 a0_1, .string a0_2, .string a0_3]] w fun e w' => e = .returned (.bool r) ∧ Below w.heap.size w w' := by
  have hu24 := Tryd.underlying24
  have HB := Aside0.mk (Below.refl w.heap.size w)
  have H : (if (a0_2.size : Int) > 20000 then (some true) else (some (decide ((a0_3.size : Int) > 20000)))) = some r := h
  clear h
  by_cases c2 : (a0_2.size : Int) > 20000
  · rw [if_pos c2] at H
    have c2b0 : decide (20000 < (a0_2.size : Int)) = true := decide_eq_true c2
    have c2b1 : decide (20000 < a0_2.size) = true := decide_eq_true (by omega)
    clear c2
    obtain rfl := Option.some.inj H
    go_enter Tryd.func12, Tryd.ntmps12
    go_wp2_with (first | ((with_reducible refine gate_dst (N := 1) rfl ?_); (try (refine gate_guard (by rfl) ?_; dsimp only)); refine box_event ?hg (N := 1) ?hd (cs := #[.int .i64 a0_0, .int .i64 a0_1, .string a0_2, .string a0_3]) (t := 24) ?hr ?_; (case hd => rfl); (case hg => rfl); (case hr => first | (go_simp; done) | (go_simp; rfl)); intro gb229 hg w3 hbox hb; have n0_ := Aside0.mk (below_step (by repeat (first | (with_reducible first | exact HB.out | apply below_alloc | apply pw_below_drewN | apply below_drew1) | exact HB.out)) hb); have n1_ := Aside0.mk (hbox); have n2_ := Aside0.mk ((by rw [hg]; exact (below_size (by repeat (first | (with_reducible first | exact HB.out | apply below_alloc | apply pw_below_drewN | apply below_drew1) | exact HB.out))) : w.heap.size ≤ gb229)); have n3_ := Aside0.mk ((by rw [hg]; exact (below_size (by repeat (first | (with_reducible first | exact HB.out | apply below_alloc | apply pw_below_drewN | apply below_drew1) | exact HB.out))) : w.heap.size ≤ gb229)); clear HB; have HB := n0_; have BK229 := n1_; have GW229 := n2_; have GE229 := n3_; clear n0_ n1_ n2_ n3_; clear hb hbox hg; have hcz4_0 : w3.cell? ⟨gb229, 0, none⟩ = some (.int .i64 a0_0) := (blk_cell BK229.out 0).trans rfl; have hcz4_1 : w3.cell? ⟨gb229, 1, none⟩ = some (.int .i64 a0_1) := (blk_cell BK229.out 1).trans rfl; have hcz4_2 : w3.cell? ⟨gb229, 2, none⟩ = some (.string a0_2) := (blk_cell BK229.out 2).trans rfl; have hcz4_3 : w3.cell? ⟨gb229, 3, none⟩ = some (.string a0_3) := (blk_cell BK229.out 3).trans rfl; have hfz4_0 := blk_frozen BK229.out 0; have hfz4_1 := blk_frozen BK229.out 1; have hfz4_2 := blk_frozen BK229.out 2; have hfz4_3 := blk_frozen BK229.out 3))
    go_ret
    exact ⟨by first | rfl | (simp [errW_none, errW_some] <;> rfl) | (simp [*, errW_none, errW_some] <;> rfl) | (simp [bt, *]; done) | (unfold bt; simp [*]; done), by repeat (first | (with_reducible first | exact HB.out | apply below_alloc | apply pw_below_drewN | apply below_drew1 | refine below_set ?_ GE229.out) | exact HB.out)⟩
  · rw [if_neg c2] at H
    have c2b0 : decide (20000 < (a0_2.size : Int)) = false := decide_eq_false c2
    have c2b1 : decide (20000 < a0_2.size) = false := decide_eq_false (by omega)
    clear c2
    obtain rfl := Option.some.inj H
    go_enter Tryd.func12, Tryd.ntmps12
    go_wp2_with (first | ((with_reducible refine gate_dst (N := 1) rfl ?_); (try (refine gate_guard (by rfl) ?_; dsimp only)); refine box_event ?hg (N := 1) ?hd (cs := #[.int .i64 a0_0, .int .i64 a0_1, .string a0_2, .string a0_3]) (t := 24) ?hr ?_; (case hd => rfl); (case hg => rfl); (case hr => first | (go_simp; done) | (go_simp; rfl)); intro gb229 hg w5 hbox hb; have n0_ := Aside0.mk (below_step (by repeat (first | (with_reducible first | exact HB.out | apply below_alloc | apply pw_below_drewN | apply below_drew1) | exact HB.out)) hb); have n1_ := Aside0.mk (hbox); have n2_ := Aside0.mk ((by rw [hg]; exact (below_size (by repeat (first | (with_reducible first | exact HB.out | apply below_alloc | apply pw_below_drewN | apply below_drew1) | exact HB.out))) : w.heap.size ≤ gb229)); have n3_ := Aside0.mk ((by rw [hg]; exact (below_size (by repeat (first | (with_reducible first | exact HB.out | apply below_alloc | apply pw_below_drewN | apply below_drew1) | exact HB.out))) : w.heap.size ≤ gb229)); clear HB; have HB := n0_; have BK229 := n1_; have GW229 := n2_; have GE229 := n3_; clear n0_ n1_ n2_ n3_; clear hb hbox hg; have hcz6_0 : w5.cell? ⟨gb229, 0, none⟩ = some (.int .i64 a0_0) := (blk_cell BK229.out 0).trans rfl; have hcz6_1 : w5.cell? ⟨gb229, 1, none⟩ = some (.int .i64 a0_1) := (blk_cell BK229.out 1).trans rfl; have hcz6_2 : w5.cell? ⟨gb229, 2, none⟩ = some (.string a0_2) := (blk_cell BK229.out 2).trans rfl; have hcz6_3 : w5.cell? ⟨gb229, 3, none⟩ = some (.string a0_3) := (blk_cell BK229.out 3).trans rfl; have hfz6_0 := blk_frozen BK229.out 0; have hfz6_1 := blk_frozen BK229.out 1; have hfz6_2 := blk_frozen BK229.out 2; have hfz6_3 := blk_frozen BK229.out 3))
    go_ret
    exact ⟨by first | rfl | (simp [errW_none, errW_some] <;> rfl) | (simp [*, errW_none, errW_some] <;> rfl) | (simp [bt, *]; done) | (unfold bt; simp [*]; done), by repeat (first | (with_reducible first | exact HB.out | apply below_alloc | apply pw_below_drewN | apply below_drew1 | refine below_set ?_ GE229.out) | exact HB.out)⟩


/-! ### tpdu_Size: function 15 -/
def tpdu_Size.f (a0 : Int) : Option (Int) := (tpdu_formOf.f a0).bind fun bt281 => (some bt281.1)
set_option maxHeartbeats 8000000 in
set_option maxRecDepth 100000 in
theorem tpdu_Size.calls (a0 : Int) (r : Int) (w : World) (hG : Glob w) (h : tpdu_Size.f a0 = some r) :
    Calls Tryd.prog 15 #[.int .i64 a0] w fun e w' => e = .returned (.int .i64 r) ∧ Below w.heap.size w w' := by
  have if48_0 : ∀ (x0_ : Int) (x1_ : Int) (x2_ : Bool) (W : World), (Instr.field 48 (.agg #[.int .i64 x0_, .int .i64 x1_, .bool x2_]) 0).run Tryd.prog W = .ok (.int .i64 x0_) W := fun x0_ x1_ x2_ W => by first | rfl | kernel_rfl
  have HG := Aside0.mk hG
  clear hG
  have HB := Aside0.mk (Below.refl w.heap.size w)
  have H : ((tpdu_formOf.f a0).bind fun bt281 => (some bt281.1)) = some r := h
  clear h
  replace H := Option.bind_eq_some_iff.mp H
  obtain ⟨⟨t281, t282, t283⟩, A20, H⟩ := H
  replace H : (some t281) = some r := H
  have A2 := Aside0.mk A20
  clear A20
  obtain rfl := Option.some.inj H
  go_enter Tryd.func15, Tryd.ntmps15
  go_wp2_with (first | ((with_reducible refine gate_callee (f := 17) rfl ?_); refine goesL_ (some 4) rfl rfl Tryd.func17 (by kernel_rfl) rfl #[.int .i64 a0] rfl (by (try simp only [List.map_toArray, List.map_cons, List.map_nil]); first | done | rfl | (simp only [List.length_drop, List.length_take]; rfl)) ?_; (with_reducible refine (tpdu_formOf.calls a0 t281 t282 t283 _ ?side1 A2.out).mono ?_); (case side1 => first | ((refine Glob.keep HG.out ?_); (repeat (first | (with_reducible first | exact HB.out | apply below_alloc | apply pw_below_drewN | apply below_drew1) | exact HB.out)); done) | exact HG.out); rintro e w3 ⟨rfl, hb⟩; refine ⟨_, rfl, ?_⟩; have n0_ := Aside0.mk (below_step (by repeat (first | (with_reducible first | exact HB.out | apply below_alloc | apply pw_below_drewN | apply below_drew1) | exact HB.out)) hb); clear HB; have HB := n0_; clear n0_; (try clear hb); (try clear hb2); (try clear hk); (try clear hi)))
  go_ret
  exact ⟨by first | rfl | (simp [errW_none, errW_some] <;> rfl) | (simp [*, errW_none, errW_some] <;> rfl) | (simp [bt, *]; done) | (unfold bt; simp [*]; done), by repeat (first | (with_reducible first | exact HB.out | apply below_alloc | apply pw_below_drewN | apply below_drew1) | exact HB.out)⟩


/-! ### headgatelaw29_TpduTurned: function 7 -/
theorem turned_world {P : Program} {ops : Array Oper} {rest : List Oper} {a : Act} {Q : Exit → Act → World → Prop} {w : World} (S : World → Prop) (hS : S w) (h : ∀ w', S w' → wpList P ops Q rest a w') : wpList P ops Q rest a w := h w hS
/-- Which byte is turned. -/
def turnedAt (s : ByteArray) (a : Int) : Nat := 8 + (IntKind.u64.wrap a % ((s.size : Int) - 8)).toNat
/-- The text with the byte turned. -/
def turned (s : ByteArray) (a : Int) (c : Int) : ByteArray := ⟨(s.data.toList.set (turnedAt s a) (UInt8.ofNat c.toNat)).toArray⟩
def headgatelaw29_TpduTurned.f (k : Nat) (a0_0 : Int) (a0_1 : Int) (a0_2 : ByteArray) (a0_3 : ByteArray) (a1 : Int) (a2 : Int) : Option Bool :=
  (headgatelaw29_large.f a0_0 a0_1 a0_2 a0_3).bind fun l =>
  if l = true then headgatelaw29_wakes.f k
  else if a0_0 < 4 then headgatelaw29_wakes.f k
  else (tpdu_Put.f k a0_0 a0_1 a0_2 a0_3 true true).bind fun p =>
    if p.2 = 0 then
      (if 8 < p.1.size ∧ p.1.size ≤ 1000000 ∧ 0 ≤ a2 ∧ a2 < 256 then
        (tpdu_Get.f k (turned p.1 a1 a2) true true).bind fun q => (headgatelaw29_wakes.f k).bind fun t => (tpdu_Size.f a0_0).bind fun z =>
          if 0 ≤ z ∧ z ≤ 1000 then
            (if turned p.1 a1 a2 = p.1 then (if q.2.2.2.2.2 = 0 ∧ q.2.2.2.2.1 = (p.1.size : Int) then some t else none)
            else if (turnedAt p.1 a1 : Int) < 12 + z then (if q.2.2.2.2.2 = 201 ∧ q.2.2.2.2.1 = 0 then some t else none)
            else (if q.2.2.2.2.2 = 51 ∧ q.2.2.2.2.1 = (p.1.size : Int) then some t else none))
          else none
      else none)
    else if p.1.size = 0 then headgatelaw29_wakes.f k else none
set_option maxHeartbeats 8000000 in
set_option maxRecDepth 100000 in
theorem headgatelaw29_TpduTurned.calls (k : Nat) (a0_0 : Int) (a0_1 : Int) (a0_2 : ByteArray) (a0_3 : ByteArray) (a1 : Int) (a2 : Int) (r : Bool) (w : World) (hG : Glob w) (hT : r = true) (h : headgatelaw29_TpduTurned.f k a0_0 a0_1 a0_2 a0_3 a1 a2 = some r) :
    Calls Tryd.prog 7 #[.agg #[.int .i64 a0_0, .int .i64 a0_1, .string a0_2, .string a0_3], .int .i64 a1, .int .u8 a2] w fun e w' => e = .returned (.bool r) ∧ Below w.heap.size w w' := by
  have hu24 := Tryd.underlying24
  subst hT
  have HG := Aside0.mk hG
  clear hG
  have HB := Aside0.mk (Below.refl w.heap.size w)
  unfold headgatelaw29_TpduTurned.f at h
  replace h := Option.bind_eq_some_iff.mp h
  obtain ⟨l, hl, h⟩ := h
  have HL0 := Aside0.mk hl
  clear hl
  by_cases h1 : l = true
  · rw [if_pos h1] at h
    subst h1
    have HW := Aside0.mk h
    clear h
    go_enter Tryd.func7, Tryd.ntmps7
    go_wp2_with (first
      | ((with_reducible refine gate_dst (N := 3) rfl ?_); refine box_event ?hg (N := 3) ?hd (cs := #[.int .i64 a0_0, .int .i64 a0_1, .string a0_2, .string a0_3]) (t := 24) ?hr ?_; (case hd => rfl); (case hg => rfl); (case hr => first | (go_simp; done) | (go_simp; rfl)); intro gb hg w1 hbox hb; have n1_ := Aside0.mk (below_step HB.out hb); clear HB; have HB := n1_; have HX := Aside0.mk hbox; have hcz0 : w1.cell? ⟨gb, 0, none⟩ = some (.int .i64 a0_0) := (blk_cell hbox 0).trans rfl; have hcz1 : w1.cell? ⟨gb, 1, none⟩ = some (.int .i64 a0_1) := (blk_cell hbox 1).trans rfl; have hcz2 : w1.cell? ⟨gb, 2, none⟩ = some (.string a0_2) := (blk_cell hbox 2).trans rfl; have hcz3 : w1.cell? ⟨gb, 3, none⟩ = some (.string a0_3) := (blk_cell hbox 3).trans rfl; clear n1_ hb hbox hg)
      | (go_at_call 12; refine (headgatelaw29_large.calls a0_0 a0_1 a0_2 a0_3 true _ HL0.out).mono ?_; rintro e w2 ⟨rfl, hb⟩; have n1_ := Aside0.mk (below_step HB.out hb); have n2_ := Aside0.mk (blk_below HX.out hb); clear HB hb HX hcz0 hcz1 hcz2 hcz3; have HB := n1_; have HX := n2_; clear n1_ n2_; have hcz0 : w2.cell? ⟨gb, 0, none⟩ = some (.int .i64 a0_0) := (blk_cell HX.out 0).trans rfl; have hcz1 : w2.cell? ⟨gb, 1, none⟩ = some (.int .i64 a0_1) := (blk_cell HX.out 1).trans rfl; have hcz2 : w2.cell? ⟨gb, 2, none⟩ = some (.string a0_2) := (blk_cell HX.out 2).trans rfl; have hcz3 : w2.cell? ⟨gb, 3, none⟩ = some (.string a0_3) := (blk_cell HX.out 3).trans rfl)
      | (go_at_call 8; refine (headgatelaw29_wakes.calls k true _ (Glob.keep HG.out HB.out) HW.out).mono ?_; rintro e w2 ⟨rfl, hb⟩; have n1_ := Aside0.mk (below_step HB.out hb); clear HB hb; have HB := n1_; clear n1_))
    go_ret
    exact ⟨rfl, HB.out⟩
  · rw [if_neg h1] at h
    have h1' : l = false := by simpa using h1
    clear h1
    subst h1'
    by_cases h2 : a0_0 < 4
    · rw [if_pos h2] at h
      have HW := Aside0.mk h
      clear h
      have d3 : decide (a0_0 < 4) = true := decide_eq_true h2
      clear h2
      go_enter Tryd.func7, Tryd.ntmps7
      go_wp2_with (first
        | ((with_reducible refine gate_dst (N := 3) rfl ?_); refine box_event ?hg (N := 3) ?hd (cs := #[.int .i64 a0_0, .int .i64 a0_1, .string a0_2, .string a0_3]) (t := 24) ?hr ?_; (case hd => rfl); (case hg => rfl); (case hr => first | (go_simp; done) | (go_simp; rfl)); intro gb hg w1 hbox hb; have n1_ := Aside0.mk (below_step HB.out hb); clear HB; have HB := n1_; have HX := Aside0.mk hbox; have hcz0 : w1.cell? ⟨gb, 0, none⟩ = some (.int .i64 a0_0) := (blk_cell hbox 0).trans rfl; have hcz1 : w1.cell? ⟨gb, 1, none⟩ = some (.int .i64 a0_1) := (blk_cell hbox 1).trans rfl; have hcz2 : w1.cell? ⟨gb, 2, none⟩ = some (.string a0_2) := (blk_cell hbox 2).trans rfl; have hcz3 : w1.cell? ⟨gb, 3, none⟩ = some (.string a0_3) := (blk_cell hbox 3).trans rfl; clear n1_ hb hbox hg)
        | (go_at_call 12; refine (headgatelaw29_large.calls a0_0 a0_1 a0_2 a0_3 false _ HL0.out).mono ?_; rintro e w2 ⟨rfl, hb⟩; have n1_ := Aside0.mk (below_step HB.out hb); have n2_ := Aside0.mk (blk_below HX.out hb); clear HB hb HX hcz0 hcz1 hcz2 hcz3; have HB := n1_; have HX := n2_; clear n1_ n2_; have hcz0 : w2.cell? ⟨gb, 0, none⟩ = some (.int .i64 a0_0) := (blk_cell HX.out 0).trans rfl; have hcz1 : w2.cell? ⟨gb, 1, none⟩ = some (.int .i64 a0_1) := (blk_cell HX.out 1).trans rfl; have hcz2 : w2.cell? ⟨gb, 2, none⟩ = some (.string a0_2) := (blk_cell HX.out 2).trans rfl; have hcz3 : w2.cell? ⟨gb, 3, none⟩ = some (.string a0_3) := (blk_cell HX.out 3).trans rfl)
        | (go_at_call 8; refine (headgatelaw29_wakes.calls k true _ (Glob.keep HG.out HB.out) HW.out).mono ?_; rintro e w2 ⟨rfl, hb⟩; have n1_ := Aside0.mk (below_step HB.out hb); clear HB hb; have HB := n1_; clear n1_))
      go_ret
      exact ⟨rfl, HB.out⟩
    · rw [if_neg h2] at h
      have d3 : decide (a0_0 < 4) = false := decide_eq_false h2
      clear h2
      replace h := Option.bind_eq_some_iff.mp h
      obtain ⟨⟨s, e0⟩, hP, h⟩ := h
      have HP := Aside0.mk hP
      clear hP
      dsimp only at h
      by_cases h3 : e0 = 0
      · rw [if_pos h3] at h
        have d5 : (e0 == 0) = true := beq_iff_eq.mpr h3
        have d6 : (e0 != 0) = false := bne_eq_false_iff_eq.mpr h3
        clear h3
        by_cases h4 : 8 < s.size ∧ s.size ≤ 1000000 ∧ 0 ≤ a2 ∧ a2 < 256
        · rw [if_pos h4] at h
          obtain ⟨hs0, hs1, hc0, hc1⟩ := h4
          replace h := Option.bind_eq_some_iff.mp h
          obtain ⟨⟨q1, q2, q3, q4, q5, q6⟩, hQ, h⟩ := h
          have HQ := Aside0.mk hQ
          clear hQ
          replace h := Option.bind_eq_some_iff.mp h
          obtain ⟨t, hW, h⟩ := h
          have HW := Aside0.mk hW
          clear hW
          replace h := Option.bind_eq_some_iff.mp h
          obtain ⟨z, hZ, h⟩ := h
          have HZ := Aside0.mk hZ
          clear hZ
          dsimp only at h
          by_cases hz : 0 ≤ z ∧ z ≤ 1000
          · rw [if_pos hz] at h
            obtain ⟨m, hm⟩ : ∃ m, m = turnedAt s a1 := ⟨_, rfl⟩
            obtain ⟨c, hc⟩ : ∃ c, c = UInt8.ofNat a2.toNat := ⟨_, rfl⟩
            have hca : a2 = (c.toNat : Int) := by rw [hc, UInt8.toNat_ofNat']; omega
            obtain ⟨u, hu⟩ : ∃ u, u = turned s a1 a2 := ⟨_, rfl⟩
            have hu2 : (⟨(s.data.toList.set m c).toArray⟩ : ByteArray) = u := by rw [hu, hm, hc]; rfl
            have em0 := Int.emod_nonneg (IntKind.u64.wrap a1) (b := (s.size : Int) - 8) (by omega)
            have em1 := Int.emod_lt_of_pos (IntKind.u64.wrap a1) (b := (s.size : Int) - 8) (by omega)
            have ev0 : 0 ≤ IntKind.u64.wrap a1 := by simp only [IntKind.wrap, IntKind.bits, IntKind.signed]; simp; omega
            obtain ⟨m0, hm0⟩ : ∃ m0 : Nat, IntKind.u64.wrap a1 % ((s.size : Int) - 8) = m0 := ⟨(IntKind.u64.wrap a1 % ((s.size : Int) - 8)).toNat, by omega⟩
            have hmi : m = 8 + m0 := by rw [hm]; unfold turnedAt; rw [hm0]; rfl
            have hml : m < s.size := by omega
            have hml' : m < s.data.toList.length := by simpa using hml
            have eW : wrap64 (Int.tmod (IntKind.u64.wrap a1) ((s.size : Int) - 8)) = (m0 : Int) := by
              rw [Int.tmod_eq_emod_of_nonneg ev0, hm0]
              unfold wrap64
              omega
            have eL : wrap64 ((s.size : Int) - 8) = (s.size : Int) - 8 := by unfold wrap64; omega
            have eU : IntKind.u64.wrap ((s.size : Int) - 8) = (s.size : Int) - 8 := by (simp [IntKind.wrap, IntKind.bits, IntKind.signed]; omega)
            have eM : wrap64 (8 + (m0 : Int)) = (m : Int) := by unfold wrap64; omega
            have eZ : wrap64 (12 + z) = 12 + z := by unfold wrap64; omega
            have eZ2 : wrap64 (z + 12) = 12 + z := by unfold wrap64; omega
            have ne4 : ((s.size : Int) - 8 = 0) = False := eq_false (by omega)
            have ne5 : ((s.size : Int) - 8 == 0) = false := beq_eq_false_iff_ne.mpr (by omega)
            have d7 : decide ((s.size : Int) < 9) = false := decide_eq_false (by omega)
            have d8 : decide (s.size < 9) = false := decide_eq_false (by omega)
            have mlt : ((m : Int) < (s.size : Int)) = True := eq_true (Int.ofNat_lt.mpr hml)
            have mlt2 : (m < s.size) = True := eq_true hml
            rw [← hu] at h
            rw [← hu] at HQ
            have HT := Aside0.mk hm
            clear hu hm hc em0 em1 ev0 hmi hc0 hc1 hm0
            subst hca
            replace hu2 := Aside0.mk hu2
            have HL := Aside0.mk hml'
            have HM := Aside0.mk hml
            clear hml' hml hs0 hs1 hz
            have hun : ∀ b : Bool, (u.toList == s.toList) = b ↔ (decide (u = s)) = b := fun b => by
              have : (u.toList == s.toList) = decide (u = s) := by
                by_cases hz : u = s
                · rw [hz]; simp
                · rw [decide_eq_false hz]
                  refine beq_eq_false_iff_ne.mpr (fun h_ => hz ?_)
                  rw [ByteArray.toList_eq, ByteArray.toList_eq] at h_
                  exact ByteArray.ext (Array.toList_inj.mp h_)
              rw [this]
            have main : ∀ (eq lt : Bool), (u.toList == s.toList) = eq → decide ((m : Int) < 12 + z) = lt → (if eq = true then q6 = 0 ∧ q5 = (s.size : Int) else if lt = true then q6 = 201 ∧ q5 = 0 else q6 = 51 ∧ q5 = (s.size : Int)) →
                Calls Tryd.prog 7 #[.agg #[.int .i64 a0_0, .int .i64 a0_1, .string a0_2, .string a0_3], .int .i64 a1, .int .u8 (c.toNat : Int)] w fun e w' => e = .returned (.bool t) ∧ Below w.heap.size w w' := by
              clear h hun
              intro eq lt heq hlt hres
              have p0 : (0 : Int) ≤ (m : Int) := Int.natCast_nonneg m
              have g1 : decide (12 + z ≤ (m : Int)) = !lt := by
                cases lt
                · exact decide_eq_true (by have := of_decide_eq_false hlt; omega)
                · exact decide_eq_false (by have := of_decide_eq_true hlt; omega)
              have g2 : (u.toList != s.toList) = !eq := by rw [bne, heq]
              cases eq <;> cases lt <;> simp only [Bool.false_eq_true, if_false, if_true, Bool.not_false, Bool.not_true] at hres g1 g2 <;> obtain ⟨rfl, rfl⟩ := hres
              all_goals
                go_enter Tryd.func7, Tryd.ntmps7
                go_wp2_with (first
                  | ((with_reducible refine gate_dst (N := 3) rfl ?_); refine box_event ?hg (N := 3) ?hd (cs := #[.int .i64 a0_0, .int .i64 a0_1, .string a0_2, .string a0_3]) (t := 24) ?hr ?_; (case hd => rfl); (case hg => rfl); (case hr => first | (go_simp; done) | (go_simp; rfl)); intro gb hg w1 hbox hb; have n1_ := Aside0.mk (below_step HB.out hb); clear HB; have HB := n1_; have HX := Aside0.mk hbox; have hcz0 : w1.cell? ⟨gb, 0, none⟩ = some (.int .i64 a0_0) := (blk_cell hbox 0).trans rfl; have hcz1 : w1.cell? ⟨gb, 1, none⟩ = some (.int .i64 a0_1) := (blk_cell hbox 1).trans rfl; have hcz2 : w1.cell? ⟨gb, 2, none⟩ = some (.string a0_2) := (blk_cell hbox 2).trans rfl; have hcz3 : w1.cell? ⟨gb, 3, none⟩ = some (.string a0_3) := (blk_cell hbox 3).trans rfl; clear n1_ hb hbox hg)
                  | (go_at_call 12; refine (headgatelaw29_large.calls a0_0 a0_1 a0_2 a0_3 false _ HL0.out).mono ?_; rintro e w2 ⟨rfl, hb⟩; have n1_ := Aside0.mk (below_step HB.out hb); have n2_ := Aside0.mk (blk_below HX.out hb); clear HB hb HX hcz0 hcz1 hcz2 hcz3; have HB := n1_; have HX := n2_; clear n1_ n2_; have hcz0 : w2.cell? ⟨gb, 0, none⟩ = some (.int .i64 a0_0) := (blk_cell HX.out 0).trans rfl; have hcz1 : w2.cell? ⟨gb, 1, none⟩ = some (.int .i64 a0_1) := (blk_cell HX.out 1).trans rfl; have hcz2 : w2.cell? ⟨gb, 2, none⟩ = some (.string a0_2) := (blk_cell HX.out 2).trans rfl; have hcz3 : w2.cell? ⟨gb, 3, none⟩ = some (.string a0_3) := (blk_cell HX.out 3).trans rfl)
                  | (go_at_call 13; refine (tpdu_Put.calls k a0_0 a0_1 a0_2 a0_3 true true s e0 _ (Glob.keep HG.out HB.out) HP.out).mono ?_; rintro e w2 ⟨rfl, hb⟩; have n1_ := Aside0.mk (below_step HB.out hb); have n2_ := Aside0.mk (blk_below HX.out hb); clear HB hb HX hcz0 hcz1 hcz2 hcz3; have HB := n1_; have HX := n2_; clear n1_ n2_)
                  | ((with_reducible refine gate_dst (N := 48) rfl ?_); refine bytes_event rfl (N := 48) rfl (.tmp 47) rfl s rfl Tryd.underlying9 Tryd.underlying45 Tryd.underlying5 ?_; intro g cc w3 hgs hba hb; have NX := Aside0.mk (show gb ≠ g by rw [hgs]; exact Nat.ne_of_lt (blk_lt HX.out)); have n1_ := Aside0.mk (below_step HB.out hb); have n2_ := Aside0.mk (blk_below HX.out hb); have GE := Aside0.mk (show w.heap.size ≤ g by rw [hgs]; exact below_size HB.out); have hcy2 := hba.cell m HL.out; have hfy2 := hba.frozen m HL.out; have BA := Aside0.mk hba; clear HB HX; have HB := n1_; have HX := n2_; clear n1_ n2_ hb hba hgs)
                  | ((with_reducible refine gate_dst (N := 55) rfl ?_); refine back_event rfl (N := 55) rfl (.tmp 54) rfl (s.data.toList.set m c) _ _ _ rfl ?hn (BA.out.put m c HL.out) Tryd.underlying45 Tryd.underlying5 Tryd.underlying9 ?_; (case hn => first | (simp; done) | (simp; rfl)); rw [hu2.out]; have n1_ := Aside0.mk (below_set (j := m) (v := .int .u8 (c.toNat : Int)) HB.out GE.out); have n2_ := Aside0.mk (BA.out.put m c HL.out); have n3_ := Aside0.mk ((Below.heap_setCell _ ⟨g, m, none⟩ (.int .u8 (c.toNat : Int)) gb NX.out).trans HX.out); clear HB BA HX hcy2 hfy2; have HB := n1_; have BA := n2_; have HX := n3_; clear n1_ n2_ n3_)
                  | (go_at_call 9; refine (tpdu_Get.calls k u true true _ _ _ _ _ _ _ (Glob.keep HG.out HB.out) HQ.out).mono ?_; rintro e w4 ⟨rfl, hb⟩; have n1_ := Aside0.mk (below_step HB.out hb); have n2_ := Aside0.mk (BA.out.below hb); have n3_ := Aside0.mk (blk_below HX.out hb); clear HB BA HX hb; have HB := n1_; have BA := n2_; have HX := n3_; clear n1_ n2_ n3_)
                  | ((with_reducible refine gate_dst (N := 11) rfl ?_); refine box_event ?hg (N := 11) ?hd (cs := #[.int .i64 0, .int .i64 0, .string (⟨#[]⟩ : ByteArray), .string (⟨#[]⟩ : ByteArray)]) (t := 24) ?hr ?_; (case hd => rfl); (case hg => rfl); (case hr => first | (go_simp; done) | (go_simp; rfl)); intro gb2 hg w5 hbox hb; have NE := Aside0.mk (show g ≠ gb2 by rw [hg]; exact Nat.ne_of_lt BA.out.lt); have NX2 := Aside0.mk (show gb ≠ gb2 by rw [hg]; exact Nat.ne_of_lt (blk_lt HX.out)); have GE2 := Aside0.mk (show w.heap.size ≤ gb2 by rw [hg]; exact below_size HB.out); have n1_ := Aside0.mk (below_step HB.out hb); have n2_ := Aside0.mk (BA.out.below hb); have n3_ := Aside0.mk (blk_below HX.out hb); clear HB BA HX; have HB := n1_; have BA := n2_; have HX := n3_; have hcx0 : w5.cell? ⟨gb2, 0, none⟩ = some (.int .i64 0) := (blk_cell hbox 0).trans rfl; have hfx0 := blk_frozen hbox 0; have hcx1 : w5.cell? ⟨gb2, 1, none⟩ = some (.int .i64 0) := (blk_cell hbox 1).trans rfl; have hfx1 := blk_frozen hbox 1; have hcx2 : w5.cell? ⟨gb2, 2, none⟩ = some (.string (⟨#[]⟩ : ByteArray)) := (blk_cell hbox 2).trans rfl; have hfx2 := blk_frozen hbox 2; have hcx3 : w5.cell? ⟨gb2, 3, none⟩ = some (.string (⟨#[]⟩ : ByteArray)) := (blk_cell hbox 3).trans rfl; have hfx3 := blk_frozen hbox 3; clear n1_ n2_ n3_ hb hbox hg)
                  | ((with_reducible refine gate_dst (N := 61) rfl ?_); refine turned_world (fun w' => BytesAt w' g 5 (s.data.toList.set m c) ∧ w'.heap[gb]? = some (.cells #[.int .i64 a0_0, .int .i64 a0_1, .string a0_2, .string a0_3] 24 (0, 0)) ∧ Below w.heap.size w w') ⟨((((BA.out.far (p := ⟨gb2, 0, none⟩) NE.out _).far (p := ⟨gb2, 1, none⟩) NE.out _).far (p := ⟨gb2, 2, none⟩) NE.out _).far (p := ⟨gb2, 3, none⟩) NE.out _), ((Below.heap_setCell _ ⟨gb2, 3, none⟩ _ gb NX2.out).trans ((Below.heap_setCell _ ⟨gb2, 2, none⟩ _ gb NX2.out).trans ((Below.heap_setCell _ ⟨gb2, 1, none⟩ _ gb NX2.out).trans ((Below.heap_setCell _ ⟨gb2, 0, none⟩ _ gb NX2.out).trans HX.out)))), (below_set (below_set (below_set (below_set HB.out GE2.out) GE2.out) GE2.out) GE2.out)⟩ ?_; rintro w6 ⟨ba_, hx_, hb_⟩; clear HB BA HX hcx0 hcx1 hcx2 hcx3 hfx0 hfx1 hfx2 hfx3; have HB := Aside0.mk hb_; have BA := Aside0.mk ba_; have HX := Aside0.mk hx_; clear ba_ hx_ hb_; have hcz0 : w6.cell? ⟨gb, 0, none⟩ = some (.int .i64 a0_0) := (blk_cell HX.out 0).trans rfl; have hcz1 : w6.cell? ⟨gb, 1, none⟩ = some (.int .i64 a0_1) := (blk_cell HX.out 1).trans rfl; have hcz2 : w6.cell? ⟨gb, 2, none⟩ = some (.string a0_2) := (blk_cell HX.out 2).trans rfl; have hcz3 : w6.cell? ⟨gb, 3, none⟩ = some (.string a0_3) := (blk_cell HX.out 3).trans rfl; refine back_event rfl (N := 61) rfl (.tmp 60) rfl (s.data.toList.set m c) _ _ _ rfl ?hn BA.out Tryd.underlying45 Tryd.underlying5 Tryd.underlying9 ?_; (case hn => first | (simp; done) | (simp; rfl)); rw [hu2.out])
                  | (go_at_call 15; refine (tpdu_Size.calls a0_0 z _ (Glob.keep HG.out HB.out) HZ.out).mono ?_; rintro e w7 ⟨rfl, hb⟩; have n1_ := Aside0.mk (below_step HB.out hb); clear HB hb; have HB := n1_; clear n1_)
                  | (go_at_call 8; refine (headgatelaw29_wakes.calls k t _ (Glob.keep HG.out HB.out) HW.out).mono ?_; rintro e w2 ⟨rfl, hb⟩; have n1_ := Aside0.mk (below_step HB.out hb); clear HB hb; have HB := n1_; clear n1_))
                go_ret
                exact ⟨rfl, HB.out⟩
            by_cases he : u = s
            · rw [if_pos he] at h
              by_cases hr : q6 = 0 ∧ q5 = (s.size : Int)
              · rw [if_pos hr] at h
                obtain rfl := Option.some.inj h
                exact main true _ ((hun true).mpr (decide_eq_true he)) rfl (by rw [if_pos rfl]; exact hr)
              · rw [if_neg hr] at h
                exact absurd h (by simp)
            · rw [if_neg he] at h
              by_cases hl : (turnedAt s a1 : Int) < 12 + z
              · rw [if_pos hl] at h
                by_cases hr : q6 = 201 ∧ q5 = 0
                · rw [if_pos hr] at h
                  obtain rfl := Option.some.inj h
                  exact main false true ((hun false).mpr (decide_eq_false he)) (decide_eq_true (by have := HT.out; omega)) (by rw [if_neg (by decide), if_pos rfl]; exact hr)
                · rw [if_neg hr] at h
                  exact absurd h (by simp)
              · rw [if_neg hl] at h
                by_cases hr : q6 = 51 ∧ q5 = (s.size : Int)
                · rw [if_pos hr] at h
                  obtain rfl := Option.some.inj h
                  exact main false false ((hun false).mpr (decide_eq_false he)) (decide_eq_false (by have := HT.out; omega)) (by rw [if_neg (by decide), if_neg (by decide)]; exact hr)
                · rw [if_neg hr] at h
                  exact absurd h (by simp)
          · rw [if_neg hz] at h
            exact absurd h (by simp)
        · rw [if_neg h4] at h
          exact absurd h (by simp)
      · rw [if_neg h3] at h
        have d5 : (e0 == 0) = false := beq_eq_false_iff_ne.mpr h3
        have d6 : (e0 != 0) = true := bne_iff_ne.mpr h3
        clear h3
        by_cases h4 : s.size = 0
        · rw [if_pos h4] at h
          have HW := Aside0.mk h
          clear h
          have es : s = ByteArray.empty := ByteArray.ext (Array.eq_empty_of_size_eq_zero h4)
          have e1 : (s.toList == ([] : List UInt8)) = true := by rw [es, ByteArray.toList_eq]; rfl
          have e2 : (s.toList != ([] : List UInt8)) = false := by rw [bne, e1]; rfl
          clear es h4
          go_enter Tryd.func7, Tryd.ntmps7
          go_wp2_with (first
            | ((with_reducible refine gate_dst (N := 3) rfl ?_); refine box_event ?hg (N := 3) ?hd (cs := #[.int .i64 a0_0, .int .i64 a0_1, .string a0_2, .string a0_3]) (t := 24) ?hr ?_; (case hd => rfl); (case hg => rfl); (case hr => first | (go_simp; done) | (go_simp; rfl)); intro gb hg w1 hbox hb; have n1_ := Aside0.mk (below_step HB.out hb); clear HB; have HB := n1_; have HX := Aside0.mk hbox; have hcz0 : w1.cell? ⟨gb, 0, none⟩ = some (.int .i64 a0_0) := (blk_cell hbox 0).trans rfl; have hcz1 : w1.cell? ⟨gb, 1, none⟩ = some (.int .i64 a0_1) := (blk_cell hbox 1).trans rfl; have hcz2 : w1.cell? ⟨gb, 2, none⟩ = some (.string a0_2) := (blk_cell hbox 2).trans rfl; have hcz3 : w1.cell? ⟨gb, 3, none⟩ = some (.string a0_3) := (blk_cell hbox 3).trans rfl; clear n1_ hb hbox hg)
            | (go_at_call 12; refine (headgatelaw29_large.calls a0_0 a0_1 a0_2 a0_3 false _ HL0.out).mono ?_; rintro e w2 ⟨rfl, hb⟩; have n1_ := Aside0.mk (below_step HB.out hb); have n2_ := Aside0.mk (blk_below HX.out hb); clear HB hb HX hcz0 hcz1 hcz2 hcz3; have HB := n1_; have HX := n2_; clear n1_ n2_; have hcz0 : w2.cell? ⟨gb, 0, none⟩ = some (.int .i64 a0_0) := (blk_cell HX.out 0).trans rfl; have hcz1 : w2.cell? ⟨gb, 1, none⟩ = some (.int .i64 a0_1) := (blk_cell HX.out 1).trans rfl; have hcz2 : w2.cell? ⟨gb, 2, none⟩ = some (.string a0_2) := (blk_cell HX.out 2).trans rfl; have hcz3 : w2.cell? ⟨gb, 3, none⟩ = some (.string a0_3) := (blk_cell HX.out 3).trans rfl)
            | (go_at_call 13; refine (tpdu_Put.calls k a0_0 a0_1 a0_2 a0_3 true true s e0 _ (Glob.keep HG.out HB.out) HP.out).mono ?_; rintro e w2 ⟨rfl, hb⟩; have n1_ := Aside0.mk (below_step HB.out hb); have n2_ := Aside0.mk (blk_below HX.out hb); clear HB hb HX hcz0 hcz1 hcz2 hcz3; have HB := n1_; have HX := n2_; clear n1_ n2_)
            | (go_at_call 8; refine (headgatelaw29_wakes.calls k true _ (Glob.keep HG.out HB.out) HW.out).mono ?_; rintro e w2 ⟨rfl, hb⟩; have n1_ := Aside0.mk (below_step HB.out hb); clear HB hb; have HB := n1_; clear n1_))
          go_ret
          exact ⟨rfl, HB.out⟩
        · rw [if_neg h4] at h
          exact absurd h (by simp)

end Go.Proofs.YtkbjhblffbcleaaDoor.P
