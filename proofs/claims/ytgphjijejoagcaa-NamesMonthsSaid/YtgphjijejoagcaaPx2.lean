-- written by this session's patched copy of the printer (wip/tools/patch_print.py); Lean checks it
import Derived.Test.YtgphjijejoagcaaPx0
import Derived.Test.YtgphjijejoagcaaPx1
namespace Go.Proofs.Ytgphjijejoagcaa.P
open Go.RowKit Go.Proofs.YtgphjijejoagcaaW.PrintWords Go.Proofs.YtgphjijejoagcaaW.PrintLast Go.Proofs.YtgphjijejoagcaaW.PrintMore
attribute [local go_sem] max2_int min2_int max_two min_two max_three min_three max_four min_four   -- for this text's walks alone
set_option linter.unusedVariables false
set_option linter.unusedSimpArgs false

/-! ### headgatelaw03_NamesMonths: function 4 -/
def headgatelaw03_NamesMonths.j0 : Nat → ByteArray → Bool → Option (Bool)
  | 0, _, _ => none
  | k + 1, x10, x11 => if 4 + x10.size ≤ 9223372036854775807 then ((names_Iqn.f ((⟨#[105, 113, 110, 46]⟩ : ByteArray) ++ x10)).bind fun t121 => (if (t121 == x11) = true then ((names_Nqn.f ((⟨#[110, 113, 110, 46]⟩ : ByteArray) ++ x10)).bind fun t122 => (if (t122 == x11) = true then ((names_Iqn.f ((⟨#[110, 113, 110, 46]⟩ : ByteArray) ++ x10)).bind fun t123 => (if t123 = true then (some false) else ((names_Nqn.f ((⟨#[105, 113, 110, 46]⟩ : ByteArray) ++ x10)).bind fun t124 => (if t124 = true then (some false) else ((headgatelaw03_wakes.f).bind fun t125 => (some t125)))))) else (some false))) else (some false))) else (none)
def headgatelaw03_NamesMonths.f (k : Nat) (a0 : ByteArray) (a1 : Int) (a2 : Int) : Option (Bool) := if (a0.size : Int) > 200 then ((headgatelaw03_wakes.f).bind fun t113 => (some t113)) else ((headgatelaw03_NamesMonths_1.f (wrap64 (Int.tdiv (Int.tmod (wrap64 (a1)) 10000) 1000))).bind fun t114 => ((headgatelaw03_NamesMonths_1.f (wrap64 (Int.tdiv (Int.tmod (wrap64 (a1)) 10000) 100))).bind fun t115 => (if t114.size + t115.size ≤ 9223372036854775807 then ((headgatelaw03_NamesMonths_1.f (wrap64 (Int.tdiv (Int.tmod (wrap64 (a1)) 10000) 10))).bind fun t116 => (if (t114 ++ t115).size + t116.size ≤ 9223372036854775807 then ((headgatelaw03_NamesMonths_1.f (Int.tmod (wrap64 (a1)) 10000)).bind fun t117 => (if ((t114 ++ t115) ++ t116).size + t117.size ≤ 9223372036854775807 then (if (((t114 ++ t115) ++ t116) ++ t117).size + 1 ≤ 9223372036854775807 then ((headgatelaw03_NamesMonths_1.f (wrap64 (Int.tdiv (Int.tmod (wrap64 (a2)) 100) 10))).bind fun t118 => (if ((((t114 ++ t115) ++ t116) ++ t117) ++ (⟨#[45]⟩ : ByteArray)).size + t118.size ≤ 9223372036854775807 then ((headgatelaw03_NamesMonths_1.f (Int.tmod (wrap64 (a2)) 100)).bind fun t119 => (if (((((t114 ++ t115) ++ t116) ++ t117) ++ (⟨#[45]⟩ : ByteArray)) ++ t118).size + t119.size ≤ 9223372036854775807 then (if ((((((t114 ++ t115) ++ t116) ++ t117) ++ (⟨#[45]⟩ : ByteArray)) ++ t118) ++ t119).size + 1 ≤ 9223372036854775807 then (if (((((((t114 ++ t115) ++ t116) ++ t117) ++ (⟨#[45]⟩ : ByteArray)) ++ t118) ++ t119) ++ (⟨#[46]⟩ : ByteArray)).size + a0.size ≤ 9223372036854775807 then (if (Int.tmod (wrap64 (a2)) 100) ≥ 1 then (if (Int.tmod (wrap64 (a2)) 100) ≤ 12 then ((names_Name.f a0).bind fun t120 => (if t120 = true then (headgatelaw03_NamesMonths.j0 k ((((((((t114 ++ t115) ++ t116) ++ t117) ++ (⟨#[45]⟩ : ByteArray)) ++ t118) ++ t119) ++ (⟨#[46]⟩ : ByteArray)) ++ a0) (decide ((a0.size : Int) ≤ 52))) else (headgatelaw03_NamesMonths.j0 k ((((((((t114 ++ t115) ++ t116) ++ t117) ++ (⟨#[45]⟩ : ByteArray)) ++ t118) ++ t119) ++ (⟨#[46]⟩ : ByteArray)) ++ a0) false))) else (headgatelaw03_NamesMonths.j0 k ((((((((t114 ++ t115) ++ t116) ++ t117) ++ (⟨#[45]⟩ : ByteArray)) ++ t118) ++ t119) ++ (⟨#[46]⟩ : ByteArray)) ++ a0) false)) else (headgatelaw03_NamesMonths.j0 k ((((((((t114 ++ t115) ++ t116) ++ t117) ++ (⟨#[45]⟩ : ByteArray)) ++ t118) ++ t119) ++ (⟨#[46]⟩ : ByteArray)) ++ a0) false)) else (none)) else (none)) else (none))) else (none))) else (none)) else (none))) else (none))) else (none))))
theorem headgatelaw03_NamesMonths.mono_l : ∀ k, (∀ y0 y1, LeO (headgatelaw03_NamesMonths.j0 k y0 y1) (headgatelaw03_NamesMonths.j0 (k + 1) y0 y1))
  | 0 => fun _ _ r h => by simp [headgatelaw03_NamesMonths.j0] at h
  | k + 1 => by
    have ih0 := headgatelaw03_NamesMonths.mono_l k
    · intro y0 y1
      unfold headgatelaw03_NamesMonths.j0
      repeat' first
      | (with_reducible exact ih0 _ _)
      | (with_reducible exact LeO.refl _)
      | (with_reducible exact LeO.none _)
      | (with_reducible refine LeO.ite ?_ ?_)
      | (with_reducible refine LeO.bind ?_ (fun _ => ?_))
      | exact ih0 _ _
      | exact LeO.none _
      | refine LeO.ite ?_ ?_
      | refine LeO.bind ?_ (fun _ => ?_)
theorem headgatelaw03_NamesMonths.mono : ∀ a0 a1 a2 k, LeO (headgatelaw03_NamesMonths.f k a0 a1 a2) (headgatelaw03_NamesMonths.f (k + 1) a0 a1 a2) := by
  intro a0 a1 a2 k
  have ih0 := headgatelaw03_NamesMonths.mono_l k
  unfold headgatelaw03_NamesMonths.f
  repeat' first
      | (with_reducible exact ih0 _ _)
      | (with_reducible exact LeO.refl _)
      | (with_reducible exact LeO.none _)
      | (with_reducible refine LeO.ite ?_ ?_)
      | (with_reducible refine LeO.bind ?_ (fun _ => ?_))
      | exact ih0 _ _
      | exact LeO.none _
      | refine LeO.ite ?_ ?_
      | refine LeO.bind ?_ (fun _ => ?_)
set_option maxHeartbeats 8000000 in
set_option maxRecDepth 100000 in
theorem headgatelaw03_NamesMonths.calls (k : Nat) (a0 : ByteArray) (a1 : Int) (a2 : Int) (r : Bool) (w : World) (hT : r = true) (h : headgatelaw03_NamesMonths.f k a0 a1 a2 = some r) :
    Calls Try.prog 4 #[.string a0, .int .u16 a1, .int .u16 a2] w fun e w' => e = .returned (.bool r) ∧ Below w.heap.size w w' := by
  have HT0 := Aside0.mk hT
  clear hT
  have HB := Aside0.mk (Below.refl w.heap.size w)
  have H : (if (a0.size : Int) > 200 then ((headgatelaw03_wakes.f).bind fun t113 => (some t113)) else ((headgatelaw03_NamesMonths_1.f (wrap64 (Int.tdiv (Int.tmod (wrap64 (a1)) 10000) 1000))).bind fun t114 => ((headgatelaw03_NamesMonths_1.f (wrap64 (Int.tdiv (Int.tmod (wrap64 (a1)) 10000) 100))).bind fun t115 => (if t114.size + t115.size ≤ 9223372036854775807 then ((headgatelaw03_NamesMonths_1.f (wrap64 (Int.tdiv (Int.tmod (wrap64 (a1)) 10000) 10))).bind fun t116 => (if (t114 ++ t115).size + t116.size ≤ 9223372036854775807 then ((headgatelaw03_NamesMonths_1.f (Int.tmod (wrap64 (a1)) 10000)).bind fun t117 => (if ((t114 ++ t115) ++ t116).size + t117.size ≤ 9223372036854775807 then (if (((t114 ++ t115) ++ t116) ++ t117).size + 1 ≤ 9223372036854775807 then ((headgatelaw03_NamesMonths_1.f (wrap64 (Int.tdiv (Int.tmod (wrap64 (a2)) 100) 10))).bind fun t118 => (if ((((t114 ++ t115) ++ t116) ++ t117) ++ (⟨#[45]⟩ : ByteArray)).size + t118.size ≤ 9223372036854775807 then ((headgatelaw03_NamesMonths_1.f (Int.tmod (wrap64 (a2)) 100)).bind fun t119 => (if (((((t114 ++ t115) ++ t116) ++ t117) ++ (⟨#[45]⟩ : ByteArray)) ++ t118).size + t119.size ≤ 9223372036854775807 then (if ((((((t114 ++ t115) ++ t116) ++ t117) ++ (⟨#[45]⟩ : ByteArray)) ++ t118) ++ t119).size + 1 ≤ 9223372036854775807 then (if (((((((t114 ++ t115) ++ t116) ++ t117) ++ (⟨#[45]⟩ : ByteArray)) ++ t118) ++ t119) ++ (⟨#[46]⟩ : ByteArray)).size + a0.size ≤ 9223372036854775807 then (if (Int.tmod (wrap64 (a2)) 100) ≥ 1 then (if (Int.tmod (wrap64 (a2)) 100) ≤ 12 then ((names_Name.f a0).bind fun t120 => (if t120 = true then (headgatelaw03_NamesMonths.j0 k ((((((((t114 ++ t115) ++ t116) ++ t117) ++ (⟨#[45]⟩ : ByteArray)) ++ t118) ++ t119) ++ (⟨#[46]⟩ : ByteArray)) ++ a0) (decide ((a0.size : Int) ≤ 52))) else (headgatelaw03_NamesMonths.j0 k ((((((((t114 ++ t115) ++ t116) ++ t117) ++ (⟨#[45]⟩ : ByteArray)) ++ t118) ++ t119) ++ (⟨#[46]⟩ : ByteArray)) ++ a0) false))) else (headgatelaw03_NamesMonths.j0 k ((((((((t114 ++ t115) ++ t116) ++ t117) ++ (⟨#[45]⟩ : ByteArray)) ++ t118) ++ t119) ++ (⟨#[46]⟩ : ByteArray)) ++ a0) false)) else (headgatelaw03_NamesMonths.j0 k ((((((((t114 ++ t115) ++ t116) ++ t117) ++ (⟨#[45]⟩ : ByteArray)) ++ t118) ++ t119) ++ (⟨#[46]⟩ : ByteArray)) ++ a0) false)) else (none)) else (none)) else (none))) else (none))) else (none)) else (none))) else (none))) else (none))))) = some r := h
  clear h
  by_cases c4 : (a0.size : Int) > 200
  · rw [if_pos c4] at H
    have c4b0 : decide (200 < (a0.size : Int)) = true := decide_eq_true c4
    have c4b1 : decide (200 < a0.size) = true := decide_eq_true (by omega)
    clear c4
    replace H := Option.bind_eq_some_iff.mp H
    obtain ⟨t113, A50, H⟩ := H
    replace H : (some t113) = some r := H
    have A5 := Aside0.mk A50
    clear A50
    obtain rfl := Option.some.inj H
    go_enter Try.func4, Try.ntmps4
    go_wp2_with (first | ((with_reducible refine gate_callee (f := 7) rfl ?_); refine goesL_ (some 15) rfl rfl Try.func7 (by kernel_rfl) rfl #[] rfl (by (try simp only [List.map_toArray, List.map_cons, List.map_nil]); first | done | rfl | (simp only [List.length_drop, List.length_take]; rfl)) ?_; (with_reducible refine (headgatelaw03_wakes.calls  t113 _ A5.out).mono ?_); rintro e w6 ⟨rfl, hb⟩; refine ⟨_, rfl, ?_⟩; have n0_ := Aside0.mk (below_step (by repeat (first | (with_reducible first | exact HB.out | apply below_alloc | apply pw_below_drewN | apply below_drew1) | exact HB.out)) hb); clear HB; have HB := n0_; clear n0_; (try clear hb); (try clear hb2); (try clear hk); (try clear hi)))
    go_ret
    exact ⟨by first | rfl | (simp [errW_none, errW_some] <;> rfl) | (simp [*, errW_none, errW_some] <;> rfl) | (simp [bt, *]; done) | (unfold bt; simp [*]; done), by repeat (first | (with_reducible first | exact HB.out | apply below_alloc | apply pw_below_drewN | apply below_drew1) | exact HB.out)⟩
  · rw [if_neg c4] at H
    have c4b0 : decide (200 < (a0.size : Int)) = false := decide_eq_false c4
    have c4b1 : decide (200 < a0.size) = false := decide_eq_false (by omega)
    clear c4
    replace H := Option.bind_eq_some_iff.mp H
    obtain ⟨t114, A70, H⟩ := H
    replace H : ((headgatelaw03_NamesMonths_1.f (wrap64 (Int.tdiv (Int.tmod (wrap64 (a1)) 10000) 100))).bind fun t115 => (if t114.size + t115.size ≤ 9223372036854775807 then ((headgatelaw03_NamesMonths_1.f (wrap64 (Int.tdiv (Int.tmod (wrap64 (a1)) 10000) 10))).bind fun t116 => (if (t114 ++ t115).size + t116.size ≤ 9223372036854775807 then ((headgatelaw03_NamesMonths_1.f (Int.tmod (wrap64 (a1)) 10000)).bind fun t117 => (if ((t114 ++ t115) ++ t116).size + t117.size ≤ 9223372036854775807 then (if (((t114 ++ t115) ++ t116) ++ t117).size + 1 ≤ 9223372036854775807 then ((headgatelaw03_NamesMonths_1.f (wrap64 (Int.tdiv (Int.tmod (wrap64 (a2)) 100) 10))).bind fun t118 => (if ((((t114 ++ t115) ++ t116) ++ t117) ++ (⟨#[45]⟩ : ByteArray)).size + t118.size ≤ 9223372036854775807 then ((headgatelaw03_NamesMonths_1.f (Int.tmod (wrap64 (a2)) 100)).bind fun t119 => (if (((((t114 ++ t115) ++ t116) ++ t117) ++ (⟨#[45]⟩ : ByteArray)) ++ t118).size + t119.size ≤ 9223372036854775807 then (if ((((((t114 ++ t115) ++ t116) ++ t117) ++ (⟨#[45]⟩ : ByteArray)) ++ t118) ++ t119).size + 1 ≤ 9223372036854775807 then (if (((((((t114 ++ t115) ++ t116) ++ t117) ++ (⟨#[45]⟩ : ByteArray)) ++ t118) ++ t119) ++ (⟨#[46]⟩ : ByteArray)).size + a0.size ≤ 9223372036854775807 then (if (Int.tmod (wrap64 (a2)) 100) ≥ 1 then (if (Int.tmod (wrap64 (a2)) 100) ≤ 12 then ((names_Name.f a0).bind fun t120 => (if t120 = true then (headgatelaw03_NamesMonths.j0 k ((((((((t114 ++ t115) ++ t116) ++ t117) ++ (⟨#[45]⟩ : ByteArray)) ++ t118) ++ t119) ++ (⟨#[46]⟩ : ByteArray)) ++ a0) (decide ((a0.size : Int) ≤ 52))) else (headgatelaw03_NamesMonths.j0 k ((((((((t114 ++ t115) ++ t116) ++ t117) ++ (⟨#[45]⟩ : ByteArray)) ++ t118) ++ t119) ++ (⟨#[46]⟩ : ByteArray)) ++ a0) false))) else (headgatelaw03_NamesMonths.j0 k ((((((((t114 ++ t115) ++ t116) ++ t117) ++ (⟨#[45]⟩ : ByteArray)) ++ t118) ++ t119) ++ (⟨#[46]⟩ : ByteArray)) ++ a0) false)) else (headgatelaw03_NamesMonths.j0 k ((((((((t114 ++ t115) ++ t116) ++ t117) ++ (⟨#[45]⟩ : ByteArray)) ++ t118) ++ t119) ++ (⟨#[46]⟩ : ByteArray)) ++ a0) false)) else (none)) else (none)) else (none))) else (none))) else (none)) else (none))) else (none))) else (none))) = some r := H
    have A7 := Aside0.mk A70
    clear A70
    replace H := Option.bind_eq_some_iff.mp H
    obtain ⟨t115, A80, H⟩ := H
    replace H : (if t114.size + t115.size ≤ 9223372036854775807 then ((headgatelaw03_NamesMonths_1.f (wrap64 (Int.tdiv (Int.tmod (wrap64 (a1)) 10000) 10))).bind fun t116 => (if (t114 ++ t115).size + t116.size ≤ 9223372036854775807 then ((headgatelaw03_NamesMonths_1.f (Int.tmod (wrap64 (a1)) 10000)).bind fun t117 => (if ((t114 ++ t115) ++ t116).size + t117.size ≤ 9223372036854775807 then (if (((t114 ++ t115) ++ t116) ++ t117).size + 1 ≤ 9223372036854775807 then ((headgatelaw03_NamesMonths_1.f (wrap64 (Int.tdiv (Int.tmod (wrap64 (a2)) 100) 10))).bind fun t118 => (if ((((t114 ++ t115) ++ t116) ++ t117) ++ (⟨#[45]⟩ : ByteArray)).size + t118.size ≤ 9223372036854775807 then ((headgatelaw03_NamesMonths_1.f (Int.tmod (wrap64 (a2)) 100)).bind fun t119 => (if (((((t114 ++ t115) ++ t116) ++ t117) ++ (⟨#[45]⟩ : ByteArray)) ++ t118).size + t119.size ≤ 9223372036854775807 then (if ((((((t114 ++ t115) ++ t116) ++ t117) ++ (⟨#[45]⟩ : ByteArray)) ++ t118) ++ t119).size + 1 ≤ 9223372036854775807 then (if (((((((t114 ++ t115) ++ t116) ++ t117) ++ (⟨#[45]⟩ : ByteArray)) ++ t118) ++ t119) ++ (⟨#[46]⟩ : ByteArray)).size + a0.size ≤ 9223372036854775807 then (if (Int.tmod (wrap64 (a2)) 100) ≥ 1 then (if (Int.tmod (wrap64 (a2)) 100) ≤ 12 then ((names_Name.f a0).bind fun t120 => (if t120 = true then (headgatelaw03_NamesMonths.j0 k ((((((((t114 ++ t115) ++ t116) ++ t117) ++ (⟨#[45]⟩ : ByteArray)) ++ t118) ++ t119) ++ (⟨#[46]⟩ : ByteArray)) ++ a0) (decide ((a0.size : Int) ≤ 52))) else (headgatelaw03_NamesMonths.j0 k ((((((((t114 ++ t115) ++ t116) ++ t117) ++ (⟨#[45]⟩ : ByteArray)) ++ t118) ++ t119) ++ (⟨#[46]⟩ : ByteArray)) ++ a0) false))) else (headgatelaw03_NamesMonths.j0 k ((((((((t114 ++ t115) ++ t116) ++ t117) ++ (⟨#[45]⟩ : ByteArray)) ++ t118) ++ t119) ++ (⟨#[46]⟩ : ByteArray)) ++ a0) false)) else (headgatelaw03_NamesMonths.j0 k ((((((((t114 ++ t115) ++ t116) ++ t117) ++ (⟨#[45]⟩ : ByteArray)) ++ t118) ++ t119) ++ (⟨#[46]⟩ : ByteArray)) ++ a0) false)) else (none)) else (none)) else (none))) else (none))) else (none)) else (none))) else (none))) else (none)) = some r := H
    have A8 := Aside0.mk A80
    clear A80
    by_cases c9 : t114.size + t115.size ≤ 9223372036854775807
    · rw [if_pos c9] at H
      have c9b0 := eq_true c9
      have c9b1 : decide (t114.size + t115.size ≤ 9223372036854775807) = true := decide_eq_true c9
      try have c9b2 : (9223372036854775807 < t114.size + t115.size) = False := eq_false (Nat.not_lt.2 c9)
      replace H := Option.bind_eq_some_iff.mp H
      obtain ⟨t116, A100, H⟩ := H
      replace H : (if (t114 ++ t115).size + t116.size ≤ 9223372036854775807 then ((headgatelaw03_NamesMonths_1.f (Int.tmod (wrap64 (a1)) 10000)).bind fun t117 => (if ((t114 ++ t115) ++ t116).size + t117.size ≤ 9223372036854775807 then (if (((t114 ++ t115) ++ t116) ++ t117).size + 1 ≤ 9223372036854775807 then ((headgatelaw03_NamesMonths_1.f (wrap64 (Int.tdiv (Int.tmod (wrap64 (a2)) 100) 10))).bind fun t118 => (if ((((t114 ++ t115) ++ t116) ++ t117) ++ (⟨#[45]⟩ : ByteArray)).size + t118.size ≤ 9223372036854775807 then ((headgatelaw03_NamesMonths_1.f (Int.tmod (wrap64 (a2)) 100)).bind fun t119 => (if (((((t114 ++ t115) ++ t116) ++ t117) ++ (⟨#[45]⟩ : ByteArray)) ++ t118).size + t119.size ≤ 9223372036854775807 then (if ((((((t114 ++ t115) ++ t116) ++ t117) ++ (⟨#[45]⟩ : ByteArray)) ++ t118) ++ t119).size + 1 ≤ 9223372036854775807 then (if (((((((t114 ++ t115) ++ t116) ++ t117) ++ (⟨#[45]⟩ : ByteArray)) ++ t118) ++ t119) ++ (⟨#[46]⟩ : ByteArray)).size + a0.size ≤ 9223372036854775807 then (if (Int.tmod (wrap64 (a2)) 100) ≥ 1 then (if (Int.tmod (wrap64 (a2)) 100) ≤ 12 then ((names_Name.f a0).bind fun t120 => (if t120 = true then (headgatelaw03_NamesMonths.j0 k ((((((((t114 ++ t115) ++ t116) ++ t117) ++ (⟨#[45]⟩ : ByteArray)) ++ t118) ++ t119) ++ (⟨#[46]⟩ : ByteArray)) ++ a0) (decide ((a0.size : Int) ≤ 52))) else (headgatelaw03_NamesMonths.j0 k ((((((((t114 ++ t115) ++ t116) ++ t117) ++ (⟨#[45]⟩ : ByteArray)) ++ t118) ++ t119) ++ (⟨#[46]⟩ : ByteArray)) ++ a0) false))) else (headgatelaw03_NamesMonths.j0 k ((((((((t114 ++ t115) ++ t116) ++ t117) ++ (⟨#[45]⟩ : ByteArray)) ++ t118) ++ t119) ++ (⟨#[46]⟩ : ByteArray)) ++ a0) false)) else (headgatelaw03_NamesMonths.j0 k ((((((((t114 ++ t115) ++ t116) ++ t117) ++ (⟨#[45]⟩ : ByteArray)) ++ t118) ++ t119) ++ (⟨#[46]⟩ : ByteArray)) ++ a0) false)) else (none)) else (none)) else (none))) else (none))) else (none)) else (none))) else (none)) = some r := H
      have A10 := Aside0.mk A100
      clear A100
      by_cases c11 : (t114 ++ t115).size + t116.size ≤ 9223372036854775807
      · rw [if_pos c11] at H
        have c11b0 := eq_true c11
        have c11b1 : decide ((t114 ++ t115).size + t116.size ≤ 9223372036854775807) = true := decide_eq_true c11
        try have c11b2 : (9223372036854775807 < (t114 ++ t115).size + t116.size) = False := eq_false (Nat.not_lt.2 c11)
        (try have c11b4 : (9223372036854775807 < t114.size + t115.size + t116.size) = False := eq_false (by have h_ := c11; simp only [ByteArray.size_append, ByteArray.size_extract] at h_; omega))
        replace H := Option.bind_eq_some_iff.mp H
        obtain ⟨t117, A120, H⟩ := H
        replace H : (if ((t114 ++ t115) ++ t116).size + t117.size ≤ 9223372036854775807 then (if (((t114 ++ t115) ++ t116) ++ t117).size + 1 ≤ 9223372036854775807 then ((headgatelaw03_NamesMonths_1.f (wrap64 (Int.tdiv (Int.tmod (wrap64 (a2)) 100) 10))).bind fun t118 => (if ((((t114 ++ t115) ++ t116) ++ t117) ++ (⟨#[45]⟩ : ByteArray)).size + t118.size ≤ 9223372036854775807 then ((headgatelaw03_NamesMonths_1.f (Int.tmod (wrap64 (a2)) 100)).bind fun t119 => (if (((((t114 ++ t115) ++ t116) ++ t117) ++ (⟨#[45]⟩ : ByteArray)) ++ t118).size + t119.size ≤ 9223372036854775807 then (if ((((((t114 ++ t115) ++ t116) ++ t117) ++ (⟨#[45]⟩ : ByteArray)) ++ t118) ++ t119).size + 1 ≤ 9223372036854775807 then (if (((((((t114 ++ t115) ++ t116) ++ t117) ++ (⟨#[45]⟩ : ByteArray)) ++ t118) ++ t119) ++ (⟨#[46]⟩ : ByteArray)).size + a0.size ≤ 9223372036854775807 then (if (Int.tmod (wrap64 (a2)) 100) ≥ 1 then (if (Int.tmod (wrap64 (a2)) 100) ≤ 12 then ((names_Name.f a0).bind fun t120 => (if t120 = true then (headgatelaw03_NamesMonths.j0 k ((((((((t114 ++ t115) ++ t116) ++ t117) ++ (⟨#[45]⟩ : ByteArray)) ++ t118) ++ t119) ++ (⟨#[46]⟩ : ByteArray)) ++ a0) (decide ((a0.size : Int) ≤ 52))) else (headgatelaw03_NamesMonths.j0 k ((((((((t114 ++ t115) ++ t116) ++ t117) ++ (⟨#[45]⟩ : ByteArray)) ++ t118) ++ t119) ++ (⟨#[46]⟩ : ByteArray)) ++ a0) false))) else (headgatelaw03_NamesMonths.j0 k ((((((((t114 ++ t115) ++ t116) ++ t117) ++ (⟨#[45]⟩ : ByteArray)) ++ t118) ++ t119) ++ (⟨#[46]⟩ : ByteArray)) ++ a0) false)) else (headgatelaw03_NamesMonths.j0 k ((((((((t114 ++ t115) ++ t116) ++ t117) ++ (⟨#[45]⟩ : ByteArray)) ++ t118) ++ t119) ++ (⟨#[46]⟩ : ByteArray)) ++ a0) false)) else (none)) else (none)) else (none))) else (none))) else (none)) else (none)) = some r := H
        have A12 := Aside0.mk A120
        clear A120
        by_cases c13 : ((t114 ++ t115) ++ t116).size + t117.size ≤ 9223372036854775807
        · rw [if_pos c13] at H
          have c13b0 := eq_true c13
          have c13b1 : decide (((t114 ++ t115) ++ t116).size + t117.size ≤ 9223372036854775807) = true := decide_eq_true c13
          try have c13b2 : (9223372036854775807 < ((t114 ++ t115) ++ t116).size + t117.size) = False := eq_false (Nat.not_lt.2 c13)
          (try have c13b4 : (9223372036854775807 < t114.size + t115.size + t116.size + t117.size) = False := eq_false (by have h_ := c13; simp only [ByteArray.size_append, ByteArray.size_extract] at h_; omega))
          by_cases c14 : (((t114 ++ t115) ++ t116) ++ t117).size + 1 ≤ 9223372036854775807
          · rw [if_pos c14] at H
            have c14b0 := eq_true c14
            have c14b1 : decide ((((t114 ++ t115) ++ t116) ++ t117).size + 1 ≤ 9223372036854775807) = true := decide_eq_true c14
            try have c14b2 : (9223372036854775807 < (((t114 ++ t115) ++ t116) ++ t117).size + 1) = False := eq_false (Nat.not_lt.2 c14)
            (try have c14b4 : (9223372036854775807 < t114.size + t115.size + t116.size + t117.size + 1) = False := eq_false (by have h_ := c14; simp only [ByteArray.size_append, ByteArray.size_extract] at h_; omega))
            replace H := Option.bind_eq_some_iff.mp H
            obtain ⟨t118, A150, H⟩ := H
            replace H : (if ((((t114 ++ t115) ++ t116) ++ t117) ++ (⟨#[45]⟩ : ByteArray)).size + t118.size ≤ 9223372036854775807 then ((headgatelaw03_NamesMonths_1.f (Int.tmod (wrap64 (a2)) 100)).bind fun t119 => (if (((((t114 ++ t115) ++ t116) ++ t117) ++ (⟨#[45]⟩ : ByteArray)) ++ t118).size + t119.size ≤ 9223372036854775807 then (if ((((((t114 ++ t115) ++ t116) ++ t117) ++ (⟨#[45]⟩ : ByteArray)) ++ t118) ++ t119).size + 1 ≤ 9223372036854775807 then (if (((((((t114 ++ t115) ++ t116) ++ t117) ++ (⟨#[45]⟩ : ByteArray)) ++ t118) ++ t119) ++ (⟨#[46]⟩ : ByteArray)).size + a0.size ≤ 9223372036854775807 then (if (Int.tmod (wrap64 (a2)) 100) ≥ 1 then (if (Int.tmod (wrap64 (a2)) 100) ≤ 12 then ((names_Name.f a0).bind fun t120 => (if t120 = true then (headgatelaw03_NamesMonths.j0 k ((((((((t114 ++ t115) ++ t116) ++ t117) ++ (⟨#[45]⟩ : ByteArray)) ++ t118) ++ t119) ++ (⟨#[46]⟩ : ByteArray)) ++ a0) (decide ((a0.size : Int) ≤ 52))) else (headgatelaw03_NamesMonths.j0 k ((((((((t114 ++ t115) ++ t116) ++ t117) ++ (⟨#[45]⟩ : ByteArray)) ++ t118) ++ t119) ++ (⟨#[46]⟩ : ByteArray)) ++ a0) false))) else (headgatelaw03_NamesMonths.j0 k ((((((((t114 ++ t115) ++ t116) ++ t117) ++ (⟨#[45]⟩ : ByteArray)) ++ t118) ++ t119) ++ (⟨#[46]⟩ : ByteArray)) ++ a0) false)) else (headgatelaw03_NamesMonths.j0 k ((((((((t114 ++ t115) ++ t116) ++ t117) ++ (⟨#[45]⟩ : ByteArray)) ++ t118) ++ t119) ++ (⟨#[46]⟩ : ByteArray)) ++ a0) false)) else (none)) else (none)) else (none))) else (none)) = some r := H
            have A15 := Aside0.mk A150
            clear A150
            by_cases c16 : ((((t114 ++ t115) ++ t116) ++ t117) ++ (⟨#[45]⟩ : ByteArray)).size + t118.size ≤ 9223372036854775807
            · rw [if_pos c16] at H
              have c16b0 := eq_true c16
              have c16b1 : decide (((((t114 ++ t115) ++ t116) ++ t117) ++ (⟨#[45]⟩ : ByteArray)).size + t118.size ≤ 9223372036854775807) = true := decide_eq_true c16
              try have c16b2 : (9223372036854775807 < ((((t114 ++ t115) ++ t116) ++ t117) ++ (⟨#[45]⟩ : ByteArray)).size + t118.size) = False := eq_false (Nat.not_lt.2 c16)
              (try have c16b4 : (9223372036854775807 < t114.size + t115.size + t116.size + t117.size + (⟨#[45]⟩ : ByteArray).size + t118.size) = False := eq_false (by have h_ := c16; simp only [ByteArray.size_append, ByteArray.size_extract] at h_; omega))
              have c16b6 : (9223372036854775807 < t114.size + t115.size + t116.size + t117.size + 1 + t118.size) = False := eq_false (by have h_ := c16; simp only [ByteArray.size_append, ByteArray.size_extract] at h_; have z0_ : (⟨#[45]⟩ : ByteArray).size = 1 := rfl; omega)
              replace H := Option.bind_eq_some_iff.mp H
              obtain ⟨t119, A170, H⟩ := H
              replace H : (if (((((t114 ++ t115) ++ t116) ++ t117) ++ (⟨#[45]⟩ : ByteArray)) ++ t118).size + t119.size ≤ 9223372036854775807 then (if ((((((t114 ++ t115) ++ t116) ++ t117) ++ (⟨#[45]⟩ : ByteArray)) ++ t118) ++ t119).size + 1 ≤ 9223372036854775807 then (if (((((((t114 ++ t115) ++ t116) ++ t117) ++ (⟨#[45]⟩ : ByteArray)) ++ t118) ++ t119) ++ (⟨#[46]⟩ : ByteArray)).size + a0.size ≤ 9223372036854775807 then (if (Int.tmod (wrap64 (a2)) 100) ≥ 1 then (if (Int.tmod (wrap64 (a2)) 100) ≤ 12 then ((names_Name.f a0).bind fun t120 => (if t120 = true then (headgatelaw03_NamesMonths.j0 k ((((((((t114 ++ t115) ++ t116) ++ t117) ++ (⟨#[45]⟩ : ByteArray)) ++ t118) ++ t119) ++ (⟨#[46]⟩ : ByteArray)) ++ a0) (decide ((a0.size : Int) ≤ 52))) else (headgatelaw03_NamesMonths.j0 k ((((((((t114 ++ t115) ++ t116) ++ t117) ++ (⟨#[45]⟩ : ByteArray)) ++ t118) ++ t119) ++ (⟨#[46]⟩ : ByteArray)) ++ a0) false))) else (headgatelaw03_NamesMonths.j0 k ((((((((t114 ++ t115) ++ t116) ++ t117) ++ (⟨#[45]⟩ : ByteArray)) ++ t118) ++ t119) ++ (⟨#[46]⟩ : ByteArray)) ++ a0) false)) else (headgatelaw03_NamesMonths.j0 k ((((((((t114 ++ t115) ++ t116) ++ t117) ++ (⟨#[45]⟩ : ByteArray)) ++ t118) ++ t119) ++ (⟨#[46]⟩ : ByteArray)) ++ a0) false)) else (none)) else (none)) else (none)) = some r := H
              have A17 := Aside0.mk A170
              clear A170
              by_cases c18 : (((((t114 ++ t115) ++ t116) ++ t117) ++ (⟨#[45]⟩ : ByteArray)) ++ t118).size + t119.size ≤ 9223372036854775807
              · rw [if_pos c18] at H
                have c18b0 := eq_true c18
                have c18b1 : decide ((((((t114 ++ t115) ++ t116) ++ t117) ++ (⟨#[45]⟩ : ByteArray)) ++ t118).size + t119.size ≤ 9223372036854775807) = true := decide_eq_true c18
                try have c18b2 : (9223372036854775807 < (((((t114 ++ t115) ++ t116) ++ t117) ++ (⟨#[45]⟩ : ByteArray)) ++ t118).size + t119.size) = False := eq_false (Nat.not_lt.2 c18)
                (try have c18b4 : (9223372036854775807 < t114.size + t115.size + t116.size + t117.size + (⟨#[45]⟩ : ByteArray).size + t118.size + t119.size) = False := eq_false (by have h_ := c18; simp only [ByteArray.size_append, ByteArray.size_extract] at h_; omega))
                have c18b6 : (9223372036854775807 < t114.size + t115.size + t116.size + t117.size + 1 + t118.size + t119.size) = False := eq_false (by have h_ := c18; simp only [ByteArray.size_append, ByteArray.size_extract] at h_; have z0_ : (⟨#[45]⟩ : ByteArray).size = 1 := rfl; omega)
                by_cases c19 : ((((((t114 ++ t115) ++ t116) ++ t117) ++ (⟨#[45]⟩ : ByteArray)) ++ t118) ++ t119).size + 1 ≤ 9223372036854775807
                · rw [if_pos c19] at H
                  have c19b0 := eq_true c19
                  have c19b1 : decide (((((((t114 ++ t115) ++ t116) ++ t117) ++ (⟨#[45]⟩ : ByteArray)) ++ t118) ++ t119).size + 1 ≤ 9223372036854775807) = true := decide_eq_true c19
                  try have c19b2 : (9223372036854775807 < ((((((t114 ++ t115) ++ t116) ++ t117) ++ (⟨#[45]⟩ : ByteArray)) ++ t118) ++ t119).size + 1) = False := eq_false (Nat.not_lt.2 c19)
                  (try have c19b4 : (9223372036854775807 < t114.size + t115.size + t116.size + t117.size + (⟨#[45]⟩ : ByteArray).size + t118.size + t119.size + 1) = False := eq_false (by have h_ := c19; simp only [ByteArray.size_append, ByteArray.size_extract] at h_; omega))
                  have c19b6 : (9223372036854775807 < t114.size + t115.size + t116.size + t117.size + 1 + t118.size + t119.size + 1) = False := eq_false (by have h_ := c19; simp only [ByteArray.size_append, ByteArray.size_extract] at h_; have z0_ : (⟨#[45]⟩ : ByteArray).size = 1 := rfl; omega)
                  by_cases c20 : (((((((t114 ++ t115) ++ t116) ++ t117) ++ (⟨#[45]⟩ : ByteArray)) ++ t118) ++ t119) ++ (⟨#[46]⟩ : ByteArray)).size + a0.size ≤ 9223372036854775807
                  · rw [if_pos c20] at H
                    have c20b0 := eq_true c20
                    have c20b1 : decide ((((((((t114 ++ t115) ++ t116) ++ t117) ++ (⟨#[45]⟩ : ByteArray)) ++ t118) ++ t119) ++ (⟨#[46]⟩ : ByteArray)).size + a0.size ≤ 9223372036854775807) = true := decide_eq_true c20
                    try have c20b2 : (9223372036854775807 < (((((((t114 ++ t115) ++ t116) ++ t117) ++ (⟨#[45]⟩ : ByteArray)) ++ t118) ++ t119) ++ (⟨#[46]⟩ : ByteArray)).size + a0.size) = False := eq_false (Nat.not_lt.2 c20)
                    (try have c20b4 : (9223372036854775807 < t114.size + t115.size + t116.size + t117.size + (⟨#[45]⟩ : ByteArray).size + t118.size + t119.size + (⟨#[46]⟩ : ByteArray).size + a0.size) = False := eq_false (by have h_ := c20; simp only [ByteArray.size_append, ByteArray.size_extract] at h_; omega))
                    have c20b6 : (9223372036854775807 < t114.size + t115.size + t116.size + t117.size + 1 + t118.size + t119.size + 1 + a0.size) = False := eq_false (by have h_ := c20; simp only [ByteArray.size_append, ByteArray.size_extract] at h_; have z0_ : (⟨#[45]⟩ : ByteArray).size = 1 := rfl; have z1_ : (⟨#[46]⟩ : ByteArray).size = 1 := rfl; omega)
                    have HC21 := Aside0.mk H
                    clear H
                    go_enter Try.func4, Try.ntmps4
                    go_upto_region 6 with (first | (go_at_call 16; with_reducible refine (headgatelaw03_NamesMonths_1.calls (wrap64 (Int.tdiv (Int.tmod (wrap64 (a1)) 10000) 1000)) t114 _ A7.out).mono ?_; rintro e w22 ⟨rfl, hb⟩; have n0_ := Aside0.mk (below_step (by repeat (first | (with_reducible first | exact HB.out | apply below_alloc | apply pw_below_drewN | apply below_drew1) | exact HB.out)) hb); clear HB; have HB := n0_; clear n0_; (try clear hb); (try clear hb2); (try clear hk); (try clear hi)) | (go_at_call 16; with_reducible refine (headgatelaw03_NamesMonths_1.calls (wrap64 (Int.tdiv (Int.tmod (wrap64 (a1)) 10000) 100)) t115 _ A8.out).mono ?_; rintro e w23 ⟨rfl, hb⟩; have n0_ := Aside0.mk (below_step (by repeat (first | (with_reducible first | exact HB.out | apply below_alloc | apply pw_below_drewN | apply below_drew1) | exact HB.out)) hb); clear HB; have HB := n0_; clear n0_; (try clear hb); (try clear hb2); (try clear hk); (try clear hi)) | (go_at_call 16; with_reducible refine (headgatelaw03_NamesMonths_1.calls (wrap64 (Int.tdiv (Int.tmod (wrap64 (a1)) 10000) 10)) t116 _ A10.out).mono ?_; rintro e w24 ⟨rfl, hb⟩; have n0_ := Aside0.mk (below_step (by repeat (first | (with_reducible first | exact HB.out | apply below_alloc | apply pw_below_drewN | apply below_drew1) | exact HB.out)) hb); clear HB; have HB := n0_; clear n0_; (try clear hb); (try clear hb2); (try clear hk); (try clear hi)) | (go_at_call 16; with_reducible refine (headgatelaw03_NamesMonths_1.calls (Int.tmod (wrap64 (a1)) 10000) t117 _ A12.out).mono ?_; rintro e w25 ⟨rfl, hb⟩; have n0_ := Aside0.mk (below_step (by repeat (first | (with_reducible first | exact HB.out | apply below_alloc | apply pw_below_drewN | apply below_drew1) | exact HB.out)) hb); clear HB; have HB := n0_; clear n0_; (try clear hb); (try clear hb2); (try clear hk); (try clear hi)) | (go_at_call 16; with_reducible refine (headgatelaw03_NamesMonths_1.calls (wrap64 (Int.tdiv (Int.tmod (wrap64 (a2)) 100) 10)) t118 _ A15.out).mono ?_; rintro e w26 ⟨rfl, hb⟩; have n0_ := Aside0.mk (below_step (by repeat (first | (with_reducible first | exact HB.out | apply below_alloc | apply pw_below_drewN | apply below_drew1) | exact HB.out)) hb); clear HB; have HB := n0_; clear n0_; (try clear hb); (try clear hb2); (try clear hk); (try clear hi)) | (go_at_call 16; with_reducible refine (headgatelaw03_NamesMonths_1.calls (Int.tmod (wrap64 (a2)) 100) t119 _ A17.out).mono ?_; rintro e w27 ⟨rfl, hb⟩; have n0_ := Aside0.mk (below_step (by repeat (first | (with_reducible first | exact HB.out | apply below_alloc | apply pw_below_drewN | apply below_drew1) | exact HB.out)) hb); clear HB; have HB := n0_; clear n0_; (try clear hb); (try clear hb2); (try clear hk); (try clear hi)))
                    (try simp only [Act.put, List.setIfInBounds_toArray, List.set_cons_zero, List.set_cons_succ])
                    go_cut [11] (fun v11 wc => ∃ (kq : Nat) (x11_20 : Bool), v11 = .bool x11_20 ∧ Aside0 (headgatelaw03_NamesMonths.j0 kq ((((((((t114 ++ t115) ++ t116) ++ t117) ++ (⟨#[45]⟩ : ByteArray)) ++ t118) ++ t119) ++ (⟨#[46]⟩ : ByteArray)) ++ a0) x11_20 = some r) ∧ Aside0 (kq ≤ k) ∧ Aside0 (Below w.heap.size w wc))
                    case first =>
                      have H := HC21.out
                      clear HC21
                      by_cases c28 : (Int.tmod (wrap64 (a2)) 100) ≥ 1
                      · rw [if_pos c28] at H
                        have c28b0 : decide (1 ≤ (Int.tmod (wrap64 (a2)) 100)) = true := decide_eq_true c28
                        clear c28
                        (first | rw [c28b0] | (simp only [i64_w, i32_w]; rw [c28b0]) | skip)
                        by_cases c29 : (Int.tmod (wrap64 (a2)) 100) ≤ 12
                        · rw [if_pos c29] at H
                          have c29b0 : decide ((Int.tmod (wrap64 (a2)) 100) ≤ 12) = true := decide_eq_true c29
                          clear c29
                          replace H := Option.bind_eq_some_iff.mp H
                          obtain ⟨t120, A300, H⟩ := H
                          replace H : (if t120 = true then (headgatelaw03_NamesMonths.j0 k ((((((((t114 ++ t115) ++ t116) ++ t117) ++ (⟨#[45]⟩ : ByteArray)) ++ t118) ++ t119) ++ (⟨#[46]⟩ : ByteArray)) ++ a0) (decide ((a0.size : Int) ≤ 52))) else (headgatelaw03_NamesMonths.j0 k ((((((((t114 ++ t115) ++ t116) ++ t117) ++ (⟨#[45]⟩ : ByteArray)) ++ t118) ++ t119) ++ (⟨#[46]⟩ : ByteArray)) ++ a0) false)) = some r := H
                          have A30 := Aside0.mk A300
                          clear A300
                          by_cases c31 : t120 = true
                          · subst c31
                            have H1 : (headgatelaw03_NamesMonths.j0 k ((((((((t114 ++ t115) ++ t116) ++ t117) ++ (⟨#[45]⟩ : ByteArray)) ++ t118) ++ t119) ++ (⟨#[46]⟩ : ByteArray)) ++ a0) (decide ((a0.size : Int) ≤ 52))) = some r := by rw [if_pos rfl] at H; exact H
                            clear H
                            have H := H1
                            clear H1
                            have H' := Aside0.mk H
                            clear H
                            go_wp2_with (first | (go_at_call 10; (with_reducible refine (names_Name.calls a0 true _ A30.out).mono ?_); rintro e w32 ⟨rfl, hb⟩; have n0_ := Aside0.mk (below_step (by repeat (first | (with_reducible first | exact HB.out | apply below_alloc | apply pw_below_drewN | apply below_drew1) | exact HB.out)) hb); clear HB; have HB := n0_; clear n0_; (try clear hb); (try clear hb2); (try clear hk); (try clear hi)))
                            go_meet
                            case rel => exact ⟨_, (decide ((a0.size : Int) ≤ 52)), (by first | rfl | (simp; done) | (simp [*]; done)), H', ⟨by first | omega | exact Nat.le_refl _⟩, ⟨by repeat (first | (with_reducible first | exact HB.out | apply below_alloc | apply pw_below_drewN | apply below_drew1) | exact HB.out)⟩⟩
                          · replace c31 := Bool.eq_false_iff.mpr c31
                            subst c31
                            have H1 : (headgatelaw03_NamesMonths.j0 k ((((((((t114 ++ t115) ++ t116) ++ t117) ++ (⟨#[45]⟩ : ByteArray)) ++ t118) ++ t119) ++ (⟨#[46]⟩ : ByteArray)) ++ a0) false) = some r := by rw [if_neg (show ¬ (false = true) by decide)] at H; exact H
                            clear H
                            have H := H1
                            clear H1
                            have H' := Aside0.mk H
                            clear H
                            go_wp2_with (first | (go_at_call 10; (with_reducible refine (names_Name.calls a0 false _ A30.out).mono ?_); rintro e w33 ⟨rfl, hb⟩; have n0_ := Aside0.mk (below_step (by repeat (first | (with_reducible first | exact HB.out | apply below_alloc | apply pw_below_drewN | apply below_drew1) | exact HB.out)) hb); clear HB; have HB := n0_; clear n0_; (try clear hb); (try clear hb2); (try clear hk); (try clear hi)))
                            go_meet
                            case rel => exact ⟨_, (false), (by first | rfl | (simp; done) | (simp [*]; done)), H', ⟨by first | omega | exact Nat.le_refl _⟩, ⟨by repeat (first | (with_reducible first | exact HB.out | apply below_alloc | apply pw_below_drewN | apply below_drew1) | exact HB.out)⟩⟩
                        · rw [if_neg c29] at H
                          have c29b0 : decide ((Int.tmod (wrap64 (a2)) 100) ≤ 12) = false := decide_eq_false c29
                          clear c29
                          have H' := Aside0.mk H
                          clear H
                          go_wp2
                          go_meet
                          case rel => exact ⟨_, (false), (by first | rfl | (simp; done) | (simp [*]; done)), H', ⟨by first | omega | exact Nat.le_refl _⟩, ⟨by repeat (first | (with_reducible first | exact HB.out | apply below_alloc | apply pw_below_drewN | apply below_drew1) | exact HB.out)⟩⟩
                      · rw [if_neg c28] at H
                        have c28b0 : decide (1 ≤ (Int.tmod (wrap64 (a2)) 100)) = false := decide_eq_false c28
                        clear c28
                        (first | rw [c28b0] | (simp only [i64_w, i32_w]; rw [c28b0]) | skip)
                        have H' := Aside0.mk H
                        clear H
                        go_wp2
                        go_meet
                        case rel => exact ⟨_, (false), (by first | rfl | (simp; done) | (simp [*]; done)), H', ⟨by first | omega | exact Nat.le_refl _⟩, ⟨by repeat (first | (with_reducible first | exact HB.out | apply below_alloc | apply pw_below_drewN | apply below_drew1) | exact HB.out)⟩⟩
                    case rest =>
                      clear HC21
                      try clear c1
                      try clear c2
                      try clear p2
                      try clear c3
                      try clear c4
                      try clear c4b0
                      try clear c4b1
                      try clear p6
                      try clear c7
                      try clear c9
                      try clear c9b0
                      try clear c9b1
                      try clear c9b2
                      try clear c11
                      try clear c11b0
                      try clear c11b1
                      try clear c11b2
                      try clear c13
                      try clear c13b0
                      try clear c13b1
                      try clear c13b2
                      try clear c14
                      try clear c14b0
                      try clear c14b1
                      try clear c14b2
                      try clear c16
                      try clear c16b0
                      try clear c16b1
                      try clear c16b2
                      try clear c18
                      try clear c18b0
                      try clear c18b1
                      try clear c18b2
                      try clear c19
                      try clear c19b0
                      try clear c19b1
                      try clear c19b2
                      try clear c20
                      try clear c20b0
                      try clear c20b1
                      try clear c20b2
                      try clear c28
                      try clear c28b0
                      try clear c29
                      try clear c29b0
                      try clear c31
                      obtain ⟨kq, x11_20, rfl, HA, HJ20, HB⟩ := hcut
                      cases kq with
                      | zero => exact absurd HA.out (by simp [headgatelaw03_NamesMonths.j0])
                      | succ kj20 =>
                        have H := HA.out
                        clear HA
                        simp only [headgatelaw03_NamesMonths.j0] at H
                        by_cases c34 : 4 + ((((((((t114 ++ t115) ++ t116) ++ t117) ++ (⟨#[45]⟩ : ByteArray)) ++ t118) ++ t119) ++ (⟨#[46]⟩ : ByteArray)) ++ a0).size ≤ 9223372036854775807
                        · rw [if_pos c34] at H
                          have c34b0 := eq_true c34
                          have c34b1 : decide (4 + ((((((((t114 ++ t115) ++ t116) ++ t117) ++ (⟨#[45]⟩ : ByteArray)) ++ t118) ++ t119) ++ (⟨#[46]⟩ : ByteArray)) ++ a0).size ≤ 9223372036854775807) = true := decide_eq_true c34
                          try have c34b2 : (9223372036854775807 < 4 + ((((((((t114 ++ t115) ++ t116) ++ t117) ++ (⟨#[45]⟩ : ByteArray)) ++ t118) ++ t119) ++ (⟨#[46]⟩ : ByteArray)) ++ a0).size) = False := eq_false (Nat.not_lt.2 c34)
                          (try have c34b4 : (9223372036854775807 < 4 + t114.size + t115.size + t116.size + t117.size + (⟨#[45]⟩ : ByteArray).size + t118.size + t119.size + (⟨#[46]⟩ : ByteArray).size + a0.size) = False := eq_false (by have h_ := c34; simp only [ByteArray.size_append, ByteArray.size_extract] at h_; omega))
                          have c34b6 : (9223372036854775807 < 4 + t114.size + t115.size + t116.size + t117.size + 1 + t118.size + t119.size + 1 + a0.size) = False := eq_false (by have h_ := c34; simp only [ByteArray.size_append, ByteArray.size_extract] at h_; have z0_ : (⟨#[45]⟩ : ByteArray).size = 1 := rfl; have z1_ : (⟨#[46]⟩ : ByteArray).size = 1 := rfl; omega)
                          have c34b7 : (9223372036854775807 < 4 + (t114.size + t115.size + t116.size + t117.size + 1 + t118.size + t119.size + 1 + a0.size)) = False := eq_false (by have h_ := c34; simp only [ByteArray.size_append, ByteArray.size_extract] at h_; have z0_ : (⟨#[45]⟩ : ByteArray).size = 1 := rfl; have z1_ : (⟨#[46]⟩ : ByteArray).size = 1 := rfl; omega)
                          replace H := Option.bind_eq_some_iff.mp H
                          obtain ⟨t121, A350, H⟩ := H
                          replace H : (if (t121 == x11_20) = true then ((names_Nqn.f ((⟨#[110, 113, 110, 46]⟩ : ByteArray) ++ ((((((((t114 ++ t115) ++ t116) ++ t117) ++ (⟨#[45]⟩ : ByteArray)) ++ t118) ++ t119) ++ (⟨#[46]⟩ : ByteArray)) ++ a0))).bind fun t122 => (if (t122 == x11_20) = true then ((names_Iqn.f ((⟨#[110, 113, 110, 46]⟩ : ByteArray) ++ ((((((((t114 ++ t115) ++ t116) ++ t117) ++ (⟨#[45]⟩ : ByteArray)) ++ t118) ++ t119) ++ (⟨#[46]⟩ : ByteArray)) ++ a0))).bind fun t123 => (if t123 = true then (some false) else ((names_Nqn.f ((⟨#[105, 113, 110, 46]⟩ : ByteArray) ++ ((((((((t114 ++ t115) ++ t116) ++ t117) ++ (⟨#[45]⟩ : ByteArray)) ++ t118) ++ t119) ++ (⟨#[46]⟩ : ByteArray)) ++ a0))).bind fun t124 => (if t124 = true then (some false) else ((headgatelaw03_wakes.f).bind fun t125 => (some t125)))))) else (some false))) else (some false)) = some r := H
                          have A35 := Aside0.mk A350
                          clear A350
                          by_cases c36 : (t121 == x11_20) = true
                          · rw [if_pos c36] at H
                            have c36b0 : (t121 == x11_20) = true := c36
                            (try (have c36b1 : decide (t121 = x11_20) = true := by simpa using c36))
                            (try (have c36b2 : (t121 == x11_20) = true := by simpa using c36))
                            clear c36
                            replace H := Option.bind_eq_some_iff.mp H
                            obtain ⟨t122, A370, H⟩ := H
                            replace H : (if (t122 == x11_20) = true then ((names_Iqn.f ((⟨#[110, 113, 110, 46]⟩ : ByteArray) ++ ((((((((t114 ++ t115) ++ t116) ++ t117) ++ (⟨#[45]⟩ : ByteArray)) ++ t118) ++ t119) ++ (⟨#[46]⟩ : ByteArray)) ++ a0))).bind fun t123 => (if t123 = true then (some false) else ((names_Nqn.f ((⟨#[105, 113, 110, 46]⟩ : ByteArray) ++ ((((((((t114 ++ t115) ++ t116) ++ t117) ++ (⟨#[45]⟩ : ByteArray)) ++ t118) ++ t119) ++ (⟨#[46]⟩ : ByteArray)) ++ a0))).bind fun t124 => (if t124 = true then (some false) else ((headgatelaw03_wakes.f).bind fun t125 => (some t125)))))) else (some false)) = some r := H
                            have A37 := Aside0.mk A370
                            clear A370
                            by_cases c38 : (t122 == x11_20) = true
                            · rw [if_pos c38] at H
                              have c38b0 : (t122 == x11_20) = true := c38
                              (try (have c38b1 : decide (t122 = x11_20) = true := by simpa using c38))
                              (try (have c38b2 : (t122 == x11_20) = true := by simpa using c38))
                              clear c38
                              replace H := Option.bind_eq_some_iff.mp H
                              obtain ⟨t123, A390, H⟩ := H
                              replace H : (if t123 = true then (some false) else ((names_Nqn.f ((⟨#[105, 113, 110, 46]⟩ : ByteArray) ++ ((((((((t114 ++ t115) ++ t116) ++ t117) ++ (⟨#[45]⟩ : ByteArray)) ++ t118) ++ t119) ++ (⟨#[46]⟩ : ByteArray)) ++ a0))).bind fun t124 => (if t124 = true then (some false) else ((headgatelaw03_wakes.f).bind fun t125 => (some t125))))) = some r := H
                              have A39 := Aside0.mk A390
                              clear A390
                              by_cases c40 : t123 = true
                              · subst c40
                                have H1 : (some false) = some r := by rw [if_pos rfl] at H; exact H
                                clear H
                                have H := H1
                                clear H1
                                exact absurd ((Option.some.inj H).trans HT0.out) (by decide)
                              · replace c40 := Bool.eq_false_iff.mpr c40
                                subst c40
                                have H1 : ((names_Nqn.f ((⟨#[105, 113, 110, 46]⟩ : ByteArray) ++ ((((((((t114 ++ t115) ++ t116) ++ t117) ++ (⟨#[45]⟩ : ByteArray)) ++ t118) ++ t119) ++ (⟨#[46]⟩ : ByteArray)) ++ a0))).bind fun t124 => (if t124 = true then (some false) else ((headgatelaw03_wakes.f).bind fun t125 => (some t125)))) = some r := by rw [if_neg (show ¬ (false = true) by decide)] at H; exact H
                                clear H
                                have H := H1
                                clear H1
                                replace H := Option.bind_eq_some_iff.mp H
                                obtain ⟨t124, A410, H⟩ := H
                                replace H : (if t124 = true then (some false) else ((headgatelaw03_wakes.f).bind fun t125 => (some t125))) = some r := H
                                have A41 := Aside0.mk A410
                                clear A410
                                by_cases c42 : t124 = true
                                · subst c42
                                  have H1 : (some false) = some r := by rw [if_pos rfl] at H; exact H
                                  clear H
                                  have H := H1
                                  clear H1
                                  exact absurd ((Option.some.inj H).trans HT0.out) (by decide)
                                · replace c42 := Bool.eq_false_iff.mpr c42
                                  subst c42
                                  have H1 : ((headgatelaw03_wakes.f).bind fun t125 => (some t125)) = some r := by rw [if_neg (show ¬ (false = true) by decide)] at H; exact H
                                  clear H
                                  have H := H1
                                  clear H1
                                  replace H := Option.bind_eq_some_iff.mp H
                                  obtain ⟨t125, A430, H⟩ := H
                                  replace H : (some t125) = some r := H
                                  have A43 := Aside0.mk A430
                                  clear A430
                                  obtain rfl := Option.some.inj H
                                  go_wp2_with (first | ((with_reducible refine gate_callee (f := 12) rfl ?_); refine goesL_ (some 70) rfl rfl Try.func12 (by kernel_rfl) rfl #[.string ((⟨#[105, 113, 110, 46]⟩ : ByteArray) ++ ((((((((t114 ++ t115) ++ t116) ++ t117) ++ (⟨#[45]⟩ : ByteArray)) ++ t118) ++ t119) ++ (⟨#[46]⟩ : ByteArray)) ++ a0))] rfl (by (try simp only [List.map_toArray, List.map_cons, List.map_nil]); first | done | rfl | (simp only [List.length_drop, List.length_take]; rfl)) ?_; (with_reducible refine (names_Iqn.calls ((⟨#[105, 113, 110, 46]⟩ : ByteArray) ++ ((((((((t114 ++ t115) ++ t116) ++ t117) ++ (⟨#[45]⟩ : ByteArray)) ++ t118) ++ t119) ++ (⟨#[46]⟩ : ByteArray)) ++ a0)) t121 _ A35.out).mono ?_); rintro e w44 ⟨rfl, hb⟩; refine ⟨_, rfl, ?_⟩; have n0_ := Aside0.mk (below_step (by repeat (first | (with_reducible first | exact HB.out | apply below_alloc | apply pw_below_drewN | apply below_drew1) | exact HB.out)) hb); clear HB; have HB := n0_; clear n0_; (try clear hb); (try clear hb2); (try clear hk); (try clear hi)) | (go_at_call 14; (with_reducible refine (names_Nqn.calls ((⟨#[110, 113, 110, 46]⟩ : ByteArray) ++ ((((((((t114 ++ t115) ++ t116) ++ t117) ++ (⟨#[45]⟩ : ByteArray)) ++ t118) ++ t119) ++ (⟨#[46]⟩ : ByteArray)) ++ a0)) t122 _ A37.out).mono ?_); rintro e w45 ⟨rfl, hb⟩; have n0_ := Aside0.mk (below_step (by repeat (first | (with_reducible first | exact HB.out | apply below_alloc | apply pw_below_drewN | apply below_drew1) | exact HB.out)) hb); clear HB; have HB := n0_; clear n0_; (try clear hb); (try clear hb2); (try clear hk); (try clear hi)) | (go_at_call 12; (with_reducible refine (names_Iqn.calls ((⟨#[110, 113, 110, 46]⟩ : ByteArray) ++ ((((((((t114 ++ t115) ++ t116) ++ t117) ++ (⟨#[45]⟩ : ByteArray)) ++ t118) ++ t119) ++ (⟨#[46]⟩ : ByteArray)) ++ a0)) false _ A39.out).mono ?_); rintro e w46 ⟨rfl, hb⟩; have n0_ := Aside0.mk (below_step (by repeat (first | (with_reducible first | exact HB.out | apply below_alloc | apply pw_below_drewN | apply below_drew1) | exact HB.out)) hb); clear HB; have HB := n0_; clear n0_; (try clear hb); (try clear hb2); (try clear hk); (try clear hi)) | (go_at_call 14; (with_reducible refine (names_Nqn.calls ((⟨#[105, 113, 110, 46]⟩ : ByteArray) ++ ((((((((t114 ++ t115) ++ t116) ++ t117) ++ (⟨#[45]⟩ : ByteArray)) ++ t118) ++ t119) ++ (⟨#[46]⟩ : ByteArray)) ++ a0)) false _ A41.out).mono ?_); rintro e w47 ⟨rfl, hb⟩; have n0_ := Aside0.mk (below_step (by repeat (first | (with_reducible first | exact HB.out | apply below_alloc | apply pw_below_drewN | apply below_drew1) | exact HB.out)) hb); clear HB; have HB := n0_; clear n0_; (try clear hb); (try clear hb2); (try clear hk); (try clear hi)) | (go_at_call 7; (with_reducible refine (headgatelaw03_wakes.calls  t125 _ A43.out).mono ?_); rintro e w48 ⟨rfl, hb⟩; have n0_ := Aside0.mk (below_step (by repeat (first | (with_reducible first | exact HB.out | apply below_alloc | apply pw_below_drewN | apply below_drew1) | exact HB.out)) hb); clear HB; have HB := n0_; clear n0_; (try clear hb); (try clear hb2); (try clear hk); (try clear hi)))
                                  go_ret
                                  exact ⟨by first | rfl | (simp [errW_none, errW_some] <;> rfl) | (simp [*, errW_none, errW_some] <;> rfl) | (simp [bt, *]; done) | (unfold bt; simp [*]; done), by repeat (first | (with_reducible first | exact HB.out | apply below_alloc | apply pw_below_drewN | apply below_drew1) | exact HB.out)⟩
                            · rw [if_neg c38] at H
                              have c38b0 : (t122 == x11_20) = false := by simpa using c38
                              (try (have c38b1 : decide (t122 = x11_20) = false := by simpa using c38))
                              (try (have c38b2 : (t122 == x11_20) = false := by simpa using c38))
                              (try (have c38b3 : ¬ (t122 = x11_20) := by simpa using c38))
                              clear c38
                              exact absurd ((Option.some.inj H).trans HT0.out) (by decide)
                          · rw [if_neg c36] at H
                            have c36b0 : (t121 == x11_20) = false := by simpa using c36
                            (try (have c36b1 : decide (t121 = x11_20) = false := by simpa using c36))
                            (try (have c36b2 : (t121 == x11_20) = false := by simpa using c36))
                            (try (have c36b3 : ¬ (t121 = x11_20) := by simpa using c36))
                            clear c36
                            exact absurd ((Option.some.inj H).trans HT0.out) (by decide)
                        · rw [if_neg c34] at H
                          exact absurd H (by simp)
                  · rw [if_neg c20] at H
                    exact absurd H (by simp)
                · rw [if_neg c19] at H
                  exact absurd H (by simp)
              · rw [if_neg c18] at H
                exact absurd H (by simp)
            · rw [if_neg c16] at H
              exact absurd H (by simp)
          · rw [if_neg c14] at H
            exact absurd H (by simp)
        · rw [if_neg c13] at H
          exact absurd H (by simp)
      · rw [if_neg c11] at H
        exact absurd H (by simp)
    · rw [if_neg c9] at H
      exact absurd H (by simp)

end Go.Proofs.Ytgphjijejoagcaa.P
