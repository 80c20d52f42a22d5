-- written by this session's patched copy of the printer (wip/tools/patch_print.py); Lean checks it
import Derived.Test.YtgphjijejoagcaaPx0
import Derived.Test.YtgphjijejoagcaaPx1
import Derived.Test.YtgphjijejoagcaaPx2
namespace Go.Proofs.Ytgphjijejoagcaa.P
open Go.RowKit Go.Proofs.YtgphjijejoagcaaW.PrintWords Go.Proofs.YtgphjijejoagcaaW.PrintLast Go.Proofs.YtgphjijejoagcaaW.PrintMore
attribute [local go_sem] max2_int min2_int max_two min_two max_three min_three max_four min_four   -- for this text's walks alone
set_option linter.unusedVariables false
set_option linter.unusedSimpArgs false

/-! ### headgateref03_Host: function 9 -/
def headgateref03_Host.f (k : Nat) (a0 : ByteArray) : Option (ByteArray × Int) := (headgateref03_Iqn.f k a0).bind fun t120 => (if t120 = true then (if 12 ≤ (a0.size : Int) then (some (a0.extract 12 a0.size, 0)) else (none)) else ((headgateref03_Nqn.f k a0).bind fun t121 => (if t121 = true then (if 12 ≤ (a0.size : Int) then (some (a0.extract 12 a0.size, 0)) else (none)) else (some ((⟨#[]⟩ : ByteArray), 30)))))
theorem headgateref03_Host.mono : ∀ a0 k, LeO (headgateref03_Host.f k a0) (headgateref03_Host.f (k + 1) a0) := by
  intro a0 k
  unfold headgateref03_Host.f
  repeat' first
      | (with_reducible exact headgateref03_Iqn.mono _ _)
      | (with_reducible exact headgateref03_Nqn.mono _ _)
      | (with_reducible exact LeO.refl _)
      | (with_reducible exact LeO.none _)
      | (with_reducible refine LeO.ite ?_ ?_)
      | (with_reducible refine LeO.bind ?_ (fun _ => ?_))
      | exact headgateref03_Iqn.mono _ _
      | exact headgateref03_Nqn.mono _ _
      | exact LeO.none _
      | refine LeO.ite ?_ ?_
      | refine LeO.bind ?_ (fun _ => ?_)
set_option maxHeartbeats 8000000 in
set_option maxRecDepth 100000 in
theorem headgateref03_Host.calls (k : Nat) (a0 : ByteArray) (r1 : ByteArray) (r2 : Int) (w : World) (h : headgateref03_Host.f k a0 = some (r1, r2)) :
    Calls Try.prog 9 #[.string a0] w fun e w' => e = .returned (.tuple #[.string r1, .int .i64 r2]) ∧ Drawn0 w w' := by
  have H : ((headgateref03_Iqn.f k a0).bind fun t120 => (if t120 = true then (if 12 ≤ (a0.size : Int) then (some (a0.extract 12 a0.size, 0)) else (none)) else ((headgateref03_Nqn.f k a0).bind fun t121 => (if t121 = true then (if 12 ≤ (a0.size : Int) then (some (a0.extract 12 a0.size, 0)) else (none)) else (some ((⟨#[]⟩ : ByteArray), 30)))))) = some (r1, r2) := h
  clear h
  replace H := Option.bind_eq_some_iff.mp H
  obtain ⟨t120, A20, H⟩ := H
  replace H : (if t120 = true then (if 12 ≤ (a0.size : Int) then (some (a0.extract 12 a0.size, 0)) else (none)) else ((headgateref03_Nqn.f k a0).bind fun t121 => (if t121 = true then (if 12 ≤ (a0.size : Int) then (some (a0.extract 12 a0.size, 0)) else (none)) else (some ((⟨#[]⟩ : ByteArray), 30))))) = some (r1, r2) := H
  have A2 := Aside0.mk A20
  clear A20
  by_cases c3 : t120 = true
  · subst c3
    have H1 : (if 12 ≤ (a0.size : Int) then (some (a0.extract 12 a0.size, 0)) else (none)) = some (r1, r2) := by rw [if_pos rfl] at H; exact H
    clear H
    have H := H1
    clear H1
    by_cases c4 : 12 ≤ (a0.size : Int)
    · rw [if_pos c4] at H
      have c4b0 := eq_true c4
      have c4b1 : decide (12 ≤ (a0.size : Int)) = true := decide_eq_true c4
      clear c4
      simp only [Option.some.injEq, Prod.mk.injEq] at H
      obtain ⟨rfl, rfl⟩ := H
      go_enter Try.func9, Try.ntmps9
      go_wp2_with (first | ((with_reducible refine gate_callee (f := 13) rfl ?_); refine goesL_ (some 5) rfl rfl Try.func13 (by kernel_rfl) rfl #[.string a0] rfl (by (try simp only [List.map_toArray, List.map_cons, List.map_nil]); first | done | rfl | (simp only [List.length_drop, List.length_take]; rfl)) ?_; (with_reducible refine (headgateref03_Iqn.calls k a0 true _ A2.out).mono ?_); rintro e w' ⟨rfl, ⟨nd, rfl⟩⟩; refine ⟨_, rfl, ?_⟩))
      go_ret2
      exact ⟨by first | rfl | (simp; done) | (simp [*]; done), by repeat (first | exact Drawn0.refl _ | apply Drawn0.step)⟩
    · rw [if_neg c4] at H
      exact absurd H (by simp)
  · replace c3 := Bool.eq_false_iff.mpr c3
    subst c3
    have H1 : ((headgateref03_Nqn.f k a0).bind fun t121 => (if t121 = true then (if 12 ≤ (a0.size : Int) then (some (a0.extract 12 a0.size, 0)) else (none)) else (some ((⟨#[]⟩ : ByteArray), 30)))) = some (r1, r2) := by rw [if_neg (show ¬ (false = true) by decide)] at H; exact H
    clear H
    have H := H1
    clear H1
    replace H := Option.bind_eq_some_iff.mp H
    obtain ⟨t121, A50, H⟩ := H
    replace H : (if t121 = true then (if 12 ≤ (a0.size : Int) then (some (a0.extract 12 a0.size, 0)) else (none)) else (some ((⟨#[]⟩ : ByteArray), 30))) = some (r1, r2) := H
    have A5 := Aside0.mk A50
    clear A50
    by_cases c6 : t121 = true
    · subst c6
      have H1 : (if 12 ≤ (a0.size : Int) then (some (a0.extract 12 a0.size, 0)) else (none)) = some (r1, r2) := by rw [if_pos rfl] at H; exact H
      clear H
      have H := H1
      clear H1
      by_cases c7 : 12 ≤ (a0.size : Int)
      · rw [if_pos c7] at H
        have c7b0 := eq_true c7
        have c7b1 : decide (12 ≤ (a0.size : Int)) = true := decide_eq_true c7
        clear c7
        simp only [Option.some.injEq, Prod.mk.injEq] at H
        obtain ⟨rfl, rfl⟩ := H
        go_enter Try.func9, Try.ntmps9
        go_wp2_with (first | ((with_reducible refine gate_callee (f := 13) rfl ?_); refine goesL_ (some 5) rfl rfl Try.func13 (by kernel_rfl) rfl #[.string a0] rfl (by (try simp only [List.map_toArray, List.map_cons, List.map_nil]); first | done | rfl | (simp only [List.length_drop, List.length_take]; rfl)) ?_; (with_reducible refine (headgateref03_Iqn.calls k a0 false _ A2.out).mono ?_); rintro e w' ⟨rfl, ⟨nd, rfl⟩⟩; refine ⟨_, rfl, ?_⟩) | (go_at_call 15; (with_reducible refine (headgateref03_Nqn.calls k a0 true _ A5.out).mono ?_); rintro e w' ⟨rfl, ⟨nd, rfl⟩⟩))
        go_ret2
        exact ⟨by first | rfl | (simp; done) | (simp [*]; done), by repeat (first | exact Drawn0.refl _ | apply Drawn0.step)⟩
      · rw [if_neg c7] at H
        exact absurd H (by simp)
    · replace c6 := Bool.eq_false_iff.mpr c6
      subst c6
      have H1 : (some ((⟨#[]⟩ : ByteArray), 30)) = some (r1, r2) := by rw [if_neg (show ¬ (false = true) by decide)] at H; exact H
      clear H
      have H := H1
      clear H1
      simp only [Option.some.injEq, Prod.mk.injEq] at H
      obtain ⟨rfl, rfl⟩ := H
      go_enter Try.func9, Try.ntmps9
      go_wp2_with (first | ((with_reducible refine gate_callee (f := 13) rfl ?_); refine goesL_ (some 5) rfl rfl Try.func13 (by kernel_rfl) rfl #[.string a0] rfl (by (try simp only [List.map_toArray, List.map_cons, List.map_nil]); first | done | rfl | (simp only [List.length_drop, List.length_take]; rfl)) ?_; (with_reducible refine (headgateref03_Iqn.calls k a0 false _ A2.out).mono ?_); rintro e w' ⟨rfl, ⟨nd, rfl⟩⟩; refine ⟨_, rfl, ?_⟩) | (go_at_call 15; (with_reducible refine (headgateref03_Nqn.calls k a0 false _ A5.out).mono ?_); rintro e w' ⟨rfl, ⟨nd, rfl⟩⟩))
      go_ret2
      exact ⟨by first | rfl | (simp; done) | (simp [*]; done), by repeat (first | exact Drawn0.refl _ | apply Drawn0.step)⟩

/-! ### headgatelaw03_NamesTells: function 3 -/
def headgatelaw03_NamesTells.f (k : Nat) (a0 : ByteArray) : Option (Bool) := if (a0.size : Int) > 20000 then ((headgatelaw03_wakes.f).bind fun t122 => (some t122)) else ((names_Host.f a0).bind fun bt123 => ((headgateref03_Host.f k a0).bind fun bt125 => ((names_Name.f a0).bind fun t127 => ((headgateref03_Name.f k a0).bind fun t128 => (if (t127 == t128) = true then ((names_Iqn.f a0).bind fun t129 => ((headgateref03_Iqn.f k a0).bind fun t130 => (if (t129 == t130) = true then ((names_Nqn.f a0).bind fun t131 => ((headgateref03_Nqn.f k a0).bind fun t132 => (if (t131 == t132) = true then (if bt123.1.toList = bt125.1.toList then (if bt123.2 = bt125.2 then ((headgatelaw03_wakes.f).bind fun t133 => (some t133)) else (some false)) else (some false)) else (some false)))) else (some false)))) else (some false))))))
theorem headgatelaw03_NamesTells.mono : ∀ a0 k, LeO (headgatelaw03_NamesTells.f k a0) (headgatelaw03_NamesTells.f (k + 1) a0) := by
  intro a0 k
  unfold headgatelaw03_NamesTells.f
  repeat' first
      | (with_reducible exact headgateref03_Host.mono _ _)
      | (with_reducible exact headgateref03_Iqn.mono _ _)
      | (with_reducible exact headgateref03_Name.mono _ _)
      | (with_reducible exact headgateref03_Nqn.mono _ _)
      | (with_reducible exact LeO.refl _)
      | (with_reducible exact LeO.none _)
      | (with_reducible refine LeO.ite ?_ ?_)
      | (with_reducible refine LeO.bind ?_ (fun _ => ?_))
      | exact headgateref03_Host.mono _ _
      | exact headgateref03_Iqn.mono _ _
      | exact headgateref03_Name.mono _ _
      | exact headgateref03_Nqn.mono _ _
      | exact LeO.none _
      | refine LeO.ite ?_ ?_
      | refine LeO.bind ?_ (fun _ => ?_)
set_option maxHeartbeats 8000000 in
set_option maxRecDepth 100000 in
theorem headgatelaw03_NamesTells.calls (k : Nat) (a0 : ByteArray) (r : Bool) (w : World) (hT : r = true) (h : headgatelaw03_NamesTells.f k a0 = some r) :
    Calls Try.prog 3 #[.string a0] w fun e w' => e = .returned (.bool r) ∧ Below w.heap.size w w' := by
  have HT0 := Aside0.mk hT
  clear hT
  have HB := Aside0.mk (Below.refl w.heap.size w)
  have H : (if (a0.size : Int) > 20000 then ((headgatelaw03_wakes.f).bind fun t122 => (some t122)) else ((names_Host.f a0).bind fun bt123 => ((headgateref03_Host.f k a0).bind fun bt125 => ((names_Name.f a0).bind fun t127 => ((headgateref03_Name.f k a0).bind fun t128 => (if (t127 == t128) = true then ((names_Iqn.f a0).bind fun t129 => ((headgateref03_Iqn.f k a0).bind fun t130 => (if (t129 == t130) = true then ((names_Nqn.f a0).bind fun t131 => ((headgateref03_Nqn.f k a0).bind fun t132 => (if (t131 == t132) = true then (if bt123.1.toList = bt125.1.toList then (if bt123.2 = bt125.2 then ((headgatelaw03_wakes.f).bind fun t133 => (some t133)) else (some false)) else (some false)) else (some false)))) else (some false)))) else (some false))))))) = some r := h
  clear h
  by_cases c2 : (a0.size : Int) > 20000
  · rw [if_pos c2] at H
    have c2b0 : decide (20000 < (a0.size : Int)) = true := decide_eq_true c2
    have c2b1 : decide (20000 < a0.size) = true := decide_eq_true (by omega)
    clear c2
    replace H := Option.bind_eq_some_iff.mp H
    obtain ⟨t122, A30, H⟩ := H
    replace H : (some t122) = some r := H
    have A3 := Aside0.mk A30
    clear A30
    obtain rfl := Option.some.inj H
    go_enter Try.func3, Try.ntmps3
    go_wp2_with (first | ((with_reducible refine gate_callee (f := 7) rfl ?_); refine goesL_ (some 10) rfl rfl Try.func7 (by kernel_rfl) rfl #[] rfl (by (try simp only [List.map_toArray, List.map_cons, List.map_nil]); first | done | rfl | (simp only [List.length_drop, List.length_take]; rfl)) ?_; (with_reducible refine (headgatelaw03_wakes.calls  t122 _ A3.out).mono ?_); rintro e w4 ⟨rfl, hb⟩; refine ⟨_, rfl, ?_⟩; have n0_ := Aside0.mk (below_step (by repeat (first | (with_reducible first | exact HB.out | apply below_alloc | apply pw_below_drewN | apply below_drew1) | exact HB.out)) hb); clear HB; have HB := n0_; clear n0_; (try clear hb); (try clear hb2); (try clear hk); (try clear hi)))
    go_ret
    exact ⟨by first | rfl | (simp [errW_none, errW_some] <;> rfl) | (simp [*, errW_none, errW_some] <;> rfl) | (simp [bt, *]; done) | (unfold bt; simp [*]; done), by repeat (first | (with_reducible first | exact HB.out | apply below_alloc | apply pw_below_drewN | apply below_drew1) | exact HB.out)⟩
  · rw [if_neg c2] at H
    have c2b0 : decide (20000 < (a0.size : Int)) = false := decide_eq_false c2
    have c2b1 : decide (20000 < a0.size) = false := decide_eq_false (by omega)
    clear c2
    replace H := Option.bind_eq_some_iff.mp H
    obtain ⟨⟨t123, t124⟩, A50, H⟩ := H
    replace H : ((headgateref03_Host.f k a0).bind fun bt125 => ((names_Name.f a0).bind fun t127 => ((headgateref03_Name.f k a0).bind fun t128 => (if (t127 == t128) = true then ((names_Iqn.f a0).bind fun t129 => ((headgateref03_Iqn.f k a0).bind fun t130 => (if (t129 == t130) = true then ((names_Nqn.f a0).bind fun t131 => ((headgateref03_Nqn.f k a0).bind fun t132 => (if (t131 == t132) = true then (if t123.toList = bt125.1.toList then (if t124 = bt125.2 then ((headgatelaw03_wakes.f).bind fun t133 => (some t133)) else (some false)) else (some false)) else (some false)))) else (some false)))) else (some false))))) = some r := H
    have A5 := Aside0.mk A50
    clear A50
    replace H := Option.bind_eq_some_iff.mp H
    obtain ⟨⟨t125, t126⟩, A60, H⟩ := H
    replace H : ((names_Name.f a0).bind fun t127 => ((headgateref03_Name.f k a0).bind fun t128 => (if (t127 == t128) = true then ((names_Iqn.f a0).bind fun t129 => ((headgateref03_Iqn.f k a0).bind fun t130 => (if (t129 == t130) = true then ((names_Nqn.f a0).bind fun t131 => ((headgateref03_Nqn.f k a0).bind fun t132 => (if (t131 == t132) = true then (if t123.toList = t125.toList then (if t124 = t126 then ((headgatelaw03_wakes.f).bind fun t133 => (some t133)) else (some false)) else (some false)) else (some false)))) else (some false)))) else (some false)))) = some r := H
    have A6 := Aside0.mk A60
    clear A60
    replace H := Option.bind_eq_some_iff.mp H
    obtain ⟨t127, A70, H⟩ := H
    replace H : ((headgateref03_Name.f k a0).bind fun t128 => (if (t127 == t128) = true then ((names_Iqn.f a0).bind fun t129 => ((headgateref03_Iqn.f k a0).bind fun t130 => (if (t129 == t130) = true then ((names_Nqn.f a0).bind fun t131 => ((headgateref03_Nqn.f k a0).bind fun t132 => (if (t131 == t132) = true then (if t123.toList = t125.toList then (if t124 = t126 then ((headgatelaw03_wakes.f).bind fun t133 => (some t133)) else (some false)) else (some false)) else (some false)))) else (some false)))) else (some false))) = some r := H
    have A7 := Aside0.mk A70
    clear A70
    replace H := Option.bind_eq_some_iff.mp H
    obtain ⟨t128, A80, H⟩ := H
    replace H : (if (t127 == t128) = true then ((names_Iqn.f a0).bind fun t129 => ((headgateref03_Iqn.f k a0).bind fun t130 => (if (t129 == t130) = true then ((names_Nqn.f a0).bind fun t131 => ((headgateref03_Nqn.f k a0).bind fun t132 => (if (t131 == t132) = true then (if t123.toList = t125.toList then (if t124 = t126 then ((headgatelaw03_wakes.f).bind fun t133 => (some t133)) else (some false)) else (some false)) else (some false)))) else (some false)))) else (some false)) = some r := H
    have A8 := Aside0.mk A80
    clear A80
    by_cases c9 : (t127 == t128) = true
    · rw [if_pos c9] at H
      have c9b0 : (t127 == t128) = true := c9
      (try (have c9b1 : decide (t127 = t128) = true := by simpa using c9))
      (try (have c9b2 : (t127 == t128) = true := by simpa using c9))
      clear c9
      replace H := Option.bind_eq_some_iff.mp H
      obtain ⟨t129, A100, H⟩ := H
      replace H : ((headgateref03_Iqn.f k a0).bind fun t130 => (if (t129 == t130) = true then ((names_Nqn.f a0).bind fun t131 => ((headgateref03_Nqn.f k a0).bind fun t132 => (if (t131 == t132) = true then (if t123.toList = t125.toList then (if t124 = t126 then ((headgatelaw03_wakes.f).bind fun t133 => (some t133)) else (some false)) else (some false)) else (some false)))) else (some false))) = some r := H
      have A10 := Aside0.mk A100
      clear A100
      replace H := Option.bind_eq_some_iff.mp H
      obtain ⟨t130, A110, H⟩ := H
      replace H : (if (t129 == t130) = true then ((names_Nqn.f a0).bind fun t131 => ((headgateref03_Nqn.f k a0).bind fun t132 => (if (t131 == t132) = true then (if t123.toList = t125.toList then (if t124 = t126 then ((headgatelaw03_wakes.f).bind fun t133 => (some t133)) else (some false)) else (some false)) else (some false)))) else (some false)) = some r := H
      have A11 := Aside0.mk A110
      clear A110
      by_cases c12 : (t129 == t130) = true
      · rw [if_pos c12] at H
        have c12b0 : (t129 == t130) = true := c12
        (try (have c12b1 : decide (t129 = t130) = true := by simpa using c12))
        (try (have c12b2 : (t129 == t130) = true := by simpa using c12))
        clear c12
        replace H := Option.bind_eq_some_iff.mp H
        obtain ⟨t131, A130, H⟩ := H
        replace H : ((headgateref03_Nqn.f k a0).bind fun t132 => (if (t131 == t132) = true then (if t123.toList = t125.toList then (if t124 = t126 then ((headgatelaw03_wakes.f).bind fun t133 => (some t133)) else (some false)) else (some false)) else (some false))) = some r := H
        have A13 := Aside0.mk A130
        clear A130
        replace H := Option.bind_eq_some_iff.mp H
        obtain ⟨t132, A140, H⟩ := H
        replace H : (if (t131 == t132) = true then (if t123.toList = t125.toList then (if t124 = t126 then ((headgatelaw03_wakes.f).bind fun t133 => (some t133)) else (some false)) else (some false)) else (some false)) = some r := H
        have A14 := Aside0.mk A140
        clear A140
        by_cases c15 : (t131 == t132) = true
        · rw [if_pos c15] at H
          have c15b0 : (t131 == t132) = true := c15
          (try (have c15b1 : decide (t131 = t132) = true := by simpa using c15))
          (try (have c15b2 : (t131 == t132) = true := by simpa using c15))
          clear c15
          by_cases c16 : t123.toList = t125.toList
          · rw [if_pos c16] at H
            have c16b0 : (t123.toList == t125.toList) = true := beq_iff_eq.mpr c16
            have c16b1 : (t123.toList != t125.toList) = false := bne_eq_false_iff_eq.mpr c16
            clear c16
            by_cases c17 : t124 = t126
            · rw [if_pos c17] at H
              have c17b0 : (t124 == t126) = true := beq_iff_eq.mpr c17
              have c17b1 : (t124 != t126) = false := bne_eq_false_iff_eq.mpr c17
              clear c17
              replace H := Option.bind_eq_some_iff.mp H
              obtain ⟨t133, A180, H⟩ := H
              replace H : (some t133) = some r := H
              have A18 := Aside0.mk A180
              clear A180
              obtain rfl := Option.some.inj H
              go_enter Try.func3, Try.ntmps3
              go_wp2_with (first | ((with_reducible refine gate_callee (f := 8) rfl ?_); refine goesL_ (some 13) rfl rfl Try.func8 (by kernel_rfl) rfl #[.string a0] rfl (by (try simp only [List.map_toArray, List.map_cons, List.map_nil]); first | done | rfl | (simp only [List.length_drop, List.length_take]; rfl)) ?_; (with_reducible refine (names_Host.calls a0 t123 t124 _ A5.out).mono ?_); rintro e w19 ⟨rfl, hb⟩; refine ⟨_, rfl, ?_⟩; have n0_ := Aside0.mk (below_step (by repeat (first | (with_reducible first | exact HB.out | apply below_alloc | apply pw_below_drewN | apply below_drew1) | exact HB.out)) hb); clear HB; have HB := n0_; clear n0_; (try clear hb); (try clear hb2); (try clear hk); (try clear hi)) | ((with_reducible refine gate_callee (f := 9) rfl ?_); refine goesL_ (some 18) rfl rfl Try.func9 (by kernel_rfl) rfl #[.string a0] rfl (by (try simp only [List.map_toArray, List.map_cons, List.map_nil]); first | done | rfl | (simp only [List.length_drop, List.length_take]; rfl)) ?_; (with_reducible refine (headgateref03_Host.calls k a0 t125 t126 _ A6.out).mono ?_); rintro e w' ⟨rfl, ⟨nd, rfl⟩⟩; refine ⟨_, rfl, ?_⟩) | ((with_reducible refine gate_callee (f := 10) rfl ?_); refine goesL_ (some 22) rfl rfl Try.func10 (by kernel_rfl) rfl #[.string a0] rfl (by (try simp only [List.map_toArray, List.map_cons, List.map_nil]); first | done | rfl | (simp only [List.length_drop, List.length_take]; rfl)) ?_; (with_reducible refine (names_Name.calls a0 t127 _ A7.out).mono ?_); rintro e w20 ⟨rfl, hb⟩; refine ⟨_, rfl, ?_⟩; have n0_ := Aside0.mk (below_step (by repeat (first | (with_reducible first | exact HB.out | apply below_alloc | apply pw_below_drewN | apply below_drew1) | exact HB.out)) hb); clear HB; have HB := n0_; clear n0_; (try clear hb); (try clear hb2); (try clear hk); (try clear hi)) | ((with_reducible refine gate_callee (f := 11) rfl ?_); refine goesL_ (some 24) rfl rfl Try.func11 (by kernel_rfl) rfl #[.string a0] rfl (by (try simp only [List.map_toArray, List.map_cons, List.map_nil]); first | done | rfl | (simp only [List.length_drop, List.length_take]; rfl)) ?_; (with_reducible refine (headgateref03_Name.calls k a0 t128 _ A8.out).mono ?_); rintro e w' ⟨rfl, ⟨nd, rfl⟩⟩; refine ⟨_, rfl, ?_⟩) | (go_at_call 12; (with_reducible refine (names_Iqn.calls a0 t129 _ A10.out).mono ?_); rintro e w21 ⟨rfl, hb⟩; have n0_ := Aside0.mk (below_step (by repeat (first | (with_reducible first | exact HB.out | apply below_alloc | apply pw_below_drewN | apply below_drew1) | exact HB.out)) hb); clear HB; have HB := n0_; clear n0_; (try clear hb); (try clear hb2); (try clear hk); (try clear hi)) | (go_at_call 13; (with_reducible refine (headgateref03_Iqn.calls k a0 t130 _ A11.out).mono ?_); rintro e w' ⟨rfl, ⟨nd, rfl⟩⟩) | (go_at_call 14; (with_reducible refine (names_Nqn.calls a0 t131 _ A13.out).mono ?_); rintro e w22 ⟨rfl, hb⟩; have n0_ := Aside0.mk (below_step (by repeat (first | (with_reducible first | exact HB.out | apply below_alloc | apply pw_below_drewN | apply below_drew1) | exact HB.out)) hb); clear HB; have HB := n0_; clear n0_; (try clear hb); (try clear hb2); (try clear hk); (try clear hi)) | (go_at_call 15; (with_reducible refine (headgateref03_Nqn.calls k a0 t132 _ A14.out).mono ?_); rintro e w' ⟨rfl, ⟨nd, rfl⟩⟩) | (go_at_call 7; (with_reducible refine (headgatelaw03_wakes.calls  t133 _ A18.out).mono ?_); rintro e w23 ⟨rfl, hb⟩; have n0_ := Aside0.mk (below_step (by repeat (first | (with_reducible first | exact HB.out | apply below_alloc | apply pw_below_drewN | apply below_drew1) | exact HB.out)) hb); clear HB; have HB := n0_; clear n0_; (try clear hb); (try clear hb2); (try clear hk); (try clear hi)))
              go_ret
              exact ⟨by first | rfl | (simp [errW_none, errW_some] <;> rfl) | (simp [*, errW_none, errW_some] <;> rfl) | (simp [bt, *]; done) | (unfold bt; simp [*]; done), by repeat (first | (with_reducible first | exact HB.out | apply below_alloc | apply pw_below_drewN | apply below_drew1) | exact HB.out)⟩
            · rw [if_neg c17] at H
              have c17b0 : (t124 == t126) = false := beq_eq_false_iff_ne.mpr c17
              have c17b1 : (t124 != t126) = true := bne_iff_ne.mpr c17
              exact absurd ((Option.some.inj H).trans HT0.out) (by decide)
          · rw [if_neg c16] at H
            have c16b0 : (t123.toList == t125.toList) = false := beq_eq_false_iff_ne.mpr c16
            have c16b1 : (t123.toList != t125.toList) = true := bne_iff_ne.mpr c16
            exact absurd ((Option.some.inj H).trans HT0.out) (by decide)
        · rw [if_neg c15] at H
          have c15b0 : (t131 == t132) = false := by simpa using c15
          (try (have c15b1 : decide (t131 = t132) = false := by simpa using c15))
          (try (have c15b2 : (t131 == t132) = false := by simpa using c15))
          (try (have c15b3 : ¬ (t131 = t132) := by simpa using c15))
          clear c15
          exact absurd ((Option.some.inj H).trans HT0.out) (by decide)
      · rw [if_neg c12] at H
        have c12b0 : (t129 == t130) = false := by simpa using c12
        (try (have c12b1 : decide (t129 = t130) = false := by simpa using c12))
        (try (have c12b2 : (t129 == t130) = false := by simpa using c12))
        (try (have c12b3 : ¬ (t129 = t130) := by simpa using c12))
        clear c12
        exact absurd ((Option.some.inj H).trans HT0.out) (by decide)
    · rw [if_neg c9] at H
      have c9b0 : (t127 == t128) = false := by simpa using c9
      (try (have c9b1 : decide (t127 = t128) = false := by simpa using c9))
      (try (have c9b2 : (t127 == t128) = false := by simpa using c9))
      (try (have c9b3 : ¬ (t127 = t128) := by simpa using c9))
      clear c9
      exact absurd ((Option.some.inj H).trans HT0.out) (by decide)

end Go.Proofs.Ytgphjijejoagcaa.P
