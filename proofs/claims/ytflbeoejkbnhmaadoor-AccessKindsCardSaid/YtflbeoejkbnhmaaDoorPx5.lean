-- written by this session's patched copy of the printer (wip/tools/patch_print.py); Lean checks it
import Derived.Test.YtflbeoejkbnhmaaDoorPx0
import Derived.Test.YtflbeoejkbnhmaaDoorPx1
import Derived.Test.YtflbeoejkbnhmaaDoorPx2
import Derived.Test.YtflbeoejkbnhmaaDoorPx3
namespace Go.Proofs.YtflbeoejkbnhmaaDoor.P
open Go.RowKit Go.Proofs.YtflbeoejkbnhmaaDoorW.PrintWords Go.Proofs.YtflbeoejkbnhmaaDoorW.PrintLast Go.Proofs.YtflbeoejkbnhmaaDoorW.PrintMore
attribute [local go_sem] max2_int min2_int max_two min_two max_three min_three max_four min_four   -- for this text's walks alone
set_option linter.unusedVariables false
set_option linter.unusedSimpArgs false

/-! ### headgatelaw10_AccessKinds: function 4 -/
def headgatelaw10_AccessKinds.f (k : Nat) (a0 : Int) : Option (Bool) := (access_Type.f a0).bind fun t175 => ((headgateref10_Type.f a0).bind fun t176 => (if (t175 == t176) = true then ((access_Reads.f a0).bind fun t177 => ((headgateref10_Reads.f a0).bind fun t178 => (if (t177 == t178) = true then ((access_Changes.f a0).bind fun t179 => ((headgateref10_Changes.f a0).bind fun t180 => (if (t179 == t180) = true then ((access_Reads.f a0).bind fun t177 => (if t177 = true then ((access_Changes.f a0).bind fun t179 => (if t179 = true then (some false) else ((headgatelaw10_wakes.f k).bind fun t183 => (some t183)))) else ((headgatelaw10_wakes.f k).bind fun t184 => (some t184)))) else (some false)))) else (some false)))) else (some false)))
theorem headgatelaw10_AccessKinds.mono : ∀ a0 k, LeO (headgatelaw10_AccessKinds.f k a0) (headgatelaw10_AccessKinds.f (k + 1) a0) := by
  intro a0 k
  unfold headgatelaw10_AccessKinds.f
  repeat' first
      | (with_reducible exact headgatelaw10_wakes.mono _)
      | (with_reducible exact LeO.refl _)
      | (with_reducible exact LeO.none _)
      | (with_reducible refine LeO.ite ?_ ?_)
      | (with_reducible refine LeO.bind ?_ (fun _ => ?_))
      | exact headgatelaw10_wakes.mono _
      | exact LeO.none _
      | refine LeO.ite ?_ ?_
      | refine LeO.bind ?_ (fun _ => ?_)
set_option maxHeartbeats 8000000 in
set_option maxRecDepth 100000 in
theorem headgatelaw10_AccessKinds.calls (k : Nat) (a0 : Int) (r : Bool) (w : World) (hG : Glob w) (hT : r = true) (h : headgatelaw10_AccessKinds.f k a0 = some r) :
    Calls Tryd.prog 4 #[.int .i64 a0] w fun e w' => e = .returned (.bool r) ∧ Below w.heap.size w w' := by
  have HT0 := Aside0.mk hT
  clear hT
  have HG := Aside0.mk hG
  clear hG
  have HB := Aside0.mk (Below.refl w.heap.size w)
  have H : ((access_Type.f a0).bind fun t175 => ((headgateref10_Type.f a0).bind fun t176 => (if (t175 == t176) = true then ((access_Reads.f a0).bind fun t177 => ((headgateref10_Reads.f a0).bind fun t178 => (if (t177 == t178) = true then ((access_Changes.f a0).bind fun t179 => ((headgateref10_Changes.f a0).bind fun t180 => (if (t179 == t180) = true then ((access_Reads.f a0).bind fun t177 => (if t177 = true then ((access_Changes.f a0).bind fun t179 => (if t179 = true then (some false) else ((headgatelaw10_wakes.f k).bind fun t183 => (some t183)))) else ((headgatelaw10_wakes.f k).bind fun t184 => (some t184)))) else (some false)))) else (some false)))) else (some false)))) = some r := h
  clear h
  replace H := Option.bind_eq_some_iff.mp H
  obtain ⟨t175, A20, H⟩ := H
  replace H : ((headgateref10_Type.f a0).bind fun t176 => (if (t175 == t176) = true then ((access_Reads.f a0).bind fun t177 => ((headgateref10_Reads.f a0).bind fun t178 => (if (t177 == t178) = true then ((access_Changes.f a0).bind fun t179 => ((headgateref10_Changes.f a0).bind fun t180 => (if (t179 == t180) = true then ((access_Reads.f a0).bind fun t177 => (if t177 = true then ((access_Changes.f a0).bind fun t179 => (if t179 = true then (some false) else ((headgatelaw10_wakes.f k).bind fun t183 => (some t183)))) else ((headgatelaw10_wakes.f k).bind fun t184 => (some t184)))) else (some false)))) else (some false)))) else (some false))) = some r := H
  have A2 := Aside0.mk A20
  clear A20
  replace H := Option.bind_eq_some_iff.mp H
  obtain ⟨t176, A30, H⟩ := H
  replace H : (if (t175 == t176) = true then ((access_Reads.f a0).bind fun t177 => ((headgateref10_Reads.f a0).bind fun t178 => (if (t177 == t178) = true then ((access_Changes.f a0).bind fun t179 => ((headgateref10_Changes.f a0).bind fun t180 => (if (t179 == t180) = true then ((access_Reads.f a0).bind fun t177 => (if t177 = true then ((access_Changes.f a0).bind fun t179 => (if t179 = true then (some false) else ((headgatelaw10_wakes.f k).bind fun t183 => (some t183)))) else ((headgatelaw10_wakes.f k).bind fun t184 => (some t184)))) else (some false)))) else (some false)))) else (some false)) = some r := H
  have A3 := Aside0.mk A30
  clear A30
  by_cases c4 : (t175 == t176) = true
  · rw [if_pos c4] at H
    have c4b0 : (t175 == t176) = true := c4
    (try (have c4b1 : decide (t175 = t176) = true := by simpa using c4))
    (try (have c4b2 : (t175 == t176) = true := by simpa using c4))
    clear c4
    replace H := Option.bind_eq_some_iff.mp H
    obtain ⟨t177, A50, H⟩ := H
    replace H : ((headgateref10_Reads.f a0).bind fun t178 => (if (t177 == t178) = true then ((access_Changes.f a0).bind fun t179 => ((headgateref10_Changes.f a0).bind fun t180 => (if (t179 == t180) = true then ((access_Reads.f a0).bind fun t177 => (if t177 = true then ((access_Changes.f a0).bind fun t179 => (if t179 = true then (some false) else ((headgatelaw10_wakes.f k).bind fun t183 => (some t183)))) else ((headgatelaw10_wakes.f k).bind fun t184 => (some t184)))) else (some false)))) else (some false))) = some r := H
    have A5 := Aside0.mk A50
    clear A50
    replace H := Option.bind_eq_some_iff.mp H
    obtain ⟨t178, A60, H⟩ := H
    replace H : (if (t177 == t178) = true then ((access_Changes.f a0).bind fun t179 => ((headgateref10_Changes.f a0).bind fun t180 => (if (t179 == t180) = true then ((access_Reads.f a0).bind fun t177 => (if t177 = true then ((access_Changes.f a0).bind fun t179 => (if t179 = true then (some false) else ((headgatelaw10_wakes.f k).bind fun t183 => (some t183)))) else ((headgatelaw10_wakes.f k).bind fun t184 => (some t184)))) else (some false)))) else (some false)) = some r := H
    have A6 := Aside0.mk A60
    clear A60
    by_cases c7 : (t177 == t178) = true
    · rw [if_pos c7] at H
      have c7b0 : (t177 == t178) = true := c7
      (try (have c7b1 : decide (t177 = t178) = true := by simpa using c7))
      (try (have c7b2 : (t177 == t178) = true := by simpa using c7))
      clear c7
      replace H := Option.bind_eq_some_iff.mp H
      obtain ⟨t179, A80, H⟩ := H
      replace H : ((headgateref10_Changes.f a0).bind fun t180 => (if (t179 == t180) = true then ((access_Reads.f a0).bind fun t177 => (if t177 = true then ((access_Changes.f a0).bind fun t179 => (if t179 = true then (some false) else ((headgatelaw10_wakes.f k).bind fun t183 => (some t183)))) else ((headgatelaw10_wakes.f k).bind fun t184 => (some t184)))) else (some false))) = some r := H
      have A8 := Aside0.mk A80
      clear A80
      replace H := Option.bind_eq_some_iff.mp H
      obtain ⟨t180, A90, H⟩ := H
      replace H : (if (t179 == t180) = true then ((access_Reads.f a0).bind fun t177 => (if t177 = true then ((access_Changes.f a0).bind fun t179 => (if t179 = true then (some false) else ((headgatelaw10_wakes.f k).bind fun t183 => (some t183)))) else ((headgatelaw10_wakes.f k).bind fun t184 => (some t184)))) else (some false)) = some r := H
      have A9 := Aside0.mk A90
      clear A90
      by_cases c10 : (t179 == t180) = true
      · rw [if_pos c10] at H
        have c10b0 : (t179 == t180) = true := c10
        (try (have c10b1 : decide (t179 = t180) = true := by simpa using c10))
        (try (have c10b2 : (t179 == t180) = true := by simpa using c10))
        clear c10
        replace H := Option.bind_eq_some_iff.mp H
        obtain ⟨t177, A110, H⟩ := H
        have e_ := A110.symm.trans A5.out
        simp only [Option.some.injEq, Prod.mk.injEq] at e_
        obtain rfl := e_
        replace H : (if t177 = true then ((access_Changes.f a0).bind fun t179 => (if t179 = true then (some false) else ((headgatelaw10_wakes.f k).bind fun t183 => (some t183)))) else ((headgatelaw10_wakes.f k).bind fun t184 => (some t184))) = some r := H
        have A11 := Aside0.mk A110
        clear A110
        by_cases c12 : t177 = true
        · subst c12
          have H1 : ((access_Changes.f a0).bind fun t179 => (if t179 = true then (some false) else ((headgatelaw10_wakes.f k).bind fun t183 => (some t183)))) = some r := by rw [if_pos rfl] at H; exact H
          clear H
          have H := H1
          clear H1
          replace H := Option.bind_eq_some_iff.mp H
          obtain ⟨t179, A130, H⟩ := H
          have e_ := A130.symm.trans A8.out
          simp only [Option.some.injEq, Prod.mk.injEq] at e_
          obtain rfl := e_
          replace H : (if t179 = true then (some false) else ((headgatelaw10_wakes.f k).bind fun t183 => (some t183))) = some r := H
          have A13 := Aside0.mk A130
          clear A130
          by_cases c14 : t179 = true
          · subst c14
            have H1 : (some false) = some r := by rw [if_pos rfl] at H; exact H
            clear H
            have H := H1
            clear H1
            exact absurd ((Option.some.inj H).trans HT0.out) (by decide)
          · replace c14 := Bool.eq_false_iff.mpr c14
            subst c14
            have H1 : ((headgatelaw10_wakes.f k).bind fun t183 => (some t183)) = some r := by rw [if_neg (show ¬ (false = true) by decide)] at H; exact H
            clear H
            have H := H1
            clear H1
            replace H := Option.bind_eq_some_iff.mp H
            obtain ⟨t183, A150, H⟩ := H
            replace H : (some t183) = some r := H
            have A15 := Aside0.mk A150
            clear A150
            obtain rfl := Option.some.inj H
            go_enter Tryd.func4, Tryd.ntmps4
            go_wp2_with (first | ((with_reducible refine gate_callee (f := 16) rfl ?_); refine goesL_ (some 4) rfl rfl Tryd.func16 (by kernel_rfl) rfl #[.int .i64 a0] rfl (by (try simp only [List.map_toArray, List.map_cons, List.map_nil]); first | done | rfl | (simp only [List.length_drop, List.length_take]; rfl)) ?_; (with_reducible refine (access_Type.calls a0 t175 _ A2.out).mono ?_); rintro e w' ⟨rfl, ⟨nd, rfl⟩⟩; refine ⟨_, rfl, ?_⟩) | ((with_reducible refine gate_callee (f := 17) rfl ?_); refine goesL_ (some 6) rfl rfl Tryd.func17 (by kernel_rfl) rfl #[.int .i64 a0] rfl (by (try simp only [List.map_toArray, List.map_cons, List.map_nil]); first | done | rfl | (simp only [List.length_drop, List.length_take]; rfl)) ?_; (with_reducible refine (headgateref10_Type.calls a0 t176 _ A3.out).mono ?_); rintro e w' ⟨rfl, ⟨nd, rfl⟩⟩; refine ⟨_, rfl, ?_⟩) | (go_at_call 18; (with_reducible refine (access_Reads.calls a0 true _ A5.out).mono ?_); rintro e w' ⟨rfl, ⟨nd, rfl⟩⟩) | (go_at_call 19; (with_reducible refine (headgateref10_Reads.calls a0 t178 _ A6.out).mono ?_); rintro e w' ⟨rfl, ⟨nd, rfl⟩⟩) | (go_at_call 20; (with_reducible refine (access_Changes.calls a0 false _ A8.out).mono ?_); rintro e w' ⟨rfl, ⟨nd, rfl⟩⟩) | (go_at_call 21; (with_reducible refine (headgateref10_Changes.calls a0 t180 _ A9.out).mono ?_); rintro e w' ⟨rfl, ⟨nd, rfl⟩⟩) | (go_at_call 18; (with_reducible refine (access_Reads.calls a0 true _ A11.out).mono ?_); rintro e w' ⟨rfl, ⟨nd, rfl⟩⟩) | (go_at_call 20; (with_reducible refine (access_Changes.calls a0 false _ A13.out).mono ?_); rintro e w' ⟨rfl, ⟨nd, rfl⟩⟩) | (go_at_call 9; (with_reducible refine (headgatelaw10_wakes.calls k  t183 _ ?side1 A15.out).mono ?_); (case side1 => first | ((refine Glob.keep HG.out ?_); (repeat (first | (with_reducible first | exact HB.out | apply below_alloc | apply pw_below_drewN | apply below_drew1) | exact HB.out)); done) | exact HG.out); rintro e w16 ⟨rfl, hb⟩; have n0_ := Aside0.mk (below_step (by repeat (first | (with_reducible first | exact HB.out | apply below_alloc | apply pw_below_drewN | apply below_drew1) | exact HB.out)) hb); clear HB; have HB := n0_; clear n0_; (try clear hb); (try clear hb2); (try clear hk); (try clear hi)))
            go_ret
            exact ⟨by first | rfl | (simp [errW_none, errW_some] <;> rfl) | (simp [*, errW_none, errW_some] <;> rfl), by repeat (first | (with_reducible first | exact HB.out | apply below_alloc | apply pw_below_drewN | apply below_drew1) | exact HB.out)⟩
        · replace c12 := Bool.eq_false_iff.mpr c12
          subst c12
          have H1 : ((headgatelaw10_wakes.f k).bind fun t184 => (some t184)) = some r := by rw [if_neg (show ¬ (false = true) by decide)] at H; exact H
          clear H
          have H := H1
          clear H1
          replace H := Option.bind_eq_some_iff.mp H
          obtain ⟨t184, A170, H⟩ := H
          replace H : (some t184) = some r := H
          have A17 := Aside0.mk A170
          clear A170
          obtain rfl := Option.some.inj H
          go_enter Tryd.func4, Tryd.ntmps4
          go_wp2_with (first | ((with_reducible refine gate_callee (f := 16) rfl ?_); refine goesL_ (some 4) rfl rfl Tryd.func16 (by kernel_rfl) rfl #[.int .i64 a0] rfl (by (try simp only [List.map_toArray, List.map_cons, List.map_nil]); first | done | rfl | (simp only [List.length_drop, List.length_take]; rfl)) ?_; (with_reducible refine (access_Type.calls a0 t175 _ A2.out).mono ?_); rintro e w' ⟨rfl, ⟨nd, rfl⟩⟩; refine ⟨_, rfl, ?_⟩) | ((with_reducible refine gate_callee (f := 17) rfl ?_); refine goesL_ (some 6) rfl rfl Tryd.func17 (by kernel_rfl) rfl #[.int .i64 a0] rfl (by (try simp only [List.map_toArray, List.map_cons, List.map_nil]); first | done | rfl | (simp only [List.length_drop, List.length_take]; rfl)) ?_; (with_reducible refine (headgateref10_Type.calls a0 t176 _ A3.out).mono ?_); rintro e w' ⟨rfl, ⟨nd, rfl⟩⟩; refine ⟨_, rfl, ?_⟩) | (go_at_call 18; (with_reducible refine (access_Reads.calls a0 false _ A5.out).mono ?_); rintro e w' ⟨rfl, ⟨nd, rfl⟩⟩) | (go_at_call 19; (with_reducible refine (headgateref10_Reads.calls a0 t178 _ A6.out).mono ?_); rintro e w' ⟨rfl, ⟨nd, rfl⟩⟩) | (go_at_call 20; (with_reducible refine (access_Changes.calls a0 t179 _ A8.out).mono ?_); rintro e w' ⟨rfl, ⟨nd, rfl⟩⟩) | (go_at_call 21; (with_reducible refine (headgateref10_Changes.calls a0 t180 _ A9.out).mono ?_); rintro e w' ⟨rfl, ⟨nd, rfl⟩⟩) | (go_at_call 18; (with_reducible refine (access_Reads.calls a0 false _ A11.out).mono ?_); rintro e w' ⟨rfl, ⟨nd, rfl⟩⟩) | (go_at_call 9; (with_reducible refine (headgatelaw10_wakes.calls k  t184 _ ?side1 A17.out).mono ?_); (case side1 => first | ((refine Glob.keep HG.out ?_); (repeat (first | (with_reducible first | exact HB.out | apply below_alloc | apply pw_below_drewN | apply below_drew1) | exact HB.out)); done) | exact HG.out); rintro e w18 ⟨rfl, hb⟩; have n0_ := Aside0.mk (below_step (by repeat (first | (with_reducible first | exact HB.out | apply below_alloc | apply pw_below_drewN | apply below_drew1) | exact HB.out)) hb); clear HB; have HB := n0_; clear n0_; (try clear hb); (try clear hb2); (try clear hk); (try clear hi)))
          go_ret
          exact ⟨by first | rfl | (simp [errW_none, errW_some] <;> rfl) | (simp [*, errW_none, errW_some] <;> rfl), by repeat (first | (with_reducible first | exact HB.out | apply below_alloc | apply pw_below_drewN | apply below_drew1) | exact HB.out)⟩
      · rw [if_neg c10] at H
        have c10b0 : (t179 == t180) = false := by simpa using c10
        (try (have c10b1 : decide (t179 = t180) = false := by simpa using c10))
        (try (have c10b2 : (t179 == t180) = false := by simpa using c10))
        (try (have c10b3 : ¬ (t179 = t180) := by simpa using c10))
        clear c10
        exact absurd ((Option.some.inj H).trans HT0.out) (by decide)
    · rw [if_neg c7] at H
      have c7b0 : (t177 == t178) = false := by simpa using c7
      (try (have c7b1 : decide (t177 = t178) = false := by simpa using c7))
      (try (have c7b2 : (t177 == t178) = false := by simpa using c7))
      (try (have c7b3 : ¬ (t177 = t178) := by simpa using c7))
      clear c7
      exact absurd ((Option.some.inj H).trans HT0.out) (by decide)
  · rw [if_neg c4] at H
    have c4b0 : (t175 == t176) = false := by simpa using c4
    (try (have c4b1 : decide (t175 = t176) = false := by simpa using c4))
    (try (have c4b2 : (t175 == t176) = false := by simpa using c4))
    (try (have c4b3 : ¬ (t175 = t176) := by simpa using c4))
    clear c4
    exact absurd ((Option.some.inj H).trans HT0.out) (by decide)

-- NOT PRINTED: function 5 (headgatelaw10_AccessOrder)

/-! ### headgatelaw10_AccessStranger: function 6 -/
def headgatelaw10_AccessStranger.j0 : Nat → ByteArray → Bool → List (S37) → Int → ByteArray → Int → Bool → Option (Bool)
  | 0, _, _, _, _, _, _, _ => none
  | k + 1, x1, x32, x229000, x229001, x229002, x229003, x229004 => if x32 = true then ((headgatelaw10_wakes.f k).bind fun t232 => (some t232)) else ((headgatekeep_CopyTable.f x229000 x229001 x229002 x229003 x229004).bind fun bt233 => ((access_May.f k bt233.1 bt233.2.1 bt233.2.2.1 bt233.2.2.2.1 bt233.2.2.2.2 x1 2).bind fun t241 => (if (t241 == ((Int.tmod x229001 2) == 1)) = true then ((access_May.f k bt233.1 bt233.2.1 bt233.2.2.1 bt233.2.2.2.1 bt233.2.2.2.2 x1 3).bind fun t242 => (if t242 = true then (some false) else ((access_May.f k bt233.1 bt233.2.1 bt233.2.2.1 bt233.2.2.2.1 bt233.2.2.2.2 x1 4).bind fun t243 => (if t243 = true then (some false) else ((access_May.f k bt233.1 bt233.2.1 bt233.2.2.1 bt233.2.2.2.1 bt233.2.2.2.2 x1 8).bind fun t244 => (if t244 = true then ((access_May.f k bt233.1 bt233.2.1 bt233.2.2.1 bt233.2.2.2.1 bt233.2.2.2.2 x1 1).bind fun t245 => (if t245 = true then ((headgatelaw10_wakes.f k).bind fun t246 => (some t246)) else (some false))) else (some false))))))) else (some false))))
def headgatelaw10_AccessStranger.f (k : Nat) (l0_0 : List (S37)) (a0_1 : Int) (a0_2 : ByteArray) (a0_3 : Int) (a0_4 : Bool) (a1 : ByteArray) : Option (Bool) := (headgatelaw10_Large.f k l0_0 a0_1 a0_2 a0_3 a0_4).bind fun t229 => (if t229 = true then (headgatelaw10_AccessStranger.j0 k a1 true l0_0 a0_1 a0_2 a0_3 a0_4) else (if (a1.size : Int) > 1000 then (headgatelaw10_AccessStranger.j0 k a1 true l0_0 a0_1 a0_2 a0_3 a0_4) else ((headgateref10_Registered.f k l0_0 a0_1 a0_2 a0_3 a0_4 a1).bind fun t230 => (if t230 = true then (headgatelaw10_AccessStranger.j0 k a1 true l0_0 a0_1 a0_2 a0_3 a0_4) else ((headgateref10_Type.f a0_1).bind fun t231 => (if t231 = true then (headgatelaw10_AccessStranger.j0 k a1 (a0_2.toList == a1.toList) l0_0 a0_1 a0_2 a0_3 a0_4) else (headgatelaw10_AccessStranger.j0 k a1 true l0_0 a0_1 a0_2 a0_3 a0_4)))))))
theorem headgatelaw10_AccessStranger.mono_l : ∀ k, (∀ y0 y1 y2 y3 y4 y5 y6, LeO (headgatelaw10_AccessStranger.j0 k y0 y1 y2 y3 y4 y5 y6) (headgatelaw10_AccessStranger.j0 (k + 1) y0 y1 y2 y3 y4 y5 y6))
  | 0 => fun _ _ _ _ _ _ _ r h => by simp [headgatelaw10_AccessStranger.j0] at h
  | k + 1 => by
    have ih0 := headgatelaw10_AccessStranger.mono_l k
    · intro y0 y1 y2 y3 y4 y5 y6
      unfold headgatelaw10_AccessStranger.j0
      repeat' first
      | (with_reducible exact ih0 _ _ _ _ _ _ _)
      | (with_reducible exact access_May.mono _ _ _ _ _ _ _ _)
      | (with_reducible exact headgatelaw10_Large.mono _ _ _ _ _ _)
      | (with_reducible exact headgatelaw10_wakes.mono _)
      | (with_reducible exact headgateref10_Registered.mono _ _ _ _ _ _ _)
      | (with_reducible exact LeO.refl _)
      | (with_reducible exact LeO.none _)
      | (with_reducible refine LeO.ite ?_ ?_)
      | (with_reducible refine LeO.bind ?_ (fun _ => ?_))
      | exact ih0 _ _ _ _ _ _ _
      | exact access_May.mono _ _ _ _ _ _ _ _
      | exact headgatelaw10_Large.mono _ _ _ _ _ _
      | exact headgatelaw10_wakes.mono _
      | exact headgateref10_Registered.mono _ _ _ _ _ _ _
      | exact LeO.none _
      | refine LeO.ite ?_ ?_
      | refine LeO.bind ?_ (fun _ => ?_)
theorem headgatelaw10_AccessStranger.mono : ∀ a0 a1 a2 a3 a4 a5 k, LeO (headgatelaw10_AccessStranger.f k a0 a1 a2 a3 a4 a5) (headgatelaw10_AccessStranger.f (k + 1) a0 a1 a2 a3 a4 a5) := by
  intro a0 a1 a2 a3 a4 a5 k
  have ih0 := headgatelaw10_AccessStranger.mono_l k
  unfold headgatelaw10_AccessStranger.f
  repeat' first
      | (with_reducible exact ih0 _ _ _ _ _ _ _)
      | (with_reducible exact access_May.mono _ _ _ _ _ _ _ _)
      | (with_reducible exact headgatelaw10_Large.mono _ _ _ _ _ _)
      | (with_reducible exact headgatelaw10_wakes.mono _)
      | (with_reducible exact headgateref10_Registered.mono _ _ _ _ _ _ _)
      | (with_reducible exact LeO.refl _)
      | (with_reducible exact LeO.none _)
      | (with_reducible refine LeO.ite ?_ ?_)
      | (with_reducible refine LeO.bind ?_ (fun _ => ?_))
      | exact ih0 _ _ _ _ _ _ _
      | exact access_May.mono _ _ _ _ _ _ _ _
      | exact headgatelaw10_Large.mono _ _ _ _ _ _
      | exact headgatelaw10_wakes.mono _
      | exact headgateref10_Registered.mono _ _ _ _ _ _ _
      | exact LeO.none _
      | refine LeO.ite ?_ ?_
      | refine LeO.bind ?_ (fun _ => ?_)
set_option maxHeartbeats 8000000 in
set_option maxRecDepth 100000 in
theorem headgatelaw10_AccessStranger.calls (k : Nat) (A0_0 : Option Addr) (c0_0 : Nat) (l0_0 : List (S37)) (a0_1 : Int) (a0_2 : ByteArray) (a0_3 : Int) (a0_4 : Bool) (a1 : ByteArray) (r : Bool) (w : World) (hr0_0 : Kd.C k37 w A0_0 l0_0.length l0_0) (hc0_0 : l0_0.length ≤ c0_0) (hG : Glob w) (hT : r = true) (h : headgatelaw10_AccessStranger.f k l0_0 a0_1 a0_2 a0_3 a0_4 a1 = some r) :
    Calls Tryd.prog 6 #[.agg #[.slice A0_0 l0_0.length c0_0, .int .i64 a0_1, .string a0_2, .int .u32 a0_3, .bool a0_4], .string a1] w fun e w' => e = .returned (.bool r) ∧ Below w.heap.size w w' := by
  have hu27 := Tryd.underlying27
  have HT0 := Aside0.mk hT
  clear hT
  have HG := Aside0.mk hG
  clear hG
  have HR0_0 := Aside0.mk hr0_0
  have HC0_0 := Aside0.mk hc0_0
  clear hr0_0 hc0_0
  have HB := Aside0.mk (Below.refl w.heap.size w)
  have H : ((headgatelaw10_Large.f k l0_0 a0_1 a0_2 a0_3 a0_4).bind fun t229 => (if t229 = true then (headgatelaw10_AccessStranger.j0 k a1 true l0_0 a0_1 a0_2 a0_3 a0_4) else (if (a1.size : Int) > 1000 then (headgatelaw10_AccessStranger.j0 k a1 true l0_0 a0_1 a0_2 a0_3 a0_4) else ((headgateref10_Registered.f k l0_0 a0_1 a0_2 a0_3 a0_4 a1).bind fun t230 => (if t230 = true then (headgatelaw10_AccessStranger.j0 k a1 true l0_0 a0_1 a0_2 a0_3 a0_4) else ((headgateref10_Type.f a0_1).bind fun t231 => (if t231 = true then (headgatelaw10_AccessStranger.j0 k a1 (a0_2.toList == a1.toList) l0_0 a0_1 a0_2 a0_3 a0_4) else (headgatelaw10_AccessStranger.j0 k a1 true l0_0 a0_1 a0_2 a0_3 a0_4)))))))) = some r := h
  clear h
  have HC3 := Aside0.mk H
  clear H
  go_enter Tryd.func6, Tryd.ntmps6
  go_upto_region 1 with (first | ((with_reducible refine gate_dst (N := 2) rfl ?_); (try (refine gate_guard (by rfl) ?_; dsimp only)); refine box_event ?hg (N := 2) ?hd (cs := #[.slice A0_0 l0_0.length c0_0, .int .i64 a0_1, .string a0_2, .int .u32 a0_3, .bool a0_4]) (t := 27) ?hr ?_; (case hd => rfl); (case hg => rfl); (case hr => first | (go_simp; done) | (go_simp; rfl)); intro gb228 hg w4 hbox hb; have n0_ := Aside0.mk (below_step (by repeat (first | (with_reducible first | exact HB.out | apply below_alloc | apply pw_below_drewN | apply below_drew1) | exact HB.out)) hb); have n1_ := Aside0.mk (hbox); have n2_ := Aside0.mk ((by rw [hg]; exact (below_size (by repeat (first | (with_reducible first | exact HB.out | apply below_alloc | apply pw_below_drewN | apply below_drew1) | exact HB.out))) : w.heap.size ≤ gb228)); have n3_ := Aside0.mk ((by rw [hg]; exact (below_size (by repeat (first | (with_reducible first | exact HB.out | apply below_alloc | apply pw_below_drewN | apply below_drew1) | exact HB.out))) : w.heap.size ≤ gb228)); clear HB; have HB := n0_; have BK228 := n1_; have GW228 := n2_; have GE228 := n3_; clear n0_ n1_ n2_ n3_; clear hb hbox hg))
  (try simp only [Act.put, List.setIfInBounds_toArray, List.set_cons_zero, List.set_cons_succ])
  go_cut [32] (fun v32 wc => ∃ (kq : Nat) (x32_2 : Bool), v32 = .bool x32_2 ∧ Aside0 (headgatelaw10_AccessStranger.j0 kq a1 x32_2 l0_0 a0_1 a0_2 a0_3 a0_4 = some r) ∧ Aside0 (kq ≤ k) ∧ Aside0 (wc.heap[gb228]? = some (.cells #[(.slice A0_0 l0_0.length c0_0), .int .i64 a0_1, .string a0_2, .int .u32 a0_3, .bool a0_4] 27 (0, 0))) ∧ Aside0 (Below w.heap.size w wc))
  case first =>
    have H := HC3.out
    clear HC3
    replace H := Option.bind_eq_some_iff.mp H
    obtain ⟨t229, A50, H⟩ := H
    replace H : (if t229 = true then (headgatelaw10_AccessStranger.j0 k a1 true l0_0 a0_1 a0_2 a0_3 a0_4) else (if (a1.size : Int) > 1000 then (headgatelaw10_AccessStranger.j0 k a1 true l0_0 a0_1 a0_2 a0_3 a0_4) else ((headgateref10_Registered.f k l0_0 a0_1 a0_2 a0_3 a0_4 a1).bind fun t230 => (if t230 = true then (headgatelaw10_AccessStranger.j0 k a1 true l0_0 a0_1 a0_2 a0_3 a0_4) else ((headgateref10_Type.f a0_1).bind fun t231 => (if t231 = true then (headgatelaw10_AccessStranger.j0 k a1 (a0_2.toList == a1.toList) l0_0 a0_1 a0_2 a0_3 a0_4) else (headgatelaw10_AccessStranger.j0 k a1 true l0_0 a0_1 a0_2 a0_3 a0_4))))))) = some r := H
    have A5 := Aside0.mk A50
    clear A50
    by_cases c6 : t229 = true
    · subst c6
      have H1 : (headgatelaw10_AccessStranger.j0 k a1 true l0_0 a0_1 a0_2 a0_3 a0_4) = some r := by rw [if_pos rfl] at H; exact H
      clear H
      have H := H1
      clear H1
      have H' := Aside0.mk H
      clear H
      have hcz7_0 : w4.cell? ⟨gb228, 0, none⟩ = some (.slice A0_0 l0_0.length c0_0) := (blk_cell BK228.out 0).trans rfl
      have hcz7_1 : w4.cell? ⟨gb228, 1, none⟩ = some (.int .i64 a0_1) := (blk_cell BK228.out 1).trans rfl
      have hcz7_2 : w4.cell? ⟨gb228, 2, none⟩ = some (.string a0_2) := (blk_cell BK228.out 2).trans rfl
      have hcz7_3 : w4.cell? ⟨gb228, 3, none⟩ = some (.int .u32 a0_3) := (blk_cell BK228.out 3).trans rfl
      have hcz7_4 : w4.cell? ⟨gb228, 4, none⟩ = some (.bool a0_4) := (blk_cell BK228.out 4).trans rfl
      have hfz7_0 := blk_frozen BK228.out 0
      have hfz7_1 := blk_frozen BK228.out 1
      have hfz7_2 := blk_frozen BK228.out 2
      have hfz7_3 := blk_frozen BK228.out 3
      have hfz7_4 := blk_frozen BK228.out 4
      go_wp2_with (first | ((with_reducible refine gate_callee (f := 8) rfl ?_); refine goesL_ (some 8) rfl rfl Tryd.func8 (by kernel_rfl) rfl #[.agg #[.slice A0_0 l0_0.length c0_0, .int .i64 a0_1, .string a0_2, .int .u32 a0_3, .bool a0_4]] rfl (by (try simp only [List.map_toArray, List.map_cons, List.map_nil]); first | done | rfl | (simp only [List.length_drop, List.length_take]; rfl)) ?_; (with_reducible refine (headgatelaw10_Large.calls k _ _ l0_0 a0_1 a0_2 a0_3 a0_4 true _ ?side1 ?side2 A5.out).mono ?_); (case side1 => repeat (first | exact (Kd.C_below HR0_0.out HB.out) | (with_reducible refine Kd.C_alloc ?_ _) | (with_reducible refine Kd.C_drewN ?_ _) | (with_reducible refine Kd.C_drew ?_))); (case side2 => exact HC0_0.out); rintro e w8 ⟨rfl, hb⟩; refine ⟨_, rfl, ?_⟩; have n0_ := Aside0.mk (blk_below (g := gb228) (o := .cells #[.slice A0_0 l0_0.length c0_0, .int .i64 a0_1, .string a0_2, .int .u32 a0_3, .bool a0_4] 27 (0, 0)) (by (with_reducible repeat (first | refine blk_drewN ?_ _ | refine blk_drew ?_ | refine blk_alloc ?_ _)); exact BK228.out) hb); have n1_ := Aside0.mk (below_step (by repeat (first | (with_reducible first | exact HB.out | apply below_alloc | apply pw_below_drewN | apply below_drew1 | refine below_set ?_ GE228.out) | exact HB.out)) hb); clear BK228; clear HB; have BK228 := n0_; have HB := n1_; clear n0_ n1_; (try clear hb); (try clear hb2); (try clear hk); (try clear hi)))
      go_meet
      case rel => exact ⟨_, (true), (by first | rfl | (simp; done) | (simp [*]; done)), H', ⟨by first | omega | exact Nat.le_refl _⟩, ⟨by (with_reducible repeat (first | refine blk_drewN ?_ _ | refine blk_drew ?_ | refine blk_alloc ?_ _)); exact BK228.out⟩, ⟨by repeat (first | (with_reducible first | exact HB.out | apply below_alloc | apply pw_below_drewN | apply below_drew1 | refine below_set ?_ GE228.out) | exact HB.out)⟩⟩
    · replace c6 := Bool.eq_false_iff.mpr c6
      subst c6
      have H1 : (if (a1.size : Int) > 1000 then (headgatelaw10_AccessStranger.j0 k a1 true l0_0 a0_1 a0_2 a0_3 a0_4) else ((headgateref10_Registered.f k l0_0 a0_1 a0_2 a0_3 a0_4 a1).bind fun t230 => (if t230 = true then (headgatelaw10_AccessStranger.j0 k a1 true l0_0 a0_1 a0_2 a0_3 a0_4) else ((headgateref10_Type.f a0_1).bind fun t231 => (if t231 = true then (headgatelaw10_AccessStranger.j0 k a1 (a0_2.toList == a1.toList) l0_0 a0_1 a0_2 a0_3 a0_4) else (headgatelaw10_AccessStranger.j0 k a1 true l0_0 a0_1 a0_2 a0_3 a0_4)))))) = some r := by rw [if_neg (show ¬ (false = true) by decide)] at H; exact H
      clear H
      have H := H1
      clear H1
      by_cases c9 : (a1.size : Int) > 1000
      · rw [if_pos c9] at H
        have c9b0 : decide (1000 < (a1.size : Int)) = true := decide_eq_true c9
        have c9b1 : decide (1000 < a1.size) = true := decide_eq_true (by omega)
        clear c9
        (first | rw [c9b0] | (simp only [i64_w, i32_w]; rw [c9b0]) | skip)
        have H' := Aside0.mk H
        clear H
        have hcz10_0 : w4.cell? ⟨gb228, 0, none⟩ = some (.slice A0_0 l0_0.length c0_0) := (blk_cell BK228.out 0).trans rfl
        have hcz10_1 : w4.cell? ⟨gb228, 1, none⟩ = some (.int .i64 a0_1) := (blk_cell BK228.out 1).trans rfl
        have hcz10_2 : w4.cell? ⟨gb228, 2, none⟩ = some (.string a0_2) := (blk_cell BK228.out 2).trans rfl
        have hcz10_3 : w4.cell? ⟨gb228, 3, none⟩ = some (.int .u32 a0_3) := (blk_cell BK228.out 3).trans rfl
        have hcz10_4 : w4.cell? ⟨gb228, 4, none⟩ = some (.bool a0_4) := (blk_cell BK228.out 4).trans rfl
        have hfz10_0 := blk_frozen BK228.out 0
        have hfz10_1 := blk_frozen BK228.out 1
        have hfz10_2 := blk_frozen BK228.out 2
        have hfz10_3 := blk_frozen BK228.out 3
        have hfz10_4 := blk_frozen BK228.out 4
        go_wp2_with (first | ((with_reducible refine gate_callee (f := 8) rfl ?_); refine goesL_ (some 8) rfl rfl Tryd.func8 (by kernel_rfl) rfl #[.agg #[.slice A0_0 l0_0.length c0_0, .int .i64 a0_1, .string a0_2, .int .u32 a0_3, .bool a0_4]] rfl (by (try simp only [List.map_toArray, List.map_cons, List.map_nil]); first | done | rfl | (simp only [List.length_drop, List.length_take]; rfl)) ?_; (with_reducible refine (headgatelaw10_Large.calls k _ _ l0_0 a0_1 a0_2 a0_3 a0_4 false _ ?side1 ?side2 A5.out).mono ?_); (case side1 => repeat (first | exact (Kd.C_below HR0_0.out HB.out) | (with_reducible refine Kd.C_alloc ?_ _) | (with_reducible refine Kd.C_drewN ?_ _) | (with_reducible refine Kd.C_drew ?_))); (case side2 => exact HC0_0.out); rintro e w11 ⟨rfl, hb⟩; refine ⟨_, rfl, ?_⟩; have n0_ := Aside0.mk (blk_below (g := gb228) (o := .cells #[.slice A0_0 l0_0.length c0_0, .int .i64 a0_1, .string a0_2, .int .u32 a0_3, .bool a0_4] 27 (0, 0)) (by (with_reducible repeat (first | refine blk_drewN ?_ _ | refine blk_drew ?_ | refine blk_alloc ?_ _)); exact BK228.out) hb); have n1_ := Aside0.mk (below_step (by repeat (first | (with_reducible first | exact HB.out | apply below_alloc | apply pw_below_drewN | apply below_drew1 | refine below_set ?_ GE228.out) | exact HB.out)) hb); clear BK228; clear HB; have BK228 := n0_; have HB := n1_; clear n0_ n1_; (try clear hb); (try clear hb2); (try clear hk); (try clear hi)))
        go_meet
        case rel => exact ⟨_, (true), (by first | rfl | (simp; done) | (simp [*]; done)), H', ⟨by first | omega | exact Nat.le_refl _⟩, ⟨by (with_reducible repeat (first | refine blk_drewN ?_ _ | refine blk_drew ?_ | refine blk_alloc ?_ _)); exact BK228.out⟩, ⟨by repeat (first | (with_reducible first | exact HB.out | apply below_alloc | apply pw_below_drewN | apply below_drew1 | refine below_set ?_ GE228.out) | exact HB.out)⟩⟩
      · rw [if_neg c9] at H
        have c9b0 : decide (1000 < (a1.size : Int)) = false := decide_eq_false c9
        have c9b1 : decide (1000 < a1.size) = false := decide_eq_false (by omega)
        clear c9
        (first | rw [c9b0] | (simp only [i64_w, i32_w]; rw [c9b0]) | skip)
        replace H := Option.bind_eq_some_iff.mp H
        obtain ⟨t230, A120, H⟩ := H
        replace H : (if t230 = true then (headgatelaw10_AccessStranger.j0 k a1 true l0_0 a0_1 a0_2 a0_3 a0_4) else ((headgateref10_Type.f a0_1).bind fun t231 => (if t231 = true then (headgatelaw10_AccessStranger.j0 k a1 (a0_2.toList == a1.toList) l0_0 a0_1 a0_2 a0_3 a0_4) else (headgatelaw10_AccessStranger.j0 k a1 true l0_0 a0_1 a0_2 a0_3 a0_4)))) = some r := H
        have A12 := Aside0.mk A120
        clear A120
        by_cases c13 : t230 = true
        · subst c13
          have H1 : (headgatelaw10_AccessStranger.j0 k a1 true l0_0 a0_1 a0_2 a0_3 a0_4) = some r := by rw [if_pos rfl] at H; exact H
          clear H
          have H := H1
          clear H1
          have H' := Aside0.mk H
          clear H
          have hcz14_0 : w4.cell? ⟨gb228, 0, none⟩ = some (.slice A0_0 l0_0.length c0_0) := (blk_cell BK228.out 0).trans rfl
          have hcz14_1 : w4.cell? ⟨gb228, 1, none⟩ = some (.int .i64 a0_1) := (blk_cell BK228.out 1).trans rfl
          have hcz14_2 : w4.cell? ⟨gb228, 2, none⟩ = some (.string a0_2) := (blk_cell BK228.out 2).trans rfl
          have hcz14_3 : w4.cell? ⟨gb228, 3, none⟩ = some (.int .u32 a0_3) := (blk_cell BK228.out 3).trans rfl
          have hcz14_4 : w4.cell? ⟨gb228, 4, none⟩ = some (.bool a0_4) := (blk_cell BK228.out 4).trans rfl
          have hfz14_0 := blk_frozen BK228.out 0
          have hfz14_1 := blk_frozen BK228.out 1
          have hfz14_2 := blk_frozen BK228.out 2
          have hfz14_3 := blk_frozen BK228.out 3
          have hfz14_4 := blk_frozen BK228.out 4
          go_wp2_with (first | ((with_reducible refine gate_callee (f := 8) rfl ?_); refine goesL_ (some 8) rfl rfl Tryd.func8 (by kernel_rfl) rfl #[.agg #[.slice A0_0 l0_0.length c0_0, .int .i64 a0_1, .string a0_2, .int .u32 a0_3, .bool a0_4]] rfl (by (try simp only [List.map_toArray, List.map_cons, List.map_nil]); first | done | rfl | (simp only [List.length_drop, List.length_take]; rfl)) ?_; (with_reducible refine (headgatelaw10_Large.calls k _ _ l0_0 a0_1 a0_2 a0_3 a0_4 false _ ?side1 ?side2 A5.out).mono ?_); (case side1 => repeat (first | exact (Kd.C_below HR0_0.out HB.out) | (with_reducible refine Kd.C_alloc ?_ _) | (with_reducible refine Kd.C_drewN ?_ _) | (with_reducible refine Kd.C_drew ?_))); (case side2 => exact HC0_0.out); rintro e w15 ⟨rfl, hb⟩; refine ⟨_, rfl, ?_⟩; have n0_ := Aside0.mk (blk_below (g := gb228) (o := .cells #[.slice A0_0 l0_0.length c0_0, .int .i64 a0_1, .string a0_2, .int .u32 a0_3, .bool a0_4] 27 (0, 0)) (by (with_reducible repeat (first | refine blk_drewN ?_ _ | refine blk_drew ?_ | refine blk_alloc ?_ _)); exact BK228.out) hb); have n1_ := Aside0.mk (below_step (by repeat (first | (with_reducible first | exact HB.out | apply below_alloc | apply pw_below_drewN | apply below_drew1 | refine below_set ?_ GE228.out) | exact HB.out)) hb); clear BK228; clear HB; have BK228 := n0_; have HB := n1_; clear n0_ n1_; (try clear hb); (try clear hb2); (try clear hk); (try clear hi); have hcz16_0 : w15.cell? ⟨gb228, 0, none⟩ = some (.slice A0_0 l0_0.length c0_0) := (blk_cell BK228.out 0).trans rfl; have hcz16_1 : w15.cell? ⟨gb228, 1, none⟩ = some (.int .i64 a0_1) := (blk_cell BK228.out 1).trans rfl; have hcz16_2 : w15.cell? ⟨gb228, 2, none⟩ = some (.string a0_2) := (blk_cell BK228.out 2).trans rfl; have hcz16_3 : w15.cell? ⟨gb228, 3, none⟩ = some (.int .u32 a0_3) := (blk_cell BK228.out 3).trans rfl; have hcz16_4 : w15.cell? ⟨gb228, 4, none⟩ = some (.bool a0_4) := (blk_cell BK228.out 4).trans rfl; have hfz16_0 := blk_frozen BK228.out 0; have hfz16_1 := blk_frozen BK228.out 1; have hfz16_2 := blk_frozen BK228.out 2; have hfz16_3 := blk_frozen BK228.out 3; have hfz16_4 := blk_frozen BK228.out 4) | (go_at_call 22; (with_reducible refine (headgateref10_Registered.calls k _ _ l0_0 a0_1 a0_2 a0_3 a0_4 a1 true _ ?side1 ?side2 A12.out).mono ?_); (case side1 => repeat (first | exact (Kd.C_below HR0_0.out HB.out) | (with_reducible refine Kd.C_alloc ?_ _) | (with_reducible refine Kd.C_drewN ?_ _) | (with_reducible refine Kd.C_drew ?_))); (case side2 => exact HC0_0.out); rintro e w17 ⟨rfl, hb⟩; have n0_ := Aside0.mk (blk_below (g := gb228) (o := .cells #[.slice A0_0 l0_0.length c0_0, .int .i64 a0_1, .string a0_2, .int .u32 a0_3, .bool a0_4] 27 (0, 0)) (by (with_reducible repeat (first | refine blk_drewN ?_ _ | refine blk_drew ?_ | refine blk_alloc ?_ _)); exact BK228.out) hb); have n1_ := Aside0.mk (below_step (by repeat (first | (with_reducible first | exact HB.out | apply below_alloc | apply pw_below_drewN | apply below_drew1 | refine below_set ?_ GE228.out) | exact HB.out)) hb); clear BK228; clear HB; have BK228 := n0_; have HB := n1_; clear n0_ n1_; (try clear hb); (try clear hb2); (try clear hk); (try clear hi)))
          go_meet
          case rel => exact ⟨_, (true), (by first | rfl | (simp; done) | (simp [*]; done)), H', ⟨by first | omega | exact Nat.le_refl _⟩, ⟨by (with_reducible repeat (first | refine blk_drewN ?_ _ | refine blk_drew ?_ | refine blk_alloc ?_ _)); exact BK228.out⟩, ⟨by repeat (first | (with_reducible first | exact HB.out | apply below_alloc | apply pw_below_drewN | apply below_drew1 | refine below_set ?_ GE228.out) | exact HB.out)⟩⟩
        · replace c13 := Bool.eq_false_iff.mpr c13
          subst c13
          have H1 : ((headgateref10_Type.f a0_1).bind fun t231 => (if t231 = true then (headgatelaw10_AccessStranger.j0 k a1 (a0_2.toList == a1.toList) l0_0 a0_1 a0_2 a0_3 a0_4) else (headgatelaw10_AccessStranger.j0 k a1 true l0_0 a0_1 a0_2 a0_3 a0_4))) = some r := by rw [if_neg (show ¬ (false = true) by decide)] at H; exact H
          clear H
          have H := H1
          clear H1
          replace H := Option.bind_eq_some_iff.mp H
          obtain ⟨t231, A180, H⟩ := H
          replace H : (if t231 = true then (headgatelaw10_AccessStranger.j0 k a1 (a0_2.toList == a1.toList) l0_0 a0_1 a0_2 a0_3 a0_4) else (headgatelaw10_AccessStranger.j0 k a1 true l0_0 a0_1 a0_2 a0_3 a0_4)) = some r := H
          have A18 := Aside0.mk A180
          clear A180
          by_cases c19 : t231 = true
          · subst c19
            have H1 : (headgatelaw10_AccessStranger.j0 k a1 (a0_2.toList == a1.toList) l0_0 a0_1 a0_2 a0_3 a0_4) = some r := by rw [if_pos rfl] at H; exact H
            clear H
            have H := H1
            clear H1
            have H' := Aside0.mk H
            clear H
            have hcz20_0 : w4.cell? ⟨gb228, 0, none⟩ = some (.slice A0_0 l0_0.length c0_0) := (blk_cell BK228.out 0).trans rfl
            have hcz20_1 : w4.cell? ⟨gb228, 1, none⟩ = some (.int .i64 a0_1) := (blk_cell BK228.out 1).trans rfl
            have hcz20_2 : w4.cell? ⟨gb228, 2, none⟩ = some (.string a0_2) := (blk_cell BK228.out 2).trans rfl
            have hcz20_3 : w4.cell? ⟨gb228, 3, none⟩ = some (.int .u32 a0_3) := (blk_cell BK228.out 3).trans rfl
            have hcz20_4 : w4.cell? ⟨gb228, 4, none⟩ = some (.bool a0_4) := (blk_cell BK228.out 4).trans rfl
            have hfz20_0 := blk_frozen BK228.out 0
            have hfz20_1 := blk_frozen BK228.out 1
            have hfz20_2 := blk_frozen BK228.out 2
            have hfz20_3 := blk_frozen BK228.out 3
            have hfz20_4 := blk_frozen BK228.out 4
            go_wp2_with (first | ((with_reducible refine gate_callee (f := 8) rfl ?_); refine goesL_ (some 8) rfl rfl Tryd.func8 (by kernel_rfl) rfl #[.agg #[.slice A0_0 l0_0.length c0_0, .int .i64 a0_1, .string a0_2, .int .u32 a0_3, .bool a0_4]] rfl (by (try simp only [List.map_toArray, List.map_cons, List.map_nil]); first | done | rfl | (simp only [List.length_drop, List.length_take]; rfl)) ?_; (with_reducible refine (headgatelaw10_Large.calls k _ _ l0_0 a0_1 a0_2 a0_3 a0_4 false _ ?side1 ?side2 A5.out).mono ?_); (case side1 => repeat (first | exact (Kd.C_below HR0_0.out HB.out) | (with_reducible refine Kd.C_alloc ?_ _) | (with_reducible refine Kd.C_drewN ?_ _) | (with_reducible refine Kd.C_drew ?_))); (case side2 => exact HC0_0.out); rintro e w21 ⟨rfl, hb⟩; refine ⟨_, rfl, ?_⟩; have n0_ := Aside0.mk (blk_below (g := gb228) (o := .cells #[.slice A0_0 l0_0.length c0_0, .int .i64 a0_1, .string a0_2, .int .u32 a0_3, .bool a0_4] 27 (0, 0)) (by (with_reducible repeat (first | refine blk_drewN ?_ _ | refine blk_drew ?_ | refine blk_alloc ?_ _)); exact BK228.out) hb); have n1_ := Aside0.mk (below_step (by repeat (first | (with_reducible first | exact HB.out | apply below_alloc | apply pw_below_drewN | apply below_drew1 | refine below_set ?_ GE228.out) | exact HB.out)) hb); clear BK228; clear HB; have BK228 := n0_; have HB := n1_; clear n0_ n1_; (try clear hb); (try clear hb2); (try clear hk); (try clear hi); have hcz22_0 : w21.cell? ⟨gb228, 0, none⟩ = some (.slice A0_0 l0_0.length c0_0) := (blk_cell BK228.out 0).trans rfl; have hcz22_1 : w21.cell? ⟨gb228, 1, none⟩ = some (.int .i64 a0_1) := (blk_cell BK228.out 1).trans rfl; have hcz22_2 : w21.cell? ⟨gb228, 2, none⟩ = some (.string a0_2) := (blk_cell BK228.out 2).trans rfl; have hcz22_3 : w21.cell? ⟨gb228, 3, none⟩ = some (.int .u32 a0_3) := (blk_cell BK228.out 3).trans rfl; have hcz22_4 : w21.cell? ⟨gb228, 4, none⟩ = some (.bool a0_4) := (blk_cell BK228.out 4).trans rfl; have hfz22_0 := blk_frozen BK228.out 0; have hfz22_1 := blk_frozen BK228.out 1; have hfz22_2 := blk_frozen BK228.out 2; have hfz22_3 := blk_frozen BK228.out 3; have hfz22_4 := blk_frozen BK228.out 4) | (go_at_call 22; (with_reducible refine (headgateref10_Registered.calls k _ _ l0_0 a0_1 a0_2 a0_3 a0_4 a1 false _ ?side1 ?side2 A12.out).mono ?_); (case side1 => repeat (first | exact (Kd.C_below HR0_0.out HB.out) | (with_reducible refine Kd.C_alloc ?_ _) | (with_reducible refine Kd.C_drewN ?_ _) | (with_reducible refine Kd.C_drew ?_))); (case side2 => exact HC0_0.out); rintro e w23 ⟨rfl, hb⟩; have n0_ := Aside0.mk (blk_below (g := gb228) (o := .cells #[.slice A0_0 l0_0.length c0_0, .int .i64 a0_1, .string a0_2, .int .u32 a0_3, .bool a0_4] 27 (0, 0)) (by (with_reducible repeat (first | refine blk_drewN ?_ _ | refine blk_drew ?_ | refine blk_alloc ?_ _)); exact BK228.out) hb); have n1_ := Aside0.mk (below_step (by repeat (first | (with_reducible first | exact HB.out | apply below_alloc | apply pw_below_drewN | apply below_drew1 | refine below_set ?_ GE228.out) | exact HB.out)) hb); clear BK228; clear HB; have BK228 := n0_; have HB := n1_; clear n0_ n1_; (try clear hb); (try clear hb2); (try clear hk); (try clear hi); have hcz24_0 : w23.cell? ⟨gb228, 0, none⟩ = some (.slice A0_0 l0_0.length c0_0) := (blk_cell BK228.out 0).trans rfl; have hcz24_1 : w23.cell? ⟨gb228, 1, none⟩ = some (.int .i64 a0_1) := (blk_cell BK228.out 1).trans rfl; have hcz24_2 : w23.cell? ⟨gb228, 2, none⟩ = some (.string a0_2) := (blk_cell BK228.out 2).trans rfl; have hcz24_3 : w23.cell? ⟨gb228, 3, none⟩ = some (.int .u32 a0_3) := (blk_cell BK228.out 3).trans rfl; have hcz24_4 : w23.cell? ⟨gb228, 4, none⟩ = some (.bool a0_4) := (blk_cell BK228.out 4).trans rfl; have hfz24_0 := blk_frozen BK228.out 0; have hfz24_1 := blk_frozen BK228.out 1; have hfz24_2 := blk_frozen BK228.out 2; have hfz24_3 := blk_frozen BK228.out 3; have hfz24_4 := blk_frozen BK228.out 4) | (go_at_call 17; (with_reducible refine (headgateref10_Type.calls a0_1 true _ A18.out).mono ?_); rintro e w' ⟨rfl, ⟨nd, rfl⟩⟩))
            go_meet
            case rel => exact ⟨_, ((a0_2.toList == a1.toList)), (by first | rfl | (simp; done) | (simp [*]; done)), H', ⟨by first | omega | exact Nat.le_refl _⟩, ⟨by (with_reducible repeat (first | refine blk_drewN ?_ _ | refine blk_drew ?_ | refine blk_alloc ?_ _)); exact BK228.out⟩, ⟨by repeat (first | (with_reducible first | exact HB.out | apply below_alloc | apply pw_below_drewN | apply below_drew1 | refine below_set ?_ GE228.out) | exact HB.out)⟩⟩
          · replace c19 := Bool.eq_false_iff.mpr c19
            subst c19
            have H1 : (headgatelaw10_AccessStranger.j0 k a1 true l0_0 a0_1 a0_2 a0_3 a0_4) = some r := by rw [if_neg (show ¬ (false = true) by decide)] at H; exact H
            clear H
            have H := H1
            clear H1
            have H' := Aside0.mk H
            clear H
            have hcz25_0 : w4.cell? ⟨gb228, 0, none⟩ = some (.slice A0_0 l0_0.length c0_0) := (blk_cell BK228.out 0).trans rfl
            have hcz25_1 : w4.cell? ⟨gb228, 1, none⟩ = some (.int .i64 a0_1) := (blk_cell BK228.out 1).trans rfl
            have hcz25_2 : w4.cell? ⟨gb228, 2, none⟩ = some (.string a0_2) := (blk_cell BK228.out 2).trans rfl
            have hcz25_3 : w4.cell? ⟨gb228, 3, none⟩ = some (.int .u32 a0_3) := (blk_cell BK228.out 3).trans rfl
            have hcz25_4 : w4.cell? ⟨gb228, 4, none⟩ = some (.bool a0_4) := (blk_cell BK228.out 4).trans rfl
            have hfz25_0 := blk_frozen BK228.out 0
            have hfz25_1 := blk_frozen BK228.out 1
            have hfz25_2 := blk_frozen BK228.out 2
            have hfz25_3 := blk_frozen BK228.out 3
            have hfz25_4 := blk_frozen BK228.out 4
            go_wp2_with (first | ((with_reducible refine gate_callee (f := 8) rfl ?_); refine goesL_ (some 8) rfl rfl Tryd.func8 (by kernel_rfl) rfl #[.agg #[.slice A0_0 l0_0.length c0_0, .int .i64 a0_1, .string a0_2, .int .u32 a0_3, .bool a0_4]] rfl (by (try simp only [List.map_toArray, List.map_cons, List.map_nil]); first | done | rfl | (simp only [List.length_drop, List.length_take]; rfl)) ?_; (with_reducible refine (headgatelaw10_Large.calls k _ _ l0_0 a0_1 a0_2 a0_3 a0_4 false _ ?side1 ?side2 A5.out).mono ?_); (case side1 => repeat (first | exact (Kd.C_below HR0_0.out HB.out) | (with_reducible refine Kd.C_alloc ?_ _) | (with_reducible refine Kd.C_drewN ?_ _) | (with_reducible refine Kd.C_drew ?_))); (case side2 => exact HC0_0.out); rintro e w26 ⟨rfl, hb⟩; refine ⟨_, rfl, ?_⟩; have n0_ := Aside0.mk (blk_below (g := gb228) (o := .cells #[.slice A0_0 l0_0.length c0_0, .int .i64 a0_1, .string a0_2, .int .u32 a0_3, .bool a0_4] 27 (0, 0)) (by (with_reducible repeat (first | refine blk_drewN ?_ _ | refine blk_drew ?_ | refine blk_alloc ?_ _)); exact BK228.out) hb); have n1_ := Aside0.mk (below_step (by repeat (first | (with_reducible first | exact HB.out | apply below_alloc | apply pw_below_drewN | apply below_drew1 | refine below_set ?_ GE228.out) | exact HB.out)) hb); clear BK228; clear HB; have BK228 := n0_; have HB := n1_; clear n0_ n1_; (try clear hb); (try clear hb2); (try clear hk); (try clear hi); have hcz27_0 : w26.cell? ⟨gb228, 0, none⟩ = some (.slice A0_0 l0_0.length c0_0) := (blk_cell BK228.out 0).trans rfl; have hcz27_1 : w26.cell? ⟨gb228, 1, none⟩ = some (.int .i64 a0_1) := (blk_cell BK228.out 1).trans rfl; have hcz27_2 : w26.cell? ⟨gb228, 2, none⟩ = some (.string a0_2) := (blk_cell BK228.out 2).trans rfl; have hcz27_3 : w26.cell? ⟨gb228, 3, none⟩ = some (.int .u32 a0_3) := (blk_cell BK228.out 3).trans rfl; have hcz27_4 : w26.cell? ⟨gb228, 4, none⟩ = some (.bool a0_4) := (blk_cell BK228.out 4).trans rfl; have hfz27_0 := blk_frozen BK228.out 0; have hfz27_1 := blk_frozen BK228.out 1; have hfz27_2 := blk_frozen BK228.out 2; have hfz27_3 := blk_frozen BK228.out 3; have hfz27_4 := blk_frozen BK228.out 4) | (go_at_call 22; (with_reducible refine (headgateref10_Registered.calls k _ _ l0_0 a0_1 a0_2 a0_3 a0_4 a1 false _ ?side1 ?side2 A12.out).mono ?_); (case side1 => repeat (first | exact (Kd.C_below HR0_0.out HB.out) | (with_reducible refine Kd.C_alloc ?_ _) | (with_reducible refine Kd.C_drewN ?_ _) | (with_reducible refine Kd.C_drew ?_))); (case side2 => exact HC0_0.out); rintro e w28 ⟨rfl, hb⟩; have n0_ := Aside0.mk (blk_below (g := gb228) (o := .cells #[.slice A0_0 l0_0.length c0_0, .int .i64 a0_1, .string a0_2, .int .u32 a0_3, .bool a0_4] 27 (0, 0)) (by (with_reducible repeat (first | refine blk_drewN ?_ _ | refine blk_drew ?_ | refine blk_alloc ?_ _)); exact BK228.out) hb); have n1_ := Aside0.mk (below_step (by repeat (first | (with_reducible first | exact HB.out | apply below_alloc | apply pw_below_drewN | apply below_drew1 | refine below_set ?_ GE228.out) | exact HB.out)) hb); clear BK228; clear HB; have BK228 := n0_; have HB := n1_; clear n0_ n1_; (try clear hb); (try clear hb2); (try clear hk); (try clear hi); have hcz29_0 : w28.cell? ⟨gb228, 0, none⟩ = some (.slice A0_0 l0_0.length c0_0) := (blk_cell BK228.out 0).trans rfl; have hcz29_1 : w28.cell? ⟨gb228, 1, none⟩ = some (.int .i64 a0_1) := (blk_cell BK228.out 1).trans rfl; have hcz29_2 : w28.cell? ⟨gb228, 2, none⟩ = some (.string a0_2) := (blk_cell BK228.out 2).trans rfl; have hcz29_3 : w28.cell? ⟨gb228, 3, none⟩ = some (.int .u32 a0_3) := (blk_cell BK228.out 3).trans rfl; have hcz29_4 : w28.cell? ⟨gb228, 4, none⟩ = some (.bool a0_4) := (blk_cell BK228.out 4).trans rfl; have hfz29_0 := blk_frozen BK228.out 0; have hfz29_1 := blk_frozen BK228.out 1; have hfz29_2 := blk_frozen BK228.out 2; have hfz29_3 := blk_frozen BK228.out 3; have hfz29_4 := blk_frozen BK228.out 4) | (go_at_call 17; (with_reducible refine (headgateref10_Type.calls a0_1 false _ A18.out).mono ?_); rintro e w' ⟨rfl, ⟨nd, rfl⟩⟩))
            go_meet
            case rel => exact ⟨_, (true), (by first | rfl | (simp; done) | (simp [*]; done)), H', ⟨by first | omega | exact Nat.le_refl _⟩, ⟨by (with_reducible repeat (first | refine blk_drewN ?_ _ | refine blk_drew ?_ | refine blk_alloc ?_ _)); exact BK228.out⟩, ⟨by repeat (first | (with_reducible first | exact HB.out | apply below_alloc | apply pw_below_drewN | apply below_drew1 | refine below_set ?_ GE228.out) | exact HB.out)⟩⟩
  case rest =>
    clear HC3
    try clear c1
    try clear p2
    try clear c6
    try clear c8
    try clear c9
    try clear c9b0
    try clear c9b1
    try clear c13
    try clear c19
    try clear hcz10_0
    try clear hcz10_1
    try clear hcz10_2
    try clear hcz10_3
    try clear hcz10_4
    try clear hcz14_0
    try clear hcz14_1
    try clear hcz14_2
    try clear hcz14_3
    try clear hcz14_4
    try clear hcz16_0
    try clear hcz16_1
    try clear hcz16_2
    try clear hcz16_3
    try clear hcz16_4
    try clear hcz20_0
    try clear hcz20_1
    try clear hcz20_2
    try clear hcz20_3
    try clear hcz20_4
    try clear hcz22_0
    try clear hcz22_1
    try clear hcz22_2
    try clear hcz22_3
    try clear hcz22_4
    try clear hcz24_0
    try clear hcz24_1
    try clear hcz24_2
    try clear hcz24_3
    try clear hcz24_4
    try clear hcz25_0
    try clear hcz25_1
    try clear hcz25_2
    try clear hcz25_3
    try clear hcz25_4
    try clear hcz27_0
    try clear hcz27_1
    try clear hcz27_2
    try clear hcz27_3
    try clear hcz27_4
    try clear hcz29_0
    try clear hcz29_1
    try clear hcz29_2
    try clear hcz29_3
    try clear hcz29_4
    try clear hcz7_0
    try clear hcz7_1
    try clear hcz7_2
    try clear hcz7_3
    try clear hcz7_4
    try clear hfz10_0
    try clear hfz10_1
    try clear hfz10_2
    try clear hfz10_3
    try clear hfz10_4
    try clear hfz14_0
    try clear hfz14_1
    try clear hfz14_2
    try clear hfz14_3
    try clear hfz14_4
    try clear hfz16_0
    try clear hfz16_1
    try clear hfz16_2
    try clear hfz16_3
    try clear hfz16_4
    try clear hfz20_0
    try clear hfz20_1
    try clear hfz20_2
    try clear hfz20_3
    try clear hfz20_4
    try clear hfz22_0
    try clear hfz22_1
    try clear hfz22_2
    try clear hfz22_3
    try clear hfz22_4
    try clear hfz24_0
    try clear hfz24_1
    try clear hfz24_2
    try clear hfz24_3
    try clear hfz24_4
    try clear hfz25_0
    try clear hfz25_1
    try clear hfz25_2
    try clear hfz25_3
    try clear hfz25_4
    try clear hfz27_0
    try clear hfz27_1
    try clear hfz27_2
    try clear hfz27_3
    try clear hfz27_4
    try clear hfz29_0
    try clear hfz29_1
    try clear hfz29_2
    try clear hfz29_3
    try clear hfz29_4
    try clear hfz7_0
    try clear hfz7_1
    try clear hfz7_2
    try clear hfz7_3
    try clear hfz7_4
    obtain ⟨kq, x32_2, rfl, HA, HJ2, BK228, HB⟩ := hcut
    cases kq with
    | zero => exact absurd HA.out (by simp [headgatelaw10_AccessStranger.j0])
    | succ kj2 =>
      have H := HA.out
      clear HA
      simp only [headgatelaw10_AccessStranger.j0] at H
      by_cases c30 : x32_2 = true
      · subst c30
        have H1 : ((headgatelaw10_wakes.f kj2).bind fun t232 => (some t232)) = some r := by rw [if_pos rfl] at H; exact H
        clear H
        have H := H1
        clear H1
        replace H := Option.bind_eq_some_iff.mp H
        obtain ⟨t232, A310, H⟩ := H
        replace H : (some t232) = some r := H
        have A31 := Aside0.mk A310
        clear A310
        obtain rfl := Option.some.inj H
        go_wp2_with (first | ((with_reducible refine gate_callee (f := 9) rfl ?_); refine goesL_ (some 33) rfl rfl Tryd.func9 (by kernel_rfl) rfl #[] rfl (by (try simp only [List.map_toArray, List.map_cons, List.map_nil]); first | done | rfl | (simp only [List.length_drop, List.length_take]; rfl)) ?_; (with_reducible refine (headgatelaw10_wakes.calls kj2  t232 _ ?side1 A31.out).mono ?_); (case side1 => first | ((refine Glob.keep HG.out ?_); (repeat (first | (with_reducible first | exact HB.out | apply below_alloc | apply pw_below_drewN | apply below_drew1 | refine below_set ?_ GE228.out) | exact HB.out)); done) | exact HG.out); rintro e w32 ⟨rfl, hb⟩; refine ⟨_, rfl, ?_⟩; have n0_ := Aside0.mk (blk_below (g := gb228) (o := .cells #[.slice A0_0 l0_0.length c0_0, .int .i64 a0_1, .string a0_2, .int .u32 a0_3, .bool a0_4] 27 (0, 0)) (by (with_reducible repeat (first | refine blk_drewN ?_ _ | refine blk_drew ?_ | refine blk_alloc ?_ _)); exact BK228.out) hb); have n1_ := Aside0.mk (below_step (by repeat (first | (with_reducible first | exact HB.out | apply below_alloc | apply pw_below_drewN | apply below_drew1 | refine below_set ?_ GE228.out) | exact HB.out)) hb); clear BK228; clear HB; have BK228 := n0_; have HB := n1_; clear n0_ n1_; (try clear hb); (try clear hb2); (try clear hk); (try clear hi)))
        go_ret
        exact ⟨by first | rfl | (simp [errW_none, errW_some] <;> rfl) | (simp [*, errW_none, errW_some] <;> rfl), by repeat (first | (with_reducible first | exact HB.out | apply below_alloc | apply pw_below_drewN | apply below_drew1 | refine below_set ?_ GE228.out) | exact HB.out)⟩
      · replace c30 := Bool.eq_false_iff.mpr c30
        subst c30
        have H1 : ((headgatekeep_CopyTable.f l0_0 a0_1 a0_2 a0_3 a0_4).bind fun bt233 => ((access_May.f kj2 bt233.1 bt233.2.1 bt233.2.2.1 bt233.2.2.2.1 bt233.2.2.2.2 a1 2).bind fun t241 => (if (t241 == ((Int.tmod a0_1 2) == 1)) = true then ((access_May.f kj2 bt233.1 bt233.2.1 bt233.2.2.1 bt233.2.2.2.1 bt233.2.2.2.2 a1 3).bind fun t242 => (if t242 = true then (some false) else ((access_May.f kj2 bt233.1 bt233.2.1 bt233.2.2.1 bt233.2.2.2.1 bt233.2.2.2.2 a1 4).bind fun t243 => (if t243 = true then (some false) else ((access_May.f kj2 bt233.1 bt233.2.1 bt233.2.2.1 bt233.2.2.2.1 bt233.2.2.2.2 a1 8).bind fun t244 => (if t244 = true then ((access_May.f kj2 bt233.1 bt233.2.1 bt233.2.2.1 bt233.2.2.2.1 bt233.2.2.2.2 a1 1).bind fun t245 => (if t245 = true then ((headgatelaw10_wakes.f kj2).bind fun t246 => (some t246)) else (some false))) else (some false))))))) else (some false)))) = some r := by rw [if_neg (show ¬ (false = true) by decide)] at H; exact H
        clear H
        have H := H1
        clear H1
        replace H := Option.bind_eq_some_iff.mp H
        obtain ⟨⟨t233, t236, t237, t238, t239⟩, A330, H⟩ := H
        replace H : ((access_May.f kj2 t233 t236 t237 t238 t239 a1 2).bind fun t241 => (if (t241 == ((Int.tmod a0_1 2) == 1)) = true then ((access_May.f kj2 t233 t236 t237 t238 t239 a1 3).bind fun t242 => (if t242 = true then (some false) else ((access_May.f kj2 t233 t236 t237 t238 t239 a1 4).bind fun t243 => (if t243 = true then (some false) else ((access_May.f kj2 t233 t236 t237 t238 t239 a1 8).bind fun t244 => (if t244 = true then ((access_May.f kj2 t233 t236 t237 t238 t239 a1 1).bind fun t245 => (if t245 = true then ((headgatelaw10_wakes.f kj2).bind fun t246 => (some t246)) else (some false))) else (some false))))))) else (some false))) = some r := H
        have A33 := Aside0.mk A330
        clear A330
        replace H := Option.bind_eq_some_iff.mp H
        obtain ⟨t241, A340, H⟩ := H
        replace H : (if (t241 == ((Int.tmod a0_1 2) == 1)) = true then ((access_May.f kj2 t233 t236 t237 t238 t239 a1 3).bind fun t242 => (if t242 = true then (some false) else ((access_May.f kj2 t233 t236 t237 t238 t239 a1 4).bind fun t243 => (if t243 = true then (some false) else ((access_May.f kj2 t233 t236 t237 t238 t239 a1 8).bind fun t244 => (if t244 = true then ((access_May.f kj2 t233 t236 t237 t238 t239 a1 1).bind fun t245 => (if t245 = true then ((headgatelaw10_wakes.f kj2).bind fun t246 => (some t246)) else (some false))) else (some false))))))) else (some false)) = some r := H
        have A34 := Aside0.mk A340
        clear A340
        by_cases c35 : (t241 == ((Int.tmod a0_1 2) == 1)) = true
        · rw [if_pos c35] at H
          have c35b0 : (t241 == ((Int.tmod a0_1 2) == 1)) = true := c35
          (try (have c35b1 : decide (t241 = ((Int.tmod a0_1 2) == 1)) = true := by simpa using c35))
          (try (have c35b2 : (t241 == ((Int.tmod a0_1 2) == 1)) = true := by simpa using c35))
          clear c35
          replace H := Option.bind_eq_some_iff.mp H
          obtain ⟨t242, A360, H⟩ := H
          replace H : (if t242 = true then (some false) else ((access_May.f kj2 t233 t236 t237 t238 t239 a1 4).bind fun t243 => (if t243 = true then (some false) else ((access_May.f kj2 t233 t236 t237 t238 t239 a1 8).bind fun t244 => (if t244 = true then ((access_May.f kj2 t233 t236 t237 t238 t239 a1 1).bind fun t245 => (if t245 = true then ((headgatelaw10_wakes.f kj2).bind fun t246 => (some t246)) else (some false))) else (some false)))))) = some r := H
          have A36 := Aside0.mk A360
          clear A360
          by_cases c37 : t242 = true
          · subst c37
            have H1 : (some false) = some r := by rw [if_pos rfl] at H; exact H
            clear H
            have H := H1
            clear H1
            exact absurd ((Option.some.inj H).trans HT0.out) (by decide)
          · replace c37 := Bool.eq_false_iff.mpr c37
            subst c37
            have H1 : ((access_May.f kj2 t233 t236 t237 t238 t239 a1 4).bind fun t243 => (if t243 = true then (some false) else ((access_May.f kj2 t233 t236 t237 t238 t239 a1 8).bind fun t244 => (if t244 = true then ((access_May.f kj2 t233 t236 t237 t238 t239 a1 1).bind fun t245 => (if t245 = true then ((headgatelaw10_wakes.f kj2).bind fun t246 => (some t246)) else (some false))) else (some false))))) = some r := by rw [if_neg (show ¬ (false = true) by decide)] at H; exact H
            clear H
            have H := H1
            clear H1
            replace H := Option.bind_eq_some_iff.mp H
            obtain ⟨t243, A380, H⟩ := H
            replace H : (if t243 = true then (some false) else ((access_May.f kj2 t233 t236 t237 t238 t239 a1 8).bind fun t244 => (if t244 = true then ((access_May.f kj2 t233 t236 t237 t238 t239 a1 1).bind fun t245 => (if t245 = true then ((headgatelaw10_wakes.f kj2).bind fun t246 => (some t246)) else (some false))) else (some false)))) = some r := H
            have A38 := Aside0.mk A380
            clear A380
            by_cases c39 : t243 = true
            · subst c39
              have H1 : (some false) = some r := by rw [if_pos rfl] at H; exact H
              clear H
              have H := H1
              clear H1
              exact absurd ((Option.some.inj H).trans HT0.out) (by decide)
            · replace c39 := Bool.eq_false_iff.mpr c39
              subst c39
              have H1 : ((access_May.f kj2 t233 t236 t237 t238 t239 a1 8).bind fun t244 => (if t244 = true then ((access_May.f kj2 t233 t236 t237 t238 t239 a1 1).bind fun t245 => (if t245 = true then ((headgatelaw10_wakes.f kj2).bind fun t246 => (some t246)) else (some false))) else (some false))) = some r := by rw [if_neg (show ¬ (false = true) by decide)] at H; exact H
              clear H
              have H := H1
              clear H1
              replace H := Option.bind_eq_some_iff.mp H
              obtain ⟨t244, A400, H⟩ := H
              replace H : (if t244 = true then ((access_May.f kj2 t233 t236 t237 t238 t239 a1 1).bind fun t245 => (if t245 = true then ((headgatelaw10_wakes.f kj2).bind fun t246 => (some t246)) else (some false))) else (some false)) = some r := H
              have A40 := Aside0.mk A400
              clear A400
              by_cases c41 : t244 = true
              · subst c41
                have H1 : ((access_May.f kj2 t233 t236 t237 t238 t239 a1 1).bind fun t245 => (if t245 = true then ((headgatelaw10_wakes.f kj2).bind fun t246 => (some t246)) else (some false))) = some r := by rw [if_pos rfl] at H; exact H
                clear H
                have H := H1
                clear H1
                replace H := Option.bind_eq_some_iff.mp H
                obtain ⟨t245, A420, H⟩ := H
                replace H : (if t245 = true then ((headgatelaw10_wakes.f kj2).bind fun t246 => (some t246)) else (some false)) = some r := H
                have A42 := Aside0.mk A420
                clear A420
                by_cases c43 : t245 = true
                · subst c43
                  have H1 : ((headgatelaw10_wakes.f kj2).bind fun t246 => (some t246)) = some r := by rw [if_pos rfl] at H; exact H
                  clear H
                  have H := H1
                  clear H1
                  replace H := Option.bind_eq_some_iff.mp H
                  obtain ⟨t246, A440, H⟩ := H
                  replace H : (some t246) = some r := H
                  have A44 := Aside0.mk A440
                  clear A440
                  obtain rfl := Option.some.inj H
                  have hcz45_0 : wc.cell? ⟨gb228, 0, none⟩ = some (.slice A0_0 l0_0.length c0_0) := (blk_cell BK228.out 0).trans rfl
                  have hcz45_1 : wc.cell? ⟨gb228, 1, none⟩ = some (.int .i64 a0_1) := (blk_cell BK228.out 1).trans rfl
                  have hcz45_2 : wc.cell? ⟨gb228, 2, none⟩ = some (.string a0_2) := (blk_cell BK228.out 2).trans rfl
                  have hcz45_3 : wc.cell? ⟨gb228, 3, none⟩ = some (.int .u32 a0_3) := (blk_cell BK228.out 3).trans rfl
                  have hcz45_4 : wc.cell? ⟨gb228, 4, none⟩ = some (.bool a0_4) := (blk_cell BK228.out 4).trans rfl
                  have hfz45_0 := blk_frozen BK228.out 0
                  have hfz45_1 := blk_frozen BK228.out 1
                  have hfz45_2 := blk_frozen BK228.out 2
                  have hfz45_3 := blk_frozen BK228.out 3
                  have hfz45_4 := blk_frozen BK228.out 4
                  go_wp2_with (first | ((with_reducible refine gate_callee (f := 10) rfl ?_); refine goesL_ (some 35) rfl rfl Tryd.func10 (by kernel_rfl) rfl #[.agg #[.slice A0_0 l0_0.length c0_0, .int .i64 a0_1, .string a0_2, .int .u32 a0_3, .bool a0_4]] rfl (by (try simp only [List.map_toArray, List.map_cons, List.map_nil]); first | done | rfl | (simp only [List.length_drop, List.length_take]; rfl)) ?_; (with_reducible refine (headgatekeep_CopyTable.calls _ _ l0_0 a0_1 a0_2 a0_3 a0_4 t233 t236 t237 t238 t239 _ ?side1 ?side2 A33.out).mono ?_); (case side1 => repeat (first | exact (Kd.C_below HR0_0.out HB.out) | (with_reducible refine Kd.C_alloc ?_ _) | (with_reducible refine Kd.C_drewN ?_ _) | (with_reducible refine Kd.C_drew ?_))); (case side2 => exact HC0_0.out); rintro e w46 ⟨v234, rfl, ho0, hb⟩; refine ⟨_, rfl, ?_⟩; have n0_ := Aside0.mk (Kd.R_lower ho0 (below_size (by repeat (first | (with_reducible first | exact HB.out | apply below_alloc | apply pw_below_drewN | apply below_drew1 | refine below_set ?_ GE228.out) | exact HB.out)))); have n1_ := Aside0.mk (blk_below (g := gb228) (o := .cells #[.slice A0_0 l0_0.length c0_0, .int .i64 a0_1, .string a0_2, .int .u32 a0_3, .bool a0_4] 27 (0, 0)) (by (with_reducible repeat (first | refine blk_drewN ?_ _ | refine blk_drew ?_ | refine blk_alloc ?_ _)); exact BK228.out) hb); have n2_ := Aside0.mk (below_step (by repeat (first | (with_reducible first | exact HB.out | apply below_alloc | apply pw_below_drewN | apply below_drew1 | refine below_set ?_ GE228.out) | exact HB.out)) hb); clear BK228; clear HB; have HO235 := n0_; have BK228 := n1_; have HB := n2_; clear n0_ n1_ n2_; (try clear hb); (try clear hb2); (try clear hk); (try clear hi); (try clear ho0)) | ((with_reducible refine gate_dst (N := 5) rfl ?_); (try (refine gate_guard (by rfl) ?_; dsimp only)); refine box_event ?hg (N := 5) ?hd (cs := #[.slice none 0 0, .int .i64 0, .string (⟨#[]⟩ : ByteArray), .int .u32 0, .bool false]) (t := 27) ?hr ?_; (case hd => rfl); (case hg => rfl); (case hr => first | (go_simp; done) | (go_simp; rfl)); intro gb240 hg w47 hbox hb; have n0_ := Aside0.mk (Kd.R_below (by (with_reducible repeat (first | apply Kd.R_alloc | apply Kd.R_drewN | apply Kd.R_drew)); exact HO235.out) hb); have n1_ := Aside0.mk (blk_below (g := gb228) (o := .cells #[.slice A0_0 l0_0.length c0_0, .int .i64 a0_1, .string a0_2, .int .u32 a0_3, .bool a0_4] 27 (0, 0)) (by (with_reducible repeat (first | refine blk_drewN ?_ _ | refine blk_drew ?_ | refine blk_alloc ?_ _)); exact BK228.out) hb); have n2_ := Aside0.mk (below_step (by repeat (first | (with_reducible first | exact HB.out | apply below_alloc | apply pw_below_drewN | apply below_drew1 | refine below_set ?_ GE228.out) | exact HB.out)) hb); have n3_ := Aside0.mk (hbox); have n4_ := Aside0.mk ((by rw [hg]; exact (below_size (by repeat (first | (with_reducible first | exact HB.out | apply below_alloc | apply pw_below_drewN | apply below_drew1 | refine below_set ?_ GE228.out) | exact HB.out))) : w.heap.size ≤ gb240)); have n5_ := Aside0.mk ((by rw [hg]; exact (below_size (by repeat (first | (with_reducible first | exact HB.out | apply below_alloc | apply pw_below_drewN | apply below_drew1 | refine below_set ?_ GE228.out) | exact HB.out))) : w.heap.size ≤ gb240)); have n6_ := Aside0.mk ((by rw [hg]; exact Nat.ne_of_lt (blk_lt (g := gb228) (o := .cells #[.slice A0_0 l0_0.length c0_0, .int .i64 a0_1, .string a0_2, .int .u32 a0_3, .bool a0_4] 27 (0, 0)) (by (with_reducible repeat (first | refine blk_drewN ?_ _ | refine blk_drew ?_ | refine blk_alloc ?_ _)); exact BK228.out)) : gb228 ≠ gb240)); have n7_ := Aside0.mk ((by rw [hg]; exact Nat.ne_of_gt (blk_lt (g := gb228) (o := .cells #[.slice A0_0 l0_0.length c0_0, .int .i64 a0_1, .string a0_2, .int .u32 a0_3, .bool a0_4] 27 (0, 0)) (by (with_reducible repeat (first | refine blk_drewN ?_ _ | refine blk_drew ?_ | refine blk_alloc ?_ _)); exact BK228.out)) : gb240 ≠ gb228)); clear HO235; clear BK228; clear HB; have HO235 := n0_; have BK228 := n1_; have HB := n2_; have BK240 := n3_; have GW240 := n4_; have GE240 := n5_; have NB228_240 := n6_; have NB240_228 := n7_; clear n0_ n1_ n2_ n3_ n4_ n5_ n6_ n7_; clear hb hbox hg; obtain ⟨Ao48, co48, eo48⟩ := Kd.R_slice HO235.out; subst eo48; have hnb49 := NB240_228.out; have hnc49 := NB228_240.out; have hcz50_0 : w47.cell? ⟨gb240, 0, none⟩ = some (.slice none 0 0) := (blk_cell BK240.out 0).trans rfl; have hcz50_1 : w47.cell? ⟨gb240, 1, none⟩ = some (.int .i64 0) := (blk_cell BK240.out 1).trans rfl; have hcz50_2 : w47.cell? ⟨gb240, 2, none⟩ = some (.string (⟨#[]⟩ : ByteArray)) := (blk_cell BK240.out 2).trans rfl; have hcz50_3 : w47.cell? ⟨gb240, 3, none⟩ = some (.int .u32 0) := (blk_cell BK240.out 3).trans rfl; have hcz50_4 : w47.cell? ⟨gb240, 4, none⟩ = some (.bool false) := (blk_cell BK240.out 4).trans rfl; have hfz50_0 := blk_frozen BK240.out 0; have hfz50_1 := blk_frozen BK240.out 1; have hfz50_2 := blk_frozen BK240.out 2; have hfz50_3 := blk_frozen BK240.out 3; have hfz50_4 := blk_frozen BK240.out 4; have hcz51_0 : w47.cell? ⟨gb228, 0, none⟩ = some (.slice A0_0 l0_0.length c0_0) := (blk_cell BK228.out 0).trans rfl; have hcz51_1 : w47.cell? ⟨gb228, 1, none⟩ = some (.int .i64 a0_1) := (blk_cell BK228.out 1).trans rfl; have hcz51_2 : w47.cell? ⟨gb228, 2, none⟩ = some (.string a0_2) := (blk_cell BK228.out 2).trans rfl; have hcz51_3 : w47.cell? ⟨gb228, 3, none⟩ = some (.int .u32 a0_3) := (blk_cell BK228.out 3).trans rfl; have hcz51_4 : w47.cell? ⟨gb228, 4, none⟩ = some (.bool a0_4) := (blk_cell BK228.out 4).trans rfl; have hfz51_0 := blk_frozen BK228.out 0; have hfz51_1 := blk_frozen BK228.out 1; have hfz51_2 := blk_frozen BK228.out 2; have hfz51_3 := blk_frozen BK228.out 3; have hfz51_4 := blk_frozen BK228.out 4) | ((with_reducible refine gate_callee (f := 13) rfl ?_); refine goesL_ (some 43) rfl rfl Tryd.func13 (by kernel_rfl) rfl #[.agg #[.slice Ao48 t233.length co48, .int .i64 t236, .string t237, .int .u32 t238, .bool t239], .string a1, .int .i64 2] rfl (by (try simp only [List.map_toArray, List.map_cons, List.map_nil]); first | done | rfl | (simp only [List.length_drop, List.length_take]; rfl)) ?_; (with_reducible refine (access_May.calls kj2 _ _ t233 t236 t237 t238 t239 a1 2 t241 _ ?side1 ?side2 ?side3 A34.out).mono ?_); (case side1 => refine (Kd.R_reads' (e := 37) (base := w.heap.size) (ok := fun k_ => True) (n := t233.length) (c := co48) ?_).2.2; exact (by (with_reducible repeat (first | apply Kd.R_alloc | apply Kd.R_drewN | apply Kd.R_drew)); exact (Kd.R_mono (Kd.R_far (p := ⟨gb240, 4, none⟩) (Kd.R_far (p := ⟨gb240, 3, none⟩) (Kd.R_far (p := ⟨gb240, 2, none⟩) (Kd.R_far (p := ⟨gb240, 1, none⟩) (Kd.R_far (p := ⟨gb240, 0, none⟩) (Kd.R_types HO235.out BK240.out (by decide)) (fun _ hk => hk.2) (.slice Ao48 t233.length co48)) (fun _ hk => hk.2) (.int .i64 t236)) (fun _ hk => hk.2) (.string t237)) (fun _ hk => hk.2) (.int .u32 t238)) (fun _ hk => hk.2) (.bool t239)) (fun _ h_ => h_.1)))); (case side2 => exact (Kd.R_reads' HO235.out).2.1); (case side3 => first | ((refine Glob.keep HG.out ?_); (repeat (first | (with_reducible first | exact HB.out | apply below_alloc | apply pw_below_drewN | apply below_drew1 | refine below_set ?_ GE228.out | refine below_set ?_ GE240.out) | exact HB.out)); done) | exact HG.out); rintro e w52 ⟨rfl, hb⟩; refine ⟨_, rfl, ?_⟩; have n0_ := Aside0.mk (Kd.R_below (by (with_reducible repeat (first | apply Kd.R_alloc | apply Kd.R_drewN | apply Kd.R_drew)); exact (Kd.R_mono (Kd.R_far (p := ⟨gb240, 4, none⟩) (Kd.R_far (p := ⟨gb240, 3, none⟩) (Kd.R_far (p := ⟨gb240, 2, none⟩) (Kd.R_far (p := ⟨gb240, 1, none⟩) (Kd.R_far (p := ⟨gb240, 0, none⟩) (Kd.R_types HO235.out BK240.out (by decide)) (fun _ hk => hk.2) (.slice Ao48 t233.length co48)) (fun _ hk => hk.2) (.int .i64 t236)) (fun _ hk => hk.2) (.string t237)) (fun _ hk => hk.2) (.int .u32 t238)) (fun _ hk => hk.2) (.bool t239)) (fun _ h_ => h_.1))) hb); have n1_ := Aside0.mk (blk_below (g := gb228) (o := .cells #[.slice A0_0 l0_0.length c0_0, .int .i64 a0_1, .string a0_2, .int .u32 a0_3, .bool a0_4] 27 (0, 0)) (by (with_reducible repeat (first | refine blk_drewN ?_ _ | refine blk_drew ?_ | refine blk_alloc ?_ _)); refine blk_far ?_ NB228_240.out _; (with_reducible repeat (first | refine blk_drewN ?_ _ | refine blk_drew ?_ | refine blk_alloc ?_ _)); refine blk_far ?_ NB228_240.out _; (with_reducible repeat (first | refine blk_drewN ?_ _ | refine blk_drew ?_ | refine blk_alloc ?_ _)); refine blk_far ?_ NB228_240.out _; (with_reducible repeat (first | refine blk_drewN ?_ _ | refine blk_drew ?_ | refine blk_alloc ?_ _)); refine blk_far ?_ NB228_240.out _; (with_reducible repeat (first | refine blk_drewN ?_ _ | refine blk_drew ?_ | refine blk_alloc ?_ _)); refine blk_far ?_ NB228_240.out _; (with_reducible repeat (first | refine blk_drewN ?_ _ | refine blk_drew ?_ | refine blk_alloc ?_ _)); exact BK228.out) hb); have n2_ := Aside0.mk (blk_below (g := gb240) (o := .cells #[.slice Ao48 t233.length co48, .int .i64 t236, .string t237, .int .u32 t238, .bool t239] 27 (0, 0)) (by (with_reducible repeat (first | refine blk_drewN ?_ _ | refine blk_drew ?_ | refine blk_alloc ?_ _)); refine blk_put (cs := #[.slice Ao48 t233.length co48, .int .i64 t236, .string t237, .int .u32 t238, .bool false]) ?_ 4 _ rfl; (with_reducible repeat (first | refine blk_drewN ?_ _ | refine blk_drew ?_ | refine blk_alloc ?_ _)); refine blk_put (cs := #[.slice Ao48 t233.length co48, .int .i64 t236, .string t237, .int .u32 0, .bool false]) ?_ 3 _ rfl; (with_reducible repeat (first | refine blk_drewN ?_ _ | refine blk_drew ?_ | refine blk_alloc ?_ _)); refine blk_put (cs := #[.slice Ao48 t233.length co48, .int .i64 t236, .string (⟨#[]⟩ : ByteArray), .int .u32 0, .bool false]) ?_ 2 _ rfl; (with_reducible repeat (first | refine blk_drewN ?_ _ | refine blk_drew ?_ | refine blk_alloc ?_ _)); refine blk_put (cs := #[.slice Ao48 t233.length co48, .int .i64 0, .string (⟨#[]⟩ : ByteArray), .int .u32 0, .bool false]) ?_ 1 _ rfl; (with_reducible repeat (first | refine blk_drewN ?_ _ | refine blk_drew ?_ | refine blk_alloc ?_ _)); refine blk_put (cs := #[.slice none 0 0, .int .i64 0, .string (⟨#[]⟩ : ByteArray), .int .u32 0, .bool false]) ?_ 0 _ rfl; (with_reducible repeat (first | refine blk_drewN ?_ _ | refine blk_drew ?_ | refine blk_alloc ?_ _)); exact BK240.out) hb); have n3_ := Aside0.mk (below_step (by repeat (first | (with_reducible first | exact HB.out | apply below_alloc | apply pw_below_drewN | apply below_drew1 | refine below_set ?_ GE228.out | refine below_set ?_ GE240.out) | exact HB.out)) hb); clear HO235; clear BK228; clear BK240; clear HB; have HO235 := n0_; have BK228 := n1_; have BK240 := n2_; have HB := n3_; clear n0_ n1_ n2_ n3_; (try clear hb); (try clear hb2); (try clear hk); (try clear hi); have hcz53_0 : w52.cell? ⟨gb240, 0, none⟩ = some (.slice Ao48 t233.length co48) := (blk_cell BK240.out 0).trans rfl; have hcz53_1 : w52.cell? ⟨gb240, 1, none⟩ = some (.int .i64 t236) := (blk_cell BK240.out 1).trans rfl; have hcz53_2 : w52.cell? ⟨gb240, 2, none⟩ = some (.string t237) := (blk_cell BK240.out 2).trans rfl; have hcz53_3 : w52.cell? ⟨gb240, 3, none⟩ = some (.int .u32 t238) := (blk_cell BK240.out 3).trans rfl; have hcz53_4 : w52.cell? ⟨gb240, 4, none⟩ = some (.bool t239) := (blk_cell BK240.out 4).trans rfl; have hfz53_0 := blk_frozen BK240.out 0; have hfz53_1 := blk_frozen BK240.out 1; have hfz53_2 := blk_frozen BK240.out 2; have hfz53_3 := blk_frozen BK240.out 3; have hfz53_4 := blk_frozen BK240.out 4) | (go_at_call 13; (with_reducible refine (access_May.calls kj2 _ _ t233 t236 t237 t238 t239 a1 3 false _ ?side1 ?side2 ?side3 A36.out).mono ?_); (case side1 => repeat (first | exact (Kd.R_reads' HO235.out).2.2 | (with_reducible refine Kd.C_alloc ?_ _) | (with_reducible refine Kd.C_drewN ?_ _) | (with_reducible refine Kd.C_drew ?_))); (case side2 => exact (Kd.R_reads' HO235.out).2.1); (case side3 => first | ((refine Glob.keep HG.out ?_); (repeat (first | (with_reducible first | exact HB.out | apply below_alloc | apply pw_below_drewN | apply below_drew1 | refine below_set ?_ GE228.out | refine below_set ?_ GE240.out) | exact HB.out)); done) | exact HG.out); rintro e w54 ⟨rfl, hb⟩; have n0_ := Aside0.mk (Kd.R_below (by (with_reducible repeat (first | apply Kd.R_alloc | apply Kd.R_drewN | apply Kd.R_drew)); exact HO235.out) hb); have n1_ := Aside0.mk (blk_below (g := gb228) (o := .cells #[.slice A0_0 l0_0.length c0_0, .int .i64 a0_1, .string a0_2, .int .u32 a0_3, .bool a0_4] 27 (0, 0)) (by (with_reducible repeat (first | refine blk_drewN ?_ _ | refine blk_drew ?_ | refine blk_alloc ?_ _)); exact BK228.out) hb); have n2_ := Aside0.mk (blk_below (g := gb240) (o := .cells #[.slice Ao48 t233.length co48, .int .i64 t236, .string t237, .int .u32 t238, .bool t239] 27 (0, 0)) (by (with_reducible repeat (first | refine blk_drewN ?_ _ | refine blk_drew ?_ | refine blk_alloc ?_ _)); exact BK240.out) hb); have n3_ := Aside0.mk (below_step (by repeat (first | (with_reducible first | exact HB.out | apply below_alloc | apply pw_below_drewN | apply below_drew1 | refine below_set ?_ GE228.out | refine below_set ?_ GE240.out) | exact HB.out)) hb); clear HO235; clear BK228; clear BK240; clear HB; have HO235 := n0_; have BK228 := n1_; have BK240 := n2_; have HB := n3_; clear n0_ n1_ n2_ n3_; (try clear hb); (try clear hb2); (try clear hk); (try clear hi); have hcz55_0 : w54.cell? ⟨gb240, 0, none⟩ = some (.slice Ao48 t233.length co48) := (blk_cell BK240.out 0).trans rfl; have hcz55_1 : w54.cell? ⟨gb240, 1, none⟩ = some (.int .i64 t236) := (blk_cell BK240.out 1).trans rfl; have hcz55_2 : w54.cell? ⟨gb240, 2, none⟩ = some (.string t237) := (blk_cell BK240.out 2).trans rfl; have hcz55_3 : w54.cell? ⟨gb240, 3, none⟩ = some (.int .u32 t238) := (blk_cell BK240.out 3).trans rfl; have hcz55_4 : w54.cell? ⟨gb240, 4, none⟩ = some (.bool t239) := (blk_cell BK240.out 4).trans rfl; have hfz55_0 := blk_frozen BK240.out 0; have hfz55_1 := blk_frozen BK240.out 1; have hfz55_2 := blk_frozen BK240.out 2; have hfz55_3 := blk_frozen BK240.out 3; have hfz55_4 := blk_frozen BK240.out 4) | (go_at_call 13; (with_reducible refine (access_May.calls kj2 _ _ t233 t236 t237 t238 t239 a1 4 false _ ?side1 ?side2 ?side3 A38.out).mono ?_); (case side1 => repeat (first | exact (Kd.R_reads' HO235.out).2.2 | (with_reducible refine Kd.C_alloc ?_ _) | (with_reducible refine Kd.C_drewN ?_ _) | (with_reducible refine Kd.C_drew ?_))); (case side2 => exact (Kd.R_reads' HO235.out).2.1); (case side3 => first | ((refine Glob.keep HG.out ?_); (repeat (first | (with_reducible first | exact HB.out | apply below_alloc | apply pw_below_drewN | apply below_drew1 | refine below_set ?_ GE228.out | refine below_set ?_ GE240.out) | exact HB.out)); done) | exact HG.out); rintro e w56 ⟨rfl, hb⟩; have n0_ := Aside0.mk (Kd.R_below (by (with_reducible repeat (first | apply Kd.R_alloc | apply Kd.R_drewN | apply Kd.R_drew)); exact HO235.out) hb); have n1_ := Aside0.mk (blk_below (g := gb228) (o := .cells #[.slice A0_0 l0_0.length c0_0, .int .i64 a0_1, .string a0_2, .int .u32 a0_3, .bool a0_4] 27 (0, 0)) (by (with_reducible repeat (first | refine blk_drewN ?_ _ | refine blk_drew ?_ | refine blk_alloc ?_ _)); exact BK228.out) hb); have n2_ := Aside0.mk (blk_below (g := gb240) (o := .cells #[.slice Ao48 t233.length co48, .int .i64 t236, .string t237, .int .u32 t238, .bool t239] 27 (0, 0)) (by (with_reducible repeat (first | refine blk_drewN ?_ _ | refine blk_drew ?_ | refine blk_alloc ?_ _)); exact BK240.out) hb); have n3_ := Aside0.mk (below_step (by repeat (first | (with_reducible first | exact HB.out | apply below_alloc | apply pw_below_drewN | apply below_drew1 | refine below_set ?_ GE228.out | refine below_set ?_ GE240.out) | exact HB.out)) hb); clear HO235; clear BK228; clear BK240; clear HB; have HO235 := n0_; have BK228 := n1_; have BK240 := n2_; have HB := n3_; clear n0_ n1_ n2_ n3_; (try clear hb); (try clear hb2); (try clear hk); (try clear hi); have hcz57_0 : w56.cell? ⟨gb240, 0, none⟩ = some (.slice Ao48 t233.length co48) := (blk_cell BK240.out 0).trans rfl; have hcz57_1 : w56.cell? ⟨gb240, 1, none⟩ = some (.int .i64 t236) := (blk_cell BK240.out 1).trans rfl; have hcz57_2 : w56.cell? ⟨gb240, 2, none⟩ = some (.string t237) := (blk_cell BK240.out 2).trans rfl; have hcz57_3 : w56.cell? ⟨gb240, 3, none⟩ = some (.int .u32 t238) := (blk_cell BK240.out 3).trans rfl; have hcz57_4 : w56.cell? ⟨gb240, 4, none⟩ = some (.bool t239) := (blk_cell BK240.out 4).trans rfl; have hfz57_0 := blk_frozen BK240.out 0; have hfz57_1 := blk_frozen BK240.out 1; have hfz57_2 := blk_frozen BK240.out 2; have hfz57_3 := blk_frozen BK240.out 3; have hfz57_4 := blk_frozen BK240.out 4) | (go_at_call 13; (with_reducible refine (access_May.calls kj2 _ _ t233 t236 t237 t238 t239 a1 8 true _ ?side1 ?side2 ?side3 A40.out).mono ?_); (case side1 => repeat (first | exact (Kd.R_reads' HO235.out).2.2 | (with_reducible refine Kd.C_alloc ?_ _) | (with_reducible refine Kd.C_drewN ?_ _) | (with_reducible refine Kd.C_drew ?_))); (case side2 => exact (Kd.R_reads' HO235.out).2.1); (case side3 => first | ((refine Glob.keep HG.out ?_); (repeat (first | (with_reducible first | exact HB.out | apply below_alloc | apply pw_below_drewN | apply below_drew1 | refine below_set ?_ GE228.out | refine below_set ?_ GE240.out) | exact HB.out)); done) | exact HG.out); rintro e w58 ⟨rfl, hb⟩; have n0_ := Aside0.mk (Kd.R_below (by (with_reducible repeat (first | apply Kd.R_alloc | apply Kd.R_drewN | apply Kd.R_drew)); exact HO235.out) hb); have n1_ := Aside0.mk (blk_below (g := gb228) (o := .cells #[.slice A0_0 l0_0.length c0_0, .int .i64 a0_1, .string a0_2, .int .u32 a0_3, .bool a0_4] 27 (0, 0)) (by (with_reducible repeat (first | refine blk_drewN ?_ _ | refine blk_drew ?_ | refine blk_alloc ?_ _)); exact BK228.out) hb); have n2_ := Aside0.mk (blk_below (g := gb240) (o := .cells #[.slice Ao48 t233.length co48, .int .i64 t236, .string t237, .int .u32 t238, .bool t239] 27 (0, 0)) (by (with_reducible repeat (first | refine blk_drewN ?_ _ | refine blk_drew ?_ | refine blk_alloc ?_ _)); exact BK240.out) hb); have n3_ := Aside0.mk (below_step (by repeat (first | (with_reducible first | exact HB.out | apply below_alloc | apply pw_below_drewN | apply below_drew1 | refine below_set ?_ GE228.out | refine below_set ?_ GE240.out) | exact HB.out)) hb); clear HO235; clear BK228; clear BK240; clear HB; have HO235 := n0_; have BK228 := n1_; have BK240 := n2_; have HB := n3_; clear n0_ n1_ n2_ n3_; (try clear hb); (try clear hb2); (try clear hk); (try clear hi); have hcz59_0 : w58.cell? ⟨gb240, 0, none⟩ = some (.slice Ao48 t233.length co48) := (blk_cell BK240.out 0).trans rfl; have hcz59_1 : w58.cell? ⟨gb240, 1, none⟩ = some (.int .i64 t236) := (blk_cell BK240.out 1).trans rfl; have hcz59_2 : w58.cell? ⟨gb240, 2, none⟩ = some (.string t237) := (blk_cell BK240.out 2).trans rfl; have hcz59_3 : w58.cell? ⟨gb240, 3, none⟩ = some (.int .u32 t238) := (blk_cell BK240.out 3).trans rfl; have hcz59_4 : w58.cell? ⟨gb240, 4, none⟩ = some (.bool t239) := (blk_cell BK240.out 4).trans rfl; have hfz59_0 := blk_frozen BK240.out 0; have hfz59_1 := blk_frozen BK240.out 1; have hfz59_2 := blk_frozen BK240.out 2; have hfz59_3 := blk_frozen BK240.out 3; have hfz59_4 := blk_frozen BK240.out 4) | (go_at_call 13; (with_reducible refine (access_May.calls kj2 _ _ t233 t236 t237 t238 t239 a1 1 true _ ?side1 ?side2 ?side3 A42.out).mono ?_); (case side1 => repeat (first | exact (Kd.R_reads' HO235.out).2.2 | (with_reducible refine Kd.C_alloc ?_ _) | (with_reducible refine Kd.C_drewN ?_ _) | (with_reducible refine Kd.C_drew ?_))); (case side2 => exact (Kd.R_reads' HO235.out).2.1); (case side3 => first | ((refine Glob.keep HG.out ?_); (repeat (first | (with_reducible first | exact HB.out | apply below_alloc | apply pw_below_drewN | apply below_drew1 | refine below_set ?_ GE228.out | refine below_set ?_ GE240.out) | exact HB.out)); done) | exact HG.out); rintro e w60 ⟨rfl, hb⟩; have n0_ := Aside0.mk (Kd.R_below (by (with_reducible repeat (first | apply Kd.R_alloc | apply Kd.R_drewN | apply Kd.R_drew)); exact HO235.out) hb); have n1_ := Aside0.mk (blk_below (g := gb228) (o := .cells #[.slice A0_0 l0_0.length c0_0, .int .i64 a0_1, .string a0_2, .int .u32 a0_3, .bool a0_4] 27 (0, 0)) (by (with_reducible repeat (first | refine blk_drewN ?_ _ | refine blk_drew ?_ | refine blk_alloc ?_ _)); exact BK228.out) hb); have n2_ := Aside0.mk (blk_below (g := gb240) (o := .cells #[.slice Ao48 t233.length co48, .int .i64 t236, .string t237, .int .u32 t238, .bool t239] 27 (0, 0)) (by (with_reducible repeat (first | refine blk_drewN ?_ _ | refine blk_drew ?_ | refine blk_alloc ?_ _)); exact BK240.out) hb); have n3_ := Aside0.mk (below_step (by repeat (first | (with_reducible first | exact HB.out | apply below_alloc | apply pw_below_drewN | apply below_drew1 | refine below_set ?_ GE228.out | refine below_set ?_ GE240.out) | exact HB.out)) hb); clear HO235; clear BK228; clear BK240; clear HB; have HO235 := n0_; have BK228 := n1_; have BK240 := n2_; have HB := n3_; clear n0_ n1_ n2_ n3_; (try clear hb); (try clear hb2); (try clear hk); (try clear hi)) | (go_at_call 9; (with_reducible refine (headgatelaw10_wakes.calls kj2  t246 _ ?side1 A44.out).mono ?_); (case side1 => first | ((refine Glob.keep HG.out ?_); (repeat (first | (with_reducible first | exact HB.out | apply below_alloc | apply pw_below_drewN | apply below_drew1 | refine below_set ?_ GE228.out | refine below_set ?_ GE240.out) | exact HB.out)); done) | exact HG.out); rintro e w61 ⟨rfl, hb⟩; have n0_ := Aside0.mk (Kd.R_below (by (with_reducible repeat (first | apply Kd.R_alloc | apply Kd.R_drewN | apply Kd.R_drew)); exact HO235.out) hb); have n1_ := Aside0.mk (blk_below (g := gb228) (o := .cells #[.slice A0_0 l0_0.length c0_0, .int .i64 a0_1, .string a0_2, .int .u32 a0_3, .bool a0_4] 27 (0, 0)) (by (with_reducible repeat (first | refine blk_drewN ?_ _ | refine blk_drew ?_ | refine blk_alloc ?_ _)); exact BK228.out) hb); have n2_ := Aside0.mk (blk_below (g := gb240) (o := .cells #[.slice Ao48 t233.length co48, .int .i64 t236, .string t237, .int .u32 t238, .bool t239] 27 (0, 0)) (by (with_reducible repeat (first | refine blk_drewN ?_ _ | refine blk_drew ?_ | refine blk_alloc ?_ _)); exact BK240.out) hb); have n3_ := Aside0.mk (below_step (by repeat (first | (with_reducible first | exact HB.out | apply below_alloc | apply pw_below_drewN | apply below_drew1 | refine below_set ?_ GE228.out | refine below_set ?_ GE240.out) | exact HB.out)) hb); clear HO235; clear BK228; clear BK240; clear HB; have HO235 := n0_; have BK228 := n1_; have BK240 := n2_; have HB := n3_; clear n0_ n1_ n2_ n3_; (try clear hb); (try clear hb2); (try clear hk); (try clear hi)))
                  go_ret
                  exact ⟨by first | rfl | (simp [errW_none, errW_some] <;> rfl) | (simp [*, errW_none, errW_some] <;> rfl), by repeat (first | (with_reducible first | exact HB.out | apply below_alloc | apply pw_below_drewN | apply below_drew1 | refine below_set ?_ GE228.out | refine below_set ?_ GE240.out) | exact HB.out)⟩
                · replace c43 := Bool.eq_false_iff.mpr c43
                  subst c43
                  have H1 : (some false) = some r := by rw [if_neg (show ¬ (false = true) by decide)] at H; exact H
                  clear H
                  have H := H1
                  clear H1
                  exact absurd ((Option.some.inj H).trans HT0.out) (by decide)
              · replace c41 := Bool.eq_false_iff.mpr c41
                subst c41
                have H1 : (some false) = some r := by rw [if_neg (show ¬ (false = true) by decide)] at H; exact H
                clear H
                have H := H1
                clear H1
                exact absurd ((Option.some.inj H).trans HT0.out) (by decide)
        · rw [if_neg c35] at H
          have c35b0 : (t241 == ((Int.tmod a0_1 2) == 1)) = false := by simpa using c35
          (try (have c35b1 : decide (t241 = ((Int.tmod a0_1 2) == 1)) = false := by simpa using c35))
          (try (have c35b2 : (t241 == ((Int.tmod a0_1 2) == 1)) = false := by simpa using c35))
          (try (have c35b3 : ¬ (t241 = ((Int.tmod a0_1 2) == 1)) := by simpa using c35))
          clear c35
          exact absurd ((Option.some.inj H).trans HT0.out) (by decide)

end Go.Proofs.YtflbeoejkbnhmaaDoor.P
