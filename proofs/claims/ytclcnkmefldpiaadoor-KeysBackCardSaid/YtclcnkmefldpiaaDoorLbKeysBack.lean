-- written by this session's patched copy of the printer (wip/tools/patch_print.py); Lean checks it
import Derived.Test.YtclcnkmefldpiaaDoorXbKeysBack
namespace Go.Proofs.YtclcnkmefldpiaaDoor.P
open Go.RowKit Go.Proofs.YtclcnkmefldpiaaDoorW.PrintWords Go.Proofs.YtclcnkmefldpiaaDoorW.PrintLast Go.Proofs.YtclcnkmefldpiaaDoorW.PrintMore
attribute [local go_sem] max2_int min2_int max_two min_two max_three min_three max_four min_four   -- for this text's walks alone
set_option linter.unusedVariables false
set_option linter.unusedSimpArgs false
set_option linter.unnecessarySimpa false

/-! ### headgatelaw21_KeysBack: function 7 -/
mutual
def headgatelaw21_KeysBack.j0 : Nat → List (S45) → ByteArray → Bool → Option (Bool)
 | 0, _, _, _ => none
 | k + 1, x0, x1, x19 => if x19 = true then ((headgatelaw21_wakes.f).bind fun t492 => (some t492)) else ((headgatelaw21_few.f x0).bind fun t493 => ((keys_Text.f t493).bind fun bt496 => (if bt496.2 = 0 then ((keys_Parse.f k bt496.1).bind fun bt498 => (if bt498.2 = 0 then ((headgateref21_Pairs.f k bt498.1 x0).bind fun t502 => (if t502 = true then (headgatelaw21_KeysBack.j1 k x1) else (some false))) else (some false))) else (headgatelaw21_KeysBack.j1 k x1))))
def headgatelaw21_KeysBack.j1 : Nat → ByteArray → Option (Bool)
 | 0, _ => none
 | k + 1, x1 => (keys_Parse.f k x1).bind fun bt503 => (if bt503.2 = 0 then ((keys_Text.f bt503.1).bind fun bt507 => (if bt507.2 = 0 then (if bt507.1.toList = x1.toList then ((headgatelaw21_wakes.f).bind fun t509 => (some t509)) else (some false)) else (some false))) else (if bt503.2 = 210 then (if (bt503.1.length : Int) = 0 then ((headgatelaw21_wakes.f).bind fun t510 => (some t510)) else (some false)) else (some false)))
end
def headgatelaw21_KeysBack.f (k : Nat) (l0 : List (S45)) (a1 : ByteArray) : Option (Bool) := (headgatelaw21_Large.f k l0).bind fun t491 => (if t491 = true then (headgatelaw21_KeysBack.j0 k l0 a1 true) else (headgatelaw21_KeysBack.j0 k l0 a1 (decide ((a1.size : Int) > 20000))))
theorem headgatelaw21_KeysBack.mono_l : ∀ k, (∀ y0 y1 y2, LeO (headgatelaw21_KeysBack.j0 k y0 y1 y2) (headgatelaw21_KeysBack.j0 (k + 1) y0 y1 y2)) ∧ (∀ y0, LeO (headgatelaw21_KeysBack.j1 k y0) (headgatelaw21_KeysBack.j1 (k + 1) y0))
 | 0 => ⟨fun _ _ _ r h => by simp [headgatelaw21_KeysBack.j0] at h, fun _ r h => by simp [headgatelaw21_KeysBack.j1] at h⟩
 | k + 1 => by
  obtain ⟨ih0, ih1⟩ := headgatelaw21_KeysBack.mono_l k
  refine ⟨?_, ?_⟩
  ·intro y0 y1 y2
   unfold headgatelaw21_KeysBack.j0
   repeat' first
   | (with_reducible exact ih0 _ _ _)
   | (with_reducible exact ih1 _)
   | (with_reducible exact headgatelaw21_Large.mono _ _)
   | (with_reducible exact headgateref21_Pairs.mono _ _ _)
   | (with_reducible exact keys_Parse.mono _ _)
   | (with_reducible exact LeO.refl _)
   | (with_reducible exact LeO.none _)
   | (with_reducible refine LeO.ite ?_ ?_)
   | (with_reducible refine LeO.bind ?_ (fun _ => ?_))
   | exact ih0 _ _ _
   | exact ih1 _
   | exact headgatelaw21_Large.mono _ _
   | exact headgateref21_Pairs.mono _ _ _
   | exact keys_Parse.mono _ _
   | exact LeO.none _
   | refine LeO.ite ?_ ?_
   | refine LeO.bind ?_ (fun _ => ?_)
  ·intro y0
   unfold headgatelaw21_KeysBack.j1
   repeat' first
   | (with_reducible exact ih0 _ _ _)
   | (with_reducible exact ih1 _)
   | (with_reducible exact headgatelaw21_Large.mono _ _)
   | (with_reducible exact headgateref21_Pairs.mono _ _ _)
   | (with_reducible exact keys_Parse.mono _ _)
   | (with_reducible exact LeO.refl _)
   | (with_reducible exact LeO.none _)
   | (with_reducible refine LeO.ite ?_ ?_)
   | (with_reducible refine LeO.bind ?_ (fun _ => ?_))
   | exact ih0 _ _ _
   | exact ih1 _
   | exact headgatelaw21_Large.mono _ _
   | exact headgateref21_Pairs.mono _ _ _
   | exact keys_Parse.mono _ _
   | exact LeO.none _
   | refine LeO.ite ?_ ?_
   | refine LeO.bind ?_ (fun _ => ?_)
theorem headgatelaw21_KeysBack.mono : ∀ a0 a1 k, LeO (headgatelaw21_KeysBack.f k a0 a1) (headgatelaw21_KeysBack.f (k + 1) a0 a1) := by
 intro a0 a1 k
 obtain ⟨ih0, ih1⟩ := headgatelaw21_KeysBack.mono_l k
 unfold headgatelaw21_KeysBack.f
 repeat' first
   | (with_reducible exact ih0 _ _ _)
   | (with_reducible exact ih1 _)
   | (with_reducible exact headgatelaw21_Large.mono _ _)
   | (with_reducible exact headgateref21_Pairs.mono _ _ _)
   | (with_reducible exact keys_Parse.mono _ _)
   | (with_reducible exact LeO.refl _)
   | (with_reducible exact LeO.none _)
   | (with_reducible refine LeO.ite ?_ ?_)
   | (with_reducible refine LeO.bind ?_ (fun _ => ?_))
   | exact ih0 _ _ _
   | exact ih1 _
   | exact headgatelaw21_Large.mono _ _
   | exact headgateref21_Pairs.mono _ _ _
   | exact keys_Parse.mono _ _
   | exact LeO.none _
   | refine LeO.ite ?_ ?_
   | refine LeO.bind ?_ (fun _ => ?_)
set_option maxHeartbeats 8000000 in
set_option maxRecDepth 100000 in
theorem headgatelaw21_KeysBack.calls (k : Nat) (A0 : Option Addr) (c0 : Nat) (l0 : List (S45)) (a1 : ByteArray) (r : Bool) (w : World) (hr0 : Kd.C k45 w A0 l0.length l0) (hc0 : l0.length ≤ c0) (hG : Glob w) (hT : r = true) (h : headgatelaw21_KeysBack.f k l0 a1 = some r) :
  Calls Tryd.prog 7 #[.slice A0 l0.length c0, .string a1] w fun e w' => e = .returned (.bool r) ∧ Below w.heap.size w w' := by
 have HT0 := Aside0.mk hT
 clear hT
 have HG := Aside0.mk hG
 clear hG
 have HR0 := Aside0.mk hr0
 have HC0 := Aside0.mk hc0
 clear hr0 hc0
 have HB := Aside0.mk (Below.refl w.heap.size w)
 have H : ((headgatelaw21_Large.f k l0).bind fun t491 => (if t491 = true then (headgatelaw21_KeysBack.j0 k l0 a1 true) else (headgatelaw21_KeysBack.j0 k l0 a1 (decide ((a1.size : Int) > 20000))))) = some r := h
 clear h
 have HC3 := Aside0.mk H
 clear H
 go_enter Tryd.func7, Tryd.ntmps7
 go_upto_region 1 with (fail)
 go_cut [19] (fun v19 wc => ∃ (kq : Nat) (x19_2 : Bool), v19 = .bool x19_2 ∧ Aside0 (headgatelaw21_KeysBack.j0 kq l0 a1 x19_2 = some r) ∧ Aside0 (kq ≤ k) ∧ Aside0 (Below w.heap.size w wc))
 case first =>
  have H := HC3.out
  clear HC3
  replace H := Option.bind_eq_some_iff.mp H
  obtain ⟨t491, A40, H⟩ := H
  try dsimp only at H
  have A4 := Aside0.mk A40
  clear A40
  by_cases c5 : t491 = true
  ·subst c5
   have H1 := H
   rw [if_pos rfl] at H1
   clear H
   have H := H1
   clear H1
   have H' := Aside0.mk H
   clear H
   go_wp2_with (first | ((with_reducible refine gate_callee (f := 8) rfl ?_); refine goesL_ (some 14) rfl rfl Tryd.func8 (by kernel_rfl) rfl #[.slice A0 l0.length c0] rfl (by (try simp only [List.map_toArray, List.map_cons, List.map_nil]); first | done | rfl | (simp only [List.length_drop, List.length_take]; rfl)) ?_; (with_reducible refine (headgatelaw21_Large.calls k _ _ l0 true _ ?side1 ?side2 A4.out).mono ?_); (case side1 => repeat (first | exact (Kd.C_below HR0.out HB.out) | (with_reducible refine Kd.C_alloc ?_ _) | (with_reducible refine Kd.C_drewN ?_ _) | (with_reducible refine Kd.C_drew ?_))); (case side2 => exact HC0.out); rintro e w' ⟨rfl, ⟨nd, rfl⟩⟩; refine ⟨_, rfl, ?_⟩))
   go_meet
   case rel => exact ⟨_, (true), (by first | rfl | (simp; done) | (simp [*]; done)), H', ⟨by first | omega | exact Nat.le_refl _⟩, ⟨hb_ HB⟩⟩
  replace c5 := Bool.eq_false_iff.mpr c5
  subst c5
  have H1 := H
  rw [if_neg (show ¬ (false = true) by decide)] at H1
  clear H
  have H := H1
  clear H1
  have H' := Aside0.mk H
  clear H
  go_wp2_with (first | ((with_reducible refine gate_callee (f := 8) rfl ?_); refine goesL_ (some 14) rfl rfl Tryd.func8 (by kernel_rfl) rfl #[.slice A0 l0.length c0] rfl (by (try simp only [List.map_toArray, List.map_cons, List.map_nil]); first | done | rfl | (simp only [List.length_drop, List.length_take]; rfl)) ?_; (with_reducible refine (headgatelaw21_Large.calls k _ _ l0 false _ ?side1 ?side2 A4.out).mono ?_); (case side1 => repeat (first | exact (Kd.C_below HR0.out HB.out) | (with_reducible refine Kd.C_alloc ?_ _) | (with_reducible refine Kd.C_drewN ?_ _) | (with_reducible refine Kd.C_drew ?_))); (case side2 => exact HC0.out); rintro e w' ⟨rfl, ⟨nd, rfl⟩⟩; refine ⟨_, rfl, ?_⟩))
  go_meet
  case rel => exact ⟨_, (decide ((a1.size : Int) > 20000)), (by first | rfl | (simp; done) | (simp [*]; done)), H', ⟨by first | omega | exact Nat.le_refl _⟩, ⟨hb_ HB⟩⟩
 case rest =>
  clear HC3
  try clear p2
  try clear c5
  obtain ⟨kq, x19_2, rfl, HA, HJ2, HB⟩ := hcut
  cases kq with
  | zero => exact absurd HA.out (by simp [headgatelaw21_KeysBack.j0])
  | succ kj2 =>
   have H := HA.out
   clear HA
   simp only [headgatelaw21_KeysBack.j0] at H
   by_cases c6 : x19_2 = true
   ·subst c6
    have H1 := H
    rw [if_pos rfl] at H1
    clear H
    have H := H1
    clear H1
    replace H := Option.bind_eq_some_iff.mp H
    obtain ⟨t492, A70, H⟩ := H
    try dsimp only at H
    have A7 := Aside0.mk A70
    clear A70
    obtain rfl := Option.some.inj H
    go_wp2_with (first | ((with_reducible refine gate_callee (f := 9) rfl ?_); refine goesL_ (some 20) rfl rfl Tryd.func9 (by kernel_rfl) rfl #[] rfl (by (try simp only [List.map_toArray, List.map_cons, List.map_nil]); first | done | rfl | (simp only [List.length_drop, List.length_take]; rfl)) ?_; (with_reducible refine (headgatelaw21_wakes.calls  t492 _ ?side1 A7.out).mono ?_); (case side1 => first | ((refine Glob.keep HG.out ?_); (repeat (first | (with_reducible first | exact HB.out | apply below_alloc | apply pw_below_drewN | apply below_drew1) | exact HB.out)); done) | exact HG.out); rintro e w8 ⟨rfl, hb⟩; refine ⟨_, rfl, ?_⟩; have n0_ := Aside0.mk (below_step (hb_ HB) hb); clear HB; have HB := n0_; clear n0_; (try clear hb); (try clear hb2); (try clear hk); (try clear hi)))
    go_ret
    exact ⟨by first | rfl | (simp [errW_none, errW_some] <;> rfl) | (simp [*, errW_none, errW_some] <;> rfl) | (simp [bt, *]; done) | (unfold bt; simp [*]; done), by repeat (first | (with_reducible first | exact HB.out | apply below_alloc | apply pw_below_drewN | apply below_drew1) | exact HB.out)⟩
   replace c6 := Bool.eq_false_iff.mpr c6
   subst c6
   have H1 := H
   rw [if_neg (show ¬ (false = true) by decide)] at H1
   clear H
   have H := H1
   clear H1
   replace H := Option.bind_eq_some_iff.mp H
   obtain ⟨t493, A90, H⟩ := H
   try dsimp only at H
   have A9 := Aside0.mk A90
   clear A90
   replace H := Option.bind_eq_some_iff.mp H
   obtain ⟨⟨t496, t497⟩, A100, H⟩ := H
   try dsimp only at H
   have A10 := Aside0.mk A100
   clear A100
   have HC11 := Aside0.mk H
   clear H
   go_upto_if 28 with (first | ((with_reducible refine gate_callee (f := 10) rfl ?_); refine goesL_ (some 23) rfl rfl Tryd.func10 (by kernel_rfl) rfl #[.slice A0 l0.length c0] rfl (by (try simp only [List.map_toArray, List.map_cons, List.map_nil]); first | done | rfl | (simp only [List.length_drop, List.length_take]; rfl)) ?_; (with_reducible refine (headgatelaw21_few.calls _ _ l0 t493 _ ?side1 ?side2 A9.out).mono ?_); (case side1 => repeat (first | exact (Kd.C_below HR0.out HB.out) | (with_reducible refine Kd.C_alloc ?_ _) | (with_reducible refine Kd.C_drewN ?_ _) | (with_reducible refine Kd.C_drew ?_))); (case side2 => exact HC0.out); rintro e w12 ⟨v494, rfl, ho0, hb⟩; refine ⟨_, rfl, ?_⟩; have n0_ := Aside0.mk (Kd.R_lower ho0 (below_size (hb_ HB))); have n1_ := Aside0.mk (below_step (hb_ HB) hb); clear HB; have HO495 := n0_; have HB := n1_; clear n0_ n1_; (try clear hb); (try clear hb2); (try clear hk); (try clear hi); (try clear ho0); obtain ⟨Ao13, co13, eo13⟩ := Kd.R_slice HO495.out; subst eo13) | ((with_reducible refine gate_callee (f := 18) rfl ?_); refine goesL_ (some 24) rfl rfl Tryd.func18 (by kernel_rfl) rfl #[.slice Ao13 t493.length co13] rfl (by (try simp only [List.map_toArray, List.map_cons, List.map_nil]); first | done | rfl | (simp only [List.length_drop, List.length_take]; rfl)) ?_; (with_reducible refine (keys_Text.calls _ _ t493 t496 t497 _ ?side1 ?side2 A10.out).mono ?_); (case side1 => repeat (first | exact (Kd.R_reads' HO495.out).2.2 | (with_reducible refine Kd.C_alloc ?_ _) | (with_reducible refine Kd.C_drewN ?_ _) | (with_reducible refine Kd.C_drew ?_))); (case side2 => exact (Kd.R_reads' HO495.out).2.1); rintro e w14 ⟨rfl, hb⟩; refine ⟨_, rfl, ?_⟩; have n0_ := Aside0.mk (Kd.R_below (by (with_reducible repeat (first | apply Kd.R_alloc | apply Kd.R_drewN | apply Kd.R_drew)); exact HO495.out) hb); have n1_ := Aside0.mk (below_step (hb_ HB) hb); clear HO495; clear HB; have HO495 := n0_; have HB := n1_; clear n0_ n1_; (try clear hb); (try clear hb2); (try clear hk); (try clear hi)))
   (try simp only [Act.put, la_, lb_, lc_])
   go_cut [] (fun wc => ∃ (kq : Nat), Aside0 (headgatelaw21_KeysBack.j1 kq a1 = some r) ∧ Aside0 (kq ≤ kj2) ∧ Aside0 (Below w.heap.size w wc))
   case first =>
    have H := HC11.out
    clear HC11
    refine neg_first (p := (t497 = 0)) (fun c15 => ?_) (fun c15 => ?_)
    ·rw [if_neg c15] at H
     have c15b0 : (t497 == 0) = false := beq_eq_false_iff_ne.mpr c15
     have c15b1 : (t497 != 0) = true := bne_iff_ne.mpr c15
     (first | rw [c15b0] | (simp only [i64_w, i32_w]; rw [c15b0]) | skip)
     have H' := Aside0.mk H
     clear H
     go_wp2
     go_meet
     case rel => exact ⟨_, H', ⟨by have := HJ2.out; first | omega | exact Nat.le_refl _⟩, ⟨hb_ HB⟩⟩
    rw [if_pos c15] at H
    have c15b0 : (t497 == 0) = true := beq_iff_eq.mpr c15
    have c15b1 : (t497 != 0) = false := bne_eq_false_iff_eq.mpr c15
    clear c15
    (first | rw [c15b0] | (simp only [i64_w, i32_w]; rw [c15b0]) | skip)
    replace H := Option.bind_eq_some_iff.mp H
    obtain ⟨⟨t498, t499⟩, A160, H⟩ := H
    try dsimp only at H
    have A16 := Aside0.mk A160
    clear A160
    refine neg_first (p := (t499 = 0)) (fun c17 => ?_) (fun c17 => ?_)
    ·rw [if_neg c17] at H
     have c17b0 : (t499 == 0) = false := beq_eq_false_iff_ne.mpr c17
     have c17b1 : (t499 != 0) = true := bne_iff_ne.mpr c17
     exact absurd ((Option.some.inj H).trans HT0.out) (by decide)
    rw [if_pos c17] at H
    have c17b0 : (t499 == 0) = true := beq_iff_eq.mpr c17
    have c17b1 : (t499 != 0) = false := bne_eq_false_iff_eq.mpr c17
    clear c17
    replace H := Option.bind_eq_some_iff.mp H
    obtain ⟨t502, A180, H⟩ := H
    try dsimp only at H
    have A18 := Aside0.mk A180
    clear A180
    refine neg_first (p := (t502 = true)) (fun c19 => ?_) (fun c19 => ?_)
    ·replace c19 := Bool.eq_false_iff.mpr c19
     subst c19
     have H1 := H
     rw [if_neg (show ¬ (false = true) by decide)] at H1
     clear H
     have H := H1
     clear H1
     exact absurd ((Option.some.inj H).trans HT0.out) (by decide)
    subst c19
    have H1 := H
    rw [if_pos rfl] at H1
    clear H
    have H := H1
    clear H1
    have H' := Aside0.mk H
    clear H
    go_wp2_with (first | ((with_reducible refine gate_callee (f := 20) rfl ?_); refine goesL_ (some 31) rfl rfl Tryd.func20 (by kernel_rfl) rfl #[.string t496] rfl (by (try simp only [List.map_toArray, List.map_cons, List.map_nil]); first | done | rfl | (simp only [List.length_drop, List.length_take]; rfl)) ?_; (with_reducible refine (keys_Parse.calls kj2 t496 t498 t499 _ A16.out).mono ?_); rintro e w20 ⟨v500, rfl, ho0, hb⟩; refine ⟨_, rfl, ?_⟩; have n0_ := Aside0.mk (Kd.R_elder' (by (with_reducible repeat (first | apply Kd.R_alloc | apply Kd.R_drewN | apply Kd.R_drew)); exact HO495.out) (Kd.R_base ho0) hb); have n1_ := Aside0.mk (Kd.R_lower (Kd.R_new' ho0 (Kd.R_lt (by (with_reducible repeat (first | apply Kd.R_alloc | apply Kd.R_drewN | apply Kd.R_drew)); exact HO495.out))) (below_size (hb_ HB))); have n2_ := Aside0.mk (below_step (hb_ HB) hb); clear HO495; clear HB; have HO495 := n0_; have HO501 := n1_; have HB := n2_; clear n0_ n1_ n2_; (try clear hb); (try clear hb2); (try clear hk); (try clear hi); (try clear ho0); obtain ⟨Ao21, co21, eo21⟩ := Kd.R_slice HO501.out; subst eo21) | (go_at_call 15; (with_reducible refine (headgateref21_Pairs.calls kj2 _ _ t498 _ _ l0 true _ ?side1 ?side2 ?side3 ?side4 A18.out).mono ?_); (case side1 => repeat (first | exact (Kd.R_reads' HO501.out).2.2 | (with_reducible refine Kd.C_alloc ?_ _) | (with_reducible refine Kd.C_drewN ?_ _) | (with_reducible refine Kd.C_drew ?_))); (case side2 => exact (Kd.R_reads' HO501.out).2.1); (case side3 => repeat (first | exact (Kd.C_below HR0.out HB.out) | (with_reducible refine Kd.C_alloc ?_ _) | (with_reducible refine Kd.C_drewN ?_ _) | (with_reducible refine Kd.C_drew ?_))); (case side4 => exact HC0.out); rintro e w' ⟨rfl, ⟨nd, rfl⟩⟩))
    go_meet
    case rel => exact ⟨_, H', ⟨by have := HJ2.out; first | omega | exact Nat.le_refl _⟩, ⟨hb_ HB⟩⟩
   case rest =>
    clear HC11
    try clear c1
    try clear c2
    try clear p2
    try clear c5
    try clear c6
    try clear c7
    try clear c8
    try clear c9
    try clear c10
    try clear c15
    try clear c15b0
    try clear c15b1
    try clear c17
    try clear c17b0
    try clear c17b1
    try clear c18
    try clear c19
    try clear c20
    try clear p2
    obtain ⟨kq, HA, HJ10, HB⟩ := hcut
    cases kq with
    | zero => exact absurd HA.out (by simp [headgatelaw21_KeysBack.j1])
    | succ kj10 =>
     have H := HA.out
     clear HA
     simp only [headgatelaw21_KeysBack.j1] at H
     replace H := Option.bind_eq_some_iff.mp H
     obtain ⟨⟨t503, t504⟩, A220, H⟩ := H
     try dsimp only at H
     have A22 := Aside0.mk A220
     clear A220
     refine neg_first (p := (t504 = 0)) (fun c23 => ?_) (fun c23 => ?_)
     ·rw [if_neg c23] at H
      have c23b0 : (t504 == 0) = false := beq_eq_false_iff_ne.mpr c23
      have c23b1 : (t504 != 0) = true := bne_iff_ne.mpr c23
      refine neg_first (p := (t504 = 210)) (fun c32 => ?_) (fun c32 => ?_)
      ·rw [if_neg c32] at H
       have c32b0 : (t504 == 210) = false := beq_eq_false_iff_ne.mpr c32
       have c32b1 : (t504 != 210) = true := bne_iff_ne.mpr c32
       exact absurd ((Option.some.inj H).trans HT0.out) (by decide)

      rw [if_pos c32] at H
      have c32b0 : (t504 == 210) = true := beq_iff_eq.mpr c32
      have c32b1 : (t504 != 210) = false := bne_eq_false_iff_eq.mpr c32
      clear c32
      refine neg_first (p := ((t503.length : Int) = 0)) (fun c33 => ?_) (fun c33 => ?_)
      ·rw [if_neg c33] at H
       have c33b0 : ((t503.length : Int) == 0) = false := beq_eq_false_iff_ne.mpr c33
       have c33b1 : ((t503.length : Int) != 0) = true := bne_iff_ne.mpr c33
       have c33b2 : ¬ (t503 = []) := fun h_ => c33 (by rw [h_]; rfl)
       exact absurd ((Option.some.inj H).trans HT0.out) (by decide)
      rw [if_pos c33] at H
      have c33b0 : ((t503.length : Int) == 0) = true := beq_iff_eq.mpr c33
      have c33b1 : ((t503.length : Int) != 0) = false := bne_eq_false_iff_eq.mpr c33
      clear c33
      replace H := Option.bind_eq_some_iff.mp H
      obtain ⟨t510, A340, H⟩ := H
      try dsimp only at H
      have A34 := Aside0.mk A340
      clear A340
      obtain rfl := Option.some.inj H
      go_wp2_with (first | ((with_reducible refine gate_callee (f := 20) rfl ?_); refine goesL_ (some 44) rfl rfl Tryd.func20 (by kernel_rfl) rfl #[.string a1] rfl (by (try simp only [List.map_toArray, List.map_cons, List.map_nil]); first | done | rfl | (simp only [List.length_drop, List.length_take]; rfl)) ?_; (with_reducible refine (keys_Parse.calls kj10 a1 t503 t504 _ A22.out).mono ?_); rintro e w35 ⟨v505, rfl, ho0, hb⟩; refine ⟨_, rfl, ?_⟩; have n0_ := Aside0.mk (Kd.R_lower ho0 (below_size (hb_ HB))); have n1_ := Aside0.mk (below_step (hb_ HB) hb); clear HB; have HO506 := n0_; have HB := n1_; clear n0_ n1_; (try clear hb); (try clear hb2); (try clear hk); (try clear hi); (try clear ho0); obtain ⟨Ao36, co36, eo36⟩ := Kd.R_slice HO506.out; subst eo36) | (go_at_call 9; (with_reducible refine (headgatelaw21_wakes.calls  t510 _ ?side1 A34.out).mono ?_); (case side1 => first | ((refine Glob.keep HG.out ?_); (repeat (first | (with_reducible first | exact HB.out | apply below_alloc | apply pw_below_drewN | apply below_drew1) | exact HB.out)); done) | exact HG.out); rintro e w37 ⟨rfl, hb⟩; have n0_ := Aside0.mk (Kd.R_below (by (with_reducible repeat (first | apply Kd.R_alloc | apply Kd.R_drewN | apply Kd.R_drew)); exact HO506.out) hb); have n1_ := Aside0.mk (below_step (hb_ HB) hb); clear HO506; clear HB; have HO506 := n0_; have HB := n1_; clear n0_ n1_; (try clear hb); (try clear hb2); (try clear hk); (try clear hi)))
      go_ret
      exact ⟨by first | rfl | (simp [errW_none, errW_some] <;> rfl) | (simp [*, errW_none, errW_some] <;> rfl) | (simp [bt, *]; done) | (unfold bt; simp [*]; done), by repeat (first | (with_reducible first | exact HB.out | apply below_alloc | apply pw_below_drewN | apply below_drew1) | exact HB.out)⟩
     rw [if_pos c23] at H
     have c23b0 : (t504 == 0) = true := beq_iff_eq.mpr c23
     have c23b1 : (t504 != 0) = false := bne_eq_false_iff_eq.mpr c23
     clear c23
     replace H := Option.bind_eq_some_iff.mp H
     obtain ⟨⟨t507, t508⟩, A240, H⟩ := H
     try dsimp only at H
     have A24 := Aside0.mk A240
     clear A240
     refine neg_first (p := (t508 = 0)) (fun c25 => ?_) (fun c25 => ?_)
     ·rw [if_neg c25] at H
      have c25b0 : (t508 == 0) = false := beq_eq_false_iff_ne.mpr c25
      have c25b1 : (t508 != 0) = true := bne_iff_ne.mpr c25
      exact absurd ((Option.some.inj H).trans HT0.out) (by decide)
     rw [if_pos c25] at H
     have c25b0 : (t508 == 0) = true := beq_iff_eq.mpr c25
     have c25b1 : (t508 != 0) = false := bne_eq_false_iff_eq.mpr c25
     clear c25
     refine neg_first (p := (t507.toList = a1.toList)) (fun c26 => ?_) (fun c26 => ?_)
     ·rw [if_neg c26] at H
      have c26b0 : (t507.toList == a1.toList) = false := beq_eq_false_iff_ne.mpr c26
      have c26b1 : (t507.toList != a1.toList) = true := bne_iff_ne.mpr c26
      exact absurd ((Option.some.inj H).trans HT0.out) (by decide)
     rw [if_pos c26] at H
     have c26b0 : (t507.toList == a1.toList) = true := beq_iff_eq.mpr c26
     have c26b1 : (t507.toList != a1.toList) = false := bne_eq_false_iff_eq.mpr c26
     clear c26
     replace H := Option.bind_eq_some_iff.mp H
     obtain ⟨t509, A270, H⟩ := H
     try dsimp only at H
     have A27 := Aside0.mk A270
     clear A270
     obtain rfl := Option.some.inj H
     go_wp2_with (first | ((with_reducible refine gate_callee (f := 20) rfl ?_); refine goesL_ (some 44) rfl rfl Tryd.func20 (by kernel_rfl) rfl #[.string a1] rfl (by (try simp only [List.map_toArray, List.map_cons, List.map_nil]); first | done | rfl | (simp only [List.length_drop, List.length_take]; rfl)) ?_; (with_reducible refine (keys_Parse.calls kj10 a1 t503 t504 _ A22.out).mono ?_); rintro e w28 ⟨v505, rfl, ho0, hb⟩; refine ⟨_, rfl, ?_⟩; have n0_ := Aside0.mk (Kd.R_lower ho0 (below_size (hb_ HB))); have n1_ := Aside0.mk (below_step (hb_ HB) hb); clear HB; have HO506 := n0_; have HB := n1_; clear n0_ n1_; (try clear hb); (try clear hb2); (try clear hk); (try clear hi); (try clear ho0); obtain ⟨Ao29, co29, eo29⟩ := Kd.R_slice HO506.out; subst eo29) | ((with_reducible refine gate_callee (f := 18) rfl ?_); refine goesL_ (some 61) rfl rfl Tryd.func18 (by kernel_rfl) rfl #[.slice Ao29 t503.length co29] rfl (by (try simp only [List.map_toArray, List.map_cons, List.map_nil]); first | done | rfl | (simp only [List.length_drop, List.length_take]; rfl)) ?_; (with_reducible refine (keys_Text.calls _ _ t503 t507 t508 _ ?side1 ?side2 A24.out).mono ?_); (case side1 => repeat (first | exact (Kd.R_reads' HO506.out).2.2 | (with_reducible refine Kd.C_alloc ?_ _) | (with_reducible refine Kd.C_drewN ?_ _) | (with_reducible refine Kd.C_drew ?_))); (case side2 => exact (Kd.R_reads' HO506.out).2.1); rintro e w30 ⟨rfl, hb⟩; refine ⟨_, rfl, ?_⟩; have n0_ := Aside0.mk (Kd.R_below (by (with_reducible repeat (first | apply Kd.R_alloc | apply Kd.R_drewN | apply Kd.R_drew)); exact HO506.out) hb); have n1_ := Aside0.mk (below_step (hb_ HB) hb); clear HO506; clear HB; have HO506 := n0_; have HB := n1_; clear n0_ n1_; (try clear hb); (try clear hb2); (try clear hk); (try clear hi)) | (go_at_call 9; (with_reducible refine (headgatelaw21_wakes.calls  t509 _ ?side1 A27.out).mono ?_); (case side1 => first | ((refine Glob.keep HG.out ?_); (repeat (first | (with_reducible first | exact HB.out | apply below_alloc | apply pw_below_drewN | apply below_drew1) | exact HB.out)); done) | exact HG.out); rintro e w31 ⟨rfl, hb⟩; have n0_ := Aside0.mk (Kd.R_below (by (with_reducible repeat (first | apply Kd.R_alloc | apply Kd.R_drewN | apply Kd.R_drew)); exact HO506.out) hb); have n1_ := Aside0.mk (below_step (hb_ HB) hb); clear HO506; clear HB; have HO506 := n0_; have HB := n1_; clear n0_ n1_; (try clear hb); (try clear hb2); (try clear hk); (try clear hi)))
     go_ret
     exact ⟨by first | rfl | (simp [errW_none, errW_some] <;> rfl) | (simp [*, errW_none, errW_some] <;> rfl) | (simp [bt, *]; done) | (unfold bt; simp [*]; done), by repeat (first | (with_reducible first | exact HB.out | apply below_alloc | apply pw_below_drewN | apply below_drew1) | exact HB.out)⟩
end Go.Proofs.YtclcnkmefldpiaaDoor.P
