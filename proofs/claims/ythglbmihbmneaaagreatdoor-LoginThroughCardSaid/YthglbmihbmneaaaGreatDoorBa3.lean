-- joined by this session's wip/tools/pack.py: words of the kit's print, cut to what the claim names; functions printed by a patched copy of the printer; walks and lemmas of this session; Lean checks it
import Derived.Test.YthglbmihbmneaaaGreatDoorBa2
import Derived.Maps.Own
import Derived.Maps.OwnOps
import Derived.Maps.Views
import Derived.Carry
import Derived.Lib.SliceRun
namespace Go.Proofs.YthglbmihbmneaaaGreatDoor.P
open Go.RowKit Go.Proofs.YthglbmihbmneaaaGreatDoorW.PrintWords Go.Proofs.YthglbmihbmneaaaGreatDoorW.PrintLast Go.Proofs.YthglbmihbmneaaaGreatDoorW.PrintMore
attribute [local go_sem] max2_int min2_int max_two min_two max_three min_three max_four min_four   -- for this text's walks alone
set_option linter.unusedVariables false
set_option linter.unusedSimpArgs false
set_option linter.unnecessarySimpa false
mutual
def keys_Parse.l0 : Nat → ByteArray → List (S117) → Option ((List (S117)) × Int)
 | 0, _, _ => none
 | k + 1, x0, x4 => if x0.toList = ([] : List UInt8) then (keys_Parse.j1 k x0 x4 false) else (keys_Parse.j1 k x0 x4 (decide ((x4.length : Int) ≤ 16)))
def keys_Parse.j1 : Nat → ByteArray → List (S117) → Bool → Option ((List (S117)) × Int)
 | 0, _, _, _ => none
 | k + 1, x0, x4, x17 => if x17 = true then ((strings_Cut.f x0 (⟨#[0]⟩ : ByteArray)).bind fun bt163 => ((strings_Cut.f bt163.1 (⟨#[61]⟩ : ByteArray)).bind fun bt166 => (if bt163.2.2 = true then (if bt166.2.2 = true then (if x4.length < 4398046511104 then (keys_Parse.l0 k bt163.2.1 (x4 ++ [(⟨bt166.1, bt166.2.1⟩ : S117)])) else (none)) else (some (([] : List (S117)), 210))) else (some (([] : List (S117)), 210))))) else (if x0.toList = ([] : List UInt8) then ((keys_good.f x4).bind fun t162 => (if t162 = true then (some (x4, 0)) else (some (([] : List (S117)), 210)))) else (some (([] : List (S117)), 210)))
end
def keys_Parse.f (k : Nat) (a0 : ByteArray) : Option ((List (S117)) × Int) := keys_Parse.l0 k a0 ([] : List (S117))
theorem keys_Parse.mono_l : ∀ k, (∀ y0 y1, LeO (keys_Parse.l0 k y0 y1) (keys_Parse.l0 (k + 1) y0 y1)) ∧ (∀ y0 y1 y2, LeO (keys_Parse.j1 k y0 y1 y2) (keys_Parse.j1 (k + 1) y0 y1 y2))
 | 0 => ⟨fun _ _ r h => by simp [keys_Parse.l0] at h, fun _ _ _ r h => by simp [keys_Parse.j1] at h⟩
 | k + 1 => by
  obtain ⟨ih0, ih1⟩ := keys_Parse.mono_l k
  refine ⟨?_, ?_⟩
  ·intro y0 y1
   unfold keys_Parse.l0
   repeat' first
   | (with_reducible exact ih0 _ _)
   | (with_reducible exact ih1 _ _ _)
   | (with_reducible exact LeO.refl _)
   | (with_reducible exact LeO.none _)
   | (with_reducible refine LeO.ite ?_ ?_)
   | (with_reducible refine LeO.bind ?_ (fun _ => ?_))
   | exact ih0 _ _
   | exact ih1 _ _ _
   | exact LeO.none _
   | refine LeO.ite ?_ ?_
   | refine LeO.bind ?_ (fun _ => ?_)
  ·intro y0 y1 y2
   unfold keys_Parse.j1
   repeat' first
   | (with_reducible exact ih0 _ _)
   | (with_reducible exact ih1 _ _ _)
   | (with_reducible exact LeO.refl _)
   | (with_reducible exact LeO.none _)
   | (with_reducible refine LeO.ite ?_ ?_)
   | (with_reducible refine LeO.bind ?_ (fun _ => ?_))
   | exact ih0 _ _
   | exact ih1 _ _ _
   | exact LeO.none _
   | refine LeO.ite ?_ ?_
   | refine LeO.bind ?_ (fun _ => ?_)
theorem keys_Parse.mono : ∀ a0 k, LeO (keys_Parse.f k a0) (keys_Parse.f (k + 1) a0) := by
 intro a0 k
 obtain ⟨ih0, ih1⟩ := keys_Parse.mono_l k
 unfold keys_Parse.f
 repeat' first
   | (with_reducible exact ih0 _ _)
   | (with_reducible exact ih1 _ _ _)
   | (with_reducible exact LeO.refl _)
   | (with_reducible exact LeO.none _)
   | (with_reducible refine LeO.ite ?_ ?_)
   | (with_reducible refine LeO.bind ?_ (fun _ => ?_))
   | exact ih0 _ _
   | exact ih1 _ _ _
   | exact LeO.none _
   | refine LeO.ite ?_ ?_
   | refine LeO.bind ?_ (fun _ => ?_)
set_option maxHeartbeats 8000000 in
set_option maxRecDepth 100000 in
theorem keys_Parse.calls (k : Nat) (a0 : ByteArray) (r1 : List (S117)) (r2 : Int) (w : World) (h : keys_Parse.f k a0 = some (r1, r2)) :
  Calls Tryz.prog 48 #[.string a0] w fun e w' => ∃ v0_ : Value, e = .returned (.tuple #[v0_, .int .i64 r2]) ∧ Kd.R k117 117 w' w.heap.size (fun _ => True) v0_ r1 ∧ Below w.heap.size w w' := by
 have hu117 := Tryz.underlying117
 have HB := Aside0.mk (Below.refl w.heap.size w)
 have H : (keys_Parse.l0 k a0 ([] : List (S117))) = some (r1, r2) := h
 clear h
 have H' := Aside0.mk H
 clear H
 go_enter Tryz.func48, Tryz.ntmps48
 go_wp2
 go_loopg [0, 4] k (fun kq v0 v4 w' => ∃ (x0_1 : ByteArray) (x4_1 : List (S117)), v0 = .string x0_1 ∧ Aside0 (keys_Parse.l0 kq x0_1 x4_1 = some (r1, r2)) ∧ Aside0 (kq ≤ k) ∧ Aside0 (Kd.R k117 117 w' w.heap.size (fun _ => True) v4 x4_1) ∧ Aside0 (Below w.heap.size w w'))
 case atStart => exact ⟨(a0), (([] : List (S117))), (by first | rfl | (simp; done) | (simp [*]; done)), H', ⟨Nat.le_refl _⟩, ⟨by first | exact Kd.R_nil _ _ _ _ _ | exact Kd.N_nil _ _ _ _ _ | exact Kd.V_nil _ _ _ _ _ | exact Kd.Q_nil _ _ _ _ _ | exact Kd.S_nil _ _ _ _ _⟩, ⟨hb_ HB⟩⟩
 case round =>
  clear H'
  obtain ⟨x0_1, x4_1, rfl, HA, HK1, HO_4, HB⟩ := hrel
  cases gk with
  | zero => exact absurd HA.out (by simp [keys_Parse.l0])
  | succ k1 =>
   have H := HA.out
   clear HA
   simp only [keys_Parse.l0] at H
   have HC2 := Aside0.mk H
   clear H
   go_upto_region 2 with (fail)
   go_cut [17] (fun v17 wc => ∃ (kq : Nat) (x17_1 : Bool), v17 = .bool x17_1 ∧ Aside0 (keys_Parse.j1 kq x0_1 x4_1 x17_1 = some (r1, r2)) ∧ Aside0 (kq ≤ k1) ∧ Aside0 (Kd.R k117 117 wc w.heap.size (fun _ => True) u4 x4_1) ∧ Aside0 (Below w.heap.size w wc))
   case first =>
    have H := HC2.out
    clear HC2
    by_cases c3 : x0_1.toList = ([] : List UInt8)
    ·rw [if_pos c3] at H
     have c3b0 : (x0_1.toList == ([] : List UInt8)) = true := beq_iff_eq.mpr c3
     have c3b1 : (x0_1.toList != ([] : List UInt8)) = false := bne_eq_false_iff_eq.mpr c3
     (try (have c3b2 : (x0_1 = ByteArray.empty) = True := eq_true (by have h_ := c3; rw [ByteArray.toList_eq] at h_; exact ByteArray.ext (Array.toList_eq_nil_iff.mp h_))))
     clear c3
     (first | rw [c3b0] | (simp only [i64_w, i32_w]; rw [c3b0]) | skip)
     have H' := Aside0.mk H
     clear H
     go_wp2
     go_meet
     case rel => exact ⟨_, (false), (by first | rfl | (simp; done) | (simp [*]; done)), H', ⟨by have := HK1.out; first | omega | exact Nat.le_refl _⟩, ⟨by (with_reducible repeat (first | apply Kd.R_alloc | apply Kd.R_drewN | apply Kd.R_drew)); exact HO_4.out⟩, ⟨hb_ HB⟩⟩
    rw [if_neg c3] at H
    have c3b0 : (x0_1.toList == ([] : List UInt8)) = false := beq_eq_false_iff_ne.mpr c3
    have c3b1 : (x0_1.toList != ([] : List UInt8)) = true := bne_iff_ne.mpr c3
    (try (have c3b2 : (x0_1 = ByteArray.empty) = False := eq_false (fun h_ => c3 (by rw [h_, ByteArray.toList_eq]; rfl))))
    (first | rw [c3b0] | (simp only [i64_w, i32_w]; rw [c3b0]) | skip)
    have H' := Aside0.mk H
    clear H
    obtain ⟨Ao4, co4, eo4⟩ := Kd.R_slice HO_4.out
    subst eo4
    go_wp2
    go_meet
    case rel => exact ⟨_, (decide ((x4_1.length : Int) ≤ 16)), (by first | rfl | (simp; done) | (simp [*]; done)), H', ⟨by have := HK1.out; first | omega | exact Nat.le_refl _⟩, ⟨by (with_reducible repeat (first | apply Kd.R_alloc | apply Kd.R_drewN | apply Kd.R_drew)); exact HO_4.out⟩, ⟨hb_ HB⟩⟩
   case rest =>
    clear HC2
    try clear p2
    try clear c3
    try clear c3b0
    try clear c3b1
    try clear c3b2
    try clear c4
    obtain ⟨kq, x17_1, rfl, HA, HJ1, HO_4, HB⟩ := hcut
    cases kq with
    | zero => exact absurd HA.out (by simp [keys_Parse.j1])
    | succ kj1 =>
     have H := HA.out
     clear HA
     simp only [keys_Parse.j1] at H
     refine neg_first (p := (x17_1 = true)) (fun c5 => ?_) (fun c5 => ?_)
     ·replace c5 := Bool.eq_false_iff.mpr c5
      subst c5
      have H1 := H
      rw [if_neg (show ¬ (false = true) by decide)] at H1
      clear H
      have H := H1
      clear H1
      refine neg_first (p := (x0_1.toList = ([] : List UInt8))) (fun c12 => ?_) (fun c12 => ?_)
      ·rw [if_neg c12] at H
       have c12b0 : (x0_1.toList == ([] : List UInt8)) = false := beq_eq_false_iff_ne.mpr c12
       have c12b1 : (x0_1.toList != ([] : List UInt8)) = true := bne_iff_ne.mpr c12
       (try (have c12b2 : (x0_1 = ByteArray.empty) = False := eq_false (fun h_ => c12 (by rw [h_, ByteArray.toList_eq]; rfl))))
       simp only [Option.some.injEq, Prod.mk.injEq] at H
       obtain ⟨rfl, rfl⟩ := H
       go_wp2
       go_ret2
       exact ⟨_, by first | rfl | (simp [errW_none, errW_some] <;> rfl) | (simp [*, errW_none, errW_some] <;> rfl) | (simp [bt, *]; done) | (unfold bt; simp [*]; done), by first | exact Kd.R_nil _ _ _ _ _ | exact Kd.N_nil _ _ _ _ _ | exact Kd.V_nil _ _ _ _ _ | exact Kd.Q_nil _ _ _ _ _ | exact Kd.S_nil _ _ _ _ _, by repeat (first | (with_reducible first | exact HB.out | apply below_alloc | apply pw_below_drewN | apply below_drew1) | exact HB.out)⟩
      rw [if_pos c12] at H
      have c12b0 : (x0_1.toList == ([] : List UInt8)) = true := beq_iff_eq.mpr c12
      have c12b1 : (x0_1.toList != ([] : List UInt8)) = false := bne_eq_false_iff_eq.mpr c12
      (try (have c12b2 : (x0_1 = ByteArray.empty) = True := eq_true (by have h_ := c12; rw [ByteArray.toList_eq] at h_; exact ByteArray.ext (Array.toList_eq_nil_iff.mp h_))))
      clear c12
      replace H := Option.bind_eq_some_iff.mp H
      obtain ⟨t162, A130, H⟩ := H
      try dsimp only at H
      have A13 := Aside0.mk A130
      clear A130
      by_cases c14 : t162 = true
      ·subst c14
       have H1 := H
       rw [if_pos rfl] at H1
       clear H
       have H := H1
       clear H1
       simp only [Option.some.injEq, Prod.mk.injEq] at H
       obtain ⟨rfl, rfl⟩ := H
       obtain ⟨Ao15, co15, eo15⟩ := Kd.R_slice HO_4.out
       subst eo15
       go_wp2_with (first | (go_at_call 66; (with_reducible refine (keys_good.calls _ _ x4_1 true _ ?side1 ?side2 A13.out).mono ?_); (case side1 => repeat (first | exact (Kd.R_reads' HO_4.out).2.2 | (with_reducible refine Kd.C_alloc ?_ _) | (with_reducible refine Kd.C_drewN ?_ _) | (with_reducible refine Kd.C_drew ?_))); (case side2 => exact (Kd.R_reads' HO_4.out).2.1); rintro e w16 ⟨rfl, hb⟩; have n0_ := Aside0.mk (Kd.R_below (by (with_reducible repeat (first | apply Kd.R_alloc | apply Kd.R_drewN | apply Kd.R_drew)); exact HO_4.out) hb); have n1_ := Aside0.mk (below_step (hb_ HB) hb); clear HO_4; clear HB; have HO_4 := n0_; have HB := n1_; clear n0_ n1_; (try clear hb); (try clear hb2); (try clear hk); (try clear hi)))
       go_ret2
       exact ⟨_, by first | rfl | (simp [errW_none, errW_some] <;> rfl) | (simp [*, errW_none, errW_some] <;> rfl) | (simp [bt, *]; done) | (unfold bt; simp [*]; done), by (with_reducible repeat (first | apply Kd.R_alloc | apply Kd.R_drewN | apply Kd.R_drew)); exact HO_4.out, by repeat (first | (with_reducible first | exact HB.out | apply below_alloc | apply pw_below_drewN | apply below_drew1) | exact HB.out)⟩
      replace c14 := Bool.eq_false_iff.mpr c14
      subst c14
      have H1 := H
      rw [if_neg (show ¬ (false = true) by decide)] at H1
      clear H
      have H := H1
      clear H1
      simp only [Option.some.injEq, Prod.mk.injEq] at H
      obtain ⟨rfl, rfl⟩ := H
      obtain ⟨Ao17, co17, eo17⟩ := Kd.R_slice HO_4.out
      subst eo17
      go_wp2_with (first | (go_at_call 66; (with_reducible refine (keys_good.calls _ _ x4_1 false _ ?side1 ?side2 A13.out).mono ?_); (case side1 => repeat (first | exact (Kd.R_reads' HO_4.out).2.2 | (with_reducible refine Kd.C_alloc ?_ _) | (with_reducible refine Kd.C_drewN ?_ _) | (with_reducible refine Kd.C_drew ?_))); (case side2 => exact (Kd.R_reads' HO_4.out).2.1); rintro e w18 ⟨rfl, hb⟩; have n0_ := Aside0.mk (Kd.R_below (by (with_reducible repeat (first | apply Kd.R_alloc | apply Kd.R_drewN | apply Kd.R_drew)); exact HO_4.out) hb); have n1_ := Aside0.mk (below_step (hb_ HB) hb); clear HO_4; clear HB; have HO_4 := n0_; have HB := n1_; clear n0_ n1_; (try clear hb); (try clear hb2); (try clear hk); (try clear hi)))
      go_ret2
      exact ⟨_, by first | rfl | (simp [errW_none, errW_some] <;> rfl) | (simp [*, errW_none, errW_some] <;> rfl) | (simp [bt, *]; done) | (unfold bt; simp [*]; done), by first | exact Kd.R_nil _ _ _ _ _ | exact Kd.N_nil _ _ _ _ _ | exact Kd.V_nil _ _ _ _ _ | exact Kd.Q_nil _ _ _ _ _ | exact Kd.S_nil _ _ _ _ _, by repeat (first | (with_reducible first | exact HB.out | apply below_alloc | apply pw_below_drewN | apply below_drew1) | exact HB.out)⟩
     subst c5
     have H1 := H
     rw [if_pos rfl] at H1
     clear H
     have H := H1
     clear H1
     replace H := Option.bind_eq_some_iff.mp H
     obtain ⟨⟨t163, t164, t165⟩, A60, H⟩ := H
     try dsimp only at H
     have A6 := Aside0.mk A60
     clear A60
     replace H := Option.bind_eq_some_iff.mp H
     obtain ⟨⟨t166, t167, t168⟩, A70, H⟩ := H
     try dsimp only at H
     have A7 := Aside0.mk A70
     clear A70
     refine neg_first (p := (t165 = true)) (fun c8 => ?_) (fun c8 => ?_)
     ·replace c8 := Bool.eq_false_iff.mpr c8
      subst c8
      have H1 := H
      rw [if_neg (show ¬ (false = true) by decide)] at H1
      clear H
      have H := H1
      clear H1
      simp only [Option.some.injEq, Prod.mk.injEq] at H
      obtain ⟨rfl, rfl⟩ := H
      go_wp2_with (first | ((with_reducible refine gate_callee (f := 65) rfl ?_); refine goesL_ (some 20) rfl rfl Tryz.func65 (by kernel_rfl) rfl #[.string x0_1, .string (⟨#[0]⟩ : ByteArray)] rfl (by (try simp only [List.map_toArray, List.map_cons, List.map_nil]); first | done | rfl | (simp only [List.length_drop, List.length_take]; rfl)) ?_; (with_reducible refine (strings_Cut.calls x0_1 (⟨#[0]⟩ : ByteArray) t163 t164 false _ A6.out).mono ?_); rintro e w' ⟨rfl, ⟨nd, rfl⟩⟩; refine ⟨_, rfl, ?_⟩) | ((with_reducible refine gate_callee (f := 65) rfl ?_); refine goesL_ (some 26) rfl rfl Tryz.func65 (by kernel_rfl) rfl #[.string t163, .string (⟨#[61]⟩ : ByteArray)] rfl (by (try simp only [List.map_toArray, List.map_cons, List.map_nil]); first | done | rfl | (simp only [List.length_drop, List.length_take]; rfl)) ?_; (with_reducible refine (strings_Cut.calls t163 (⟨#[61]⟩ : ByteArray) t166 t167 t168 _ A7.out).mono ?_); rintro e w' ⟨rfl, ⟨nd, rfl⟩⟩; refine ⟨_, rfl, ?_⟩))
      go_ret2
      exact ⟨_, by first | rfl | (simp [errW_none, errW_some] <;> rfl) | (simp [*, errW_none, errW_some] <;> rfl) | (simp [bt, *]; done) | (unfold bt; simp [*]; done), by first | exact Kd.R_nil _ _ _ _ _ | exact Kd.N_nil _ _ _ _ _ | exact Kd.V_nil _ _ _ _ _ | exact Kd.Q_nil _ _ _ _ _ | exact Kd.S_nil _ _ _ _ _, by repeat (first | (with_reducible first | exact HB.out | apply below_alloc | apply pw_below_drewN | apply below_drew1) | exact HB.out)⟩
     subst c8
     have H1 := H
     rw [if_pos rfl] at H1
     clear H
     have H := H1
     clear H1
     refine neg_first (p := (t168 = true)) (fun c9 => ?_) (fun c9 => ?_)
     ·replace c9 := Bool.eq_false_iff.mpr c9
      subst c9
      have H1 := H
      rw [if_neg (show ¬ (false = true) by decide)] at H1
      clear H
      have H := H1
      clear H1
      simp only [Option.some.injEq, Prod.mk.injEq] at H
      obtain ⟨rfl, rfl⟩ := H
      go_wp2_with (first | ((with_reducible refine gate_callee (f := 65) rfl ?_); refine goesL_ (some 20) rfl rfl Tryz.func65 (by kernel_rfl) rfl #[.string x0_1, .string (⟨#[0]⟩ : ByteArray)] rfl (by (try simp only [List.map_toArray, List.map_cons, List.map_nil]); first | done | rfl | (simp only [List.length_drop, List.length_take]; rfl)) ?_; (with_reducible refine (strings_Cut.calls x0_1 (⟨#[0]⟩ : ByteArray) t163 t164 true _ A6.out).mono ?_); rintro e w' ⟨rfl, ⟨nd, rfl⟩⟩; refine ⟨_, rfl, ?_⟩) | ((with_reducible refine gate_callee (f := 65) rfl ?_); refine goesL_ (some 26) rfl rfl Tryz.func65 (by kernel_rfl) rfl #[.string t163, .string (⟨#[61]⟩ : ByteArray)] rfl (by (try simp only [List.map_toArray, List.map_cons, List.map_nil]); first | done | rfl | (simp only [List.length_drop, List.length_take]; rfl)) ?_; (with_reducible refine (strings_Cut.calls t163 (⟨#[61]⟩ : ByteArray) t166 t167 false _ A7.out).mono ?_); rintro e w' ⟨rfl, ⟨nd, rfl⟩⟩; refine ⟨_, rfl, ?_⟩))
      go_ret2
      exact ⟨_, by first | rfl | (simp [errW_none, errW_some] <;> rfl) | (simp [*, errW_none, errW_some] <;> rfl) | (simp [bt, *]; done) | (unfold bt; simp [*]; done), by first | exact Kd.R_nil _ _ _ _ _ | exact Kd.N_nil _ _ _ _ _ | exact Kd.V_nil _ _ _ _ _ | exact Kd.Q_nil _ _ _ _ _ | exact Kd.S_nil _ _ _ _ _, by repeat (first | (with_reducible first | exact HB.out | apply below_alloc | apply pw_below_drewN | apply below_drew1) | exact HB.out)⟩
     subst c9
     have H1 := H
     rw [if_pos rfl] at H1
     clear H
     have H := H1
     clear H1
     refine neg_first (p := (x4_1.length < 4398046511104)) (fun c10 => ?_) (fun c10 => ?_)
     ·rw [if_neg c10] at H
      exact absurd H (by simp)
     rw [if_pos c10] at H
     have LMc10 := Aside0.mk c10
     clear c10
     obtain ⟨y169, hy169⟩ : ∃ y_ : List (S117), y_ = (x4_1 ++ [(⟨t166, t167⟩ : S117)]) := ⟨_, rfl⟩
     replace H : (keys_Parse.l0 kj1 t164 y169) = some (r1, r2) := by first | (rw [hy169]; with_reducible exact H) | (have H2_ := (Option.bind_some _ _).symm.trans H; rw [hy169]; with_reducible exact H2_) | (have H2_ := (Option.bind_some _ _).symm.trans H; with_reducible exact H2_) | with_reducible exact H | (rw [hy169]; exact H) | exact H
     have Ny169 := Aside0.mk hy169
     clear hy169
     have H' := Aside0.mk H
     clear H
     go_wp2_with (first | ((with_reducible refine gate_callee (f := 65) rfl ?_); refine goesL_ (some 20) rfl rfl Tryz.func65 (by kernel_rfl) rfl #[.string x0_1, .string (⟨#[0]⟩ : ByteArray)] rfl (by (try simp only [List.map_toArray, List.map_cons, List.map_nil]); first | done | rfl | (simp only [List.length_drop, List.length_take]; rfl)) ?_; (with_reducible refine (strings_Cut.calls x0_1 (⟨#[0]⟩ : ByteArray) t163 t164 true _ A6.out).mono ?_); rintro e w' ⟨rfl, ⟨nd, rfl⟩⟩; refine ⟨_, rfl, ?_⟩) | ((with_reducible refine gate_callee (f := 65) rfl ?_); refine goesL_ (some 26) rfl rfl Tryz.func65 (by kernel_rfl) rfl #[.string t163, .string (⟨#[61]⟩ : ByteArray)] rfl (by (try simp only [List.map_toArray, List.map_cons, List.map_nil]); first | done | rfl | (simp only [List.length_drop, List.length_take]; rfl)) ?_; (with_reducible refine (strings_Cut.calls t163 (⟨#[61]⟩ : ByteArray) t166 t167 true _ A7.out).mono ?_); rintro e w' ⟨rfl, ⟨nd, rfl⟩⟩; refine ⟨_, rfl, ?_⟩) | ((with_reducible refine gate_builtin (b := .append) (xs := #[.tmp 36, .tmp 40]) rfl ?_); (try (refine gate_guard (by rfl) ?_; dsimp only)); at_builtin; refine Kd.R_append k117 (w0 := w) w.heap.size rfl (.tmp 36) (.tmp 40) 69 117 (.agg #[(.string ⟨#[]⟩), (.string ⟨#[]⟩)]) 32 rfl Tryz.underlying69 info117 rfl (by decide) (by omega) u4 x4_1 (⟨t166, t167⟩ : S117) [.string t166, .string t167] (fun _ => True) (fun _ => False) rfl rfl ?aP (fun _ hk => hk.elim) ?aF ?aO ?aB ?aS ?aL ?_; (case aP => exact k117_mkM _ _ _ (⟨t166, t167⟩ : S117)); (case aB => exact (hb_ HB)); (case aF => exact (fun _ _ => trivial)); (case aO => exact (by (with_reducible repeat (first | apply Kd.R_alloc | apply Kd.R_drewN | apply Kd.R_drew)); exact HO_4.out)); (case aS => exact (below_size (hb_ HB))); (case aL => have := LMc10.out; omega); intro v170 w11 ho hb hg hat; rw [← Ny169.out] at ho; have n0_ := Aside0.mk (hb); have n1_ := Aside0.mk (ho); clear HB; clear HO_4; have HB := n0_; have HO171 := n1_; clear n0_ n1_; clear ho hb hg hat))
     go_roundg kj1
     case measure => have := HK1.out; have := HJ1.out; omega
     case rel => exact ⟨(t164), (y169), (by first | rfl | (simp; done) | (simp [*]; done)), H', ⟨by have := HK1.out; have := HJ1.out; omega⟩, ⟨by (with_reducible repeat (first | apply Kd.R_alloc | apply Kd.R_drewN | apply Kd.R_drew)); exact HO171.out⟩, ⟨hb_ HB⟩⟩
def lo_ : Nat → Nat
  | 0 => 97 | 1 => 48 | 2 => 46 | 3 => 45 | _ => 58
def hi_ : Nat → Nat
  | 0 => 122 | 1 => 57 | 2 => 46 | 3 => 45 | _ => 58
def lit_ (k : Nat) : ByteArray := ⟨#[UInt8.ofNat (lo_ k), UInt8.ofNat (hi_ k)]⟩
def mark_ : Nat → Nat → Bool
  | 0, _ => false
  | k + 1, i => mark_ k i || decide (lo_ k ≤ i ∧ i < hi_ k + 1)
theorem lohi_ : ∀ k, k < 5 → 0 < lo_ k ∧ lo_ k ≤ hi_ k ∧ hi_ k < 256 := by decide
theorem lit_0 (k : Nat) (hk : k < 5) : ∀ h : 0 < (lit_ k).size, (((lit_ k)[0]'h).toNat : Int) = (lo_ k : Int) := by
  intro h
  have := lohi_ k hk
  show ((UInt8.ofNat (lo_ k)).toNat : Int) = _
  rw [UInt8.toNat_ofNat']
  omega
theorem lit_1 (k : Nat) (hk : k < 5) : ∀ h : 1 < (lit_ k).size, (((lit_ k)[1]'h).toNat : Int) = (hi_ k : Int) := by
  intro h
  have := lohi_ k hk
  show ((UInt8.ofNat (hi_ k)).toNat : Int) = _
  rw [UInt8.toNat_ofNat']
  omega
set_option maxHeartbeats 8000000 in
set_option maxRecDepth 100000 in
theorem names_letters.calls (w : World) : Calls Tryz.prog 137 #[] w fun e w' => ∃ g, e = .returned (.pointer (some ⟨g, 0, none⟩)) ∧ w.heap.size ≤ g ∧ w'.heap[g]? = some (.cells (rowN 256 (mark_ 5)) 210 (0, 0)) ∧ Below w.heap.size w w' := by
  have HB := Aside0.mk (Below.refl w.heap.size w)
  go_enter Tryz.func137, Tryz.ntmps137
  go_wp2_with (first
    | ((with_reducible refine gate_dst (N := 1) rfl ?_); refine box_event ?hg (N := 1) ?hd (cs := rowN 256 (fun _ => false)) (t := 210) ?hr ?_; (case hd => rfl); (case hg => rfl); (case hr => first | (kernel_rfl) | (go_simp; done) | (go_simp; rfl)); intro g hg w1 hbox hb; have GE := Aside0.mk (show w.heap.size ≤ g by rw [hg]; exact below_size HB.out); have n1_ := Aside0.mk (below_step HB.out hb); have BK := Aside0.mk hbox; clear HB; have HB := n1_; clear n1_ hb hbox hg)
    | ((with_reducible refine gate_dst (N := 5) rfl ?_); refine lit_event ?hg (N := 5) ?hd (cs := #[.string (lit_ 0), .string (lit_ 1), .string (lit_ 2), .string (lit_ 3), .string (lit_ 4)]) (t := 9) (n := 5) ?hr ?_; (case hd => rfl); (case hg => rfl); (case hr => first | (go_simp; done) | (go_simp; rfl)); intro gs hg w2 hbox hb; have NE := Aside0.mk (show g ≠ gs by rw [hg]; exact Nat.ne_of_lt (blk_lt BK.out)); have n1_ := Aside0.mk (below_step HB.out hb); have n2_ := Aside0.mk (blk_below BK.out hb); have BS := Aside0.mk hbox; clear HB BK; have HB := n1_; have BK := n2_; clear n1_ n2_ hb hbox hg))
  go_loopw [7] (fun kv wr => ∃ k : Nat, k ≤ 5 ∧ kv = .int .i64 k ∧ Aside0 (wr.heap[g]? = some (.cells (rowN 256 (mark_ k)) 210 (0, 0))) ∧ Aside0 (wr.heap[gs]? = some (.cells #[.string (lit_ 0), .string (lit_ 1), .string (lit_ 2), .string (lit_ 3), .string (lit_ 4)] 9 (0, 0))) ∧ Aside0 (Below w.heap.size w wr)) (fun kv _ => 5 - (intOf kv).toNat)
  case atStart => exact ⟨0, by omega, rfl, BK, BS, HB⟩
  case round =>
    clear HB BK BS
    obtain ⟨k, hk, rfl, BK, BS, HB⟩ := hrel
    obtain ⟨wo, hwo⟩ : ∃ wo : World, wo = wr := ⟨_, rfl⟩
    subst hwo
    by_cases hlt : k < 5
    · obtain ⟨lo, hlo⟩ : ∃ lo, lo = lo_ k := ⟨_, rfl⟩
      obtain ⟨hi, hhi⟩ : ∃ hi, hi = hi_ k := ⟨_, rfl⟩
      have hb := lohi_ k hlt
      have hx0 := lit_0 k hlt
      have hx1 := lit_1 k hlt
      have hz : (lit_ k).size = 2 := rfl
      have hcell : wo.cell? ⟨gs, k, none⟩ = some (.string (lit_ k)) := by
        rw [blk_cell BS.out k]
        match k, hlt with
        | 0, _ => rfl
        | 1, _ => rfl
        | 2, _ => rfl
        | 3, _ => rfl
        | 4, _ => rfl
      rw [← hlo, ← hhi] at hb
      rw [← hlo] at hx0
      rw [← hhi] at hx1
      have hmk : Aside0 (mark_ (k + 1) = fun i => mark_ k i || decide (lo ≤ i ∧ i < hi + 1)) := ⟨by rw [hlo, hhi]; rfl⟩
      obtain ⟨s, hs⟩ : ∃ s, s = lit_ k := ⟨_, rfl⟩
      rw [← hs] at hcell
      rw [← hs] at hz
      have hy0 : ∀ h : 0 < s.size, ((s[0]'h).toNat : Int) = (lo : Int) := by rw [hs]; exact hx0
      have hy1 : ∀ h : 1 < s.size, ((s[1]'h).toNat : Int) = (hi : Int) := by rw [hs]; exact hx1
      have hz0 : (0 < s.size) = True := eq_true (by omega)
      have hz1 : (1 < s.size) = True := eq_true (by omega)
      have hz2 : ((0 : Int) < (s.size : Int)) = True := eq_true (by omega)
      have hz3 : ((1 : Int) < (s.size : Int)) = True := eq_true (by omega)
      obtain ⟨hb1, hb2, hb3⟩ := hb
      clear hs hlo hhi hx0 hx1 hz
      go_wp2
      go_loopw [4] (fun cv wr => ∃ c : Nat, lo ≤ c ∧ c ≤ hi + 1 ∧ cv = .int .i64 c ∧ Aside0 (wr.heap[g]? = some (.cells (rowN 256 (fun i => mark_ k i || decide (lo ≤ i ∧ i < c))) 210 (0, 0))) ∧ Aside0 (wr.heap[gs]? = some (.cells #[.string (lit_ 0), .string (lit_ 1), .string (lit_ 2), .string (lit_ 3), .string (lit_ 4)] 9 (0, 0))) ∧ Aside0 (Below w.heap.size w wr)) (fun cv _ => hi + 1 - (intOf cv).toNat)
      case atStart =>
        refine ⟨lo, by omega, by omega, rfl, ⟨?_⟩, BS, HB⟩
        have e : (fun i => mark_ k i || decide (lo ≤ i ∧ i < lo)) = mark_ k := by
          funext i
          rw [decide_eq_false (by omega), Bool.or_false]
        rw [e]
        exact BK.out
      case round =>
        clear HB BK BS hcell
        obtain ⟨c, hc1, hc2, rfl, BK, BS, HB⟩ := hrel
        by_cases hcl : c < hi + 1
        · have hd : decide ((c : Int) ≤ (hi : Int)) = true := decide_eq_true (by omega)
          have hcc : wr.cell? ⟨g, c, none⟩ = some (.bool (mark_ k c || decide (lo ≤ c ∧ c < c))) := (blk_cell BK.out c).trans (rowN_get 256 _ c (by omega))
          have hcf := blk_frozen BK.out c
          have hc0 : (0 : Int) ≤ (c : Int) := by omega
          have hc256 : (c : Int) < 256 := by omega
          go_wp2
          go_roundw
          case rel =>
            refine ⟨c + 1, by omega, by omega, by go_num, ⟨?_⟩, ⟨blk_far BS.out (Ne.symm NE.out) _⟩, ⟨below_set HB.out GE.out⟩⟩
            refine blk_put BK.out c _ ?_
            rw [rowN_set 256 _ c (by omega)]
            congr 1
            funext i
            rw [Bool.or_assoc]
            congr 1
            rw [Bool.eq_iff_iff]
            simp
            omega
          case measure => simp [intOf]; omega
        · have hd : decide ((c : Int) ≤ (hi : Int)) = false := decide_eq_false (by omega)
          have hce : c = hi + 1 := by omega
          subst hce
          go_wp2
          go_roundw
          case rel => exact ⟨k + 1, by omega, by go_num, ⟨by rw [hmk.out]; exact BK.out⟩, BS, HB⟩
          case measure => simp [intOf]; omega
    · have hk5 : k = 5 := by omega
      subst hk5
      go_wp2
      go_ret
      exact ⟨g, rfl, GE.out, BK.out, HB.out⟩
def nameB (s : ByteArray) : Bool := decide (1 ≤ s.size ∧ s.size ≤ 64 ∧ 97 ≤ bt s 0 ∧ bt s 0 ≤ 122) && s.data.toList.all (fun c => mark_ 5 c.toNat)
def names_Name.f (a0 : ByteArray) : Option Bool := some (nameB a0)
set_option maxHeartbeats 8000000 in
set_option maxRecDepth 100000 in
theorem names_Name.calls (a0 : ByteArray) (r : Bool) (w : World) (h : names_Name.f a0 = some r) :
    Calls Tryz.prog 122 #[.string a0] w fun e w' => e = .returned (.bool r) ∧ Below w.heap.size w w' := by
  obtain rfl := Option.some.inj h
  clear h
  have HB := Aside0.mk (Below.refl w.heap.size w)
  by_cases h1 : a0.size < 1
  · have er : nameB a0 = false := by
      unfold nameB
      rw [decide_eq_false (by omega)]
      rfl
    rw [er]
    clear er
    have e0 : a0 = ByteArray.empty := ByteArray.ext (Array.eq_empty_of_size_eq_zero (show a0.size = 0 by omega))
    subst e0
    clear h1
    go_enter Tryz.func122, Tryz.ntmps122
    go_wp2
    go_ret
    exact ⟨rfl, HB.out⟩
  · have d1 : decide (a0.size < 1) = false := decide_eq_false h1
    have d2 : decide ((a0.size : Int) < 1) = false := decide_eq_false (by omega)
    have d3 : (a0 = ByteArray.empty) = False := eq_false (fun h_ => by rw [h_] at h1; exact h1 (by decide))
    by_cases h2 : a0.size > 64
    · have er : nameB a0 = false := by
        unfold nameB
        rw [decide_eq_false (by omega)]
        rfl
      rw [er]
      have d4 : decide (64 < a0.size) = true := decide_eq_true h2
      have d5 : decide ((64 : Int) < (a0.size : Int)) = true := decide_eq_true (by omega)
      clear er h1 h2
      go_enter Tryz.func122, Tryz.ntmps122
      go_wp2
      go_ret
      exact ⟨rfl, HB.out⟩
    · have d4 : decide (64 < a0.size) = false := decide_eq_false h2
      have d5 : decide ((64 : Int) < (a0.size : Int)) = false := decide_eq_false (by omega)
      have hx0 := bt_at a0 0
      have hx : ∀ h : 0 < a0.size, ((a0[0]'h).toNat : Int) = bt a0 0 := bt_at a0 0
      have z0 : (0 < a0.size) = True := eq_true (by omega)
      have z1 : ((0 : Int) < (a0.size : Int)) = True := eq_true (by omega)
      clear hx0
      have er0 := (rfl : nameB a0 = nameB a0)
      obtain ⟨b, hb⟩ : ∃ b, b = bt a0 0 := ⟨_, rfl⟩
      rw [← hb] at hx
      by_cases h3 : b < 97
      · have er : nameB a0 = false := by
          unfold nameB
          rw [decide_eq_false (by rw [← hb]; omega)]
          rfl
        rw [er]
        have d6 : decide (b < 97) = true := decide_eq_true h3
        clear er h1 h2 h3 hb er0
        go_enter Tryz.func122, Tryz.ntmps122
        go_wp2
        go_ret
        exact ⟨rfl, HB.out⟩
      · have d6 : decide (b < 97) = false := decide_eq_false h3
        by_cases h4 : b > 122
        · have er : nameB a0 = false := by
            unfold nameB
            rw [decide_eq_false (by rw [← hb]; omega)]
            rfl
          rw [er]
          have d7 : decide (122 < b) = true := decide_eq_true h4
          clear er h1 h2 h3 h4 hb er0
          go_enter Tryz.func122, Tryz.ntmps122
          go_wp2
          go_ret
          exact ⟨rfl, HB.out⟩
        · have d7 : decide (122 < b) = false := decide_eq_false h4
          have er : Aside0 (nameB a0 = a0.data.toList.all (fun c => mark_ 5 c.toNat)) := ⟨by
            unfold nameB
            rw [decide_eq_true (by rw [← hb]; omega)]
            rfl⟩
          have hsz : a0.data.toList.length = a0.size := rfl
          clear er0 hb h3 h4
          generalize hR : nameB a0 = R at er ⊢
          clear hR
          go_enter Tryz.func122, Tryz.ntmps122
          go_wp2_with (first
            | (go_at_call 137; refine (names_letters.calls _).mono ?_; rintro e w1 ⟨g, rfl, hge, hbk, hb⟩; have GE := Aside0.mk (show w.heap.size ≤ g from Nat.le_trans (below_size HB.out) hge); have n1_ := Aside0.mk (below_step HB.out hb); have BK := Aside0.mk hbk; clear HB; have HB := n1_; clear n1_ hb hbk hge))
          clear hx z0 z1
          go_loopw [26] (fun iv wr => ∃ k : Nat, k ≤ a0.size ∧ iv = .int .i64 k ∧ Aside0 ((a0.data.toList.drop k).all (fun c => mark_ 5 c.toNat) = R) ∧ Aside0 (wr.heap[g]? = some (.cells (rowN 256 (mark_ 5)) 210 (0, 0))) ∧ Aside0 (Below w.heap.size w wr)) (fun iv _ => a0.size - (intOf iv).toNat)
          case atStart => exact ⟨0, Nat.zero_le _, rfl, ⟨er.out.symm⟩, BK, HB⟩
          case round =>
            clear HB BK er
            obtain ⟨k, hk, rfl, er, BK, HB⟩ := hrel
            by_cases hlt : k < a0.size
            · have hl : k < a0.data.toList.length := hlt
              obtain ⟨c, hc⟩ : ∃ c : Nat, c = (a0[k]'hlt).toNat := ⟨_, rfl⟩
              have hc256 : c < 256 := by rw [hc]; exact (a0[k]'hlt).toNat_lt
              have hx : ∀ h : k < a0.size, ((a0[k]'h).toNat : Int) = (c : Int) := fun h => by rw [hc]
              have er2 : Aside0 ((mark_ 5 c && (a0.data.toList.drop (k + 1)).all (fun c => mark_ 5 c.toNat)) = R) := ⟨by
                have := er.out
                rw [List.drop_eq_getElem_cons hl, List.all_cons] at this
                rw [← this, hc]
                rfl⟩
              have hcell : wr.cell? ⟨g, c, none⟩ = some (.bool (mark_ 5 c)) := (blk_cell BK.out c).trans (rowN_get 256 _ c hc256)
              have k0 : (0 : Int) ≤ (k : Int) := Int.natCast_nonneg k
              have c0 : (0 : Int) ≤ (c : Int) := Int.natCast_nonneg c
              have c1 : (c : Int) < 256 := by omega
              have k1 : ((k : Int) < (a0.size : Int)) = True := eq_true (by omega)
              have k2 : (k < a0.size) = True := eq_true hlt
              clear hc er hc256 hl
              cases hm : mark_ 5 c
              · rw [hm] at hcell er2
                have er3 : R = false := er2.out.symm
                go_wp2
                go_quiet (fail)
                go_wp2
                go_ret
                exact ⟨by rw [er3]; rfl, pw_below_drewN HB.out _⟩
              · rw [hm] at hcell er2
                go_wp2
                go_quiet (fail)
                go_wp2
                go_roundw
                case rel => exact ⟨k + 1, by omega, by go_num, ⟨er2.out⟩, ⟨blk_drewN BK.out _⟩, ⟨pw_below_drewN HB.out _⟩⟩
                case measure => simp [intOf]; omega
            · have er3 : R = true := by
                have := er.out
                rw [List.drop_eq_nil_of_le (by omega)] at this
                exact this.symm
              go_wp2
              go_ret
              exact ⟨by rw [er3]; rfl, HB.out⟩
def stringslite_HasPrefix.f (a0 : ByteArray) (a1 : ByteArray) : Option (Bool) := if (a0.size : Int) ≥ (a1.size : Int) then (if 0 ≤ (a1.size : Int) then (if (a1.size : Int) ≤ (a0.size : Int) then (some ((a0.extract 0 ((a1.size : Int) : Int).toNat).toList == a1.toList)) else (none)) else (none)) else (some false)
set_option maxHeartbeats 8000000 in
set_option maxRecDepth 100000 in
theorem stringslite_HasPrefix.calls (a0 : ByteArray) (a1 : ByteArray) (r : Bool) (w : World) (h : stringslite_HasPrefix.f a0 a1 = some r) :
    Calls Tryz.prog 138 #[.string a0, .string a1] w fun e w' => e = .returned (.bool r) ∧ Drawn0 w w' := by
  have H : (if (a0.size : Int) ≥ (a1.size : Int) then (if 0 ≤ (a1.size : Int) then (if (a1.size : Int) ≤ (a0.size : Int) then (some ((a0.extract 0 ((a1.size : Int) : Int).toNat).toList == a1.toList)) else (none)) else (none)) else (some false)) = some r := h
  clear h
  by_cases c3 : (a0.size : Int) ≥ (a1.size : Int)
  · rw [if_pos c3] at H
    have c3b0 : decide ((a1.size : Int) ≤ (a0.size : Int)) = true := decide_eq_true c3
    have c3b1 : decide (a1.size ≤ a0.size) = true := decide_eq_true (Int.ofNat_le.mp c3)
    clear c3
    by_cases c4 : 0 ≤ (a1.size : Int)
    · rw [if_pos c4] at H
      have c4b0 := eq_true c4
      have c4b1 : decide (0 ≤ (a1.size : Int)) = true := decide_eq_true c4
      clear c4
      by_cases c5 : (a1.size : Int) ≤ (a0.size : Int)
      · rw [if_pos c5] at H
        have c5b0 := eq_true c5
        have c5b1 : decide ((a1.size : Int) ≤ (a0.size : Int)) = true := decide_eq_true c5
        clear c5
        obtain rfl := Option.some.inj H
        go_enter Tryz.func138, Tryz.ntmps138
        go_wp2
        go_ret
        exact ⟨by first | rfl | (simp; done) | (simp [*]; done), by repeat (first | exact Drawn0.refl _ | apply Drawn0.step)⟩
      · rw [if_neg c5] at H
        exact absurd H (by simp)
    · rw [if_neg c4] at H
      exact absurd H (by simp)
  · rw [if_neg c3] at H
    have c3b0 : decide ((a1.size : Int) ≤ (a0.size : Int)) = false := decide_eq_false c3
    have c3b1 : decide (a1.size ≤ a0.size) = false := decide_eq_false (fun h => c3 (Int.ofNat_le.mpr h))
    clear c3
    obtain rfl := Option.some.inj H
    go_enter Tryz.func138, Tryz.ntmps138
    go_wp2
    go_ret
    exact ⟨by first | rfl | (simp; done) | (simp [*]; done), by repeat (first | exact Drawn0.refl _ | apply Drawn0.step)⟩
def strings_HasPrefix.f (a0 : ByteArray) (a1 : ByteArray) : Option (Bool) := (stringslite_HasPrefix.f a0 a1).bind fun t172 => (some t172)
set_option maxHeartbeats 8000000 in
set_option maxRecDepth 100000 in
theorem strings_HasPrefix.calls (a0 : ByteArray) (a1 : ByteArray) (r : Bool) (w : World) (h : strings_HasPrefix.f a0 a1 = some r) :
    Calls Tryz.prog 123 #[.string a0, .string a1] w fun e w' => e = .returned (.bool r) ∧ Drawn0 w w' := by
  have H : ((stringslite_HasPrefix.f a0 a1).bind fun t172 => (some t172)) = some r := h
  clear h
  replace H := Option.bind_eq_some_iff.mp H
  obtain ⟨t172, A30, H⟩ := H
  replace H : (some t172) = some r := H
  have A3 := Aside0.mk A30
  clear A30
  obtain rfl := Option.some.inj H
  go_enter Tryz.func123, Tryz.ntmps123
  go_wp2_with (first | ((with_reducible refine gate_callee (f := 138) rfl ?_); refine goesL_ (some 7) rfl rfl Tryz.func138 (by kernel_rfl) rfl #[.string a0, .string a1] rfl (by (try simp only [List.map_toArray, List.map_cons, List.map_nil]); first | done | rfl | (simp only [List.length_drop, List.length_take]; rfl)) ?_; (with_reducible refine (stringslite_HasPrefix.calls a0 a1 t172 _ A3.out).mono ?_); rintro e w' ⟨rfl, ⟨nd, rfl⟩⟩; refine ⟨_, rfl, ?_⟩))
  go_ret
  exact ⟨by first | rfl | (simp; done) | (simp [*]; done), by repeat (first | exact Drawn0.refl _ | apply Drawn0.step)⟩
def good_ (s : ByteArray) (j : Nat) : Bool := if j = 4 then decide (bt s 8 = 45) else if j = 7 then decide (bt s 11 = 46) else decide (48 ≤ bt s ((4 + j : Nat) : Int) ∧ bt s ((4 + j : Nat) : Int) ≤ 57)
def month_ (s : ByteArray) : Int := (bt s 9 - 48) * 10 + (bt s 10 - 48)
def restB (s : ByteArray) : Bool := (List.range 8).all (good_ s) && (decide (1 ≤ month_ s ∧ month_ s ≤ 12) && nameB (s.extract 12 s.size))
def names_dated.f (a0 : ByteArray) (a1 : ByteArray) : Option Bool :=
  if a1.size ≤ 100 then (if nameB a0 = true then (if 12 < a0.size then (strings_HasPrefix.f a0 (a1 ++ (⟨#[46]⟩ : ByteArray))).bind fun p => if p = true then some (restB a0) else some false else some false) else some false) else none
theorem name_le (s : ByteArray) (h : nameB s = true) : s.size ≤ 64 := by
  unfold nameB at h
  rw [Bool.and_eq_true] at h
  exact (of_decide_eq_true h.1).2.1
theorem all_range_take {f : Nat → Bool} {n m : Nat} (h : (List.range n).all f = false) (hm : n ≤ m) : (List.range m).all f = false := by
  rw [Bool.eq_false_iff] at h ⊢
  intro hh
  apply h
  rw [List.all_eq_true] at hh ⊢
  intro x hx
  exact hh x (List.mem_range.mpr (by have := List.mem_range.mp hx; omega))
def pat_ : ByteArray := ⟨#[100, 100, 100, 100, 45, 100, 100, 46]⟩
theorem pat_at : ∀ (pos : Nat) (h : pos < pat_.size), (pat_[pos]'h).toNat = if pos = 4 then 45 else if pos = 7 then 46 else 100
  | 0, _ => rfl | 1, _ => rfl | 2, _ => rfl | 3, _ => rfl | 4, _ => rfl | 5, _ => rfl | 6, _ => rfl | 7, _ => rfl
  | n + 8, h => absurd (show n + 8 < 8 from h) (by omega)
theorem restB_bad (s : ByteArray) (pos : Nat) (hp : pos < 8) (h : (List.range (pos + 1)).all (good_ s) = false) : restB s = false := by
  unfold restB
  rw [all_range_take h (by omega)]
  rfl
set_option maxHeartbeats 8000000 in
set_option maxRecDepth 100000 in
theorem names_dated.calls (a0 : ByteArray) (a1 : ByteArray) (r : Bool) (w : World) (h : names_dated.f a0 a1 = some r) :
    Calls Tryz.prog 116 #[.string a0, .string a1] w fun e w' => e = .returned (.bool r) ∧ Below w.heap.size w w' := by
  have HB := Aside0.mk (Below.refl w.heap.size w)
  unfold names_dated.f at h
  by_cases h0 : a1.size ≤ 100
  · rw [if_pos h0] at h
    have hc0 : a1.size + 1 ≤ 9223372036854775807 := by omega
    have hc1 := eq_true hc0
    have hc2 : decide (a1.size + 1 ≤ 9223372036854775807) = true := decide_eq_true hc0
    have hc3 : (9223372036854775807 < a1.size + 1) = False := eq_false (Nat.not_lt.2 hc0)
    by_cases h1 : nameB a0 = true
    · rw [if_pos h1] at h
      have h64 := name_le a0 h1
      have HN : names_Name.f a0 = some true := congrArg some h1
      by_cases h2 : 12 < a0.size
      · rw [if_pos h2] at h
        have d2 : decide (a0.size ≤ 12) = false := decide_eq_false (by omega)
        have d3 : decide ((a0.size : Int) ≤ 12) = false := decide_eq_false (by omega)
        replace h := Option.bind_eq_some_iff.mp h
        obtain ⟨p, hp, h⟩ := h
        cases p
        · rw [if_neg (by decide)] at h
          obtain rfl := Option.some.inj h
          clear h h1
          have HN' := Aside0.mk HN
          have HP := Aside0.mk hp
          clear HN hp h2 h64 h0
          go_enter Tryz.func116, Tryz.ntmps116
          go_wp2_with (first
            | (go_at_call 122; refine (names_Name.calls a0 true _ HN'.out).mono ?_; rintro e w1 ⟨rfl, hb⟩; have n1_ := Aside0.mk (below_step HB.out hb); clear HB hb; have HB := n1_; clear n1_)
            | (go_at_call 123; refine (strings_HasPrefix.calls a0 (a1 ++ (⟨#[46]⟩ : ByteArray)) false _ HP.out).mono ?_; rintro e w2 ⟨rfl, ⟨nd, rfl⟩⟩; have n1_ := Aside0.mk (pw_below_drewN HB.out nd); clear HB; have HB := n1_; clear n1_))
          go_ret
          exact ⟨rfl, HB.out⟩
        · rw [if_pos rfl] at h
          obtain rfl := Option.some.inj h
          clear h h1
          have HN' := Aside0.mk HN
          have HP := Aside0.mk hp
          clear HN hp h0
          obtain ⟨R, hR⟩ : ∃ R, R = restB a0 := ⟨_, rfl⟩
          rw [← hR]
          replace hR := Aside0.mk hR
          have hps : pat_.size = 8 := rfl
          obtain ⟨pt, hpt⟩ : ∃ pt, pt = pat_ := ⟨_, rfl⟩
          go_enter Tryz.func116, Tryz.ntmps116
          go_wp2_with (first
            | (go_at_call 122; refine (names_Name.calls a0 true _ HN'.out).mono ?_; rintro e w1 ⟨rfl, hb⟩; have n1_ := Aside0.mk (below_step HB.out hb); clear HB hb; have HB := n1_; clear n1_)
            | (go_at_call 123; refine (strings_HasPrefix.calls a0 (a1 ++ (⟨#[46]⟩ : ByteArray)) true _ HP.out).mono ?_; rintro e w2 ⟨rfl, ⟨nd, hnd⟩⟩; have n1_ := Aside0.mk (show Below w.heap.size w w2 by rw [hnd]; exact pw_below_drewN HB.out nd); clear HB hnd; have HB := n1_; clear n1_))
          have hbd : ∀ i : Int, 0 ≤ bt a0 i ∧ bt a0 i < 256 := fun i => by
            unfold bt
            split
            · rename_i hh
              have := (a0[i.toNat]'hh).toNat_lt
              omega
            · omega
          have hl12 : 12 < a0.size := h2
          clear h2
          go_loopw [5] (fun _ wr => ∃ pos : Nat, pos ≤ 8 ∧ wr = w2.iter pat_ pos ∧ Aside0 ((List.range pos).all (good_ a0) = true)) (fun _ wr => 8 - wr.iterPos w2.heap.size)
          case atStart => exact ⟨0, by omega, rfl, ⟨rfl⟩⟩
          case round =>
            obtain ⟨pos, hpos, rfl, HG⟩ := hrel
            by_cases hlt : pos < 8
            · have hxg : ∀ (j : Nat), 4 + j < a0.size → ∀ h : 4 + j < a0.size, ((a0[4 + j]'h).toNat : Int) = bt a0 ((4 + j : Nat) : Int) := fun j hj h => by
                unfold bt
                rw [dif_pos (show (((4 + j : Nat) : Int)).toNat < a0.size by rw [Int.toNat_natCast]; exact h)]
                rfl
              have hgs : (List.range (pos + 1)).all (good_ a0) = good_ a0 pos := by
                rw [List.range_succ, List.all_append, HG.out]
                simp
              have hx := hxg pos (by omega)
              obtain ⟨x, hxx⟩ : ∃ x, x = bt a0 ((4 + pos : Nat) : Int) := ⟨_, rfl⟩
              have hxb := hbd ((4 + pos : Nat) : Int)
              rw [← hxx] at hx hxb
              obtain ⟨hxb0, hxb1⟩ := hxb
              have hpa := pat_at pos hlt
              have hq : (4 + pos < a0.size) = True := eq_true (by omega)
              have hq2 : ((4 : Int) + (pos : Int) < (a0.size : Int)) = True := eq_true (by omega)
              have hq3 : (0 : Int) ≤ 4 + (pos : Int) := by omega
              have hq4 : ((4 : Int) + (pos : Int)).toNat = 4 + pos := by omega
              have hq5 : IntKind.i64.wrap (4 + (pos : Int)) = 4 + (pos : Int) := by rw [IntKind.wrap_i64]; omega
              by_cases p4 : pos = 4
              · rw [if_pos p4] at hpa
                have hn := run_next_ascii (P := Tryz.prog) w2 pat_ pos 0 hlt (by omega)
                rw [hpa] at hn
                have hn' : (Instr.next (.pointer (some ⟨w2.heap.size, 0, none⟩)) true 0).run Tryz.prog (w2.iter pat_ pos) = .ok (.tuple #[.bool true, .int .i64 (pos : Int), .int .i32 45]) (w2.iter pat_ (pos + 1)) := hn
                have hgd : good_ a0 pos = decide (x = 45) := by
                  unfold good_
                  rw [if_pos p4, hxx, p4]
                  rfl
                rw [hgd] at hgs
                clear hpa hn p4 hgd hxx hxg
                by_cases hok : x = 45
                · have t1 : (x == 45) = true := beq_iff_eq.mpr hok
                  have t2 : (x != 45) = false := bne_eq_false_iff_eq.mpr hok
                  rw [decide_eq_true hok] at hgs
                  have HG' := Aside0.mk hgs
                  clear hok hgs HG
                  go_wp2
                  go_roundw
                  case rel => exact ⟨pos + 1, by omega, rfl, HG'⟩
                  case measure => simp; omega
                · have t1 : (x == 45) = false := beq_eq_false_iff_ne.mpr hok
                  have t2 : (x != 45) = true := bne_iff_ne.mpr hok
                  rw [decide_eq_false hok] at hgs
                  have er3 : R = false := hR.out.trans (restB_bad a0 pos hlt hgs)
                  clear hok hgs HG
                  go_wp2
                  go_ret
                  exact ⟨by rw [er3]; rfl, below_alloc HB.out _⟩
              · rw [if_neg p4] at hpa
                by_cases p7 : pos = 7
                · rw [if_pos p7] at hpa
                  have hn := run_next_ascii (P := Tryz.prog) w2 pat_ pos 0 hlt (by omega)
                  rw [hpa] at hn
                  have hn' : (Instr.next (.pointer (some ⟨w2.heap.size, 0, none⟩)) true 0).run Tryz.prog (w2.iter pat_ pos) = .ok (.tuple #[.bool true, .int .i64 (pos : Int), .int .i32 46]) (w2.iter pat_ (pos + 1)) := hn
                  have hgd : good_ a0 pos = decide (x = 46) := by
                    unfold good_
                    rw [if_neg p4, if_pos p7, hxx, p7]
                    rfl
                  rw [hgd] at hgs
                  clear hpa hn p4 p7 hgd hxx hxg
                  by_cases hok : x = 46
                  · have t1 : (x == 46) = true := beq_iff_eq.mpr hok
                    have t2 : (x != 46) = false := bne_eq_false_iff_eq.mpr hok
                    rw [decide_eq_true hok] at hgs
                    have HG' := Aside0.mk hgs
                    clear hok hgs HG
                    go_wp2
                    go_roundw
                    case rel => exact ⟨pos + 1, by omega, rfl, HG'⟩
                    case measure => simp; omega
                  · have t1 : (x == 46) = false := beq_eq_false_iff_ne.mpr hok
                    have t2 : (x != 46) = true := bne_iff_ne.mpr hok
                    rw [decide_eq_false hok] at hgs
                    have er3 : R = false := hR.out.trans (restB_bad a0 pos hlt hgs)
                    clear hok hgs HG
                    go_wp2
                    go_ret
                    exact ⟨by rw [er3]; rfl, below_alloc HB.out _⟩
                · rw [if_neg p7] at hpa
                  have hn := run_next_ascii (P := Tryz.prog) w2 pat_ pos 0 hlt (by omega)
                  rw [hpa] at hn
                  have hn' : (Instr.next (.pointer (some ⟨w2.heap.size, 0, none⟩)) true 0).run Tryz.prog (w2.iter pat_ pos) = .ok (.tuple #[.bool true, .int .i64 (pos : Int), .int .i32 100]) (w2.iter pat_ (pos + 1)) := hn
                  have hgd : good_ a0 pos = decide (48 ≤ x ∧ x ≤ 57) := by
                    unfold good_
                    rw [if_neg p4, if_neg p7, hxx]
                  rw [hgd] at hgs
                  clear hpa hn p4 p7 hgd hxx hxg
                  by_cases hlo : x < 48
                  · have t1 : decide (x < 48) = true := decide_eq_true hlo
                    rw [decide_eq_false (by omega)] at hgs
                    have er3 : R = false := hR.out.trans (restB_bad a0 pos hlt hgs)
                    clear hlo hgs HG
                    go_wp2
                    go_ret
                    exact ⟨by rw [er3]; rfl, below_alloc HB.out _⟩
                  · have t1 : decide (x < 48) = false := decide_eq_false hlo
                    by_cases hhi : x > 57
                    · have t2 : decide (57 < x) = true := decide_eq_true hhi
                      rw [decide_eq_false (by omega)] at hgs
                      have er3 : R = false := hR.out.trans (restB_bad a0 pos hlt hgs)
                      clear hlo hhi hgs HG
                      go_wp2
                      go_ret
                      exact ⟨by rw [er3]; rfl, below_alloc HB.out _⟩
                    · have t2 : decide (57 < x) = false := decide_eq_false hhi
                      rw [decide_eq_true (by omega)] at hgs
                      have HG' := Aside0.mk hgs
                      clear hlo hhi hgs HG
                      go_wp2
                      go_roundw
                      case rel => exact ⟨pos + 1, by omega, rfl, HG'⟩
                      case measure => simp; omega
            · have hp8 : pos = 8 := by omega
              subst hp8
              have hn := run_next_end (P := Tryz.prog) w2 pat_ 8 0 (by decide)
              have hall := HG.out
              have g5 : good_ a0 5 = true := List.all_eq_true.mp hall 5 (by decide)
              have g6 : good_ a0 6 = true := List.all_eq_true.mp hall 6 (by decide)
              have g5' : 48 ≤ bt a0 9 ∧ bt a0 9 ≤ 57 := of_decide_eq_true (show decide (48 ≤ bt a0 9 ∧ bt a0 9 ≤ 57) = true from g5)
              have g6' : 48 ≤ bt a0 10 ∧ bt a0 10 ≤ 57 := of_decide_eq_true (show decide (48 ≤ bt a0 10 ∧ bt a0 10 ≤ 57) = true from g6)
              have hr : Aside0 (R = (decide (1 ≤ month_ a0 ∧ month_ a0 ≤ 12) && nameB (a0.extract 12 a0.size))) := ⟨by
                rw [hR.out]
                unfold restB
                rw [hall]
                rfl⟩
              have hx9 : ∀ h : 9 < a0.size, ((a0[9]'h).toNat : Int) = bt a0 9 := bt_at a0 9
              have hx10 : ∀ h : 10 < a0.size, ((a0[10]'h).toNat : Int) = bt a0 10 := bt_at a0 10
              have hq9 : (9 < a0.size) = True := eq_true (by omega)
              have hq10 : (10 < a0.size) = True := eq_true (by omega)
              have hz9 : ((9 : Int) < (a0.size : Int)) = True := eq_true (by omega)
              have hz10 : ((10 : Int) < (a0.size : Int)) = True := eq_true (by omega)
              have hmo : month_ a0 = (bt a0 9 - 48) * 10 + (bt a0 10 - 48) := rfl
              rw [hmo] at hr
              generalize bt a0 9 = u at *
              generalize bt a0 10 = v at *
              obtain ⟨hu0, hu1⟩ := g5'
              obtain ⟨hv0, hv1⟩ := g6'
              clear g5 g6 hall HG hmo hR hbd
              by_cases m1 : 1 ≤ (u - 48) * 10 + (v - 48)
              · have t1 : decide ((1 : Int) ≤ (u - 48) * 10 + (v - 48)) = true := decide_eq_true m1
                by_cases m2 : (u - 48) * 10 + (v - 48) ≤ 12
                · have t2 : decide ((u - 48) * 10 + (v - 48) ≤ (12 : Int)) = true := decide_eq_true m2
                  have er3 : R = nameB (a0.extract 12 a0.size) := by rw [hr.out, decide_eq_true ⟨m1, m2⟩]; rfl
                  have HM : Aside0 (names_Name.f (a0.extract 12 a0.size) = some R) := ⟨by rw [er3]; rfl⟩
                  have hs12 : (12 : Int) ≤ (a0.size : Int) := by omega
                  clear hr er3
                  go_wp2
                  go_quiet (fail)
                  have HB3 : Aside0 (Below w.heap.size w ((w2.iter pat_ 8).drewN nq)) := ⟨pw_below_drewN (below_alloc HB.out _) nq⟩
                  clear HB hn
                  generalize ((w2.iter pat_ 8).drewN nq) = w3 at HB3 ⊢
                  go_wp2_with (first
                    | (go_at_call 122; refine (names_Name.calls (a0.extract 12 a0.size) R _ HM.out).mono ?_; rintro e w4 ⟨rfl, hb⟩; have n1_ := Aside0.mk (below_step HB3.out hb); clear HB3 hb; have HB3 := n1_; clear n1_))
                  go_ret
                  exact ⟨rfl, HB3.out⟩
                · have t2 : decide ((u - 48) * 10 + (v - 48) ≤ (12 : Int)) = false := decide_eq_false m2
                  have er3 : R = false := by rw [hr.out, decide_eq_false (fun z => m2 z.2)]; rfl
                  clear hr
                  go_wp2
                  go_quiet (fail)
                  go_wp2
                  go_ret
                  exact ⟨by rw [er3]; rfl, pw_below_drewN (below_alloc HB.out _) _⟩
              · have t1 : decide ((1 : Int) ≤ (u - 48) * 10 + (v - 48)) = false := decide_eq_false m1
                have er3 : R = false := by rw [hr.out, decide_eq_false (fun z => m1 z.1)]; rfl
                clear hr
                go_wp2
                go_quiet (fail)
                go_wp2
                go_ret
                exact ⟨by rw [er3]; rfl, pw_below_drewN (below_alloc HB.out _) _⟩
      · rw [if_neg h2] at h
        obtain rfl := Option.some.inj h
        have d2 : decide (a0.size ≤ 12) = true := decide_eq_true (by omega)
        have d3 : decide ((a0.size : Int) ≤ 12) = true := decide_eq_true (by omega)
        have HN' := Aside0.mk HN
        clear HN h h1 h0 h2 h64
        go_enter Tryz.func116, Tryz.ntmps116
        go_wp2_with (first
          | (go_at_call 122; refine (names_Name.calls a0 true _ HN'.out).mono ?_; rintro e w1 ⟨rfl, hb⟩; have n1_ := Aside0.mk (below_step HB.out hb); clear HB hb; have HB := n1_; clear n1_))
        go_ret
        exact ⟨rfl, HB.out⟩
    · rw [if_neg h1] at h
      obtain rfl := Option.some.inj h
      have HN : names_Name.f a0 = some false := congrArg some (by simpa using h1)
      have HN' := Aside0.mk HN
      clear HN h h1 h0
      go_enter Tryz.func116, Tryz.ntmps116
      go_wp2_with (first
        | (go_at_call 122; refine (names_Name.calls a0 false _ HN'.out).mono ?_; rintro e w1 ⟨rfl, hb⟩; have n1_ := Aside0.mk (below_step HB.out hb); clear HB hb; have HB := n1_; clear n1_))
      go_ret
      exact ⟨rfl, HB.out⟩
  · rw [if_neg h0] at h
    exact absurd h (by simp)
def names_Iqn.f (a0 : ByteArray) : Option (Bool) := (names_dated.f a0 (⟨#[105, 113, 110]⟩ : ByteArray)).bind fun t173 => (some t173)
set_option maxHeartbeats 8000000 in
set_option maxRecDepth 100000 in
theorem names_Iqn.calls (a0 : ByteArray) (r : Bool) (w : World) (h : names_Iqn.f a0 = some r) :
    Calls Tryz.prog 105 #[.string a0] w fun e w' => e = .returned (.bool r) ∧ Below w.heap.size w w' := by
  have HB := Aside0.mk (Below.refl w.heap.size w)
  have H : ((names_dated.f a0 (⟨#[105, 113, 110]⟩ : ByteArray)).bind fun t173 => (some t173)) = some r := h
  clear h
  replace H := Option.bind_eq_some_iff.mp H
  obtain ⟨t173, A20, H⟩ := H
  replace H : (some t173) = some r := H
  have A2 := Aside0.mk A20
  clear A20
  obtain rfl := Option.some.inj H
  go_enter Tryz.func105, Tryz.ntmps105
  go_wp2_with (first | ((with_reducible refine gate_callee (f := 116) rfl ?_); refine goesL_ (some 4) rfl rfl Tryz.func116 (by kernel_rfl) rfl #[.string a0, .string (⟨#[105, 113, 110]⟩ : ByteArray)] rfl (by (try simp only [List.map_toArray, List.map_cons, List.map_nil]); first | done | rfl | (simp only [List.length_drop, List.length_take]; rfl)) ?_; (with_reducible refine (names_dated.calls a0 (⟨#[105, 113, 110]⟩ : ByteArray) t173 _ A2.out).mono ?_); rintro e w3 ⟨rfl, hb⟩; refine ⟨_, rfl, ?_⟩; have n0_ := Aside0.mk (below_step (by repeat (first | (with_reducible first | exact HB.out | apply below_alloc | apply pw_below_drewN | apply below_drew1) | exact HB.out)) hb); clear HB; have HB := n0_; clear n0_; (try clear hb); (try clear hb2); (try clear hk); (try clear hi)))
  go_ret
  exact ⟨by first | rfl | (simp [errW_none, errW_some] <;> rfl) | (simp [*, errW_none, errW_some] <;> rfl) | (simp [bt, *]; done) | (unfold bt; simp [*]; done), by repeat (first | (with_reducible first | exact HB.out | apply below_alloc | apply pw_below_drewN | apply below_drew1) | exact HB.out)⟩
def pieces (s : ByteArray) : List ByteArray := Go.Lib.splitB (⟨#[44]⟩ : ByteArray) 0 (Go.Lib.countB s (⟨#[44]⟩ : ByteArray)) s
def isOne (L : List ByteArray) (x : ByteArray) : Bool := L.any fun y => x.toList == y.toList
def chosen (L : List ByteArray) (s : ByteArray) : Option ByteArray := (pieces s).find? (isOne L)
def chosenV (L : List ByteArray) (s : ByteArray) : Value := match chosen L s with | some x => .tuple #[.string x, .bool true] | none => .tuple #[.string (⟨#[]⟩ : ByteArray), .bool false]
theorem find_at {α : Type} (p : α → Bool) : ∀ (l : List α) (k : Nat) (h : k < l.length), (∀ x ∈ l.take k, p x = false) → l.find? p = if p l[k] = true then some l[k] else (l.drop (k + 1)).find? p
  | a :: l, 0, h, _ => by
    rw [List.find?_cons]
    cases hp : p a <;> simp [hp]
  | a :: l, k + 1, h, hn => by
    have h1 := hn a (by simp)
    rw [List.find?_cons, h1]
    exact find_at p l k (by simpa using h) (fun x hx => hn x (by simp [hx]))
theorem find_none {α : Type} (p : α → Bool) (l : List α) (h : ∀ x ∈ l.take l.length, p x = false) : l.find? p = none := by
  rw [List.find?_eq_none]
  intro x hx
  rw [h x (by simpa using hx)]
  decide
set_option maxHeartbeats 8000000 in
set_option maxRecDepth 100000 in
theorem choice_calls (s : ByteArray) (gl cl : Nat) (L : List ByteArray) (w : World) (hG : Glob w) (hs : s.size ≤ 1000000) (hL : L.length ≤ 1000) (hgl : gl < w.heap.size) (hc : ∀ j (h : j < L.length), w.cell? ⟨gl, j, none⟩ = some (.string L[j])) :
    Calls Tryz.prog 98 #[.string s, .slice (some ⟨gl, 0, none⟩) L.length cl] w fun e w' => e = .returned (chosenV L s) ∧ Below w.heap.size w w' := by
  have HG := Aside0.mk hG
  have HC := Aside0.mk hc
  have HGL := Aside0.mk hgl
  have HS := Aside0.mk hs
  clear hG hc hgl hs
  obtain ⟨N, hN⟩ : ∃ N, Go.Lib.countB s (⟨#[44]⟩ : ByteArray) + 1 = N := ⟨_, rfl⟩
  have hP : (pieces s).length = N := (Go.Lib.splitB_all (⟨#[44]⟩ : ByteArray) (by decide) 0 _ s rfl).trans hN
  have hNs : N ≤ 1000001 := by have := Go.Lib.countB_le (⟨#[44]⟩ : ByteArray) (by decide) s.size s (Nat.le_refl _); have := HS.out; omega
  obtain ⟨P, hPe⟩ : ∃ P, pieces s = P := ⟨_, rfl⟩
  have HPE := Aside0.mk hPe
  rw [hPe] at hP
  obtain ⟨V, hV⟩ : ∃ V, chosenV L s = V := ⟨_, rfl⟩
  rw [hV]
  have HVs : ∀ x, P.find? (isOne L) = some x → Value.tuple #[.string x, .bool true] = V := fun x h => by rw [← hV]; unfold chosenV chosen; rw [hPe, h]
  have HVn : P.find? (isOne L) = none → Value.tuple #[.string (⟨#[]⟩ : ByteArray), .bool false] = V := fun h => by rw [← hV]; unfold chosenV chosen; rw [hPe, h]
  have HVS := Aside0.mk HVs
  have HVN := Aside0.mk HVn
  clear HVs HVn hV
  have HN := Aside0.mk hN
  clear hPe hN
  obtain ⟨m, hm⟩ := HG.out.internal_bytealg_MaxLen
  have HM := Aside0.mk hm
  clear hm
  go_enter Tryz.func98, Tryz.ntmps98
  go_wp2_with (go_at_call 109; refine (Tryz.strings_Split s (⟨#[44]⟩ : ByteArray) m _ (Nat.lt_of_le_of_lt HS.out (by decide)) HM.out (by decide)).mono ?_; rintro e w1 ⟨rfl, hw1⟩; rw [HN.out]; have HW1 := Aside0.mk hw1; clear hw1)
  have hB := HW1.out
  have hcell : ∀ j (h : j < P.length), w1.cell? ⟨w.heap.size, j, none⟩ = some (.string P[j]) := by
    intro j h
    have e : Go.Lib.splitB (⟨#[44]⟩ : ByteArray) 0 (Go.Lib.countB s (⟨#[44]⟩ : ByteArray)) s = P := HPE.out
    have hb : w1.heap[w.heap.size]? = some (.cells (P.map Value.string).toArray 9 (0, 0)) := by rw [hB, e]; exact Array.getElem?_push_size
    rw [blk_cell hb j]
    simp [h]
  have hlow : Below w.heap.size w w1 := by rw [hB]; exact below_alloc (Below.refl _ _) _
  have hcl : ∀ j (h : j < L.length), w1.cell? ⟨gl, j, none⟩ = some (.string L[j]) := fun j h => (hlow.cell (p := ⟨gl, j, none⟩) HGL.out).trans (HC.out j h)
  have HCL := Aside0.mk hcl
  have HCP := Aside0.mk hcell
  have HLOW := Aside0.mk hlow
  clear hcl hcell hlow hB HW1 HC
  have HP := Aside0.mk hP
  have HNS := Aside0.mk hNs
  clear hP hNs
  go_loop [13] (fun vi => ∃ i : Nat, vi = .int .i64 i ∧ i ≤ N ∧ Aside0 (∀ x ∈ P.take i, isOne L x = false)) (fun vi => N - (intOf vi).toNat)
  case atStart => exact ⟨0, rfl, by omega, ⟨by intro x hx; cases hx⟩⟩
  case round =>
    obtain ⟨i, rfl, hi, hn⟩ := hrel
    have hNs := HNS.out
    by_cases hlt : i < N
    · have hiP : i < P.length := by rw [HP.out]; exact hlt
      have hci := HCP.out i hiP
      have HF := Aside0.mk (find_at (isOne L) P i hiP hn.out)
      obtain ⟨x, hx⟩ : ∃ x, P[i] = x := ⟨_, rfl⟩
      rw [hx] at hci
      have HX := Aside0.mk hx
      clear hx
      go_wp2
      go_loop [19] (fun vj => ∃ j : Nat, vj = .int .i64 j ∧ j ≤ L.length ∧ Aside0 (∀ y ∈ L.take j, (x.toList == y.toList) = false)) (fun vj => L.length - (intOf vj).toNat)
      case atStart => exact ⟨0, rfl, by omega, ⟨by intro x hx; cases hx⟩⟩
      case round =>
        obtain ⟨j, rfl, hj, hm⟩ := hrel
        by_cases hjl : j < L.length
        · have hcj := HCL.out j hjl
          obtain ⟨y, hy⟩ : ∃ y, L[j] = y := ⟨_, rfl⟩
          rw [hy] at hcj
          have HY := Aside0.mk hy
          clear hy
          by_cases he : (x.toList == y.toList) = true
          · have HE := Aside0.mk he
            have hone : isOne L P[i] = true := by rw [HX.out]; exact List.any_eq_true.mpr ⟨L[j], List.getElem_mem hjl, by rw [HY.out]; exact HE.out⟩
            have hfind : P.find? (isOne L) = some x := by rw [HF.out, if_pos hone, HX.out]
            have HFI := Aside0.mk hfind
            clear hone hfind
            go_wp2
            go_ret2
            exact ⟨congrArg Ending.returned (HVS.out _ HFI.out), HLOW.out⟩
          · have he : (x.toList == y.toList) = false := by simpa using he
            have HE := Aside0.mk he
            go_wp2
            go_round
            case rel => exact ⟨j + 1, by go_num, by omega, ⟨take_one (fun y => x.toList == y.toList) L j hjl hm.out (by rw [HY.out]; exact HE.out)⟩⟩
            case measure => simp [intOf]; omega
        · have hjl : j = L.length := by omega
          subst hjl
          have hone : isOne L P[i] = false := by
            rw [HX.out]
            exact List.any_eq_false.mpr fun y hy => by rw [hm.out y (by simpa using hy)]; decide
          have HO := Aside0.mk (take_one (isOne L) P i hiP hn.out hone)
          clear hone
          go_wp2
          go_round
          case rel => exact ⟨i + 1, by go_num, by omega, HO⟩
          case measure => simp [intOf]; omega
    · have hiN : i = P.length := by rw [HP.out]; omega
      have hfind : P.find? (isOne L) = none := find_none _ _ (by rw [← hiN]; exact hn.out)
      have HFI := Aside0.mk hfind
      clear hfind hiN
      go_wp2
      go_ret2
      exact ⟨congrArg Ending.returned (HVN.out HFI.out), HLOW.out⟩
def pu (n : Nat) : List UInt8 → Nat × Int
  | [] => (n, 0)
  | c :: l => if 48 ≤ c.toNat ∧ c.toNat ≤ 57 then (if n * 10 + (c.toNat - 48) ≤ 16777215 then pu (n * 10 + (c.toNat - 48)) l else (16777215, 1)) else (0, 2)
def puErr (e : Int) : Value := if e = 0 then .nilIface else .iface 186 (.int .i64 e)
def puTup (r : Nat × Int) : Value := .tuple #[.int .u64 (r.1 : Nat), puErr r.2]
theorem pu_lt : ∀ (l : List UInt8) (n : Nat), n ≤ 16777215 → (pu n l).1 ≤ 16777215
  | [], n, h => h
  | c :: l, n, h => by
    unfold pu
    split
    · split
      · next h1 => exact pu_lt l _ h1
      · exact Nat.le_refl _
    · exact Nat.zero_le _
theorem pu_err : ∀ (l : List UInt8) (n : Nat), (pu n l).2 = 0 ∨ (pu n l).2 = 1 ∨ (pu n l).2 = 2
  | [], n => Or.inl rfl
  | c :: l, n => by
    unfold pu
    split
    · split
      · exact pu_err l _
      · exact Or.inr (Or.inl rfl)
    · exact Or.inr (Or.inr rfl)
set_option maxHeartbeats 8000000 in
set_option maxRecDepth 100000 in
theorem parse_inner (s : ByteArray) (w : World) (h0 : 0 < s.size) (h8 : s.size ≤ 8) :
    Calls Tryz.prog 117 #[.string s, .int .i64 10, .int .i64 24] w fun e w' => e = .returned (puTup (pu 0 s.data.toList)) ∧ Below w.heap.size w w' := by
  have hemp : s.toList.isEmpty = false := by
    rw [← decide_eq_emptyBytes]
    exact decide_eq_false (fun h => by rw [h] at h0; exact absurd h0 (by decide))
  have hcv := Go.Lib.run_convert_string_bytes (P := Tryz.prog) w 9 78 5 s (u := .string) Tryz.underlying9 Tryz.underlying78 Tryz.underlying5
  have hB : ∀ j, j < s.size → (Go.Lib.bytesWorld w 5 s).cell? ⟨w.heap.size, j, none⟩ = some (.int .u8 (s.data.toList.getD j 0).toNat) := fun j hj => Go.Lib.bytesWorld_cell w 5 s j hj
  have hW := Aside0.mk (Go.Lib.bytesWorld_below w 5 s)
  obtain ⟨W1, hW1⟩ : ∃ W1, W1 = Go.Lib.bytesWorld w 5 s := ⟨_, rfl⟩
  rw [← hW1] at hcv hB hW
  clear hW1
  obtain ⟨bs, hL⟩ : ∃ bs, bs = s.data.toList := ⟨_, rfl⟩
  have hLn : bs.length = s.size := by rw [hL]; rfl
  rw [← hL] at hB ⊢
  clear hL
  have hmv : IntKind.u64.wrap (IntKind.u64.wrap 16777216 - 1) = 16777215 := by
    rw [IntKind.wrap_u64, IntKind.wrap_u64]
    decide
  go_enter Tryz.func117, Tryz.ntmps117
  go_wp2
  go_loop [12, 13, 101] (fun vu vn vi => ∃ (k acc : Nat) (a : Int), vu = .bool false ∧ vn = .int .u64 a ∧ vi = .int .i64 k ∧ k ≤ s.size ∧ Hid (a = (acc : Int) ∧ acc ≤ 16777215 ∧ pu 0 bs = pu acc (bs.drop k))) (fun _ _ vi => s.size - (intOf vi).toNat)
  case atStart => exact ⟨0, 0, 0, rfl, rfl, rfl, by omega, rfl, by omega, rfl⟩
  case round =>
    obtain ⟨k, acc, a, rfl, rfl, rfl, hk, hh⟩ := hrel
    obtain ⟨ha, hacc, hdec⟩ := hh.out
    clear hh
    have a0 : 0 ≤ a := by omega
    have a1 : a ≤ 16777215 := by omega
    by_cases hkn : k < s.size
    · have hc := hB k hkn
      have hdrop : bs.drop k = bs[k]'(by omega) :: bs.drop (k + 1) := List.drop_eq_getElem_cons (by omega)
      have hget : bs.getD k 0 = bs[k]'(by omega) := by simp [List.getD, List.getElem?_eq_getElem (show k < bs.length by omega)]
      rw [hdrop] at hdec
      rw [hget] at hc
      generalize bs[k]'(by omega) = c at hc hdec
      have hc256 : c.toNat < 256 := c.toNat_lt
      clear hB hdrop hget
      by_cases hdig : 48 ≤ c.toNat ∧ c.toNat ≤ 57
      · by_cases hov : acc * 10 + (c.toNat - 48) ≤ 16777215
        · have hF : pu acc (c :: bs.drop (k + 1)) = pu (acc * 10 + (c.toNat - 48)) (bs.drop (k + 1)) := by rw [pu, if_pos hdig, if_pos hov]
          obtain ⟨hd0, hd1⟩ := hdig
          have HN : Hid (a * 10 + ((c.toNat : Int) - 48) = ((acc * 10 + (c.toNat - 48) : Nat) : Int) ∧ acc * 10 + (c.toNat - 48) ≤ 16777215 ∧ pu 0 bs = pu (acc * 10 + (c.toNat - 48)) (bs.drop (k + 1))) := ⟨by omega, by omega, hdec.trans hF⟩
          have iov : a * 10 + ((c.toNat : Int) - 48) ≤ 16777215 := by omega
          clear hacc hF hov hdec ha
          go_wp2
          refine ⟨⟨k + 1, acc * 10 + (c.toNat - 48), a * 10 + ((c.toNat : Int) - 48), rfl, (by first | rfl | (congr 1; omega)), (by first | rfl | (congr 1; omega)), by omega, HN⟩, by simp [intOf]; omega⟩
        · have hF : pu acc (c :: bs.drop (k + 1)) = (16777215, 1) := by rw [pu, if_pos hdig, if_neg hov]
          obtain ⟨hd0, hd1⟩ := hdig
          rw [hF] at hdec
          have iov : 16777215 < a * 10 + ((c.toNat : Int) - 48) := by omega
          clear hacc hF hov ha
          go_wp2
          go_ret2
          first | exact ⟨rfl, hW.out⟩ | exact ⟨by rw [hdec]; rfl, hW.out⟩
      · have hF : pu acc (c :: bs.drop (k + 1)) = (0, 2) := by rw [pu, if_neg hdig]
        rw [hF] at hdec
        clear hacc hF ha
        have hv0 := bits_lo_u8 .or (c.toNat : Int) 32
        have hv1 := bits_hi_u8 .or (c.toNat : Int) 32
        have hu0 := bits_lo_u8 .or 95 32
        have hu1 := bits_hi_u8 .or 95 32
        go_wp2_with (go_at_call 124; refine (Tryz.internal_strconv_lower _ _).mono ?_; rintro e w' ⟨rfl, rfl⟩)
        all_goals go_ret2
        all_goals first | exact ⟨rfl, hW.out⟩ | exact ⟨by rw [hdec]; rfl, hW.out⟩
    · have hkk : k = s.size := by omega
      subst hkk
      have hF : pu acc (bs.drop s.size) = (acc, 0) := by rw [List.drop_eq_nil_of_le (by omega)]; rfl
      rw [hF] at hdec
      subst ha
      clear hacc hF a0 a1
      go_wp2
      go_ret2
      first | exact ⟨rfl, hW.out⟩ | exact ⟨by rw [hdec]; rfl, hW.out⟩
set_option maxHeartbeats 4000000 in
set_option maxRecDepth 100000 in
theorem parse_good (s : ByteArray) (n : Nat) (w : World) (h0 : 0 < s.size) (h8 : s.size ≤ 8) (h : pu 0 s.data.toList = (n, 0)) :
    Calls Tryz.prog 107 #[.string s, .int .i64 10, .int .i64 24] w fun e w' => e = .returned (.tuple #[.int .u64 (n : Nat), .nilIface]) ∧ Below w.heap.size w w' := by
  have HH := Aside0.mk h
  have HB := Aside0.mk (Below.refl w.heap.size w)
  clear h
  go_enter Tryz.func107, Tryz.ntmps107
  go_wp2_with (go_at_call 117; refine (parse_inner s _ h0 h8).mono ?_; rintro e w1 ⟨rfl, hb⟩; have HB1 := Aside0.mk hb; clear hb; rw [HH.out, show puTup (n, 0) = .tuple #[.int .u64 (n : Nat), .nilIface] from rfl])
  go_ret2
  exact ⟨rfl, HB1.out⟩
set_option maxHeartbeats 4000000 in
set_option maxRecDepth 100000 in
theorem parse_range (s : ByteArray) (n : Nat) (w : World) (h0 : 0 < s.size) (h8 : s.size ≤ 8) (h : pu 0 s.data.toList = (n, 1)) (hG : G_strconv_ErrRange w) :
    Calls Tryz.prog 107 #[.string s, .int .i64 10, .int .i64 24] w fun e w' => (∃ t p, e = .returned (.tuple #[.int .u64 (n : Nat), .iface t p])) ∧ Below w.heap.size w w' := by
  have HH := Aside0.mk h
  have HB := Aside0.mk (Below.refl w.heap.size w)
  have HG := Aside0.mk hG
  have H8 := Aside0.mk h8
  clear h hG h8
  go_enter Tryz.func107, Tryz.ntmps107
  go_wp2_with (go_at_call 117; refine (parse_inner s _ h0 H8.out).mono ?_; rintro e w1 ⟨rfl, hb⟩; have HB1 := Aside0.mk hb; clear hb; rw [HH.out, show puTup (n, 1) = .tuple #[.int .u64 (n : Nat), .iface 186 (.int .i64 1)] from rfl])
  obtain ⟨ev, h1, h2⟩ := G_strconv_ErrRange.keep HG.out HB1.out
  have H1 := Aside0.mk h1
  have H2 := Aside0.mk h2
  clear h1 h2
  go_wp2_with (go_at_call 118; with_reducible refine (Tryz.strconv_toError_range _ s 10 24 ev _ (Nat.le_trans H8.out (by decide)) H1.out H2.out).mono ?_; rintro e w2 ⟨N, rfl, -, -, hb⟩; have HB2 := Aside0.mk (below_step HB1.out hb); clear hb)
  go_ret2
  exact ⟨⟨_, _, rfl⟩, HB2.out⟩
set_option maxHeartbeats 4000000 in
set_option maxRecDepth 100000 in
theorem parse_syntax (s : ByteArray) (n : Nat) (w : World) (h0 : 0 < s.size) (h8 : s.size ≤ 8) (h : pu 0 s.data.toList = (n, 2)) (hG : G_strconv_ErrSyntax w) :
    Calls Tryz.prog 107 #[.string s, .int .i64 10, .int .i64 24] w fun e w' => (∃ t p, e = .returned (.tuple #[.int .u64 (n : Nat), .iface t p])) ∧ Below w.heap.size w w' := by
  have HH := Aside0.mk h
  have HB := Aside0.mk (Below.refl w.heap.size w)
  have HG := Aside0.mk hG
  have H8 := Aside0.mk h8
  clear h hG h8
  go_enter Tryz.func107, Tryz.ntmps107
  go_wp2_with (go_at_call 117; refine (parse_inner s _ h0 H8.out).mono ?_; rintro e w1 ⟨rfl, hb⟩; have HB1 := Aside0.mk hb; clear hb; rw [HH.out, show puTup (n, 2) = .tuple #[.int .u64 (n : Nat), .iface 186 (.int .i64 2)] from rfl])
  obtain ⟨ev, h1, h2⟩ := G_strconv_ErrSyntax.keep HG.out HB1.out
  have H1 := Aside0.mk h1
  have H2 := Aside0.mk h2
  clear h1 h2
  go_wp2_with (go_at_call 118; with_reducible refine (Tryz.strconv_toError_syntax _ s 10 24 ev _ (Nat.le_trans H8.out (by decide)) H1.out H2.out).mono ?_; rintro e w2 ⟨N, rfl, -, -, hb⟩; have HB2 := Aside0.mk (below_step HB1.out hb); clear hb)
  go_ret2
  exact ⟨⟨_, _, rfl⟩, HB2.out⟩
def numB (s : ByteArray) (least : Int) : Int × Bool :=
  if s.size = 0 ∨ 8 < s.size ∨ (1 < s.size ∧ s.data.toList.getD 0 0 = 48) then (0, false) else (((pu 0 s.data.toList).1 : Nat), decide ((pu 0 s.data.toList).2 = 0) && decide (least ≤ ((pu 0 s.data.toList).1 : Nat)))
def keys_number.f (a0 : ByteArray) (a1 : Int) : Option (Int × Bool) := some (numB a0 a1)
theorem first_byte (s : ByteArray) (h0 : 0 < s.size) : s[0] = s.data.toList.getD 0 0 := by
  rcases s with ⟨⟨l⟩⟩
  cases l with
  | nil => exact absurd h0 (by decide)
  | cons a l => rfl
set_option maxHeartbeats 4000000 in
set_option maxRecDepth 100000 in
theorem num_bad (s : ByteArray) (least : Int) (w : World) (h : s.size = 0 ∨ 8 < s.size ∨ (1 < s.size ∧ s.data.toList.getD 0 0 = 48)) :
    Calls Tryz.prog 91 #[.string s, .int .i64 least] w fun e w' => e = .returned (.tuple #[.int .i64 0, .bool false]) ∧ Below w.heap.size w w' := by
  rcases Nat.eq_zero_or_pos s.size with h0 | h0
  · have hemp : s.toList.isEmpty = true := by
      rw [← decide_eq_emptyBytes]
      exact decide_eq_true (by rcases s with ⟨⟨l⟩⟩; cases l <;> first | rfl | cases h0)
    clear h h0
    go_enter Tryz.func91, Tryz.ntmps91
    go_wp2
    go_ret2
    exact ⟨rfl, Below.refl _ _⟩
  · have hemp : s.toList.isEmpty = false := by
      rw [← decide_eq_emptyBytes]
      exact decide_eq_false (fun h => by rw [h] at h0; exact absurd h0 (by decide))
    by_cases h8 : 8 < s.size
    · have i8 : (8 : Int) < s.size := by omega
      clear h
      go_enter Tryz.func91, Tryz.ntmps91
      go_wp2
      go_ret2
      exact ⟨rfl, Below.refl _ _⟩
    · obtain ⟨h1, hx⟩ : 1 < s.size ∧ s.data.toList.getD 0 0 = 48 := (h.resolve_left (Nat.ne_of_gt h0)).resolve_left h8
      have i8 : (s.size : Int) ≤ 8 := by omega
      have i1 : (1 : Int) < s.size := by omega
      have ix : ((s[0].toNat : Int) == 48) = true := by rw [first_byte s h0, hx]; rfl
      clear h hx h8
      go_enter Tryz.func91, Tryz.ntmps91
      go_wp2
      go_ret2
      exact ⟨rfl, Below.refl _ _⟩
set_option maxHeartbeats 8000000 in
set_option maxRecDepth 100000 in
theorem num_good (s : ByteArray) (least : Int) (w : World) (hG : Glob w) (h0 : 0 < s.size) (h8 : s.size ≤ 8) (hx : s.size ≤ 1 ∨ 1 < s.size ∧ s.data.toList.getD 0 0 ≠ 48) :
    Calls Tryz.prog 91 #[.string s, .int .i64 least] w fun e w' => e = .returned (.tuple #[.int .i64 ((pu 0 s.data.toList).1 : Nat), .bool (decide ((pu 0 s.data.toList).2 = 0) && decide (least ≤ ((pu 0 s.data.toList).1 : Nat)))]) ∧ Below w.heap.size w w' := by
  have hemp : s.toList.isEmpty = false := by
    rw [← decide_eq_emptyBytes]
    exact decide_eq_false (fun h => by rw [h] at h0; exact absurd h0 (by decide))
  have i8 : (s.size : Int) ≤ 8 := by omega
  have hlt := pu_lt s.data.toList 0 (by omega)
  have hce := pu_err s.data.toList 0
  obtain ⟨n, c, hr⟩ : ∃ n c, pu 0 s.data.toList = (n, c) := ⟨_, _, rfl⟩
  rw [hr] at hlt hce ⊢
  dsimp only at hlt hce ⊢
  obtain ⟨a, ha⟩ : ∃ a : Int, (n : Int) = a := ⟨_, rfl⟩
  have a0 : 0 ≤ a := by omega
  have a1 : a ≤ 16777215 := by omega
  have HA := Aside0.mk ha
  have H0 := Aside0.mk h0
  have H8 := Aside0.mk h8
  have HR := Aside0.mk hr
  have HGG := Aside0.mk hG
  have hix : (s.size : Int) ≤ 1 ∨ (1 : Int) < s.size ∧ ((s[0].toNat : Int) == 48) = false := by
    rcases hx with hx | ⟨h1, hx⟩
    · exact Or.inl (by omega)
    · refine Or.inr ⟨by omega, beq_eq_false_iff_ne.mpr fun e => hx ?_⟩
      rw [first_byte s h0] at e
      exact UInt8.toNat_inj.mp (by have : ((s.data.toList.getD 0 0).toNat : Int) = 48 := e; exact Int.ofNat_inj.mp this)
  clear hx h8 hr hG hlt
  rw [ha]
  clear ha
  rcases hce with rfl | rfl | rfl
  · by_cases hl : least ≤ a
    all_goals
      rcases hix with i1 | ⟨i1, ix⟩
      all_goals
        go_enter Tryz.func91, Tryz.ntmps91
        go_wp2_with (go_at_call 107; refine (parse_good s n _ H0.out H8.out HR.out).mono ?_; rintro e w1 ⟨rfl, hb⟩; have HB1 := Aside0.mk hb; clear hb; rw [HA.out])
        go_ret2
        exact ⟨by first | rfl | (simp [hl]; done), HB1.out⟩
  · rcases hix with i1 | ⟨i1, ix⟩
    all_goals
      go_enter Tryz.func91, Tryz.ntmps91
      go_wp2_with (go_at_call 107; refine (parse_range s n _ H0.out H8.out HR.out HGG.out.strconv_ErrRange).mono ?_; rintro e w1 ⟨⟨t, p, rfl⟩, hb⟩; have HB1 := Aside0.mk hb; clear hb; rw [HA.out])
      go_ret2
      exact ⟨rfl, HB1.out⟩
  · rcases hix with i1 | ⟨i1, ix⟩
    all_goals
      go_enter Tryz.func91, Tryz.ntmps91
      go_wp2_with (go_at_call 107; refine (parse_syntax s n _ H0.out H8.out HR.out HGG.out.strconv_ErrSyntax).mono ?_; rintro e w1 ⟨⟨t, p, rfl⟩, hb⟩; have HB1 := Aside0.mk hb; clear hb; rw [HA.out])
      go_ret2
      exact ⟨rfl, HB1.out⟩
theorem keys_number.calls (a0 : ByteArray) (a1 : Int) (r1 : Int) (r2 : Bool) (w : World) (hG : Glob w) (h : keys_number.f a0 a1 = some (r1, r2)) :
    Calls Tryz.prog 91 #[.string a0, .int .i64 a1] w fun e w' => e = .returned (.tuple #[.int .i64 r1, .bool r2]) ∧ Below w.heap.size w w' := by
  have h := Option.some.inj h
  unfold numB at h
  split at h
  · next hb =>
    cases h
    exact num_bad a0 a1 w hb
  · next hb =>
    cases h
    have h0 : 0 < a0.size := Nat.pos_of_ne_zero fun z => hb (Or.inl z)
    have h8 : a0.size ≤ 8 := Nat.le_of_not_lt fun z => hb (Or.inr (Or.inl z))
    refine num_good a0 a1 w hG h0 h8 ?_
    by_cases h1 : 1 < a0.size
    · exact Or.inr ⟨h1, fun z => hb (Or.inr (Or.inr ⟨h1, z⟩))⟩
    · exact Or.inl (Nat.le_of_not_lt h1)
end Go.Proofs.YthglbmihbmneaaaGreatDoor.P
namespace Go.Proofs.YthglbmihbmneaaaGreatDoor.P
open Go.RowKit Go.Proofs.YthglbmihbmneaaaGreatDoorW.PrintWords Go.Proofs.YthglbmihbmneaaaGreatDoorW.PrintLast Go.Proofs.YthglbmihbmneaaaGreatDoorW.PrintMore
attribute [local go_sem] max2_int min2_int max_two min_two max_three min_three max_four min_four   -- for this text's walks alone
set_option linter.unusedVariables false
set_option linter.unusedSimpArgs false
set_option linter.unnecessarySimpa false
def agC (a : S24) : Array Value := #[.bool a.f0, .bool a.f1, .bool a.f2, .bool a.f3, .int .i64 a.f4, .int .i64 a.f5, .string a.f6, .string a.f7]
def RdC (n : Nat) (cap : Array Value) (cells : List (Nat × Obj)) (F : S24 → ByteArray → Option (S24 × ByteArray × Bool)) : Prop :=
  ∀ (w0 : World) (g : Nat) (a : S24) (v : ByteArray) (r : S24 × ByteArray × Bool) (w : World), Glob w0 → Below w0.heap.size w0 w → w0.heap.size ≤ g → (∀ c ∈ cells, w.heap[c.1]? = some c.2) → w.heap[g]? = some (.cells (agC a) 24 (0, 0)) → F a v = some r →
    Calls Tryz.prog n (#[.pointer (some ⟨g, 0, none⟩), .string v] ++ cap) w fun e w' => e = .returned (.tuple #[.string r.2.1, .bool r.2.2]) ∧ w'.heap[g]? = some (.cells (agC r.1) 24 (0, 0)) ∧ w.grownBy w' (some g)
theorem gb_below {w w1 : World} {row : Option Nat} (h : Below w.heap.size w w1) : w.grownBy w1 row := ⟨h.os, h.tape, h.output, h.size, fun k hk _ => h.block k hk⟩
theorem gb_drawn {w w1 : World} {row : Option Nat} (h : Drawn0 w w1) : w.grownBy w1 row := by
  obtain ⟨n, rfl⟩ := h
  exact gb_below (pw_below_drewN (Below.refl _ _) _)
theorem gb_set (w : World) (g j : Nat) (v : Value) : w.grownBy (w.setCell ⟨g, j, none⟩ v) (some g) := ⟨rfl, rfl, rfl, by simp [World.setCell], fun k _ hk => Below.heap_setCell _ _ _ _ (fun e => hk (by simp [e]))⟩
theorem gb_blk {w w1 : World} {g k : Nat} {o : Obj} (h : w.grownBy w1 (some g)) (hb : w.heap[k]? = some o) (hn : k ≠ g) : w1.heap[k]? = some o := by
  have hk : k < w.heap.size := by
    by_cases hx : k < w.heap.size
    · exact hx
    · rw [Array.getElem?_eq_none (Nat.le_of_not_lt hx)] at hb
      cases hb
  rw [h.block k hk (fun e => hn (by injection e))]
  exact hb
theorem gb_blk0 {w w1 : World} {k : Nat} {o : Obj} (h : Below w.heap.size w w1) (hb : w.heap[k]? = some o) : w1.heap[k]? = some o := blk_below hb h
theorem ptr_1 (g : Nat) (w : World) : Calls Tryz.prog 83 #[.pointer (some ⟨g, 0, none⟩)] w fun e w' => e = .returned (.pointer (some ⟨g, 6, none⟩)) ∧ w' = w := by
  go_enter Tryz.func83, Tryz.ntmps83
  go_wp2
  go_ret
  exact ⟨rfl, rfl⟩
theorem ptr_2 (g : Nat) (w : World) : Calls Tryz.prog 84 #[.pointer (some ⟨g, 0, none⟩)] w fun e w' => e = .returned (.pointer (some ⟨g, 7, none⟩)) ∧ w' = w := by
  go_enter Tryz.func84, Tryz.ntmps84
  go_wp2
  go_ret
  exact ⟨rfl, rfl⟩
theorem ptr_5 (g : Nat) (w : World) : Calls Tryz.prog 88 #[.pointer (some ⟨g, 0, none⟩)] w fun e w' => e = .returned (.pointer (some ⟨g, 0, none⟩)) ∧ w' = w := by
  go_enter Tryz.func88, Tryz.ntmps88
  go_wp2
  go_ret
  exact ⟨rfl, rfl⟩
theorem ptr_6 (g : Nat) (w : World) : Calls Tryz.prog 89 #[.pointer (some ⟨g, 0, none⟩)] w fun e w' => e = .returned (.pointer (some ⟨g, 1, none⟩)) ∧ w' = w := by
  go_enter Tryz.func89, Tryz.ntmps89
  go_wp2
  go_ret
  exact ⟨rfl, rfl⟩
set_option maxHeartbeats 8000000 in
set_option maxRecDepth 100000 in
theorem rdc_named1 (gb : Nat) : RdC 104 #[.pointer (some ⟨gb, 0, none⟩)] [(gb, .cells #[.func (.func 83) #[] #[]] 163 (0, 0))] (fun a v => (names_Iqn.f v).bind fun b => some ({ a with f6 := v }, (⟨#[]⟩ : ByteArray), b)) := by
  intro w0 g a v r w hG0 hB0 hge hcs hbk hF
  have hG := Glob.keep hG0 hB0
  obtain ⟨b, hb, hF⟩ := Option.bind_eq_some_iff.mp hF
  obtain rfl := Option.some.inj hF
  clear hF
  have hcap := hcs _ (List.mem_cons_self ..)
  have c0 : w.cell? ⟨gb, 0, none⟩ = some (.func (.func 83) #[] #[]) := (blk_cell hcap 0).trans rfl
  have f0 := blk_frozen hbk 6
  have c1 : w.cell? ⟨g, 6, none⟩ = some (.string a.f6) := (blk_cell hbk 6).trans rfl
  have HB := Aside0.mk hbk
  have HI := Aside0.mk hb
  clear hcap hcs hbk hb
  show Calls Tryz.prog 104 #[.pointer (some ⟨g, 0, none⟩), .string v, .pointer (some ⟨gb, 0, none⟩)] w _
  go_enter Tryz.func104, Tryz.ntmps104
  go_wp2_with (first
    | (go_at_call 83; refine (ptr_1 g _).mono ?_; rintro e w' ⟨rfl, rfl⟩)
    | (go_at_call 105; refine (names_Iqn.calls v b _ HI.out).mono ?_; rintro e w3 ⟨rfl, hb3⟩; have HB3 := Aside0.mk hb3; clear hb3))
  go_ret2
  exact ⟨rfl, gb_blk0 HB3.out (blk_put HB.out 6 _ rfl), (gb_set _ _ _ _).trans (gb_below HB3.out)⟩
set_option maxHeartbeats 8000000 in
set_option maxRecDepth 100000 in
theorem rdc_named2 (gb : Nat) : RdC 104 #[.pointer (some ⟨gb, 0, none⟩)] [(gb, .cells #[.func (.func 84) #[] #[]] 163 (0, 0))] (fun a v => (names_Iqn.f v).bind fun b => some ({ a with f7 := v }, (⟨#[]⟩ : ByteArray), b)) := by
  intro w0 g a v r w hG0 hB0 hge hcs hbk hF
  have hG := Glob.keep hG0 hB0
  obtain ⟨b, hb, hF⟩ := Option.bind_eq_some_iff.mp hF
  obtain rfl := Option.some.inj hF
  clear hF
  have hcap := hcs _ (List.mem_cons_self ..)
  have c0 : w.cell? ⟨gb, 0, none⟩ = some (.func (.func 84) #[] #[]) := (blk_cell hcap 0).trans rfl
  have f0 := blk_frozen hbk 7
  have c1 : w.cell? ⟨g, 7, none⟩ = some (.string a.f7) := (blk_cell hbk 7).trans rfl
  have HB := Aside0.mk hbk
  have HI := Aside0.mk hb
  clear hcap hcs hbk hb
  show Calls Tryz.prog 104 #[.pointer (some ⟨g, 0, none⟩), .string v, .pointer (some ⟨gb, 0, none⟩)] w _
  go_enter Tryz.func104, Tryz.ntmps104
  go_wp2_with (first
    | (go_at_call 84; refine (ptr_2 g _).mono ?_; rintro e w' ⟨rfl, rfl⟩)
    | (go_at_call 105; refine (names_Iqn.calls v b _ HI.out).mono ?_; rintro e w3 ⟨rfl, hb3⟩; have HB3 := Aside0.mk hb3; clear hb3))
  go_ret2
  exact ⟨rfl, gb_blk0 HB3.out (blk_put HB.out 7 _ rfl), (gb_set _ _ _ _).trans (gb_below HB3.out)⟩
theorem chosen_some {L : List ByteArray} {s x : ByteArray} (h : chosen L s = some x) : chosenV L s = .tuple #[.string x, .bool true] := by unfold chosenV; rw [h]
theorem chosen_none {L : List ByteArray} {s : ByteArray} (h : chosen L s = none) : chosenV L s = .tuple #[.string (⟨#[]⟩ : ByteArray), .bool false] := by unfold chosenV; rw [h]
theorem two_cells {w : World} {g : Nat} {x y : ByteArray} (h : w.heap[g]? = some (.cells #[.string x, .string y] 9 (0, 0))) : ∀ j (h : j < [x, y].length), w.cell? ⟨g, j, none⟩ = some (.string [x, y][j]) := by
  intro j hj
  match j, hj with
  | 0, _ => exact (blk_cell h 0).trans rfl
  | 1, _ => exact (blk_cell h 1).trans rfl
  | j + 2, hj => exact absurd hj (by simp)
theorem one_cells {w : World} {g : Nat} {x : ByteArray} (h : w.heap[g]? = some (.cells #[.string x] 9 (0, 0))) : ∀ j (h : j < [x].length), w.cell? ⟨g, j, none⟩ = some (.string [x][j]) := by
  intro j hj
  match j, hj with
  | 0, _ => exact (blk_cell h 0).trans rfl
  | j + 1, hj => exact absurd hj (by simp)
set_option maxHeartbeats 8000000 in
set_option maxRecDepth 100000 in
theorem rdc_digest5 (gb : Nat) : RdC 106 #[.pointer (some ⟨gb, 0, none⟩)] [(gb, .cells #[.func (.func 88) #[] #[]] 166 (0, 0))] (fun a v => if v.size ≤ 1000000 then (match chosen [(⟨#[67, 82, 67, 51, 50, 67]⟩ : ByteArray), (⟨#[78, 111, 110, 101]⟩ : ByteArray)] v with | some x => some ({ a with f0 := x.toList == ([67, 82, 67, 51, 50, 67] : List UInt8) }, x, true) | none => some (a, (⟨#[]⟩ : ByteArray), false)) else none) := by
  intro w0 g a v r w hG0 hB0 hge hcs hbk hF
  have hG := Glob.keep hG0 hB0
  dsimp only at hF
  split at hF
  · next hs =>
    have hcap := hcs _ (List.mem_cons_self ..)
    have HB := Aside0.mk hbk
    have HG := Aside0.mk hG
    have HS := Aside0.mk hs
    have HCP := Aside0.mk hcap
    clear hcap hcs hbk hG hs
    show Calls Tryz.prog 106 #[.pointer (some ⟨g, 0, none⟩), .string v, .pointer (some ⟨gb, 0, none⟩)] w _
    split at hF
    · next x hx =>
      cases hF
      have HC := Aside0.mk (chosen_some hx)
      clear hx
      go_enter Tryz.func106, Tryz.ntmps106
      go_wp2_with (first
        | (go_at_call 98; have hbx : (w.alloc (.cells #[.string (⟨#[67, 82, 67, 51, 50, 67]⟩ : ByteArray), .string (⟨#[78, 111, 110, 101]⟩ : ByteArray)] 9)).heap[w.heap.size]? = some (.cells #[.string (⟨#[67, 82, 67, 51, 50, 67]⟩ : ByteArray), .string (⟨#[78, 111, 110, 101]⟩ : ByteArray)] 9 (0, 0)) := Array.getElem?_push_size; have hbl := below_alloc (Below.refl w.heap.size w) (.cells #[.string (⟨#[67, 82, 67, 51, 50, 67]⟩ : ByteArray), .string (⟨#[78, 111, 110, 101]⟩ : ByteArray)] 9 (0, 0)); refine (choice_calls v w.heap.size 2 [(⟨#[67, 82, 67, 51, 50, 67]⟩ : ByteArray), (⟨#[78, 111, 110, 101]⟩ : ByteArray)] _ (Glob.keep HG.out hbl) HS.out (by decide) (by show w.heap.size < (w.heap.push _).size; simp) (two_cells hbx)).mono ?_; rintro e w2 ⟨rfl, hb2⟩; rw [HC.out]; have HB2 := Aside0.mk (below_step hbl hb2); clear hb2 hbx hbl; have hbk2 := gb_blk0 HB2.out HB.out; have hcap2 := gb_blk0 HB2.out HCP.out; have c0 : w2.cell? ⟨gb, 0, none⟩ = some (.func (.func 88) #[] #[]) := (blk_cell hcap2 0).trans rfl; have f0 := blk_frozen hbk2 0; have c1 : w2.cell? ⟨g, 0, none⟩ = some (.bool a.f0) := (blk_cell hbk2 0).trans rfl; have HB3 := Aside0.mk hbk2; clear hcap2 hbk2)
        | (go_at_call 88; refine (ptr_5 g _).mono ?_; rintro e w' ⟨rfl, rfl⟩))
      go_ret2
      exact ⟨rfl, blk_put HB3.out 0 _ rfl, (gb_below HB2.out).trans (gb_set _ _ _ _)⟩
    · next hx =>
      cases hF
      have HC := Aside0.mk (chosen_none hx)
      clear hx
      go_enter Tryz.func106, Tryz.ntmps106
      go_wp2_with (go_at_call 98; have hbx : (w.alloc (.cells #[.string (⟨#[67, 82, 67, 51, 50, 67]⟩ : ByteArray), .string (⟨#[78, 111, 110, 101]⟩ : ByteArray)] 9)).heap[w.heap.size]? = some (.cells #[.string (⟨#[67, 82, 67, 51, 50, 67]⟩ : ByteArray), .string (⟨#[78, 111, 110, 101]⟩ : ByteArray)] 9 (0, 0)) := Array.getElem?_push_size; have hbl := below_alloc (Below.refl w.heap.size w) (.cells #[.string (⟨#[67, 82, 67, 51, 50, 67]⟩ : ByteArray), .string (⟨#[78, 111, 110, 101]⟩ : ByteArray)] 9 (0, 0)); refine (choice_calls v w.heap.size 2 [(⟨#[67, 82, 67, 51, 50, 67]⟩ : ByteArray), (⟨#[78, 111, 110, 101]⟩ : ByteArray)] _ (Glob.keep HG.out hbl) HS.out (by decide) (by show w.heap.size < (w.heap.push _).size; simp) (two_cells hbx)).mono ?_; rintro e w2 ⟨rfl, hb2⟩; rw [HC.out]; have HB2 := Aside0.mk (below_step hbl hb2); clear hb2 hbx hbl; have hbk2 := gb_blk0 HB2.out HB.out; have hcap2 := gb_blk0 HB2.out HCP.out; have c0 : w2.cell? ⟨gb, 0, none⟩ = some (.func (.func 88) #[] #[]) := (blk_cell hcap2 0).trans rfl; have f0 := blk_frozen hbk2 0; have c1 : w2.cell? ⟨g, 0, none⟩ = some (.bool a.f0) := (blk_cell hbk2 0).trans rfl; have HB3 := Aside0.mk hbk2; clear hcap2 hbk2)
      go_ret2
      exact ⟨rfl, HB3.out, gb_below HB2.out⟩
  · cases hF
set_option maxHeartbeats 8000000 in
set_option maxRecDepth 100000 in
theorem rdc_digest6 (gb : Nat) : RdC 106 #[.pointer (some ⟨gb, 0, none⟩)] [(gb, .cells #[.func (.func 89) #[] #[]] 166 (0, 0))] (fun a v => if v.size ≤ 1000000 then (match chosen [(⟨#[67, 82, 67, 51, 50, 67]⟩ : ByteArray), (⟨#[78, 111, 110, 101]⟩ : ByteArray)] v with | some x => some ({ a with f1 := x.toList == ([67, 82, 67, 51, 50, 67] : List UInt8) }, x, true) | none => some (a, (⟨#[]⟩ : ByteArray), false)) else none) := by
  intro w0 g a v r w hG0 hB0 hge hcs hbk hF
  have hG := Glob.keep hG0 hB0
  dsimp only at hF
  split at hF
  · next hs =>
    have hcap := hcs _ (List.mem_cons_self ..)
    have HB := Aside0.mk hbk
    have HG := Aside0.mk hG
    have HS := Aside0.mk hs
    have HCP := Aside0.mk hcap
    clear hcap hcs hbk hG hs
    show Calls Tryz.prog 106 #[.pointer (some ⟨g, 0, none⟩), .string v, .pointer (some ⟨gb, 0, none⟩)] w _
    split at hF
    · next x hx =>
      cases hF
      have HC := Aside0.mk (chosen_some hx)
      clear hx
      go_enter Tryz.func106, Tryz.ntmps106
      go_wp2_with (first
        | (go_at_call 98; have hbx : (w.alloc (.cells #[.string (⟨#[67, 82, 67, 51, 50, 67]⟩ : ByteArray), .string (⟨#[78, 111, 110, 101]⟩ : ByteArray)] 9)).heap[w.heap.size]? = some (.cells #[.string (⟨#[67, 82, 67, 51, 50, 67]⟩ : ByteArray), .string (⟨#[78, 111, 110, 101]⟩ : ByteArray)] 9 (0, 0)) := Array.getElem?_push_size; have hbl := below_alloc (Below.refl w.heap.size w) (.cells #[.string (⟨#[67, 82, 67, 51, 50, 67]⟩ : ByteArray), .string (⟨#[78, 111, 110, 101]⟩ : ByteArray)] 9 (0, 0)); refine (choice_calls v w.heap.size 2 [(⟨#[67, 82, 67, 51, 50, 67]⟩ : ByteArray), (⟨#[78, 111, 110, 101]⟩ : ByteArray)] _ (Glob.keep HG.out hbl) HS.out (by decide) (by show w.heap.size < (w.heap.push _).size; simp) (two_cells hbx)).mono ?_; rintro e w2 ⟨rfl, hb2⟩; rw [HC.out]; have HB2 := Aside0.mk (below_step hbl hb2); clear hb2 hbx hbl; have hbk2 := gb_blk0 HB2.out HB.out; have hcap2 := gb_blk0 HB2.out HCP.out; have c0 : w2.cell? ⟨gb, 0, none⟩ = some (.func (.func 89) #[] #[]) := (blk_cell hcap2 0).trans rfl; have f0 := blk_frozen hbk2 1; have c1 : w2.cell? ⟨g, 1, none⟩ = some (.bool a.f1) := (blk_cell hbk2 1).trans rfl; have HB3 := Aside0.mk hbk2; clear hcap2 hbk2)
        | (go_at_call 89; refine (ptr_6 g _).mono ?_; rintro e w' ⟨rfl, rfl⟩))
      go_ret2
      exact ⟨rfl, blk_put HB3.out 1 _ rfl, (gb_below HB2.out).trans (gb_set _ _ _ _)⟩
    · next hx =>
      cases hF
      have HC := Aside0.mk (chosen_none hx)
      clear hx
      go_enter Tryz.func106, Tryz.ntmps106
      go_wp2_with (go_at_call 98; have hbx : (w.alloc (.cells #[.string (⟨#[67, 82, 67, 51, 50, 67]⟩ : ByteArray), .string (⟨#[78, 111, 110, 101]⟩ : ByteArray)] 9)).heap[w.heap.size]? = some (.cells #[.string (⟨#[67, 82, 67, 51, 50, 67]⟩ : ByteArray), .string (⟨#[78, 111, 110, 101]⟩ : ByteArray)] 9 (0, 0)) := Array.getElem?_push_size; have hbl := below_alloc (Below.refl w.heap.size w) (.cells #[.string (⟨#[67, 82, 67, 51, 50, 67]⟩ : ByteArray), .string (⟨#[78, 111, 110, 101]⟩ : ByteArray)] 9 (0, 0)); refine (choice_calls v w.heap.size 2 [(⟨#[67, 82, 67, 51, 50, 67]⟩ : ByteArray), (⟨#[78, 111, 110, 101]⟩ : ByteArray)] _ (Glob.keep HG.out hbl) HS.out (by decide) (by show w.heap.size < (w.heap.push _).size; simp) (two_cells hbx)).mono ?_; rintro e w2 ⟨rfl, hb2⟩; rw [HC.out]; have HB2 := Aside0.mk (below_step hbl hb2); clear hb2 hbx hbl; have hbk2 := gb_blk0 HB2.out HB.out; have hcap2 := gb_blk0 HB2.out HCP.out; have c0 : w2.cell? ⟨gb, 0, none⟩ = some (.func (.func 89) #[] #[]) := (blk_cell hcap2 0).trans rfl; have f0 := blk_frozen hbk2 1; have c1 : w2.cell? ⟨g, 1, none⟩ = some (.bool a.f1) := (blk_cell hbk2 1).trans rfl; have HB3 := Aside0.mk hbk2; clear hcap2 hbk2)
      go_ret2
      exact ⟨rfl, HB3.out, gb_below HB2.out⟩
  · cases hF
set_option maxHeartbeats 8000000 in
set_option maxRecDepth 100000 in
theorem yes_walk (v : ByteArray) (w : World) : Calls Tryz.prog 94 #[.string v] w fun e w' => e = .returned (.tuple #[.bool (v.toList == ([89, 101, 115] : List UInt8)), .bool ((v.toList == ([89, 101, 115] : List UInt8)) || (v.toList == ([78, 111] : List UInt8)))]) ∧ Drawn0 w w' := by
  by_cases c2 : v.toList = ([89, 101, 115] : List UInt8)
  · have c2b0 : (v.toList == ([89, 101, 115] : List UInt8)) = true := beq_iff_eq.mpr c2
    rw [c2b0]
    clear c2
    go_enter Tryz.func94, Tryz.ntmps94
    go_wp2
    go_ret2
    exact ⟨rfl, by repeat (first | exact Drawn0.refl _ | apply Drawn0.step)⟩
  · have c2b0 : (v.toList == ([89, 101, 115] : List UInt8)) = false := beq_eq_false_iff_ne.mpr c2
    rw [c2b0]
    clear c2
    go_enter Tryz.func94, Tryz.ntmps94
    go_wp2
    go_ret2
    exact ⟨rfl, by repeat (first | exact Drawn0.refl _ | apply Drawn0.step)⟩
set_option maxHeartbeats 8000000 in
set_option maxRecDepth 100000 in
theorem rdc_normal : RdC 85 #[] [] (fun a v => some (a, (⟨#[]⟩ : ByteArray), v.toList == ([78, 111, 114, 109, 97, 108] : List UInt8))) := by
  intro w0 g a v r w hG0 hB0 hge hcs hbk hF
  have hG := Glob.keep hG0 hB0
  dsimp only at hF
  obtain rfl := Option.some.inj hF
  clear hF
  have HB := Aside0.mk hbk
  have HG := Aside0.mk hG
  have HG0 := Aside0.mk hG0
  have HB0 := Aside0.mk hB0
  have HGE := Aside0.mk hge
  clear hcs hbk hG hG0 hB0 hge
  show Calls Tryz.prog 85 #[.pointer (some ⟨g, 0, none⟩), .string v] w _
  go_enter Tryz.func85, Tryz.ntmps85
  go_wp2
  go_ret2
  exact ⟨rfl, HB.out, gb_below (Below.refl _ _)⟩
set_option maxHeartbeats 8000000 in
set_option maxRecDepth 100000 in
theorem rdc_alias : RdC 86 #[] [] (fun a v => some (a, (⟨#[]⟩ : ByteArray), true)) := by
  intro w0 g a v r w hG0 hB0 hge hcs hbk hF
  have hG := Glob.keep hG0 hB0
  dsimp only at hF
  obtain rfl := Option.some.inj hF
  clear hF
  have HB := Aside0.mk hbk
  have HG := Aside0.mk hG
  have HG0 := Aside0.mk hG0
  have HB0 := Aside0.mk hB0
  have HGE := Aside0.mk hge
  clear hcs hbk hG hG0 hB0 hge
  show Calls Tryz.prog 86 #[.pointer (some ⟨g, 0, none⟩), .string v] w _
  go_enter Tryz.func86, Tryz.ntmps86
  go_wp2
  go_ret2
  exact ⟨rfl, HB.out, gb_below (Below.refl _ _)⟩
set_option maxHeartbeats 8000000 in
set_option maxRecDepth 100000 in
theorem rdc_immediate : RdC 93 #[] [] (fun a v => some ({ a with f2 := v.toList == ([89, 101, 115] : List UInt8) }, v, (v.toList == ([89, 101, 115] : List UInt8)) || (v.toList == ([78, 111] : List UInt8)))) := by
  intro w0 g a v r w hG0 hB0 hge hcs hbk hF
  have hG := Glob.keep hG0 hB0
  dsimp only at hF
  obtain rfl := Option.some.inj hF
  clear hF
  have HB := Aside0.mk hbk
  have HG := Aside0.mk hG
  have HG0 := Aside0.mk hG0
  have HB0 := Aside0.mk hB0
  have HGE := Aside0.mk hge
  clear hcs hbk hG hG0 hB0 hge
  show Calls Tryz.prog 93 #[.pointer (some ⟨g, 0, none⟩), .string v] w _
  go_enter Tryz.func93, Tryz.ntmps93
  go_wp2_with (go_at_call 94; refine (yes_walk v _).mono ?_; rintro e w3 ⟨rfl, hd⟩; have HD := Aside0.mk (gb_drawn hd (row := some g)); have hbk3 := (by (obtain ⟨n, rfl⟩ := hd; exact blk_drewN HB.out n) : w3.heap[g]? = some (.cells (agC a) 24 (0, 0))); have f0 := blk_frozen hbk3 2; have c1 : w3.cell? ⟨g, 2, none⟩ = some (.bool a.f2) := (blk_cell hbk3 2).trans rfl; have HB3 := Aside0.mk hbk3; clear hbk3 hd)
  go_ret2
  exact ⟨rfl, blk_put HB3.out 2 _ rfl, HD.out.trans (gb_set _ _ _ _)⟩
theorem itoa_walk (n : Int) (h0 : -9223372036854775808 ≤ n) (h1 : n ≤ 9223372036854775807) (w : World) (hG : Glob w) : Calls Tryz.prog 92 #[.int .i64 n] w fun e w' => e = .returned (.string ⟨(Go.Lib.itoa n).toArray⟩) ∧ Below w.heap.size w w' := by
  refine (Tryz.strconv_Itoa n h0 h1 w hG.internal_strconv_uint64pow10).mono ?_
  rintro e w' ⟨rfl, k, os, rfl⟩
  exact ⟨rfl, Go.Lib.below_grow _ _ (Nat.le_refl _) k os⟩
theorem numB_bd (v : ByteArray) (least : Int) : 0 ≤ (numB v least).1 ∧ (numB v least).1 ≤ 16777215 := by
  unfold numB
  split
  · exact ⟨by decide, by decide⟩
  · have := pu_lt v.data.toList 0 (by omega)
    dsimp only
    omega
set_option maxHeartbeats 8000000 in
set_option maxRecDepth 100000 in
theorem rdc_receive : RdC 90 #[] [] (fun a v => some ({ a with f4 := min (numB v 512).1 8192 }, ⟨(Go.Lib.itoa 8192).toArray⟩, (numB v 512).2)) := by
  intro w0 g a v r w hG0 hB0 hge hcs hbk hF
  have hG := Glob.keep hG0 hB0
  dsimp only at hF
  have hnb := numB_bd v 512
  obtain ⟨n, ok, hn⟩ : ∃ n ok, numB v 512 = (n, ok) := ⟨_, _, rfl⟩
  rw [hn] at hF hnb
  dsimp only at hF hnb
  obtain ⟨n0, n1⟩ := hnb
  have HN := Aside0.mk hn
  clear hn
  obtain rfl := Option.some.inj hF
  clear hF
  have HN2 := Aside0.mk (show keys_number.f v 512 = some (n, ok) from congrArg some HN.out)
  have HB := Aside0.mk hbk
  have HG := Aside0.mk hG
  have HG0 := Aside0.mk hG0
  have HB0 := Aside0.mk hB0
  have HGE := Aside0.mk hge
  clear hcs hbk hG hG0 hB0 hge
  show Calls Tryz.prog 90 #[.pointer (some ⟨g, 0, none⟩), .string v] w _
  by_cases hm : n ≤ 8192
  · rw [Int.min_eq_left hm]
    have hm1 : n ≤ 8192 := hm
    clear hm
    go_enter Tryz.func90, Tryz.ntmps90
    go_wp2_with (first
      | (go_at_call 91; refine (keys_number.calls v 512 n ok _ HG.out HN2.out).mono ?_; rintro e w3 ⟨rfl, hb3⟩; have HB3 := Aside0.mk hb3; have hbk3 := gb_blk0 hb3 HB.out; have HBK := Aside0.mk hbk3; clear hb3; have f0 := blk_frozen hbk3 4; have c1 : w3.cell? ⟨g, 4, none⟩ = some (.int .i64 a.f4) := (blk_cell hbk3 4).trans rfl; clear hbk3)
      | (go_at_call 92; refine (itoa_walk (8192) (by omega) (by omega) _ (Glob.keep HG0.out (((below_step HB0.out HB3.out).grown (gb_set w3 g 4 (.int .i64 (n))) (below_size (below_step HB0.out HB3.out)) (fun k hk => by cases hk; exact HGE.out))))).mono ?_; rintro e w4 ⟨rfl, hb4⟩; have HB4 := Aside0.mk hb4; clear hb4))
    go_ret2
    exact ⟨rfl, gb_blk0 HB4.out (blk_put HBK.out 4 _ rfl), (gb_below HB3.out).trans ((gb_set w3 g 4 (.int .i64 (n))).trans (gb_below HB4.out))⟩
  · rw [Int.min_eq_right (show 8192 ≤ n by omega)]
    have hm1 : 8192 < n := by omega
    clear hm
    go_enter Tryz.func90, Tryz.ntmps90
    go_wp2_with (first
      | (go_at_call 91; refine (keys_number.calls v 512 n ok _ HG.out HN2.out).mono ?_; rintro e w3 ⟨rfl, hb3⟩; have HB3 := Aside0.mk hb3; have hbk3 := gb_blk0 hb3 HB.out; have HBK := Aside0.mk hbk3; clear hb3; have f0 := blk_frozen hbk3 4; have c1 : w3.cell? ⟨g, 4, none⟩ = some (.int .i64 a.f4) := (blk_cell hbk3 4).trans rfl; clear hbk3)
      | (go_at_call 92; refine (itoa_walk (8192) (by omega) (by omega) _ (Glob.keep HG0.out (((below_step HB0.out HB3.out).grown (gb_set w3 g 4 (.int .i64 (8192))) (below_size (below_step HB0.out HB3.out)) (fun k hk => by cases hk; exact HGE.out))))).mono ?_; rintro e w4 ⟨rfl, hb4⟩; have HB4 := Aside0.mk hb4; clear hb4))
    go_ret2
    exact ⟨rfl, gb_blk0 HB4.out (blk_put HBK.out 4 _ rfl), (gb_below HB3.out).trans ((gb_set w3 g 4 (.int .i64 (8192))).trans (gb_below HB4.out))⟩
set_option maxHeartbeats 8000000 in
set_option maxRecDepth 100000 in
theorem rdc_burst : RdC 95 #[] [] (fun a v => some ({ a with f5 := min (numB v 512).1 4096 }, ⟨(Go.Lib.itoa (min (numB v 512).1 4096)).toArray⟩, (numB v 512).2)) := by
  intro w0 g a v r w hG0 hB0 hge hcs hbk hF
  have hG := Glob.keep hG0 hB0
  dsimp only at hF
  have hnb := numB_bd v 512
  obtain ⟨n, ok, hn⟩ : ∃ n ok, numB v 512 = (n, ok) := ⟨_, _, rfl⟩
  rw [hn] at hF hnb
  dsimp only at hF hnb
  obtain ⟨n0, n1⟩ := hnb
  have HN := Aside0.mk hn
  clear hn
  obtain rfl := Option.some.inj hF
  clear hF
  have HN2 := Aside0.mk (show keys_number.f v 512 = some (n, ok) from congrArg some HN.out)
  have HB := Aside0.mk hbk
  have HG := Aside0.mk hG
  have HG0 := Aside0.mk hG0
  have HB0 := Aside0.mk hB0
  have HGE := Aside0.mk hge
  clear hcs hbk hG hG0 hB0 hge
  show Calls Tryz.prog 95 #[.pointer (some ⟨g, 0, none⟩), .string v] w _
  by_cases hm : n ≤ 4096
  · rw [Int.min_eq_left hm]
    have hm1 : n ≤ 4096 := hm
    clear hm
    go_enter Tryz.func95, Tryz.ntmps95
    go_wp2_with (first
      | (go_at_call 91; refine (keys_number.calls v 512 n ok _ HG.out HN2.out).mono ?_; rintro e w3 ⟨rfl, hb3⟩; have HB3 := Aside0.mk hb3; have hbk3 := gb_blk0 hb3 HB.out; have HBK := Aside0.mk hbk3; clear hb3; have f0 := blk_frozen hbk3 5; have c1 : w3.cell? ⟨g, 5, none⟩ = some (.int .i64 a.f5) := (blk_cell hbk3 5).trans rfl; clear hbk3)
      | (go_at_call 92; refine (itoa_walk (n) (by omega) (by omega) _ (Glob.keep HG0.out (((below_step HB0.out HB3.out).grown (gb_set w3 g 5 (.int .i64 (n))) (below_size (below_step HB0.out HB3.out)) (fun k hk => by cases hk; exact HGE.out))))).mono ?_; rintro e w4 ⟨rfl, hb4⟩; have HB4 := Aside0.mk hb4; clear hb4))
    go_ret2
    exact ⟨rfl, gb_blk0 HB4.out (blk_put HBK.out 5 _ rfl), (gb_below HB3.out).trans ((gb_set w3 g 5 (.int .i64 (n))).trans (gb_below HB4.out))⟩
  · rw [Int.min_eq_right (show 4096 ≤ n by omega)]
    have hm1 : 4096 < n := by omega
    clear hm
    go_enter Tryz.func95, Tryz.ntmps95
    go_wp2_with (first
      | (go_at_call 91; refine (keys_number.calls v 512 n ok _ HG.out HN2.out).mono ?_; rintro e w3 ⟨rfl, hb3⟩; have HB3 := Aside0.mk hb3; have hbk3 := gb_blk0 hb3 HB.out; have HBK := Aside0.mk hbk3; clear hb3; have f0 := blk_frozen hbk3 5; have c1 : w3.cell? ⟨g, 5, none⟩ = some (.int .i64 a.f5) := (blk_cell hbk3 5).trans rfl; clear hbk3)
      | (go_at_call 92; refine (itoa_walk (4096) (by omega) (by omega) _ (Glob.keep HG0.out (((below_step HB0.out HB3.out).grown (gb_set w3 g 5 (.int .i64 (4096))) (below_size (below_step HB0.out HB3.out)) (fun k hk => by cases hk; exact HGE.out))))).mono ?_; rintro e w4 ⟨rfl, hb4⟩; have HB4 := Aside0.mk hb4; clear hb4))
    go_ret2
    exact ⟨rfl, gb_blk0 HB4.out (blk_put HBK.out 5 _ rfl), (gb_below HB3.out).trans ((gb_set w3 g 5 (.int .i64 (4096))).trans (gb_below HB4.out))⟩
set_option maxHeartbeats 8000000 in
set_option maxRecDepth 100000 in
theorem rdc_max : RdC 96 #[] [] (fun a v => some (a, ⟨(Go.Lib.itoa (min (numB v 512).1 32768)).toArray⟩, (numB v 512).2)) := by
  intro w0 g a v r w hG0 hB0 hge hcs hbk hF
  have hG := Glob.keep hG0 hB0
  dsimp only at hF
  have hnb := numB_bd v 512
  obtain ⟨n, ok, hn⟩ : ∃ n ok, numB v 512 = (n, ok) := ⟨_, _, rfl⟩
  rw [hn] at hF hnb
  dsimp only at hF hnb
  obtain ⟨n0, n1⟩ := hnb
  have HN := Aside0.mk hn
  clear hn
  obtain rfl := Option.some.inj hF
  clear hF
  have HN2 := Aside0.mk (show keys_number.f v 512 = some (n, ok) from congrArg some HN.out)
  have HB := Aside0.mk hbk
  have HG := Aside0.mk hG
  have HG0 := Aside0.mk hG0
  have HB0 := Aside0.mk hB0
  have HGE := Aside0.mk hge
  clear hcs hbk hG hG0 hB0 hge
  show Calls Tryz.prog 96 #[.pointer (some ⟨g, 0, none⟩), .string v] w _
  by_cases hm : n ≤ 32768
  · rw [Int.min_eq_left hm]
    have hm1 : n ≤ 32768 := hm
    clear hm
    go_enter Tryz.func96, Tryz.ntmps96
    go_wp2_with (first
      | (go_at_call 91; refine (keys_number.calls v 512 n ok _ HG.out HN2.out).mono ?_; rintro e w3 ⟨rfl, hb3⟩; have HB3 := Aside0.mk hb3; have hbk3 := gb_blk0 hb3 HB.out; have HBK := Aside0.mk hbk3; clear hb3; clear hbk3)
      | (go_at_call 92; refine (itoa_walk (n) (by omega) (by omega) _ (Glob.keep HG0.out (below_step HB0.out HB3.out))).mono ?_; rintro e w4 ⟨rfl, hb4⟩; have HB4 := Aside0.mk hb4; clear hb4))
    go_ret2
    exact ⟨rfl, gb_blk0 HB4.out (HBK.out), (gb_below HB3.out).trans ((gb_below HB4.out))⟩
  · rw [Int.min_eq_right (show 32768 ≤ n by omega)]
    have hm1 : 32768 < n := by omega
    clear hm
    go_enter Tryz.func96, Tryz.ntmps96
    go_wp2_with (first
      | (go_at_call 91; refine (keys_number.calls v 512 n ok _ HG.out HN2.out).mono ?_; rintro e w3 ⟨rfl, hb3⟩; have HB3 := Aside0.mk hb3; have hbk3 := gb_blk0 hb3 HB.out; have HBK := Aside0.mk hbk3; clear hb3; clear hbk3)
      | (go_at_call 92; refine (itoa_walk (32768) (by omega) (by omega) _ (Glob.keep HG0.out (below_step HB0.out HB3.out))).mono ?_; rintro e w4 ⟨rfl, hb4⟩; have HB4 := Aside0.mk hb4; clear hb4))
    go_ret2
    exact ⟨rfl, gb_blk0 HB4.out (HBK.out), (gb_below HB3.out).trans ((gb_below HB4.out))⟩
set_option maxHeartbeats 8000000 in
set_option maxRecDepth 100000 in
theorem rdc_auth : RdC 97 #[] [] (fun a v => if v.size ≤ 1000000 then (match chosen [(⟨#[78, 111, 110, 101]⟩ : ByteArray)] v with | some x => some (a, x, true) | none => some (a, (⟨#[]⟩ : ByteArray), false)) else none) := by
  intro w0 g a v r w hG0 hB0 hge hcs hbk hF
  have hG := Glob.keep hG0 hB0
  dsimp only at hF
  split at hF
  · next hs =>
    have HB := Aside0.mk hbk
    have HG := Aside0.mk hG
    have HS := Aside0.mk hs
    clear hcs hbk hG hs hG0 hB0
    show Calls Tryz.prog 97 #[.pointer (some ⟨g, 0, none⟩), .string v] w _
    split at hF
    all_goals
      next hx =>
      cases hF
      have HC := Aside0.mk (by first | exact chosen_some hx | exact chosen_none hx)
      clear hx
      go_enter Tryz.func97, Tryz.ntmps97
      go_wp2_with (go_at_call 98; have hbx : (w.alloc (.cells #[.string (⟨#[78, 111, 110, 101]⟩ : ByteArray)] 9)).heap[w.heap.size]? = some (.cells #[.string (⟨#[78, 111, 110, 101]⟩ : ByteArray)] 9 (0, 0)) := Array.getElem?_push_size; have hbl := below_alloc (Below.refl w.heap.size w) (.cells #[.string (⟨#[78, 111, 110, 101]⟩ : ByteArray)] 9 (0, 0)); refine (choice_calls v w.heap.size 1 [(⟨#[78, 111, 110, 101]⟩ : ByteArray)] _ (Glob.keep HG.out hbl) HS.out (by decide) (by show w.heap.size < (w.heap.push _).size; simp) (one_cells hbx)).mono ?_; rintro e w2 ⟨rfl, hb2⟩; rw [HC.out]; have HB2 := Aside0.mk (below_step hbl hb2); clear hb2 hbx hbl)
      go_ret2
      exact ⟨rfl, gb_blk0 HB2.out HB.out, gb_below HB2.out⟩
  · cases hF
set_option maxHeartbeats 8000000 in
set_option maxRecDepth 100000 in
theorem rdc_always_yes (gb gc : Nat) (n : Int) : RdC 110 #[.pointer (some ⟨gb, 0, none⟩), .pointer (some ⟨gc, 0, none⟩)] [(gb, .cells #[.string (⟨#[89, 101, 115]⟩ : ByteArray)] 9 (0, 0)), (gc, .cells #[.int .i64 n] 3 (0, 0))] (fun a v => some (a, (⟨#[89, 101, 115]⟩ : ByteArray), (v.toList == ([89, 101, 115] : List UInt8)) || (v.toList == ([78, 111] : List UInt8)))) := by
  intro w0 g a v r w hG0 hB0 hge hcs hbk hF
  have hG := Glob.keep hG0 hB0
  dsimp only at hF
  obtain rfl := Option.some.inj hF
  have hcap := hcs _ (List.mem_cons_self ..)
  have hcap2 := hcs _ (List.mem_cons_of_mem _ (List.mem_cons_self ..))
  have c0 : w.cell? ⟨gb, 0, none⟩ = some (.string (⟨#[89, 101, 115]⟩ : ByteArray)) := (blk_cell hcap 0).trans rfl
  have c1 : w.cell? ⟨gc, 0, none⟩ = some (.int .i64 n) := (blk_cell hcap2 0).trans rfl
  have HB := Aside0.mk hbk
  have HG := Aside0.mk hG
  have HCP := Aside0.mk hcap
  clear hcap hcap2 hcs hbk hG hG0 hB0 hF
  show Calls Tryz.prog 110 #[.pointer (some ⟨g, 0, none⟩), .string v, .pointer (some ⟨gb, 0, none⟩), .pointer (some ⟨gc, 0, none⟩)] w _
  go_enter Tryz.func110, Tryz.ntmps110
  go_wp2_with (go_at_call 94; refine (yes_walk v _).mono ?_; rintro e w3 ⟨rfl, hd⟩; have HD := Aside0.mk (gb_drawn hd (row := some g)); have hbk3 := (by (obtain ⟨n, rfl⟩ := hd; exact blk_drewN HB.out n) : w3.heap[g]? = some (.cells (agC a) 24 (0, 0))); have hcp3 := (by (obtain ⟨n, rfl⟩ := hd; exact blk_drewN HCP.out n) : w3.heap[gb]? = some (.cells #[.string (⟨#[89, 101, 115]⟩ : ByteArray)] 9 (0, 0))); have c2 : w3.cell? ⟨gb, 0, none⟩ = some (.string (⟨#[89, 101, 115]⟩ : ByteArray)) := (blk_cell hcp3 0).trans rfl; have HB3 := Aside0.mk hbk3; clear hbk3 hcp3 hd)
  go_ret2
  exact ⟨rfl, HB3.out, HD.out⟩
set_option maxHeartbeats 8000000 in
set_option maxRecDepth 100000 in
theorem rdc_always_one (gb gc : Nat) (n : Int) : RdC 110 #[.pointer (some ⟨gb, 0, none⟩), .pointer (some ⟨gc, 0, none⟩)] [(gb, .cells #[.string (⟨#[49]⟩ : ByteArray)] 9 (0, 0)), (gc, .cells #[.int .i64 n] 3 (0, 0))] (fun a v => some (a, (⟨#[49]⟩ : ByteArray), (numB v n).2)) := by
  intro w0 g a v r w hG0 hB0 hge hcs hbk hF
  have hG := Glob.keep hG0 hB0
  dsimp only at hF
  obtain rfl := Option.some.inj hF
  have hcap := hcs _ (List.mem_cons_self ..)
  have hcap2 := hcs _ (List.mem_cons_of_mem _ (List.mem_cons_self ..))
  have c0 : w.cell? ⟨gb, 0, none⟩ = some (.string (⟨#[49]⟩ : ByteArray)) := (blk_cell hcap 0).trans rfl
  have c1 : w.cell? ⟨gc, 0, none⟩ = some (.int .i64 n) := (blk_cell hcap2 0).trans rfl
  have HB := Aside0.mk hbk
  have HG := Aside0.mk hG
  have HCP := Aside0.mk hcap
  clear hcap hcap2 hcs hbk hG hG0 hB0 hF
  show Calls Tryz.prog 110 #[.pointer (some ⟨g, 0, none⟩), .string v, .pointer (some ⟨gb, 0, none⟩), .pointer (some ⟨gc, 0, none⟩)] w _
  obtain ⟨m, ok, hn⟩ : ∃ m ok, numB v n = (m, ok) := ⟨_, _, rfl⟩
  rw [hn]
  have HN2 := Aside0.mk (show keys_number.f v n = some (m, ok) from congrArg some hn)
  clear hn
  go_enter Tryz.func110, Tryz.ntmps110
  go_wp2_with (go_at_call 91; refine (keys_number.calls v n m ok _ HG.out HN2.out).mono ?_; rintro e w3 ⟨rfl, hb3⟩; have hcp3 := gb_blk0 hb3 HCP.out; have c2 : w3.cell? ⟨gb, 0, none⟩ = some (.string (⟨#[49]⟩ : ByteArray)) := (blk_cell hcp3 0).trans rfl; have HB3 := Aside0.mk hb3; clear hcp3 hb3)
  go_ret2
  exact ⟨rfl, gb_blk0 HB3.out HB.out, gb_below HB3.out⟩
set_option maxHeartbeats 8000000 in
set_option maxRecDepth 100000 in
theorem rdc_always_nil (gb gc : Nat) (n : Int) : RdC 110 #[.pointer (some ⟨gb, 0, none⟩), .pointer (some ⟨gc, 0, none⟩)] [(gb, .cells #[.string (⟨#[48]⟩ : ByteArray)] 9 (0, 0)), (gc, .cells #[.int .i64 n] 3 (0, 0))] (fun a v => some (a, (⟨#[48]⟩ : ByteArray), (numB v n).2)) := by
  intro w0 g a v r w hG0 hB0 hge hcs hbk hF
  have hG := Glob.keep hG0 hB0
  dsimp only at hF
  obtain rfl := Option.some.inj hF
  have hcap := hcs _ (List.mem_cons_self ..)
  have hcap2 := hcs _ (List.mem_cons_of_mem _ (List.mem_cons_self ..))
  have c0 : w.cell? ⟨gb, 0, none⟩ = some (.string (⟨#[48]⟩ : ByteArray)) := (blk_cell hcap 0).trans rfl
  have c1 : w.cell? ⟨gc, 0, none⟩ = some (.int .i64 n) := (blk_cell hcap2 0).trans rfl
  have HB := Aside0.mk hbk
  have HG := Aside0.mk hG
  have HCP := Aside0.mk hcap
  clear hcap hcap2 hcs hbk hG hG0 hB0 hF
  show Calls Tryz.prog 110 #[.pointer (some ⟨g, 0, none⟩), .string v, .pointer (some ⟨gb, 0, none⟩), .pointer (some ⟨gc, 0, none⟩)] w _
  obtain ⟨m, ok, hn⟩ : ∃ m ok, numB v n = (m, ok) := ⟨_, _, rfl⟩
  rw [hn]
  have HN2 := Aside0.mk (show keys_number.f v n = some (m, ok) from congrArg some hn)
  clear hn
  go_enter Tryz.func110, Tryz.ntmps110
  go_wp2_with (go_at_call 91; refine (keys_number.calls v n m ok _ HG.out HN2.out).mono ?_; rintro e w3 ⟨rfl, hb3⟩; have hcp3 := gb_blk0 hb3 HCP.out; have c2 : w3.cell? ⟨gb, 0, none⟩ = some (.string (⟨#[48]⟩ : ByteArray)) := (blk_cell hcp3 0).trans rfl; have HB3 := Aside0.mk hb3; clear hcp3 hb3)
  go_ret2
  exact ⟨rfl, gb_blk0 HB3.out HB.out, gb_below HB3.out⟩
set_option maxHeartbeats 8000000 in
set_option maxRecDepth 100000 in
theorem mk_named (f : Nat) (w : World) : Calls Tryz.prog 82 #[.func (.func f) #[] #[]] w fun e w' => ∃ gb, e = .returned (.func (.func 104) #[] #[.pointer (some ⟨gb, 0, none⟩)]) ∧ w.heap.size ≤ gb ∧ w'.heap[gb]? = some (.cells #[.func (.func f) #[] #[]] 163 (0, 0)) ∧ Below w.heap.size w w' := by
  have hmf : ∀ (fn : Fn) (first cap : Array Value) (w : World), (Instr.makeFunc fn first cap).run Tryz.prog w = .ok (.func fn first cap) w := fun _ _ _ _ => rfl
  go_enter Tryz.func82, Tryz.ntmps82
  go_wp2_with (with_reducible refine gate_dst (N := 1) rfl ?_; refine box_event ?hg (N := 1) ?hd (cs := #[.func (.func f) #[] #[]]) (t := 163) ?hr ?_; (case hd => rfl); (case hg => rfl); (case hr => first | (go_simp; done) | (go_simp; rfl)); intro g3 hg w3 hbox hb; have X3 := Aside0.mk hbox; have Y3 := Aside0.mk hb; have Z3 := Aside0.mk hg; clear hbox hb hg)
  go_ret
  exact ⟨g3, rfl, Nat.le_of_eq Z3.out.symm, X3.out, Y3.out⟩
set_option maxHeartbeats 8000000 in
set_option maxRecDepth 100000 in
theorem mk_digest (f : Nat) (w : World) : Calls Tryz.prog 87 #[.func (.func f) #[] #[]] w fun e w' => ∃ gb, e = .returned (.func (.func 106) #[] #[.pointer (some ⟨gb, 0, none⟩)]) ∧ w.heap.size ≤ gb ∧ w'.heap[gb]? = some (.cells #[.func (.func f) #[] #[]] 166 (0, 0)) ∧ Below w.heap.size w w' := by
  have hmf : ∀ (fn : Fn) (first cap : Array Value) (w : World), (Instr.makeFunc fn first cap).run Tryz.prog w = .ok (.func fn first cap) w := fun _ _ _ _ => rfl
  go_enter Tryz.func87, Tryz.ntmps87
  go_wp2_with (with_reducible refine gate_dst (N := 1) rfl ?_; refine box_event ?hg (N := 1) ?hd (cs := #[.func (.func f) #[] #[]]) (t := 166) ?hr ?_; (case hd => rfl); (case hg => rfl); (case hr => first | (go_simp; done) | (go_simp; rfl)); intro g3 hg w3 hbox hb; have X3 := Aside0.mk hbox; have Y3 := Aside0.mk hb; have Z3 := Aside0.mk hg; clear hbox hb hg)
  go_ret
  exact ⟨g3, rfl, Nat.le_of_eq Z3.out.symm, X3.out, Y3.out⟩
set_option maxHeartbeats 8000000 in
set_option maxRecDepth 100000 in
theorem mk_always (s : ByteArray) (n : Int) (w : World) : Calls Tryz.prog 99 #[.string s, .int .i64 n] w fun e w' => ∃ gb gc, e = .returned (.func (.func 110) #[] #[.pointer (some ⟨gb, 0, none⟩), .pointer (some ⟨gc, 0, none⟩)]) ∧ w.heap.size ≤ gb ∧ w.heap.size ≤ gc ∧ w'.heap[gb]? = some (.cells #[.string s] 9 (0, 0)) ∧ w'.heap[gc]? = some (.cells #[.int .i64 n] 3 (0, 0)) ∧ Below w.heap.size w w' := by
  have hmf : ∀ (fn : Fn) (first cap : Array Value) (w : World), (Instr.makeFunc fn first cap).run Tryz.prog w = .ok (.func fn first cap) w := fun _ _ _ _ => rfl
  go_enter Tryz.func99, Tryz.ntmps99
  go_wp2_with (first
    | (with_reducible refine gate_dst (N := 2) rfl ?_; refine box_event ?hg (N := 2) ?hd (cs := #[.string s]) (t := 9) ?hr ?_; (case hd => rfl); (case hg => rfl); (case hr => first | (go_simp; done) | (go_simp; rfl)); intro g3 hg w3 hbox hb; have X3 := Aside0.mk hbox; have Y3 := Aside0.mk hb; have Z3 := Aside0.mk hg; clear hbox hb hg)
    | (with_reducible refine gate_dst (N := 3) rfl ?_; refine box_event ?hg (N := 3) ?hd (cs := #[.int .i64 n]) (t := 3) ?hr ?_; (case hd => rfl); (case hg => rfl); (case hr => first | (go_simp; done) | (go_simp; rfl)); intro g4 hg w4 hbox hb; have X4 := Aside0.mk hbox; have Y4 := Aside0.mk hb; have Z4 := Aside0.mk hg; clear hbox hb hg))
  go_ret
  exact ⟨g3, g4, rfl, Nat.le_of_eq Z3.out.symm, by rw [Z4.out]; exact below_size Y3.out, blk_below X3.out Y4.out, X4.out, below_step Y3.out Y4.out⟩
structure Rdr where
  key : List UInt8
  F : S24 → ByteArray → Option (S24 × ByteArray × Bool)
theorem held_in {v u : Value} {ps : List MemPlace} (h : (some ((DataW.held v : DataW Value), ([] : List MemPlace))) = some (.held u, ps)) : v = u := by cases h; rfl
def heldR (v : Value) : Option (DataW Value × List MemPlace) := some (.held v, [])
def tabD (L : List (Rdr × Value)) : DataW Value := L.foldl (fun D e => D.put (.string e.1.key) (.held e.2)) (.map [])
def Ent (n : Nat) : Prop := ∀ args w, (callFunc n args).run Tryz.prog w = .ok (.enter n args) w
def ROk (lo b : Nat) (W : World) (e : Rdr × Value) : Prop := ∃ n cap cells, e.2 = .func (.func n) #[] cap ∧ (Ent n ∧ RdC n cap cells e.1.F) ∧ ∀ c ∈ cells, lo ≤ c.1 ∧ c.1 ≠ b ∧ W.heap[c.1]? = some c.2
structure TabS (w0 W : World) (b : Nat) (L : List (Rdr × Value)) : Prop where
  own : W.ownsMap Tryz.prog 9 heldR b L.length (tabD L)
  lo : w0.heap.size ≤ b
  hb : Below w0.heap.size w0 W
  ok : ∀ e ∈ L, ROk w0.heap.size b W e
theorem tabD_snoc (L : List (Rdr × Value)) (e : Rdr × Value) : tabD (L ++ [e]) = (tabD L).put (.string e.1.key) (.held e.2) := by
  unfold tabD
  rw [List.foldl_append]
  rfl
theorem ROk.later {lo b : Nat} {W W' : World} {e : Rdr × Value} (h : ROk lo b W e) (hg : W.grownBy W' (some b)) : ROk lo b W' e := by
  obtain ⟨n, cap, cells, h1, h2, h3⟩ := h
  exact ⟨n, cap, cells, h1, h2, fun c hc => ⟨(h3 c hc).1, (h3 c hc).2.1, gb_blk hg (h3 c hc).2.2 (h3 c hc).2.1⟩⟩
theorem TabS.next {w0 W W' : World} {b : Nat} {L : List (Rdr × Value)} (h : TabS w0 W b L) (hb : Below W.heap.size W W') : TabS w0 W' b L :=
  ⟨h.own.kept (gb_below hb (row := none)) (by simp), h.lo, below_step h.hb hb, fun e he => (h.ok e he).later (gb_below hb)⟩
theorem TabS.ins {w0 W : World} {b : Nat} {L : List (Rdr × Value)} (h : TabS w0 W b L) (k : ByteArray) (v : Value) (F : S24 → ByteArray → Option (S24 × ByteArray × Bool)) (hk : k.size ≤ 100) (hL : L.length ≤ 100) (hv : ROk w0.heap.size b W (⟨k.data.toList, F⟩, v)) :
    ∃ W', (Instr.mapUpdate 141 (.map (some b)) (.string k) v).run Tryz.prog W = .ok () W' ∧ TabS w0 W' b (L ++ [(⟨k.data.toList, F⟩, v)]) := by
  have K : Maps.Keyed Tryz.prog 9 := Maps.string_keyed Tryz.underlying9
  have hm : maxLen = 9223372036854775807 := rfl
  obtain ⟨W', r, o, t⟩ := h.own.store K Tryz.underlying141 (by omega) (Go.WideMaps.keyOf_string_mk Tryz.underlying9 (by omega : k.size ≤ maxLen)) (show heldR v = some (.held v, []) from rfl)
  refine ⟨W', r, ?_, h.lo, ?_, ?_⟩
  · rw [tabD_snoc, List.length_append]
    exact o
  · exact h.hb.grown t.grown (below_size h.hb) (fun k hk => by cases hk; exact h.lo)
  · intro e he
    rcases List.mem_append.mp he with he | he
    · exact (h.ok e he).later t.grown
    · rw [List.mem_singleton.mp he]
      exact hv.later t.grown
theorem rok_named {lo b gb : Nat} {W : World} {n f T : Nat} {k : List UInt8} {F : S24 → ByteArray → Option (S24 × ByteArray × Bool)} (hE : Ent n) (hF : RdC n #[.pointer (some ⟨gb, 0, none⟩)] [(gb, .cells #[.func (.func f) #[] #[]] T (0, 0))] F) (h1 : lo ≤ gb) (h2 : gb ≠ b) (h3 : W.heap[gb]? = some (.cells #[.func (.func f) #[] #[]] T (0, 0))) : ROk lo b W (⟨k, F⟩, .func (.func n) #[] #[.pointer (some ⟨gb, 0, none⟩)]) :=
  ⟨n, _, _, rfl, ⟨hE, hF⟩, fun c hc => by rw [List.mem_singleton.mp hc]; exact ⟨h1, h2, h3⟩⟩
theorem rok_always {lo b gb gc : Nat} {W : World} {n : Nat} {s : ByteArray} {m : Int} {k : List UInt8} {F : S24 → ByteArray → Option (S24 × ByteArray × Bool)} (hE : Ent n) (hF : RdC n #[.pointer (some ⟨gb, 0, none⟩), .pointer (some ⟨gc, 0, none⟩)] [(gb, .cells #[.string s] 9 (0, 0)), (gc, .cells #[.int .i64 m] 3 (0, 0))] F) (h1 : lo ≤ gb) (h2 : gb ≠ b) (h3 : W.heap[gb]? = some (.cells #[.string s] 9 (0, 0))) (h4 : lo ≤ gc) (h5 : gc ≠ b) (h6 : W.heap[gc]? = some (.cells #[.int .i64 m] 3 (0, 0))) : ROk lo b W (⟨k, F⟩, .func (.func n) #[] #[.pointer (some ⟨gb, 0, none⟩), .pointer (some ⟨gc, 0, none⟩)]) :=
  ⟨n, _, _, rfl, ⟨hE, hF⟩, fun c hc => by
    rcases List.mem_cons.mp hc with rfl | hc
    · exact ⟨h1, h2, h3⟩
    · rw [List.mem_singleton.mp hc]; exact ⟨h4, h5, h6⟩⟩
theorem rok_lit {lo b : Nat} {W : World} {n : Nat} {k : List UInt8} {F : S24 → ByteArray → Option (S24 × ByteArray × Bool)} (hE : Ent n) (hF : RdC n #[] [] F) : ROk lo b W (⟨k, F⟩, .func (.func n) #[] #[]) :=
  ⟨n, _, _, rfl, ⟨hE, hF⟩, fun c hc => by cases hc⟩
theorem ent_named : Ent 104 := fun args w => enters_ Tryz.func104 (by kernel_rfl) (by kernel_rfl) args w
theorem ent_digest : Ent 106 := fun args w => enters_ Tryz.func106 (by kernel_rfl) (by kernel_rfl) args w
theorem ent_always : Ent 110 := fun args w => enters_ Tryz.func110 (by kernel_rfl) (by kernel_rfl) args w
theorem ent_normal : Ent 85 := fun args w => enters_ Tryz.func85 (by kernel_rfl) (by kernel_rfl) args w
theorem ent_alias : Ent 86 := fun args w => enters_ Tryz.func86 (by kernel_rfl) (by kernel_rfl) args w
theorem ent_receive : Ent 90 := fun args w => enters_ Tryz.func90 (by kernel_rfl) (by kernel_rfl) args w
theorem ent_immediate : Ent 93 := fun args w => enters_ Tryz.func93 (by kernel_rfl) (by kernel_rfl) args w
theorem ent_burst : Ent 95 := fun args w => enters_ Tryz.func95 (by kernel_rfl) (by kernel_rfl) args w
theorem ent_max : Ent 96 := fun args w => enters_ Tryz.func96 (by kernel_rfl) (by kernel_rfl) args w
theorem ent_auth : Ent 97 := fun args w => enters_ Tryz.func97 (by kernel_rfl) (by kernel_rfl) args w
def specs : List Rdr := [
  ⟨([73, 110, 105, 116, 105, 97, 116, 111, 114, 78, 97, 109, 101] : List UInt8), fun a v => (names_Iqn.f v).bind fun b => some ({ a with f6 := v }, (⟨#[]⟩ : ByteArray), b)⟩,
  ⟨([84, 97, 114, 103, 101, 116, 78, 97, 109, 101] : List UInt8), fun a v => (names_Iqn.f v).bind fun b => some ({ a with f7 := v }, (⟨#[]⟩ : ByteArray), b)⟩,
  ⟨([83, 101, 115, 115, 105, 111, 110, 84, 121, 112, 101] : List UInt8), fun a v => some (a, (⟨#[]⟩ : ByteArray), v.toList == ([78, 111, 114, 109, 97, 108] : List UInt8))⟩,
  ⟨([73, 110, 105, 116, 105, 97, 116, 111, 114, 65, 108, 105, 97, 115] : List UInt8), fun a v => some (a, (⟨#[]⟩ : ByteArray), true)⟩,
  ⟨([72, 101, 97, 100, 101, 114, 68, 105, 103, 101, 115, 116] : List UInt8), fun a v => if v.size ≤ 1000000 then (match chosen [(⟨#[67, 82, 67, 51, 50, 67]⟩ : ByteArray), (⟨#[78, 111, 110, 101]⟩ : ByteArray)] v with | some x => some ({ a with f0 := x.toList == ([67, 82, 67, 51, 50, 67] : List UInt8) }, x, true) | none => some (a, (⟨#[]⟩ : ByteArray), false)) else none⟩,
  ⟨([68, 97, 116, 97, 68, 105, 103, 101, 115, 116] : List UInt8), fun a v => if v.size ≤ 1000000 then (match chosen [(⟨#[67, 82, 67, 51, 50, 67]⟩ : ByteArray), (⟨#[78, 111, 110, 101]⟩ : ByteArray)] v with | some x => some ({ a with f1 := x.toList == ([67, 82, 67, 51, 50, 67] : List UInt8) }, x, true) | none => some (a, (⟨#[]⟩ : ByteArray), false)) else none⟩,
  ⟨([77, 97, 120, 82, 101, 99, 118, 68, 97, 116, 97, 83, 101, 103, 109, 101, 110, 116, 76, 101, 110, 103, 116, 104] : List UInt8), fun a v => some ({ a with f4 := min (numB v 512).1 8192 }, ⟨(Go.Lib.itoa 8192).toArray⟩, (numB v 512).2)⟩,
  ⟨([73, 109, 109, 101, 100, 105, 97, 116, 101, 68, 97, 116, 97] : List UInt8), fun a v => some ({ a with f2 := v.toList == ([89, 101, 115] : List UInt8) }, v, (v.toList == ([89, 101, 115] : List UInt8)) || (v.toList == ([78, 111] : List UInt8)))⟩,
  ⟨([70, 105, 114, 115, 116, 66, 117, 114, 115, 116, 76, 101, 110, 103, 116, 104] : List UInt8), fun a v => some ({ a with f5 := min (numB v 512).1 4096 }, ⟨(Go.Lib.itoa (min (numB v 512).1 4096)).toArray⟩, (numB v 512).2)⟩,
  ⟨([77, 97, 120, 66, 117, 114, 115, 116, 76, 101, 110, 103, 116, 104] : List UInt8), fun a v => some (a, ⟨(Go.Lib.itoa (min (numB v 512).1 32768)).toArray⟩, (numB v 512).2)⟩,
  ⟨([65, 117, 116, 104, 77, 101, 116, 104, 111, 100] : List UInt8), fun a v => if v.size ≤ 1000000 then (match chosen [(⟨#[78, 111, 110, 101]⟩ : ByteArray)] v with | some x => some (a, x, true) | none => some (a, (⟨#[]⟩ : ByteArray), false)) else none⟩,
  ⟨([73, 110, 105, 116, 105, 97, 108, 82, 50, 84] : List UInt8), fun a v => some (a, (⟨#[89, 101, 115]⟩ : ByteArray), (v.toList == ([89, 101, 115] : List UInt8)) || (v.toList == ([78, 111] : List UInt8)))⟩,
  ⟨([68, 97, 116, 97, 80, 68, 85, 73, 110, 79, 114, 100, 101, 114] : List UInt8), fun a v => some (a, (⟨#[89, 101, 115]⟩ : ByteArray), (v.toList == ([89, 101, 115] : List UInt8)) || (v.toList == ([78, 111] : List UInt8)))⟩,
  ⟨([68, 97, 116, 97, 83, 101, 113, 117, 101, 110, 99, 101, 73, 110, 79, 114, 100, 101, 114] : List UInt8), fun a v => some (a, (⟨#[89, 101, 115]⟩ : ByteArray), (v.toList == ([89, 101, 115] : List UInt8)) || (v.toList == ([78, 111] : List UInt8)))⟩,
  ⟨([77, 97, 120, 67, 111, 110, 110, 101, 99, 116, 105, 111, 110, 115] : List UInt8), fun a v => some (a, (⟨#[49]⟩ : ByteArray), (numB v 1).2)⟩,
  ⟨([77, 97, 120, 79, 117, 116, 115, 116, 97, 110, 100, 105, 110, 103, 82, 50, 84] : List UInt8), fun a v => some (a, (⟨#[49]⟩ : ByteArray), (numB v 1).2)⟩,
  ⟨([68, 101, 102, 97, 117, 108, 116, 84, 105, 109, 101, 50, 87, 97, 105, 116] : List UInt8), fun a v => some (a, (⟨#[48]⟩ : ByteArray), (numB v 0).2)⟩,
  ⟨([68, 101, 102, 97, 117, 108, 116, 84, 105, 109, 101, 50, 82, 101, 116, 97, 105, 110] : List UInt8), fun a v => some (a, (⟨#[48]⟩ : ByteArray), (numB v 0).2)⟩,
  ⟨([69, 114, 114, 111, 114, 82, 101, 99, 111, 118, 101, 114, 121, 76, 101, 118, 101, 108] : List UInt8), fun a v => some (a, (⟨#[48]⟩ : ByteArray), (numB v 0).2)⟩]
def TabK (w0 W : World) (b i : Nat) : Prop := ∃ L, L.map (·.1) = specs.take i ∧ TabS w0 W b L
theorem TabK.next {w0 W W' : World} {b i : Nat} (h : TabK w0 W b i) (hb : Below W.heap.size W W') : TabK w0 W' b i := by
  obtain ⟨L, h1, h2⟩ := h
  exact ⟨L, h1, h2.next hb⟩
theorem TabK.lt {w0 W : World} {b i : Nat} (h : TabK w0 W b i) : b < W.heap.size := by
  obtain ⟨L, h1, h2⟩ := h
  exact h2.own.lt
theorem TabK.size {w0 W : World} {b i : Nat} (h : TabK w0 W b i) : w0.heap.size ≤ W.heap.size := by
  obtain ⟨L, h1, h2⟩ := h
  exact below_size h2.hb
theorem TabK.ins {w0 W : World} {b i : Nat} (h : TabK w0 W b i) (k : ByteArray) (v : Value) {F : S24 → ByteArray → Option (S24 × ByteArray × Bool)} (hv : ROk w0.heap.size b W (⟨k.data.toList, F⟩, v)) (hs : specs[i]? = some ⟨k.data.toList, F⟩) (hk : k.size ≤ 100) (hi : i < 19) :
    ∃ W', (Instr.mapUpdate 141 (.map (some b)) (.string k) v).run Tryz.prog W = .ok () W' ∧ TabK w0 W' b (i + 1) := by
  obtain ⟨L, h1, h2⟩ := h
  have hl : L.length ≤ 100 := by
    have := congrArg List.length h1
    rw [List.length_map, List.length_take] at this
    omega
  obtain ⟨W', r, s⟩ := h2.ins k v F hk hl hv
  refine ⟨W', r, L ++ [(⟨k.data.toList, F⟩, v)], ?_, s⟩
  obtain ⟨hlt, he⟩ := List.getElem?_eq_some_iff.mp hs
  rw [List.map_append, h1, List.take_succ_eq_append_getElem hlt, he]
  rfl
set_option maxHeartbeats 40000000 in
set_option maxRecDepth 100000 in
theorem readers_walk (w : World) : Calls Tryz.prog 67 #[] w fun e w' => ∃ b, e = .returned (.map (some b)) ∧ TabK w w' b 19 := by
  have hmm := @run_makeMap Tryz.prog
  have ts0 : TabK w (w.alloc (.map #[] 0)) w.heap.size 0 := ⟨[], rfl, World.ownsMap_made w Tryz.prog 9 heldR, Nat.le_refl _, below_alloc (Below.refl _ _) _, fun e he => by cases he⟩
  have TS0 := Aside0.mk ts0
  clear ts0
  have tok0 : True := trivial
  go_enter Tryz.func67, Tryz.ntmps67
  go_wp2_with (first
    | (go_at_call 82; have _t := tok0; refine (mk_named 83 _).mono ?_; rintro e u0 ⟨gb0, rfl, hlo0, hc0, hb0⟩; have tn0 := TS0.out.next hb0; obtain ⟨x0, r0, s0⟩ := tn0.ins (⟨#[73, 110, 105, 116, 105, 97, 116, 111, 114, 78, 97, 109, 101]⟩ : ByteArray) (.func (.func 104) #[] #[.pointer (some ⟨gb0, 0, none⟩)]) (rok_named ent_named (rdc_named1 gb0) (Nat.le_trans TS0.out.size hlo0) (Nat.ne_of_gt (Nat.lt_of_lt_of_le TS0.out.lt hlo0)) hc0) rfl (by decide) (by decide); have TS1 := Aside0.mk s0; clear tok0 _t; have tok1 : True := trivial; clear tn0 s0 hlo0 hc0 hb0)
    | (go_at_call 82; have _t := tok1; refine (mk_named 84 _).mono ?_; rintro e u1 ⟨gb1, rfl, hlo1, hc1, hb1⟩; have tn1 := TS1.out.next hb1; obtain ⟨x1, r1, s1⟩ := tn1.ins (⟨#[84, 97, 114, 103, 101, 116, 78, 97, 109, 101]⟩ : ByteArray) (.func (.func 104) #[] #[.pointer (some ⟨gb1, 0, none⟩)]) (rok_named ent_named (rdc_named2 gb1) (Nat.le_trans TS1.out.size hlo1) (Nat.ne_of_gt (Nat.lt_of_lt_of_le TS1.out.lt hlo1)) hc1) rfl (by decide) (by decide); obtain ⟨x2, r2, s2⟩ := s1.ins (⟨#[83, 101, 115, 115, 105, 111, 110, 84, 121, 112, 101]⟩ : ByteArray) (.func (.func 85) #[] #[]) (rok_lit ent_normal rdc_normal) rfl (by decide) (by decide); obtain ⟨x3, r3, s3⟩ := s2.ins (⟨#[73, 110, 105, 116, 105, 97, 116, 111, 114, 65, 108, 105, 97, 115]⟩ : ByteArray) (.func (.func 86) #[] #[]) (rok_lit ent_alias rdc_alias) rfl (by decide) (by decide); have TS4 := Aside0.mk s3; clear tok1 _t; have tok2 : True := trivial; clear tn1 s1 s2 s3 hlo1 hc1 hb1)
    | (go_at_call 87; have _t := tok2; refine (mk_digest 88 _).mono ?_; rintro e u2 ⟨gb2, rfl, hlo2, hc2, hb2⟩; have tn2 := TS4.out.next hb2; obtain ⟨x4, r4, s4⟩ := tn2.ins (⟨#[72, 101, 97, 100, 101, 114, 68, 105, 103, 101, 115, 116]⟩ : ByteArray) (.func (.func 106) #[] #[.pointer (some ⟨gb2, 0, none⟩)]) (rok_named ent_digest (rdc_digest5 gb2) (Nat.le_trans TS4.out.size hlo2) (Nat.ne_of_gt (Nat.lt_of_lt_of_le TS4.out.lt hlo2)) hc2) rfl (by decide) (by decide); have TS5 := Aside0.mk s4; clear tok2 _t; have tok3 : True := trivial; clear tn2 s4 hlo2 hc2 hb2)
    | (go_at_call 87; have _t := tok3; refine (mk_digest 89 _).mono ?_; rintro e u3 ⟨gb3, rfl, hlo3, hc3, hb3⟩; have tn3 := TS5.out.next hb3; obtain ⟨x5, r5, s5⟩ := tn3.ins (⟨#[68, 97, 116, 97, 68, 105, 103, 101, 115, 116]⟩ : ByteArray) (.func (.func 106) #[] #[.pointer (some ⟨gb3, 0, none⟩)]) (rok_named ent_digest (rdc_digest6 gb3) (Nat.le_trans TS5.out.size hlo3) (Nat.ne_of_gt (Nat.lt_of_lt_of_le TS5.out.lt hlo3)) hc3) rfl (by decide) (by decide); obtain ⟨x6, r6, s6⟩ := s5.ins (⟨#[77, 97, 120, 82, 101, 99, 118, 68, 97, 116, 97, 83, 101, 103, 109, 101, 110, 116, 76, 101, 110, 103, 116, 104]⟩ : ByteArray) (.func (.func 90) #[] #[]) (rok_lit ent_receive rdc_receive) rfl (by decide) (by decide); obtain ⟨x7, r7, s7⟩ := s6.ins (⟨#[73, 109, 109, 101, 100, 105, 97, 116, 101, 68, 97, 116, 97]⟩ : ByteArray) (.func (.func 93) #[] #[]) (rok_lit ent_immediate rdc_immediate) rfl (by decide) (by decide); obtain ⟨x8, r8, s8⟩ := s7.ins (⟨#[70, 105, 114, 115, 116, 66, 117, 114, 115, 116, 76, 101, 110, 103, 116, 104]⟩ : ByteArray) (.func (.func 95) #[] #[]) (rok_lit ent_burst rdc_burst) rfl (by decide) (by decide); obtain ⟨x9, r9, s9⟩ := s8.ins (⟨#[77, 97, 120, 66, 117, 114, 115, 116, 76, 101, 110, 103, 116, 104]⟩ : ByteArray) (.func (.func 96) #[] #[]) (rok_lit ent_max rdc_max) rfl (by decide) (by decide); obtain ⟨x10, r10, s10⟩ := s9.ins (⟨#[65, 117, 116, 104, 77, 101, 116, 104, 111, 100]⟩ : ByteArray) (.func (.func 97) #[] #[]) (rok_lit ent_auth rdc_auth) rfl (by decide) (by decide); have TS11 := Aside0.mk s10; clear tok3 _t; have tok4 : True := trivial; clear tn3 s5 s6 s7 s8 s9 s10 hlo3 hc3 hb3)
    | (go_at_call 99; have _t := tok4; refine (mk_always (⟨#[89, 101, 115]⟩ : ByteArray) 0 _).mono ?_; rintro e u4 ⟨gb4, gc4, rfl, hlo4, hlc4, hc4, hd4, hb4⟩; have tn4 := TS11.out.next hb4; obtain ⟨x11, r11, s11⟩ := tn4.ins (⟨#[73, 110, 105, 116, 105, 97, 108, 82, 50, 84]⟩ : ByteArray) (.func (.func 110) #[] #[.pointer (some ⟨gb4, 0, none⟩), .pointer (some ⟨gc4, 0, none⟩)]) (rok_always ent_always (rdc_always_yes gb4 gc4 0) (Nat.le_trans TS11.out.size hlo4) (Nat.ne_of_gt (Nat.lt_of_lt_of_le TS11.out.lt hlo4)) hc4 (Nat.le_trans TS11.out.size hlc4) (Nat.ne_of_gt (Nat.lt_of_lt_of_le TS11.out.lt hlc4)) hd4) rfl (by decide) (by decide); have TS12 := Aside0.mk s11; clear tok4 _t; have tok5 : True := trivial; clear tn4 s11 hlo4 hc4 hb4 hlc4 hd4)
    | (go_at_call 99; have _t := tok5; refine (mk_always (⟨#[89, 101, 115]⟩ : ByteArray) 0 _).mono ?_; rintro e u5 ⟨gb5, gc5, rfl, hlo5, hlc5, hc5, hd5, hb5⟩; have tn5 := TS12.out.next hb5; obtain ⟨x12, r12, s12⟩ := tn5.ins (⟨#[68, 97, 116, 97, 80, 68, 85, 73, 110, 79, 114, 100, 101, 114]⟩ : ByteArray) (.func (.func 110) #[] #[.pointer (some ⟨gb5, 0, none⟩), .pointer (some ⟨gc5, 0, none⟩)]) (rok_always ent_always (rdc_always_yes gb5 gc5 0) (Nat.le_trans TS12.out.size hlo5) (Nat.ne_of_gt (Nat.lt_of_lt_of_le TS12.out.lt hlo5)) hc5 (Nat.le_trans TS12.out.size hlc5) (Nat.ne_of_gt (Nat.lt_of_lt_of_le TS12.out.lt hlc5)) hd5) rfl (by decide) (by decide); have TS13 := Aside0.mk s12; clear tok5 _t; have tok6 : True := trivial; clear tn5 s12 hlo5 hc5 hb5 hlc5 hd5)
    | (go_at_call 99; have _t := tok6; refine (mk_always (⟨#[89, 101, 115]⟩ : ByteArray) 0 _).mono ?_; rintro e u6 ⟨gb6, gc6, rfl, hlo6, hlc6, hc6, hd6, hb6⟩; have tn6 := TS13.out.next hb6; obtain ⟨x13, r13, s13⟩ := tn6.ins (⟨#[68, 97, 116, 97, 83, 101, 113, 117, 101, 110, 99, 101, 73, 110, 79, 114, 100, 101, 114]⟩ : ByteArray) (.func (.func 110) #[] #[.pointer (some ⟨gb6, 0, none⟩), .pointer (some ⟨gc6, 0, none⟩)]) (rok_always ent_always (rdc_always_yes gb6 gc6 0) (Nat.le_trans TS13.out.size hlo6) (Nat.ne_of_gt (Nat.lt_of_lt_of_le TS13.out.lt hlo6)) hc6 (Nat.le_trans TS13.out.size hlc6) (Nat.ne_of_gt (Nat.lt_of_lt_of_le TS13.out.lt hlc6)) hd6) rfl (by decide) (by decide); have TS14 := Aside0.mk s13; clear tok6 _t; have tok7 : True := trivial; clear tn6 s13 hlo6 hc6 hb6 hlc6 hd6)
    | (go_at_call 99; have _t := tok7; refine (mk_always (⟨#[49]⟩ : ByteArray) 1 _).mono ?_; rintro e u7 ⟨gb7, gc7, rfl, hlo7, hlc7, hc7, hd7, hb7⟩; have tn7 := TS14.out.next hb7; obtain ⟨x14, r14, s14⟩ := tn7.ins (⟨#[77, 97, 120, 67, 111, 110, 110, 101, 99, 116, 105, 111, 110, 115]⟩ : ByteArray) (.func (.func 110) #[] #[.pointer (some ⟨gb7, 0, none⟩), .pointer (some ⟨gc7, 0, none⟩)]) (rok_always ent_always (rdc_always_one gb7 gc7 1) (Nat.le_trans TS14.out.size hlo7) (Nat.ne_of_gt (Nat.lt_of_lt_of_le TS14.out.lt hlo7)) hc7 (Nat.le_trans TS14.out.size hlc7) (Nat.ne_of_gt (Nat.lt_of_lt_of_le TS14.out.lt hlc7)) hd7) rfl (by decide) (by decide); have TS15 := Aside0.mk s14; clear tok7 _t; have tok8 : True := trivial; clear tn7 s14 hlo7 hc7 hb7 hlc7 hd7)
    | (go_at_call 99; have _t := tok8; refine (mk_always (⟨#[49]⟩ : ByteArray) 1 _).mono ?_; rintro e u8 ⟨gb8, gc8, rfl, hlo8, hlc8, hc8, hd8, hb8⟩; have tn8 := TS15.out.next hb8; obtain ⟨x15, r15, s15⟩ := tn8.ins (⟨#[77, 97, 120, 79, 117, 116, 115, 116, 97, 110, 100, 105, 110, 103, 82, 50, 84]⟩ : ByteArray) (.func (.func 110) #[] #[.pointer (some ⟨gb8, 0, none⟩), .pointer (some ⟨gc8, 0, none⟩)]) (rok_always ent_always (rdc_always_one gb8 gc8 1) (Nat.le_trans TS15.out.size hlo8) (Nat.ne_of_gt (Nat.lt_of_lt_of_le TS15.out.lt hlo8)) hc8 (Nat.le_trans TS15.out.size hlc8) (Nat.ne_of_gt (Nat.lt_of_lt_of_le TS15.out.lt hlc8)) hd8) rfl (by decide) (by decide); have TS16 := Aside0.mk s15; clear tok8 _t; have tok9 : True := trivial; clear tn8 s15 hlo8 hc8 hb8 hlc8 hd8)
    | (go_at_call 99; have _t := tok9; refine (mk_always (⟨#[48]⟩ : ByteArray) 0 _).mono ?_; rintro e u9 ⟨gb9, gc9, rfl, hlo9, hlc9, hc9, hd9, hb9⟩; have tn9 := TS16.out.next hb9; obtain ⟨x16, r16, s16⟩ := tn9.ins (⟨#[68, 101, 102, 97, 117, 108, 116, 84, 105, 109, 101, 50, 87, 97, 105, 116]⟩ : ByteArray) (.func (.func 110) #[] #[.pointer (some ⟨gb9, 0, none⟩), .pointer (some ⟨gc9, 0, none⟩)]) (rok_always ent_always (rdc_always_nil gb9 gc9 0) (Nat.le_trans TS16.out.size hlo9) (Nat.ne_of_gt (Nat.lt_of_lt_of_le TS16.out.lt hlo9)) hc9 (Nat.le_trans TS16.out.size hlc9) (Nat.ne_of_gt (Nat.lt_of_lt_of_le TS16.out.lt hlc9)) hd9) rfl (by decide) (by decide); have TS17 := Aside0.mk s16; clear tok9 _t; have tok10 : True := trivial; clear tn9 s16 hlo9 hc9 hb9 hlc9 hd9)
    | (go_at_call 99; have _t := tok10; refine (mk_always (⟨#[48]⟩ : ByteArray) 0 _).mono ?_; rintro e u10 ⟨gb10, gc10, rfl, hlo10, hlc10, hc10, hd10, hb10⟩; have tn10 := TS17.out.next hb10; obtain ⟨x17, r17, s17⟩ := tn10.ins (⟨#[68, 101, 102, 97, 117, 108, 116, 84, 105, 109, 101, 50, 82, 101, 116, 97, 105, 110]⟩ : ByteArray) (.func (.func 110) #[] #[.pointer (some ⟨gb10, 0, none⟩), .pointer (some ⟨gc10, 0, none⟩)]) (rok_always ent_always (rdc_always_nil gb10 gc10 0) (Nat.le_trans TS17.out.size hlo10) (Nat.ne_of_gt (Nat.lt_of_lt_of_le TS17.out.lt hlo10)) hc10 (Nat.le_trans TS17.out.size hlc10) (Nat.ne_of_gt (Nat.lt_of_lt_of_le TS17.out.lt hlc10)) hd10) rfl (by decide) (by decide); have TS18 := Aside0.mk s17; clear tok10 _t; have tok11 : True := trivial; clear tn10 s17 hlo10 hc10 hb10 hlc10 hd10)
    | (go_at_call 99; have _t := tok11; refine (mk_always (⟨#[48]⟩ : ByteArray) 0 _).mono ?_; rintro e u11 ⟨gb11, gc11, rfl, hlo11, hlc11, hc11, hd11, hb11⟩; have tn11 := TS18.out.next hb11; obtain ⟨x18, r18, s18⟩ := tn11.ins (⟨#[69, 114, 114, 111, 114, 82, 101, 99, 111, 118, 101, 114, 121, 76, 101, 118, 101, 108]⟩ : ByteArray) (.func (.func 110) #[] #[.pointer (some ⟨gb11, 0, none⟩), .pointer (some ⟨gc11, 0, none⟩)]) (rok_always ent_always (rdc_always_nil gb11 gc11 0) (Nat.le_trans TS18.out.size hlo11) (Nat.ne_of_gt (Nat.lt_of_lt_of_le TS18.out.lt hlo11)) hc11 (Nat.le_trans TS18.out.size hlc11) (Nat.ne_of_gt (Nat.lt_of_lt_of_le TS18.out.lt hlc11)) hd11) rfl (by decide) (by decide); have TS19 := Aside0.mk s18; clear tok11 _t; have tok12 : True := trivial; clear tn11 s18 hlo11 hc11 hb11 hlc11 hd11))
  go_ret
  exact ⟨w.heap.size, rfl, TS19.out⟩
def findR (s : ByteArray) : Option Rdr := specs.find? fun r => r.key == s.data.toList
theorem tab_fold (k : List UInt8) (z : DataW Value) : ∀ (L : List (Rdr × Value)) (D : DataW Value), (∀ e ∈ L, e.1.key ≠ k) → (L.foldl (fun D e => D.put (.string e.1.key) (.held e.2)) D).atKey (.string k) z = D.atKey (.string k) z ∧ Maps.has (L.foldl (fun D e => D.put (.string e.1.key) (.held e.2)) D) (.string k) = Maps.has D (.string k)
  | [], _, _ => ⟨rfl, rfl⟩
  | e :: L, D, h => by
    have hn : (Lit.string k) ≠ .string e.1.key := fun x => h e (List.mem_cons_self ..) (by injection x with x; exact x.symm)
    obtain ⟨h1, h2⟩ := tab_fold k z L (D.put (.string e.1.key) (.held e.2)) (fun e he => h e (List.mem_cons_of_mem _ he))
    exact ⟨h1.trans (Maps.atKey_put_other hn _ _), h2.trans (Maps.has_put_other hn _)⟩
theorem tab_map : ∀ (L : List (Rdr × Value)) (D : DataW Value), Maps.IsMap D → Maps.IsMap (L.foldl (fun D e => D.put (.string e.1.key) (.held e.2)) D)
  | [], _, h => h
  | _ :: L, _, h => tab_map L _ (h.put _ _)
theorem specs_nodup : (specs.map (·.key)).Nodup := by decide
theorem tab_none {L : List (Rdr × Value)} (hL : L.map (·.1) = specs) {s : ByteArray} (h : findR s = none) : Maps.has (tabD L) (.string s.data.toList) = false := by
  refine (tab_fold s.data.toList (.held .nilFunc) L _ fun e he x => ?_).2
  have hm : e.1 ∈ specs := hL ▸ List.mem_map_of_mem he
  have := List.find?_eq_none.mp h e.1 hm
  exact this (beq_iff_eq.mpr x)
theorem tab_some {L : List (Rdr × Value)} (hL : L.map (·.1) = specs) {s : ByteArray} {r : Rdr} (h : findR s = some r) : ∃ e ∈ L, e.1 = r ∧ Maps.has (tabD L) (.string s.data.toList) = true ∧ (tabD L).atKey (.string s.data.toList) (.held .nilFunc) = .held e.2 := by
  have hk : r.key = s.data.toList := beq_iff_eq.mp (List.find?_some (p := fun r : Rdr => r.key == s.data.toList) h)
  have hm : r ∈ L.map (·.1) := hL ▸ List.mem_of_find?_eq_some h
  obtain ⟨e, he, rfl⟩ := List.mem_map.mp hm
  refine ⟨e, he, rfl, ?_⟩
  obtain ⟨A, B, rfl⟩ := List.append_of_mem he
  have hnd : ((A ++ e :: B).map (fun e => e.1.key)).Nodup := by
    have := specs_nodup
    rw [← hL, List.map_map] at this
    exact this
  have hB : ∀ e' ∈ B, e'.1.key ≠ s.data.toList := fun e' he' x => by
    rw [List.map_append, List.map_cons] at hnd
    have h1 := (List.nodup_append.mp hnd).2.1
    exact (List.nodup_cons.mp h1).1 (by rw [hk, ← x]; exact List.mem_map_of_mem (f := fun e : Rdr × Value => e.1.key) he')
  have hf : tabD (A ++ e :: B) = B.foldl (fun D e => D.put (.string e.1.key) (.held e.2)) ((tabD A).put (.string e.1.key) (.held e.2)) := by
    unfold tabD
    rw [List.foldl_append]
    rfl
  have hA : Maps.IsMap (tabD A) := tab_map A _ ⟨_, rfl⟩
  obtain ⟨h1, h2⟩ := tab_fold s.data.toList (.held .nilFunc) B ((tabD A).put (.string e.1.key) (.held e.2)) hB
  rw [hf, h1, h2, hk]
  exact ⟨Maps.has_put_same hA (key_lit s) _, Maps.atKey_put_same hA (key_lit s) _ _⟩
def ansL (a : S24) (out : List S117) : List S117 → Option (Option (S24 × List S117))
  | [] => some (some (a, out))
  | p :: l => match findR p.f0 with
    | none => ansL a (out ++ [⟨p.f0, (⟨#[78, 111, 116, 85, 110, 100, 101, 114, 115, 116, 111, 111, 100]⟩ : ByteArray)⟩]) l
    | some r => (r.F a p.f1).bind fun x => if x.2.2 = true then (if x.2.1.toList.isEmpty = true then ansL x.1 out l else ansL x.1 (out ++ [⟨p.f0, x.2.1⟩]) l) else some none
structure AnS (w w2 wr : World) (g2 g4 b : Nat) (a : S24) (v8 : Value) (out : List S117) : Prop where
  tab : ∃ w1, TabK w1 w2 b 19 ∧ w.heap.size ≤ g2 ∧ w.heap.size ≤ g4 ∧ g2 < w1.heap.size ∧ g4 < w1.heap.size ∧ g2 ≠ g4
  gr : w2.grownBy wr (some g2)
  k2 : wr.heap[g2]? = some (.cells (agC a) 24 (0, 0))
  k4 : wr.heap[g4]? = some (.cells (#[.bool false, .bool false, .bool false, .bool false, .int .i64 0, .int .i64 0, .string (⟨#[]⟩ : ByteArray), .string (⟨#[]⟩ : ByteArray)] : Array Value) 24 (0, 0))
  own : Kd.R k117 117 wr w.heap.size (fun k => w2.heap.size ≤ k) v8 out
  hb : Below w.heap.size w wr
theorem AnS.lt {w w2 wr : World} {g2 g4 b : Nat} {a : S24} {v8 : Value} {out : List S117} (h : AnS w w2 wr g2 g4 b a v8 out) : g2 < w2.heap.size ∧ g4 < w2.heap.size := by
  obtain ⟨w1, h1, _, _, h2, h3, _⟩ := h.tab
  have := h1.size
  omega
theorem AnS.next {w w2 wr w' : World} {g2 g4 b : Nat} {a : S24} {v8 : Value} {out : List S117} (h : AnS w w2 wr g2 g4 b a v8 out) (hb : Below wr.heap.size wr w') : AnS w w2 w' g2 g4 b a v8 out :=
  ⟨h.tab, h.gr.trans (gb_below hb), blk_below h.k2 hb, blk_below h.k4 hb, Kd.R_below h.own hb, below_step h.hb hb⟩
theorem AnS.call {w w2 wr w' : World} {g2 g4 b : Nat} {a a' : S24} {v8 : Value} {out : List S117} (h : AnS w w2 wr g2 g4 b a v8 out) (hg : wr.grownBy w' (some g2)) (hk : w'.heap[g2]? = some (.cells (agC a') 24 (0, 0))) : AnS w w2 w' g2 g4 b a' v8 out := by
  have hlt := h.lt
  obtain ⟨w1, h1, h2, h3, h4, h5, h6⟩ := h.tab
  exact ⟨h.tab, h.gr.trans hg, hk, gb_blk hg h.k4 (Ne.symm h6), Kd.R_grown h.own hg (fun k hk e => by injection e with e; omega), h.hb.grown hg (below_size h.hb) (fun k hk => by cases hk; exact h2)⟩
theorem AnS.app {w w2 wr w' : World} {g2 g4 b : Nat} {a : S24} {v8 v9 : Value} {out out' : List S117} (h : AnS w w2 wr g2 g4 b a v8 out) (hr : Kd.R k117 117 w' w.heap.size (fun k => w2.heap.size ≤ k) v9 out') (hb : Below w.heap.size w w') (hg : wr.grownBy w' v8.ownBlock) : AnS w w2 w' g2 g4 b a v9 out' := by
  have hlt := h.lt
  have hne : ∀ k, k < w2.heap.size → some k ≠ v8.ownBlock := fun k hk e => by have := h.own.1 k e.symm; omega
  refine ⟨h.tab, ⟨hg.os.trans h.gr.os, hg.tape.trans h.gr.tape, hg.output.trans h.gr.output, Nat.le_trans h.gr.size hg.size, fun k hk hn => (hg.block k (Nat.lt_of_lt_of_le hk h.gr.size) (hne k hk)).trans (h.gr.block k hk hn)⟩, ?_, ?_, hr, hb⟩
  · rw [hg.block g2 (Nat.lt_of_lt_of_le hlt.1 h.gr.size) (hne g2 hlt.1)]
    exact h.k2
  · rw [hg.block g4 (Nat.lt_of_lt_of_le hlt.2 h.gr.size) (hne g4 hlt.2)]
    exact h.k4
theorem AnS.look {w w2 wr : World} {g2 g4 b : Nat} {a : S24} {v8 : Value} {out : List S117} (h : AnS w w2 wr g2 g4 b a v8 out) (s : ByteArray) (hs : s.size ≤ 1000000) :
    (findR s = none → ∃ v, (Instr.lookup 141 (.map (some b)) (.string s) true).run Tryz.prog wr = .ok (.tuple #[v, .bool false]) wr) ∧
    (∀ r, findR s = some r → ∃ n cap cells, (Instr.lookup 141 (.map (some b)) (.string s) true).run Tryz.prog wr = .ok (.tuple #[.func (.func n) #[] cap, .bool true]) wr ∧ Ent n ∧ RdC n cap cells r.F ∧ ∀ c ∈ cells, wr.heap[c.1]? = some c.2) := by
  obtain ⟨w1, ⟨L, hL, T⟩, h2, h3, h4, h5, h6⟩ := h.tab
  have K : Maps.Keyed Tryz.prog 9 := Maps.string_keyed Tryz.underlying9
  have hm : maxLen = 9223372036854775807 := rfl
  have hbne : some b ≠ some g2 := fun e => by injection e with e; have := T.lo; omega
  have own : wr.ownsMap Tryz.prog 9 heldR b L.length (tabD L) := T.own.kept h.gr hbne
  have hz : (zeroValue 144).run Tryz.prog wr = .ok .nilFunc wr := by kernel_rfl
  obtain ⟨v, ps, hl, hv⟩ := own.look_ok K Tryz.underlying141 hz (show heldR .nilFunc = some (.held .nilFunc, []) from rfl) (Go.WideMaps.keyOf_string_mk Tryz.underlying9 (by omega : s.size ≤ maxLen))
  have hL : L.map (·.1) = specs := hL
  refine ⟨fun hn => ?_, fun r hr => ?_⟩
  · rw [tab_none hL hn] at hl
    exact ⟨v, hl⟩
  · obtain ⟨e, he, rfl, h7, h8⟩ := tab_some hL hr
    rw [h7] at hl
    rw [h8] at hv
    have hve : v = e.2 := held_in hv
    obtain ⟨n, cap, cells, h9, ⟨h10, h11⟩, h12⟩ := T.ok e he
    rw [hve, h9] at hl
    refine ⟨n, cap, cells, hl, h10, h11, fun c hc => ?_⟩
    obtain ⟨h13, h14, h15⟩ := h12 c hc
    exact gb_blk h.gr h15 (by omega)
def put8 (w : World) (g : Nat) (a b c d e f i j : Value) : World := ((((((((w.setCell ⟨g, 0, none⟩ a).setCell ⟨g, 1, none⟩ b).setCell ⟨g, 2, none⟩ c).setCell ⟨g, 3, none⟩ d).setCell ⟨g, 4, none⟩ e).setCell ⟨g, 5, none⟩ f).setCell ⟨g, 6, none⟩ i).setCell ⟨g, 7, none⟩ j)
theorem put8_blk {w : World} {g t : Nat} {a b c d e f i j xa xb xc xd xe xf xi xj : Value} (h : w.heap[g]? = some (.cells #[xa, xb, xc, xd, xe, xf, xi, xj] t (0, 0))) : (put8 w g a b c d e f i j).heap[g]? = some (.cells #[a, b, c, d, e, f, i, j] t (0, 0)) := by
  unfold put8
  refine blk_put (cs := #[a, b, c, d, e, f, i, xj]) ?_ 7 _ rfl
  refine blk_put (cs := #[a, b, c, d, e, f, xi, xj]) ?_ 6 _ rfl
  refine blk_put (cs := #[a, b, c, d, e, xf, xi, xj]) ?_ 5 _ rfl
  refine blk_put (cs := #[a, b, c, d, xe, xf, xi, xj]) ?_ 4 _ rfl
  refine blk_put (cs := #[a, b, c, xd, xe, xf, xi, xj]) ?_ 3 _ rfl
  refine blk_put (cs := #[a, b, xc, xd, xe, xf, xi, xj]) ?_ 2 _ rfl
  refine blk_put (cs := #[a, xb, xc, xd, xe, xf, xi, xj]) ?_ 1 _ rfl
  refine blk_put (cs := #[xa, xb, xc, xd, xe, xf, xi, xj]) ?_ 0 _ rfl
  exact h
theorem put8_below {w0 w : World} {g : Nat} {a b c d e f i j : Value} (h : Below w0.heap.size w0 w) (hg : w0.heap.size ≤ g) : Below w0.heap.size w0 (put8 w g a b c d e f i j) := (below_set (below_set (below_set (below_set (below_set (below_set (below_set (below_set h hg) hg) hg) hg) hg) hg) hg) hg)
theorem put8_gb {w : World} {g : Nat} {a b c d e f i j : Value} : w.grownBy (put8 w g a b c d e f i j) (some g) := ((((((((gb_set _ _ _ _).trans (gb_set _ _ _ _)).trans (gb_set _ _ _ _)).trans (gb_set _ _ _ _)).trans (gb_set _ _ _ _)).trans (gb_set _ _ _ _)).trans (gb_set _ _ _ _)).trans (gb_set _ _ _ _))
theorem cells8 {w : World} {g t : Nat} {a b c d e f i j : Value} (h : w.heap[g]? = some (.cells #[a, b, c, d, e, f, i, j] t (0, 0))) : w.cell? ⟨g, 0, none⟩ = some a ∧ w.cell? ⟨g, 1, none⟩ = some b ∧ w.cell? ⟨g, 2, none⟩ = some c ∧ w.cell? ⟨g, 3, none⟩ = some d ∧ w.cell? ⟨g, 4, none⟩ = some e ∧ w.cell? ⟨g, 5, none⟩ = some f ∧ w.cell? ⟨g, 6, none⟩ = some i ∧ w.cell? ⟨g, 7, none⟩ = some j := ⟨(blk_cell h 0).trans rfl, (blk_cell h 1).trans rfl, (blk_cell h 2).trans rfl, (blk_cell h 3).trans rfl, (blk_cell h 4).trans rfl, (blk_cell h 5).trans rfl, (blk_cell h 6).trans rfl, (blk_cell h 7).trans rfl⟩
theorem results_ans {P : Program} {fn : Func} {p t u : Tmp} {ty : TypeId} (h : fn.results = #[.cell p ty, .tmp t, .tmp u]) (tmps : Array Value) (w : World) (g : Nat) (tb : TypeId) (cs : Array Value) (fr : Nat × Nat) (d : TypeDesc)
    (hp : tmps.getD p undef = .pointer (some ⟨g, 0, none⟩)) (hg : w.heap[g]? = some (.cells cs tb fr)) (hu : P.underlying ty = some d) (hd : (match d with | .struct _ | .array _ _ => true | _ => false) = true) (hi : (P.info? ty).map (·.size) = some cs.size) :
    (results fn tmps).run P w = .ok (.tuple #[.agg cs, tmps.getD t undef, tmps.getD u undef]) w := by
  have hp' : tmps[p]?.getD undef = .pointer (some ⟨g, 0, none⟩) := by simpa using hp
  simp [results, h, hp', asAddr, run_loadVar_row w g tb ty cs fr d hg hu hd hi]
def zA : S24 := ⟨false, false, false, false, 0, 0, (⟨#[]⟩ : ByteArray), (⟨#[]⟩ : ByteArray)⟩
def ansV (V : Option (S24 × List S117)) : S24 × List S117 × Int := match V with | some x => (x.1, x.2, 0) | none => (zA, [], 210)
set_option maxHeartbeats 8000000 in
set_option maxRecDepth 100000 in
theorem ans_bad (a : S24) (A0 : Option Addr) (c0 : Nat) (l : List S117) (w : World) (hr : Kd.C k117 w A0 l.length l) (hc0 : l.length ≤ c0) (hsm : smallB l = true) (hg : goodB l = false) :
    Calls Tryz.prog 49 #[.agg (agC a), .slice A0 l.length c0] w fun e w' => ∃ v8, e = .returned (.tuple #[.agg (agC zA), v8, .int .i64 210]) ∧ Kd.R k117 117 w' w.heap.size (fun _ => True) v8 [] ∧ Below w.heap.size w w' := by
  have hu := Tryz.underlying24
  have HR := Aside0.mk hr
  have HGD := Aside0.mk (show keys_good.f l = some false by unfold keys_good.f; rw [if_pos hsm, hg])
  clear hr hsm hg
  go_enter Tryz.func49, Tryz.ntmps49
  go_wp2_with (first
    | ((with_reducible refine gate_dst (N := 2) rfl ?_); refine box_event ?hg (N := 2) ?hd (cs := agC a) (t := 24) ?hr ?_; (case hd => rfl); (case hg => rfl); (case hr => first | (go_simp; done) | (go_simp; rfl)); intro g2 hgg2 w3 hxg2 hyg2; have X2 := Aside0.mk hxg2; have Y2 := Aside0.mk hyg2; have Z2 := Aside0.mk hgg2; clear hxg2 hyg2 hgg2)
    | ((with_reducible refine gate_dst (N := 4) rfl ?_); refine box_event ?hg (N := 4) ?hd (cs := (#[.bool false, .bool false, .bool false, .bool false, .int .i64 0, .int .i64 0, .string (⟨#[]⟩ : ByteArray), .string (⟨#[]⟩ : ByteArray)] : Array Value)) (t := 24) ?hr ?_; (case hd => rfl); (case hg => rfl); (case hr => first | (go_simp; done) | (go_simp; rfl)); intro g4 hgg4 w4 hxg4 hyg4; have X4 := Aside0.mk hxg4; have Y4 := Aside0.mk hyg4; have Z4 := Aside0.mk (show g4 = w3.heap.size from hgg4); clear hxg4 hyg4 hgg4)
    | (go_at_call 66; refine (keys_good.calls A0 c0 l false _ (Kd.C_below HR.out (below_step Y2.out Y4.out)) hc0 HGD.out).mono ?_; rintro e w5 ⟨rfl, hb5⟩; have HB5 := Aside0.mk (below_step (below_step Y2.out Y4.out) hb5); have X5 := Aside0.mk (blk_below X4.out hb5); have hk := X5.out; obtain ⟨k0, k1, k2, k3, k4, k5, k6, k7⟩ := cells8 hk; have q0 := blk_frozen hk 0; have q1 := blk_frozen hk 1; have q2 := blk_frozen hk 2; have q3 := blk_frozen hk 3; have q4 := blk_frozen hk 4; have q5 := blk_frozen hk 5; have q6 := blk_frozen hk 6; have q7 := blk_frozen hk 7; clear hb5 hk))
  (try simp only [Exit.inBlock, Exit.then])
  refine bodyPost_ret (results_ans rfl _ _ g4 _ _ (0, 0) _ rfl (put8_blk X5.out) hu rfl (by kernel_rfl)) rfl ?_
  exact ⟨_, rfl, Kd.R_nil _ _ _ _ _, put8_below HB5.out (by rw [Z4.out]; exact below_size Y2.out)⟩
theorem wl_world {P : Program} {ops : Array Oper} {Q : Exit → Act → World → Prop} {l : List Oper} {a : Act} {w : World} (S : World → Prop) (hS : S w) (h : ∀ w', S w' → wpList P ops Q l a w') : wpList P ops Q l a w := h w hS
set_option maxHeartbeats 40000000 in
set_option maxRecDepth 100000 in
theorem ans_good (a : S24) (A0 : Option Addr) (c0 : Nat) (l : List S117) (V : Option (S24 × List S117)) (w : World) (hG : Glob w) (hr : Kd.C k117 w A0 l.length l) (hc0 : l.length ≤ c0) (hsm : smallB l = true) (hg : goodB l = true) (hV : ansL a [] l = some V) :
    Calls Tryz.prog 49 #[.agg (agC a), .slice A0 l.length c0] w fun e w' => ∃ v8, e = .returned (.tuple #[.agg (agC (ansV V).1), v8, .int .i64 (ansV V).2.2]) ∧ Kd.R k117 117 w' w.heap.size (fun _ => True) v8 (ansV V).2.1 ∧ Below w.heap.size w w' := by
  have hu := Tryz.underlying24
  have hl16 : l.length ≤ 16 := by unfold goodB at hg; simp only [Bool.and_eq_true, decide_eq_true_eq] at hg; exact hg.1
  have i16 : (l.length : Int) ≤ 16 := by omega
  have HR := Aside0.mk hr
  have HSM := Aside0.mk hsm
  have HGG := Aside0.mk hG
  have HGD := Aside0.mk (show keys_good.f l = some true by unfold keys_good.f; rw [if_pos hsm, hg])
  have HV := Aside0.mk hV
  clear hr hsm hg hV hG
  go_enter Tryz.func49, Tryz.ntmps49
  go_wp2_with (first
    | ((with_reducible refine gate_dst (N := 2) rfl ?_); refine box_event ?hg (N := 2) ?hd (cs := agC a) (t := 24) ?hr ?_; (case hd => rfl); (case hg => rfl); (case hr => first | (go_simp; done) | (go_simp; rfl)); intro g2 hgg2 w3 hxg2 hyg2; have X2 := Aside0.mk hxg2; have Y2 := Aside0.mk hyg2; have Z2 := Aside0.mk hgg2; clear hxg2 hyg2 hgg2)
    | ((with_reducible refine gate_dst (N := 4) rfl ?_); refine box_event ?hg (N := 4) ?hd (cs := (#[.bool false, .bool false, .bool false, .bool false, .int .i64 0, .int .i64 0, .string (⟨#[]⟩ : ByteArray), .string (⟨#[]⟩ : ByteArray)] : Array Value)) (t := 24) ?hr ?_; (case hd => rfl); (case hg => rfl); (case hr => first | (go_simp; done) | (go_simp; rfl)); intro g4 hgg4 w4 hxg4 hyg4; have X4 := Aside0.mk hxg4; have Y4 := Aside0.mk hyg4; have Z4 := Aside0.mk (show g4 = w3.heap.size from hgg4); clear hxg4 hyg4 hgg4)
    | (go_at_call 66; refine (keys_good.calls A0 c0 l true _ (Kd.C_below HR.out (below_step Y2.out Y4.out)) hc0 HGD.out).mono ?_; rintro e w5 ⟨rfl, hb5⟩; have HB5 := Aside0.mk hb5; clear hb5)
    | (go_at_call 67; refine (readers_walk _).mono ?_; rintro e w2 ⟨b, rfl, ht⟩; have HT := Aside0.mk ht; clear ht))
  have hw52 : Below w5.heap.size w5 w2 := by obtain ⟨L, _, T⟩ := HT.out; exact T.hb
  have g24 : g2 < g4 := by rw [Z4.out]; exact blk_lt X2.out
  have an0 : AnS w w2 w2 g2 g4 b a (.slice none 0 0) [] := by
    have hx2 := blk_below (blk_below X2.out Y4.out) HB5.out
    have hx4 := blk_below X4.out HB5.out
    refine ⟨⟨w5, HT.out, by have := Z2.out; omega, by have := Z4.out; have := below_size Y2.out; omega, blk_lt hx2, blk_lt hx4, Nat.ne_of_lt g24⟩, gb_below (Below.refl _ _), blk_below hx2 hw52, blk_below hx4 hw52, Kd.R_nil _ _ _ _ _, below_step (below_step (below_step Y2.out Y4.out) HB5.out) hw52⟩
  have AN0 := Aside0.mk an0
  clear an0 hw52 g24 X2 Y2 Z2 X4 Y4 Z4 HB5 HT
  go_loopw [8, 21] (fun v8 vi wr => ∃ (i : Nat) (a' : S24) (out : List S117), vi = .int .i64 i ∧ i ≤ l.length ∧ out.length ≤ i ∧ Aside0 (AnS w w2 wr g2 g4 b a' v8 out) ∧ Aside0 (ansL a' out (l.drop i) = some V)) (fun _ vi _ => l.length - (intOf vi).toNat)
  case atStart => exact ⟨0, a, [], rfl, by omega, Nat.le_refl _, AN0, HV⟩
  case round =>
    obtain ⟨i, a', out, rfl, hi, ho, AN, hL⟩ := hrel
    obtain ⟨A8, c8, e8⟩ := Kd.R_slice AN.out.own
    subst e8
    have HOL := Aside0.mk ho
    clear ho
    by_cases hlt : i < l.length
    · obtain ⟨ad, hA, hc1, hc2⟩ := at_T117 (Kd.C_below HR.out AN.out.hb) i (by omega) (by omega)
      subst hA
      obtain ⟨p, hp⟩ : ∃ p, l[i] = p := ⟨_, rfl⟩
      have hpr : rd_T117 l i = p := by rw [← hp]; exact rd_pair l i hlt
      rw [hpr] at hc1 hc2
      simp only [Int.toNat_natCast] at hc1 hc2
      have hps := small_at HSM.out i hlt
      rw [hp] at hps
      have hdrop : l.drop i = p :: l.drop (i + 1) := by rw [List.drop_eq_getElem_cons hlt, hp]
      have hst := hL.out
      rw [hdrop, ansL] at hst
      have tokL : True := trivial
      have hgw : g2 < wr.heap.size := Nat.lt_of_lt_of_le AN.out.lt.1 AN.out.gr.size
      have HPS := Aside0.mk hps
      clear hpr hdrop hL hps hp
      cases hf : findR p.f0 with
      | none =>
        rw [hf] at hst
        have HF := Aside0.mk hf
        have HST := Aside0.mk hst
        clear hst hf
        go_wp2_with (first
          | (at_lookup; have _t := tokL; refine wl_world (fun w' => AnS w w2 w' g2 g4 b a' (.slice A8 out.length c8) out ∧ w'.heap[wr.heap.size]? = some (.cells #[.string p.f0, .string p.f1] 117 (0, 0))) ⟨AN.out.next (below_alloc (Below.refl _ _) _), Array.getElem?_push_size⟩ ?_; rintro w10 ⟨an10, hx10⟩; clear tokL _t; have AN10 := Aside0.mk an10; have X10 := Aside0.mk hx10; have h10 : w10.cell? ⟨wr.heap.size, 0, none⟩ = some (.string p.f0) := (blk_cell hx10 0).trans rfl; have h11 : w10.cell? ⟨wr.heap.size, 1, none⟩ = some (.string p.f1) := (blk_cell hx10 1).trans rfl; clear AN an10 hx10; have AN := AN10; clear AN10; obtain ⟨vl, hlk⟩ := (AN.out.look p.f0 HPS.out.1).1 HF.out)
          | ((with_reducible refine gate_builtin (b := .append) (xs := #[.tmp 34, .tmp 38]) rfl ?_); at_builtin; refine Kd.R_append k117 (w0 := w) w.heap.size rfl (.tmp 34) (.tmp 38) 69 117 (.agg #[(.string ⟨#[]⟩), (.string ⟨#[]⟩)]) 32 rfl Tryz.underlying69 info117 rfl (by decide) (by omega) (.slice A8 out.length c8) out (⟨p.f0, (⟨#[78, 111, 116, 85, 110, 100, 101, 114, 115, 116, 111, 111, 100]⟩ : ByteArray)⟩ : S117) [.string p.f0, .string (⟨#[78, 111, 116, 85, 110, 100, 101, 114, 115, 116, 111, 111, 100]⟩ : ByteArray)] (fun k => w2.heap.size ≤ k) (fun _ => False) rfl rfl ?aP (fun _ hk => hk.elim) ?aF ?aO ?aB ?aS ?aL ?_; (case aP => exact k117_mkM _ _ _ (⟨p.f0, (⟨#[78, 111, 116, 85, 110, 100, 101, 114, 115, 116, 111, 111, 100]⟩ : ByteArray)⟩ : S117)); (case aB => exact AN.out.hb); (case aF => exact fun k hk => Nat.le_trans AN.out.gr.size hk); (case aO => exact AN.out.own); (case aS => exact below_size AN.out.hb); (case aL => have := HOL.out; omega); intro v9 w9 ho hb hg hat; have AN9 := Aside0.mk (AN.out.app ho hb hg); clear ho hb hg hat))
        go_roundw
        case rel => exact ⟨i + 1, a', out ++ [⟨p.f0, (⟨#[78, 111, 116, 85, 110, 100, 101, 114, 115, 116, 111, 111, 100]⟩ : ByteArray)⟩], by go_num, by omega, by rw [List.length_append]; have := HOL.out; simp; omega, AN9, HST⟩
        case measure => simp [intOf]; omega
      | some r =>
        rw [hf] at hst
        obtain ⟨x, hx, hst⟩ := Option.bind_eq_some_iff.mp hst
        have HX := Aside0.mk hx
        have HST := Aside0.mk hst
        have HF := Aside0.mk hf
        clear hst hf hx
        obtain ⟨a2, ans, okb⟩ := x
        go_wp2_with (at_lookup; have _t := tokL; refine wl_world (fun w' => AnS w w2 w' g2 g4 b a' (.slice A8 out.length c8) out ∧ w'.heap[wr.heap.size]? = some (.cells #[.string p.f0, .string p.f1] 117 (0, 0))) ⟨AN.out.next (below_alloc (Below.refl _ _) _), Array.getElem?_push_size⟩ ?_; rintro w10 ⟨an10, hx10⟩; clear tokL _t; have AN10 := Aside0.mk an10; have X10 := Aside0.mk hx10; have h10 : w10.cell? ⟨wr.heap.size, 0, none⟩ = some (.string p.f0) := (blk_cell hx10 0).trans rfl; have h11 : w10.cell? ⟨wr.heap.size, 1, none⟩ = some (.string p.f1) := (blk_cell hx10 1).trans rfl; clear AN an10 hx10; have AN := AN10; clear AN10; obtain ⟨n, cap, cells, hlk, hent, hrd, hcl⟩ := (AN.out.look p.f0 HPS.out.1).2 r HF.out; have HRD := Aside0.mk hrd; have HCL := Aside0.mk hcl; unfold Ent at hent; clear hrd hcl)
        have hge : w.heap.size ≤ g2 := by obtain ⟨w1, _, h, _⟩ := AN.out.tab; exact h
        have hcr := HRD.out w g2 a' p.f1 (a2, ans, okb) _ HGG.out AN.out.hb hge HCL.out AN.out.k2 HX.out
        have HCR := Aside0.mk hcr
        clear hcr
        cases okb with
        | false =>
          refine HCR.out.mono ?_
          rintro e w6 ⟨rfl, hk6, hg6⟩
          have AN6 := Aside0.mk (AN.out.call hg6 hk6)
          clear hk6 hg6
          have hk := AN6.out.k4
          obtain ⟨k0, k1, k2, k3, k4, k5, k6, k7⟩ := cells8 hk
          have q0 := blk_frozen hk 0
          have q1 := blk_frozen hk 1
          have q2 := blk_frozen hk 2
          have q3 := blk_frozen hk 3
          have q4 := blk_frozen hk 4
          have q5 := blk_frozen hk 5
          have q6 := blk_frozen hk 6
          have q7 := blk_frozen hk 7
          have K4 := Aside0.mk hk
          clear hk
          have hv : V = none := by have h := HST.out; rw [if_neg (by decide)] at h; exact (Option.some.inj h).symm
          have HVN := Aside0.mk hv
          clear hv
          go_wp2
          (try simp only [Exit.inBlock, Exit.then])
          rw [HVN.out]
          refine bodyPost_ret (results_ans rfl _ _ g4 _ _ (0, 0) _ rfl (put8_blk K4.out) hu rfl (by kernel_rfl)) rfl ?_
          have hge4 : w.heap.size ≤ g4 := by obtain ⟨w1, _, _, h, _⟩ := AN6.out.tab; exact h
          exact ⟨_, rfl, Kd.R_nil _ _ _ _ _, put8_below AN6.out.hb hge4⟩
        | true =>
          have hst := HST.out
          rw [if_pos rfl] at hst
          by_cases hem : ans.toList.isEmpty = true
          · rw [if_pos hem] at hst
            have HST2 := Aside0.mk hst
            have HEM := Aside0.mk hem
            clear hst HST
            refine HCR.out.mono ?_
            rintro e w6 ⟨rfl, hk6, hg6⟩
            have AN6 := Aside0.mk (AN.out.call hg6 hk6)
            clear hk6 hg6
            go_wp2
            go_roundw
            case rel => exact ⟨i + 1, a2, out, by go_num, by omega, by have := HOL.out; omega, AN6, HST2⟩
            case measure => simp [intOf]; omega
          · have hem : ans.toList.isEmpty = false := by simpa using hem
            rw [hem, if_neg (by decide)] at hst
            have HST2 := Aside0.mk hst
            clear hst HST
            refine HCR.out.mono ?_
            rintro e w6 ⟨rfl, hk6, hg6⟩
            have AN6 := Aside0.mk (AN.out.call hg6 hk6)
            have hpb : w6.heap[wr.heap.size]? = some (.cells #[.string p.f0, .string p.f1] 117 (0, 0)) := gb_blk hg6 X10.out (Nat.ne_of_gt hgw)
            have hp0 : w6.cell? ⟨wr.heap.size, 0, none⟩ = some (.string p.f0) := (blk_cell hpb 0).trans rfl
            clear hk6 hg6 hpb AN
            have AN := AN6
            clear AN6
            go_wp2_with ((with_reducible refine gate_builtin (b := .append) (xs := #[.tmp 52, .tmp 57]) rfl ?_); at_builtin; refine Kd.R_append k117 (w0 := w) w.heap.size rfl (.tmp 52) (.tmp 57) 69 117 (.agg #[(.string ⟨#[]⟩), (.string ⟨#[]⟩)]) 32 rfl Tryz.underlying69 info117 rfl (by decide) (by omega) (.slice A8 out.length c8) out (⟨p.f0, ans⟩ : S117) [.string p.f0, .string ans] (fun k => w2.heap.size ≤ k) (fun _ => False) rfl rfl ?aP (fun _ hk => hk.elim) ?aF ?aO ?aB ?aS ?aL ?_; (case aP => exact k117_mkM _ _ _ (⟨p.f0, ans⟩ : S117)); (case aB => exact AN.out.hb); (case aF => exact fun k hk => Nat.le_trans AN.out.gr.size hk); (case aO => exact AN.out.own); (case aS => exact below_size AN.out.hb); (case aL => have := HOL.out; omega); intro v9 w9 ho hb hg hat; have AN9 := Aside0.mk (AN.out.app ho hb hg); clear ho hb hg hat)
            go_roundw
            case rel => exact ⟨i + 1, a2, out ++ [⟨p.f0, ans⟩], by go_num, by omega, by rw [List.length_append]; have := HOL.out; simp; omega, AN9, HST2⟩
            case measure => simp [intOf]; omega
    · have hil : i = l.length := by omega
      have hst := hL.out
      rw [hil, List.drop_eq_nil_of_le (Nat.le_refl _), ansL] at hst
      have HVN := Aside0.mk (Option.some.inj hst).symm
      clear hst hL
      have hk := AN.out.k4
      obtain ⟨k0, k1, k2, k3, k4, k5, k6, k7⟩ := cells8 hk
      have q0 := blk_frozen hk 0
      have q1 := blk_frozen hk 1
      have q2 := blk_frozen hk 2
      have q3 := blk_frozen hk 3
      have q4 := blk_frozen hk 4
      have q5 := blk_frozen hk 5
      have q6 := blk_frozen hk 6
      have q7 := blk_frozen hk 7
      have K4 := Aside0.mk hk
      have hk2 := AN.out.k2
      obtain ⟨m0, m1, m2, m3, m4, m5, m6, m7⟩ := cells8 hk2
      clear hk hk2
      go_wp2
      (try simp only [Exit.inBlock, Exit.then])
      rw [HVN.out]
      refine bodyPost_ret (results_ans rfl _ _ g4 _ _ (0, 0) _ rfl (put8_blk K4.out) hu rfl (by kernel_rfl)) rfl ?_
      have hge4 : w.heap.size ≤ g4 := by obtain ⟨w1, _, _, h, _⟩ := AN.out.tab; exact h
      have hne4 : w2.heap.size > g4 := AN.out.lt.2
      exact ⟨_, rfl, Kd.R_mono (Kd.R_grown AN.out.own put8_gb (fun k hk e => by injection e with e; omega)) (fun _ _ => trivial), put8_below AN.out.hb hge4⟩
def keys_Answer.f (a0_0 : Bool) (a0_1 : Bool) (a0_2 : Bool) (a0_3 : Bool) (a0_4 : Int) (a0_5 : Int) (a0_6 : ByteArray) (a0_7 : ByteArray) (l1 : List S117) : Option (Bool × Bool × Bool × Bool × Int × Int × ByteArray × ByteArray × List S117 × Int) :=
  if smallB l1 = true then (if goodB l1 = true then (ansL ⟨a0_0, a0_1, a0_2, a0_3, a0_4, a0_5, a0_6, a0_7⟩ [] l1).map (fun V => ((ansV V).1.f0, (ansV V).1.f1, (ansV V).1.f2, (ansV V).1.f3, (ansV V).1.f4, (ansV V).1.f5, (ansV V).1.f6, (ansV V).1.f7, (ansV V).2.1, (ansV V).2.2)) else some (false, false, false, false, 0, 0, (⟨#[]⟩ : ByteArray), (⟨#[]⟩ : ByteArray), [], 210)) else none
theorem keys_Answer.calls (a0_0 : Bool) (a0_1 : Bool) (a0_2 : Bool) (a0_3 : Bool) (a0_4 : Int) (a0_5 : Int) (a0_6 : ByteArray) (a0_7 : ByteArray) (A1 : Option Addr) (c1 : Nat) (l1 : List S117) (r1 : Bool) (r2 : Bool) (r3 : Bool) (r4 : Bool) (r5 : Int) (r6 : Int) (r7 : ByteArray) (r8 : ByteArray) (r9 : List S117) (r10 : Int) (w : World) (hr1 : Kd.C k117 w A1 l1.length l1) (hc1 : l1.length ≤ c1) (hG : Glob w) (h : keys_Answer.f a0_0 a0_1 a0_2 a0_3 a0_4 a0_5 a0_6 a0_7 l1 = some (r1, r2, r3, r4, r5, r6, r7, r8, r9, r10)) :
    Calls Tryz.prog 49 #[.agg #[.bool a0_0, .bool a0_1, .bool a0_2, .bool a0_3, .int .i64 a0_4, .int .i64 a0_5, .string a0_6, .string a0_7], .slice A1 l1.length c1] w fun e w' => ∃ v8_ : Value, e = .returned (.tuple #[.agg #[.bool r1, .bool r2, .bool r3, .bool r4, .int .i64 r5, .int .i64 r6, .string r7, .string r8], v8_, .int .i64 r10]) ∧ Kd.R k117 117 w' w.heap.size (fun _ => True) v8_ r9 ∧ Below w.heap.size w w' := by
  unfold keys_Answer.f at h
  split at h
  · next hsm =>
    split at h
    · next hg =>
      obtain ⟨V, hV, h⟩ := Option.map_eq_some_iff.mp h
      cases h
      exact ans_good ⟨a0_0, a0_1, a0_2, a0_3, a0_4, a0_5, a0_6, a0_7⟩ A1 c1 l1 V w hG hr1 hc1 hsm hg hV
    · next hg =>
      cases h
      exact ans_bad ⟨a0_0, a0_1, a0_2, a0_3, a0_4, a0_5, a0_6, a0_7⟩ A1 c1 l1 w hr1 hc1 hsm (Bool.eq_false_iff.mpr hg)
  · cases h
end Go.Proofs.YthglbmihbmneaaaGreatDoor.P
