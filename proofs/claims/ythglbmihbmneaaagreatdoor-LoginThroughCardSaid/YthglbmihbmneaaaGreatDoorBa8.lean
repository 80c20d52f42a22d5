-- joined by this session's wip/tools/pack.py: words of the kit's print, cut to what the claim names; functions printed by a patched copy of the printer; walks and lemmas of this session; Lean checks it
import Derived.Test.YthglbmihbmneaaaGreatDoorBa7
import Derived.Lib.IndexLaws
import Derived.Lib.IndexBytes
import Derived.Lib.Split
import Derived.Laws.BytesArg
import Derived.Laws.BitsLemmas
import Derived.OpenShut
import Derived.ProofKit
import Derived.ChangeArms
import Derived.DataReads
import Derived.Lib.LaidTab
import Derived.Maps.Own
import Derived.Maps.OwnOps
import Derived.Maps.Views
import Derived.Carry
import Derived.Lib.SliceRun
namespace Go.Proofs.YthglbmihbmneaaaGreatDoor.P
open Go.RowKit Go.Proofs.YthglbmihbmneaaaGreatDoorW.PrintWords Go.Proofs.YthglbmihbmneaaaGreatDoorW.PrintLast Go.Proofs.YthglbmihbmneaaaGreatDoorW.PrintMore
attribute [local go_sem] max2_int min2_int max_two min_two max_three min_three max_four min_four   -- for this text's walks alone
set_option linter.unusedVariables false
set_option linter.unusedSimpArgs false
set_option linter.unnecessarySimpa false
mutual
def headgateref03_dated.j0 : Nat → ByteArray → Bool → Option (Bool)
 | 0, _, _ => none
 | k + 1, x0, x20 => if x20 = true then (some false) else (headgateref03_dated.l0 k x0 4)
def headgateref03_dated.l0 : Nat → ByteArray → Int → Option (Bool)
 | 0, _, _ => none
 | k + 1, x0, x5 => if x5 < 8 then (if 0 ≤ x5 then (if x5 < (x0.size : Int) then ((headgateref03_digit.f (bt x0 x5)).bind fun t256 => (if t256 = true then (headgateref03_dated.l0 k x0 (wrap64 (x5 + 1))) else (some false))) else (none)) else (none)) else (if 8 < (x0.size : Int) then (if (bt x0 8) = 45 then (if 9 < (x0.size : Int) then ((headgateref03_digit.f (bt x0 9)).bind fun t257 => (if t257 = true then (if 10 < (x0.size : Int) then ((headgateref03_digit.f (bt x0 10)).bind fun t258 => (if t258 = true then (if 11 < (x0.size : Int) then (if (bt x0 11) = 46 then (if (((((bt x0 9) - 48) % 256) * 10) + (((bt x0 10) - 48) % 256)) ≥ 1 then (if (((((bt x0 9) - 48) % 256) * 10) + (((bt x0 10) - 48) % 256)) ≤ 12 then (if 12 ≤ (x0.size : Int) then ((headgateref03_Name.f k (x0.extract 12 x0.size)).bind fun t259 => (some t259)) else (none)) else (some false)) else (some false)) else (some false)) else (none)) else (some false))) else (none)) else (some false))) else (none)) else (some false)) else (none))
end
def headgateref03_dated.f (k : Nat) (a0 : ByteArray) (a1 : ByteArray) : Option (Bool) := (headgateref03_Name.f k a0).bind fun t255 => (if t255 = true then (if (a0.size : Int) < 13 then (headgateref03_dated.j0 k a0 true) else (if 0 ≤ 4 then (if 4 ≤ (a0.size : Int) then (headgateref03_dated.j0 k a0 ((a0.extract 0 4).toList != a1.toList)) else (none)) else (none))) else (headgateref03_dated.j0 k a0 true))
theorem headgateref03_dated.mono_l : ∀ k, (∀ y0 y1, LeO (headgateref03_dated.j0 k y0 y1) (headgateref03_dated.j0 (k + 1) y0 y1)) ∧ (∀ y0 y1, LeO (headgateref03_dated.l0 k y0 y1) (headgateref03_dated.l0 (k + 1) y0 y1))
 | 0 => ⟨fun _ _ r h => by simp [headgateref03_dated.j0] at h, fun _ _ r h => by simp [headgateref03_dated.l0] at h⟩
 | k + 1 => by
  obtain ⟨ih0, ih1⟩ := headgateref03_dated.mono_l k
  refine ⟨?_, ?_⟩
  ·intro y0 y1
   unfold headgateref03_dated.j0
   repeat' first
   | (with_reducible exact ih0 _ _)
   | (with_reducible exact ih1 _ _)
   | (with_reducible exact headgateref03_Name.mono _ _)
   | (with_reducible exact LeO.refl _)
   | (with_reducible exact LeO.none _)
   | (with_reducible refine LeO.ite ?_ ?_)
   | (with_reducible refine LeO.bind ?_ (fun _ => ?_))
   | exact ih0 _ _
   | exact ih1 _ _
   | exact headgateref03_Name.mono _ _
   | exact LeO.none _
   | refine LeO.ite ?_ ?_
   | refine LeO.bind ?_ (fun _ => ?_)
  ·intro y0 y1
   unfold headgateref03_dated.l0
   repeat' first
   | (with_reducible exact ih0 _ _)
   | (with_reducible exact ih1 _ _)
   | (with_reducible exact headgateref03_Name.mono _ _)
   | (with_reducible exact LeO.refl _)
   | (with_reducible exact LeO.none _)
   | (with_reducible refine LeO.ite ?_ ?_)
   | (with_reducible refine LeO.bind ?_ (fun _ => ?_))
   | exact ih0 _ _
   | exact ih1 _ _
   | exact headgateref03_Name.mono _ _
   | exact LeO.none _
   | refine LeO.ite ?_ ?_
   | refine LeO.bind ?_ (fun _ => ?_)
theorem headgateref03_dated.mono : ∀ a0 a1 k, LeO (headgateref03_dated.f k a0 a1) (headgateref03_dated.f (k + 1) a0 a1) := by
 intro a0 a1 k
 obtain ⟨ih0, ih1⟩ := headgateref03_dated.mono_l k
 unfold headgateref03_dated.f
 repeat' first
   | (with_reducible exact ih0 _ _)
   | (with_reducible exact ih1 _ _)
   | (with_reducible exact headgateref03_Name.mono _ _)
   | (with_reducible exact LeO.refl _)
   | (with_reducible exact LeO.none _)
   | (with_reducible refine LeO.ite ?_ ?_)
   | (with_reducible refine LeO.bind ?_ (fun _ => ?_))
   | exact ih0 _ _
   | exact ih1 _ _
   | exact headgateref03_Name.mono _ _
   | exact LeO.none _
   | refine LeO.ite ?_ ?_
   | refine LeO.bind ?_ (fun _ => ?_)
set_option maxHeartbeats 8000000 in
set_option maxRecDepth 100000 in
theorem headgateref03_dated.calls (k : Nat) (a0 : ByteArray) (a1 : ByteArray) (r : Bool) (w : World) (h : headgateref03_dated.f k a0 a1 = some r) :
  Calls Tryz.prog 36 #[.string a0, .string a1] w fun e w' => e = .returned (.bool r) ∧ Drawn0 w w' := by
 have H : ((headgateref03_Name.f k a0).bind fun t255 => (if t255 = true then (if (a0.size : Int) < 13 then (headgateref03_dated.j0 k a0 true) else (if 0 ≤ 4 then (if 4 ≤ (a0.size : Int) then (headgateref03_dated.j0 k a0 ((a0.extract 0 4).toList != a1.toList)) else (none)) else (none))) else (headgateref03_dated.j0 k a0 true))) = some r := h
 clear h
 have HC3 := Aside0.mk H
 clear H
 go_enter Tryz.func36, Tryz.ntmps36
 go_upto_region 1 with (fail)
 repeat (go_quiet (fail); go_upto_region 1 with (fail))
 go_cut [20] (fun v20 wc => ∃ (kq : Nat) (x20_2 : Bool), v20 = .bool x20_2 ∧ Aside0 (headgateref03_dated.j0 kq a0 x20_2 = some r) ∧ Aside0 (kq ≤ k) ∧ Drawn0 w wc)
 case first =>
  have H := HC3.out
  clear HC3
  replace H := Option.bind_eq_some_iff.mp H
  obtain ⟨t255, A40, H⟩ := H
  try dsimp only at H
  have A4 := Aside0.mk A40
  clear A40
  refine neg_first (p := (t255 = true)) (fun c5 => ?_) (fun c5 => ?_)
  ·replace c5 := Bool.eq_false_iff.mpr c5
   subst c5
   have H1 := H
   rw [if_neg (show ¬ (false = true) by decide)] at H1
   clear H
   have H := H1
   clear H1
   have H' := Aside0.mk H
   clear H
   go_wp2_with (first | (go_at_call 56; (with_reducible refine (headgateref03_Name.calls k a0 false _ A4.out).mono ?_); rintro e w' ⟨rfl, ⟨nd, rfl⟩⟩; (try first | exact ⟨rfl, _, World.drewN_drewN _ _ _⟩ | exact ⟨rfl, _, Eq.trans (World.drewN_drewN _ _ _) (congrArg (World.drewN _) (Nat.add_assoc _ _ _))⟩)))
   repeat (go_quiet (first | (go_at_call 56; (with_reducible refine (headgateref03_Name.calls k a0 false _ A4.out).mono ?_); rintro e w' ⟨rfl, ⟨nd, rfl⟩⟩; (try first | exact ⟨rfl, _, World.drewN_drewN _ _ _⟩ | exact ⟨rfl, _, Eq.trans (World.drewN_drewN _ _ _) (congrArg (World.drewN _) (Nat.add_assoc _ _ _))⟩))); try go_wp2_with (first | (go_at_call 56; (with_reducible refine (headgateref03_Name.calls k a0 false _ A4.out).mono ?_); rintro e w' ⟨rfl, ⟨nd, rfl⟩⟩; (try first | exact ⟨rfl, _, World.drewN_drewN _ _ _⟩ | exact ⟨rfl, _, Eq.trans (World.drewN_drewN _ _ _) (congrArg (World.drewN _) (Nat.add_assoc _ _ _))⟩))))
   go_meet
   case rel => exact ⟨_, (true), (by first | rfl | (simp; done) | (simp [*]; done)), H', ⟨by first | omega | exact Nat.le_refl _⟩, by repeat (first | exact Drawn0.refl _ | apply Drawn0.step)⟩
  subst c5
  have H1 := H
  rw [if_pos rfl] at H1
  clear H
  have H := H1
  clear H1
  by_cases c6 : (a0.size : Int) < 13
  ·rw [if_pos c6] at H
   have c6b0 : decide ((a0.size : Int) < 13) = true := decide_eq_true c6
   have c6b1 : decide (a0.size < 13) = true := decide_eq_true (by omega)
   clear c6
   (first | rw [c6b0] | (simp only [i64_w, i32_w]; rw [c6b0]) | skip)
   have H' := Aside0.mk H
   clear H
   go_wp2_with (first | (go_at_call 56; (with_reducible refine (headgateref03_Name.calls k a0 true _ A4.out).mono ?_); rintro e w' ⟨rfl, ⟨nd, rfl⟩⟩; (try first | exact ⟨rfl, _, World.drewN_drewN _ _ _⟩ | exact ⟨rfl, _, Eq.trans (World.drewN_drewN _ _ _) (congrArg (World.drewN _) (Nat.add_assoc _ _ _))⟩)))
   repeat (go_quiet (first | (go_at_call 56; (with_reducible refine (headgateref03_Name.calls k a0 true _ A4.out).mono ?_); rintro e w' ⟨rfl, ⟨nd, rfl⟩⟩; (try first | exact ⟨rfl, _, World.drewN_drewN _ _ _⟩ | exact ⟨rfl, _, Eq.trans (World.drewN_drewN _ _ _) (congrArg (World.drewN _) (Nat.add_assoc _ _ _))⟩))); try go_wp2_with (first | (go_at_call 56; (with_reducible refine (headgateref03_Name.calls k a0 true _ A4.out).mono ?_); rintro e w' ⟨rfl, ⟨nd, rfl⟩⟩; (try first | exact ⟨rfl, _, World.drewN_drewN _ _ _⟩ | exact ⟨rfl, _, Eq.trans (World.drewN_drewN _ _ _) (congrArg (World.drewN _) (Nat.add_assoc _ _ _))⟩))))
   go_meet
   case rel => exact ⟨_, (true), (by first | rfl | (simp; done) | (simp [*]; done)), H', ⟨by first | omega | exact Nat.le_refl _⟩, by repeat (first | exact Drawn0.refl _ | apply Drawn0.step)⟩
  rw [if_neg c6] at H
  have c6b0 : decide ((a0.size : Int) < 13) = false := decide_eq_false c6
  have c6b1 : decide (a0.size < 13) = false := decide_eq_false (by omega)
  clear c6
  (first | rw [c6b0] | (simp only [i64_w, i32_w]; rw [c6b0]) | skip)
  refine neg_first (p := (0 ≤ 4)) (fun c7 => ?_) (fun c7 => ?_)
  ·rw [if_neg c7] at H
   exact absurd H (by simp)
  rw [if_pos c7] at H
  have c7b0 := eq_true c7
  have c7b1 : decide (0 ≤ 4) = true := decide_eq_true c7
  clear c7
  refine neg_first (p := (4 ≤ (a0.size : Int))) (fun c8 => ?_) (fun c8 => ?_)
  ·rw [if_neg c8] at H
   exact absurd H (by simp)
  rw [if_pos c8] at H
  have c8b0 := eq_true c8
  have c8b1 : decide (4 ≤ (a0.size : Int)) = true := decide_eq_true c8
  clear c8
  have H' := Aside0.mk H
  clear H
  go_wp2_with (first | (go_at_call 56; (with_reducible refine (headgateref03_Name.calls k a0 true _ A4.out).mono ?_); rintro e w' ⟨rfl, ⟨nd, rfl⟩⟩; (try first | exact ⟨rfl, _, World.drewN_drewN _ _ _⟩ | exact ⟨rfl, _, Eq.trans (World.drewN_drewN _ _ _) (congrArg (World.drewN _) (Nat.add_assoc _ _ _))⟩)))
  repeat (go_quiet (first | (go_at_call 56; (with_reducible refine (headgateref03_Name.calls k a0 true _ A4.out).mono ?_); rintro e w' ⟨rfl, ⟨nd, rfl⟩⟩; (try first | exact ⟨rfl, _, World.drewN_drewN _ _ _⟩ | exact ⟨rfl, _, Eq.trans (World.drewN_drewN _ _ _) (congrArg (World.drewN _) (Nat.add_assoc _ _ _))⟩))); try go_wp2_with (first | (go_at_call 56; (with_reducible refine (headgateref03_Name.calls k a0 true _ A4.out).mono ?_); rintro e w' ⟨rfl, ⟨nd, rfl⟩⟩; (try first | exact ⟨rfl, _, World.drewN_drewN _ _ _⟩ | exact ⟨rfl, _, Eq.trans (World.drewN_drewN _ _ _) (congrArg (World.drewN _) (Nat.add_assoc _ _ _))⟩))))
  go_meet
  case rel => exact ⟨_, (((a0.extract 0 4).toList != a1.toList)), (by first | rfl | (simp; done) | (simp [*]; done)), H', ⟨by first | omega | exact Nat.le_refl _⟩, by repeat (first | exact Drawn0.refl _ | apply Drawn0.step)⟩
 case rest =>
  clear HC3
  try clear p2
  try clear c3
  try clear c5
  try clear c6
  try clear c6b0
  try clear c6b1
  try clear c7
  try clear c7b0
  try clear c7b1
  try clear c8
  try clear c8b0
  try clear c8b1
  obtain ⟨kq, x20_2, rfl, HA, HJ2, ⟨mc2, rfl⟩⟩ := hcut
  cases kq with
  | zero => exact absurd HA.out (by simp [headgateref03_dated.j0])
  | succ kj2 =>
   have H := HA.out
   clear HA
   simp only [headgateref03_dated.j0] at H
   by_cases c9 : x20_2 = true
   ·subst c9
    have H1 := H
    rw [if_pos rfl] at H1
    clear H
    have H := H1
    clear H1
    obtain rfl := Option.some.inj H
    go_wp2
    repeat (go_quiet (fail); try go_wp2)
    go_ret
    exact ⟨by first | rfl | (simp; done) | (simp [*]; done), by repeat (first | exact Drawn0.refl _ | apply Drawn0.step)⟩
   replace c9 := Bool.eq_false_iff.mpr c9
   subst c9
   have H1 := H
   rw [if_neg (show ¬ (false = true) by decide)] at H1
   clear H
   have H := H1
   clear H1
   have H' := Aside0.mk H
   clear H
   go_wp2
   repeat (go_quiet (fail); try go_wp2)
   go_loopg [5] kj2 (fun kq v5 w' => ∃ (x5_2 : Int), v5 = .int .i64 x5_2 ∧ Aside0 (headgateref03_dated.l0 kq a0 x5_2 = some r) ∧ Aside0 (kq ≤ kj2) ∧ Drawn0 w w')
   case atStart => exact ⟨(4), (by first | rfl | (simp; done) | (simp [*]; done)), H', ⟨Nat.le_refl _⟩, by repeat (first | exact Drawn0.refl _ | apply Drawn0.step)⟩
   case round =>
    clear H'
    try clear c2
    try clear p2
    try clear c3
    try clear c5
    try clear c6
    try clear c6b0
    try clear c6b1
    try clear c7
    try clear c7b0
    try clear c7b1
    try clear c8
    try clear c8b0
    try clear c8b1
    try clear c9
    try clear p2
    obtain ⟨x5_2, rfl, HA, HK2, ⟨m2, rfl⟩⟩ := hrel
    cases gk with
    | zero => exact absurd HA.out (by simp [headgateref03_dated.l0])
    | succ k2 =>
     have H := HA.out
     clear HA
     simp only [headgateref03_dated.l0] at H
     by_cases c10 : x5_2 < 8
     ·rw [if_pos c10] at H
      have c10b0 : decide (x5_2 < 8) = true := decide_eq_true c10
      clear c10
      refine neg_first (p := (0 ≤ x5_2)) (fun c11 => ?_) (fun c11 => ?_)
      ·rw [if_neg c11] at H
       exact absurd H (by simp)
      rw [if_pos c11] at H
      have c11b0 : decide (0 ≤ x5_2) = true := decide_eq_true c11
      clear c11
      refine neg_first (p := (x5_2 < (a0.size : Int))) (fun c12 => ?_) (fun c12 => ?_)
      ·rw [if_neg c12] at H
       exact absurd H (by simp)
      rw [if_pos c12] at H
      have c12b0 : decide (x5_2 < (a0.size : Int)) = true := decide_eq_true c12
      clear c12
      replace H := Option.bind_eq_some_iff.mp H
      obtain ⟨t256, A140, H⟩ := H
      try dsimp only at H
      have A14 := Aside0.mk A140
      clear A140
      refine neg_first (p := (t256 = true)) (fun c15 => ?_) (fun c15 => ?_)
      ·replace c15 := Bool.eq_false_iff.mpr c15
       subst c15
       have H1 := H
       rw [if_neg (show ¬ (false = true) by decide)] at H1
       clear H
       have H := H1
       clear H1
       obtain rfl := Option.some.inj H
       have p13 : 0 ≤ (x5_2 : Int) := of_decide_eq_true (by first | (with_reducible assumption) | assumption)
       have q13 : x5_2 < (a0.size : Int) := of_decide_eq_true (by first | (with_reducible assumption) | assumption)
       have hx13 := bt_at a0 x5_2
       replace p13 := eq_true p13
       replace q13 := eq_true q13
       go_wp2_with (first | (go_at_call 57; (with_reducible refine (headgateref03_digit.calls (bt a0 x5_2) false _ A14.out).mono ?_); rintro e w' ⟨rfl, ⟨nd, rfl⟩⟩; (try first | exact ⟨rfl, _, World.drewN_drewN _ _ _⟩ | exact ⟨rfl, _, Eq.trans (World.drewN_drewN _ _ _) (congrArg (World.drewN _) (Nat.add_assoc _ _ _))⟩)))
       repeat (go_quiet (first | (go_at_call 57; (with_reducible refine (headgateref03_digit.calls (bt a0 x5_2) false _ A14.out).mono ?_); rintro e w' ⟨rfl, ⟨nd, rfl⟩⟩; (try first | exact ⟨rfl, _, World.drewN_drewN _ _ _⟩ | exact ⟨rfl, _, Eq.trans (World.drewN_drewN _ _ _) (congrArg (World.drewN _) (Nat.add_assoc _ _ _))⟩))); try go_wp2_with (first | (go_at_call 57; (with_reducible refine (headgateref03_digit.calls (bt a0 x5_2) false _ A14.out).mono ?_); rintro e w' ⟨rfl, ⟨nd, rfl⟩⟩; (try first | exact ⟨rfl, _, World.drewN_drewN _ _ _⟩ | exact ⟨rfl, _, Eq.trans (World.drewN_drewN _ _ _) (congrArg (World.drewN _) (Nat.add_assoc _ _ _))⟩))))
       go_ret
       exact ⟨by first | rfl | (simp; done) | (simp [*]; done), by repeat (first | exact Drawn0.refl _ | apply Drawn0.step)⟩
      subst c15
      have H1 := H
      rw [if_pos rfl] at H1
      clear H
      have H := H1
      clear H1
      have H' := Aside0.mk H
      clear H
      have p13 : 0 ≤ (x5_2 : Int) := of_decide_eq_true (by first | (with_reducible assumption) | assumption)
      have q13 : x5_2 < (a0.size : Int) := of_decide_eq_true (by first | (with_reducible assumption) | assumption)
      have hx13 := bt_at a0 x5_2
      replace p13 := eq_true p13
      replace q13 := eq_true q13
      go_wp2_with (first | (go_at_call 57; (with_reducible refine (headgateref03_digit.calls (bt a0 x5_2) true _ A14.out).mono ?_); rintro e w' ⟨rfl, ⟨nd, rfl⟩⟩; (try first | exact ⟨rfl, _, World.drewN_drewN _ _ _⟩ | exact ⟨rfl, _, Eq.trans (World.drewN_drewN _ _ _) (congrArg (World.drewN _) (Nat.add_assoc _ _ _))⟩)))
      repeat (go_quiet (first | (go_at_call 57; (with_reducible refine (headgateref03_digit.calls (bt a0 x5_2) true _ A14.out).mono ?_); rintro e w' ⟨rfl, ⟨nd, rfl⟩⟩; (try first | exact ⟨rfl, _, World.drewN_drewN _ _ _⟩ | exact ⟨rfl, _, Eq.trans (World.drewN_drewN _ _ _) (congrArg (World.drewN _) (Nat.add_assoc _ _ _))⟩))); try go_wp2_with (first | (go_at_call 57; (with_reducible refine (headgateref03_digit.calls (bt a0 x5_2) true _ A14.out).mono ?_); rintro e w' ⟨rfl, ⟨nd, rfl⟩⟩; (try first | exact ⟨rfl, _, World.drewN_drewN _ _ _⟩ | exact ⟨rfl, _, Eq.trans (World.drewN_drewN _ _ _) (congrArg (World.drewN _) (Nat.add_assoc _ _ _))⟩))))
      go_roundg k2
      case measure => have := HJ2.out; have := HK2.out; omega
      case rel => exact ⟨(wrap64 (x5_2 + 1)), (by first | rfl | (simp; done) | (simp [*]; done)), H', ⟨by have := HJ2.out; have := HK2.out; omega⟩, by repeat (first | exact Drawn0.refl _ | apply Drawn0.step)⟩
     rw [if_neg c10] at H
     have c10b0 : decide (x5_2 < 8) = false := decide_eq_false c10
     clear c10
     refine neg_first (p := (8 < (a0.size : Int))) (fun c16 => ?_) (fun c16 => ?_)
     ·rw [if_neg c16] at H
      exact absurd H (by simp)
     rw [if_pos c16] at H
     have c16b0 : decide (8 < (a0.size : Int)) = true := decide_eq_true c16
     have c16b1 : decide (8 < a0.size) = true := decide_eq_true (by omega)
     clear c16
     refine neg_first (p := ((bt a0 8) = 45)) (fun c18 => ?_) (fun c18 => ?_)
     ·rw [if_neg c18] at H
      have c18b0 : ((bt a0 8) == 45) = false := beq_eq_false_iff_ne.mpr c18
      have c18b1 : ((bt a0 8) != 45) = true := bne_iff_ne.mpr c18
      obtain rfl := Option.some.inj H
      have p17 : 0 ≤ (8 : Int) := (by omega)
      have q17 : 8 < a0.size := (by have : (8 : Int) < (a0.size : Int) := of_decide_eq_true (by first | (with_reducible assumption) | assumption); omega)
      have hx17 : ∀ h : 8 < a0.size, ((a0[8]'h).toNat : Int) = bt a0 8 := bt_at a0 8
      clear p17
      have qi17 : (8 < (a0.size : Int)) = True := eq_true (of_decide_eq_true (by first | (with_reducible assumption) | assumption))
      replace q17 := eq_true q17
      go_wp2
      repeat (go_quiet (fail); try go_wp2)
      go_ret
      exact ⟨by first | rfl | (simp; done) | (simp [*]; done), by repeat (first | exact Drawn0.refl _ | apply Drawn0.step)⟩
     rw [if_pos c18] at H
     have c18b0 : ((bt a0 8) == 45) = true := beq_iff_eq.mpr c18
     have c18b1 : ((bt a0 8) != 45) = false := bne_eq_false_iff_eq.mpr c18
     clear c18
     refine neg_first (p := (9 < (a0.size : Int))) (fun c19 => ?_) (fun c19 => ?_)
     ·rw [if_neg c19] at H
      exact absurd H (by simp)
     rw [if_pos c19] at H
     have c19b0 : decide (9 < (a0.size : Int)) = true := decide_eq_true c19
     have c19b1 : decide (9 < a0.size) = true := decide_eq_true (by omega)
     clear c19
     replace H := Option.bind_eq_some_iff.mp H
     obtain ⟨t257, A210, H⟩ := H
     try dsimp only at H
     have A21 := Aside0.mk A210
     clear A210
     refine neg_first (p := (t257 = true)) (fun c22 => ?_) (fun c22 => ?_)
     ·replace c22 := Bool.eq_false_iff.mpr c22
      subst c22
      have H1 := H
      rw [if_neg (show ¬ (false = true) by decide)] at H1
      clear H
      have H := H1
      clear H1
      obtain rfl := Option.some.inj H
      have p17 : 0 ≤ (8 : Int) := (by omega)
      have q17 : 8 < a0.size := (by have : (8 : Int) < (a0.size : Int) := of_decide_eq_true (by first | (with_reducible assumption) | assumption); omega)
      have hx17 : ∀ h : 8 < a0.size, ((a0[8]'h).toNat : Int) = bt a0 8 := bt_at a0 8
      clear p17
      have qi17 : (8 < (a0.size : Int)) = True := eq_true (of_decide_eq_true (by first | (with_reducible assumption) | assumption))
      replace q17 := eq_true q17
      have p20 : 0 ≤ (9 : Int) := (by omega)
      have q20 : 9 < a0.size := (by have : (9 : Int) < (a0.size : Int) := of_decide_eq_true (by first | (with_reducible assumption) | assumption); omega)
      have hx20 : ∀ h : 9 < a0.size, ((a0[9]'h).toNat : Int) = bt a0 9 := bt_at a0 9
      clear p20
      have qi20 : (9 < (a0.size : Int)) = True := eq_true (of_decide_eq_true (by first | (with_reducible assumption) | assumption))
      replace q20 := eq_true q20
      go_wp2_with (first | (go_at_call 57; (with_reducible refine (headgateref03_digit.calls (bt a0 9) false _ A21.out).mono ?_); rintro e w' ⟨rfl, ⟨nd, rfl⟩⟩; (try first | exact ⟨rfl, _, World.drewN_drewN _ _ _⟩ | exact ⟨rfl, _, Eq.trans (World.drewN_drewN _ _ _) (congrArg (World.drewN _) (Nat.add_assoc _ _ _))⟩)))
      repeat (go_quiet (first | (go_at_call 57; (with_reducible refine (headgateref03_digit.calls (bt a0 9) false _ A21.out).mono ?_); rintro e w' ⟨rfl, ⟨nd, rfl⟩⟩; (try first | exact ⟨rfl, _, World.drewN_drewN _ _ _⟩ | exact ⟨rfl, _, Eq.trans (World.drewN_drewN _ _ _) (congrArg (World.drewN _) (Nat.add_assoc _ _ _))⟩))); try go_wp2_with (first | (go_at_call 57; (with_reducible refine (headgateref03_digit.calls (bt a0 9) false _ A21.out).mono ?_); rintro e w' ⟨rfl, ⟨nd, rfl⟩⟩; (try first | exact ⟨rfl, _, World.drewN_drewN _ _ _⟩ | exact ⟨rfl, _, Eq.trans (World.drewN_drewN _ _ _) (congrArg (World.drewN _) (Nat.add_assoc _ _ _))⟩))))
      go_ret
      exact ⟨by first | rfl | (simp; done) | (simp [*]; done), by repeat (first | exact Drawn0.refl _ | apply Drawn0.step)⟩
     subst c22
     have H1 := H
     rw [if_pos rfl] at H1
     clear H
     have H := H1
     clear H1
     refine neg_first (p := (10 < (a0.size : Int))) (fun c23 => ?_) (fun c23 => ?_)
     ·rw [if_neg c23] at H
      exact absurd H (by simp)
     rw [if_pos c23] at H
     have c23b0 : decide (10 < (a0.size : Int)) = true := decide_eq_true c23
     have c23b1 : decide (10 < a0.size) = true := decide_eq_true (by omega)
     clear c23
     replace H := Option.bind_eq_some_iff.mp H
     obtain ⟨t258, A250, H⟩ := H
     try dsimp only at H
     have A25 := Aside0.mk A250
     clear A250
     refine neg_first (p := (t258 = true)) (fun c26 => ?_) (fun c26 => ?_)
     ·replace c26 := Bool.eq_false_iff.mpr c26
      subst c26
      have H1 := H
      rw [if_neg (show ¬ (false = true) by decide)] at H1
      clear H
      have H := H1
      clear H1
      obtain rfl := Option.some.inj H
      have p17 : 0 ≤ (8 : Int) := (by omega)
      have q17 : 8 < a0.size := (by have : (8 : Int) < (a0.size : Int) := of_decide_eq_true (by first | (with_reducible assumption) | assumption); omega)
      have hx17 : ∀ h : 8 < a0.size, ((a0[8]'h).toNat : Int) = bt a0 8 := bt_at a0 8
      clear p17
      have qi17 : (8 < (a0.size : Int)) = True := eq_true (of_decide_eq_true (by first | (with_reducible assumption) | assumption))
      replace q17 := eq_true q17
      have p20 : 0 ≤ (9 : Int) := (by omega)
      have q20 : 9 < a0.size := (by have : (9 : Int) < (a0.size : Int) := of_decide_eq_true (by first | (with_reducible assumption) | assumption); omega)
      have hx20 : ∀ h : 9 < a0.size, ((a0[9]'h).toNat : Int) = bt a0 9 := bt_at a0 9
      clear p20
      have qi20 : (9 < (a0.size : Int)) = True := eq_true (of_decide_eq_true (by first | (with_reducible assumption) | assumption))
      replace q20 := eq_true q20
      go_wp2_with (first | (go_at_call 57; (with_reducible refine (headgateref03_digit.calls (bt a0 9) true _ A21.out).mono ?_); rintro e w' ⟨rfl, ⟨nd, rfl⟩⟩; (try first | exact ⟨rfl, _, World.drewN_drewN _ _ _⟩ | exact ⟨rfl, _, Eq.trans (World.drewN_drewN _ _ _) (congrArg (World.drewN _) (Nat.add_assoc _ _ _))⟩); have p24 : 0 ≤ (10 : Int) := (by omega); have q24 : 10 < a0.size := (by have : (10 : Int) < (a0.size : Int) := of_decide_eq_true (by first | (with_reducible assumption) | assumption); omega); have hx24 : ∀ h : 10 < a0.size, ((a0[10]'h).toNat : Int) = bt a0 10 := bt_at a0 10; clear p24; have qi24 : (10 < (a0.size : Int)) = True := eq_true (of_decide_eq_true (by first | (with_reducible assumption) | assumption)); replace q24 := eq_true q24) | (go_at_call 57; (with_reducible refine (headgateref03_digit.calls (bt a0 10) false _ A25.out).mono ?_); rintro e w' ⟨rfl, ⟨nd, rfl⟩⟩; (try first | exact ⟨rfl, _, World.drewN_drewN _ _ _⟩ | exact ⟨rfl, _, Eq.trans (World.drewN_drewN _ _ _) (congrArg (World.drewN _) (Nat.add_assoc _ _ _))⟩)))
      repeat (go_quiet (first | (go_at_call 57; (with_reducible refine (headgateref03_digit.calls (bt a0 9) true _ A21.out).mono ?_); rintro e w' ⟨rfl, ⟨nd, rfl⟩⟩; (try first | exact ⟨rfl, _, World.drewN_drewN _ _ _⟩ | exact ⟨rfl, _, Eq.trans (World.drewN_drewN _ _ _) (congrArg (World.drewN _) (Nat.add_assoc _ _ _))⟩); have p24 : 0 ≤ (10 : Int) := (by omega); have q24 : 10 < a0.size := (by have : (10 : Int) < (a0.size : Int) := of_decide_eq_true (by first | (with_reducible assumption) | assumption); omega); have hx24 : ∀ h : 10 < a0.size, ((a0[10]'h).toNat : Int) = bt a0 10 := bt_at a0 10; clear p24; have qi24 : (10 < (a0.size : Int)) = True := eq_true (of_decide_eq_true (by first | (with_reducible assumption) | assumption)); replace q24 := eq_true q24) | (go_at_call 57; (with_reducible refine (headgateref03_digit.calls (bt a0 10) false _ A25.out).mono ?_); rintro e w' ⟨rfl, ⟨nd, rfl⟩⟩; (try first | exact ⟨rfl, _, World.drewN_drewN _ _ _⟩ | exact ⟨rfl, _, Eq.trans (World.drewN_drewN _ _ _) (congrArg (World.drewN _) (Nat.add_assoc _ _ _))⟩))); try go_wp2_with (first | (go_at_call 57; (with_reducible refine (headgateref03_digit.calls (bt a0 9) true _ A21.out).mono ?_); rintro e w' ⟨rfl, ⟨nd, rfl⟩⟩; (try first | exact ⟨rfl, _, World.drewN_drewN _ _ _⟩ | exact ⟨rfl, _, Eq.trans (World.drewN_drewN _ _ _) (congrArg (World.drewN _) (Nat.add_assoc _ _ _))⟩); have p24 : 0 ≤ (10 : Int) := (by omega); have q24 : 10 < a0.size := (by have : (10 : Int) < (a0.size : Int) := of_decide_eq_true (by first | (with_reducible assumption) | assumption); omega); have hx24 : ∀ h : 10 < a0.size, ((a0[10]'h).toNat : Int) = bt a0 10 := bt_at a0 10; clear p24; have qi24 : (10 < (a0.size : Int)) = True := eq_true (of_decide_eq_true (by first | (with_reducible assumption) | assumption)); replace q24 := eq_true q24) | (go_at_call 57; (with_reducible refine (headgateref03_digit.calls (bt a0 10) false _ A25.out).mono ?_); rintro e w' ⟨rfl, ⟨nd, rfl⟩⟩; (try first | exact ⟨rfl, _, World.drewN_drewN _ _ _⟩ | exact ⟨rfl, _, Eq.trans (World.drewN_drewN _ _ _) (congrArg (World.drewN _) (Nat.add_assoc _ _ _))⟩))))
      go_ret
      exact ⟨by first | rfl | (simp; done) | (simp [*]; done), by repeat (first | exact Drawn0.refl _ | apply Drawn0.step)⟩
     subst c26
     have H1 := H
     rw [if_pos rfl] at H1
     clear H
     have H := H1
     clear H1
     refine neg_first (p := (11 < (a0.size : Int))) (fun c27 => ?_) (fun c27 => ?_)
     ·rw [if_neg c27] at H
      exact absurd H (by simp)
     rw [if_pos c27] at H
     have c27b0 : decide (11 < (a0.size : Int)) = true := decide_eq_true c27
     have c27b1 : decide (11 < a0.size) = true := decide_eq_true (by omega)
     clear c27
     refine neg_first (p := ((bt a0 11) = 46)) (fun c29 => ?_) (fun c29 => ?_)
     ·rw [if_neg c29] at H
      have c29b0 : ((bt a0 11) == 46) = false := beq_eq_false_iff_ne.mpr c29
      have c29b1 : ((bt a0 11) != 46) = true := bne_iff_ne.mpr c29
      obtain rfl := Option.some.inj H
      have p17 : 0 ≤ (8 : Int) := (by omega)
      have q17 : 8 < a0.size := (by have : (8 : Int) < (a0.size : Int) := of_decide_eq_true (by first | (with_reducible assumption) | assumption); omega)
      have hx17 : ∀ h : 8 < a0.size, ((a0[8]'h).toNat : Int) = bt a0 8 := bt_at a0 8
      clear p17
      have qi17 : (8 < (a0.size : Int)) = True := eq_true (of_decide_eq_true (by first | (with_reducible assumption) | assumption))
      replace q17 := eq_true q17
      have p20 : 0 ≤ (9 : Int) := (by omega)
      have q20 : 9 < a0.size := (by have : (9 : Int) < (a0.size : Int) := of_decide_eq_true (by first | (with_reducible assumption) | assumption); omega)
      have hx20 : ∀ h : 9 < a0.size, ((a0[9]'h).toNat : Int) = bt a0 9 := bt_at a0 9
      clear p20
      have qi20 : (9 < (a0.size : Int)) = True := eq_true (of_decide_eq_true (by first | (with_reducible assumption) | assumption))
      replace q20 := eq_true q20
      go_wp2_with (first | (go_at_call 57; (with_reducible refine (headgateref03_digit.calls (bt a0 9) true _ A21.out).mono ?_); rintro e w' ⟨rfl, ⟨nd, rfl⟩⟩; (try first | exact ⟨rfl, _, World.drewN_drewN _ _ _⟩ | exact ⟨rfl, _, Eq.trans (World.drewN_drewN _ _ _) (congrArg (World.drewN _) (Nat.add_assoc _ _ _))⟩); have p24 : 0 ≤ (10 : Int) := (by omega); have q24 : 10 < a0.size := (by have : (10 : Int) < (a0.size : Int) := of_decide_eq_true (by first | (with_reducible assumption) | assumption); omega); have hx24 : ∀ h : 10 < a0.size, ((a0[10]'h).toNat : Int) = bt a0 10 := bt_at a0 10; clear p24; have qi24 : (10 < (a0.size : Int)) = True := eq_true (of_decide_eq_true (by first | (with_reducible assumption) | assumption)); replace q24 := eq_true q24) | (go_at_call 57; (with_reducible refine (headgateref03_digit.calls (bt a0 10) true _ A25.out).mono ?_); rintro e w' ⟨rfl, ⟨nd, rfl⟩⟩; (try first | exact ⟨rfl, _, World.drewN_drewN _ _ _⟩ | exact ⟨rfl, _, Eq.trans (World.drewN_drewN _ _ _) (congrArg (World.drewN _) (Nat.add_assoc _ _ _))⟩); have p28 : 0 ≤ (11 : Int) := (by omega); have q28 : 11 < a0.size := (by have : (11 : Int) < (a0.size : Int) := of_decide_eq_true (by first | (with_reducible assumption) | assumption); omega); have hx28 : ∀ h : 11 < a0.size, ((a0[11]'h).toNat : Int) = bt a0 11 := bt_at a0 11; clear p28; have qi28 : (11 < (a0.size : Int)) = True := eq_true (of_decide_eq_true (by first | (with_reducible assumption) | assumption)); replace q28 := eq_true q28))
      repeat (go_quiet (first | (go_at_call 57; (with_reducible refine (headgateref03_digit.calls (bt a0 9) true _ A21.out).mono ?_); rintro e w' ⟨rfl, ⟨nd, rfl⟩⟩; (try first | exact ⟨rfl, _, World.drewN_drewN _ _ _⟩ | exact ⟨rfl, _, Eq.trans (World.drewN_drewN _ _ _) (congrArg (World.drewN _) (Nat.add_assoc _ _ _))⟩); have p24 : 0 ≤ (10 : Int) := (by omega); have q24 : 10 < a0.size := (by have : (10 : Int) < (a0.size : Int) := of_decide_eq_true (by first | (with_reducible assumption) | assumption); omega); have hx24 : ∀ h : 10 < a0.size, ((a0[10]'h).toNat : Int) = bt a0 10 := bt_at a0 10; clear p24; have qi24 : (10 < (a0.size : Int)) = True := eq_true (of_decide_eq_true (by first | (with_reducible assumption) | assumption)); replace q24 := eq_true q24) | (go_at_call 57; (with_reducible refine (headgateref03_digit.calls (bt a0 10) true _ A25.out).mono ?_); rintro e w' ⟨rfl, ⟨nd, rfl⟩⟩; (try first | exact ⟨rfl, _, World.drewN_drewN _ _ _⟩ | exact ⟨rfl, _, Eq.trans (World.drewN_drewN _ _ _) (congrArg (World.drewN _) (Nat.add_assoc _ _ _))⟩); have p28 : 0 ≤ (11 : Int) := (by omega); have q28 : 11 < a0.size := (by have : (11 : Int) < (a0.size : Int) := of_decide_eq_true (by first | (with_reducible assumption) | assumption); omega); have hx28 : ∀ h : 11 < a0.size, ((a0[11]'h).toNat : Int) = bt a0 11 := bt_at a0 11; clear p28; have qi28 : (11 < (a0.size : Int)) = True := eq_true (of_decide_eq_true (by first | (with_reducible assumption) | assumption)); replace q28 := eq_true q28)); try go_wp2_with (first | (go_at_call 57; (with_reducible refine (headgateref03_digit.calls (bt a0 9) true _ A21.out).mono ?_); rintro e w' ⟨rfl, ⟨nd, rfl⟩⟩; (try first | exact ⟨rfl, _, World.drewN_drewN _ _ _⟩ | exact ⟨rfl, _, Eq.trans (World.drewN_drewN _ _ _) (congrArg (World.drewN _) (Nat.add_assoc _ _ _))⟩); have p24 : 0 ≤ (10 : Int) := (by omega); have q24 : 10 < a0.size := (by have : (10 : Int) < (a0.size : Int) := of_decide_eq_true (by first | (with_reducible assumption) | assumption); omega); have hx24 : ∀ h : 10 < a0.size, ((a0[10]'h).toNat : Int) = bt a0 10 := bt_at a0 10; clear p24; have qi24 : (10 < (a0.size : Int)) = True := eq_true (of_decide_eq_true (by first | (with_reducible assumption) | assumption)); replace q24 := eq_true q24) | (go_at_call 57; (with_reducible refine (headgateref03_digit.calls (bt a0 10) true _ A25.out).mono ?_); rintro e w' ⟨rfl, ⟨nd, rfl⟩⟩; (try first | exact ⟨rfl, _, World.drewN_drewN _ _ _⟩ | exact ⟨rfl, _, Eq.trans (World.drewN_drewN _ _ _) (congrArg (World.drewN _) (Nat.add_assoc _ _ _))⟩); have p28 : 0 ≤ (11 : Int) := (by omega); have q28 : 11 < a0.size := (by have : (11 : Int) < (a0.size : Int) := of_decide_eq_true (by first | (with_reducible assumption) | assumption); omega); have hx28 : ∀ h : 11 < a0.size, ((a0[11]'h).toNat : Int) = bt a0 11 := bt_at a0 11; clear p28; have qi28 : (11 < (a0.size : Int)) = True := eq_true (of_decide_eq_true (by first | (with_reducible assumption) | assumption)); replace q28 := eq_true q28)))
      go_ret
      exact ⟨by first | rfl | (simp; done) | (simp [*]; done), by repeat (first | exact Drawn0.refl _ | apply Drawn0.step)⟩
     rw [if_pos c29] at H
     have c29b0 : ((bt a0 11) == 46) = true := beq_iff_eq.mpr c29
     have c29b1 : ((bt a0 11) != 46) = false := bne_eq_false_iff_eq.mpr c29
     clear c29
     refine neg_first (p := ((((((bt a0 9) - 48) % 256) * 10) + (((bt a0 10) - 48) % 256)) ≥ 1)) (fun c32 => ?_) (fun c32 => ?_)
     ·rw [if_neg c32] at H
      have c32b0 : decide (1 ≤ (((((bt a0 9) - 48) % 256) * 10) + (((bt a0 10) - 48) % 256))) = false := decide_eq_false c32
      clear c32
      obtain rfl := Option.some.inj H
      have p17 : 0 ≤ (8 : Int) := (by omega)
      have q17 : 8 < a0.size := (by have : (8 : Int) < (a0.size : Int) := of_decide_eq_true (by first | (with_reducible assumption) | assumption); omega)
      have hx17 : ∀ h : 8 < a0.size, ((a0[8]'h).toNat : Int) = bt a0 8 := bt_at a0 8
      clear p17
      have qi17 : (8 < (a0.size : Int)) = True := eq_true (of_decide_eq_true (by first | (with_reducible assumption) | assumption))
      replace q17 := eq_true q17
      have p20 : 0 ≤ (9 : Int) := (by omega)
      have q20 : 9 < a0.size := (by have : (9 : Int) < (a0.size : Int) := of_decide_eq_true (by first | (with_reducible assumption) | assumption); omega)
      have hx20 : ∀ h : 9 < a0.size, ((a0[9]'h).toNat : Int) = bt a0 9 := bt_at a0 9
      clear p20
      have qi20 : (9 < (a0.size : Int)) = True := eq_true (of_decide_eq_true (by first | (with_reducible assumption) | assumption))
      replace q20 := eq_true q20
      go_wp2_with (first | (go_at_call 57; (with_reducible refine (headgateref03_digit.calls (bt a0 9) true _ A21.out).mono ?_); rintro e w' ⟨rfl, ⟨nd, rfl⟩⟩; (try first | exact ⟨rfl, _, World.drewN_drewN _ _ _⟩ | exact ⟨rfl, _, Eq.trans (World.drewN_drewN _ _ _) (congrArg (World.drewN _) (Nat.add_assoc _ _ _))⟩); have p24 : 0 ≤ (10 : Int) := (by omega); have q24 : 10 < a0.size := (by have : (10 : Int) < (a0.size : Int) := of_decide_eq_true (by first | (with_reducible assumption) | assumption); omega); have hx24 : ∀ h : 10 < a0.size, ((a0[10]'h).toNat : Int) = bt a0 10 := bt_at a0 10; clear p24; have qi24 : (10 < (a0.size : Int)) = True := eq_true (of_decide_eq_true (by first | (with_reducible assumption) | assumption)); replace q24 := eq_true q24) | (go_at_call 57; (with_reducible refine (headgateref03_digit.calls (bt a0 10) true _ A25.out).mono ?_); rintro e w' ⟨rfl, ⟨nd, rfl⟩⟩; (try first | exact ⟨rfl, _, World.drewN_drewN _ _ _⟩ | exact ⟨rfl, _, Eq.trans (World.drewN_drewN _ _ _) (congrArg (World.drewN _) (Nat.add_assoc _ _ _))⟩); have p28 : 0 ≤ (11 : Int) := (by omega); have q28 : 11 < a0.size := (by have : (11 : Int) < (a0.size : Int) := of_decide_eq_true (by first | (with_reducible assumption) | assumption); omega); have hx28 : ∀ h : 11 < a0.size, ((a0[11]'h).toNat : Int) = bt a0 11 := bt_at a0 11; clear p28; have qi28 : (11 < (a0.size : Int)) = True := eq_true (of_decide_eq_true (by first | (with_reducible assumption) | assumption)); replace q28 := eq_true q28; have p30 : 0 ≤ (9 : Int) := (by omega); have q30 : 9 < a0.size := (by have : (9 : Int) < (a0.size : Int) := of_decide_eq_true (by first | (with_reducible assumption) | assumption); omega); have hx30 : ∀ h : 9 < a0.size, ((a0[9]'h).toNat : Int) = bt a0 9 := bt_at a0 9; clear p30; have qi30 : (9 < (a0.size : Int)) = True := eq_true (of_decide_eq_true (by first | (with_reducible assumption) | assumption)); replace q30 := eq_true q30; have p31 : 0 ≤ (10 : Int) := (by omega); have q31 : 10 < a0.size := (by have : (10 : Int) < (a0.size : Int) := of_decide_eq_true (by first | (with_reducible assumption) | assumption); omega); have hx31 : ∀ h : 10 < a0.size, ((a0[10]'h).toNat : Int) = bt a0 10 := bt_at a0 10; clear p31; have qi31 : (10 < (a0.size : Int)) = True := eq_true (of_decide_eq_true (by first | (with_reducible assumption) | assumption)); replace q31 := eq_true q31))
      repeat (go_quiet (first | (go_at_call 57; (with_reducible refine (headgateref03_digit.calls (bt a0 9) true _ A21.out).mono ?_); rintro e w' ⟨rfl, ⟨nd, rfl⟩⟩; (try first | exact ⟨rfl, _, World.drewN_drewN _ _ _⟩ | exact ⟨rfl, _, Eq.trans (World.drewN_drewN _ _ _) (congrArg (World.drewN _) (Nat.add_assoc _ _ _))⟩); have p24 : 0 ≤ (10 : Int) := (by omega); have q24 : 10 < a0.size := (by have : (10 : Int) < (a0.size : Int) := of_decide_eq_true (by first | (with_reducible assumption) | assumption); omega); have hx24 : ∀ h : 10 < a0.size, ((a0[10]'h).toNat : Int) = bt a0 10 := bt_at a0 10; clear p24; have qi24 : (10 < (a0.size : Int)) = True := eq_true (of_decide_eq_true (by first | (with_reducible assumption) | assumption)); replace q24 := eq_true q24) | (go_at_call 57; (with_reducible refine (headgateref03_digit.calls (bt a0 10) true _ A25.out).mono ?_); rintro e w' ⟨rfl, ⟨nd, rfl⟩⟩; (try first | exact ⟨rfl, _, World.drewN_drewN _ _ _⟩ | exact ⟨rfl, _, Eq.trans (World.drewN_drewN _ _ _) (congrArg (World.drewN _) (Nat.add_assoc _ _ _))⟩); have p28 : 0 ≤ (11 : Int) := (by omega); have q28 : 11 < a0.size := (by have : (11 : Int) < (a0.size : Int) := of_decide_eq_true (by first | (with_reducible assumption) | assumption); omega); have hx28 : ∀ h : 11 < a0.size, ((a0[11]'h).toNat : Int) = bt a0 11 := bt_at a0 11; clear p28; have qi28 : (11 < (a0.size : Int)) = True := eq_true (of_decide_eq_true (by first | (with_reducible assumption) | assumption)); replace q28 := eq_true q28; have p30 : 0 ≤ (9 : Int) := (by omega); have q30 : 9 < a0.size := (by have : (9 : Int) < (a0.size : Int) := of_decide_eq_true (by first | (with_reducible assumption) | assumption); omega); have hx30 : ∀ h : 9 < a0.size, ((a0[9]'h).toNat : Int) = bt a0 9 := bt_at a0 9; clear p30; have qi30 : (9 < (a0.size : Int)) = True := eq_true (of_decide_eq_true (by first | (with_reducible assumption) | assumption)); replace q30 := eq_true q30; have p31 : 0 ≤ (10 : Int) := (by omega); have q31 : 10 < a0.size := (by have : (10 : Int) < (a0.size : Int) := of_decide_eq_true (by first | (with_reducible assumption) | assumption); omega); have hx31 : ∀ h : 10 < a0.size, ((a0[10]'h).toNat : Int) = bt a0 10 := bt_at a0 10; clear p31; have qi31 : (10 < (a0.size : Int)) = True := eq_true (of_decide_eq_true (by first | (with_reducible assumption) | assumption)); replace q31 := eq_true q31)); try go_wp2_with (first | (go_at_call 57; (with_reducible refine (headgateref03_digit.calls (bt a0 9) true _ A21.out).mono ?_); rintro e w' ⟨rfl, ⟨nd, rfl⟩⟩; (try first | exact ⟨rfl, _, World.drewN_drewN _ _ _⟩ | exact ⟨rfl, _, Eq.trans (World.drewN_drewN _ _ _) (congrArg (World.drewN _) (Nat.add_assoc _ _ _))⟩); have p24 : 0 ≤ (10 : Int) := (by omega); have q24 : 10 < a0.size := (by have : (10 : Int) < (a0.size : Int) := of_decide_eq_true (by first | (with_reducible assumption) | assumption); omega); have hx24 : ∀ h : 10 < a0.size, ((a0[10]'h).toNat : Int) = bt a0 10 := bt_at a0 10; clear p24; have qi24 : (10 < (a0.size : Int)) = True := eq_true (of_decide_eq_true (by first | (with_reducible assumption) | assumption)); replace q24 := eq_true q24) | (go_at_call 57; (with_reducible refine (headgateref03_digit.calls (bt a0 10) true _ A25.out).mono ?_); rintro e w' ⟨rfl, ⟨nd, rfl⟩⟩; (try first | exact ⟨rfl, _, World.drewN_drewN _ _ _⟩ | exact ⟨rfl, _, Eq.trans (World.drewN_drewN _ _ _) (congrArg (World.drewN _) (Nat.add_assoc _ _ _))⟩); have p28 : 0 ≤ (11 : Int) := (by omega); have q28 : 11 < a0.size := (by have : (11 : Int) < (a0.size : Int) := of_decide_eq_true (by first | (with_reducible assumption) | assumption); omega); have hx28 : ∀ h : 11 < a0.size, ((a0[11]'h).toNat : Int) = bt a0 11 := bt_at a0 11; clear p28; have qi28 : (11 < (a0.size : Int)) = True := eq_true (of_decide_eq_true (by first | (with_reducible assumption) | assumption)); replace q28 := eq_true q28; have p30 : 0 ≤ (9 : Int) := (by omega); have q30 : 9 < a0.size := (by have : (9 : Int) < (a0.size : Int) := of_decide_eq_true (by first | (with_reducible assumption) | assumption); omega); have hx30 : ∀ h : 9 < a0.size, ((a0[9]'h).toNat : Int) = bt a0 9 := bt_at a0 9; clear p30; have qi30 : (9 < (a0.size : Int)) = True := eq_true (of_decide_eq_true (by first | (with_reducible assumption) | assumption)); replace q30 := eq_true q30; have p31 : 0 ≤ (10 : Int) := (by omega); have q31 : 10 < a0.size := (by have : (10 : Int) < (a0.size : Int) := of_decide_eq_true (by first | (with_reducible assumption) | assumption); omega); have hx31 : ∀ h : 10 < a0.size, ((a0[10]'h).toNat : Int) = bt a0 10 := bt_at a0 10; clear p31; have qi31 : (10 < (a0.size : Int)) = True := eq_true (of_decide_eq_true (by first | (with_reducible assumption) | assumption)); replace q31 := eq_true q31)))
      go_ret
      exact ⟨by first | rfl | (simp; done) | (simp [*]; done), by repeat (first | exact Drawn0.refl _ | apply Drawn0.step)⟩
     rw [if_pos c32] at H
     have c32b0 : decide (1 ≤ (((((bt a0 9) - 48) % 256) * 10) + (((bt a0 10) - 48) % 256))) = true := decide_eq_true c32
     clear c32
     refine neg_first (p := ((((((bt a0 9) - 48) % 256) * 10) + (((bt a0 10) - 48) % 256)) ≤ 12)) (fun c33 => ?_) (fun c33 => ?_)
     ·rw [if_neg c33] at H
      have c33b0 : decide ((((((bt a0 9) - 48) % 256) * 10) + (((bt a0 10) - 48) % 256)) ≤ 12) = false := decide_eq_false c33
      clear c33
      obtain rfl := Option.some.inj H
      have p17 : 0 ≤ (8 : Int) := (by omega)
      have q17 : 8 < a0.size := (by have : (8 : Int) < (a0.size : Int) := of_decide_eq_true (by first | (with_reducible assumption) | assumption); omega)
      have hx17 : ∀ h : 8 < a0.size, ((a0[8]'h).toNat : Int) = bt a0 8 := bt_at a0 8
      clear p17
      have qi17 : (8 < (a0.size : Int)) = True := eq_true (of_decide_eq_true (by first | (with_reducible assumption) | assumption))
      replace q17 := eq_true q17
      have p20 : 0 ≤ (9 : Int) := (by omega)
      have q20 : 9 < a0.size := (by have : (9 : Int) < (a0.size : Int) := of_decide_eq_true (by first | (with_reducible assumption) | assumption); omega)
      have hx20 : ∀ h : 9 < a0.size, ((a0[9]'h).toNat : Int) = bt a0 9 := bt_at a0 9
      clear p20
      have qi20 : (9 < (a0.size : Int)) = True := eq_true (of_decide_eq_true (by first | (with_reducible assumption) | assumption))
      replace q20 := eq_true q20
      go_wp2_with (first | (go_at_call 57; (with_reducible refine (headgateref03_digit.calls (bt a0 9) true _ A21.out).mono ?_); rintro e w' ⟨rfl, ⟨nd, rfl⟩⟩; (try first | exact ⟨rfl, _, World.drewN_drewN _ _ _⟩ | exact ⟨rfl, _, Eq.trans (World.drewN_drewN _ _ _) (congrArg (World.drewN _) (Nat.add_assoc _ _ _))⟩); have p24 : 0 ≤ (10 : Int) := (by omega); have q24 : 10 < a0.size := (by have : (10 : Int) < (a0.size : Int) := of_decide_eq_true (by first | (with_reducible assumption) | assumption); omega); have hx24 : ∀ h : 10 < a0.size, ((a0[10]'h).toNat : Int) = bt a0 10 := bt_at a0 10; clear p24; have qi24 : (10 < (a0.size : Int)) = True := eq_true (of_decide_eq_true (by first | (with_reducible assumption) | assumption)); replace q24 := eq_true q24) | (go_at_call 57; (with_reducible refine (headgateref03_digit.calls (bt a0 10) true _ A25.out).mono ?_); rintro e w' ⟨rfl, ⟨nd, rfl⟩⟩; (try first | exact ⟨rfl, _, World.drewN_drewN _ _ _⟩ | exact ⟨rfl, _, Eq.trans (World.drewN_drewN _ _ _) (congrArg (World.drewN _) (Nat.add_assoc _ _ _))⟩); have p28 : 0 ≤ (11 : Int) := (by omega); have q28 : 11 < a0.size := (by have : (11 : Int) < (a0.size : Int) := of_decide_eq_true (by first | (with_reducible assumption) | assumption); omega); have hx28 : ∀ h : 11 < a0.size, ((a0[11]'h).toNat : Int) = bt a0 11 := bt_at a0 11; clear p28; have qi28 : (11 < (a0.size : Int)) = True := eq_true (of_decide_eq_true (by first | (with_reducible assumption) | assumption)); replace q28 := eq_true q28; have p30 : 0 ≤ (9 : Int) := (by omega); have q30 : 9 < a0.size := (by have : (9 : Int) < (a0.size : Int) := of_decide_eq_true (by first | (with_reducible assumption) | assumption); omega); have hx30 : ∀ h : 9 < a0.size, ((a0[9]'h).toNat : Int) = bt a0 9 := bt_at a0 9; clear p30; have qi30 : (9 < (a0.size : Int)) = True := eq_true (of_decide_eq_true (by first | (with_reducible assumption) | assumption)); replace q30 := eq_true q30; have p31 : 0 ≤ (10 : Int) := (by omega); have q31 : 10 < a0.size := (by have : (10 : Int) < (a0.size : Int) := of_decide_eq_true (by first | (with_reducible assumption) | assumption); omega); have hx31 : ∀ h : 10 < a0.size, ((a0[10]'h).toNat : Int) = bt a0 10 := bt_at a0 10; clear p31; have qi31 : (10 < (a0.size : Int)) = True := eq_true (of_decide_eq_true (by first | (with_reducible assumption) | assumption)); replace q31 := eq_true q31))
      repeat (go_quiet (first | (go_at_call 57; (with_reducible refine (headgateref03_digit.calls (bt a0 9) true _ A21.out).mono ?_); rintro e w' ⟨rfl, ⟨nd, rfl⟩⟩; (try first | exact ⟨rfl, _, World.drewN_drewN _ _ _⟩ | exact ⟨rfl, _, Eq.trans (World.drewN_drewN _ _ _) (congrArg (World.drewN _) (Nat.add_assoc _ _ _))⟩); have p24 : 0 ≤ (10 : Int) := (by omega); have q24 : 10 < a0.size := (by have : (10 : Int) < (a0.size : Int) := of_decide_eq_true (by first | (with_reducible assumption) | assumption); omega); have hx24 : ∀ h : 10 < a0.size, ((a0[10]'h).toNat : Int) = bt a0 10 := bt_at a0 10; clear p24; have qi24 : (10 < (a0.size : Int)) = True := eq_true (of_decide_eq_true (by first | (with_reducible assumption) | assumption)); replace q24 := eq_true q24) | (go_at_call 57; (with_reducible refine (headgateref03_digit.calls (bt a0 10) true _ A25.out).mono ?_); rintro e w' ⟨rfl, ⟨nd, rfl⟩⟩; (try first | exact ⟨rfl, _, World.drewN_drewN _ _ _⟩ | exact ⟨rfl, _, Eq.trans (World.drewN_drewN _ _ _) (congrArg (World.drewN _) (Nat.add_assoc _ _ _))⟩); have p28 : 0 ≤ (11 : Int) := (by omega); have q28 : 11 < a0.size := (by have : (11 : Int) < (a0.size : Int) := of_decide_eq_true (by first | (with_reducible assumption) | assumption); omega); have hx28 : ∀ h : 11 < a0.size, ((a0[11]'h).toNat : Int) = bt a0 11 := bt_at a0 11; clear p28; have qi28 : (11 < (a0.size : Int)) = True := eq_true (of_decide_eq_true (by first | (with_reducible assumption) | assumption)); replace q28 := eq_true q28; have p30 : 0 ≤ (9 : Int) := (by omega); have q30 : 9 < a0.size := (by have : (9 : Int) < (a0.size : Int) := of_decide_eq_true (by first | (with_reducible assumption) | assumption); omega); have hx30 : ∀ h : 9 < a0.size, ((a0[9]'h).toNat : Int) = bt a0 9 := bt_at a0 9; clear p30; have qi30 : (9 < (a0.size : Int)) = True := eq_true (of_decide_eq_true (by first | (with_reducible assumption) | assumption)); replace q30 := eq_true q30; have p31 : 0 ≤ (10 : Int) := (by omega); have q31 : 10 < a0.size := (by have : (10 : Int) < (a0.size : Int) := of_decide_eq_true (by first | (with_reducible assumption) | assumption); omega); have hx31 : ∀ h : 10 < a0.size, ((a0[10]'h).toNat : Int) = bt a0 10 := bt_at a0 10; clear p31; have qi31 : (10 < (a0.size : Int)) = True := eq_true (of_decide_eq_true (by first | (with_reducible assumption) | assumption)); replace q31 := eq_true q31)); try go_wp2_with (first | (go_at_call 57; (with_reducible refine (headgateref03_digit.calls (bt a0 9) true _ A21.out).mono ?_); rintro e w' ⟨rfl, ⟨nd, rfl⟩⟩; (try first | exact ⟨rfl, _, World.drewN_drewN _ _ _⟩ | exact ⟨rfl, _, Eq.trans (World.drewN_drewN _ _ _) (congrArg (World.drewN _) (Nat.add_assoc _ _ _))⟩); have p24 : 0 ≤ (10 : Int) := (by omega); have q24 : 10 < a0.size := (by have : (10 : Int) < (a0.size : Int) := of_decide_eq_true (by first | (with_reducible assumption) | assumption); omega); have hx24 : ∀ h : 10 < a0.size, ((a0[10]'h).toNat : Int) = bt a0 10 := bt_at a0 10; clear p24; have qi24 : (10 < (a0.size : Int)) = True := eq_true (of_decide_eq_true (by first | (with_reducible assumption) | assumption)); replace q24 := eq_true q24) | (go_at_call 57; (with_reducible refine (headgateref03_digit.calls (bt a0 10) true _ A25.out).mono ?_); rintro e w' ⟨rfl, ⟨nd, rfl⟩⟩; (try first | exact ⟨rfl, _, World.drewN_drewN _ _ _⟩ | exact ⟨rfl, _, Eq.trans (World.drewN_drewN _ _ _) (congrArg (World.drewN _) (Nat.add_assoc _ _ _))⟩); have p28 : 0 ≤ (11 : Int) := (by omega); have q28 : 11 < a0.size := (by have : (11 : Int) < (a0.size : Int) := of_decide_eq_true (by first | (with_reducible assumption) | assumption); omega); have hx28 : ∀ h : 11 < a0.size, ((a0[11]'h).toNat : Int) = bt a0 11 := bt_at a0 11; clear p28; have qi28 : (11 < (a0.size : Int)) = True := eq_true (of_decide_eq_true (by first | (with_reducible assumption) | assumption)); replace q28 := eq_true q28; have p30 : 0 ≤ (9 : Int) := (by omega); have q30 : 9 < a0.size := (by have : (9 : Int) < (a0.size : Int) := of_decide_eq_true (by first | (with_reducible assumption) | assumption); omega); have hx30 : ∀ h : 9 < a0.size, ((a0[9]'h).toNat : Int) = bt a0 9 := bt_at a0 9; clear p30; have qi30 : (9 < (a0.size : Int)) = True := eq_true (of_decide_eq_true (by first | (with_reducible assumption) | assumption)); replace q30 := eq_true q30; have p31 : 0 ≤ (10 : Int) := (by omega); have q31 : 10 < a0.size := (by have : (10 : Int) < (a0.size : Int) := of_decide_eq_true (by first | (with_reducible assumption) | assumption); omega); have hx31 : ∀ h : 10 < a0.size, ((a0[10]'h).toNat : Int) = bt a0 10 := bt_at a0 10; clear p31; have qi31 : (10 < (a0.size : Int)) = True := eq_true (of_decide_eq_true (by first | (with_reducible assumption) | assumption)); replace q31 := eq_true q31)))
      go_ret
      exact ⟨by first | rfl | (simp; done) | (simp [*]; done), by repeat (first | exact Drawn0.refl _ | apply Drawn0.step)⟩
     rw [if_pos c33] at H
     have c33b0 : decide ((((((bt a0 9) - 48) % 256) * 10) + (((bt a0 10) - 48) % 256)) ≤ 12) = true := decide_eq_true c33
     clear c33
     refine neg_first (p := (12 ≤ (a0.size : Int))) (fun c34 => ?_) (fun c34 => ?_)
     ·rw [if_neg c34] at H
      exact absurd H (by simp)
     rw [if_pos c34] at H
     have c34b0 := eq_true c34
     have c34b1 : decide (12 ≤ (a0.size : Int)) = true := decide_eq_true c34
     clear c34
     replace H := Option.bind_eq_some_iff.mp H
     obtain ⟨t259, A350, H⟩ := H
     try dsimp only at H
     have A35 := Aside0.mk A350
     clear A350
     obtain rfl := Option.some.inj H
     have p17 : 0 ≤ (8 : Int) := (by omega)
     have q17 : 8 < a0.size := (by have : (8 : Int) < (a0.size : Int) := of_decide_eq_true (by first | (with_reducible assumption) | assumption); omega)
     have hx17 : ∀ h : 8 < a0.size, ((a0[8]'h).toNat : Int) = bt a0 8 := bt_at a0 8
     clear p17
     have qi17 : (8 < (a0.size : Int)) = True := eq_true (of_decide_eq_true (by first | (with_reducible assumption) | assumption))
     replace q17 := eq_true q17
     have p20 : 0 ≤ (9 : Int) := (by omega)
     have q20 : 9 < a0.size := (by have : (9 : Int) < (a0.size : Int) := of_decide_eq_true (by first | (with_reducible assumption) | assumption); omega)
     have hx20 : ∀ h : 9 < a0.size, ((a0[9]'h).toNat : Int) = bt a0 9 := bt_at a0 9
     clear p20
     have qi20 : (9 < (a0.size : Int)) = True := eq_true (of_decide_eq_true (by first | (with_reducible assumption) | assumption))
     replace q20 := eq_true q20
     go_wp2_with (first | (go_at_call 57; (with_reducible refine (headgateref03_digit.calls (bt a0 9) true _ A21.out).mono ?_); rintro e w' ⟨rfl, ⟨nd, rfl⟩⟩; (try first | exact ⟨rfl, _, World.drewN_drewN _ _ _⟩ | exact ⟨rfl, _, Eq.trans (World.drewN_drewN _ _ _) (congrArg (World.drewN _) (Nat.add_assoc _ _ _))⟩); have p24 : 0 ≤ (10 : Int) := (by omega); have q24 : 10 < a0.size := (by have : (10 : Int) < (a0.size : Int) := of_decide_eq_true (by first | (with_reducible assumption) | assumption); omega); have hx24 : ∀ h : 10 < a0.size, ((a0[10]'h).toNat : Int) = bt a0 10 := bt_at a0 10; clear p24; have qi24 : (10 < (a0.size : Int)) = True := eq_true (of_decide_eq_true (by first | (with_reducible assumption) | assumption)); replace q24 := eq_true q24) | (go_at_call 57; (with_reducible refine (headgateref03_digit.calls (bt a0 10) true _ A25.out).mono ?_); rintro e w' ⟨rfl, ⟨nd, rfl⟩⟩; (try first | exact ⟨rfl, _, World.drewN_drewN _ _ _⟩ | exact ⟨rfl, _, Eq.trans (World.drewN_drewN _ _ _) (congrArg (World.drewN _) (Nat.add_assoc _ _ _))⟩); have p28 : 0 ≤ (11 : Int) := (by omega); have q28 : 11 < a0.size := (by have : (11 : Int) < (a0.size : Int) := of_decide_eq_true (by first | (with_reducible assumption) | assumption); omega); have hx28 : ∀ h : 11 < a0.size, ((a0[11]'h).toNat : Int) = bt a0 11 := bt_at a0 11; clear p28; have qi28 : (11 < (a0.size : Int)) = True := eq_true (of_decide_eq_true (by first | (with_reducible assumption) | assumption)); replace q28 := eq_true q28; have p30 : 0 ≤ (9 : Int) := (by omega); have q30 : 9 < a0.size := (by have : (9 : Int) < (a0.size : Int) := of_decide_eq_true (by first | (with_reducible assumption) | assumption); omega); have hx30 : ∀ h : 9 < a0.size, ((a0[9]'h).toNat : Int) = bt a0 9 := bt_at a0 9; clear p30; have qi30 : (9 < (a0.size : Int)) = True := eq_true (of_decide_eq_true (by first | (with_reducible assumption) | assumption)); replace q30 := eq_true q30; have p31 : 0 ≤ (10 : Int) := (by omega); have q31 : 10 < a0.size := (by have : (10 : Int) < (a0.size : Int) := of_decide_eq_true (by first | (with_reducible assumption) | assumption); omega); have hx31 : ∀ h : 10 < a0.size, ((a0[10]'h).toNat : Int) = bt a0 10 := bt_at a0 10; clear p31; have qi31 : (10 < (a0.size : Int)) = True := eq_true (of_decide_eq_true (by first | (with_reducible assumption) | assumption)); replace q31 := eq_true q31) | (go_at_call 56; (with_reducible refine (headgateref03_Name.calls k2 (a0.extract 12 a0.size) t259 _ A35.out).mono ?_); rintro e w' ⟨rfl, ⟨nd, rfl⟩⟩; (try first | exact ⟨rfl, _, World.drewN_drewN _ _ _⟩ | exact ⟨rfl, _, Eq.trans (World.drewN_drewN _ _ _) (congrArg (World.drewN _) (Nat.add_assoc _ _ _))⟩)))
     repeat (go_quiet (first | (go_at_call 57; (with_reducible refine (headgateref03_digit.calls (bt a0 9) true _ A21.out).mono ?_); rintro e w' ⟨rfl, ⟨nd, rfl⟩⟩; (try first | exact ⟨rfl, _, World.drewN_drewN _ _ _⟩ | exact ⟨rfl, _, Eq.trans (World.drewN_drewN _ _ _) (congrArg (World.drewN _) (Nat.add_assoc _ _ _))⟩); have p24 : 0 ≤ (10 : Int) := (by omega); have q24 : 10 < a0.size := (by have : (10 : Int) < (a0.size : Int) := of_decide_eq_true (by first | (with_reducible assumption) | assumption); omega); have hx24 : ∀ h : 10 < a0.size, ((a0[10]'h).toNat : Int) = bt a0 10 := bt_at a0 10; clear p24; have qi24 : (10 < (a0.size : Int)) = True := eq_true (of_decide_eq_true (by first | (with_reducible assumption) | assumption)); replace q24 := eq_true q24) | (go_at_call 57; (with_reducible refine (headgateref03_digit.calls (bt a0 10) true _ A25.out).mono ?_); rintro e w' ⟨rfl, ⟨nd, rfl⟩⟩; (try first | exact ⟨rfl, _, World.drewN_drewN _ _ _⟩ | exact ⟨rfl, _, Eq.trans (World.drewN_drewN _ _ _) (congrArg (World.drewN _) (Nat.add_assoc _ _ _))⟩); have p28 : 0 ≤ (11 : Int) := (by omega); have q28 : 11 < a0.size := (by have : (11 : Int) < (a0.size : Int) := of_decide_eq_true (by first | (with_reducible assumption) | assumption); omega); have hx28 : ∀ h : 11 < a0.size, ((a0[11]'h).toNat : Int) = bt a0 11 := bt_at a0 11; clear p28; have qi28 : (11 < (a0.size : Int)) = True := eq_true (of_decide_eq_true (by first | (with_reducible assumption) | assumption)); replace q28 := eq_true q28; have p30 : 0 ≤ (9 : Int) := (by omega); have q30 : 9 < a0.size := (by have : (9 : Int) < (a0.size : Int) := of_decide_eq_true (by first | (with_reducible assumption) | assumption); omega); have hx30 : ∀ h : 9 < a0.size, ((a0[9]'h).toNat : Int) = bt a0 9 := bt_at a0 9; clear p30; have qi30 : (9 < (a0.size : Int)) = True := eq_true (of_decide_eq_true (by first | (with_reducible assumption) | assumption)); replace q30 := eq_true q30; have p31 : 0 ≤ (10 : Int) := (by omega); have q31 : 10 < a0.size := (by have : (10 : Int) < (a0.size : Int) := of_decide_eq_true (by first | (with_reducible assumption) | assumption); omega); have hx31 : ∀ h : 10 < a0.size, ((a0[10]'h).toNat : Int) = bt a0 10 := bt_at a0 10; clear p31; have qi31 : (10 < (a0.size : Int)) = True := eq_true (of_decide_eq_true (by first | (with_reducible assumption) | assumption)); replace q31 := eq_true q31) | (go_at_call 56; (with_reducible refine (headgateref03_Name.calls k2 (a0.extract 12 a0.size) t259 _ A35.out).mono ?_); rintro e w' ⟨rfl, ⟨nd, rfl⟩⟩; (try first | exact ⟨rfl, _, World.drewN_drewN _ _ _⟩ | exact ⟨rfl, _, Eq.trans (World.drewN_drewN _ _ _) (congrArg (World.drewN _) (Nat.add_assoc _ _ _))⟩))); try go_wp2_with (first | (go_at_call 57; (with_reducible refine (headgateref03_digit.calls (bt a0 9) true _ A21.out).mono ?_); rintro e w' ⟨rfl, ⟨nd, rfl⟩⟩; (try first | exact ⟨rfl, _, World.drewN_drewN _ _ _⟩ | exact ⟨rfl, _, Eq.trans (World.drewN_drewN _ _ _) (congrArg (World.drewN _) (Nat.add_assoc _ _ _))⟩); have p24 : 0 ≤ (10 : Int) := (by omega); have q24 : 10 < a0.size := (by have : (10 : Int) < (a0.size : Int) := of_decide_eq_true (by first | (with_reducible assumption) | assumption); omega); have hx24 : ∀ h : 10 < a0.size, ((a0[10]'h).toNat : Int) = bt a0 10 := bt_at a0 10; clear p24; have qi24 : (10 < (a0.size : Int)) = True := eq_true (of_decide_eq_true (by first | (with_reducible assumption) | assumption)); replace q24 := eq_true q24) | (go_at_call 57; (with_reducible refine (headgateref03_digit.calls (bt a0 10) true _ A25.out).mono ?_); rintro e w' ⟨rfl, ⟨nd, rfl⟩⟩; (try first | exact ⟨rfl, _, World.drewN_drewN _ _ _⟩ | exact ⟨rfl, _, Eq.trans (World.drewN_drewN _ _ _) (congrArg (World.drewN _) (Nat.add_assoc _ _ _))⟩); have p28 : 0 ≤ (11 : Int) := (by omega); have q28 : 11 < a0.size := (by have : (11 : Int) < (a0.size : Int) := of_decide_eq_true (by first | (with_reducible assumption) | assumption); omega); have hx28 : ∀ h : 11 < a0.size, ((a0[11]'h).toNat : Int) = bt a0 11 := bt_at a0 11; clear p28; have qi28 : (11 < (a0.size : Int)) = True := eq_true (of_decide_eq_true (by first | (with_reducible assumption) | assumption)); replace q28 := eq_true q28; have p30 : 0 ≤ (9 : Int) := (by omega); have q30 : 9 < a0.size := (by have : (9 : Int) < (a0.size : Int) := of_decide_eq_true (by first | (with_reducible assumption) | assumption); omega); have hx30 : ∀ h : 9 < a0.size, ((a0[9]'h).toNat : Int) = bt a0 9 := bt_at a0 9; clear p30; have qi30 : (9 < (a0.size : Int)) = True := eq_true (of_decide_eq_true (by first | (with_reducible assumption) | assumption)); replace q30 := eq_true q30; have p31 : 0 ≤ (10 : Int) := (by omega); have q31 : 10 < a0.size := (by have : (10 : Int) < (a0.size : Int) := of_decide_eq_true (by first | (with_reducible assumption) | assumption); omega); have hx31 : ∀ h : 10 < a0.size, ((a0[10]'h).toNat : Int) = bt a0 10 := bt_at a0 10; clear p31; have qi31 : (10 < (a0.size : Int)) = True := eq_true (of_decide_eq_true (by first | (with_reducible assumption) | assumption)); replace q31 := eq_true q31) | (go_at_call 56; (with_reducible refine (headgateref03_Name.calls k2 (a0.extract 12 a0.size) t259 _ A35.out).mono ?_); rintro e w' ⟨rfl, ⟨nd, rfl⟩⟩; (try first | exact ⟨rfl, _, World.drewN_drewN _ _ _⟩ | exact ⟨rfl, _, Eq.trans (World.drewN_drewN _ _ _) (congrArg (World.drewN _) (Nat.add_assoc _ _ _))⟩))))
     go_ret
     exact ⟨by first | rfl | (simp; done) | (simp [*]; done), by repeat (first | exact Drawn0.refl _ | apply Drawn0.step)⟩
def headgateref03_Iqn.f (k : Nat) (a0 : ByteArray) : Option (Bool) := (headgateref03_dated.f k a0 (⟨#[105, 113, 110, 46]⟩ : ByteArray)).bind fun t260 => (some t260)
theorem headgateref03_Iqn.mono : ∀ a0 k, LeO (headgateref03_Iqn.f k a0) (headgateref03_Iqn.f (k + 1) a0) := by
  intro a0 k
  unfold headgateref03_Iqn.f
  repeat' first
      | (with_reducible exact headgateref03_dated.mono _ _ _)
      | (with_reducible exact LeO.refl _)
      | (with_reducible exact LeO.none _)
      | (with_reducible refine LeO.ite ?_ ?_)
      | (with_reducible refine LeO.bind ?_ (fun _ => ?_))
      | exact headgateref03_dated.mono _ _ _
      | exact LeO.none _
      | refine LeO.ite ?_ ?_
      | refine LeO.bind ?_ (fun _ => ?_)
set_option maxHeartbeats 8000000 in
set_option maxRecDepth 100000 in
theorem headgateref03_Iqn.calls (k : Nat) (a0 : ByteArray) (r : Bool) (w : World) (h : headgateref03_Iqn.f k a0 = some r) :
    Calls Tryz.prog 14 #[.string a0] w fun e w' => e = .returned (.bool r) ∧ Drawn0 w w' := by
  have H : ((headgateref03_dated.f k a0 (⟨#[105, 113, 110, 46]⟩ : ByteArray)).bind fun t260 => (some t260)) = some r := h
  clear h
  replace H := Option.bind_eq_some_iff.mp H
  obtain ⟨t260, A20, H⟩ := H
  replace H : (some t260) = some r := H
  have A2 := Aside0.mk A20
  clear A20
  obtain rfl := Option.some.inj H
  go_enter Tryz.func14, Tryz.ntmps14
  go_wp2_with (first | ((with_reducible refine gate_callee (f := 36) rfl ?_); refine goesL_ (some 4) rfl rfl Tryz.func36 (by kernel_rfl) rfl #[.string a0, .string (⟨#[105, 113, 110, 46]⟩ : ByteArray)] rfl (by (try simp only [List.map_toArray, List.map_cons, List.map_nil]); first | done | rfl | (simp only [List.length_drop, List.length_take]; rfl)) ?_; (with_reducible refine (headgateref03_dated.calls k a0 (⟨#[105, 113, 110, 46]⟩ : ByteArray) t260 _ A2.out).mono ?_); rintro e w' ⟨rfl, ⟨nd, rfl⟩⟩; refine ⟨_, rfl, ?_⟩))
  go_ret
  exact ⟨by first | rfl | (simp; done) | (simp [*]; done), by repeat (first | exact Drawn0.refl _ | apply Drawn0.step)⟩
end Go.Proofs.YthglbmihbmneaaaGreatDoor.P
namespace Go.Proofs.YthglbmihbmneaaaGreatDoor.Pure
open Go.RowKit Go.Proofs.YthglbmihbmneaaaGreatDoor.P Go.Proofs.YthglbmihbmneaaaGreatDoorW.PrintWords Go.Proofs.YthglbmihbmneaaaGreatDoorW.PrintLast Go.Proofs.YthglbmihbmneaaaGreatDoorW.PrintMore
set_option linter.unusedVariables false
set_option linter.unusedSimpArgs false
theorem ba_list (x : ByteArray) : x.toList = x.data.toList := ByteArray.toList_eq x
theorem ba_eq {a b : ByteArray} (h : a.toList = b.toList) : a = b := by
  rw [ba_list, ba_list] at h
  exact ByteArray.ext (Array.toList_inj.mp h)
def bs (l : List UInt8) : ByteArray := ⟨l.toArray⟩
theorem bs_list (l : List UInt8) : (bs l).data.toList = l := rfl
theorem bs_of {x : ByteArray} {l : List UInt8} (h : x.data.toList = l) : x = bs l := ByteArray.ext (Array.toList_inj.mp (by rw [h]; rfl))
theorem len_data (s : ByteArray) : s.data.toList.length = s.size := by simp
theorem nil_iff (s : ByteArray) : s.toList = ([] : List UInt8) ↔ s.data.toList = [] := by rw [ba_list]
theorem idx_mem {l : List UInt8} {c : UInt8} (h : Go.Lib.indexByte l c < 0) : c ∉ l := fun hm => by
  have hg := Go.Lib.indexByte_ge l c
  obtain ⟨i, hi, e⟩ := List.mem_iff_getElem.mp hm
  exact Go.Lib.indexByte_none (show Go.Lib.indexByte l c = -1 by omega) i (by rw [List.getElem?_eq_getElem hi, e])
theorem idx_split {l : List UInt8} {c : UInt8} (h : ¬ Go.Lib.indexByte l c < 0) : (Go.Lib.indexByte l c).toNat < l.length ∧ l = l.take (Go.Lib.indexByte l c).toNat ++ c :: l.drop ((Go.Lib.indexByte l c).toNat + 1) ∧ c ∉ l.take (Go.Lib.indexByte l c).toNat := by
  obtain ⟨n, hn⟩ : ∃ n : Nat, Go.Lib.indexByte l c = n := ⟨(Go.Lib.indexByte l c).toNat, by omega⟩
  obtain ⟨h1, h2⟩ := Go.Lib.indexByte_some hn
  rw [hn, Int.toNat_natCast]
  have hl : n < l.length := by
    by_cases hx : n < l.length
    · exact hx
    · rw [List.getElem?_eq_none (by omega)] at h1; cases h1
  rw [List.getElem?_eq_getElem hl] at h1
  refine ⟨hl, ?_, fun hm => ?_⟩
  · rw [← Option.some.inj h1]
    conv => lhs; rw [← List.take_append_drop n l, List.drop_eq_getElem_cons hl]
  · obtain ⟨i, hi, e⟩ := List.mem_iff_getElem.mp hm
    rw [List.getElem_take] at e
    have hi' : i < n := by rw [List.length_take] at hi; omega
    exact h2 i hi' (by rw [List.getElem?_eq_getElem (by omega), e])
theorem pair_ok {p : S117} (h : pairB p = true) : 1 ≤ p.f0.size ∧ p.f0.size ≤ 63 ∧ p.f1.size ≤ 255 ∧ (0 : UInt8) ∉ p.f0.data.toList ∧ (61 : UInt8) ∉ p.f0.data.toList ∧ (0 : UInt8) ∉ p.f1.data.toList := by
  unfold pairB keyB at h
  simp only [Bool.and_eq_true, decide_eq_true_eq, List.all_eq_true] at h
  obtain ⟨⟨⟨⟨h1, h2⟩, h3⟩, h4⟩, h5⟩ := h
  exact ⟨h1, h2, h4, fun hm => absurd (h3 _ hm) (by decide), fun hm => absurd (h3 _ hm) (by decide), idx_mem h5⟩
theorem goodL_cons (m : List S117) (p : S117) (r : List S117) : goodL m (p :: r) = (!keyIn m p.f0 && pairB p && goodL (m ++ [p]) r) := rfl
theorem goodL_pair : ∀ {l m : List S117}, goodL m l = true → ∀ p ∈ l, pairB p = true
  | [], m, _, p, hp => absurd hp (by simp)
  | q :: l, m, h, p, hp => by
    rw [goodL_cons] at h
    simp only [Bool.and_eq_true] at h
    rcases List.mem_cons.mp hp with e | hp
    · rw [e]; exact h.1.2
    · exact goodL_pair h.2 p hp
theorem goodB_iff (l : List S117) : goodB l = true ↔ l.length ≤ 16 ∧ goodL [] l = true := by
  unfold goodB
  rw [Bool.and_eq_true, decide_eq_true_eq]
theorem good_small {l : List S117} (h : goodB l = true) : ∀ p ∈ l, p.f0.size ≤ 63 ∧ p.f1.size ≤ 255 := fun p hp => by
  have := pair_ok (goodL_pair ((goodB_iff l).mp h).2 p hp)
  exact ⟨this.2.1, this.2.2.1⟩
theorem smallB_of {l : List S117} (h : ∀ p ∈ l, p.f0.size ≤ 1000000 ∧ p.f1.size ≤ 1000000) : smallB l = true := by
  unfold smallB
  rw [List.all_eq_true]
  intro p hp
  simpa using h p hp
theorem smallB_iff {l : List S117} (h : smallB l = true) : ∀ p ∈ l, p.f0.size ≤ 1000000 ∧ p.f1.size ≤ 1000000 := fun p hp => by
  unfold smallB at h
  rw [List.all_eq_true] at h
  simpa using h p hp
def pz : Nat → List UInt8 → List S117 → List S117 × Int
  | 0, _, _ => ([], 210)
  | n + 1, s, acc => if s = [] then (if goodB acc = true then (acc, 0) else ([], 210))
    else if Go.Lib.indexByte s 0 < 0 ∨ acc.length = 16 then ([], 210)
    else if Go.Lib.indexByte (s.take (Go.Lib.indexByte s 0).toNat) 61 < 0 then ([], 210)
    else pz n (s.drop ((Go.Lib.indexByte s 0).toNat + 1)) (acc ++ [⟨bs ((s.take (Go.Lib.indexByte s 0).toNat).take (Go.Lib.indexByte (s.take (Go.Lib.indexByte s 0).toNat) 61).toNat), bs ((s.take (Go.Lib.indexByte s 0).toNat).drop ((Go.Lib.indexByte (s.take (Go.Lib.indexByte s 0).toNat) 61).toNat + 1))⟩])
theorem pz_full : ∀ (n : Nat) (s : List UInt8) (acc : List S117), 17 ≤ acc.length → pz n s acc = ([], 210)
  | 0, _, _, _ => rfl
  | n + 1, s, acc, h => by
    rw [pz]
    split
    · rw [if_neg]
      intro hg
      have := ((goodB_iff acc).mp hg).1
      omega
    · split
      · rfl
      · split
        · rfl
        · exact pz_full n _ _ (by simp; omega)
theorem cut_spec (s : ByteArray) (c : UInt8) (hs : s.size ≤ 1000000) : strings_Cut.f s (⟨#[c]⟩ : ByteArray) = some (cut1 s c) := by
  show (if s.size ≤ 1000000 then some (cut1 s c) else none) = _
  rw [if_pos hs]
theorem cut_no {s : ByteArray} {c : UInt8} (h : Go.Lib.indexByte s.data.toList c < 0) : cut1 s c = (s, (⟨#[]⟩ : ByteArray), false) := if_pos h
theorem cut_yes {s : ByteArray} {c : UInt8} (h : ¬ Go.Lib.indexByte s.data.toList c < 0) : cut1 s c = (bs (s.data.toList.take (Go.Lib.indexByte s.data.toList c).toNat), bs (s.data.toList.drop ((Go.Lib.indexByte s.data.toList c).toNat + 1)), true) := by
  unfold cut1
  rw [if_neg h, bs_of (Go.Lib.extract_from_zero s _), bs_of (Go.Lib.extract_to_end s _)]
theorem prog_l0 : ∀ (d K : Nat) (s : ByteArray) (acc : List S117), acc.length + d = 17 → s.size ≤ 900000 → 2 * d + 6 ≤ K → smallB acc = true → keys_Parse.l0 K s acc = some (pz (d + 1) s.data.toList acc)
  | d, 0, s, acc, _, _, hK, _ => by omega
  | d, 1, s, acc, _, _, hK, _ => by omega
  | d, K + 2, s, acc, hd, hs, hK, ha => by
    rw [keys_Parse.l0, pz]
    by_cases h0 : s.data.toList = []
    · rw [if_pos ((nil_iff s).mpr h0), if_pos h0, keys_Parse.j1, if_neg (by decide), if_pos ((nil_iff s).mpr h0)]
      unfold keys_good.f
      rw [if_pos ha, Option.bind_some]
      cases goodB acc <;> rfl
    rw [if_neg (fun h => h0 ((nil_iff s).mp h)), if_neg h0, keys_Parse.j1]
    cases d with
    | zero =>
      rw [decide_eq_false (by omega), if_neg (by decide), if_neg (fun h => h0 ((nil_iff s).mp h))]
      split
      · rfl
      · split
        · rfl
        · rfl
    | succ d =>
      rw [decide_eq_true (by omega), if_pos rfl, cut_spec s 0 (by omega), Option.bind_some]
      by_cases h1 : Go.Lib.indexByte s.data.toList 0 < 0
      · rw [cut_no h1, if_pos (Or.inl h1)]
        dsimp only
        rw [cut_spec s 61 (by omega), Option.bind_some, if_neg (by decide)]
      obtain ⟨q1, q2, q3⟩ := idx_split h1
      rw [cut_yes h1]
      dsimp only
      have hsz : (bs (s.data.toList.take (Go.Lib.indexByte s.data.toList 0).toNat)).size ≤ s.size := by
        rw [← len_data, bs_list, List.length_take, ← len_data]
        omega
      rw [cut_spec _ 61 (by omega), Option.bind_some, if_pos rfl]
      by_cases h2 : Go.Lib.indexByte (s.data.toList.take (Go.Lib.indexByte s.data.toList 0).toNat) 61 < 0
      · rw [cut_no h2]
        dsimp only
        rw [if_neg (by decide)]
        split <;> rfl
      rw [cut_yes h2, if_pos rfl, if_pos (by omega), bs_list]
      have ih := prog_l0 d K (bs (s.data.toList.drop ((Go.Lib.indexByte s.data.toList 0).toNat + 1))) (acc ++ [⟨bs ((s.data.toList.take (Go.Lib.indexByte s.data.toList 0).toNat).take (Go.Lib.indexByte (s.data.toList.take (Go.Lib.indexByte s.data.toList 0).toNat) 61).toNat), bs ((s.data.toList.take (Go.Lib.indexByte s.data.toList 0).toNat).drop ((Go.Lib.indexByte (s.data.toList.take (Go.Lib.indexByte s.data.toList 0).toNat) 61).toNat + 1))⟩])
        (by simp; omega) (by rw [← len_data, bs_list, List.length_drop, len_data]; omega) (by omega) (smallB_of fun p hp => by
          rcases List.mem_append.mp hp with hp | hp
          · exact smallB_iff ha p hp
          · rw [List.mem_singleton.mp hp]
            have l1 := List.length_take_le (Go.Lib.indexByte (s.data.toList.take (Go.Lib.indexByte s.data.toList 0).toNat) 61).toNat (s.data.toList.take (Go.Lib.indexByte s.data.toList 0).toNat)
            have l2 := List.length_drop (i := (Go.Lib.indexByte (s.data.toList.take (Go.Lib.indexByte s.data.toList 0).toNat) 61).toNat + 1) (l := s.data.toList.take (Go.Lib.indexByte s.data.toList 0).toNat)
            have l3 : (s.data.toList.take (Go.Lib.indexByte s.data.toList 0).toNat).length ≤ s.size := by rw [List.length_take, len_data]; omega
            constructor
            · show (bs _).size ≤ _
              rw [← len_data, bs_list, List.length_take]; omega
            · show (bs _).size ≤ _
              rw [← len_data, bs_list]; omega)
      rw [ih, bs_list]
      by_cases h16 : acc.length = 16
      · rw [if_pos (Or.inr h16), pz_full]
        simp; omega
      · rw [if_neg (fun h => h.elim h1 h16), if_neg h2]
theorem prog_parse (K : Nat) (s : ByteArray) (hs : s.size ≤ 900000) (hK : 40 ≤ K) : keys_Parse.f K s = some (pz 18 s.data.toList []) := prog_l0 17 K s [] rfl hs (by omega) rfl
theorem pz_back : ∀ (n : Nat) (s : List UInt8) (acc l : List S117) (c : Int), pz n s acc = (l, c) → (c = 210 ∧ l = []) ∨ (c = 0 ∧ goodB l = true ∧ textL l = textL acc ++ s)
  | 0, s, acc, l, c, h => by cases h; exact Or.inl ⟨rfl, rfl⟩
  | n + 1, s, acc, l, c, h => by
    rw [pz] at h
    split at h
    · next h0 =>
      split at h
      · next hg => cases h; exact Or.inr ⟨rfl, hg, by rw [h0, List.append_nil]⟩
      · cases h; exact Or.inl ⟨rfl, rfl⟩
    · split at h
      · cases h; exact Or.inl ⟨rfl, rfl⟩
      · next h1 =>
        split at h
        · cases h; exact Or.inl ⟨rfl, rfl⟩
        · next h2 =>
          rcases pz_back n _ _ l c h with h | ⟨hc, hg, ht⟩
          · exact Or.inl h
          · refine Or.inr ⟨hc, hg, ?_⟩
            obtain ⟨q1, q2, q3⟩ := idx_split (fun x => h1 (Or.inl x))
            obtain ⟨r1, r2, r3⟩ := idx_split h2
            rw [ht, textL_snoc, bs_list, bs_list]
            rw [List.append_assoc, List.append_assoc]
            congr 1
            conv => rhs; rw [q2, r2]
            simp
theorem iqn_some (v : ByteArray) : ∃ b, names_Iqn.f v = some b := by
  unfold names_Iqn.f names_dated.f
  rw [if_pos (by decide)]
  split
  · split
    · obtain ⟨z, hz⟩ : ∃ z, strings_HasPrefix.f v ((⟨#[105, 113, 110]⟩ : ByteArray) ++ (⟨#[46]⟩ : ByteArray)) = some z := by
        unfold strings_HasPrefix.f stringslite_HasPrefix.f
        split
        · rw [if_pos (by omega)]; exact ⟨_, rfl⟩
        · exact ⟨_, rfl⟩
      rw [hz, Option.bind_some]
      split <;> exact ⟨_, rfl⟩
    · exact ⟨_, rfl⟩
  · exact ⟨_, rfl⟩
theorem chosen_in {L : List ByteArray} {v x : ByteArray} (h : chosen L v = some x) : ∃ y ∈ L, x.toList = y.toList := by
  have := List.find?_some h
  unfold isOne at this
  obtain ⟨y, hy, e⟩ := List.any_eq_true.mp this
  exact ⟨y, hy, by simpa using e⟩
theorem findR_in {s : ByteArray} {r : Rdr} (h : findR s = some r) : r ∈ specs ∧ s.toList = r.key := by
  unfold findR at h
  exact ⟨List.mem_of_find?_eq_some h, by rw [ba_list]; exact (by simpa using List.find?_some h : r.key = s.data.toList).symm⟩
theorem Answer_good (a : S24) (l : List S117) (hs : smallB l = true) (hg : goodB l = true) {V : Option (S24 × List S117)} (h : ansL a [] l = some V) :
    keys_Answer.f a.f0 a.f1 a.f2 a.f3 a.f4 a.f5 a.f6 a.f7 l = some ((ansV V).1.f0, (ansV V).1.f1, (ansV V).1.f2, (ansV V).1.f3, (ansV V).1.f4, (ansV V).1.f5, (ansV V).1.f6, (ansV V).1.f7, (ansV V).2.1, (ansV V).2.2) := by
  unfold keys_Answer.f
  rw [if_pos hs, if_pos hg, show (⟨a.f0, a.f1, a.f2, a.f3, a.f4, a.f5, a.f6, a.f7⟩ : S24) = a from rfl, h]
  rfl
theorem num_least {v : ByteArray} {n : Int} (h : (numB v n).2 = true) : n ≤ (numB v n).1 := by
  unfold numB at h ⊢
  split
  · next hc => rw [if_pos hc] at h; cases h
  · next hc =>
    rw [if_neg hc, Bool.and_eq_true, decide_eq_true_eq, decide_eq_true_eq] at h
    exact h.2
theorem digits_len' : ∀ (k n : Nat), n ≤ k → (Go.Lib.decDigits n).length ≤ n + 1
  | 0, n, h => by
    obtain rfl : n = 0 := by omega
    unfold Go.Lib.decDigits
    simp
  | k + 1, n, h => by
    unfold Go.Lib.decDigits
    split
    · simp
    · rw [List.length_append]
      have := digits_len' k (n / 10) (by omega)
      simp only [List.length_cons, List.length_nil]
      omega
theorem itoa_size {n : Int} (h0 : 0 ≤ n) (h1 : n ≤ 100000) : (⟨(Go.Lib.itoa n).toArray⟩ : ByteArray).size ≤ 1000000 := by
  show (Go.Lib.itoa n).toArray.size ≤ 1000000
  rw [List.size_toArray]
  unfold Go.Lib.itoa
  rw [if_neg (by omega)]
  have := digits_len' n.toNat n.toNat (Nat.le_refl _)
  omega
def StepP (r : Rdr) (a : S24) (v : ByteArray) : Prop := ∃ b x o, r.F a v = some (b, x, o) ∧ (o = true → x.size ≤ 1000000) ∧ (o = true → names_Iqn.f b.f6 = some true ∨ b.f6 = a.f6)
theorem size_eq {a b : ByteArray} (h : a.toList = b.toList) : a.size = b.size := by rw [ba_eq h]
theorem digestP {v : ByteArray} (hv : v.size ≤ 1000000) (L : List ByteArray) (hL : ∀ y ∈ L, y.size ≤ 1000000) (k : List UInt8) (g : S24 → ByteArray → S24) (a : S24) (hg : ∀ x, (g a x).f6 = a.f6) :
    StepP ⟨k, fun a v => if v.size ≤ 1000000 then (match chosen L v with | some x => some (g a x, x, true) | none => some (a, (⟨#[]⟩ : ByteArray), false)) else none⟩ a v := by
  unfold StepP
  dsimp only
  rw [if_pos hv]
  cases hc : chosen L v with
  | none => exact ⟨_, _, _, rfl, fun h => absurd h (by decide), fun h => absurd h (by decide)⟩
  | some x =>
    obtain ⟨y, hy, e⟩ := chosen_in hc
    exact ⟨_, _, _, rfl, fun _ => by rw [size_eq e]; exact hL y hy, fun _ => Or.inr (hg x)⟩
theorem stepP {r : Rdr} (hr : r ∈ specs) (a : S24) (v : ByteArray) (hv : v.size ≤ 1000000) : StepP r a v := by
  unfold specs at hr
  simp only [List.mem_cons, List.not_mem_nil, or_false] at hr
  obtain ⟨q, hq⟩ := iqn_some v
  rcases hr with rfl | rfl | rfl | rfl | rfl | rfl | rfl | rfl | rfl | rfl | rfl | rfl | rfl | rfl | rfl | rfl | rfl | rfl | rfl
  · exact ⟨{ a with f6 := v }, _, q, by dsimp only; rw [hq]; rfl, fun _ => Nat.zero_le _, fun h => Or.inl (by rw [h] at hq; exact hq)⟩
  · exact ⟨{ a with f7 := v }, _, q, by dsimp only; rw [hq]; rfl, fun _ => Nat.zero_le _, fun _ => Or.inr rfl⟩
  · exact ⟨_, _, _, rfl, fun _ => Nat.zero_le _, fun _ => Or.inr rfl⟩
  · exact ⟨_, _, _, rfl, fun _ => Nat.zero_le _, fun _ => Or.inr rfl⟩
  · exact digestP hv _ (by intro y hy; simp only [List.mem_cons, List.not_mem_nil, or_false] at hy; rcases hy with rfl | rfl <;> decide) _ (fun a x => { a with f0 := x.toList == ([67, 82, 67, 51, 50, 67] : List UInt8) }) a (fun _ => rfl)
  · exact digestP hv _ (by intro y hy; simp only [List.mem_cons, List.not_mem_nil, or_false] at hy; rcases hy with rfl | rfl <;> decide) _ (fun a x => { a with f1 := x.toList == ([67, 82, 67, 51, 50, 67] : List UInt8) }) a (fun _ => rfl)
  · exact ⟨_, _, _, rfl, fun _ => itoa_size (by decide) (by decide), fun _ => Or.inr rfl⟩
  · exact ⟨_, _, _, rfl, fun _ => hv, fun _ => Or.inr rfl⟩
  · exact ⟨_, _, _, rfl, fun h => (by have := num_least h; exact itoa_size (by omega) (by omega)), fun _ => Or.inr rfl⟩
  · exact ⟨_, _, _, rfl, fun h => (by have := num_least h; exact itoa_size (by omega) (by omega)), fun _ => Or.inr rfl⟩
  · exact digestP hv _ (by intro y hy; simp only [List.mem_cons, List.not_mem_nil, or_false] at hy; rcases hy with rfl; decide) _ (fun a x => a) a (fun _ => rfl)
  all_goals exact ⟨_, _, _, rfl, fun _ => (by decide), fun _ => Or.inr rfl⟩
theorem ansP : ∀ (l : List S117) (a : S24) (out : List S117), smallB l = true → smallB out = true → ∃ V, ansL a out l = some V ∧ ∀ x, V = some x → smallB x.2 = true ∧ (names_Iqn.f x.1.f6 = some true ∨ x.1.f6 = a.f6)
  | [], a, out, _, ho => ⟨some (a, out), rfl, fun x hx => by cases hx; exact ⟨ho, Or.inr rfl⟩⟩
  | p :: l, a, out, hs, ho => by
    have hp := smallB_iff hs p (List.mem_cons_self ..)
    have hs' : smallB l = true := smallB_of fun q hq => smallB_iff hs q (List.mem_cons_of_mem _ hq)
    have push : ∀ v : ByteArray, v.size ≤ 1000000 → smallB (out ++ [⟨p.f0, v⟩]) = true := fun v hv => smallB_of fun q hq => by
      rcases List.mem_append.mp hq with h | h
      · exact smallB_iff ho q h
      · rw [List.mem_singleton.mp h]; exact ⟨hp.1, hv⟩
    unfold ansL
    cases hf : findR p.f0 with
    | none => exact ansP l a _ hs' (push _ (by decide))
    | some r =>
      dsimp only
      obtain ⟨hr, _⟩ := findR_in hf
      obtain ⟨b, x, o, hF, hsz, hn⟩ := stepP hr a p.f1 hp.2
      rw [hF, Option.bind_some]
      dsimp only
      cases o
      · exact ⟨none, by rw [if_neg (by decide)], fun x hx => by cases hx⟩
      rw [if_pos rfl]
      have fin : ∀ out', smallB out' = true → ∃ V, ansL b out' l = some V ∧ ∀ x, V = some x → smallB x.2 = true ∧ (names_Iqn.f x.1.f6 = some true ∨ x.1.f6 = a.f6) := by
        intro out' h'
        obtain ⟨V, h1, h2⟩ := ansP l b out' hs' h'
        refine ⟨V, h1, fun x hx => ⟨(h2 x hx).1, ?_⟩⟩
        rcases (h2 x hx).2 with h | h
        · exact Or.inl h
        · rw [h]
          rcases hn rfl with h3 | h3
          · exact Or.inl h3
          · exact Or.inr h3
      split
      · exact fin _ ho
      · exact fin _ (push _ (hsz rfl))
theorem text_any {l : List S117} (h : smallB l = true) : ∃ s e, keys_Text.f l = some (s, e) := by
  unfold keys_Text.f
  rw [if_pos h]
  split <;> exact ⟨_, _, rfl⟩
theorem parse_any (k : Nat) (s : ByteArray) (hs : s.size ≤ 900000) (hk : 40 ≤ k) : ∃ l e, keys_Parse.f k s = some (l, e) ∧ (e = 0 → goodB l = true) := by
  obtain ⟨L, c, hp⟩ : ∃ L c, pz 18 s.data.toList [] = (L, c) := ⟨_, _, rfl⟩
  refine ⟨L, c, by rw [prog_parse k s hs hk, hp], fun h => ?_⟩
  rcases pz_back 18 s.data.toList [] L c hp with ⟨hc, _⟩ | ⟨_, hg, _⟩
  · rw [hc] at h; cases h
  · exact hg
theorem good_is_small {l : List S117} (h : goodB l = true) : smallB l = true := smallB_of fun p hp => by have := good_small h p hp; omega
theorem answer_any (a : S24) {l : List S117} (hg : goodB l = true) : ∃ (b : S24) (o : List S117) (e : Int), keys_Answer.f a.f0 a.f1 a.f2 a.f3 a.f4 a.f5 a.f6 a.f7 l = some (b.f0, b.f1, b.f2, b.f3, b.f4, b.f5, b.f6, b.f7, o, e) ∧ (e = 0 → smallB o = true ∧ (names_Iqn.f b.f6 = some true ∨ b.f6 = a.f6)) := by
  obtain ⟨V, hV, h⟩ := ansP l a [] (good_is_small hg) rfl
  refine ⟨(ansV V).1, (ansV V).2.1, (ansV V).2.2, Answer_good a l (good_is_small hg) hg hV, fun he => ?_⟩
  cases V with
  | none => exact absurd he (by decide)
  | some x => exact h x rfl
end Go.Proofs.YthglbmihbmneaaaGreatDoor.Pure
namespace Go.Proofs.YthglbmihbmneaaaGreatDoor.Num
open Go.RowKit Go.Proofs.YthglbmihbmneaaaGreatDoorW.PrintWords Go.Proofs.YthglbmihbmneaaaGreatDoorW.PrintMore
theorem wrap_u64 (n : Int) : IntKind.u64.wrap n = n % 18446744073709551616 := by simp [IntKind.wrap, IntKind.bits, IntKind.signed]
theorem u64_id {n : Int} (h0 : 0 ≤ n) (h1 : n < 18446744073709551616) : IntKind.u64.wrap n = n := by rw [wrap_u64]; omega
theorem w64 {n : Int} (h0 : -9223372036854775808 ≤ n) (h1 : n < 9223372036854775808) : wrap64 n = n := by unfold wrap64; omega
def p (j : Nat) : Int := 256 ^ j
theorem p_zero : p 0 = 1 := rfl
theorem p_succ (j : Nat) : p (j + 1) = p j * 256 := Int.pow_succ 256 j
theorem p_pos (j : Nat) : 0 < p j := Int.pow_pos (by decide)
theorem p_add (i j : Nat) : p (i + j) = p i * p j := Int.pow_add 256 i j
theorem p_le {i j : Nat} (h : i ≤ j) : p i ≤ p j := by
  obtain ⟨d, rfl⟩ := Nat.exists_eq_add_of_le h
  rw [p_add]
  have h1 := p_pos i
  have h2 := p_pos d
  calc p i = p i * 1 := (Int.mul_one _).symm
    _ ≤ p i * p d := Int.mul_le_mul_of_nonneg_left (by omega) (by omega)
theorem p8 : p 8 = 18446744073709551616 := by decide
theorem p_two (j : Nat) : (2 : Int) ^ (8 * j) = p j := by
  unfold p
  rw [Int.pow_mul]
  rfl
theorem p_le8 {j : Nat} (h : j ≤ 8) : p j ≤ 18446744073709551616 := by rw [← p8]; exact p_le h
theorem bt_bounds (s : ByteArray) (i : Int) : 0 ≤ bt s i ∧ bt s i < 256 := by
  unfold bt
  split
  · rename_i h
    have := (s[i.toNat]'h).toNat_lt
    omega
  · omega
def le (s : ByteArray) (a : Int) : Nat → Int
  | 0 => 0
  | j + 1 => le s a j + bt s (a + j) * p j
def be (s : ByteArray) (a : Int) : Nat → Int
  | 0 => 0
  | j + 1 => be s a j * 256 + bt s (a + j)
theorem le_bounds (s : ByteArray) (a : Int) : ∀ j, 0 ≤ le s a j ∧ le s a j < p j
  | 0 => by simp [le, p_zero]
  | j + 1 => by
    have h := le_bounds s a j
    have hb := bt_bounds s (a + j)
    have hp := p_pos j
    rw [p_succ]
    unfold le
    have h1 : bt s (a + j) * p j ≤ 255 * p j := Int.mul_le_mul_of_nonneg_right (by omega) (by omega)
    have h2 : 0 ≤ bt s (a + j) * p j := Int.mul_nonneg hb.1 (by omega)
    omega
theorem be_bounds (s : ByteArray) (a : Int) : ∀ j, 0 ≤ be s a j ∧ be s a j < p j
  | 0 => by simp [be, p_zero]
  | j + 1 => by
    have h := be_bounds s a j
    have hb := bt_bounds s (a + j)
    rw [p_succ]
    unfold be
    omega
theorem bor_comm (k : IntKind) (x y : Int) : Go.bits .or k x y = Go.bits .or k y x := by
  unfold bits
  simp only [BitVec.or_comm]
theorem or_add {x y : Int} (i : Nat) (hx0 : 0 ≤ x) (hx : x % p i = 0) (hx1 : x < 18446744073709551616) (hy0 : 0 ≤ y) (hy : y < p i) (hi : i ≤ 8) : Go.bits .or .u64 x y = x + y := by
  have e := p_two i
  have hl := p_le8 hi
  exact bits_join .u64 64 (by decide) (fun n h0 h1 => u64_id h0 (by simpa using h1)) (8 * i) x y hx0 (by rw [e]; exact hx) (by simpa using hx1) hy0 (by rw [e]; exact hy) (by
    have : (2 : Int) ^ 64 = 18446744073709551616 := by decide
    omega)
theorem shl8 {x : Int} (j : Nat) (h0 : 0 ≤ x) (h1 : x * p j < 18446744073709551616) (hj : j ≤ 8) : shl .u64 x (8 * (j : Int)) = x * p j := by
  unfold shl
  have e : min (8 * (j : Int)).toNat (IntKind.u64).bits = 8 * j := by
    have : (IntKind.u64).bits = 64 := rfl
    omega
  rw [e, p_two, u64_id (Int.mul_nonneg h0 (by have := p_pos j; omega)) h1]
theorem shr8 (x : Int) (j : Nat) (hj : j ≤ 8) : shr .u64 x (8 * (j : Int)) = x / p j := by
  unfold shr
  have e : min (8 * (j : Int)).toNat (IntKind.u64).bits = 8 * j := by
    have : (IntKind.u64).bits = 64 := rfl
    omega
  rw [e, p_two]
def leL (v : Int) (n : Nat) : List Int := (List.range n).map fun i => v / p i % 256
def beL (v : Int) (n : Nat) : List Int := (List.range n).map fun i => v / p (n - 1 - i) % 256
theorem leL_length (v : Int) (n : Nat) : (leL v n).length = n := by simp [leL]
theorem beL_length (v : Int) (n : Nat) : (beL v n).length = n := by simp [beL]
theorem strOfNums_get (l : List Int) (i : Nat) (hi : i < l.length) (hb : 0 ≤ l[i] ∧ l[i] < 256) : bt (strOfNums l) (i : Int) = l[i] := by
  have hs : i < (strOfNums l).size := by rw [strOfNums_size]; exact hi
  unfold bt
  rw [dif_pos (show ((i : Int)).toNat < (strOfNums l).size by simpa using hs)]
  have e : (strOfNums l)[((i : Int)).toNat]'(by simpa using hs) = UInt8.ofNat (l[i]).toNat := by
    show (strOfNums l).data[((i : Int)).toNat]'(by simpa using hs) = _
    simp [strOfNums]
  rw [e, UInt8.toNat_ofNat']
  omega
theorem bt_append_left (a b : ByteArray) (i : Int) (h0 : 0 ≤ i) (h1 : i < a.size) : bt (a ++ b) i = bt a i := by
  have h : i.toNat < a.size := by omega
  have h2 : i.toNat < (a ++ b).size := by rw [ByteArray.size_append]; omega
  unfold bt
  rw [dif_pos h2, dif_pos h]
  congr 2
  exact ByteArray.getElem_append_left h
theorem bt_append_right (a b : ByteArray) (i : Int) (h0 : (a.size : Int) ≤ i) (h1 : i < a.size + b.size) : bt (a ++ b) i = bt b (i - a.size) := by
  have h : (i - a.size).toNat < b.size := by omega
  have h2 : i.toNat < (a ++ b).size := by rw [ByteArray.size_append]; omega
  unfold bt
  rw [dif_pos h2, dif_pos h]
  congr 2
  have e : i.toNat - a.size = (i - a.size).toNat := by omega
  rw [ByteArray.getElem_append_right (by omega)]
  simp only [e]
end Go.Proofs.YthglbmihbmneaaaGreatDoor.Num
namespace Go.Proofs.YthglbmihbmneaaaGreatDoor.Pure
open Go.RowKit Go.Proofs.YthglbmihbmneaaaGreatDoor.P Go.Proofs.YthglbmihbmneaaaGreatDoorW.PrintWords Go.Proofs.YthglbmihbmneaaaGreatDoorW.PrintLast Go.Proofs.YthglbmihbmneaaaGreatDoorW.PrintMore Go.Proofs.YthglbmihbmneaaaGreatDoor.Num
set_option linter.unusedVariables false
set_option linter.unusedSimpArgs false
def shs (n : Nat) (b : Bool) : List Int := (List.range n).map fun i => if b = true then 8 * ((n - 1 - i : Nat) : Int) else 8 * (i : Int)
theorem shs_length (n : Nat) (b : Bool) : (shs n b).length = n := by simp [shs]
theorem shifts_l0 (n : Nat) (b : Bool) (hn : n ≤ 8) : ∀ (d k i : Nat), i + d = n → d < k →
    fields_shifts.l0 k n b ((shs n b).take i) n i = some (shs n b) := by
  intro d
  induction d with
  | zero =>
    intro k i hi hk
    obtain ⟨k, rfl⟩ : ∃ q, k = q + 1 := ⟨k - 1, by omega⟩
    rw [fields_shifts.l0, if_neg (by omega), List.take_of_length_le (by rw [shs_length]; omega)]
  | succ d ih =>
    intro k i hi hk
    obtain ⟨k, rfl⟩ : ∃ q, k = q + 1 := ⟨k - 1, by omega⟩
    have hl : ((shs n b).take i).length < 17592186044416 := by rw [List.length_take, shs_length]; omega
    have ht : (shs n b).take (i + 1) = (shs n b).take i ++ [if b = true then 8 * ((n - 1 - i : Nat) : Int) else 8 * (i : Int)] := by
      rw [List.take_succ_eq_append_getElem (by rw [shs_length]; omega)]
      simp [shs]
    have hw : wrap64 ((i : Int) + 1) = ((i + 1 : Nat) : Int) := by rw [w64 (by omega) (by omega)]; omega
    have := ih k (i + 1) (by omega) (by omega)
    rw [ht] at this
    rw [fields_shifts.l0, if_pos (by omega)]
    cases b with
    | true =>
      have e : wrap64 (8 * wrap64 (wrap64 ((n : Int) - 1) - i)) = 8 * ((n - 1 - i : Nat) : Int) := by
        rw [w64 (n := (n : Int) - 1) (by omega) (by omega), w64 (n := (n : Int) - 1 - i) (by omega) (by omega), w64 (by omega) (by omega)]
        omega
      rw [if_pos rfl, if_pos hl, hw, e]
      exact this
    | false =>
      have e : wrap64 (8 * (i : Int)) = 8 * (i : Int) := w64 (by omega) (by omega)
      rw [if_neg (by decide), if_pos hl, hw, e]
      exact this
theorem shifts_spec (n : Nat) (b : Bool) (hn : n ≤ 8) (k : Nat) (hk : n < k) : fields_shifts.f k n b = some (shs n b) := by
  unfold fields_shifts.f
  have := shifts_l0 n b hn n k 0 (by omega) hk
  exact this
theorem rd_shs (n : Nat) (b : Bool) (i : Nat) (hi : i < n) : rd (shs n b) (i : Int) = 8 * ((if b = true then n - 1 - i else i : Nat) : Int) := by
  unfold rd
  rw [List.getD_eq_getElem?_getD, List.getElem?_eq_getElem (by rw [shs_length]; omega)]
  simp [shs]
  cases b <;> simp
def val (b : Bool) (s : ByteArray) (a : Int) (n : Nat) : Int := if b = true then be s a n else le s a n
def part (b : Bool) (s : ByteArray) (a : Int) (n i : Nat) : Int := if b = true then be s a i * p (n - i) else le s a i
theorem get_l0 (s : ByteArray) (a : Int) (n : Nat) (b : Bool) (hn : n ≤ 8) (ha : 0 ≤ a) (hs : a + n ≤ s.size) (hm : (s.size : Int) ≤ 9223372036854775807) : ∀ (d k i : Nat), i + d = n → d < k →
    fields_get_uint64.l0 k s a (part b s a n i) (shs n b) n i = some (val b s a n, true) := by
  intro d
  induction d with
  | zero =>
    intro k i hi hk
    obtain ⟨k, rfl⟩ : ∃ q, k = q + 1 := ⟨k - 1, by omega⟩
    obtain rfl : i = n := by omega
    rw [fields_get_uint64.l0, if_neg (by omega)]
    unfold part val
    cases b
    · rfl
    · simp [p_zero]
  | succ d ih =>
    intro k i hi hk
    obtain ⟨k, rfl⟩ : ∃ q, k = q + 1 := ⟨k - 1, by omega⟩
    have hw : wrap64 ((i : Int) + 1) = ((i + 1 : Nat) : Int) := by rw [w64 (by omega) (by omega)]; omega
    have hw2 : wrap64 (a + i) = a + i := w64 (by omega) (by omega)
    have hb := bt_bounds s (a + i)
    have hbe := be_bounds s a i
    have hle := le_bounds s a i
    have hu : IntKind.u64.wrap (bt s (a + i)) = bt s (a + i) := u64_id (by omega) (by omega)
    have key : Go.bits .or .u64 (part b s a n i) (shl .u64 (bt s (a + i)) (rd (shs n b) i)) = part b s a n (i + 1) := by
      rw [rd_shs n b i (by omega)]
      unfold part
      cases b with
      | true =>
        simp only [if_true]
        have hq : n - i = (n - 1 - i) + 1 := by omega
        have hq2 : n - (i + 1) = n - 1 - i := by omega
        have hp := p_pos (n - 1 - i)
        have hlt : bt s (a + i) * p (n - 1 - i) < p (n - i) := by
          rw [hq, p_succ]
          have : bt s (a + i) * p (n - 1 - i) ≤ 255 * p (n - 1 - i) := Int.mul_le_mul_of_nonneg_right (by omega) (by omega)
          omega
        have h8 := p_le8 (j := n - i) (by omega)
        rw [shl8 _ (by omega) (by omega) (by omega)]
        have hx : be s a i * p (n - i) < 18446744073709551616 := by
          have h1 : be s a i * p (n - i) < p i * p (n - i) := Int.mul_lt_mul_of_pos_right hbe.2 (p_pos _)
          rw [← p_add] at h1
          have := p_le8 (j := i + (n - i)) (by omega)
          omega
        rw [or_add (n - i) (Int.mul_nonneg hbe.1 (by have := p_pos (n - i); omega)) (Int.mul_emod_left _ _) hx (Int.mul_nonneg hb.1 (by omega)) hlt (by omega)]
        rw [hq2]
        show _ = (be s a i * 256 + bt s (a + i)) * p (n - 1 - i)
        rw [hq, p_succ, Int.add_mul, Int.mul_assoc, Int.mul_comm (p (n - 1 - i)) 256]
      | false =>
        simp only [Bool.false_eq_true, if_false]
        have hp := p_pos i
        have h8 := p_le8 (j := i + 1) (by omega)
        rw [p_succ] at h8
        have hlt : bt s (a + i) * p i < 18446744073709551616 := by
          have : bt s (a + i) * p i ≤ 255 * p i := Int.mul_le_mul_of_nonneg_right (by omega) (by omega)
          omega
        rw [shl8 _ (by omega) hlt (by omega), bor_comm, or_add i (Int.mul_nonneg hb.1 (by omega)) (Int.mul_emod_left _ _) hlt hle.1 hle.2 (by omega)]
        show _ = le s a i + bt s (a + i) * p i
        omega
    have := ih k (i + 1) (by omega) (by omega)
    rw [fields_get_uint64.l0, if_pos (by omega), if_pos (by omega), if_pos (by rw [shs_length]; omega), hw2, if_pos (by omega), if_pos (by omega), if_pos (by rw [rd_shs n b i (by omega)]; omega), hu, key, hw]
    exact this
def there (s : ByteArray) (a n : Int) : Bool := decide (1 ≤ n ∧ n ≤ 8 ∧ 0 ≤ a ∧ a ≤ s.size - n)
theorem get_spec (s : ByteArray) (a n : Int) (b : Bool) (hm : (s.size : Int) ≤ 9223372036854775807) (k : Nat) (hk : 10 < k) :
    fields_get_uint64.f k s a n b = some (if there s a n = true then (val b s a n.toNat, true) else (0, false)) := by
  obtain ⟨k, rfl⟩ : ∃ q, k = q + 1 := ⟨k - 1, by omega⟩
  have hno : fields_get_uint64.j0 (k + 1) s a n b true = some (0, false) := by rw [fields_get_uint64.j0, if_pos rfl]
  unfold fields_get_uint64.f there
  by_cases h1 : n < 1
  · rw [if_pos h1, hno, if_neg (by simp; omega)]
  · rw [if_neg h1]
    by_cases h2 : n > 8
    · rw [if_pos h2, hno, if_neg (by simp; omega)]
    · rw [if_neg h2]
      by_cases h3 : a < 0
      · rw [if_pos h3, hno, if_neg (by simp; omega)]
      · rw [if_neg h3, w64 (n := (s.size : Int) - n) (by omega) (by omega)]
        by_cases h4 : a > (s.size : Int) - n
        · rw [decide_eq_true h4, hno, if_neg (by simp; omega)]
        · rw [decide_eq_false h4, if_pos (by simp; omega), fields_get_uint64.j0, if_neg (by decide)]
          obtain ⟨m, rfl⟩ : ∃ m : Nat, n = m := ⟨n.toNat, by omega⟩
          rw [shifts_spec m b (by omega) k (by omega)]
          simp only [Option.bind_some, shs_length, Int.toNat_natCast]
          have := get_l0 s a m b (by omega) (by omega) (by omega) hm m k 0 (by omega) (by omega)
          have e : part b s a m 0 = 0 := by unfold part; cases b <;> simp [be, le]
          rw [e] at this
          exact this
theorem Big_spec (s : ByteArray) (a n : Int) (hm : (s.size : Int) ≤ 9223372036854775807) (k : Nat) (hk : 10 < k) :
    fields_Big.f k s a n = some (if there s a n = true then (be s a n.toNat, true) else (0, false)) := by
  unfold fields_Big.f
  rw [get_spec s a n true hm k hk]
  simp only [Option.bind_some]
  rfl
def bytesL (b : Bool) (v : Int) (n : Nat) : List Int := if b = true then beL v n else leL v n
theorem bytesL_length (b : Bool) (v : Int) (n : Nat) : (bytesL b v n).length = n := by unfold bytesL; cases b <;> simp [leL_length, beL_length]
theorem put_l0 (v : Int) (n : Nat) (b : Bool) (hn : n ≤ 8) : ∀ (d k i : Nat), i + d = n → d < k →
    fields_put_uint64.l0 k v ((bytesL b v n).take i) (shs n b) n i = some (strOfNums (bytesL b v n)) := by
  intro d
  induction d with
  | zero =>
    intro k i hi hk
    obtain ⟨k, rfl⟩ : ∃ q, k = q + 1 := ⟨k - 1, by omega⟩
    rw [fields_put_uint64.l0, if_neg (by omega), List.take_of_length_le (by rw [bytesL_length]; omega)]
  | succ d ih =>
    intro k i hi hk
    obtain ⟨k, rfl⟩ : ∃ q, k = q + 1 := ⟨k - 1, by omega⟩
    have hl : ((bytesL b v n).take i).length < 140737488355328 := by rw [List.length_take, bytesL_length]; omega
    have hw : wrap64 ((i : Int) + 1) = ((i + 1 : Nat) : Int) := by rw [w64 (by omega) (by omega)]; omega
    have ht : (bytesL b v n).take (i + 1) = (bytesL b v n).take i ++ [(shr .u64 v (rd (shs n b) i)) % 256] := by
      rw [List.take_succ_eq_append_getElem (by rw [bytesL_length]; omega), rd_shs n b i (by omega), shr8 _ _ (by cases b <;> simp <;> omega)]
      unfold bytesL
      cases b <;> simp [leL, beL]
    have := ih k (i + 1) (by omega) (by omega)
    rw [ht] at this
    rw [fields_put_uint64.l0, if_pos (by omega), if_pos (by omega), if_pos (by rw [shs_length]; omega), if_pos (by rw [rd_shs n b i (by omega)]; omega), if_pos hl, hw]
    exact this
theorem put_spec (v n : Int) (b : Bool) (k : Nat) (hk : 10 < k) :
    fields_put_uint64.f k v n b = some (if 1 ≤ n ∧ n ≤ 8 then strOfNums (bytesL b v n.toNat) else ⟨#[]⟩) := by
  obtain ⟨k, rfl⟩ : ∃ q, k = q + 1 := ⟨k - 1, by omega⟩
  have hno : fields_put_uint64.j0 (k + 1) v n b true = some ⟨#[]⟩ := by rw [fields_put_uint64.j0, if_pos rfl]
  unfold fields_put_uint64.f
  by_cases h1 : n < 1
  · rw [if_pos h1, hno, if_neg (by omega)]
  · rw [if_neg h1]
    by_cases h2 : n > 8
    · rw [decide_eq_true h2, hno, if_neg (by omega)]
    · rw [decide_eq_false h2, if_pos (by omega), fields_put_uint64.j0, if_neg (by decide)]
      obtain ⟨m, rfl⟩ : ∃ m : Nat, n = m := ⟨n.toNat, by omega⟩
      rw [shifts_spec m b (by omega) k (by omega)]
      simp only [Option.bind_some, shs_length, Int.toNat_natCast]
      exact put_l0 v m b (by omega) m k 0 (by omega) (by omega)
theorem PutBig_spec (v n : Int) (k : Nat) (hk : 10 < k) : fields_PutBig.f k v n = some (if 1 ≤ n ∧ n ≤ 8 then strOfNums (beL v n.toNat) else ⟨#[]⟩) := by
  unfold fields_PutBig.f
  rw [put_spec v n true k hk]
  rfl
end Go.Proofs.YthglbmihbmneaaaGreatDoor.Pure
namespace Go.Proofs.YthglbmihbmneaaaGreatDoor.Num
open Go.RowKit Go.Proofs.YthglbmihbmneaaaGreatDoorW.PrintWords Go.Proofs.YthglbmihbmneaaaGreatDoorW.PrintMore
theorem bt_at (s : ByteArray) (i : Nat) (h : i < s.size) : bt s (i : Int) = ((s.data.toList[i]'(by simpa using h)).toNat : Int) := by
  unfold bt
  rw [dif_pos (show ((i : Int)).toNat < s.size by simpa using h)]
  rfl
theorem bt_cut (s : ByteArray) (a b i : Nat) (h : a + i < b) (hb : b ≤ s.size) : bt (s.extract a b) (i : Int) = bt s ((a + i : Nat) : Int) := by
  rw [bt_at (s.extract a b) i (by rw [ByteArray.size_extract]; omega), bt_at s (a + i) (by omega)]
  simp
end Go.Proofs.YthglbmihbmneaaaGreatDoor.Num
namespace Go.Proofs.YthglbmihbmneaaaGreatDoor.Pure
open Go.RowKit Go.Proofs.YthglbmihbmneaaaGreatDoor.P Go.Proofs.YthglbmihbmneaaaGreatDoorW.PrintWords Go.Proofs.YthglbmihbmneaaaGreatDoorW.PrintLast Go.Proofs.YthglbmihbmneaaaGreatDoorW.PrintMore Go.Proofs.YthglbmihbmneaaaGreatDoor.Num
set_option linter.unusedVariables false
set_option linter.unusedSimpArgs false
def setAt (s : ByteArray) (a : Nat) (p : ByteArray) : ByteArray := (s.extract 0 a ++ p) ++ s.extract (a + p.size) s.size
theorem setAt_size (s p : ByteArray) (a : Nat) (h : a + p.size ≤ s.size) : (setAt s a p).size = s.size := by
  unfold setAt
  rw [ByteArray.size_append, ByteArray.size_append, ByteArray.size_extract, ByteArray.size_extract]
  omega
theorem bt_setAt (s p : ByteArray) (a i : Nat) (h : a + p.size ≤ s.size) (hi : i < s.size) : bt (setAt s a p) (i : Int) = if a ≤ i ∧ i < a + p.size then bt p ((i - a : Nat) : Int) else bt s (i : Int) := by
  have z1 : (s.extract 0 a).size = a := by rw [ByteArray.size_extract]; omega
  have z2 : (s.extract 0 a ++ p).size = a + p.size := by rw [ByteArray.size_append, z1]
  have z3 : (s.extract (a + p.size) s.size).size = s.size - (a + p.size) := by rw [ByteArray.size_extract]; omega
  unfold setAt
  by_cases h1 : i < a + p.size
  · rw [bt_append_left _ _ _ (by omega) (by omega)]
    by_cases h2 : a ≤ i
    · rw [if_pos ⟨h2, h1⟩, bt_append_right _ _ _ (by omega) (by omega), z1]
      congr 1
      omega
    · rw [if_neg (fun z => h2 z.1), bt_append_left _ _ _ (by omega) (by omega), bt_cut s 0 a i (by omega) (by omega), Nat.zero_add]
  · rw [if_neg (fun z => h1 z.2), bt_append_right _ _ _ (by omega) (by omega), z2]
    have e : (i : Int) - ((a + p.size : Nat) : Int) = ((i - (a + p.size) : Nat) : Int) := by omega
    rw [e, bt_cut s (a + p.size) s.size (i - (a + p.size)) (by omega) (Nat.le_refl _)]
    congr 1
    omega
theorem Set_at (s p : ByteArray) (a : Nat) (hs : s.size ≤ 1000000) (h : a + p.size ≤ s.size) : fields_Set.f s (a : Int) p = some (setAt s a p, true) := by
  unfold fields_Set.f setAt
  have e1 : wrap64 ((s.size : Int) - (p.size : Int)) = (s.size : Int) - p.size := w64 (by omega) (by omega)
  have e2 : wrap64 ((a : Int) + (p.size : Int)) = ((a + p.size : Nat) : Int) := by rw [w64 (by omega) (by omega)]; omega
  rw [e1, e2, if_neg (by omega), if_neg (by omega), if_neg (by omega), if_pos (by omega), if_pos (by omega), if_pos (by rw [ByteArray.size_extract]; omega), if_pos (by omega), if_pos (by omega), if_pos (by rw [ByteArray.size_append, ByteArray.size_extract, ByteArray.size_extract]; omega)]
  simp only [Int.toNat_natCast]
end Go.Proofs.YthglbmihbmneaaaGreatDoor.Pure
namespace Go.Proofs.YthglbmihbmneaaaGreatDoor.Pure
open Go.RowKit Go.Proofs.YthglbmihbmneaaaGreatDoor.P Go.Proofs.YthglbmihbmneaaaGreatDoorW.PrintWords Go.Proofs.YthglbmihbmneaaaGreatDoorW.PrintLast Go.Proofs.YthglbmihbmneaaaGreatDoorW.PrintMore Go.Proofs.YthglbmihbmneaaaGreatDoor.Num
set_option linter.unusedVariables false
set_option linter.unusedSimpArgs false
theorem kind_any (h d : ByteArray) : ∃ u v, ipdu_Kind.f h d = some (u, v) := by
  unfold ipdu_Kind.f
  split
  · exact ⟨_, _, rfl⟩
  · next h0 =>
    have hs : 0 < (h.size : Int) := by
      rcases Nat.eq_zero_or_pos h.size with z | z
      · exact absurd (by rw [ba_list]; exact List.eq_nil_of_length_eq_zero (by rw [len_data]; exact z)) h0
      · omega
    rw [if_pos hs]
    exact ⟨_, _, rfl⟩
theorem num_any (k : Nat) (h d : ByteArray) (a : Int) (hh : h.size ≤ 1000000) (hk : 10 < k) : ∃ n, ipdu_Num.f k h d a = some n := by
  unfold ipdu_Num.f
  rw [Big_spec h a 4 (by omega) k hk, Option.bind_some]
  exact ⟨_, rfl⟩
theorem tag_any (k : Nat) (h d : ByteArray) (hh : h.size ≤ 1000000) (hk : 12 < k) : ∃ n, ipdu_Tag.f k h d = some n := by
  obtain ⟨k', rfl⟩ : ∃ k', k = k' + 1 := ⟨k - 1, by omega⟩
  unfold ipdu_Tag.f
  first
  | exact num_any _ h d 16 hh (by omega)
  | (obtain ⟨n, e⟩ := num_any (k' + 1) h d 16 hh (by omega)
     rw [e]
     exact ⟨_, rfl⟩)
  | (obtain ⟨n, e⟩ := num_any k' h d 16 hh (by omega)
     rw [e]
     exact ⟨_, rfl⟩)
theorem str_size (l : List Int) : (strOfNums l).size = l.length := strOfNums_size l
theorem bytes_size (v : Int) (n : Nat) : (strOfNums (beL v n)).size = n := by rw [str_size, beL_length]
theorem head_any (k : Nat) (fl tag : Int) (hk : 10 < k) : ∃ hd, ipdu_Head.f k 35 false fl tag = some hd ∧ hd.size = 48 ∧ (fl = 0 → bt hd 1 = 0) ∧ bt hd 36 = 0 ∧ bt hd 37 = 0 := by
  unfold ipdu_Head.f
  have z48 : (strOfNums (List.replicate 48 0)).size = 48 := by rw [str_size, List.length_replicate]
  have bz : ∀ i : Fin 48, bt (strOfNums (List.replicate 48 0)) (i.val : Int) = 0 := by decide +kernel
  obtain ⟨Z, hZ⟩ : ∃ Z, strOfNums (List.replicate 48 0) = Z := ⟨_, rfl⟩
  rw [hZ] at z48 bz ⊢
  clear hZ
  obtain ⟨v0, hv0⟩ : ∃ v, (if false = true then Go.bits .or .u64 (IntKind.u64.wrap (Go.bits .and .i64 35 63)) 64 else IntKind.u64.wrap (Go.bits .and .i64 35 63)) = v := ⟨_, rfl⟩
  rw [hv0]
  clear hv0
  have n1 : ∀ v : Int, fields_PutBig.f k v 1 = some (strOfNums (beL v 1)) := fun v => by rw [PutBig_spec _ _ k hk, if_pos (by decide)]; rfl
  have n4 : ∀ v : Int, fields_PutBig.f k v 4 = some (strOfNums (beL v 4)) := fun v => by rw [PutBig_spec _ _ k hk, if_pos (by decide)]; rfl
  have b1 : ∀ v : Int, (strOfNums (beL v 1)).size = 1 := fun v => bytes_size v 1
  have b4 : ∀ v : Int, (strOfNums (beL v 4)).size = 4 := fun v => bytes_size v 4
  have e0 : fields_Set.f Z 0 (strOfNums (beL v0 1)) = some (setAt Z 0 (strOfNums (beL v0 1)), true) := Set_at Z _ 0 (by omega) (by rw [z48, b1]; decide)
  have z0 : (setAt Z 0 (strOfNums (beL v0 1))).size = 48 := by rw [setAt_size _ _ _ (by rw [z48, b1]; decide), z48]
  have f0 : ∀ i : Nat, i < 48 → 0 < i → bt (setAt Z 0 (strOfNums (beL v0 1))) (i : Int) = 0 := fun i hi hp => by
    rw [bt_setAt _ _ _ _ (by rw [z48, b1]; decide) (by rw [z48]; exact hi), if_neg (by rw [b1]; omega)]
    exact bz ⟨i, hi⟩
  rw [n1, Option.bind_some, e0, Option.bind_some, n1, Option.bind_some]
  dsimp only
  obtain ⟨s0, h0⟩ : ∃ s, setAt Z 0 (strOfNums (beL v0 1)) = s := ⟨_, rfl⟩
  rw [h0] at z0 f0 ⊢
  obtain ⟨v1, hv1⟩ : ∃ v, IntKind.u64.wrap (Go.bits .and .i64 fl 255) = v := ⟨_, rfl⟩
  rw [hv1]
  have e1 : fields_Set.f s0 1 (strOfNums (beL v1 1)) = some (setAt s0 1 (strOfNums (beL v1 1)), true) := Set_at s0 _ 1 (by omega) (by rw [z0, b1]; decide)
  have z1 : (setAt s0 1 (strOfNums (beL v1 1))).size = 48 := by rw [setAt_size _ _ _ (by rw [z0, b1]; decide), z0]
  have f1 : ∀ i : Nat, i < 48 → 1 < i → bt (setAt s0 1 (strOfNums (beL v1 1))) (i : Int) = 0 := fun i hi hp => by
    rw [bt_setAt _ _ _ _ (by rw [z0, b1]; decide) (by rw [z0]; exact hi), if_neg (by rw [b1]; omega)]
    exact f0 i hi (by omega)
  have g1 : fl = 0 → bt (setAt s0 1 (strOfNums (beL v1 1))) ((1 : Nat) : Int) = 0 := by
    rintro rfl
    rw [bt_setAt _ _ _ _ (by rw [z0, b1]; decide) (by rw [z0]; decide), if_pos (by rw [b1]; decide), ← hv1]
    kernel_rfl
  rw [e1, Option.bind_some, n4, Option.bind_some]
  dsimp only
  obtain ⟨s1, h1⟩ : ∃ s, setAt s0 1 (strOfNums (beL v1 1)) = s := ⟨_, rfl⟩
  rw [h1] at z1 f1 g1 ⊢
  obtain ⟨v2, hv2⟩ : ∃ v, IntKind.u64.wrap tag = v := ⟨_, rfl⟩
  rw [hv2]
  have e2 : fields_Set.f s1 16 (strOfNums (beL v2 4)) = some (setAt s1 16 (strOfNums (beL v2 4)), true) := Set_at s1 _ 16 (by omega) (by rw [z1, b4]; decide)
  have far : ∀ i : Nat, i < 48 → i < 16 ∨ 20 ≤ i → bt (setAt s1 16 (strOfNums (beL v2 4))) (i : Int) = bt s1 (i : Int) := fun i hi hn => by
    rw [bt_setAt _ _ _ _ (by rw [z1, b4]; decide) (by rw [z1]; exact hi), if_neg (by rw [b4]; omega)]
  rw [e2, Option.bind_some]
  exact ⟨_, rfl, by rw [setAt_size _ _ _ (by rw [z1, b4]; decide), z1], fun e => (far 1 (by decide) (by decide)).trans (g1 e), (far 36 (by decide) (by decide)).trans (f1 36 (by decide) (by decide)), (far 37 (by decide) (by decide)).trans (f1 37 (by decide) (by decide))⟩
theorem with_any (k : Nat) (h d : ByteArray) (a : Nat) (v : Int) (hh : h.size = 48) (ha : a + 4 ≤ 48) (hk : 10 < k) : ipdu_With.f k h d (a : Int) v = some (setAt h a (strOfNums (beL (IntKind.u64.wrap v) 4)), d) := by
  unfold ipdu_With.f
  rw [PutBig_spec _ _ k hk, if_pos (by decide), Option.bind_some, show ((4 : Int).toNat) = 4 from rfl, Set_at h _ a (by omega) (by rw [hh, bytes_size]; exact ha), Option.bind_some, if_pos rfl]
theorem set_far {s p : ByteArray} {a i : Nat} (h : a + p.size ≤ s.size) (hi : i < s.size) (hn : i < a ∨ a + p.size ≤ i) : bt (setAt s a p) (i : Int) = bt s (i : Int) := by
  rw [bt_setAt _ _ _ _ h hi, if_neg (by omega)]
theorem num_j0 (k : Nat) (e sn c dt : Int) (x y : ByteArray) (hx : x.size = 48) (hk : 20 < k) : ∃ q, login_numbered.j0 k e sn c dt x y = some (q, y) ∧ q.size = 48 ∧ bt q 1 = bt x 1 ∧ bt q 36 = c % 256 ∧ bt q 37 = dt % 256 := by
  obtain ⟨k, rfl⟩ : ∃ k', k = k' + 1 := ⟨k - 1, by omega⟩
  have s4 : ∀ v : Int, (strOfNums (beL v 4)).size = 4 := fun v => bytes_size v 4
  have g : ∀ (z : ByteArray) (a : Nat) (v : Int), z.size = 48 → a + 4 ≤ 48 → (setAt z a (strOfNums (beL v 4))).size = 48 := fun z a v hz ha => by rw [setAt_size _ _ _ (by rw [hz, s4]; exact ha), hz]
  have f1 : ∀ (z : ByteArray) (a : Nat) (v : Int), z.size = 48 → a + 4 ≤ 48 → 2 ≤ a → bt (setAt z a (strOfNums (beL v 4))) ((1 : Nat) : Int) = bt z ((1 : Nat) : Int) := fun z a v hz ha h2 => set_far (by rw [hz, s4]; exact ha) (by rw [hz]; decide) (Or.inl (by omega))
  rw [login_numbered.j0, show (24 : Int) = ((24 : Nat) : Int) from rfl, with_any k x y 24 _ hx (by decide) (by omega), Option.bind_some]
  dsimp only
  rw [show (28 : Int) = ((28 : Nat) : Int) from rfl, with_any k _ y 28 _ (g x 24 _ hx (by decide)) (by decide) (by omega), Option.bind_some]
  dsimp only
  rw [show (32 : Int) = ((32 : Nat) : Int) from rfl, with_any k _ y 32 _ (g _ 28 _ (g x 24 _ hx (by decide)) (by decide)) (by decide) (by omega), Option.bind_some]
  dsimp only
  obtain ⟨v, hv⟩ : ∃ v, (((e + 16) % 4294967296 - 1) % 4294967296) = v := ⟨_, rfl⟩
  rw [hv]
  clear hv
  have z := g _ 32 (IntKind.u64.wrap v) (g _ 28 (IntKind.u64.wrap e) (g x 24 (IntKind.u64.wrap sn) hx (by decide)) (by decide)) (by decide)
  have z2 : (strOfNums [c % 256, dt % 256]).size = 2 := str_size _
  obtain ⟨P, hP⟩ : ∃ P, setAt (setAt (setAt x 24 (strOfNums (beL (IntKind.u64.wrap sn) 4))) 28 (strOfNums (beL (IntKind.u64.wrap e) 4))) 32 (strOfNums (beL (IntKind.u64.wrap v) 4)) = P := ⟨_, rfl⟩
  have hc : 0 ≤ c % 256 ∧ c % 256 < 256 := by omega
  have hd : 0 ≤ dt % 256 ∧ dt % 256 < 256 := by omega
  have h1 : bt P ((1 : Nat) : Int) = bt x ((1 : Nat) : Int) := by
    rw [← hP, f1 _ 32 _ (g _ 28 _ (g x 24 _ hx (by decide)) (by decide)) (by decide) (by decide), f1 _ 28 _ (g x 24 _ hx (by decide)) (by decide) (by decide), f1 x 24 _ hx (by decide) (by decide)]
  rw [hP] at z ⊢
  have e2 : fields_Set.f P 36 (strOfNums [c % 256, dt % 256]) = some (setAt P 36 (strOfNums [c % 256, dt % 256]), true) := Set_at P _ 36 (by omega) (by rw [z, z2]; decide)
  rw [e2, Option.bind_some]
  refine ⟨_, rfl, by rw [setAt_size _ _ _ (by rw [z, z2]; decide), z], ?_, ?_, ?_⟩
  · exact (set_far (i := 1) (by rw [z, z2]; decide) (by rw [z]; decide) (Or.inl (by decide))).trans h1
  · refine (bt_setAt _ _ 36 36 (by rw [z, z2]; decide) (by rw [z]; decide)).trans ?_
    rw [if_pos (by rw [z2]; decide)]
    exact strOfNums_get [c % 256, dt % 256] 0 (Nat.zero_lt_succ _) hc
  · refine (bt_setAt _ _ 36 37 (by rw [z, z2]; decide) (by rw [z]; decide)).trans ?_
    rw [if_pos (by rw [z2]; decide)]
    exact strOfNums_get [c % 256, dt % 256] 1 (Nat.succ_lt_succ (Nat.zero_lt_succ _)) hd
theorem num_all (k : Nat) (qh qd h d : ByteArray) (e sn c dt : Int) (hq : qh.size = 48) (hk : 20 < k) : ∃ q, login_numbered.f k qh qd h d e sn c dt = some (q, qd) ∧ q.size = 48 ∧ bt q 1 = bt qh 1 ∧ bt q 36 = c % 256 ∧ bt q 37 = dt % 256 := by
  unfold login_numbered.f
  by_cases hh : (h.size : Int) = 48
  · have z6 : (h.extract 8 14).size = 6 := by rw [ByteArray.size_extract]; omega
    rw [if_pos hh, if_pos (by decide), if_pos (by omega), show (8 : Int) = ((8 : Nat) : Int) from rfl, Set_at qh _ 8 (by omega) (by rw [hq, z6]; decide), Option.bind_some]
    have z := setAt_size qh (h.extract 8 14) 8 (by rw [hq, z6]; decide)
    obtain ⟨q, h1, h2, h3, h4⟩ := num_j0 k e sn c dt (setAt qh 8 (h.extract 8 14)) qd (by rw [z, hq]) hk
    refine ⟨q, h1, h2, h3.trans ?_, h4⟩
    exact set_far (i := 1) (by rw [hq, z6]; decide) (by rw [hq]; decide) (Or.inl (by decide))
  · rw [if_neg hh, show (16 : Int) = ((16 : Nat) : Int) from rfl, with_any k qh qd 16 0 hq (by decide) (by omega), Option.bind_some]
    have s4 : (strOfNums (beL (IntKind.u64.wrap 0) 4)).size = 4 := bytes_size _ 4
    have z := setAt_size qh (strOfNums (beL (IntKind.u64.wrap 0) 4)) 16 (by rw [hq, s4]; decide)
    obtain ⟨q, h1, h2, h3, h4⟩ := num_j0 k e sn c dt (setAt qh 16 (strOfNums (beL (IntKind.u64.wrap 0) 4))) qd (by rw [z, hq]) hk
    refine ⟨q, h1, h2, h3.trans ?_, h4⟩
    exact set_far (i := 1) (by rw [hq, s4]; decide) (by rw [hq]; decide) (Or.inl (by decide))
theorem stepped_any (k : Nat) (t : S27) (g h d : ByteArray) (hh : h.size ≤ 1000) (hk : 60 ≤ k) : ∃ s, login_stepped.f k t g h d = some s ∧ (∀ x, s = .inl x → x.1 = 2) ∧ ∀ n x s', s = .inr (n, x, s') → n.f1 = true ∧ (n.f0 = 3 → (names_Iqn.f n.f2.f6 = some true ∨ n.f2.f6 = t.f2.f6) ∧ n.f2.f7.toList = g.toList ∧ n.f2.f6.toList ≠ []) := by
  unfold login_stepped.f
  obtain ⟨u, v, hu⟩ := kind_any h d
  have no : ∀ c : Int, ∃ s, some (Sum.inl (2, c) : Stp) = some s ∧ (∀ x, s = .inl x → x.1 = 2) ∧ ∀ n x s', s = .inr (n, x, s') → n.f1 = true ∧ (n.f0 = 3 → (names_Iqn.f n.f2.f6 = some true ∨ n.f2.f6 = t.f2.f6) ∧ n.f2.f7.toList = g.toList ∧ n.f2.f6.toList ≠ []) := fun c => ⟨_, rfl, fun x hx => by cases hx; rfl, fun n x s' hx => by cases hx⟩
  rw [hu, Option.bind_some]
  by_cases h1 : rd1 h d u v = true
  rotate_left
  · rw [if_neg h1]; exact no 0
  rw [if_pos h1]
  have hd : d.size ≤ 8192 := by
    unfold rd1 at h1
    simp only [Bool.and_eq_true, decide_eq_true_eq] at h1
    exact h1.2
  obtain ⟨first, hf⟩ := num_any k h d 24 (by omega) (by omega)
  rw [hf, Option.bind_some]
  by_cases h2 : (rd2 h && rd3 h) = true
  rotate_left
  · rw [if_neg h2]; exact no 0
  rw [if_pos h2]
  have hst : rdStage (bt h 1) ≤ 1 := by
    rw [Bool.and_eq_true] at h2
    have := h2.1
    unfold rd2 at this
    simp only [Bool.and_eq_true, decide_eq_true_eq] at this
    exact this.2
  obtain ⟨on, hon⟩ : ∃ x, rdOn (bt h 1) = x := ⟨_, rfl⟩
  obtain ⟨st, hs0⟩ : ∃ x, rdStage (bt h 1) = x := ⟨_, rfl⟩
  obtain ⟨nx, hnx⟩ : ∃ x, rdNext (bt h 1) = x := ⟨_, rfl⟩
  rw [hon, hs0, hnx]
  rw [hs0] at hst
  unfold login_stepped.s2
  split
  · exact no 0
  unfold login_stepped.s3
  split
  · exact no 1
  unfold login_stepped.s4
  obtain ⟨l, le, hl, hg⟩ := parse_any k d (by omega) (by omega)
  rw [hl, Option.bind_some]
  dsimp only
  by_cases h0 : le = 0
  rotate_left
  · rw [if_neg h0]; exact no 0
  rw [if_pos h0]
  obtain ⟨b, o, e, hA, hB⟩ := answer_any t.f2 (hg h0)
  rw [hA, Option.bind_some]
  dsimp only
  by_cases h3 : e = 0
  rotate_left
  · rw [if_neg h3]; exact no 0
  rw [if_pos h3]
  obtain ⟨s, se, hT⟩ := text_any (hB h3).1
  rw [hT, Option.bind_some]
  dsimp only
  by_cases h4 : se = 0
  rotate_left
  · rw [if_neg h4]; exact no 0
  rw [if_pos h4]
  unfold login_stepped.s10
  by_cases h5 : on = true ∧ nx = 3
  · rw [if_pos h5]
    by_cases h6 : b.f6.toList = []
    · rw [if_pos h6]; exact no 7
    rw [if_neg h6]
    by_cases h7 : b.f7.toList = [] ∨ b.f7.toList ≠ g.toList
    · rw [if_pos h7]; exact no 3
    rw [if_neg h7]
    unfold login_stepped.s11
    refine ⟨_, rfl, fun x hx => (by cases hx), fun n x s' hx => ?_⟩
    cases hx
    exact ⟨rfl, fun _ => ⟨(hB h3).2, Classical.byContradiction fun hc => h7 (Or.inr hc), h6⟩⟩
  · rw [if_neg h5]
    unfold login_stepped.s11
    refine ⟨_, rfl, fun x hx => (by cases hx), fun n x s' hx => ?_⟩
    cases hx
    refine ⟨rfl, fun hn => ?_⟩
    dsimp only at hn
    split at hn
    · next hc => exact absurd ⟨hc, hn⟩ h5
    · omega
end Go.Proofs.YthglbmihbmneaaaGreatDoor.Pure
namespace Go.Proofs.YthglbmihbmneaaaGreatDoor.Pure
open Go.RowKit Go.Proofs.YthglbmihbmneaaaGreatDoor.P Go.Proofs.YthglbmihbmneaaaGreatDoorW.PrintWords Go.Proofs.YthglbmihbmneaaaGreatDoorW.PrintLast Go.Proofs.YthglbmihbmneaaaGreatDoorW.PrintMore Go.Proofs.YthglbmihbmneaaaGreatDoor.Num
set_option linter.unusedVariables false
set_option linter.unusedSimpArgs false
theorem mark5 (c : Nat) : mark_ 5 c = decide ((97 ≤ c ∧ c ≤ 122) ∨ (48 ≤ c ∧ c ≤ 57) ∨ c = 46 ∨ c = 45 ∨ c = 58) := by
  rw [Bool.eq_iff_iff]
  simp only [mark_, lo_, hi_, Bool.false_or, Bool.or_eq_true, decide_eq_true_eq]
  omega
def letter_ (b : Int) : Bool := decide (97 ≤ b ∧ b ≤ 122)
def digit_ (b : Int) : Bool := decide (48 ≤ b ∧ b ≤ 57)
def iqn4 : ByteArray := ⟨#[105, 113, 110, 46]⟩
def pre4 (s w : ByteArray) : Bool := (s.extract 0 4).toList == w.toList
def datedB (s w : ByteArray) : Bool := nameB s && (decide (12 < s.size) && (pre4 s w && restB s))
theorem HasPrefix_spec (s w : ByteArray) (h : w.size ≤ s.size) : strings_HasPrefix.f s w = some ((s.extract 0 w.size).toList == w.toList) := by
  unfold strings_HasPrefix.f stringslite_HasPrefix.f
  rw [if_pos (by omega), if_pos (by omega), if_pos (by omega), Option.bind_some]
  rfl
theorem dated_spec (s w w4 : ByteArray) (hw : w.size = 3) (e : w ++ (⟨#[46]⟩ : ByteArray) = w4) : names_dated.f s w = some (datedB s w4) := by
  have h4 : w4.size = 4 := by rw [← e, ByteArray.size_append, hw]; rfl
  unfold names_dated.f datedB pre4
  rw [if_pos (by omega), e]
  cases hn : nameB s
  · rfl
  rw [if_pos rfl]
  by_cases hs : 12 < s.size
  · rw [if_pos hs, HasPrefix_spec s w4 (by omega), Option.bind_some, h4, decide_eq_true hs]
    cases (s.extract 0 4).toList == w4.toList <;> rfl
  · rw [if_neg hs, decide_eq_false hs]
    rfl
theorem Iqn_spec (s : ByteArray) : names_Iqn.f s = some (datedB s iqn4) := by
  unfold names_Iqn.f
  rw [dated_spec s _ iqn4 rfl rfl]
  rfl
theorem ref_letter (b : Int) : headgateref03_letter.f b = some (letter_ b) := by
  unfold headgateref03_letter.f letter_
  split
  · congr 1
    rw [decide_eq_decide]
    omega
  · rw [decide_eq_false (by omega)]
theorem ref_digit (b : Int) : headgateref03_digit.f b = some (digit_ b) := by
  unfold headgateref03_digit.f digit_
  split
  · congr 1
    rw [decide_eq_decide]
    omega
  · rw [decide_eq_false (by omega)]
theorem ref_Name_l0 (s : ByteArray) (hs : s.size ≤ 64) : ∀ (d k i : Nat), i + d = s.size → d < k → headgateref03_Name.l0 k s (i : Int) = some ((s.data.toList.drop i).all (fun c => mark_ 5 c.toNat))
  | 0, k + 1, i, h, _ => by
    rw [headgateref03_Name.l0, if_neg (by omega), List.drop_eq_nil_of_le (show s.data.toList.length ≤ i by show s.size ≤ i; omega)]
    rfl
  | d + 1, k + 1, i, h, hk => by
    have hi : i < s.size := by omega
    have hl : i < s.data.toList.length := hi
    have e := ref_Name_l0 s hs d k (i + 1) (by omega) (by omega)
    have hw : wrap64 ((i : Int) + 1) = ((i + 1 : Nat) : Int) := by rw [w64 (by omega) (by omega)]; omega
    have hb : bt s (i : Int) = ((s.data.toList[i]'hl).toNat : Int) := bt_at s i hi
    rw [headgateref03_Name.l0, if_pos (by omega), if_pos (by omega), ref_letter, ref_digit, Option.bind_some, Option.bind_some, hw, e, List.drop_eq_getElem_cons hl, List.all_cons, hb, mark5]
    generalize (s.data.toList[i]'hl).toNat = c
    generalize (s.data.toList.drop (i + 1)).all (fun c => mark_ 5 c.toNat) = R
    clear hb e hw
    unfold letter_ digit_
    by_cases a1 : (97 ≤ c ∧ c ≤ 122)
    · rw [decide_eq_true (show (97 : Int) ≤ c ∧ (c : Int) ≤ 122 by omega), if_pos rfl, decide_eq_true (by omega), Bool.true_and]
    rw [decide_eq_false (show ¬ ((97 : Int) ≤ c ∧ (c : Int) ≤ 122) by omega), if_neg (by decide)]
    by_cases a2 : (48 ≤ c ∧ c ≤ 57)
    · rw [decide_eq_true (show (48 : Int) ≤ c ∧ (c : Int) ≤ 57 by omega), if_pos rfl, decide_eq_true (by omega), Bool.true_and]
    rw [decide_eq_false (show ¬ ((48 : Int) ≤ c ∧ (c : Int) ≤ 57) by omega), if_neg (by decide)]
    by_cases a3 : c = 46
    · rw [if_pos (by omega), decide_eq_true (by omega), Bool.true_and]
    rw [if_neg (by omega)]
    by_cases a4 : c = 45
    · rw [if_pos (by omega), decide_eq_true (by omega), Bool.true_and]
    rw [if_neg (by omega)]
    by_cases a5 : c = 58
    · rw [if_pos (by omega), decide_eq_true (by omega), Bool.true_and]
    rw [if_neg (by omega), decide_eq_false (by omega), Bool.false_and]
theorem ref_Name_spec (k : Nat) (s : ByteArray) (hk : 70 ≤ k) : headgateref03_Name.f k s = some (nameB s) := by
  obtain ⟨k, rfl⟩ : ∃ q, k = q + 1 := ⟨k - 1, by omega⟩
  have ht : headgateref03_Name.j0 (k + 1) s true = some false := by rw [headgateref03_Name.j0, if_pos rfl]
  unfold headgateref03_Name.f nameB
  by_cases h1 : s.size < 1
  · rw [if_pos (by omega), ht, decide_eq_false (by omega), Bool.false_and]
  rw [if_neg (by omega)]
  by_cases h2 : s.size > 64
  · rw [if_pos (by omega), ht, decide_eq_false (by omega), Bool.false_and]
  rw [if_neg (by omega), if_pos (by omega), ref_letter, Option.bind_some]
  unfold letter_
  by_cases h3 : 97 ≤ bt s 0 ∧ bt s 0 ≤ 122
  · have e := ref_Name_l0 s (by omega) s.size k 0 (by omega) (by omega)
    rw [decide_eq_true h3, decide_eq_true ⟨by omega, by omega, h3.1, h3.2⟩, headgateref03_Name.j0, if_neg (by decide), Bool.true_and]
    exact e
  · rw [decide_eq_false h3, decide_eq_false (fun h => h3 h.2.2), Bool.false_and]
    exact ht
theorem good_num (s : ByteArray) (j : Nat) (h4 : j ≠ 4) (h7 : j ≠ 7) : good_ s j = digit_ (bt s ((4 + j : Nat) : Int)) := by
  unfold good_ digit_
  rw [if_neg h4, if_neg h7]
theorem range8 (f : Nat → Bool) : (List.range 8).all f = (f 0 && (f 1 && (f 2 && (f 3 && (f 4 && (f 5 && (f 6 && f 7))))))) := by
  have : List.range 8 = [0, 1, 2, 3, 4, 5, 6, 7] := by decide
  rw [this]
  simp only [List.all_cons, List.all_nil, Bool.and_true]
def tailB (s : ByteArray) : Bool := decide (bt s 8 = 45) && (digit_ (bt s 9) && (digit_ (bt s 10) && (decide (bt s 11 = 46) && (decide (1 ≤ month_ s ∧ month_ s ≤ 12) && nameB (s.extract 12 s.size)))))
theorem restB_eq (s : ByteArray) : restB s = (digit_ (bt s 4) && (digit_ (bt s 5) && (digit_ (bt s 6) && (digit_ (bt s 7) && tailB s)))) := by
  unfold restB tailB
  rw [range8, good_num s 0 (by decide) (by decide), good_num s 1 (by decide) (by decide), good_num s 2 (by decide) (by decide), good_num s 3 (by decide) (by decide), good_num s 5 (by decide) (by decide), good_num s 6 (by decide) (by decide)]
  have e4 : good_ s 4 = decide (bt s 8 = 45) := rfl
  have e7 : good_ s 7 = decide (bt s 11 = 46) := rfl
  rw [e4, e7]
  simp only [Bool.and_assoc]
  rfl
theorem ref_tail (k : Nat) (s : ByteArray) (hk : 70 ≤ k) (hs : 12 < s.size) : headgateref03_dated.l0 (k + 1) s 8 = some (tailB s) := by
  rw [headgateref03_dated.l0, if_neg (by decide), if_pos (by omega)]
  unfold tailB
  by_cases a : bt s 8 = 45
  · rw [if_pos a, decide_eq_true a, Bool.true_and, if_pos (by omega), ref_digit, Option.bind_some]
    cases b : digit_ (bt s 9)
    · rw [if_neg (by decide), Bool.false_and]
    rw [if_pos rfl, Bool.true_and, if_pos (by omega), ref_digit, Option.bind_some]
    cases c : digit_ (bt s 10)
    · rw [if_neg (by decide), Bool.false_and]
    rw [if_pos rfl, Bool.true_and, if_pos (by omega)]
    by_cases d : bt s 11 = 46
    · rw [if_pos d, decide_eq_true d, Bool.true_and]
      have b' := of_decide_eq_true b
      have c' := of_decide_eq_true c
      have em : (bt s 9 - 48) % 256 * 10 + (bt s 10 - 48) % 256 = month_ s := by unfold month_; omega
      rw [em]
      by_cases f : 1 ≤ month_ s
      · rw [if_pos f]
        by_cases g : month_ s ≤ 12
        · rw [if_pos g, if_pos (by omega), decide_eq_true ⟨f, g⟩, Bool.true_and, ref_Name_spec k _ hk, Option.bind_some]
        · rw [if_neg g, decide_eq_false (fun h => g h.2), Bool.false_and]
      · rw [if_neg f, decide_eq_false (fun h => f h.1), Bool.false_and]
    · rw [if_neg d, decide_eq_false d, Bool.false_and]
  · rw [if_neg a, decide_eq_false a, Bool.false_and]
theorem ref_year (k : Nat) (s : ByteArray) (x : Int) (R : Bool) (h4 : 4 ≤ x) (h8 : x < 8) (hs : 12 < s.size) (e : headgateref03_dated.l0 k s (x + 1) = some R) : headgateref03_dated.l0 (k + 1) s x = some (digit_ (bt s x) && R) := by
  rw [headgateref03_dated.l0, if_pos h8, if_pos (by omega), if_pos (by omega), ref_digit, Option.bind_some, w64 (by omega) (by omega), e]
  cases digit_ (bt s x) <;> rfl
theorem ref_dated_spec (k : Nat) (s w4 : ByteArray) (hk : 80 ≤ k) : headgateref03_dated.f k s w4 = some (datedB s w4) := by
  obtain ⟨k, rfl⟩ : ∃ q, k = q + 6 := ⟨k - 6, by omega⟩
  have ht : headgateref03_dated.j0 (k + 6) s true = some false := by rw [headgateref03_dated.j0, if_pos rfl]
  unfold headgateref03_dated.f datedB pre4
  rw [ref_Name_spec _ _ (by omega), Option.bind_some]
  cases hn : nameB s
  · rw [if_neg (by decide), ht]
    rfl
  rw [if_pos rfl, Bool.true_and]
  by_cases hs : 12 < s.size
  · rw [if_neg (by omega), if_pos (by decide), if_pos (by omega), decide_eq_true hs, Bool.true_and]
    cases hp : ((s.extract 0 4).toList == w4.toList)
    · have : ((s.extract 0 4).toList != w4.toList) = true := by rw [bne, hp]; rfl
      rw [this, ht]
      rfl
    · have : ((s.extract 0 4).toList != w4.toList) = false := by rw [bne, hp]; rfl
      have e8 := ref_tail k s (by omega) hs
      have e7 := ref_year (k + 1) s 7 _ (by decide) (by decide) hs e8
      have e6 := ref_year (k + 2) s 6 _ (by decide) (by decide) hs e7
      have e5 := ref_year (k + 3) s 5 _ (by decide) (by decide) hs e6
      have e4 := ref_year (k + 4) s 4 _ (by decide) (by decide) hs e5
      rw [this, headgateref03_dated.j0, if_neg (by decide), e4, restB_eq, Bool.true_and]
  · rw [if_pos (by omega), ht, decide_eq_false hs, Bool.false_and]
theorem ref_Iqn_spec (k : Nat) (s : ByteArray) (hk : 80 ≤ k) : headgateref03_Iqn.f k s = some (datedB s iqn4) := by
  unfold headgateref03_Iqn.f
  rw [ref_dated_spec k s _ hk]
  rfl
end Go.Proofs.YthglbmihbmneaaaGreatDoor.Pure
namespace Go.Proofs.YthglbmihbmneaaaGreatDoor.Rk
open Go.ChangeShapes Go.WideShapes Go.RowKit Go.Proofs.YthglbmihbmneaaaGreatDoorW.PrintWords
variable {P : Program}
def Opens (P : Program) (t : TypeId) {α : Type} (d : Kd α) (Q : α → Prop) : Prop :=
  ∀ (H : Type) (enc : TypeId × Value → H) (w : World) (base : Nat) (spare : Nat → Bool) (held : Bool) (fuel : Nat) (cs : List Value) (y : DataW H × List MemPlace),
    DataW.trod enc P w base spare held fuel t cs = some y → ∃ x, d.K w x cs ∧ Q x
theorem opens_int {t : TypeId} {k : IntKind} (ht : P.underlying t = some (.int k)) : Opens P t (Kd.int k) (fun n => (Lit.int k n).wf = true) := by
  intro H enc w base spare held fuel cs y h
  obtain ⟨n, rfl, _, hw⟩ := DataW.trod_int ht h
  exact ⟨n, rfl, hw⟩
theorem opens_bool {t : TypeId} (ht : P.underlying t = some .bool) : Opens P t Kd.bool (fun _ => True) := by
  intro H enc w base spare held fuel cs y h
  obtain ⟨n, rfl, _⟩ := DataW.trod_bool ht h
  exact ⟨n, rfl, trivial⟩
theorem opens_string {t : TypeId} (ht : P.underlying t = some .string) : Opens P t Kd.string (fun s => s.size ≤ 9223372036854775807) := by
  intro H enc w base spare held fuel cs y h
  obtain ⟨n, rfl, _, hs⟩ := DataW.trod_string ht h
  exact ⟨n, rfl, hs⟩
def Fits (P : Program) (l : List (TypeId × Nat)) (off : Nat) {α : Type} (d : Kd α) (Q : α → Prop) : Prop :=
  ∀ (H : Type) (enc : TypeId × Value → H) (w : World) (base : Nat) (spare : Nat → Bool) (held : Bool) (n : Nat) (cs : List Value), cs.length = off + d.sz →
    (∀ f, f ∈ l → ∃ y, DataW.trod enc P w base spare held n f.1 ((cs.drop f.2).take (P.cellsOf f.1)) = some y) → ∃ x, d.K w x (cs.drop off) ∧ Q x
theorem fits_one {t : TypeId} {off : Nat} {α : Type} {d : Kd α} {Q : α → Prop} (ho : Opens P t d Q) (hc : P.cellsOf t = d.sz) : Fits P [(t, off)] off d Q := by
  intro H enc w base spare held n cs hl h
  obtain ⟨y, hy⟩ := h (t, off) (by simp)
  rw [hc, List.take_of_length_le (by simp; omega)] at hy
  exact ho _ _ _ _ _ _ _ _ _ hy
theorem fits_cons {t : TypeId} {off : Nat} {l : List (TypeId × Nat)} {α β : Type} {a : Kd α} {b : Kd β} {Qa : α → Prop} {Qb : β → Prop} (ho : Opens P t a Qa) (hc : P.cellsOf t = a.sz) (hr : Fits P l (off + a.sz) b Qb) :
    Fits P ((t, off) :: l) off (Kd.pair a b) (fun x => Qa x.1 ∧ Qb x.2) := by
  intro H enc w base spare held n cs hl h
  obtain ⟨y, hy⟩ := h (t, off) (by simp)
  rw [hc] at hy
  obtain ⟨x, hx, qx⟩ := ho _ _ _ _ _ _ _ _ _ hy
  have hl' : cs.length = off + (a.sz + b.sz) := hl
  obtain ⟨z, hz, qz⟩ := hr _ enc w base spare held n cs (by omega) (fun f hf => h f (by simp [hf]))
  refine ⟨(x, z), ⟨_, _, ?_, hx, hz⟩, qx, qz⟩
  rw [← List.drop_drop, List.take_append_drop]
theorem opens_struct {t : TypeId} {fs : Array Field} {l : List (TypeId × Nat)} {α : Type} {d : Kd α} {Q : α → Prop} (ht : P.underlying t = some (.struct fs)) (hl : fs.toList.map (fun f => (f.type, f.offset)) = l) (hc : P.cellsOf t = d.sz)
    (h : Fits P l 0 d Q) : Opens P t d Q := by
  intro H enc w base spare held fuel cs y hy
  obtain ⟨xs, n, _, _, hlen, hxl, hf⟩ := DataW.trod_struct ht hy
  subst hl
  obtain ⟨x, hx, qx⟩ := h _ enc w base spare held n cs (by omega) (fun f hf' => by
    obtain ⟨g, hg, rfl⟩ := List.mem_map.mp hf'
    obtain ⟨i, hi⟩ := List.getElem?_of_mem hg
    rw [Array.getElem?_toList] at hi
    have h1 := hf i g hi
    have h2 : i < xs.length := by
      rw [hxl]
      exact (Array.getElem?_eq_some_iff.mp hi).1
    exact ⟨xs[i], by rw [h1]; exact List.getElem?_eq_getElem h2⟩)
  exact ⟨x, by simpa using hx, qx⟩
theorem opens_iso {t : TypeId} {α β : Type} {d : Kd α} {Q : α → Prop} {f : β → α} (g : α → β) (hg : ∀ x, f (g x) = x) (h : Opens P t d Q) : Opens P t (Kd.iso d f) (fun y => Q (f y)) := by
  intro H enc w base spare held fuel cs y hy
  obtain ⟨x, hx, qx⟩ := h _ _ _ _ _ _ _ _ _ hy
  refine ⟨g x, ?_, ?_⟩
  · show d.K w (f (g x)) cs
    rw [hg]
    exact hx
  · show Q (f (g x))
    rw [hg]
    exact qx
theorem arg {t : TypeId} {α : Type} {d : Kd α} {Q : α → Prop} (ho : Opens P t d Q) {H : Type} {enc : TypeId × Value → H} {W : World} {spare : Nat → Bool} {held : Bool} {v : Value} {y : DataW H} {p : List MemPlace}
    (h : DataW.Trod enc P W 0 spare held t v y p) : ∃ x, d.K W x v.cells.toList ∧ Q x := by
  obtain ⟨fuel, hf⟩ := h
  exact ho _ _ _ _ _ _ _ _ _ hf
theorem lt_of {t : TypeId} {H : Type} {enc : TypeId × Value → H} {W : World} {spare : Nat → Bool} {held : Bool} {v : Value} {y : DataW H} {p : List MemPlace}
    (h : DataW.Trod enc P W 0 spare held t v y p) : ∀ x ∈ p, x.block < W.heap.size := by
  obtain ⟨m, hm⟩ := h
  exact DataW.trod_lt m _ _ _ hm
theorem agg_of {cs : Array Value} {l : List Value} (h : (Value.agg cs).cells.toList = l) : cs = l.toArray := by
  subst h
  simp [Value.cells]
end Go.Proofs.YthglbmihbmneaaaGreatDoor.Rk
namespace Go.Proofs.YthglbmihbmneaaaGreatDoor.P
open Go.RowKit Go.Proofs.YthglbmihbmneaaaGreatDoorW.PrintWords
def Q24 (x : S24) : Prop := True ∧ True ∧ True ∧ True ∧ (Lit.int .i64 x.f4).wf = true ∧ (Lit.int .i64 x.f5).wf = true ∧ x.f6.size ≤ 9223372036854775807 ∧ x.f7.size ≤ 9223372036854775807
theorem o24 : Rk.Opens Tryz.prog 24 k24 Q24 :=
  Rk.opens_iso (fun p => ⟨p.1, p.2.1, p.2.2.1, p.2.2.2.1, p.2.2.2.2.1, p.2.2.2.2.2.1, p.2.2.2.2.2.2.1, p.2.2.2.2.2.2.2⟩) (fun _ => rfl) (Rk.opens_struct Tryz.underlying24 (l := [(4, 0), (4, 1), (4, 2), (4, 3), (3, 4), (3, 5), (9, 6), (9, 7)]) (by kernel_rfl) (by kernel_rfl) (Rk.fits_cons (Rk.opens_bool Tryz.underlying4) (by kernel_rfl) (Rk.fits_cons (Rk.opens_bool Tryz.underlying4) (by kernel_rfl) (Rk.fits_cons (Rk.opens_bool Tryz.underlying4) (by kernel_rfl) (Rk.fits_cons (Rk.opens_bool Tryz.underlying4) (by kernel_rfl) (Rk.fits_cons (Rk.opens_int Tryz.underlying3) (by kernel_rfl) (Rk.fits_cons (Rk.opens_int Tryz.underlying3) (by kernel_rfl) (Rk.fits_cons (Rk.opens_string Tryz.underlying9) (by kernel_rfl) (Rk.fits_one (Rk.opens_string Tryz.underlying9) (by kernel_rfl))))))))))
def Q27 (x : S27) : Prop := (Lit.int .i64 x.f0).wf = true ∧ True ∧ Q24 x.f2 ∧ (Lit.int .u32 x.f3).wf = true ∧ (Lit.int .u32 x.f4).wf = true
theorem o27 : Rk.Opens Tryz.prog 27 k27 Q27 :=
  Rk.opens_iso (fun p => ⟨p.1, p.2.1, p.2.2.1, p.2.2.2.1, p.2.2.2.2⟩) (fun _ => rfl) (Rk.opens_struct Tryz.underlying27 (l := [(3, 0), (4, 1), (24, 2), (25, 10), (25, 11)]) (by kernel_rfl) (by kernel_rfl) (Rk.fits_cons (Rk.opens_int Tryz.underlying3) (by kernel_rfl) (Rk.fits_cons (Rk.opens_bool Tryz.underlying4) (by kernel_rfl) (Rk.fits_cons o24 (by kernel_rfl) (Rk.fits_cons (Rk.opens_int Tryz.underlying25) (by kernel_rfl) (Rk.fits_one (Rk.opens_int Tryz.underlying25) (by kernel_rfl)))))))
def Q35 (x : S35) : Prop := x.f0.size ≤ 9223372036854775807 ∧ x.f1.size ≤ 9223372036854775807
theorem o35 : Rk.Opens Tryz.prog 35 k35 Q35 :=
  Rk.opens_iso (fun p => ⟨p.1, p.2⟩) (fun _ => rfl) (Rk.opens_struct Tryz.underlying35 (l := [(9, 0), (9, 1)]) (by kernel_rfl) (by kernel_rfl) (Rk.fits_cons (Rk.opens_string Tryz.underlying9) (by kernel_rfl) (Rk.fits_one (Rk.opens_string Tryz.underlying9) (by kernel_rfl))))
end Go.Proofs.YthglbmihbmneaaaGreatDoor.P
