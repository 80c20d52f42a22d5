-- joined by this session's wip/tools/pack.py: words of the kit's print, cut to what the claim names; functions printed by a patched copy of the printer; walks and lemmas of this session; Lean checks it
import Derived.Test.YtclcnkmefldpiaaDoorBb3
import Derived.WalkKit
import Derived.Lib.IndexLaws
import Derived.Lib.IndexBytes
import Derived.Lib.Split
import Derived.RegionTactic
import Derived.Deep.QuietTactic
import Derived.BigQuiet
import Derived.Maps.Own
import Derived.Maps.OwnOps
import Derived.Maps.Views
import Derived.Carry
import Derived.Lib.SliceRun
namespace Go.Proofs.YtclcnkmefldpiaaDoorW.PrintLast
open Go.Proofs.YtclcnkmefldpiaaDoorW.PrintWords (Aside0)
section
variable {P : Program} {ops : Array Oper} {Q : Exit → Act → World → Prop} {md : Region.Mode} {S : World → Prop} {ds : List Nat} {T : Bool × List (List Nat × List Nat)} {B : List Nat}
def dB (n m : Nat) : Array Bool := ((List.range n).map fun i => m.testBit i).toArray
theorem pon_ (i : Nat) (N : Option Tmp) {oi : Oper} {v : Value} {fuel : Nat} {l : Array Bool} {a : Act} {w : World} (l' : Array Bool) (hT : rtab md ops = T) {a' : Act} (h : wpAnyLast P md ops Q S ds fuel l' a' w)
    (hi : ops[i]? = some oi := by rfl) (hN : oi.dst = N := by rfl) (hc : anyT T l.toList l'.toList i = true := by kernel_rfl) (hQ : ∀ c a w, Q (.panic c) (a.put oi.dst v) w → Q (.panic c) a w := by exact (fun _ _ _ h => h))
    (hw : Region.wanted oi (yielded ops a.tmps) = true := by rfl) (hy : ∀ w', (execOp a.eval oi).run P w' = .ok (.value v) w' := by intro w'; go_simp; with_reducible rfl)
    (ha : a.put N v = a' := by simp only [Act.put, la_, lb_, lc_, i64_w, i32_w]; rfl) : wpAnyLast P md ops Q S ds (fuel + 1) l a w :=
  pure_ (i := i) (N := N) (v := v) l' hi hN (any_of hT hc) hQ (Or.inl ⟨hw, hy⟩) ha h
end
end Go.Proofs.YtclcnkmefldpiaaDoorW.PrintLast
namespace Go.Proofs.YtclcnkmefldpiaaDoor.P
open Go.RowKit Go.Proofs.YtclcnkmefldpiaaDoorW.PrintWords Go.Proofs.YtclcnkmefldpiaaDoorW.PrintLast Go.Proofs.YtclcnkmefldpiaaDoorW.PrintMore
attribute [local go_sem] max2_int min2_int max_two min_two max_three min_three max_four min_four   -- for this text's walks alone
set_option linter.unusedVariables false
set_option linter.unusedSimpArgs false
set_option linter.unnecessarySimpa false
theorem IsS23.apart {w0 W : World} {g : Nat} {f0 : Bool} {f1 : Bool} {f2 : Bool} {f3 : Bool} {f4 : Int} {f5 : Int} {f6 : ByteArray} {f7 : ByteArray} {α : Type} {d : Kd α} {e : Nat} {base : Nat} {ok : Nat → Prop} {v : Value} {xs : List α} (h : IsS23 w0 W g f0 f1 f2 f3 f4 f5 f6 f7) (ho : d.R e W base ok v xs) (ht : ∀ q, q ∈ e :: d.E → q ≠ 23) : d.R e W base (fun k => ok k ∧ k ≠ g) v xs := by
 obtain ⟨hb, hg⟩ := h
 exact Kd.R_types ho hb ht
end Go.Proofs.YtclcnkmefldpiaaDoor.P
namespace Go.Proofs.YtclcnkmefldpiaaDoor.P
open Go.RowKit Go.Proofs.YtclcnkmefldpiaaDoorW.PrintWords Go.Proofs.YtclcnkmefldpiaaDoorW.PrintLast Go.Proofs.YtclcnkmefldpiaaDoorW.PrintMore
attribute [local go_sem] max2_int min2_int max_two min_two max_three min_three max_four min_four   -- for this text's walks alone
set_option linter.unusedVariables false
set_option linter.unusedSimpArgs false
set_option linter.unnecessarySimpa false
def headgateref21_letter.f (a0 : Int) : Option (Bool) := if a0 ≥ 97 then (if a0 ≤ 122 then (some true) else (if a0 ≥ 65 then (if a0 ≤ 90 then (some true) else (if a0 ≥ 48 then (if a0 ≤ 57 then (some true) else (if a0 = 46 then (some true) else (if a0 = 45 then (some true) else (if a0 = 43 then (some true) else (if a0 = 64 then (some true) else (some (a0 == 95))))))) else (if a0 = 46 then (some true) else (if a0 = 45 then (some true) else (if a0 = 43 then (some true) else (if a0 = 64 then (some true) else (some (a0 == 95)))))))) else (if a0 ≥ 48 then (if a0 ≤ 57 then (some true) else (if a0 = 46 then (some true) else (if a0 = 45 then (some true) else (if a0 = 43 then (some true) else (if a0 = 64 then (some true) else (some (a0 == 95))))))) else (if a0 = 46 then (some true) else (if a0 = 45 then (some true) else (if a0 = 43 then (some true) else (if a0 = 64 then (some true) else (some (a0 == 95))))))))) else (if a0 ≥ 65 then (if a0 ≤ 90 then (some true) else (if a0 ≥ 48 then (if a0 ≤ 57 then (some true) else (if a0 = 46 then (some true) else (if a0 = 45 then (some true) else (if a0 = 43 then (some true) else (if a0 = 64 then (some true) else (some (a0 == 95))))))) else (if a0 = 46 then (some true) else (if a0 = 45 then (some true) else (if a0 = 43 then (some true) else (if a0 = 64 then (some true) else (some (a0 == 95)))))))) else (if a0 ≥ 48 then (if a0 ≤ 57 then (some true) else (if a0 = 46 then (some true) else (if a0 = 45 then (some true) else (if a0 = 43 then (some true) else (if a0 = 64 then (some true) else (some (a0 == 95))))))) else (if a0 = 46 then (some true) else (if a0 = 45 then (some true) else (if a0 = 43 then (some true) else (if a0 = 64 then (some true) else (some (a0 == 95))))))))
set_option maxHeartbeats 8000000 in
set_option maxRecDepth 100000 in
theorem headgateref21_letter.calls (a0 : Int) (r : Bool) (w : World) (h : headgateref21_letter.f a0 = some r) :
  Calls Tryd.prog 50 #[.int .u8 a0] w fun e w' => e = .returned (.bool r) ∧ Drawn0 w w' := by
 have H : (if a0 ≥ 97 then (if a0 ≤ 122 then (some true) else (if a0 ≥ 65 then (if a0 ≤ 90 then (some true) else (if a0 ≥ 48 then (if a0 ≤ 57 then (some true) else (if a0 = 46 then (some true) else (if a0 = 45 then (some true) else (if a0 = 43 then (some true) else (if a0 = 64 then (some true) else (some (a0 == 95))))))) else (if a0 = 46 then (some true) else (if a0 = 45 then (some true) else (if a0 = 43 then (some true) else (if a0 = 64 then (some true) else (some (a0 == 95)))))))) else (if a0 ≥ 48 then (if a0 ≤ 57 then (some true) else (if a0 = 46 then (some true) else (if a0 = 45 then (some true) else (if a0 = 43 then (some true) else (if a0 = 64 then (some true) else (some (a0 == 95))))))) else (if a0 = 46 then (some true) else (if a0 = 45 then (some true) else (if a0 = 43 then (some true) else (if a0 = 64 then (some true) else (some (a0 == 95))))))))) else (if a0 ≥ 65 then (if a0 ≤ 90 then (some true) else (if a0 ≥ 48 then (if a0 ≤ 57 then (some true) else (if a0 = 46 then (some true) else (if a0 = 45 then (some true) else (if a0 = 43 then (some true) else (if a0 = 64 then (some true) else (some (a0 == 95))))))) else (if a0 = 46 then (some true) else (if a0 = 45 then (some true) else (if a0 = 43 then (some true) else (if a0 = 64 then (some true) else (some (a0 == 95)))))))) else (if a0 ≥ 48 then (if a0 ≤ 57 then (some true) else (if a0 = 46 then (some true) else (if a0 = 45 then (some true) else (if a0 = 43 then (some true) else (if a0 = 64 then (some true) else (some (a0 == 95))))))) else (if a0 = 46 then (some true) else (if a0 = 45 then (some true) else (if a0 = 43 then (some true) else (if a0 = 64 then (some true) else (some (a0 == 95))))))))) = some r := h
 clear h
 refine neg_first (p := (a0 ≥ 97)) (fun c2 => ?_) (fun c2 => ?_)
 ·rw [if_neg c2] at H
  have c2b0 : decide (97 ≤ a0) = false := decide_eq_false c2
  clear c2
  refine neg_first (p := (a0 ≥ 65)) (fun c26 => ?_) (fun c26 => ?_)
  ·rw [if_neg c26] at H
   have c26b0 : decide (65 ≤ a0) = false := decide_eq_false c26
   clear c26
   refine neg_first (p := (a0 ≥ 48)) (fun c38 => ?_) (fun c38 => ?_)
   ·rw [if_neg c38] at H
    have c38b0 : decide (48 ≤ a0) = false := decide_eq_false c38
    clear c38
    by_cases c44 : a0 = 46
    ·rw [if_pos c44] at H
     have c44b0 : (a0 == 46) = true := beq_iff_eq.mpr c44
     have c44b1 : (a0 != 46) = false := bne_eq_false_iff_eq.mpr c44
     clear c44
     obtain rfl := Option.some.inj H
     go_enter Tryd.func50, Tryd.ntmps50
     go_wp2
     go_ret
     exact ⟨by first | rfl | (simp; done) | (simp [*]; done), by repeat (first | exact Drawn0.refl _ | apply Drawn0.step)⟩
    rw [if_neg c44] at H
    have c44b0 : (a0 == 46) = false := beq_eq_false_iff_ne.mpr c44
    have c44b1 : (a0 != 46) = true := bne_iff_ne.mpr c44
    by_cases c45 : a0 = 45
    ·rw [if_pos c45] at H
     have c45b0 : (a0 == 45) = true := beq_iff_eq.mpr c45
     have c45b1 : (a0 != 45) = false := bne_eq_false_iff_eq.mpr c45
     clear c45
     obtain rfl := Option.some.inj H
     go_enter Tryd.func50, Tryd.ntmps50
     go_wp2
     go_ret
     exact ⟨by first | rfl | (simp; done) | (simp [*]; done), by repeat (first | exact Drawn0.refl _ | apply Drawn0.step)⟩
    rw [if_neg c45] at H
    have c45b0 : (a0 == 45) = false := beq_eq_false_iff_ne.mpr c45
    have c45b1 : (a0 != 45) = true := bne_iff_ne.mpr c45
    by_cases c46 : a0 = 43
    ·rw [if_pos c46] at H
     have c46b0 : (a0 == 43) = true := beq_iff_eq.mpr c46
     have c46b1 : (a0 != 43) = false := bne_eq_false_iff_eq.mpr c46
     clear c46
     obtain rfl := Option.some.inj H
     go_enter Tryd.func50, Tryd.ntmps50
     go_wp2
     go_ret
     exact ⟨by first | rfl | (simp; done) | (simp [*]; done), by repeat (first | exact Drawn0.refl _ | apply Drawn0.step)⟩
    rw [if_neg c46] at H
    have c46b0 : (a0 == 43) = false := beq_eq_false_iff_ne.mpr c46
    have c46b1 : (a0 != 43) = true := bne_iff_ne.mpr c46
    refine neg_first (p := (a0 = 64)) (fun c47 => ?_) (fun c47 => ?_)
    ·rw [if_neg c47] at H
     have c47b0 : (a0 == 64) = false := beq_eq_false_iff_ne.mpr c47
     have c47b1 : (a0 != 64) = true := bne_iff_ne.mpr c47
     obtain rfl := Option.some.inj H
     go_enter Tryd.func50, Tryd.ntmps50
     go_wp2
     go_ret
     exact ⟨by first | rfl | (simp; done) | (simp [*]; done), by repeat (first | exact Drawn0.refl _ | apply Drawn0.step)⟩
    rw [if_pos c47] at H
    have c47b0 : (a0 == 64) = true := beq_iff_eq.mpr c47
    have c47b1 : (a0 != 64) = false := bne_eq_false_iff_eq.mpr c47
    clear c47
    obtain rfl := Option.some.inj H
    go_enter Tryd.func50, Tryd.ntmps50
    go_wp2
    go_ret
    exact ⟨by first | rfl | (simp; done) | (simp [*]; done), by repeat (first | exact Drawn0.refl _ | apply Drawn0.step)⟩
   rw [if_pos c38] at H
   have c38b0 : decide (48 ≤ a0) = true := decide_eq_true c38
   clear c38
   by_cases c39 : a0 ≤ 57
   ·rw [if_pos c39] at H
    have c39b0 : decide (a0 ≤ 57) = true := decide_eq_true c39
    clear c39
    obtain rfl := Option.some.inj H
    go_enter Tryd.func50, Tryd.ntmps50
    go_wp2
    go_ret
    exact ⟨by first | rfl | (simp; done) | (simp [*]; done), by repeat (first | exact Drawn0.refl _ | apply Drawn0.step)⟩
   rw [if_neg c39] at H
   have c39b0 : decide (a0 ≤ 57) = false := decide_eq_false c39
   clear c39
   by_cases c40 : a0 = 46
   ·rw [if_pos c40] at H
    have c40b0 : (a0 == 46) = true := beq_iff_eq.mpr c40
    have c40b1 : (a0 != 46) = false := bne_eq_false_iff_eq.mpr c40
    clear c40
    obtain rfl := Option.some.inj H
    go_enter Tryd.func50, Tryd.ntmps50
    go_wp2
    go_ret
    exact ⟨by first | rfl | (simp; done) | (simp [*]; done), by repeat (first | exact Drawn0.refl _ | apply Drawn0.step)⟩
   rw [if_neg c40] at H
   have c40b0 : (a0 == 46) = false := beq_eq_false_iff_ne.mpr c40
   have c40b1 : (a0 != 46) = true := bne_iff_ne.mpr c40
   by_cases c41 : a0 = 45
   ·rw [if_pos c41] at H
    have c41b0 : (a0 == 45) = true := beq_iff_eq.mpr c41
    have c41b1 : (a0 != 45) = false := bne_eq_false_iff_eq.mpr c41
    clear c41
    obtain rfl := Option.some.inj H
    go_enter Tryd.func50, Tryd.ntmps50
    go_wp2
    go_ret
    exact ⟨by first | rfl | (simp; done) | (simp [*]; done), by repeat (first | exact Drawn0.refl _ | apply Drawn0.step)⟩
   rw [if_neg c41] at H
   have c41b0 : (a0 == 45) = false := beq_eq_false_iff_ne.mpr c41
   have c41b1 : (a0 != 45) = true := bne_iff_ne.mpr c41
   by_cases c42 : a0 = 43
   ·rw [if_pos c42] at H
    have c42b0 : (a0 == 43) = true := beq_iff_eq.mpr c42
    have c42b1 : (a0 != 43) = false := bne_eq_false_iff_eq.mpr c42
    clear c42
    obtain rfl := Option.some.inj H
    go_enter Tryd.func50, Tryd.ntmps50
    go_wp2
    go_ret
    exact ⟨by first | rfl | (simp; done) | (simp [*]; done), by repeat (first | exact Drawn0.refl _ | apply Drawn0.step)⟩
   rw [if_neg c42] at H
   have c42b0 : (a0 == 43) = false := beq_eq_false_iff_ne.mpr c42
   have c42b1 : (a0 != 43) = true := bne_iff_ne.mpr c42
   refine neg_first (p := (a0 = 64)) (fun c43 => ?_) (fun c43 => ?_)
   ·rw [if_neg c43] at H
    have c43b0 : (a0 == 64) = false := beq_eq_false_iff_ne.mpr c43
    have c43b1 : (a0 != 64) = true := bne_iff_ne.mpr c43
    obtain rfl := Option.some.inj H
    go_enter Tryd.func50, Tryd.ntmps50
    go_wp2
    go_ret
    exact ⟨by first | rfl | (simp; done) | (simp [*]; done), by repeat (first | exact Drawn0.refl _ | apply Drawn0.step)⟩
   rw [if_pos c43] at H
   have c43b0 : (a0 == 64) = true := beq_iff_eq.mpr c43
   have c43b1 : (a0 != 64) = false := bne_eq_false_iff_eq.mpr c43
   clear c43
   obtain rfl := Option.some.inj H
   go_enter Tryd.func50, Tryd.ntmps50
   go_wp2
   go_ret
   exact ⟨by first | rfl | (simp; done) | (simp [*]; done), by repeat (first | exact Drawn0.refl _ | apply Drawn0.step)⟩
  rw [if_pos c26] at H
  have c26b0 : decide (65 ≤ a0) = true := decide_eq_true c26
  clear c26
  by_cases c27 : a0 ≤ 90
  ·rw [if_pos c27] at H
   have c27b0 : decide (a0 ≤ 90) = true := decide_eq_true c27
   clear c27
   obtain rfl := Option.some.inj H
   go_enter Tryd.func50, Tryd.ntmps50
   go_wp2
   go_ret
   exact ⟨by first | rfl | (simp; done) | (simp [*]; done), by repeat (first | exact Drawn0.refl _ | apply Drawn0.step)⟩
  rw [if_neg c27] at H
  have c27b0 : decide (a0 ≤ 90) = false := decide_eq_false c27
  clear c27
  refine neg_first (p := (a0 ≥ 48)) (fun c28 => ?_) (fun c28 => ?_)
  ·rw [if_neg c28] at H
   have c28b0 : decide (48 ≤ a0) = false := decide_eq_false c28
   clear c28
   by_cases c34 : a0 = 46
   ·rw [if_pos c34] at H
    have c34b0 : (a0 == 46) = true := beq_iff_eq.mpr c34
    have c34b1 : (a0 != 46) = false := bne_eq_false_iff_eq.mpr c34
    clear c34
    obtain rfl := Option.some.inj H
    go_enter Tryd.func50, Tryd.ntmps50
    go_wp2
    go_ret
    exact ⟨by first | rfl | (simp; done) | (simp [*]; done), by repeat (first | exact Drawn0.refl _ | apply Drawn0.step)⟩
   rw [if_neg c34] at H
   have c34b0 : (a0 == 46) = false := beq_eq_false_iff_ne.mpr c34
   have c34b1 : (a0 != 46) = true := bne_iff_ne.mpr c34
   by_cases c35 : a0 = 45
   ·rw [if_pos c35] at H
    have c35b0 : (a0 == 45) = true := beq_iff_eq.mpr c35
    have c35b1 : (a0 != 45) = false := bne_eq_false_iff_eq.mpr c35
    clear c35
    obtain rfl := Option.some.inj H
    go_enter Tryd.func50, Tryd.ntmps50
    go_wp2
    go_ret
    exact ⟨by first | rfl | (simp; done) | (simp [*]; done), by repeat (first | exact Drawn0.refl _ | apply Drawn0.step)⟩
   rw [if_neg c35] at H
   have c35b0 : (a0 == 45) = false := beq_eq_false_iff_ne.mpr c35
   have c35b1 : (a0 != 45) = true := bne_iff_ne.mpr c35
   by_cases c36 : a0 = 43
   ·rw [if_pos c36] at H
    have c36b0 : (a0 == 43) = true := beq_iff_eq.mpr c36
    have c36b1 : (a0 != 43) = false := bne_eq_false_iff_eq.mpr c36
    clear c36
    obtain rfl := Option.some.inj H
    go_enter Tryd.func50, Tryd.ntmps50
    go_wp2
    go_ret
    exact ⟨by first | rfl | (simp; done) | (simp [*]; done), by repeat (first | exact Drawn0.refl _ | apply Drawn0.step)⟩
   rw [if_neg c36] at H
   have c36b0 : (a0 == 43) = false := beq_eq_false_iff_ne.mpr c36
   have c36b1 : (a0 != 43) = true := bne_iff_ne.mpr c36
   refine neg_first (p := (a0 = 64)) (fun c37 => ?_) (fun c37 => ?_)
   ·rw [if_neg c37] at H
    have c37b0 : (a0 == 64) = false := beq_eq_false_iff_ne.mpr c37
    have c37b1 : (a0 != 64) = true := bne_iff_ne.mpr c37
    obtain rfl := Option.some.inj H
    go_enter Tryd.func50, Tryd.ntmps50
    go_wp2
    go_ret
    exact ⟨by first | rfl | (simp; done) | (simp [*]; done), by repeat (first | exact Drawn0.refl _ | apply Drawn0.step)⟩
   rw [if_pos c37] at H
   have c37b0 : (a0 == 64) = true := beq_iff_eq.mpr c37
   have c37b1 : (a0 != 64) = false := bne_eq_false_iff_eq.mpr c37
   clear c37
   obtain rfl := Option.some.inj H
   go_enter Tryd.func50, Tryd.ntmps50
   go_wp2
   go_ret
   exact ⟨by first | rfl | (simp; done) | (simp [*]; done), by repeat (first | exact Drawn0.refl _ | apply Drawn0.step)⟩
  rw [if_pos c28] at H
  have c28b0 : decide (48 ≤ a0) = true := decide_eq_true c28
  clear c28
  by_cases c29 : a0 ≤ 57
  ·rw [if_pos c29] at H
   have c29b0 : decide (a0 ≤ 57) = true := decide_eq_true c29
   clear c29
   obtain rfl := Option.some.inj H
   go_enter Tryd.func50, Tryd.ntmps50
   go_wp2
   go_ret
   exact ⟨by first | rfl | (simp; done) | (simp [*]; done), by repeat (first | exact Drawn0.refl _ | apply Drawn0.step)⟩
  rw [if_neg c29] at H
  have c29b0 : decide (a0 ≤ 57) = false := decide_eq_false c29
  clear c29
  by_cases c30 : a0 = 46
  ·rw [if_pos c30] at H
   have c30b0 : (a0 == 46) = true := beq_iff_eq.mpr c30
   have c30b1 : (a0 != 46) = false := bne_eq_false_iff_eq.mpr c30
   clear c30
   obtain rfl := Option.some.inj H
   go_enter Tryd.func50, Tryd.ntmps50
   go_wp2
   go_ret
   exact ⟨by first | rfl | (simp; done) | (simp [*]; done), by repeat (first | exact Drawn0.refl _ | apply Drawn0.step)⟩
  rw [if_neg c30] at H
  have c30b0 : (a0 == 46) = false := beq_eq_false_iff_ne.mpr c30
  have c30b1 : (a0 != 46) = true := bne_iff_ne.mpr c30
  by_cases c31 : a0 = 45
  ·rw [if_pos c31] at H
   have c31b0 : (a0 == 45) = true := beq_iff_eq.mpr c31
   have c31b1 : (a0 != 45) = false := bne_eq_false_iff_eq.mpr c31
   clear c31
   obtain rfl := Option.some.inj H
   go_enter Tryd.func50, Tryd.ntmps50
   go_wp2
   go_ret
   exact ⟨by first | rfl | (simp; done) | (simp [*]; done), by repeat (first | exact Drawn0.refl _ | apply Drawn0.step)⟩
  rw [if_neg c31] at H
  have c31b0 : (a0 == 45) = false := beq_eq_false_iff_ne.mpr c31
  have c31b1 : (a0 != 45) = true := bne_iff_ne.mpr c31
  by_cases c32 : a0 = 43
  ·rw [if_pos c32] at H
   have c32b0 : (a0 == 43) = true := beq_iff_eq.mpr c32
   have c32b1 : (a0 != 43) = false := bne_eq_false_iff_eq.mpr c32
   clear c32
   obtain rfl := Option.some.inj H
   go_enter Tryd.func50, Tryd.ntmps50
   go_wp2
   go_ret
   exact ⟨by first | rfl | (simp; done) | (simp [*]; done), by repeat (first | exact Drawn0.refl _ | apply Drawn0.step)⟩
  rw [if_neg c32] at H
  have c32b0 : (a0 == 43) = false := beq_eq_false_iff_ne.mpr c32
  have c32b1 : (a0 != 43) = true := bne_iff_ne.mpr c32
  refine neg_first (p := (a0 = 64)) (fun c33 => ?_) (fun c33 => ?_)
  ·rw [if_neg c33] at H
   have c33b0 : (a0 == 64) = false := beq_eq_false_iff_ne.mpr c33
   have c33b1 : (a0 != 64) = true := bne_iff_ne.mpr c33
   obtain rfl := Option.some.inj H
   go_enter Tryd.func50, Tryd.ntmps50
   go_wp2
   go_ret
   exact ⟨by first | rfl | (simp; done) | (simp [*]; done), by repeat (first | exact Drawn0.refl _ | apply Drawn0.step)⟩
  rw [if_pos c33] at H
  have c33b0 : (a0 == 64) = true := beq_iff_eq.mpr c33
  have c33b1 : (a0 != 64) = false := bne_eq_false_iff_eq.mpr c33
  clear c33
  obtain rfl := Option.some.inj H
  go_enter Tryd.func50, Tryd.ntmps50
  go_wp2
  go_ret
  exact ⟨by first | rfl | (simp; done) | (simp [*]; done), by repeat (first | exact Drawn0.refl _ | apply Drawn0.step)⟩
 rw [if_pos c2] at H
 have c2b0 : decide (97 ≤ a0) = true := decide_eq_true c2
 clear c2
 by_cases c3 : a0 ≤ 122
 ·rw [if_pos c3] at H
  have c3b0 : decide (a0 ≤ 122) = true := decide_eq_true c3
  clear c3
  obtain rfl := Option.some.inj H
  go_enter Tryd.func50, Tryd.ntmps50
  go_wp2
  go_ret
  exact ⟨by first | rfl | (simp; done) | (simp [*]; done), by repeat (first | exact Drawn0.refl _ | apply Drawn0.step)⟩
 rw [if_neg c3] at H
 have c3b0 : decide (a0 ≤ 122) = false := decide_eq_false c3
 clear c3
 refine neg_first (p := (a0 ≥ 65)) (fun c4 => ?_) (fun c4 => ?_)
 ·rw [if_neg c4] at H
  have c4b0 : decide (65 ≤ a0) = false := decide_eq_false c4
  clear c4
  refine neg_first (p := (a0 ≥ 48)) (fun c16 => ?_) (fun c16 => ?_)
  ·rw [if_neg c16] at H
   have c16b0 : decide (48 ≤ a0) = false := decide_eq_false c16
   clear c16
   by_cases c22 : a0 = 46
   ·rw [if_pos c22] at H
    have c22b0 : (a0 == 46) = true := beq_iff_eq.mpr c22
    have c22b1 : (a0 != 46) = false := bne_eq_false_iff_eq.mpr c22
    clear c22
    obtain rfl := Option.some.inj H
    go_enter Tryd.func50, Tryd.ntmps50
    go_wp2
    go_ret
    exact ⟨by first | rfl | (simp; done) | (simp [*]; done), by repeat (first | exact Drawn0.refl _ | apply Drawn0.step)⟩
   rw [if_neg c22] at H
   have c22b0 : (a0 == 46) = false := beq_eq_false_iff_ne.mpr c22
   have c22b1 : (a0 != 46) = true := bne_iff_ne.mpr c22
   by_cases c23 : a0 = 45
   ·rw [if_pos c23] at H
    have c23b0 : (a0 == 45) = true := beq_iff_eq.mpr c23
    have c23b1 : (a0 != 45) = false := bne_eq_false_iff_eq.mpr c23
    clear c23
    obtain rfl := Option.some.inj H
    go_enter Tryd.func50, Tryd.ntmps50
    go_wp2
    go_ret
    exact ⟨by first | rfl | (simp; done) | (simp [*]; done), by repeat (first | exact Drawn0.refl _ | apply Drawn0.step)⟩
   rw [if_neg c23] at H
   have c23b0 : (a0 == 45) = false := beq_eq_false_iff_ne.mpr c23
   have c23b1 : (a0 != 45) = true := bne_iff_ne.mpr c23
   by_cases c24 : a0 = 43
   ·rw [if_pos c24] at H
    have c24b0 : (a0 == 43) = true := beq_iff_eq.mpr c24
    have c24b1 : (a0 != 43) = false := bne_eq_false_iff_eq.mpr c24
    clear c24
    obtain rfl := Option.some.inj H
    go_enter Tryd.func50, Tryd.ntmps50
    go_wp2
    go_ret
    exact ⟨by first | rfl | (simp; done) | (simp [*]; done), by repeat (first | exact Drawn0.refl _ | apply Drawn0.step)⟩
   rw [if_neg c24] at H
   have c24b0 : (a0 == 43) = false := beq_eq_false_iff_ne.mpr c24
   have c24b1 : (a0 != 43) = true := bne_iff_ne.mpr c24
   refine neg_first (p := (a0 = 64)) (fun c25 => ?_) (fun c25 => ?_)
   ·rw [if_neg c25] at H
    have c25b0 : (a0 == 64) = false := beq_eq_false_iff_ne.mpr c25
    have c25b1 : (a0 != 64) = true := bne_iff_ne.mpr c25
    obtain rfl := Option.some.inj H
    go_enter Tryd.func50, Tryd.ntmps50
    go_wp2
    go_ret
    exact ⟨by first | rfl | (simp; done) | (simp [*]; done), by repeat (first | exact Drawn0.refl _ | apply Drawn0.step)⟩
   rw [if_pos c25] at H
   have c25b0 : (a0 == 64) = true := beq_iff_eq.mpr c25
   have c25b1 : (a0 != 64) = false := bne_eq_false_iff_eq.mpr c25
   clear c25
   obtain rfl := Option.some.inj H
   go_enter Tryd.func50, Tryd.ntmps50
   go_wp2
   go_ret
   exact ⟨by first | rfl | (simp; done) | (simp [*]; done), by repeat (first | exact Drawn0.refl _ | apply Drawn0.step)⟩
  rw [if_pos c16] at H
  have c16b0 : decide (48 ≤ a0) = true := decide_eq_true c16
  clear c16
  by_cases c17 : a0 ≤ 57
  ·rw [if_pos c17] at H
   have c17b0 : decide (a0 ≤ 57) = true := decide_eq_true c17
   clear c17
   obtain rfl := Option.some.inj H
   go_enter Tryd.func50, Tryd.ntmps50
   go_wp2
   go_ret
   exact ⟨by first | rfl | (simp; done) | (simp [*]; done), by repeat (first | exact Drawn0.refl _ | apply Drawn0.step)⟩
  rw [if_neg c17] at H
  have c17b0 : decide (a0 ≤ 57) = false := decide_eq_false c17
  clear c17
  by_cases c18 : a0 = 46
  ·rw [if_pos c18] at H
   have c18b0 : (a0 == 46) = true := beq_iff_eq.mpr c18
   have c18b1 : (a0 != 46) = false := bne_eq_false_iff_eq.mpr c18
   clear c18
   obtain rfl := Option.some.inj H
   go_enter Tryd.func50, Tryd.ntmps50
   go_wp2
   go_ret
   exact ⟨by first | rfl | (simp; done) | (simp [*]; done), by repeat (first | exact Drawn0.refl _ | apply Drawn0.step)⟩
  rw [if_neg c18] at H
  have c18b0 : (a0 == 46) = false := beq_eq_false_iff_ne.mpr c18
  have c18b1 : (a0 != 46) = true := bne_iff_ne.mpr c18
  by_cases c19 : a0 = 45
  ·rw [if_pos c19] at H
   have c19b0 : (a0 == 45) = true := beq_iff_eq.mpr c19
   have c19b1 : (a0 != 45) = false := bne_eq_false_iff_eq.mpr c19
   clear c19
   obtain rfl := Option.some.inj H
   go_enter Tryd.func50, Tryd.ntmps50
   go_wp2
   go_ret
   exact ⟨by first | rfl | (simp; done) | (simp [*]; done), by repeat (first | exact Drawn0.refl _ | apply Drawn0.step)⟩
  rw [if_neg c19] at H
  have c19b0 : (a0 == 45) = false := beq_eq_false_iff_ne.mpr c19
  have c19b1 : (a0 != 45) = true := bne_iff_ne.mpr c19
  by_cases c20 : a0 = 43
  ·rw [if_pos c20] at H
   have c20b0 : (a0 == 43) = true := beq_iff_eq.mpr c20
   have c20b1 : (a0 != 43) = false := bne_eq_false_iff_eq.mpr c20
   clear c20
   obtain rfl := Option.some.inj H
   go_enter Tryd.func50, Tryd.ntmps50
   go_wp2
   go_ret
   exact ⟨by first | rfl | (simp; done) | (simp [*]; done), by repeat (first | exact Drawn0.refl _ | apply Drawn0.step)⟩
  rw [if_neg c20] at H
  have c20b0 : (a0 == 43) = false := beq_eq_false_iff_ne.mpr c20
  have c20b1 : (a0 != 43) = true := bne_iff_ne.mpr c20
  refine neg_first (p := (a0 = 64)) (fun c21 => ?_) (fun c21 => ?_)
  ·rw [if_neg c21] at H
   have c21b0 : (a0 == 64) = false := beq_eq_false_iff_ne.mpr c21
   have c21b1 : (a0 != 64) = true := bne_iff_ne.mpr c21
   obtain rfl := Option.some.inj H
   go_enter Tryd.func50, Tryd.ntmps50
   go_wp2
   go_ret
   exact ⟨by first | rfl | (simp; done) | (simp [*]; done), by repeat (first | exact Drawn0.refl _ | apply Drawn0.step)⟩
  rw [if_pos c21] at H
  have c21b0 : (a0 == 64) = true := beq_iff_eq.mpr c21
  have c21b1 : (a0 != 64) = false := bne_eq_false_iff_eq.mpr c21
  clear c21
  obtain rfl := Option.some.inj H
  go_enter Tryd.func50, Tryd.ntmps50
  go_wp2
  go_ret
  exact ⟨by first | rfl | (simp; done) | (simp [*]; done), by repeat (first | exact Drawn0.refl _ | apply Drawn0.step)⟩
 rw [if_pos c4] at H
 have c4b0 : decide (65 ≤ a0) = true := decide_eq_true c4
 clear c4
 by_cases c5 : a0 ≤ 90
 ·rw [if_pos c5] at H
  have c5b0 : decide (a0 ≤ 90) = true := decide_eq_true c5
  clear c5
  obtain rfl := Option.some.inj H
  go_enter Tryd.func50, Tryd.ntmps50
  go_wp2
  go_ret
  exact ⟨by first | rfl | (simp; done) | (simp [*]; done), by repeat (first | exact Drawn0.refl _ | apply Drawn0.step)⟩
 rw [if_neg c5] at H
 have c5b0 : decide (a0 ≤ 90) = false := decide_eq_false c5
 clear c5
 refine neg_first (p := (a0 ≥ 48)) (fun c6 => ?_) (fun c6 => ?_)
 ·rw [if_neg c6] at H
  have c6b0 : decide (48 ≤ a0) = false := decide_eq_false c6
  clear c6
  by_cases c12 : a0 = 46
  ·rw [if_pos c12] at H
   have c12b0 : (a0 == 46) = true := beq_iff_eq.mpr c12
   have c12b1 : (a0 != 46) = false := bne_eq_false_iff_eq.mpr c12
   clear c12
   obtain rfl := Option.some.inj H
   go_enter Tryd.func50, Tryd.ntmps50
   go_wp2
   go_ret
   exact ⟨by first | rfl | (simp; done) | (simp [*]; done), by repeat (first | exact Drawn0.refl _ | apply Drawn0.step)⟩
  rw [if_neg c12] at H
  have c12b0 : (a0 == 46) = false := beq_eq_false_iff_ne.mpr c12
  have c12b1 : (a0 != 46) = true := bne_iff_ne.mpr c12
  by_cases c13 : a0 = 45
  ·rw [if_pos c13] at H
   have c13b0 : (a0 == 45) = true := beq_iff_eq.mpr c13
   have c13b1 : (a0 != 45) = false := bne_eq_false_iff_eq.mpr c13
   clear c13
   obtain rfl := Option.some.inj H
   go_enter Tryd.func50, Tryd.ntmps50
   go_wp2
   go_ret
   exact ⟨by first | rfl | (simp; done) | (simp [*]; done), by repeat (first | exact Drawn0.refl _ | apply Drawn0.step)⟩
  rw [if_neg c13] at H
  have c13b0 : (a0 == 45) = false := beq_eq_false_iff_ne.mpr c13
  have c13b1 : (a0 != 45) = true := bne_iff_ne.mpr c13
  by_cases c14 : a0 = 43
  ·rw [if_pos c14] at H
   have c14b0 : (a0 == 43) = true := beq_iff_eq.mpr c14
   have c14b1 : (a0 != 43) = false := bne_eq_false_iff_eq.mpr c14
   clear c14
   obtain rfl := Option.some.inj H
   go_enter Tryd.func50, Tryd.ntmps50
   go_wp2
   go_ret
   exact ⟨by first | rfl | (simp; done) | (simp [*]; done), by repeat (first | exact Drawn0.refl _ | apply Drawn0.step)⟩
  rw [if_neg c14] at H
  have c14b0 : (a0 == 43) = false := beq_eq_false_iff_ne.mpr c14
  have c14b1 : (a0 != 43) = true := bne_iff_ne.mpr c14
  refine neg_first (p := (a0 = 64)) (fun c15 => ?_) (fun c15 => ?_)
  ·rw [if_neg c15] at H
   have c15b0 : (a0 == 64) = false := beq_eq_false_iff_ne.mpr c15
   have c15b1 : (a0 != 64) = true := bne_iff_ne.mpr c15
   obtain rfl := Option.some.inj H
   go_enter Tryd.func50, Tryd.ntmps50
   go_wp2
   go_ret
   exact ⟨by first | rfl | (simp; done) | (simp [*]; done), by repeat (first | exact Drawn0.refl _ | apply Drawn0.step)⟩
  rw [if_pos c15] at H
  have c15b0 : (a0 == 64) = true := beq_iff_eq.mpr c15
  have c15b1 : (a0 != 64) = false := bne_eq_false_iff_eq.mpr c15
  clear c15
  obtain rfl := Option.some.inj H
  go_enter Tryd.func50, Tryd.ntmps50
  go_wp2
  go_ret
  exact ⟨by first | rfl | (simp; done) | (simp [*]; done), by repeat (first | exact Drawn0.refl _ | apply Drawn0.step)⟩
 rw [if_pos c6] at H
 have c6b0 : decide (48 ≤ a0) = true := decide_eq_true c6
 clear c6
 by_cases c7 : a0 ≤ 57
 ·rw [if_pos c7] at H
  have c7b0 : decide (a0 ≤ 57) = true := decide_eq_true c7
  clear c7
  obtain rfl := Option.some.inj H
  go_enter Tryd.func50, Tryd.ntmps50
  go_wp2
  go_ret
  exact ⟨by first | rfl | (simp; done) | (simp [*]; done), by repeat (first | exact Drawn0.refl _ | apply Drawn0.step)⟩
 rw [if_neg c7] at H
 have c7b0 : decide (a0 ≤ 57) = false := decide_eq_false c7
 clear c7
 by_cases c8 : a0 = 46
 ·rw [if_pos c8] at H
  have c8b0 : (a0 == 46) = true := beq_iff_eq.mpr c8
  have c8b1 : (a0 != 46) = false := bne_eq_false_iff_eq.mpr c8
  clear c8
  obtain rfl := Option.some.inj H
  go_enter Tryd.func50, Tryd.ntmps50
  go_wp2
  go_ret
  exact ⟨by first | rfl | (simp; done) | (simp [*]; done), by repeat (first | exact Drawn0.refl _ | apply Drawn0.step)⟩
 rw [if_neg c8] at H
 have c8b0 : (a0 == 46) = false := beq_eq_false_iff_ne.mpr c8
 have c8b1 : (a0 != 46) = true := bne_iff_ne.mpr c8
 by_cases c9 : a0 = 45
 ·rw [if_pos c9] at H
  have c9b0 : (a0 == 45) = true := beq_iff_eq.mpr c9
  have c9b1 : (a0 != 45) = false := bne_eq_false_iff_eq.mpr c9
  clear c9
  obtain rfl := Option.some.inj H
  go_enter Tryd.func50, Tryd.ntmps50
  go_wp2
  go_ret
  exact ⟨by first | rfl | (simp; done) | (simp [*]; done), by repeat (first | exact Drawn0.refl _ | apply Drawn0.step)⟩
 rw [if_neg c9] at H
 have c9b0 : (a0 == 45) = false := beq_eq_false_iff_ne.mpr c9
 have c9b1 : (a0 != 45) = true := bne_iff_ne.mpr c9
 by_cases c10 : a0 = 43
 ·rw [if_pos c10] at H
  have c10b0 : (a0 == 43) = true := beq_iff_eq.mpr c10
  have c10b1 : (a0 != 43) = false := bne_eq_false_iff_eq.mpr c10
  clear c10
  obtain rfl := Option.some.inj H
  go_enter Tryd.func50, Tryd.ntmps50
  go_wp2
  go_ret
  exact ⟨by first | rfl | (simp; done) | (simp [*]; done), by repeat (first | exact Drawn0.refl _ | apply Drawn0.step)⟩
 rw [if_neg c10] at H
 have c10b0 : (a0 == 43) = false := beq_eq_false_iff_ne.mpr c10
 have c10b1 : (a0 != 43) = true := bne_iff_ne.mpr c10
 refine neg_first (p := (a0 = 64)) (fun c11 => ?_) (fun c11 => ?_)
 ·rw [if_neg c11] at H
  have c11b0 : (a0 == 64) = false := beq_eq_false_iff_ne.mpr c11
  have c11b1 : (a0 != 64) = true := bne_iff_ne.mpr c11
  obtain rfl := Option.some.inj H
  go_enter Tryd.func50, Tryd.ntmps50
  go_wp2
  go_ret
  exact ⟨by first | rfl | (simp; done) | (simp [*]; done), by repeat (first | exact Drawn0.refl _ | apply Drawn0.step)⟩
 rw [if_pos c11] at H
 have c11b0 : (a0 == 64) = true := beq_iff_eq.mpr c11
 have c11b1 : (a0 != 64) = false := bne_eq_false_iff_eq.mpr c11
 clear c11
 obtain rfl := Option.some.inj H
 go_enter Tryd.func50, Tryd.ntmps50
 go_wp2
 go_ret
 exact ⟨by first | rfl | (simp; done) | (simp [*]; done), by repeat (first | exact Drawn0.refl _ | apply Drawn0.step)⟩
end Go.Proofs.YtclcnkmefldpiaaDoor.P
namespace Go.Proofs.YtclcnkmefldpiaaDoor.P
open Go.RowKit Go.Proofs.YtclcnkmefldpiaaDoorW.PrintWords Go.Proofs.YtclcnkmefldpiaaDoorW.PrintLast Go.Proofs.YtclcnkmefldpiaaDoorW.PrintMore
attribute [local go_sem] max2_int min2_int max_two min_two max_three min_three max_four min_four   -- for this text's walks alone
set_option linter.unusedVariables false
set_option linter.unusedSimpArgs false
set_option linter.unnecessarySimpa false
mutual
def headgateref21_Good.l0 : Nat → List (S45) → Int → Option (Bool)
 | 0, _, _ => none
 | k + 1, x0, x3 => if x3 < (x0.length : Int) then (if 0 ≤ x3 then (if (((rd_T45 x0 x3).f0).size : Int) < 1 then (headgateref21_Good.j1 k x0 x3 true) else (if (((rd_T45 x0 x3).f0).size : Int) > 63 then (headgateref21_Good.j1 k x0 x3 true) else (headgateref21_Good.j1 k x0 x3 (decide ((((rd_T45 x0 x3).f1).size : Int) > 255))))) else (none)) else (some true)
def headgateref21_Good.j1 : Nat → List (S45) → Int → Bool → Option (Bool)
 | 0, _, _, _ => none
 | k + 1, x0, x3, x40 => if x40 = true then (some false) else (headgateref21_Good.l1 k x0 x3 0)
def headgateref21_Good.l1 : Nat → List (S45) → Int → Int → Option (Bool)
 | 0, _, _, _ => none
 | k + 1, x0, x3, x4 => if 0 ≤ x3 then (if x3 < (x0.length : Int) then (if x4 < (((rd_T45 x0 x3).f0).size : Int) then (if 0 ≤ x4 then ((headgateref21_letter.f (bt ((rd_T45 x0 x3).f0) x4)).bind fun t161 => (if t161 = true then (headgateref21_Good.l1 k x0 x3 (wrap64 (x4 + 1))) else (some false))) else (none)) else (headgateref21_Good.l2 k x0 x3 0)) else (none)) else (none)
def headgateref21_Good.l2 : Nat → List (S45) → Int → Int → Option (Bool)
 | 0, _, _, _ => none
 | k + 1, x0, x3, x5 => if 0 ≤ x3 then (if x3 < (x0.length : Int) then (if x5 < (((rd_T45 x0 x3).f1).size : Int) then (if 0 ≤ x5 then (if (bt ((rd_T45 x0 x3).f1) x5) = 0 then (some false) else (headgateref21_Good.l2 k x0 x3 (wrap64 (x5 + 1)))) else (none)) else (headgateref21_Good.l3 k x0 x3 0)) else (none)) else (none)
def headgateref21_Good.l3 : Nat → List (S45) → Int → Int → Option (Bool)
 | 0, _, _, _ => none
 | k + 1, x0, x3, x6 => if x6 < x3 then (if 0 ≤ x6 then (if x6 < (x0.length : Int) then (if 0 ≤ x3 then (if x3 < (x0.length : Int) then (if ((rd_T45 x0 x6).f0).toList = ((rd_T45 x0 x3).f0).toList then (some false) else (headgateref21_Good.l3 k x0 x3 (wrap64 (x6 + 1)))) else (none)) else (none)) else (none)) else (none)) else (headgateref21_Good.l0 k x0 (wrap64 (x3 + 1)))
end
def headgateref21_Good.f (k : Nat) (l0 : List (S45)) : Option (Bool) := if (l0.length : Int) > 16 then (some false) else (headgateref21_Good.l0 k l0 0)
set_option maxHeartbeats 8000000 in
set_option maxRecDepth 100000 in
theorem headgateref21_Good.calls (k : Nat) (A0 : Option Addr) (c0 : Nat) (l0 : List (S45)) (r : Bool) (w : World) (hr0 : Kd.C k45 w A0 l0.length l0) (hc0 : l0.length ≤ c0) (h : headgateref21_Good.f k l0 = some r) :
  Calls Tryd.prog 24 #[.slice A0 l0.length c0] w fun e w' => e = .returned (.bool r) ∧ Drawn0 w w' := by
 have HR0 := Aside0.mk hr0
 have HC0 := Aside0.mk hc0
 clear hr0 hc0
 have H : (if (l0.length : Int) > 16 then (some false) else (headgateref21_Good.l0 k l0 0)) = some r := h
 clear h
 by_cases c2 : (l0.length : Int) > 16
 ·rw [if_pos c2] at H
  have c2b0 : decide (16 < (l0.length : Int)) = true := decide_eq_true c2
  have c2b1 : decide (16 < l0.length) = true := decide_eq_true (by omega)
  clear c2
  obtain rfl := Option.some.inj H
  go_enter Tryd.func24, Tryd.ntmps24
  go_wp2
  repeat (go_quiet (fail); try go_wp2)
  go_ret
  exact ⟨by first | rfl | (simp; done) | (simp [*]; done), by repeat (first | exact Drawn0.refl _ | apply Drawn0.step)⟩
 rw [if_neg c2] at H
 have c2b0 : decide (16 < (l0.length : Int)) = false := decide_eq_false c2
 have c2b1 : decide (16 < l0.length) = false := decide_eq_false (by omega)
 clear c2
 have H' := Aside0.mk H
 clear H
 go_enter Tryd.func24, Tryd.ntmps24
 go_wp2
 repeat (go_quiet (fail); try go_wp2)
 go_loopg [3] k (fun kq v3 w' => ∃ (x3_1 : Int), v3 = .int .i64 x3_1 ∧ Aside0 (headgateref21_Good.l0 kq l0 x3_1 = some r) ∧ Aside0 (kq ≤ k) ∧ Drawn0 w w')
 case atStart => exact ⟨(0), (by first | rfl | (simp; done) | (simp [*]; done)), H', ⟨Nat.le_refl _⟩, by repeat (first | exact Drawn0.refl _ | apply Drawn0.step)⟩
 case round =>
  clear H'
  try clear c2
  try clear c2b0
  try clear c2b1
  try clear p2
  obtain ⟨x3_1, rfl, HA, HK1, ⟨m1, rfl⟩⟩ := hrel
  cases gk with
  | zero => exact absurd HA.out (by simp [headgateref21_Good.l0])
  | succ k1 =>
   have H := HA.out
   clear HA
   simp only [headgateref21_Good.l0] at H
   refine neg_first (p := (x3_1 < (l0.length : Int))) (fun c3 => ?_) (fun c3 => ?_)
   ·rw [if_neg c3] at H
    have c3b0 : decide (x3_1 < (l0.length : Int)) = false := decide_eq_false c3
    clear c3
    obtain rfl := Option.some.inj H
    go_wp2
    repeat (go_quiet (fail); try go_wp2)
    go_ret
    exact ⟨by first | rfl | (simp; done) | (simp [*]; done), by repeat (first | exact Drawn0.refl _ | apply Drawn0.step)⟩
   rw [if_pos c3] at H
   have c3b0 : decide (x3_1 < (l0.length : Int)) = true := decide_eq_true c3
   clear c3
   have HC4 := Aside0.mk H
   clear H
   go_upto_region 6 with (fail)
   repeat (go_quiet (fail); go_upto_region 6 with (fail))
   go_cut [40] (fun v40 wc => ∃ (kq : Nat) (x40_3 : Bool), v40 = .bool x40_3 ∧ Aside0 (headgateref21_Good.j1 kq l0 x3_1 x40_3 = some r) ∧ Aside0 (kq ≤ k1) ∧ Drawn0 w wc)
   case first =>
    have H := HC4.out
    clear HC4
    refine neg_first (p := (0 ≤ x3_1)) (fun c5 => ?_) (fun c5 => ?_)
    ·rw [if_neg c5] at H
     exact absurd H (by simp)
    rw [if_pos c5] at H
    have c5b0 : decide (0 ≤ x3_1) = true := decide_eq_true c5
    clear c5
    (first | rw [c5b0] | (simp only [i64_w, i32_w]; rw [c5b0]) | skip)
    by_cases c6 : (((rd_T45 l0 x3_1).f0).size : Int) < 1
    ·rw [if_pos c6] at H
     have c6b0 : decide ((((rd_T45 l0 x3_1).f0).size : Int) < 1) = true := decide_eq_true c6
     have c6b1 : decide (((rd_T45 l0 x3_1).f0).size < 1) = true := decide_eq_true (by omega)
     clear c6
     have H' := Aside0.mk H
     clear H
     have p156 : 0 ≤ (x3_1 : Int) := of_decide_eq_true (by first | (with_reducible assumption) | assumption)
     have q156 : x3_1 < (l0.length : Int) := of_decide_eq_true (by first | (with_reducible assumption) | assumption)
     obtain ⟨ad156, e156, hx156_0, hx156_1⟩ := at_T45 HR0.out x3_1 p156 q156
     cases e156
     replace p156 := eq_true p156
     replace q156 := eq_true q156
     go_wp2
     repeat (go_quiet (fail); try go_wp2)
     go_meet
     case rel => exact ⟨_, (true), (by first | rfl | (simp; done) | (simp [*]; done)), H', ⟨by have := HK1.out; first | omega | exact Nat.le_refl _⟩, by repeat (first | exact Drawn0.refl _ | apply Drawn0.step)⟩
    rw [if_neg c6] at H
    have c6b0 : decide ((((rd_T45 l0 x3_1).f0).size : Int) < 1) = false := decide_eq_false c6
    have c6b1 : decide (((rd_T45 l0 x3_1).f0).size < 1) = false := decide_eq_false (by omega)
    clear c6
    by_cases c7 : (((rd_T45 l0 x3_1).f0).size : Int) > 63
    ·rw [if_pos c7] at H
     have c7b0 : decide (63 < (((rd_T45 l0 x3_1).f0).size : Int)) = true := decide_eq_true c7
     have c7b1 : decide (63 < ((rd_T45 l0 x3_1).f0).size) = true := decide_eq_true (by omega)
     clear c7
     have H' := Aside0.mk H
     clear H
     have p156 : 0 ≤ (x3_1 : Int) := of_decide_eq_true (by first | (with_reducible assumption) | assumption)
     have q156 : x3_1 < (l0.length : Int) := of_decide_eq_true (by first | (with_reducible assumption) | assumption)
     obtain ⟨ad156, e156, hx156_0, hx156_1⟩ := at_T45 HR0.out x3_1 p156 q156
     cases e156
     replace p156 := eq_true p156
     replace q156 := eq_true q156
     have p157 : 0 ≤ (x3_1 : Int) := of_decide_eq_true (by first | (with_reducible assumption) | assumption)
     have q157 : x3_1 < (l0.length : Int) := of_decide_eq_true (by first | (with_reducible assumption) | assumption)
     obtain ⟨ad157, e157, hx157_0, hx157_1⟩ := at_T45 HR0.out x3_1 p157 q157
     obtain rfl : ad156 = ad157 := (by injection e157)
     replace p157 := eq_true p157
     replace q157 := eq_true q157
     go_wp2
     repeat (go_quiet (fail); try go_wp2)
     go_meet
     case rel => exact ⟨_, (true), (by first | rfl | (simp; done) | (simp [*]; done)), H', ⟨by have := HK1.out; first | omega | exact Nat.le_refl _⟩, by repeat (first | exact Drawn0.refl _ | apply Drawn0.step)⟩
    rw [if_neg c7] at H
    have c7b0 : decide (63 < (((rd_T45 l0 x3_1).f0).size : Int)) = false := decide_eq_false c7
    have c7b1 : decide (63 < ((rd_T45 l0 x3_1).f0).size) = false := decide_eq_false (by omega)
    clear c7
    have H' := Aside0.mk H
    clear H
    have p156 : 0 ≤ (x3_1 : Int) := of_decide_eq_true (by first | (with_reducible assumption) | assumption)
    have q156 : x3_1 < (l0.length : Int) := of_decide_eq_true (by first | (with_reducible assumption) | assumption)
    obtain ⟨ad156, e156, hx156_0, hx156_1⟩ := at_T45 HR0.out x3_1 p156 q156
    cases e156
    replace p156 := eq_true p156
    replace q156 := eq_true q156
    have p157 : 0 ≤ (x3_1 : Int) := of_decide_eq_true (by first | (with_reducible assumption) | assumption)
    have q157 : x3_1 < (l0.length : Int) := of_decide_eq_true (by first | (with_reducible assumption) | assumption)
    obtain ⟨ad157, e157, hx157_0, hx157_1⟩ := at_T45 HR0.out x3_1 p157 q157
    obtain rfl : ad156 = ad157 := (by injection e157)
    replace p157 := eq_true p157
    replace q157 := eq_true q157
    have p158 : 0 ≤ (x3_1 : Int) := of_decide_eq_true (by first | (with_reducible assumption) | assumption)
    have q158 : x3_1 < (l0.length : Int) := of_decide_eq_true (by first | (with_reducible assumption) | assumption)
    obtain ⟨ad158, e158, hx158_0, hx158_1⟩ := at_T45 HR0.out x3_1 p158 q158
    obtain rfl : ad156 = ad158 := (by injection e158)
    replace p158 := eq_true p158
    replace q158 := eq_true q158
    go_wp2
    repeat (go_quiet (fail); try go_wp2)
    go_meet
    case rel => exact ⟨_, (decide ((((rd_T45 l0 x3_1).f1).size : Int) > 255)), (by first | rfl | (simp; done) | (simp [*]; done)), H', ⟨by have := HK1.out; first | omega | exact Nat.le_refl _⟩, by repeat (first | exact Drawn0.refl _ | apply Drawn0.step)⟩
   case rest =>
    clear HC4
    try clear p1
    try clear q1
    try clear hx1
    try clear c2
    try clear c2b0
    try clear c2b1
    try clear p2
    try clear c3
    try clear c3b0
    try clear c5
    try clear c5b0
    try clear c6
    try clear c6b0
    try clear c6b1
    try clear c7
    try clear c7b0
    try clear c7b1
    try clear hx156_0
    try clear hx156_1
    try clear hx157_0
    try clear hx157_1
    try clear hx158_0
    try clear hx158_1
    try clear p156
    try clear p157
    try clear p158
    try clear p2
    try clear q156
    try clear q157
    try clear q158
    obtain ⟨kq, x40_3, rfl, HA, HJ3, ⟨mc3, rfl⟩⟩ := hcut
    cases kq with
    | zero => exact absurd HA.out (by simp [headgateref21_Good.j1])
    | succ kj3 =>
     have H := HA.out
     clear HA
     simp only [headgateref21_Good.j1] at H
     by_cases c8 : x40_3 = true
     ·subst c8
      have H1 := H
      rw [if_pos rfl] at H1
      clear H
      have H := H1
      clear H1
      obtain rfl := Option.some.inj H
      go_wp2
      repeat (go_quiet (fail); try go_wp2)
      go_ret
      exact ⟨by first | rfl | (simp; done) | (simp [*]; done), by repeat (first | exact Drawn0.refl _ | apply Drawn0.step)⟩
     replace c8 := Bool.eq_false_iff.mpr c8
     subst c8
     have H1 := H
     rw [if_neg (show ¬ (false = true) by decide)] at H1
     clear H
     have H := H1
     clear H1
     have H' := Aside0.mk H
     clear H
     go_wp2
     repeat (go_quiet (fail); try go_wp2)
     go_loopg [4] kj3 (fun kq v4 w' => ∃ (x4_3 : Int), v4 = .int .i64 x4_3 ∧ Aside0 (headgateref21_Good.l1 kq l0 x3_1 x4_3 = some r) ∧ Aside0 (kq ≤ kj3) ∧ Drawn0 w w')
     case atStart => exact ⟨(0), (by first | rfl | (simp; done) | (simp [*]; done)), H', ⟨Nat.le_refl _⟩, by repeat (first | exact Drawn0.refl _ | apply Drawn0.step)⟩
     case round =>
      clear H'
      try clear p1
      try clear q1
      try clear hx1
      try clear c2
      try clear c2b0
      try clear c2b1
      try clear p2
      try clear c3
      try clear c3b0
      try clear c5
      try clear c5b0
      try clear c6
      try clear c6b0
      try clear c6b1
      try clear c7
      try clear c7b0
      try clear c7b1
      try clear c8
      try clear hx156_0
      try clear hx156_1
      try clear hx157_0
      try clear hx157_1
      try clear hx158_0
      try clear hx158_1
      try clear p1
      try clear p156
      try clear p157
      try clear p158
      try clear p2
      try clear q1
      try clear q156
      try clear q157
      try clear q158
      obtain ⟨x4_3, rfl, HA, HK3, ⟨m3, rfl⟩⟩ := hrel
      cases gk with
      | zero => exact absurd HA.out (by simp [headgateref21_Good.l1])
      | succ k3 =>
       have H := HA.out
       clear HA
       simp only [headgateref21_Good.l1] at H
       refine neg_first (p := (0 ≤ x3_1)) (fun c9 => ?_) (fun c9 => ?_)
       ·rw [if_neg c9] at H
        exact absurd H (by simp)
       rw [if_pos c9] at H
       have c9b0 : decide (0 ≤ x3_1) = true := decide_eq_true c9
       clear c9
       refine neg_first (p := (x3_1 < (l0.length : Int))) (fun c10 => ?_) (fun c10 => ?_)
       ·rw [if_neg c10] at H
        exact absurd H (by simp)
       rw [if_pos c10] at H
       have c10b0 : decide (x3_1 < (l0.length : Int)) = true := decide_eq_true c10
       clear c10
       by_cases c11 : x4_3 < (((rd_T45 l0 x3_1).f0).size : Int)
       ·rw [if_pos c11] at H
        have c11b0 : decide (x4_3 < (((rd_T45 l0 x3_1).f0).size : Int)) = true := decide_eq_true c11
        clear c11
        refine neg_first (p := (0 ≤ x4_3)) (fun c12 => ?_) (fun c12 => ?_)
        ·rw [if_neg c12] at H
         exact absurd H (by simp)
        rw [if_pos c12] at H
        have c12b0 : decide (0 ≤ x4_3) = true := decide_eq_true c12
        clear c12
        replace H := Option.bind_eq_some_iff.mp H
        obtain ⟨t161, A140, H⟩ := H
        try dsimp only at H
        have A14 := Aside0.mk A140
        clear A140
        refine neg_first (p := (t161 = true)) (fun c15 => ?_) (fun c15 => ?_)
        ·replace c15 := Bool.eq_false_iff.mpr c15
         subst c15
         have H1 := H
         rw [if_neg (show ¬ (false = true) by decide)] at H1
         clear H
         have H := H1
         clear H1
         obtain rfl := Option.some.inj H
         have p159 : 0 ≤ (x3_1 : Int) := of_decide_eq_true (by first | (with_reducible assumption) | assumption)
         have q159 : x3_1 < (l0.length : Int) := of_decide_eq_true (by first | (with_reducible assumption) | assumption)
         obtain ⟨ad159, e159, hx159_0, hx159_1⟩ := at_T45 HR0.out x3_1 p159 q159
         cases e159
         replace p159 := eq_true p159
         replace q159 := eq_true q159
         have p160 : 0 ≤ (x3_1 : Int) := of_decide_eq_true (by first | (with_reducible assumption) | assumption)
         have q160 : x3_1 < (l0.length : Int) := of_decide_eq_true (by first | (with_reducible assumption) | assumption)
         obtain ⟨ad160, e160, hx160_0, hx160_1⟩ := at_T45 HR0.out x3_1 p160 q160
         obtain rfl : ad159 = ad160 := (by injection e160)
         replace p160 := eq_true p160
         replace q160 := eq_true q160
         have p13 : 0 ≤ (x4_3 : Int) := of_decide_eq_true (by first | (with_reducible assumption) | assumption)
         have q13 : x4_3 < (((rd_T45 l0 x3_1).f0).size : Int) := of_decide_eq_true (by first | (with_reducible assumption) | assumption)
         have hx13 := bt_at ((rd_T45 l0 x3_1).f0) x4_3
         replace p13 := eq_true p13
         replace q13 := eq_true q13
         go_wp2_with (first | (go_at_call 50; (with_reducible refine (headgateref21_letter.calls (bt ((rd_T45 l0 x3_1).f0) x4_3) false _ A14.out).mono ?_); rintro e w' ⟨rfl, ⟨nd, rfl⟩⟩; (try first | exact ⟨rfl, _, World.drewN_drewN _ _ _⟩ | exact ⟨rfl, _, Eq.trans (World.drewN_drewN _ _ _) (congrArg (World.drewN _) (Nat.add_assoc _ _ _))⟩)))
         repeat (go_quiet (first | (go_at_call 50; (with_reducible refine (headgateref21_letter.calls (bt ((rd_T45 l0 x3_1).f0) x4_3) false _ A14.out).mono ?_); rintro e w' ⟨rfl, ⟨nd, rfl⟩⟩; (try first | exact ⟨rfl, _, World.drewN_drewN _ _ _⟩ | exact ⟨rfl, _, Eq.trans (World.drewN_drewN _ _ _) (congrArg (World.drewN _) (Nat.add_assoc _ _ _))⟩))); try go_wp2_with (first | (go_at_call 50; (with_reducible refine (headgateref21_letter.calls (bt ((rd_T45 l0 x3_1).f0) x4_3) false _ A14.out).mono ?_); rintro e w' ⟨rfl, ⟨nd, rfl⟩⟩; (try first | exact ⟨rfl, _, World.drewN_drewN _ _ _⟩ | exact ⟨rfl, _, Eq.trans (World.drewN_drewN _ _ _) (congrArg (World.drewN _) (Nat.add_assoc _ _ _))⟩))))
         go_ret
         exact ⟨by first | rfl | (simp; done) | (simp [*]; done), by repeat (first | exact Drawn0.refl _ | apply Drawn0.step)⟩
        subst c15
        have H1 := H
        rw [if_pos rfl] at H1
        clear H
        have H := H1
        clear H1
        have H' := Aside0.mk H
        clear H
        have p159 : 0 ≤ (x3_1 : Int) := of_decide_eq_true (by first | (with_reducible assumption) | assumption)
        have q159 : x3_1 < (l0.length : Int) := of_decide_eq_true (by first | (with_reducible assumption) | assumption)
        obtain ⟨ad159, e159, hx159_0, hx159_1⟩ := at_T45 HR0.out x3_1 p159 q159
        cases e159
        replace p159 := eq_true p159
        replace q159 := eq_true q159
        have p160 : 0 ≤ (x3_1 : Int) := of_decide_eq_true (by first | (with_reducible assumption) | assumption)
        have q160 : x3_1 < (l0.length : Int) := of_decide_eq_true (by first | (with_reducible assumption) | assumption)
        obtain ⟨ad160, e160, hx160_0, hx160_1⟩ := at_T45 HR0.out x3_1 p160 q160
        obtain rfl : ad159 = ad160 := (by injection e160)
        replace p160 := eq_true p160
        replace q160 := eq_true q160
        have p13 : 0 ≤ (x4_3 : Int) := of_decide_eq_true (by first | (with_reducible assumption) | assumption)
        have q13 : x4_3 < (((rd_T45 l0 x3_1).f0).size : Int) := of_decide_eq_true (by first | (with_reducible assumption) | assumption)
        have hx13 := bt_at ((rd_T45 l0 x3_1).f0) x4_3
        replace p13 := eq_true p13
        replace q13 := eq_true q13
        go_wp2_with (first | (go_at_call 50; (with_reducible refine (headgateref21_letter.calls (bt ((rd_T45 l0 x3_1).f0) x4_3) true _ A14.out).mono ?_); rintro e w' ⟨rfl, ⟨nd, rfl⟩⟩; (try first | exact ⟨rfl, _, World.drewN_drewN _ _ _⟩ | exact ⟨rfl, _, Eq.trans (World.drewN_drewN _ _ _) (congrArg (World.drewN _) (Nat.add_assoc _ _ _))⟩)))
        repeat (go_quiet (first | (go_at_call 50; (with_reducible refine (headgateref21_letter.calls (bt ((rd_T45 l0 x3_1).f0) x4_3) true _ A14.out).mono ?_); rintro e w' ⟨rfl, ⟨nd, rfl⟩⟩; (try first | exact ⟨rfl, _, World.drewN_drewN _ _ _⟩ | exact ⟨rfl, _, Eq.trans (World.drewN_drewN _ _ _) (congrArg (World.drewN _) (Nat.add_assoc _ _ _))⟩))); try go_wp2_with (first | (go_at_call 50; (with_reducible refine (headgateref21_letter.calls (bt ((rd_T45 l0 x3_1).f0) x4_3) true _ A14.out).mono ?_); rintro e w' ⟨rfl, ⟨nd, rfl⟩⟩; (try first | exact ⟨rfl, _, World.drewN_drewN _ _ _⟩ | exact ⟨rfl, _, Eq.trans (World.drewN_drewN _ _ _) (congrArg (World.drewN _) (Nat.add_assoc _ _ _))⟩))))
        go_roundg k3
        case measure => have := HK1.out; have := HJ3.out; have := HK3.out; omega
        case rel => exact ⟨(wrap64 (x4_3 + 1)), (by first | rfl | (simp; done) | (simp [*]; done)), H', ⟨by have := HK1.out; have := HJ3.out; have := HK3.out; omega⟩, by repeat (first | exact Drawn0.refl _ | apply Drawn0.step)⟩
       rw [if_neg c11] at H
       have c11b0 : decide (x4_3 < (((rd_T45 l0 x3_1).f0).size : Int)) = false := decide_eq_false c11
       clear c11
       have H' := Aside0.mk H
       clear H
       have p159 : 0 ≤ (x3_1 : Int) := of_decide_eq_true (by first | (with_reducible assumption) | assumption)
       have q159 : x3_1 < (l0.length : Int) := of_decide_eq_true (by first | (with_reducible assumption) | assumption)
       obtain ⟨ad159, e159, hx159_0, hx159_1⟩ := at_T45 HR0.out x3_1 p159 q159
       cases e159
       replace p159 := eq_true p159
       replace q159 := eq_true q159
       go_wp2
       repeat (go_quiet (fail); try go_wp2)
       go_loopg [5] k3 (fun kq v5 w' => ∃ (x5_4 : Int), v5 = .int .i64 x5_4 ∧ Aside0 (headgateref21_Good.l2 kq l0 x3_1 x5_4 = some r) ∧ Aside0 (kq ≤ k3) ∧ Drawn0 w w')
       case atStart => exact ⟨(0), (by first | rfl | (simp; done) | (simp [*]; done)), H', ⟨Nat.le_refl _⟩, by repeat (first | exact Drawn0.refl _ | apply Drawn0.step)⟩
       case round =>
        clear H'
        try clear c1
        try clear p1
        try clear q1
        try clear hx1
        try clear c2
        try clear c2b0
        try clear c2b1
        try clear p2
        try clear c3
        try clear c3b0
        try clear c5
        try clear c5b0
        try clear c6
        try clear c6b0
        try clear c6b1
        try clear p6
        try clear c7
        try clear c7b0
        try clear c7b1
        try clear c8
        try clear c9
        try clear c9b0
        try clear c10
        try clear c10b0
        try clear c11
        try clear c11b0
        try clear c12
        try clear c12b0
        try clear p13
        try clear q13
        try clear hx13
        try clear c15
        try clear p15
        try clear q15
        try clear hx15
        try clear hx156_0
        try clear hx156_1
        try clear hx157_0
        try clear hx157_1
        try clear hx158_0
        try clear hx158_1
        try clear hx159_0
        try clear hx159_1
        try clear hx160_0
        try clear hx160_1
        try clear p1
        try clear p13
        try clear p156
        try clear p157
        try clear p158
        try clear p159
        try clear p160
        try clear p2
        try clear q1
        try clear q13
        try clear q156
        try clear q157
        try clear q158
        try clear q159
        try clear q160
        obtain ⟨x5_4, rfl, HA, HK4, ⟨m4, rfl⟩⟩ := hrel
        cases gk with
        | zero => exact absurd HA.out (by simp [headgateref21_Good.l2])
        | succ k4 =>
         have H := HA.out
         clear HA
         simp only [headgateref21_Good.l2] at H
         refine neg_first (p := (0 ≤ x3_1)) (fun c16 => ?_) (fun c16 => ?_)
         ·rw [if_neg c16] at H
          exact absurd H (by simp)
         rw [if_pos c16] at H
         have c16b0 : decide (0 ≤ x3_1) = true := decide_eq_true c16
         clear c16
         refine neg_first (p := (x3_1 < (l0.length : Int))) (fun c17 => ?_) (fun c17 => ?_)
         ·rw [if_neg c17] at H
          exact absurd H (by simp)
         rw [if_pos c17] at H
         have c17b0 : decide (x3_1 < (l0.length : Int)) = true := decide_eq_true c17
         clear c17
         by_cases c18 : x5_4 < (((rd_T45 l0 x3_1).f1).size : Int)
         ·rw [if_pos c18] at H
          have c18b0 : decide (x5_4 < (((rd_T45 l0 x3_1).f1).size : Int)) = true := decide_eq_true c18
          clear c18
          refine neg_first (p := (0 ≤ x5_4)) (fun c19 => ?_) (fun c19 => ?_)
          ·rw [if_neg c19] at H
           exact absurd H (by simp)
          rw [if_pos c19] at H
          have c19b0 : decide (0 ≤ x5_4) = true := decide_eq_true c19
          clear c19
          by_cases c21 : (bt ((rd_T45 l0 x3_1).f1) x5_4) = 0
          ·rw [if_pos c21] at H
           have c21b0 : ((bt ((rd_T45 l0 x3_1).f1) x5_4) == 0) = true := beq_iff_eq.mpr c21
           have c21b1 : ((bt ((rd_T45 l0 x3_1).f1) x5_4) != 0) = false := bne_eq_false_iff_eq.mpr c21
           clear c21
           obtain rfl := Option.some.inj H
           have p162 : 0 ≤ (x3_1 : Int) := of_decide_eq_true (by first | (with_reducible assumption) | assumption)
           have q162 : x3_1 < (l0.length : Int) := of_decide_eq_true (by first | (with_reducible assumption) | assumption)
           obtain ⟨ad162, e162, hx162_0, hx162_1⟩ := at_T45 HR0.out x3_1 p162 q162
           obtain rfl : ad159 = ad162 := (by injection e162)
           replace p162 := eq_true p162
           replace q162 := eq_true q162
           have p163 : 0 ≤ (x3_1 : Int) := of_decide_eq_true (by first | (with_reducible assumption) | assumption)
           have q163 : x3_1 < (l0.length : Int) := of_decide_eq_true (by first | (with_reducible assumption) | assumption)
           obtain ⟨ad163, e163, hx163_0, hx163_1⟩ := at_T45 HR0.out x3_1 p163 q163
           obtain rfl : ad159 = ad163 := (by injection e163)
           replace p163 := eq_true p163
           replace q163 := eq_true q163
           have p20 : 0 ≤ (x5_4 : Int) := of_decide_eq_true (by first | (with_reducible assumption) | assumption)
           have q20 : x5_4 < (((rd_T45 l0 x3_1).f1).size : Int) := of_decide_eq_true (by first | (with_reducible assumption) | assumption)
           have hx20 := bt_at ((rd_T45 l0 x3_1).f1) x5_4
           replace p20 := eq_true p20
           replace q20 := eq_true q20
           go_wp2
           repeat (go_quiet (fail); try go_wp2)
           go_ret
           exact ⟨by first | rfl | (simp; done) | (simp [*]; done), by repeat (first | exact Drawn0.refl _ | apply Drawn0.step)⟩
          rw [if_neg c21] at H
          have c21b0 : ((bt ((rd_T45 l0 x3_1).f1) x5_4) == 0) = false := beq_eq_false_iff_ne.mpr c21
          have c21b1 : ((bt ((rd_T45 l0 x3_1).f1) x5_4) != 0) = true := bne_iff_ne.mpr c21
          have H' := Aside0.mk H
          clear H
          have p162 : 0 ≤ (x3_1 : Int) := of_decide_eq_true (by first | (with_reducible assumption) | assumption)
          have q162 : x3_1 < (l0.length : Int) := of_decide_eq_true (by first | (with_reducible assumption) | assumption)
          obtain ⟨ad162, e162, hx162_0, hx162_1⟩ := at_T45 HR0.out x3_1 p162 q162
          obtain rfl : ad159 = ad162 := (by injection e162)
          replace p162 := eq_true p162
          replace q162 := eq_true q162
          have p163 : 0 ≤ (x3_1 : Int) := of_decide_eq_true (by first | (with_reducible assumption) | assumption)
          have q163 : x3_1 < (l0.length : Int) := of_decide_eq_true (by first | (with_reducible assumption) | assumption)
          obtain ⟨ad163, e163, hx163_0, hx163_1⟩ := at_T45 HR0.out x3_1 p163 q163
          obtain rfl : ad159 = ad163 := (by injection e163)
          replace p163 := eq_true p163
          replace q163 := eq_true q163
          have p20 : 0 ≤ (x5_4 : Int) := of_decide_eq_true (by first | (with_reducible assumption) | assumption)
          have q20 : x5_4 < (((rd_T45 l0 x3_1).f1).size : Int) := of_decide_eq_true (by first | (with_reducible assumption) | assumption)
          have hx20 := bt_at ((rd_T45 l0 x3_1).f1) x5_4
          replace p20 := eq_true p20
          replace q20 := eq_true q20
          go_wp2
          repeat (go_quiet (fail); try go_wp2)
          go_roundg k4
          case measure => have := HK1.out; have := HJ3.out; have := HK3.out; have := HK4.out; omega
          case rel => exact ⟨(wrap64 (x5_4 + 1)), (by first | rfl | (simp; done) | (simp [*]; done)), H', ⟨by have := HK1.out; have := HJ3.out; have := HK3.out; have := HK4.out; omega⟩, by repeat (first | exact Drawn0.refl _ | apply Drawn0.step)⟩
         rw [if_neg c18] at H
         have c18b0 : decide (x5_4 < (((rd_T45 l0 x3_1).f1).size : Int)) = false := decide_eq_false c18
         clear c18
         have H' := Aside0.mk H
         clear H
         have p162 : 0 ≤ (x3_1 : Int) := of_decide_eq_true (by first | (with_reducible assumption) | assumption)
         have q162 : x3_1 < (l0.length : Int) := of_decide_eq_true (by first | (with_reducible assumption) | assumption)
         obtain ⟨ad162, e162, hx162_0, hx162_1⟩ := at_T45 HR0.out x3_1 p162 q162
         obtain rfl : ad159 = ad162 := (by injection e162)
         replace p162 := eq_true p162
         replace q162 := eq_true q162
         go_wp2
         repeat (go_quiet (fail); try go_wp2)
         go_loopg [6] k4 (fun kq v6 w' => ∃ (x6_5 : Int), v6 = .int .i64 x6_5 ∧ Aside0 (headgateref21_Good.l3 kq l0 x3_1 x6_5 = some r) ∧ Aside0 (kq ≤ k4) ∧ Drawn0 w w')
         case atStart => exact ⟨(0), (by first | rfl | (simp; done) | (simp [*]; done)), H', ⟨Nat.le_refl _⟩, by repeat (first | exact Drawn0.refl _ | apply Drawn0.step)⟩
         case round =>
          clear H'
          try clear c1
          try clear p1
          try clear q1
          try clear hx1
          try clear c2
          try clear c2b0
          try clear c2b1
          try clear p2
          try clear q2
          try clear hx2
          try clear c3
          try clear c3b0
          try clear c5
          try clear c5b0
          try clear c6
          try clear c6b0
          try clear c6b1
          try clear p6
          try clear c7
          try clear c7b0
          try clear c7b1
          try clear c8
          try clear c9
          try clear c9b0
          try clear c10
          try clear c10b0
          try clear c11
          try clear c11b0
          try clear c12
          try clear c12b0
          try clear p13
          try clear q13
          try clear hx13
          try clear c15
          try clear p15
          try clear q15
          try clear hx15
          try clear c16
          try clear c16b0
          try clear p16
          try clear q16
          try clear hx16
          try clear c17
          try clear c17b0
          try clear c18
          try clear c18b0
          try clear c19
          try clear c19b0
          try clear p20
          try clear q20
          try clear hx20
          try clear c21
          try clear c21b0
          try clear c21b1
          try clear hx156_0
          try clear hx156_1
          try clear hx157_0
          try clear hx157_1
          try clear hx158_0
          try clear hx158_1
          try clear hx159_0
          try clear hx159_1
          try clear hx160_0
          try clear hx160_1
          try clear hx162_0
          try clear hx162_1
          try clear hx163_0
          try clear hx163_1
          try clear p1
          try clear p13
          try clear p15
          try clear p156
          try clear p157
          try clear p158
          try clear p159
          try clear p160
          try clear p162
          try clear p163
          try clear p2
          try clear p20
          try clear p6
          try clear q1
          try clear q13
          try clear q15
          try clear q156
          try clear q157
          try clear q158
          try clear q159
          try clear q160
          try clear q162
          try clear q163
          try clear q20
          obtain ⟨x6_5, rfl, HA, HK5, ⟨m5, rfl⟩⟩ := hrel
          cases gk with
          | zero => exact absurd HA.out (by simp [headgateref21_Good.l3])
          | succ k5 =>
           have H := HA.out
           clear HA
           simp only [headgateref21_Good.l3] at H
           refine neg_first (p := (x6_5 < x3_1)) (fun c22 => ?_) (fun c22 => ?_)
           ·rw [if_neg c22] at H
            have c22b0 : decide (x6_5 < x3_1) = false := decide_eq_false c22
            clear c22
            have H' := Aside0.mk H
            clear H
            go_wp2
            repeat (go_quiet (fail); try go_wp2)
            go_roundg k5
            case measure => have := HK1.out; have := HJ3.out; have := HK3.out; have := HK4.out; have := HK5.out; omega
            case rel => exact ⟨(wrap64 (x3_1 + 1)), (by first | rfl | (simp; done) | (simp [*]; done)), H', ⟨by have := HK1.out; have := HJ3.out; have := HK3.out; have := HK4.out; have := HK5.out; omega⟩, by repeat (first | exact Drawn0.refl _ | apply Drawn0.step)⟩
           rw [if_pos c22] at H
           have c22b0 : decide (x6_5 < x3_1) = true := decide_eq_true c22
           clear c22
           refine neg_first (p := (0 ≤ x6_5)) (fun c23 => ?_) (fun c23 => ?_)
           ·rw [if_neg c23] at H
            exact absurd H (by simp)
           rw [if_pos c23] at H
           have c23b0 : decide (0 ≤ x6_5) = true := decide_eq_true c23
           clear c23
           refine neg_first (p := (x6_5 < (l0.length : Int))) (fun c24 => ?_) (fun c24 => ?_)
           ·rw [if_neg c24] at H
            exact absurd H (by simp)
           rw [if_pos c24] at H
           have c24b0 : decide (x6_5 < (l0.length : Int)) = true := decide_eq_true c24
           clear c24
           refine neg_first (p := (0 ≤ x3_1)) (fun c25 => ?_) (fun c25 => ?_)
           ·rw [if_neg c25] at H
            exact absurd H (by simp)
           rw [if_pos c25] at H
           have c25b0 : decide (0 ≤ x3_1) = true := decide_eq_true c25
           clear c25
           refine neg_first (p := (x3_1 < (l0.length : Int))) (fun c26 => ?_) (fun c26 => ?_)
           ·rw [if_neg c26] at H
            exact absurd H (by simp)
           rw [if_pos c26] at H
           have c26b0 : decide (x3_1 < (l0.length : Int)) = true := decide_eq_true c26
           clear c26
           by_cases c27 : ((rd_T45 l0 x6_5).f0).toList = ((rd_T45 l0 x3_1).f0).toList
           ·rw [if_pos c27] at H
            have c27b0 : (((rd_T45 l0 x6_5).f0).toList == ((rd_T45 l0 x3_1).f0).toList) = true := beq_iff_eq.mpr c27
            have c27b1 : (((rd_T45 l0 x6_5).f0).toList != ((rd_T45 l0 x3_1).f0).toList) = false := bne_eq_false_iff_eq.mpr c27
            clear c27
            obtain rfl := Option.some.inj H
            have p164 : 0 ≤ (x6_5 : Int) := of_decide_eq_true (by first | (with_reducible assumption) | assumption)
            have q164 : x6_5 < (l0.length : Int) := of_decide_eq_true (by first | (with_reducible assumption) | assumption)
            obtain ⟨ad164, e164, hx164_0, hx164_1⟩ := at_T45 HR0.out x6_5 p164 q164
            obtain rfl : ad159 = ad164 := (by injection e164)
            replace p164 := eq_true p164
            replace q164 := eq_true q164
            have p165 : 0 ≤ (x3_1 : Int) := of_decide_eq_true (by first | (with_reducible assumption) | assumption)
            have q165 : x3_1 < (l0.length : Int) := of_decide_eq_true (by first | (with_reducible assumption) | assumption)
            obtain ⟨ad165, e165, hx165_0, hx165_1⟩ := at_T45 HR0.out x3_1 p165 q165
            obtain rfl : ad159 = ad165 := (by injection e165)
            replace p165 := eq_true p165
            replace q165 := eq_true q165
            go_wp2
            repeat (go_quiet (fail); try go_wp2)
            go_ret
            exact ⟨by first | rfl | (simp; done) | (simp [*]; done), by repeat (first | exact Drawn0.refl _ | apply Drawn0.step)⟩
           rw [if_neg c27] at H
           have c27b0 : (((rd_T45 l0 x6_5).f0).toList == ((rd_T45 l0 x3_1).f0).toList) = false := beq_eq_false_iff_ne.mpr c27
           have c27b1 : (((rd_T45 l0 x6_5).f0).toList != ((rd_T45 l0 x3_1).f0).toList) = true := bne_iff_ne.mpr c27
           have H' := Aside0.mk H
           clear H
           have p164 : 0 ≤ (x6_5 : Int) := of_decide_eq_true (by first | (with_reducible assumption) | assumption)
           have q164 : x6_5 < (l0.length : Int) := of_decide_eq_true (by first | (with_reducible assumption) | assumption)
           obtain ⟨ad164, e164, hx164_0, hx164_1⟩ := at_T45 HR0.out x6_5 p164 q164
           obtain rfl : ad159 = ad164 := (by injection e164)
           replace p164 := eq_true p164
           replace q164 := eq_true q164
           have p165 : 0 ≤ (x3_1 : Int) := of_decide_eq_true (by first | (with_reducible assumption) | assumption)
           have q165 : x3_1 < (l0.length : Int) := of_decide_eq_true (by first | (with_reducible assumption) | assumption)
           obtain ⟨ad165, e165, hx165_0, hx165_1⟩ := at_T45 HR0.out x3_1 p165 q165
           obtain rfl : ad159 = ad165 := (by injection e165)
           replace p165 := eq_true p165
           replace q165 := eq_true q165
           go_wp2
           repeat (go_quiet (fail); try go_wp2)
           go_roundg k5
           case measure => have := HK1.out; have := HJ3.out; have := HK3.out; have := HK4.out; have := HK5.out; omega
           case rel => exact ⟨(wrap64 (x6_5 + 1)), (by first | rfl | (simp; done) | (simp [*]; done)), H', ⟨by have := HK1.out; have := HJ3.out; have := HK3.out; have := HK4.out; have := HK5.out; omega⟩, by repeat (first | exact Drawn0.refl _ | apply Drawn0.step)⟩
end Go.Proofs.YtclcnkmefldpiaaDoor.P
namespace Go.Proofs.YtclcnkmefldpiaaDoor.P
open Go.RowKit Go.Proofs.YtclcnkmefldpiaaDoorW.PrintWords Go.Proofs.YtclcnkmefldpiaaDoorW.PrintLast Go.Proofs.YtclcnkmefldpiaaDoorW.PrintMore
attribute [local go_sem] max2_int min2_int max_two min_two max_three min_three max_four min_four   -- for this text's walks alone
set_option linter.unusedVariables false
set_option linter.unusedSimpArgs false
set_option linter.unnecessarySimpa false
def headgateref21_find.l0 : Nat → ByteArray → Int → Int → Option (Int)
  | 0, _, _, _ => none
  | k + 1, x0, x1, x5 => if x5 < (x0.size : Int) then (if 0 ≤ x5 then (if (bt x0 x5) = x1 then (some x5) else (headgateref21_find.l0 k x0 x1 (wrap64 (x5 + 1)))) else (none)) else (some (-1))
def headgateref21_find.f (k : Nat) (a0 : ByteArray) (a1 : Int) : Option (Int) := headgateref21_find.l0 k a0 a1 0
set_option maxHeartbeats 8000000 in
set_option maxRecDepth 100000 in
theorem headgateref21_find.calls (k : Nat) (a0 : ByteArray) (a1 : Int) (r : Int) (w : World) (h : headgateref21_find.f k a0 a1 = some r) :
    Calls Tryd.prog 29 #[.string a0, .int .u8 a1] w fun e w' => e = .returned (.int .i64 r) ∧ Drawn0 w w' := by
  have H : (headgateref21_find.l0 k a0 a1 0) = some r := h
  clear h
  have H' := Aside0.mk H
  clear H
  go_enter Tryd.func29, Tryd.ntmps29
  go_wp2
  go_loopg [5] k (fun kq v5 w' => ∃ (x5_1 : Int), v5 = .int .i64 x5_1 ∧ Aside0 (headgateref21_find.l0 kq a0 a1 x5_1 = some r) ∧ Aside0 (kq ≤ k) ∧ Drawn0 w w')
  case atStart => exact ⟨(0), (by first | rfl | (simp; done) | (simp [*]; done)), H', ⟨Nat.le_refl _⟩, by repeat (first | exact Drawn0.refl _ | apply Drawn0.step)⟩
  case round =>
    clear H'
    try clear c2
    try clear p2
    obtain ⟨x5_1, rfl, HA, HK1, ⟨m1, rfl⟩⟩ := hrel
    cases gk with
    | zero => exact absurd HA.out (by simp [headgateref21_find.l0])
    | succ k1 =>
      have H := HA.out
      clear HA
      simp only [headgateref21_find.l0] at H
      by_cases c3 : x5_1 < (a0.size : Int)
      · rw [if_pos c3] at H
        have c3b0 : decide (x5_1 < (a0.size : Int)) = true := decide_eq_true c3
        clear c3
        by_cases c4 : 0 ≤ x5_1
        · rw [if_pos c4] at H
          have c4b0 : decide (0 ≤ x5_1) = true := decide_eq_true c4
          clear c4
          by_cases c6 : (bt a0 x5_1) = a1
          · rw [if_pos c6] at H
            have c6b0 : ((bt a0 x5_1) == a1) = true := beq_iff_eq.mpr c6
            have c6b1 : ((bt a0 x5_1) != a1) = false := bne_eq_false_iff_eq.mpr c6
            clear c6
            obtain rfl := Option.some.inj H
            have p5 : 0 ≤ (x5_1 : Int) := of_decide_eq_true (by first | (with_reducible assumption) | assumption)
            have q5 : x5_1 < (a0.size : Int) := of_decide_eq_true (by first | (with_reducible assumption) | assumption)
            have hx5 := bt_at a0 x5_1
            replace p5 := eq_true p5
            replace q5 := eq_true q5
            go_wp2
            go_ret
            exact ⟨by first | rfl | (simp; done) | (simp [*]; done), by repeat (first | exact Drawn0.refl _ | apply Drawn0.step)⟩
          · rw [if_neg c6] at H
            have c6b0 : ((bt a0 x5_1) == a1) = false := beq_eq_false_iff_ne.mpr c6
            have c6b1 : ((bt a0 x5_1) != a1) = true := bne_iff_ne.mpr c6
            have H' := Aside0.mk H
            clear H
            have p5 : 0 ≤ (x5_1 : Int) := of_decide_eq_true (by first | (with_reducible assumption) | assumption)
            have q5 : x5_1 < (a0.size : Int) := of_decide_eq_true (by first | (with_reducible assumption) | assumption)
            have hx5 := bt_at a0 x5_1
            replace p5 := eq_true p5
            replace q5 := eq_true q5
            go_wp2
            go_roundg k1
            case measure => have := HK1.out; omega
            case rel => exact ⟨(wrap64 (x5_1 + 1)), (by first | rfl | (simp; done) | (simp [*]; done)), H', ⟨by have := HK1.out; omega⟩, by repeat (first | exact Drawn0.refl _ | apply Drawn0.step)⟩
        · rw [if_neg c4] at H
          exact absurd H (by simp)
      · rw [if_neg c3] at H
        have c3b0 : decide (x5_1 < (a0.size : Int)) = false := decide_eq_false c3
        clear c3
        obtain rfl := Option.some.inj H
        go_wp2
        go_ret
        exact ⟨by first | rfl | (simp; done) | (simp [*]; done), by repeat (first | exact Drawn0.refl _ | apply Drawn0.step)⟩
end Go.Proofs.YtclcnkmefldpiaaDoor.P
namespace Go.Proofs.YtclcnkmefldpiaaDoor.P
open Go.RowKit Go.Proofs.YtclcnkmefldpiaaDoorW.PrintWords Go.Proofs.YtclcnkmefldpiaaDoorW.PrintLast Go.Proofs.YtclcnkmefldpiaaDoorW.PrintMore
attribute [local go_sem] max2_int min2_int max_two min_two max_three min_three max_four min_four   -- for this text's walks alone
set_option linter.unusedVariables false
set_option linter.unusedSimpArgs false
set_option linter.unnecessarySimpa false
def headgateref21_Text.l0 : Nat → List (S45) → ByteArray → Int → Option (ByteArray × Int)
 | 0, _, _, _ => none
 | k + 1, x0, x4, x5 => if x5 < (x0.length : Int) then (if 0 ≤ x5 then (if ((rd_T45 x0 x5).f0).size + 1 ≤ 9223372036854775807 then (if (((rd_T45 x0 x5).f0) ++ (⟨#[61]⟩ : ByteArray)).size + ((rd_T45 x0 x5).f1).size ≤ 9223372036854775807 then (if ((((rd_T45 x0 x5).f0) ++ (⟨#[61]⟩ : ByteArray)) ++ ((rd_T45 x0 x5).f1)).size + 1 ≤ 9223372036854775807 then (if x4.size + (((((rd_T45 x0 x5).f0) ++ (⟨#[61]⟩ : ByteArray)) ++ ((rd_T45 x0 x5).f1)) ++ (⟨#[0]⟩ : ByteArray)).size ≤ 9223372036854775807 then (headgateref21_Text.l0 k x0 (x4 ++ (((((rd_T45 x0 x5).f0) ++ (⟨#[61]⟩ : ByteArray)) ++ ((rd_T45 x0 x5).f1)) ++ (⟨#[0]⟩ : ByteArray))) (wrap64 (x5 + 1))) else (none)) else (none)) else (none)) else (none)) else (none)) else (some (x4, 0))
def headgateref21_Text.f (k : Nat) (l0 : List (S45)) : Option (ByteArray × Int) := (headgateref21_Good.f k l0).bind fun t452 => (if t452 = true then (headgateref21_Text.l0 k l0 (⟨#[]⟩ : ByteArray) 0) else (some ((⟨#[]⟩ : ByteArray), 210)))
set_option maxHeartbeats 8000000 in
set_option maxRecDepth 100000 in
theorem headgateref21_Text.calls (k : Nat) (A0 : Option Addr) (c0 : Nat) (l0 : List (S45)) (r1 : ByteArray) (r2 : Int) (w : World) (hr0 : Kd.C k45 w A0 l0.length l0) (hc0 : l0.length ≤ c0) (h : headgateref21_Text.f k l0 = some (r1, r2)) :
  Calls Tryd.prog 19 #[.slice A0 l0.length c0] w fun e w' => e = .returned (.tuple #[.string r1, .int .i64 r2]) ∧ Drawn0 w w' := by
 have HR0 := Aside0.mk hr0
 have HC0 := Aside0.mk hc0
 clear hr0 hc0
 have H : ((headgateref21_Good.f k l0).bind fun t452 => (if t452 = true then (headgateref21_Text.l0 k l0 (⟨#[]⟩ : ByteArray) 0) else (some ((⟨#[]⟩ : ByteArray), 210)))) = some (r1, r2) := h
 clear h
 replace H := Option.bind_eq_some_iff.mp H
 obtain ⟨t452, A20, H⟩ := H
 try dsimp only at H
 have A2 := Aside0.mk A20
 clear A20
 refine neg_first (p := (t452 = true)) (fun c3 => ?_) (fun c3 => ?_)
 ·replace c3 := Bool.eq_false_iff.mpr c3
  subst c3
  have H1 := H
  rw [if_neg (show ¬ (false = true) by decide)] at H1
  clear H
  have H := H1
  clear H1
  simp only [Option.some.injEq, Prod.mk.injEq] at H
  obtain ⟨rfl, rfl⟩ := H
  go_enter Tryd.func19, Tryd.ntmps19
  go_wp2_with (first | (go_at_call 24; (with_reducible refine (headgateref21_Good.calls k _ _ l0 false _ ?side1 ?side2 A2.out).mono ?_); (case side1 => repeat (first | exact HR0.out | (with_reducible refine Kd.C_alloc ?_ _) | (with_reducible refine Kd.C_drewN ?_ _) | (with_reducible refine Kd.C_drew ?_))); (case side2 => exact HC0.out); rintro e w' ⟨rfl, ⟨nd, rfl⟩⟩; (try first | exact ⟨rfl, _, World.drewN_drewN _ _ _⟩ | exact ⟨rfl, _, Eq.trans (World.drewN_drewN _ _ _) (congrArg (World.drewN _) (Nat.add_assoc _ _ _))⟩)))
  repeat (go_quiet (first | (go_at_call 24; (with_reducible refine (headgateref21_Good.calls k _ _ l0 false _ ?side1 ?side2 A2.out).mono ?_); (case side1 => repeat (first | exact HR0.out | (with_reducible refine Kd.C_alloc ?_ _) | (with_reducible refine Kd.C_drewN ?_ _) | (with_reducible refine Kd.C_drew ?_))); (case side2 => exact HC0.out); rintro e w' ⟨rfl, ⟨nd, rfl⟩⟩; (try first | exact ⟨rfl, _, World.drewN_drewN _ _ _⟩ | exact ⟨rfl, _, Eq.trans (World.drewN_drewN _ _ _) (congrArg (World.drewN _) (Nat.add_assoc _ _ _))⟩))); try go_wp2_with (first | (go_at_call 24; (with_reducible refine (headgateref21_Good.calls k _ _ l0 false _ ?side1 ?side2 A2.out).mono ?_); (case side1 => repeat (first | exact HR0.out | (with_reducible refine Kd.C_alloc ?_ _) | (with_reducible refine Kd.C_drewN ?_ _) | (with_reducible refine Kd.C_drew ?_))); (case side2 => exact HC0.out); rintro e w' ⟨rfl, ⟨nd, rfl⟩⟩; (try first | exact ⟨rfl, _, World.drewN_drewN _ _ _⟩ | exact ⟨rfl, _, Eq.trans (World.drewN_drewN _ _ _) (congrArg (World.drewN _) (Nat.add_assoc _ _ _))⟩))))
  go_ret2
  exact ⟨by first | rfl | (simp; done) | (simp [*]; done), by repeat (first | exact Drawn0.refl _ | apply Drawn0.step)⟩
 subst c3
 have H1 := H
 rw [if_pos rfl] at H1
 clear H
 have H := H1
 clear H1
 have H' := Aside0.mk H
 clear H
 go_enter Tryd.func19, Tryd.ntmps19
 go_wp2_with (first | (go_at_call 24; (with_reducible refine (headgateref21_Good.calls k _ _ l0 true _ ?side1 ?side2 A2.out).mono ?_); (case side1 => repeat (first | exact HR0.out | (with_reducible refine Kd.C_alloc ?_ _) | (with_reducible refine Kd.C_drewN ?_ _) | (with_reducible refine Kd.C_drew ?_))); (case side2 => exact HC0.out); rintro e w' ⟨rfl, ⟨nd, rfl⟩⟩; (try first | exact ⟨rfl, _, World.drewN_drewN _ _ _⟩ | exact ⟨rfl, _, Eq.trans (World.drewN_drewN _ _ _) (congrArg (World.drewN _) (Nat.add_assoc _ _ _))⟩)))
 repeat (go_quiet (first | (go_at_call 24; (with_reducible refine (headgateref21_Good.calls k _ _ l0 true _ ?side1 ?side2 A2.out).mono ?_); (case side1 => repeat (first | exact HR0.out | (with_reducible refine Kd.C_alloc ?_ _) | (with_reducible refine Kd.C_drewN ?_ _) | (with_reducible refine Kd.C_drew ?_))); (case side2 => exact HC0.out); rintro e w' ⟨rfl, ⟨nd, rfl⟩⟩; (try first | exact ⟨rfl, _, World.drewN_drewN _ _ _⟩ | exact ⟨rfl, _, Eq.trans (World.drewN_drewN _ _ _) (congrArg (World.drewN _) (Nat.add_assoc _ _ _))⟩))); try go_wp2_with (first | (go_at_call 24; (with_reducible refine (headgateref21_Good.calls k _ _ l0 true _ ?side1 ?side2 A2.out).mono ?_); (case side1 => repeat (first | exact HR0.out | (with_reducible refine Kd.C_alloc ?_ _) | (with_reducible refine Kd.C_drewN ?_ _) | (with_reducible refine Kd.C_drew ?_))); (case side2 => exact HC0.out); rintro e w' ⟨rfl, ⟨nd, rfl⟩⟩; (try first | exact ⟨rfl, _, World.drewN_drewN _ _ _⟩ | exact ⟨rfl, _, Eq.trans (World.drewN_drewN _ _ _) (congrArg (World.drewN _) (Nat.add_assoc _ _ _))⟩))))
 go_loopg [4, 5] k (fun kq v4 v5 w' => ∃ (x4_1 : ByteArray) (x5_1 : Int), v4 = .string x4_1 ∧ v5 = .int .i64 x5_1 ∧ Aside0 (headgateref21_Text.l0 kq l0 x4_1 x5_1 = some (r1, r2)) ∧ Aside0 (kq ≤ k) ∧ Drawn0 w w')
 case atStart => exact ⟨((⟨#[]⟩ : ByteArray)), (0), (by first | rfl | (simp; done) | (simp [*]; done)), (by first | rfl | (simp; done) | (simp [*]; done)), H', ⟨Nat.le_refl _⟩, by repeat (first | exact Drawn0.refl _ | apply Drawn0.step)⟩
 case round =>
  clear H'
  try clear c1
  try clear p2
  try clear c3
  obtain ⟨x4_1, x5_1, rfl, rfl, HA, HK1, ⟨m1, rfl⟩⟩ := hrel
  cases gk with
  | zero => exact absurd HA.out (by simp [headgateref21_Text.l0])
  | succ k1 =>
   have H := HA.out
   clear HA
   simp only [headgateref21_Text.l0] at H
   refine neg_first (p := (x5_1 < (l0.length : Int))) (fun c4 => ?_) (fun c4 => ?_)
   ·rw [if_neg c4] at H
    have c4b0 : decide (x5_1 < (l0.length : Int)) = false := decide_eq_false c4
    clear c4
    simp only [Option.some.injEq, Prod.mk.injEq] at H
    obtain ⟨rfl, rfl⟩ := H
    go_wp2
    repeat (go_quiet (fail); try go_wp2)
    go_ret2
    exact ⟨by first | rfl | (simp; done) | (simp [*]; done), by repeat (first | exact Drawn0.refl _ | apply Drawn0.step)⟩
   rw [if_pos c4] at H
   have c4b0 : decide (x5_1 < (l0.length : Int)) = true := decide_eq_true c4
   clear c4
   refine neg_first (p := (0 ≤ x5_1)) (fun c5 => ?_) (fun c5 => ?_)
   ·rw [if_neg c5] at H
    exact absurd H (by simp)
   rw [if_pos c5] at H
   have c5b0 : decide (0 ≤ x5_1) = true := decide_eq_true c5
   clear c5
   refine neg_first (p := (((rd_T45 l0 x5_1).f0).size + 1 ≤ 9223372036854775807)) (fun c6 => ?_) (fun c6 => ?_)
   ·rw [if_neg c6] at H
    exact absurd H (by simp)
   rw [if_pos c6] at H
   have c6b0 := eq_true c6
   have c6b1 : decide (((rd_T45 l0 x5_1).f0).size + 1 ≤ 9223372036854775807) = true := decide_eq_true c6
   try have c6b2 : (9223372036854775807 < ((rd_T45 l0 x5_1).f0).size + 1) = False := eq_false (Nat.not_lt.2 c6)
   refine neg_first (p := ((((rd_T45 l0 x5_1).f0) ++ (⟨#[61]⟩ : ByteArray)).size + ((rd_T45 l0 x5_1).f1).size ≤ 9223372036854775807)) (fun c7 => ?_) (fun c7 => ?_)
   ·rw [if_neg c7] at H
    exact absurd H (by simp)
   rw [if_pos c7] at H
   have c7b0 := eq_true c7
   have c7b1 : decide ((((rd_T45 l0 x5_1).f0) ++ (⟨#[61]⟩ : ByteArray)).size + ((rd_T45 l0 x5_1).f1).size ≤ 9223372036854775807) = true := decide_eq_true c7
   try have c7b2 : (9223372036854775807 < (((rd_T45 l0 x5_1).f0) ++ (⟨#[61]⟩ : ByteArray)).size + ((rd_T45 l0 x5_1).f1).size) = False := eq_false (Nat.not_lt.2 c7)
   (try have c7b4 : (9223372036854775807 < ((rd_T45 l0 x5_1).f0).size + (⟨#[61]⟩ : ByteArray).size + ((rd_T45 l0 x5_1).f1).size) = False := eq_false (by have h_ := c7; simp only [ByteArray.size_append, ByteArray.size_extract] at h_; omega)); (try have c7b5 : (9223372036854775807 < ((rd_T45 l0 x5_1).f0).size + 1 + ((rd_T45 l0 x5_1).f1).size) = False := eq_false (by have h_ := c7; simp only [ByteArray.size_append] at h_; have e0_ : (⟨#[61]⟩ : ByteArray).size = 1 := rfl; omega))
   refine neg_first (p := (((((rd_T45 l0 x5_1).f0) ++ (⟨#[61]⟩ : ByteArray)) ++ ((rd_T45 l0 x5_1).f1)).size + 1 ≤ 9223372036854775807)) (fun c8 => ?_) (fun c8 => ?_)
   ·rw [if_neg c8] at H
    exact absurd H (by simp)
   rw [if_pos c8] at H
   have c8b0 := eq_true c8
   have c8b1 : decide (((((rd_T45 l0 x5_1).f0) ++ (⟨#[61]⟩ : ByteArray)) ++ ((rd_T45 l0 x5_1).f1)).size + 1 ≤ 9223372036854775807) = true := decide_eq_true c8
   try have c8b2 : (9223372036854775807 < ((((rd_T45 l0 x5_1).f0) ++ (⟨#[61]⟩ : ByteArray)) ++ ((rd_T45 l0 x5_1).f1)).size + 1) = False := eq_false (Nat.not_lt.2 c8)
   (try have c8b4 : (9223372036854775807 < ((rd_T45 l0 x5_1).f0).size + (⟨#[61]⟩ : ByteArray).size + ((rd_T45 l0 x5_1).f1).size + 1) = False := eq_false (by have h_ := c8; simp only [ByteArray.size_append, ByteArray.size_extract] at h_; omega)); (try have c8b5 : (9223372036854775807 < ((rd_T45 l0 x5_1).f0).size + 1 + ((rd_T45 l0 x5_1).f1).size + 1) = False := eq_false (by have h_ := c8; simp only [ByteArray.size_append] at h_; have e0_ : (⟨#[61]⟩ : ByteArray).size = 1 := rfl; omega))
   refine neg_first (p := (x4_1.size + (((((rd_T45 l0 x5_1).f0) ++ (⟨#[61]⟩ : ByteArray)) ++ ((rd_T45 l0 x5_1).f1)) ++ (⟨#[0]⟩ : ByteArray)).size ≤ 9223372036854775807)) (fun c9 => ?_) (fun c9 => ?_)
   ·rw [if_neg c9] at H
    exact absurd H (by simp)
   rw [if_pos c9] at H
   have c9b0 := eq_true c9
   have c9b1 : decide (x4_1.size + (((((rd_T45 l0 x5_1).f0) ++ (⟨#[61]⟩ : ByteArray)) ++ ((rd_T45 l0 x5_1).f1)) ++ (⟨#[0]⟩ : ByteArray)).size ≤ 9223372036854775807) = true := decide_eq_true c9
   try have c9b2 : (9223372036854775807 < x4_1.size + (((((rd_T45 l0 x5_1).f0) ++ (⟨#[61]⟩ : ByteArray)) ++ ((rd_T45 l0 x5_1).f1)) ++ (⟨#[0]⟩ : ByteArray)).size) = False := eq_false (Nat.not_lt.2 c9)
   (try have c9b4 : (9223372036854775807 < x4_1.size + ((rd_T45 l0 x5_1).f0).size + (⟨#[61]⟩ : ByteArray).size + ((rd_T45 l0 x5_1).f1).size + (⟨#[0]⟩ : ByteArray).size) = False := eq_false (by have h_ := c9; simp only [ByteArray.size_append, ByteArray.size_extract] at h_; omega)); (try have c9b5 : (9223372036854775807 < x4_1.size + (((rd_T45 l0 x5_1).f0).size + 1 + ((rd_T45 l0 x5_1).f1).size + 1)) = False := eq_false (by have h_ := c9; simp only [ByteArray.size_append] at h_; have e0_ : (⟨#[61]⟩ : ByteArray).size = 1 := rfl; have e1_ : (⟨#[0]⟩ : ByteArray).size = 1 := rfl; omega))
   have H' := Aside0.mk H
   clear H
   have p453 : 0 ≤ (x5_1 : Int) := of_decide_eq_true (by first | (with_reducible assumption) | assumption)
   have q453 : x5_1 < (l0.length : Int) := of_decide_eq_true (by first | (with_reducible assumption) | assumption)
   obtain ⟨ad453, e453, hx453_0, hx453_1⟩ := at_T45 HR0.out x5_1 p453 q453
   cases e453
   replace p453 := eq_true p453
   replace q453 := eq_true q453
   have p454 : 0 ≤ (x5_1 : Int) := of_decide_eq_true (by first | (with_reducible assumption) | assumption)
   have q454 : x5_1 < (l0.length : Int) := of_decide_eq_true (by first | (with_reducible assumption) | assumption)
   obtain ⟨ad454, e454, hx454_0, hx454_1⟩ := at_T45 HR0.out x5_1 p454 q454
   obtain rfl : ad453 = ad454 := (by injection e454)
   replace p454 := eq_true p454
   replace q454 := eq_true q454
   go_wp2
   repeat (go_quiet (fail); try go_wp2)
   go_roundg k1
   case measure => have := HK1.out; omega
   case rel => exact ⟨(x4_1 ++ (((((rd_T45 l0 x5_1).f0) ++ (⟨#[61]⟩ : ByteArray)) ++ ((rd_T45 l0 x5_1).f1)) ++ (⟨#[0]⟩ : ByteArray))), (wrap64 (x5_1 + 1)), (by first | rfl | (simp; done) | (simp [*]; done)), (by first | rfl | (simp; done) | (simp [*]; done)), H', ⟨by have := HK1.out; omega⟩, by repeat (first | exact Drawn0.refl _ | apply Drawn0.step)⟩
end Go.Proofs.YtclcnkmefldpiaaDoor.P
namespace Go.Proofs.YtclcnkmefldpiaaDoor.P
open Go.RowKit Go.Proofs.YtclcnkmefldpiaaDoorW.PrintWords Go.Proofs.YtclcnkmefldpiaaDoorW.PrintLast Go.Proofs.YtclcnkmefldpiaaDoorW.PrintMore
attribute [local go_sem] max2_int min2_int max_two min_two max_three min_three max_four min_four   -- for this text's walks alone
set_option linter.unusedVariables false
set_option linter.unusedSimpArgs false
set_option linter.unnecessarySimpa false
mutual
def headgateref21_Parse.l0 : Nat → ByteArray → List (S45) → Option ((List (S45)) × Int)
 | 0, _, _ => none
 | k + 1, x0, x4 => if (x0.size : Int) > 0 then ((headgateref21_find.f k x0 0).bind fun t466 => (if t466 < 0 then (headgateref21_Parse.j1 k x0 x4 t466 true) else (headgateref21_Parse.j1 k x0 x4 t466 ((x4.length : Int) == 16)))) else ((headgateref21_Good.f k x4).bind fun t465 => (if t465 = true then (some (x4, 0)) else (some (([] : List (S45)), 210))))
def headgateref21_Parse.j1 : Nat → ByteArray → List (S45) → Int → Bool → Option ((List (S45)) × Int)
 | 0, _, _, _, _ => none
 | k + 1, x0, x4, x5, x18 => if x18 = true then (some (([] : List (S45)), 210)) else (if 0 ≤ x5 then (if x5 ≤ (x0.size : Int) then ((headgateref21_find.f k (x0.extract 0 (x5 : Int).toNat) 61).bind fun t467 => (if t467 < 0 then (some (([] : List (S45)), 210)) else (if 0 ≤ t467 then (if t467 ≤ (x0.size : Int) then (if 0 ≤ (wrap64 (t467 + 1)) then (if (wrap64 (t467 + 1)) ≤ x5 then (if x4.length < 4398046511104 then (if 0 ≤ (wrap64 (x5 + 1)) then (if (wrap64 (x5 + 1)) ≤ (x0.size : Int) then (headgateref21_Parse.l0 k (x0.extract ((wrap64 (x5 + 1)) : Int).toNat x0.size) (x4 ++ [(⟨x0.extract 0 (t467 : Int).toNat, x0.extract ((wrap64 (t467 + 1)) : Int).toNat (x5 : Int).toNat⟩ : S45)])) else (none)) else (none)) else (none)) else (none)) else (none)) else (none)) else (none)))) else (none)) else (none))
end
def headgateref21_Parse.f (k : Nat) (a0 : ByteArray) : Option ((List (S45)) × Int) := headgateref21_Parse.l0 k a0 ([] : List (S45))
def headgateref21_Parse.T9 : Bool × List (List Nat × List Nat) := (true, [([], []), ([], []), ([], []), ([1, 2], [1, 2]), ([], []), ([], []), ([5], [5]), ([], []), ([4, 6, 7], [4, 6, 7]), ([3, 8], [3, 8]), ([9], [9]), ([0, 10], [0, 10]), ([11, 11, 0, 1, 2, 3, 4, 5, 6, 7, 8, 9, 10, 11], [0, 11])])
def headgateref21_Parse.B9 : List Nat := [0, 0, 0, 6, 0, 0, 32, 0, 240, 510, 1022, 2047, 4095]
theorem headgateref21_Parse.tab9 : rtab .any (opsOf Tryd.f21 9) = headgateref21_Parse.T9 := by kernel_rfl
theorem headgateref21_Parse.bits9 : waitsOk headgateref21_Parse.T9.2 headgateref21_Parse.B9 = true := by kernel_rfl
abbrev d21x0 : Array Bool := #[false, false, false, false, false, false, false, false, false, false, false, false, false]
abbrev d21x1 : Array Bool := dB 13 1
abbrev d21x2 : Array Bool := dB 13 3
abbrev d21x3 : Array Bool := dB 13 7
abbrev d21x4 : Array Bool := dB 13 15
abbrev d21x5 : Array Bool := dB 13 31
abbrev d21x6 : Array Bool := dB 13 63
abbrev d21x7 : Array Bool := dB 13 127
abbrev d21x8 : Array Bool := dB 13 255
abbrev d21x9 : Array Bool := dB 13 511
abbrev d21x10 : Array Bool := dB 13 1023
abbrev d21x11 : Array Bool := dB 13 2047
abbrev d21x12 : Array Bool := dB 13 4095
abbrev d21x13 : Array Bool := dB 13 8191
set_option maxHeartbeats 8000000 in
set_option maxRecDepth 100000 in
theorem headgateref21_Parse.calls (k : Nat) (a0 : ByteArray) (r1 : List (S45)) (r2 : Int) (w : World) (h : headgateref21_Parse.f k a0 = some (r1, r2)) :
  Calls Tryd.prog 21 #[.string a0] w fun e w' => ∃ v0_ : Value, e = .returned (.tuple #[v0_, .int .i64 r2]) ∧ Kd.R k45 45 w' w.heap.size (fun _ => True) v0_ r1 ∧ Below w.heap.size w w' := by
 have hu45 := Tryd.underlying45
 have HB := Aside0.mk (Below.refl w.heap.size w)
 have H : (headgateref21_Parse.l0 k a0 ([] : List (S45))) = some (r1, r2) := h
 clear h
 have H' := Aside0.mk H
 clear H
 go_enter Tryd.func21, Tryd.ntmps21
 go_wp2
 go_loopg [0, 4] k (fun kq v0 v4 w' => ∃ (x0_1 : ByteArray) (x4_1 : List (S45)), v0 = .string x0_1 ∧ Aside0 (headgateref21_Parse.l0 kq x0_1 x4_1 = some (r1, r2)) ∧ Aside0 (kq ≤ k) ∧ Aside0 (Kd.R k45 45 w' w.heap.size (fun _ => True) v4 x4_1) ∧ Aside0 (Below w.heap.size w w'))
 case atStart => exact ⟨(a0), (([] : List (S45))), (by first | rfl | (simp; done) | (simp [*]; done)), H', ⟨Nat.le_refl _⟩, ⟨by first | exact Kd.R_nil _ _ _ _ _ | exact Kd.N_nil _ _ _ _ _ | exact Kd.V_nil _ _ _ _ _ | exact Kd.Q_nil _ _ _ _ _ | exact Kd.S_nil _ _ _ _ _⟩, ⟨hb_ HB⟩⟩
 case round =>
  clear H'
  obtain ⟨x0_1, x4_1, rfl, HA, HK1, HO_4, HB⟩ := hrel
  cases gk with
  | zero => exact absurd HA.out (by simp [headgateref21_Parse.l0])
  | succ k1 =>
   have H := HA.out
   clear HA
   simp only [headgateref21_Parse.l0] at H
   refine neg_first (p := ((x0_1.size : Int) > 0)) (fun c2 => ?_) (fun c2 => ?_)
   ·rw [if_neg c2] at H
    have c2b0 : decide (0 < (x0_1.size : Int)) = false := decide_eq_false c2
    have c2b1 : decide (0 < x0_1.size) = false := decide_eq_false (by omega)
    clear c2
    replace H := Option.bind_eq_some_iff.mp H
    obtain ⟨t465, A240, H⟩ := H
    try dsimp only at H
    have A24 := Aside0.mk A240
    clear A240
    by_cases c25 : t465 = true
    ·subst c25
     have H1 := H
     rw [if_pos rfl] at H1
     clear H
     have H := H1
     clear H1
     simp only [Option.some.injEq, Prod.mk.injEq] at H
     obtain ⟨rfl, rfl⟩ := H
     obtain ⟨Ao26, co26, eo26⟩ := Kd.R_slice HO_4.out
     subst eo26
     go_wp2_with (first | ((with_reducible refine gate_callee (f := 24) rfl ?_); refine goesL_ (some 42) rfl rfl Tryd.func24 (by kernel_rfl) rfl #[.slice Ao26 x4_1.length co26] rfl (by (try simp only [List.map_toArray, List.map_cons, List.map_nil]); first | done | rfl | (simp only [List.length_drop, List.length_take]; rfl)) ?_; (with_reducible refine (headgateref21_Good.calls k1 _ _ x4_1 true _ ?side1 ?side2 A24.out).mono ?_); (case side1 => repeat (first | exact (Kd.R_reads' HO_4.out).2.2 | (with_reducible refine Kd.C_alloc ?_ _) | (with_reducible refine Kd.C_drewN ?_ _) | (with_reducible refine Kd.C_drew ?_))); (case side2 => exact (Kd.R_reads' HO_4.out).2.1); rintro e w' ⟨rfl, ⟨nd, rfl⟩⟩; refine ⟨_, rfl, ?_⟩))
     go_ret2
     exact ⟨_, by first | rfl | (simp [errW_none, errW_some] <;> rfl) | (simp [*, errW_none, errW_some] <;> rfl) | (simp [bt, *]; done) | (unfold bt; simp [*]; done), by (with_reducible repeat (first | apply Kd.R_alloc | apply Kd.R_drewN | apply Kd.R_drew)); exact HO_4.out, by repeat (first | (with_reducible first | exact HB.out | apply below_alloc | apply pw_below_drewN | apply below_drew1) | exact HB.out)⟩
    replace c25 := Bool.eq_false_iff.mpr c25
    subst c25
    have H1 := H
    rw [if_neg (show ¬ (false = true) by decide)] at H1
    clear H
    have H := H1
    clear H1
    simp only [Option.some.injEq, Prod.mk.injEq] at H
    obtain ⟨rfl, rfl⟩ := H
    obtain ⟨Ao27, co27, eo27⟩ := Kd.R_slice HO_4.out
    subst eo27
    go_wp2_with (first | ((with_reducible refine gate_callee (f := 24) rfl ?_); refine goesL_ (some 42) rfl rfl Tryd.func24 (by kernel_rfl) rfl #[.slice Ao27 x4_1.length co27] rfl (by (try simp only [List.map_toArray, List.map_cons, List.map_nil]); first | done | rfl | (simp only [List.length_drop, List.length_take]; rfl)) ?_; (with_reducible refine (headgateref21_Good.calls k1 _ _ x4_1 false _ ?side1 ?side2 A24.out).mono ?_); (case side1 => repeat (first | exact (Kd.R_reads' HO_4.out).2.2 | (with_reducible refine Kd.C_alloc ?_ _) | (with_reducible refine Kd.C_drewN ?_ _) | (with_reducible refine Kd.C_drew ?_))); (case side2 => exact (Kd.R_reads' HO_4.out).2.1); rintro e w' ⟨rfl, ⟨nd, rfl⟩⟩; refine ⟨_, rfl, ?_⟩))
    go_ret2
    exact ⟨_, by first | rfl | (simp [errW_none, errW_some] <;> rfl) | (simp [*, errW_none, errW_some] <;> rfl) | (simp [bt, *]; done) | (unfold bt; simp [*]; done), by first | exact Kd.R_nil _ _ _ _ _ | exact Kd.N_nil _ _ _ _ _ | exact Kd.V_nil _ _ _ _ _ | exact Kd.Q_nil _ _ _ _ _ | exact Kd.S_nil _ _ _ _ _, by repeat (first | (with_reducible first | exact HB.out | apply below_alloc | apply pw_below_drewN | apply below_drew1) | exact HB.out)⟩
   rw [if_pos c2] at H
   have c2b0 : decide (0 < (x0_1.size : Int)) = true := decide_eq_true c2
   have c2b1 : decide (0 < x0_1.size) = true := decide_eq_true (by omega)
   clear c2
   replace H := Option.bind_eq_some_iff.mp H
   obtain ⟨t466, A30, H⟩ := H
   try dsimp only at H
   have A3 := Aside0.mk A30
   clear A30
   have HC4 := Aside0.mk H
   clear H
   go_upto_region 4 with (first | ((with_reducible refine gate_callee (f := 29) rfl ?_); refine goesL_ (some 11) rfl rfl Tryd.func29 (by kernel_rfl) rfl #[.string x0_1, .int .u8 0] rfl (by (try simp only [List.map_toArray, List.map_cons, List.map_nil]); first | done | rfl | (simp only [List.length_drop, List.length_take]; rfl)) ?_; (with_reducible refine (headgateref21_find.calls k1 x0_1 0 t466 _ A3.out).mono ?_); rintro e w' ⟨rfl, ⟨nd, rfl⟩⟩; refine ⟨_, rfl, ?_⟩))
   (try simp only [Act.put, la_, lb_, lc_])
   go_cut [18] (fun v18 wc => ∃ (kq : Nat) (x18_3 : Bool), v18 = .bool x18_3 ∧ Aside0 (headgateref21_Parse.j1 kq x0_1 x4_1 t466 x18_3 = some (r1, r2)) ∧ Aside0 (kq ≤ k1) ∧ Aside0 (Kd.R k45 45 wc w.heap.size (fun _ => True) u4 x4_1) ∧ Aside0 (Below w.heap.size w wc))
   case first =>
    have H := HC4.out
    clear HC4
    by_cases c5 : t466 < 0
    ·rw [if_pos c5] at H
     have c5b0 : decide (t466 < 0) = true := decide_eq_true c5
     clear c5
     (first | rw [c5b0] | (simp only [i64_w, i32_w]; rw [c5b0]) | skip)
     have H' := Aside0.mk H
     clear H
     go_wp2
     go_meet
     case rel => exact ⟨_, (true), (by first | rfl | (simp; done) | (simp [*]; done)), H', ⟨by have := HK1.out; first | omega | exact Nat.le_refl _⟩, ⟨by (with_reducible repeat (first | apply Kd.R_alloc | apply Kd.R_drewN | apply Kd.R_drew)); exact HO_4.out⟩, ⟨hb_ HB⟩⟩
    rw [if_neg c5] at H
    have c5b0 : decide (t466 < 0) = false := decide_eq_false c5
    clear c5
    (first | rw [c5b0] | (simp only [i64_w, i32_w]; rw [c5b0]) | skip)
    have H' := Aside0.mk H
    clear H
    obtain ⟨Ao6, co6, eo6⟩ := Kd.R_slice HO_4.out
    subst eo6
    go_wp2
    go_meet
    case rel => exact ⟨_, (((x4_1.length : Int) == 16)), (by first | rfl | (simp; done) | (simp [*]; done)), H', ⟨by have := HK1.out; first | omega | exact Nat.le_refl _⟩, ⟨by (with_reducible repeat (first | apply Kd.R_alloc | apply Kd.R_drewN | apply Kd.R_drew)); exact HO_4.out⟩, ⟨hb_ HB⟩⟩
   case rest =>
    clear HC4
    try clear c2
    try clear c2b0
    try clear c2b1
    try clear p2
    try clear c5
    try clear c5b0
    obtain ⟨kq, x18_3, rfl, HA, HJ3, HO_4, HB⟩ := hcut
    cases kq with
    | zero => exact absurd HA.out (by simp [headgateref21_Parse.j1])
    | succ kj3 =>
     have H := HA.out
     clear HA
     simp only [headgateref21_Parse.j1] at H
     by_cases c7 : x18_3 = true
     ·subst c7
      have H1 := H
      rw [if_pos rfl] at H1
      clear H
      have H := H1
      clear H1
      simp only [Option.some.injEq, Prod.mk.injEq] at H
      obtain ⟨rfl, rfl⟩ := H
      go_wp2
      go_ret2
      exact ⟨_, by first | rfl | (simp [errW_none, errW_some] <;> rfl) | (simp [*, errW_none, errW_some] <;> rfl) | (simp [bt, *]; done) | (unfold bt; simp [*]; done), by first | exact Kd.R_nil _ _ _ _ _ | exact Kd.N_nil _ _ _ _ _ | exact Kd.V_nil _ _ _ _ _ | exact Kd.Q_nil _ _ _ _ _ | exact Kd.S_nil _ _ _ _ _, by repeat (first | (with_reducible first | exact HB.out | apply below_alloc | apply pw_below_drewN | apply below_drew1) | exact HB.out)⟩
     replace c7 := Bool.eq_false_iff.mpr c7
     subst c7
     have H1 := H
     rw [if_neg (show ¬ (false = true) by decide)] at H1
     clear H
     have H := H1
     clear H1
     refine neg_first (p := (0 ≤ t466)) (fun c8 => ?_) (fun c8 => ?_)
     ·rw [if_neg c8] at H
      exact absurd H (by simp)
     rw [if_pos c8] at H
     have c8b0 := eq_true c8
     have c8b1 : decide (0 ≤ t466) = true := decide_eq_true c8
     clear c8
     refine neg_first (p := (t466 ≤ (x0_1.size : Int))) (fun c9 => ?_) (fun c9 => ?_)
     ·rw [if_neg c9] at H
      exact absurd H (by simp)
     rw [if_pos c9] at H
     have c9b0 := eq_true c9
     have c9b1 : decide (t466 ≤ (x0_1.size : Int)) = true := decide_eq_true c9
     clear c9
     replace H := Option.bind_eq_some_iff.mp H
     obtain ⟨t467, A100, H⟩ := H
     try dsimp only at H
     have A10 := Aside0.mk A100
     clear A100
     by_cases c11 : t467 < 0
     ·rw [if_pos c11] at H
      have c11b0 : decide (t467 < 0) = true := decide_eq_true c11
      clear c11
      simp only [Option.some.injEq, Prod.mk.injEq] at H
      obtain ⟨rfl, rfl⟩ := H
      go_wp2_with (first | ((with_reducible refine gate_callee (f := 29) rfl ?_); refine goesL_ (some 22) rfl rfl Tryd.func29 (by kernel_rfl) rfl #[.string (x0_1.extract 0 (t466 : Int).toNat), .int .u8 61] rfl (by (try simp only [List.map_toArray, List.map_cons, List.map_nil]); first | done | rfl | (simp only [List.length_drop, List.length_take]; rfl)) ?_; (with_reducible refine (headgateref21_find.calls kj3 (x0_1.extract 0 (t466 : Int).toNat) 61 t467 _ A10.out).mono ?_); rintro e w' ⟨rfl, ⟨nd, rfl⟩⟩; refine ⟨_, rfl, ?_⟩))
      go_ret2
      exact ⟨_, by first | rfl | (simp [errW_none, errW_some] <;> rfl) | (simp [*, errW_none, errW_some] <;> rfl) | (simp [bt, *]; done) | (unfold bt; simp [*]; done), by first | exact Kd.R_nil _ _ _ _ _ | exact Kd.N_nil _ _ _ _ _ | exact Kd.V_nil _ _ _ _ _ | exact Kd.Q_nil _ _ _ _ _ | exact Kd.S_nil _ _ _ _ _, by repeat (first | (with_reducible first | exact HB.out | apply below_alloc | apply pw_below_drewN | apply below_drew1) | exact HB.out)⟩
     rw [if_neg c11] at H
     have c11b0 : decide (t467 < 0) = false := decide_eq_false c11
     clear c11
     refine neg_first (p := (0 ≤ t467)) (fun c12 => ?_) (fun c12 => ?_)
     ·rw [if_neg c12] at H
      exact absurd H (by simp)
     rw [if_pos c12] at H
     have c12b0 := eq_true c12
     have c12b1 : decide (0 ≤ t467) = true := decide_eq_true c12
     clear c12
     refine neg_first (p := (t467 ≤ (x0_1.size : Int))) (fun c13 => ?_) (fun c13 => ?_)
     ·rw [if_neg c13] at H
      exact absurd H (by simp)
     rw [if_pos c13] at H
     have c13b0 := eq_true c13
     have c13b1 : decide (t467 ≤ (x0_1.size : Int)) = true := decide_eq_true c13
     clear c13
     obtain ⟨ji14, hji14⟩ : ∃ j_ : Int, (wrap64 (t467 + 1)) = j_ := ⟨_, rfl⟩
     replace H : (if 0 ≤ (ji14) then (if (ji14) ≤ t466 then (if x4_1.length < 4398046511104 then (if 0 ≤ (wrap64 (t466 + 1)) then (if (wrap64 (t466 + 1)) ≤ (x0_1.size : Int) then (headgateref21_Parse.l0 kj3 (x0_1.extract ((wrap64 (t466 + 1)) : Int).toNat x0_1.size) (x4_1 ++ [(⟨x0_1.extract 0 (t467 : Int).toNat, x0_1.extract ((ji14) : Int).toNat (t466 : Int).toNat⟩ : S45)])) else (none)) else (none)) else (none)) else (none)) else (none)) = some (r1, r2) := by first | (rw [hji14] at H; exact H) | (simp only [hji14] at H ⊢; exact H)
     (try rw [hji14] at A10)
     have hji14w : (IntKind.i64.wrap (t467 + 1)) = ji14 := (i64_w _).trans hji14
     refine neg_first (p := (0 ≤ (ji14))) (fun c15 => ?_) (fun c15 => ?_)
     ·rw [if_neg c15] at H
      exact absurd H (by simp)
     rw [if_pos c15] at H
     have c15b0 := eq_true c15
     have c15b1 : decide (0 ≤ (ji14)) = true := decide_eq_true c15
     clear c15
     refine neg_first (p := ((ji14) ≤ t466)) (fun c16 => ?_) (fun c16 => ?_)
     ·rw [if_neg c16] at H
      exact absurd H (by simp)
     rw [if_pos c16] at H
     have c16b0 := eq_true c16
     have c16b1 : decide ((ji14) ≤ t466) = true := decide_eq_true c16
     clear c16
     have c17b0 := eq_true (of_decide_eq_true (by first | (with_reducible assumption) | assumption) : t466 ≤ (x0_1.size : Int))
     refine neg_first (p := (x4_1.length < 4398046511104)) (fun c18 => ?_) (fun c18 => ?_)
     ·rw [if_neg c18] at H
      exact absurd H (by simp)
     rw [if_pos c18] at H
     have LMc18 := Aside0.mk c18
     clear c18
     obtain ⟨y468, hy468⟩ : ∃ y_ : List (S45), y_ = (x4_1 ++ [(⟨x0_1.extract 0 (t467 : Int).toNat, x0_1.extract ((ji14) : Int).toNat (t466 : Int).toNat⟩ : S45)]) := ⟨_, rfl⟩
     replace H : (if 0 ≤ (wrap64 (t466 + 1)) then (if (wrap64 (t466 + 1)) ≤ (x0_1.size : Int) then (headgateref21_Parse.l0 kj3 (x0_1.extract ((wrap64 (t466 + 1)) : Int).toNat x0_1.size) y468) else (none)) else (none)) = some (r1, r2) := by first | (rw [hy468]; with_reducible exact H) | (have H2_ := (Option.bind_some _ _).symm.trans H; rw [hy468]; with_reducible exact H2_) | (have H2_ := (Option.bind_some _ _).symm.trans H; with_reducible exact H2_) | with_reducible exact H | (rw [hy468]; exact H) | exact H
     have Ny468 := Aside0.mk hy468
     clear hy468
     obtain ⟨ji19, hji19⟩ : ∃ j_ : Int, (wrap64 (t466 + 1)) = j_ := ⟨_, rfl⟩
     replace H : (if 0 ≤ (ji19) then (if (ji19) ≤ (x0_1.size : Int) then (headgateref21_Parse.l0 kj3 (x0_1.extract ((ji19) : Int).toNat x0_1.size) y468) else (none)) else (none)) = some (r1, r2) := by first | (rw [hji19] at H; exact H) | (simp only [hji19] at H ⊢; exact H)
     (try rw [hji19] at A10)
     have hji19w : (IntKind.i64.wrap (t466 + 1)) = ji19 := (i64_w _).trans hji19
     refine neg_first (p := (0 ≤ (ji19))) (fun c20 => ?_) (fun c20 => ?_)
     ·rw [if_neg c20] at H
      exact absurd H (by simp)
     rw [if_pos c20] at H
     have c20b0 := eq_true c20
     have c20b1 : decide (0 ≤ (ji19)) = true := decide_eq_true c20
     clear c20
     refine neg_first (p := ((ji19) ≤ (x0_1.size : Int))) (fun c21 => ?_) (fun c21 => ?_)
     ·rw [if_neg c21] at H
      exact absurd H (by simp)
     rw [if_pos c21] at H
     have c21b0 := eq_true c21
     have c21b1 : decide ((ji19) ≤ (x0_1.size : Int)) = true := decide_eq_true c21
     clear c21
     have H' := Aside0.mk H
     clear H
     try go_wp2_with (first | ((with_reducible refine gate_callee (f := 29) rfl ?_); refine goesL_ (some 22) rfl rfl Tryd.func29 (by kernel_rfl) rfl #[.string (x0_1.extract 0 (t466 : Int).toNat), .int .u8 61] rfl (by (try simp only [List.map_toArray, List.map_cons, List.map_nil]); first | done | rfl | (simp only [List.length_drop, List.length_take]; rfl)) ?_; (with_reducible refine (headgateref21_find.calls kj3 (x0_1.extract 0 (t466 : Int).toNat) 61 t467 _ A10.out).mono ?_); rintro e w' ⟨rfl, ⟨nd, rfl⟩⟩; refine ⟨_, rfl, ?_⟩))
     (try (rw [drewN_self wc]; generalize hq_ : World.drewN wc _ = wc; have n0_ : Aside0 (Kd.R k45 45 wc w.heap.size (fun _ => True) u4 x4_1) := ⟨by rw [← hq_]; exact (by (with_reducible repeat (first | apply Kd.R_alloc | apply Kd.R_drewN | apply Kd.R_drew)); exact HO_4.out)⟩; have n1_ : Aside0 (Below w.heap.size w wc) := ⟨by rw [← hq_]; exact (hb_ HB)⟩; clear HO_4 HB hq_; have HO_4 := n0_; have HB := n1_; clear n0_ n1_))
     have n0_ := Aside0.mk (Kd.R_drew HO_4.out)
     have n1_ := Aside0.mk (below_drew1 HB.out)
     clear HO_4
     clear HB
     have HO_4 := n0_
     have HB := n1_
     clear n0_ n1_
     refine start_ (n := 13) (S := fun w' => True) (ds := []) d21x0 (by kernel_rfl) rfl rfl trivial (fun hHeld => ?_); refine with_tabW headgateref21_Parse.tab9 headgateref21_Parse.bits9 (fun HT_ HW_ => ?_)
     generalize wc.drew = w22 at HO_4 HB hHeld ⊢
     refine pon_ 0 (some 25) d21x1 HT_.out ?_
     refine pon_ 1 (some 26) d21x2 HT_.out ?_
     refine pon_ 2 (some 27) d21x3 HT_.out ?_
     refine pon_ 3 (some 28) d21x4 HT_.out ?_
     refine pon_ 4 (some 29) d21x5 HT_.out ?_
     refine pon_ 5 (some 30) d21x6 HT_.out ?_
     refine pon_ 6 (some 31) d21x7 HT_.out ?_
     refine pon_ 7 (some 32) d21x8 HT_.out ?_
     refine pon_ 8 (some 33) d21x9 HT_.out ?_
     refine pon_ 9 (some 34) d21x10 HT_.out ?_
     refine one_ (i := 10) (N := some 35) d21x11 rfl rfl (one_of HT_.out (by kernel_rfl)) (by decide) (fun K hK => ?_)
     refine value_ (w1 := ?_) (v := ?_) (by rfl) rfl ?_ ?_
     rotate_left 2
     ·go_simp
      constructor
      ·rfl
      ·rfl
     refine hK.out _ _ trivial (fun hHeld => ?_)
     clear hK K
     refine norm_ (a' := ?_) ?_ ?_
     rotate_left
     ·show Act.put _ (some 35) _ = _
      simp only [Act.put, la_, lb_, lc_, i64_w, i32_w]
      rfl
     refine one_ (i := 11) (N := some 36) d21x12 rfl rfl (one_of HT_.out (by kernel_rfl)) (by decide) (fun K hK => ?_)
     refine Kd.R_append_step k45 (w0 := w) w.heap.size (by rfl) (.tmp 25) (.tmp 35) 24 45 (.agg #[(.string ⟨#[]⟩), (.string ⟨#[]⟩)]) 32 rfl Tryd.underlying24 info45 rfl (by decide) (by omega) u4 x4_1 (⟨x0_1.extract 0 (t467 : Int).toNat, x0_1.extract ((ji14) : Int).toNat (t466 : Int).toNat⟩ : S45) [.string (x0_1.extract 0 (t467 : Int).toNat), .string (x0_1.extract ((ji14) : Int).toNat (t466 : Int).toNat)] (fun _ => True) (fun _ => False) rfl rfl ?aP (fun _ hk => hk.elim) ?aF ?aO ?aB ?aS ?aL ?_
     (case aP => exact k45_mkM _ _ _ (⟨x0_1.extract 0 (t467 : Int).toNat, x0_1.extract ((ji14) : Int).toNat (t466 : Int).toNat⟩ : S45))
     (case aB => exact (hb_ HB))
     (case aF => exact (fun _ _ => trivial))
     (case aO => exact (by (with_reducible repeat (first | apply Kd.R_alloc | apply Kd.R_drewN | apply Kd.R_drew)); exact HO_4.out))
     (case aS => exact (below_size (hb_ HB)))
     (case aL => have := LMc18.out; omega)
     intro v469 w23 ho hb hg hat
     rw [← Ny468.out] at ho
     have n0_ := Aside0.mk (hb)
     have n1_ := Aside0.mk (ho)
     clear HB
     clear HO_4
     have HB := n0_
     have HO470 := n1_
     clear n0_ n1_
     clear ho hb hg hat
     refine hK.out _ _ trivial (fun hHeld => ?_)
     clear hK K
     refine norm_ (a' := ?_) ?_ ?_
     rotate_left
     ·show Act.put _ (some 36) _ = _
      simp only [Act.put, la_, lb_, lc_, i64_w, i32_w]
      rfl
     refine pon_ 12 (some 4) d21x13 HT_.out ?_
     refine done_ (done_of HT_.out (by kernel_rfl)) ?_
     try go_wp2
     go_roundg kj3
     case measure => have := HK1.out; have := HJ3.out; omega
     case rel => exact ⟨(x0_1.extract ((ji19) : Int).toNat x0_1.size), (y468), (by first | rfl | (simp; done) | (simp only [← hji19] <;> (first | rfl | simp)) | (simp [*]; done)), H', ⟨by have := HK1.out; have := HJ3.out; omega⟩, ⟨by (with_reducible repeat (first | apply Kd.R_alloc | apply Kd.R_drewN | apply Kd.R_drew)); exact HO470.out⟩, ⟨hb_ HB⟩⟩
def headgatelaw21_KeysTexts.j0 : Nat → List (S45) → ByteArray → Bool → Option (Bool)
 | 0, _, _, _ => none
 | k + 1, x0, x1, x20 => if x20 = true then ((headgatelaw21_wakes.f).bind fun t472 => (some t472)) else ((headgatelaw21_few.f x0).bind fun t473 => ((keys_Text.f t473).bind fun bt476 => ((headgateref21_Text.f k x0).bind fun bt478 => ((keys_Parse.f k x1).bind fun bt480 => ((headgateref21_Parse.f k x1).bind fun bt484 => (if bt476.1.toList = bt478.1.toList then (if bt476.2 = bt478.2 then ((headgateref21_Pairs.f k bt480.1 bt484.1).bind fun t488 => (if t488 = true then (if bt480.2 = bt484.2 then ((headgateref21_Pairs.f k t473 x0).bind fun t489 => (if t489 = true then ((headgatelaw21_wakes.f).bind fun t490 => (some t490)) else (some false))) else (some false)) else (some false))) else (some false)) else (some false)))))))
def headgatelaw21_KeysTexts.f (k : Nat) (l0 : List (S45)) (a1 : ByteArray) : Option (Bool) := (headgatelaw21_Large.f k l0).bind fun t471 => (if t471 = true then (headgatelaw21_KeysTexts.j0 k l0 a1 true) else (headgatelaw21_KeysTexts.j0 k l0 a1 (decide ((a1.size : Int) > 20000))))
set_option maxHeartbeats 8000000 in
set_option maxRecDepth 100000 in
theorem headgatelaw21_KeysTexts.calls (k : Nat) (A0 : Option Addr) (c0 : Nat) (l0 : List (S45)) (a1 : ByteArray) (r : Bool) (w : World) (hr0 : Kd.C k45 w A0 l0.length l0) (hc0 : l0.length ≤ c0) (hG : Glob w) (hT : r = true) (h : headgatelaw21_KeysTexts.f k l0 a1 = some r) :
  Calls Tryd.prog 6 #[.slice A0 l0.length c0, .string a1] w fun e w' => e = .returned (.bool r) ∧ Below w.heap.size w w' := by
 have HT0 := Aside0.mk hT
 clear hT
 have HG := Aside0.mk hG
 clear hG
 have HR0 := Aside0.mk hr0
 have HC0 := Aside0.mk hc0
 clear hr0 hc0
 have HB := Aside0.mk (Below.refl w.heap.size w)
 have H : ((headgatelaw21_Large.f k l0).bind fun t471 => (if t471 = true then (headgatelaw21_KeysTexts.j0 k l0 a1 true) else (headgatelaw21_KeysTexts.j0 k l0 a1 (decide ((a1.size : Int) > 20000))))) = some r := h
 clear h
 have HC3 := Aside0.mk H
 clear H
 go_enter Tryd.func6, Tryd.ntmps6
 go_upto_region 1 with (fail)
 go_cut [20] (fun v20 wc => ∃ (kq : Nat) (x20_2 : Bool), v20 = .bool x20_2 ∧ Aside0 (headgatelaw21_KeysTexts.j0 kq l0 a1 x20_2 = some r) ∧ Aside0 (kq ≤ k) ∧ Aside0 (Below w.heap.size w wc))
 case first =>
  have H := HC3.out
  clear HC3
  replace H := Option.bind_eq_some_iff.mp H
  obtain ⟨t471, A40, H⟩ := H
  try dsimp only at H
  have A4 := Aside0.mk A40
  clear A40
  by_cases c5 : t471 = true
  ·subst c5
   have H1 := H
   rw [if_pos rfl] at H1
   clear H
   have H := H1
   clear H1
   have H' := Aside0.mk H
   clear H
   go_wp2_with (first | ((with_reducible refine gate_callee (f := 8) rfl ?_); refine goesL_ (some 15) rfl rfl Tryd.func8 (by kernel_rfl) rfl #[.slice A0 l0.length c0] rfl (by (try simp only [List.map_toArray, List.map_cons, List.map_nil]); first | done | rfl | (simp only [List.length_drop, List.length_take]; rfl)) ?_; (with_reducible refine (headgatelaw21_Large.calls k _ _ l0 true _ ?side1 ?side2 A4.out).mono ?_); (case side1 => repeat (first | exact (Kd.C_below HR0.out HB.out) | (with_reducible refine Kd.C_alloc ?_ _) | (with_reducible refine Kd.C_drewN ?_ _) | (with_reducible refine Kd.C_drew ?_))); (case side2 => exact HC0.out); rintro e w' ⟨rfl, ⟨nd, rfl⟩⟩; refine ⟨_, rfl, ?_⟩))
   go_meet
   case rel => exact ⟨_, (true), (by first | rfl | (simp; done) | (simp [*]; done)), H', ⟨by first | omega | exact Nat.le_refl _⟩, ⟨hb_ HB⟩⟩
  replace c5 := Bool.eq_false_iff.mpr c5
  subst c5
  have H1 := H
  rw [if_neg (show ¬ (false = true) by decide)] at H1
  clear H
  have H := H1
  clear H1
  have H' := Aside0.mk H
  clear H
  go_wp2_with (first | ((with_reducible refine gate_callee (f := 8) rfl ?_); refine goesL_ (some 15) rfl rfl Tryd.func8 (by kernel_rfl) rfl #[.slice A0 l0.length c0] rfl (by (try simp only [List.map_toArray, List.map_cons, List.map_nil]); first | done | rfl | (simp only [List.length_drop, List.length_take]; rfl)) ?_; (with_reducible refine (headgatelaw21_Large.calls k _ _ l0 false _ ?side1 ?side2 A4.out).mono ?_); (case side1 => repeat (first | exact (Kd.C_below HR0.out HB.out) | (with_reducible refine Kd.C_alloc ?_ _) | (with_reducible refine Kd.C_drewN ?_ _) | (with_reducible refine Kd.C_drew ?_))); (case side2 => exact HC0.out); rintro e w' ⟨rfl, ⟨nd, rfl⟩⟩; refine ⟨_, rfl, ?_⟩))
  go_meet
  case rel => exact ⟨_, (decide ((a1.size : Int) > 20000)), (by first | rfl | (simp; done) | (simp [*]; done)), H', ⟨by first | omega | exact Nat.le_refl _⟩, ⟨hb_ HB⟩⟩
 case rest =>
  clear HC3
  try clear p2
  try clear c5
  obtain ⟨kq, x20_2, rfl, HA, HJ2, HB⟩ := hcut
  cases kq with
  | zero => exact absurd HA.out (by simp [headgatelaw21_KeysTexts.j0])
  | succ kj2 =>
   have H := HA.out
   clear HA
   simp only [headgatelaw21_KeysTexts.j0] at H
   by_cases c6 : x20_2 = true
   ·subst c6
    have H1 := H
    rw [if_pos rfl] at H1
    clear H
    have H := H1
    clear H1
    replace H := Option.bind_eq_some_iff.mp H
    obtain ⟨t472, A70, H⟩ := H
    try dsimp only at H
    have A7 := Aside0.mk A70
    clear A70
    obtain rfl := Option.some.inj H
    go_wp2_with (first | ((with_reducible refine gate_callee (f := 9) rfl ?_); refine goesL_ (some 21) rfl rfl Tryd.func9 (by kernel_rfl) rfl #[] rfl (by (try simp only [List.map_toArray, List.map_cons, List.map_nil]); first | done | rfl | (simp only [List.length_drop, List.length_take]; rfl)) ?_; (with_reducible refine (headgatelaw21_wakes.calls  t472 _ ?side1 A7.out).mono ?_); (case side1 => first | ((refine Glob.keep HG.out ?_); (repeat (first | (with_reducible first | exact HB.out | apply below_alloc | apply pw_below_drewN | apply below_drew1) | exact HB.out)); done) | exact HG.out); rintro e w8 ⟨rfl, hb⟩; refine ⟨_, rfl, ?_⟩; have n0_ := Aside0.mk (below_step (hb_ HB) hb); clear HB; have HB := n0_; clear n0_; (try clear hb); (try clear hb2); (try clear hk); (try clear hi)))
    go_ret
    exact ⟨by first | rfl | (simp [errW_none, errW_some] <;> rfl) | (simp [*, errW_none, errW_some] <;> rfl) | (simp [bt, *]; done) | (unfold bt; simp [*]; done), by repeat (first | (with_reducible first | exact HB.out | apply below_alloc | apply pw_below_drewN | apply below_drew1) | exact HB.out)⟩
   replace c6 := Bool.eq_false_iff.mpr c6
   subst c6
   have H1 := H
   rw [if_neg (show ¬ (false = true) by decide)] at H1
   clear H
   have H := H1
   clear H1
   replace H := Option.bind_eq_some_iff.mp H
   obtain ⟨t473, A90, H⟩ := H
   try dsimp only at H
   have A9 := Aside0.mk A90
   clear A90
   replace H := Option.bind_eq_some_iff.mp H
   obtain ⟨⟨t476, t477⟩, A100, H⟩ := H
   try dsimp only at H
   have A10 := Aside0.mk A100
   clear A100
   replace H := Option.bind_eq_some_iff.mp H
   obtain ⟨⟨t478, t479⟩, A110, H⟩ := H
   try dsimp only at H
   have A11 := Aside0.mk A110
   clear A110
   replace H := Option.bind_eq_some_iff.mp H
   obtain ⟨⟨t480, t481⟩, A120, H⟩ := H
   try dsimp only at H
   have A12 := Aside0.mk A120
   clear A120
   replace H := Option.bind_eq_some_iff.mp H
   obtain ⟨⟨t484, t485⟩, A130, H⟩ := H
   try dsimp only at H
   have A13 := Aside0.mk A130
   clear A130
   refine neg_first (p := (t476.toList = t478.toList)) (fun c14 => ?_) (fun c14 => ?_)
   ·rw [if_neg c14] at H
    have c14b0 : (t476.toList == t478.toList) = false := beq_eq_false_iff_ne.mpr c14
    have c14b1 : (t476.toList != t478.toList) = true := bne_iff_ne.mpr c14
    exact absurd ((Option.some.inj H).trans HT0.out) (by decide)
   rw [if_pos c14] at H
   have c14b0 : (t476.toList == t478.toList) = true := beq_iff_eq.mpr c14
   have c14b1 : (t476.toList != t478.toList) = false := bne_eq_false_iff_eq.mpr c14
   clear c14
   refine neg_first (p := (t477 = t479)) (fun c15 => ?_) (fun c15 => ?_)
   ·rw [if_neg c15] at H
    have c15b0 : (t477 == t479) = false := beq_eq_false_iff_ne.mpr c15
    have c15b1 : (t477 != t479) = true := bne_iff_ne.mpr c15
    exact absurd ((Option.some.inj H).trans HT0.out) (by decide)
   rw [if_pos c15] at H
   have c15b0 : (t477 == t479) = true := beq_iff_eq.mpr c15
   have c15b1 : (t477 != t479) = false := bne_eq_false_iff_eq.mpr c15
   clear c15
   replace H := Option.bind_eq_some_iff.mp H
   obtain ⟨t488, A160, H⟩ := H
   try dsimp only at H
   have A16 := Aside0.mk A160
   clear A160
   refine neg_first (p := (t488 = true)) (fun c17 => ?_) (fun c17 => ?_)
   ·replace c17 := Bool.eq_false_iff.mpr c17
    subst c17
    have H1 := H
    rw [if_neg (show ¬ (false = true) by decide)] at H1
    clear H
    have H := H1
    clear H1
    exact absurd ((Option.some.inj H).trans HT0.out) (by decide)
   subst c17
   have H1 := H
   rw [if_pos rfl] at H1
   clear H
   have H := H1
   clear H1
   refine neg_first (p := (t481 = t485)) (fun c18 => ?_) (fun c18 => ?_)
   ·rw [if_neg c18] at H
    have c18b0 : (t481 == t485) = false := beq_eq_false_iff_ne.mpr c18
    have c18b1 : (t481 != t485) = true := bne_iff_ne.mpr c18
    exact absurd ((Option.some.inj H).trans HT0.out) (by decide)
   rw [if_pos c18] at H
   have c18b0 : (t481 == t485) = true := beq_iff_eq.mpr c18
   have c18b1 : (t481 != t485) = false := bne_eq_false_iff_eq.mpr c18
   clear c18
   replace H := Option.bind_eq_some_iff.mp H
   obtain ⟨t489, A190, H⟩ := H
   try dsimp only at H
   have A19 := Aside0.mk A190
   clear A190
   refine neg_first (p := (t489 = true)) (fun c20 => ?_) (fun c20 => ?_)
   ·replace c20 := Bool.eq_false_iff.mpr c20
    subst c20
    have H1 := H
    rw [if_neg (show ¬ (false = true) by decide)] at H1
    clear H
    have H := H1
    clear H1
    exact absurd ((Option.some.inj H).trans HT0.out) (by decide)
   subst c20
   have H1 := H
   rw [if_pos rfl] at H1
   clear H
   have H := H1
   clear H1
   replace H := Option.bind_eq_some_iff.mp H
   obtain ⟨t490, A210, H⟩ := H
   try dsimp only at H
   have A21 := Aside0.mk A210
   clear A210
   obtain rfl := Option.some.inj H
   go_wp2_with (first | ((with_reducible refine gate_callee (f := 10) rfl ?_); refine goesL_ (some 23) rfl rfl Tryd.func10 (by kernel_rfl) rfl #[.slice A0 l0.length c0] rfl (by (try simp only [List.map_toArray, List.map_cons, List.map_nil]); first | done | rfl | (simp only [List.length_drop, List.length_take]; rfl)) ?_; (with_reducible refine (headgatelaw21_few.calls _ _ l0 t473 _ ?side1 ?side2 A9.out).mono ?_); (case side1 => repeat (first | exact (Kd.C_below HR0.out HB.out) | (with_reducible refine Kd.C_alloc ?_ _) | (with_reducible refine Kd.C_drewN ?_ _) | (with_reducible refine Kd.C_drew ?_))); (case side2 => exact HC0.out); rintro e w22 ⟨v474, rfl, ho0, hb⟩; refine ⟨_, rfl, ?_⟩; have n0_ := Aside0.mk (Kd.R_lower ho0 (below_size (hb_ HB))); have n1_ := Aside0.mk (below_step (hb_ HB) hb); clear HB; have HO475 := n0_; have HB := n1_; clear n0_ n1_; (try clear hb); (try clear hb2); (try clear hk); (try clear hi); (try clear ho0); obtain ⟨Ao23, co23, eo23⟩ := Kd.R_slice HO475.out; subst eo23) | ((with_reducible refine gate_callee (f := 18) rfl ?_); refine goesL_ (some 26) rfl rfl Tryd.func18 (by kernel_rfl) rfl #[.slice Ao23 t473.length co23] rfl (by (try simp only [List.map_toArray, List.map_cons, List.map_nil]); first | done | rfl | (simp only [List.length_drop, List.length_take]; rfl)) ?_; (with_reducible refine (keys_Text.calls _ _ t473 t476 t477 _ ?side1 ?side2 A10.out).mono ?_); (case side1 => repeat (first | exact (Kd.R_reads' HO475.out).2.2 | (with_reducible refine Kd.C_alloc ?_ _) | (with_reducible refine Kd.C_drewN ?_ _) | (with_reducible refine Kd.C_drew ?_))); (case side2 => exact (Kd.R_reads' HO475.out).2.1); rintro e w24 ⟨rfl, hb⟩; refine ⟨_, rfl, ?_⟩; have n0_ := Aside0.mk (Kd.R_below (by (with_reducible repeat (first | apply Kd.R_alloc | apply Kd.R_drewN | apply Kd.R_drew)); exact HO475.out) hb); have n1_ := Aside0.mk (below_step (hb_ HB) hb); clear HO475; clear HB; have HO475 := n0_; have HB := n1_; clear n0_ n1_; (try clear hb); (try clear hb2); (try clear hk); (try clear hi)) | ((with_reducible refine gate_callee (f := 19) rfl ?_); refine goesL_ (some 31) rfl rfl Tryd.func19 (by kernel_rfl) rfl #[.slice A0 l0.length c0] rfl (by (try simp only [List.map_toArray, List.map_cons, List.map_nil]); first | done | rfl | (simp only [List.length_drop, List.length_take]; rfl)) ?_; (with_reducible refine (headgateref21_Text.calls kj2 _ _ l0 t478 t479 _ ?side1 ?side2 A11.out).mono ?_); (case side1 => repeat (first | exact (Kd.C_below HR0.out HB.out) | (with_reducible refine Kd.C_alloc ?_ _) | (with_reducible refine Kd.C_drewN ?_ _) | (with_reducible refine Kd.C_drew ?_))); (case side2 => exact HC0.out); rintro e w' ⟨rfl, ⟨nd, rfl⟩⟩; refine ⟨_, rfl, ?_⟩) | ((with_reducible refine gate_callee (f := 20) rfl ?_); refine goesL_ (some 36) rfl rfl Tryd.func20 (by kernel_rfl) rfl #[.string a1] rfl (by (try simp only [List.map_toArray, List.map_cons, List.map_nil]); first | done | rfl | (simp only [List.length_drop, List.length_take]; rfl)) ?_; (with_reducible refine (keys_Parse.calls kj2 a1 t480 t481 _ A12.out).mono ?_); rintro e w25 ⟨v482, rfl, ho0, hb⟩; refine ⟨_, rfl, ?_⟩; have n0_ := Aside0.mk (Kd.R_elder' (by (with_reducible repeat (first | apply Kd.R_alloc | apply Kd.R_drewN | apply Kd.R_drew)); exact HO475.out) (Kd.R_base ho0) hb); have n1_ := Aside0.mk (Kd.R_lower (Kd.R_new' ho0 (Kd.R_lt (by (with_reducible repeat (first | apply Kd.R_alloc | apply Kd.R_drewN | apply Kd.R_drew)); exact HO475.out))) (below_size (hb_ HB))); have n2_ := Aside0.mk (below_step (hb_ HB) hb); clear HO475; clear HB; have HO475 := n0_; have HO483 := n1_; have HB := n2_; clear n0_ n1_ n2_; (try clear hb); (try clear hb2); (try clear hk); (try clear hi); (try clear ho0)) | ((with_reducible refine gate_callee (f := 21) rfl ?_); refine goesL_ (some 41) rfl rfl Tryd.func21 (by kernel_rfl) rfl #[.string a1] rfl (by (try simp only [List.map_toArray, List.map_cons, List.map_nil]); first | done | rfl | (simp only [List.length_drop, List.length_take]; rfl)) ?_; (with_reducible refine (headgateref21_Parse.calls kj2 a1 t484 t485 _ A13.out).mono ?_); rintro e w26 ⟨v486, rfl, ho0, hb⟩; refine ⟨_, rfl, ?_⟩; have n0_ := Aside0.mk (Kd.R_elder' (by (with_reducible repeat (first | apply Kd.R_alloc | apply Kd.R_drewN | apply Kd.R_drew)); exact HO475.out) (Kd.R_base ho0) hb); have n1_ := Aside0.mk (Kd.R_elder' (by (with_reducible repeat (first | apply Kd.R_alloc | apply Kd.R_drewN | apply Kd.R_drew)); exact HO483.out) (Kd.R_base ho0) hb); have n2_ := Aside0.mk (Kd.R_lower (Kd.R_new' (Kd.R_new' ho0 (Kd.R_lt (by (with_reducible repeat (first | apply Kd.R_alloc | apply Kd.R_drewN | apply Kd.R_drew)); exact HO475.out))) (Kd.R_lt (by (with_reducible repeat (first | apply Kd.R_alloc | apply Kd.R_drewN | apply Kd.R_drew)); exact HO483.out))) (below_size (hb_ HB))); have n3_ := Aside0.mk (below_step (hb_ HB) hb); clear HO475; clear HO483; clear HB; have HO475 := n0_; have HO483 := n1_; have HO487 := n2_; have HB := n3_; clear n0_ n1_ n2_ n3_; (try clear hb); (try clear hb2); (try clear hk); (try clear hi); (try clear ho0); obtain ⟨Ao27, co27, eo27⟩ := Kd.R_slice HO483.out; subst eo27; obtain ⟨Ao28, co28, eo28⟩ := Kd.R_slice HO487.out; subst eo28) | (go_at_call 15; (with_reducible refine (headgateref21_Pairs.calls kj2 _ _ t480 _ _ t484 true _ ?side1 ?side2 ?side3 ?side4 A16.out).mono ?_); (case side1 => repeat (first | exact (Kd.R_reads' HO483.out).2.2 | (with_reducible refine Kd.C_alloc ?_ _) | (with_reducible refine Kd.C_drewN ?_ _) | (with_reducible refine Kd.C_drew ?_))); (case side2 => exact (Kd.R_reads' HO483.out).2.1); (case side3 => repeat (first | exact (Kd.R_reads' HO487.out).2.2 | (with_reducible refine Kd.C_alloc ?_ _) | (with_reducible refine Kd.C_drewN ?_ _) | (with_reducible refine Kd.C_drew ?_))); (case side4 => exact (Kd.R_reads' HO487.out).2.1); rintro e w' ⟨rfl, ⟨nd, rfl⟩⟩) | (go_at_call 15; (with_reducible refine (headgateref21_Pairs.calls kj2 _ _ t473 _ _ l0 true _ ?side1 ?side2 ?side3 ?side4 A19.out).mono ?_); (case side1 => repeat (first | exact (Kd.R_reads' HO475.out).2.2 | (with_reducible refine Kd.C_alloc ?_ _) | (with_reducible refine Kd.C_drewN ?_ _) | (with_reducible refine Kd.C_drew ?_))); (case side2 => exact (Kd.R_reads' HO475.out).2.1); (case side3 => repeat (first | exact (Kd.C_below HR0.out (hb_ HB)) | (with_reducible refine Kd.C_alloc ?_ _) | (with_reducible refine Kd.C_drewN ?_ _) | (with_reducible refine Kd.C_drew ?_))); (case side4 => exact HC0.out); rintro e w' ⟨rfl, ⟨nd, rfl⟩⟩) | (go_at_call 9; (with_reducible refine (headgatelaw21_wakes.calls  t490 _ ?side1 A21.out).mono ?_); (case side1 => first | ((refine Glob.keep HG.out ?_); (repeat (first | (with_reducible first | exact HB.out | apply below_alloc | apply pw_below_drewN | apply below_drew1) | exact HB.out)); done) | exact HG.out); rintro e w29 ⟨rfl, hb⟩; have n0_ := Aside0.mk (Kd.R_below (by (with_reducible repeat (first | apply Kd.R_alloc | apply Kd.R_drewN | apply Kd.R_drew)); exact HO475.out) hb); have n1_ := Aside0.mk (Kd.R_below (by (with_reducible repeat (first | apply Kd.R_alloc | apply Kd.R_drewN | apply Kd.R_drew)); exact HO483.out) hb); have n2_ := Aside0.mk (Kd.R_below (by (with_reducible repeat (first | apply Kd.R_alloc | apply Kd.R_drewN | apply Kd.R_drew)); exact HO487.out) hb); have n3_ := Aside0.mk (below_step (hb_ HB) hb); clear HO475; clear HO483; clear HO487; clear HB; have HO475 := n0_; have HO483 := n1_; have HO487 := n2_; have HB := n3_; clear n0_ n1_ n2_ n3_; (try clear hb); (try clear hb2); (try clear hk); (try clear hi)))
   go_ret
   exact ⟨by first | rfl | (simp [errW_none, errW_some] <;> rfl) | (simp [*, errW_none, errW_some] <;> rfl) | (simp [bt, *]; done) | (unfold bt; simp [*]; done), by repeat (first | (with_reducible first | exact HB.out | apply below_alloc | apply pw_below_drewN | apply below_drew1) | exact HB.out)⟩
end Go.Proofs.YtclcnkmefldpiaaDoor.P
namespace Go.Proofs.YtclcnkmefldpiaaDoor.Pure
open Go.RowKit Go.Proofs.YtclcnkmefldpiaaDoor.P Go.Proofs.YtclcnkmefldpiaaDoorW.PrintWords Go.Proofs.YtclcnkmefldpiaaDoorW.PrintLast Go.Proofs.YtclcnkmefldpiaaDoorW.PrintMore
set_option linter.unusedVariables false
set_option linter.unusedSimpArgs false
theorem bt_nat (s : ByteArray) (i : Nat) (h : i < s.size) : bt s (i : Int) = ((s.data.toList[i]'(by simpa using h)).toNat : Int) := by
  unfold bt
  rw [dif_pos (by simpa using h)]
  rfl
theorem find_l0 (s : ByteArray) (c : UInt8) (hs : s.size ≤ 1000000) : ∀ (d k i : Nat), i + d = s.size → d + 1 ≤ k → headgateref21_find.l0 k s (c.toNat : Int) (i : Int) = some (if Go.Lib.indexByte (s.data.toList.drop i) c = -1 then -1 else (i : Int) + Go.Lib.indexByte (s.data.toList.drop i) c)
  | 0, k + 1, i, hi, hk => by
    rw [headgateref21_find.l0, if_neg (by omega), List.drop_eq_nil_of_le (by simp; omega)]
    rfl
  | d + 1, k + 1, i, hi, hk => by
    have hlt : i < s.size := by omega
    have hll : i < s.data.toList.length := by simpa using hlt
    rw [headgateref21_find.l0, if_pos (by omega), if_pos (by omega), bt_nat s i hlt, List.drop_eq_getElem_cons hll]
    have hc : (((s.data.toList[i]'hll).toNat : Int) = (c.toNat : Int)) ↔ s.data.toList[i]'hll = c := by
      constructor
      · intro h; exact UInt8.toNat_inj.mp (by omega)
      · intro h; rw [h]
    rw [idx_cons]
    by_cases he : s.data.toList[i]'hll = c
    · rw [if_pos (hc.mpr he), if_pos he, if_neg (by decide), Int.add_zero]
    · rw [if_neg (fun h => he (hc.mp h)), if_neg he, w64 (by omega) (by omega)]
      have ih := find_l0 s c hs d k (i + 1) (by omega) (by omega)
      have hg := Go.Lib.indexByte_ge (s.data.toList.drop (i + 1)) c
      rw [show ((i : Int) + 1) = ((i + 1 : Nat) : Int) from rfl, ih]
      by_cases hm : Go.Lib.indexByte (s.data.toList.drop (i + 1)) c = -1
      · rw [if_pos hm, if_pos hm, if_pos rfl]
      · rw [if_neg hm, if_neg hm, if_neg (by omega)]
        congr 1
        push_cast
        omega
theorem find_spec (k : Nat) (s : ByteArray) (c : UInt8) (hs : s.size ≤ 1000000) (hk : s.size + 1 ≤ k) : headgateref21_find.f k s (c.toNat : Int) = some (Go.Lib.indexByte s.data.toList c) := by
  unfold headgateref21_find.f
  rw [show (0 : Int) = ((0 : Nat) : Int) from rfl, find_l0 s c hs s.size k 0 (by omega) hk, List.drop_zero]
  by_cases h : Go.Lib.indexByte s.data.toList c = -1
  · rw [if_pos h, h]
  · rw [if_neg h]; congr 1; omega
theorem letter_nat : ∀ n : Fin 256, headgateref21_letter.f ((UInt8.ofNat n.val).toNat : Int) = some (keyC (UInt8.ofNat n.val)) := by decide +kernel
theorem letter_spec (c : UInt8) : headgateref21_letter.f (c.toNat : Int) = some (keyC c) := by
  have h := letter_nat ⟨c.toNat, c.toNat_lt⟩
  simpa using h
theorem good_l3 (l : List S45) (hl : l.length ≤ 16) (i : Nat) (hi : i < l.length) : ∀ (d k j : Nat), j + d = i →
    headgateref21_Good.l3 (k + d + 1) l (i : Int) (j : Int) = if ((l.take i).drop j).any (fun q => q.f0.toList == l[i].f0.toList) = true then some false else headgateref21_Good.l0 k l ((i : Int) + 1)
  | 0, k, j, hj => by
    rw [headgateref21_Good.l3, if_neg (by omega), List.drop_eq_nil_of_le (by simp; omega), if_neg (by simp), w64 (by omega) (by omega)]
  | d + 1, k, j, hj => by
    have hjl : j < l.length := by omega
    rw [show k + (d + 1) + 1 = (k + d + 1) + 1 from by omega, headgateref21_Good.l3, if_pos (by omega), if_pos (by omega), if_pos (by omega), if_pos (by omega), if_pos (by omega), rd_at l j hjl, rd_at l i hi, List.drop_eq_getElem_cons (by simp; omega), List.any_cons]
    rw [List.getElem_take]
    by_cases he : l[j].f0.toList = l[i].f0.toList
    · rw [if_pos he, if_pos (by simp [he])]
    · rw [if_neg he, w64 (by omega) (by omega), beq_eq_false_iff_ne.mpr he, Bool.false_or]
      exact good_l3 l hl i hi d k (j + 1) (by omega)
theorem good_l2 (l : List S45) (hl : l.length ≤ 16) (i : Nat) (hi : i < l.length) (hv : l[i].f1.size ≤ 255) : ∀ (d k j : Nat), j + d = l[i].f1.size →
    headgateref21_Good.l2 (k + d + 1) l (i : Int) (j : Int) = if Go.Lib.indexByte (l[i].f1.data.toList.drop j) 0 < 0 then headgateref21_Good.l3 k l (i : Int) 0 else some false
  | 0, k, j, hj => by
    rw [headgateref21_Good.l2, if_pos (by omega), if_pos (by omega), rd_at l i hi, if_neg (by omega), List.drop_eq_nil_of_le (by simp; omega), if_pos (by decide)]
  | d + 1, k, j, hj => by
    have hjs : j < l[i].f1.size := by omega
    have hjl : j < l[i].f1.data.toList.length := by simpa using hjs
    rw [show k + (d + 1) + 1 = (k + d + 1) + 1 from by omega, headgateref21_Good.l2, if_pos (by omega), if_pos (by omega), rd_at l i hi, if_pos (by omega), if_pos (by omega), bt_nat _ j hjs, List.drop_eq_getElem_cons hjl]
    have hc : (((l[i].f1.data.toList[j]'hjl).toNat : Int) = 0) ↔ l[i].f1.data.toList[j]'hjl = 0 := by
      constructor
      · intro h; exact UInt8.toNat_inj.mp (by simpa using h)
      · intro h; rw [h]; rfl
    rw [idx_cons]
    by_cases he : l[i].f1.data.toList[j]'hjl = 0
    · rw [if_pos (hc.mpr he), if_pos he, if_neg (by decide)]
    · rw [if_neg (fun h => he (hc.mp h)), if_neg he, w64 (by omega) (by omega), show ((j : Int) + 1) = ((j + 1 : Nat) : Int) from rfl, good_l2 l hl i hi hv d k (j + 1) (by omega)]
      have hg := Go.Lib.indexByte_ge (l[i].f1.data.toList.drop (j + 1)) 0
      by_cases hm : Go.Lib.indexByte (l[i].f1.data.toList.drop (j + 1)) 0 < 0
      · rw [if_pos hm, if_pos (by omega)]
      · rw [if_neg hm, if_neg (by omega)]
theorem good_l1 (l : List S45) (hl : l.length ≤ 16) (i : Nat) (hi : i < l.length) (hv : l[i].f0.size ≤ 63) : ∀ (d k j : Nat), j + d = l[i].f0.size →
    headgateref21_Good.l1 (k + d + 1) l (i : Int) (j : Int) = if (l[i].f0.data.toList.drop j).all keyC = true then headgateref21_Good.l2 k l (i : Int) 0 else some false
  | 0, k, j, hj => by
    rw [headgateref21_Good.l1, if_pos (by omega), if_pos (by omega), rd_at l i hi, if_neg (by omega), List.drop_eq_nil_of_le (by simp; omega), if_pos (by simp)]
  | d + 1, k, j, hj => by
    have hjs : j < l[i].f0.size := by omega
    have hjl : j < l[i].f0.data.toList.length := by simpa using hjs
    rw [show k + (d + 1) + 1 = (k + d + 1) + 1 from by omega, headgateref21_Good.l1, if_pos (by omega), if_pos (by omega), rd_at l i hi, if_pos (by omega), if_pos (by omega), bt_nat _ j hjs, letter_spec, Option.bind_some, List.drop_eq_getElem_cons hjl, List.all_cons]
    cases hk : keyC (l[i].f0.data.toList[j]'hjl)
    · rw [if_neg (by decide), if_neg (by simp)]
    · rw [if_pos rfl, w64 (by omega) (by omega), show ((j : Int) + 1) = ((j + 1 : Nat) : Int) from rfl, good_l1 l hl i hi hv d k (j + 1) (by omega), Bool.true_and]
theorem good_l0 (l : List S45) (hl : l.length ≤ 16) : ∀ (d K i : Nat), i + d = l.length → 345 * d + 1 ≤ K → headgateref21_Good.l0 K l (i : Int) = some (goodL (l.take i) (l.drop i))
  | 0, K + 1, i, hi, hK => by
    rw [headgateref21_Good.l0, if_neg (by omega), List.drop_eq_nil_of_le (by omega)]
    rfl
  | d + 1, K + 1, i, hi, hK => by
    have hlt : i < l.length := by omega
    rw [headgateref21_Good.l0, if_pos (by omega), if_pos (by omega), rd_at l i hlt, List.drop_eq_getElem_cons hlt]
    unfold goodL pairB keyB
    by_cases h1 : ((l[i].f0).size : Int) < 1
    · obtain ⟨K, rfl⟩ : ∃ K', K = K' + 1 := ⟨K - 1, by omega⟩
      rw [if_pos h1, headgateref21_Good.j1, if_pos rfl, decide_eq_false (show ¬ 1 ≤ l[i].f0.size by omega)]
      simp
    rw [if_neg h1]
    by_cases h2 : ((l[i].f0).size : Int) > 63
    · obtain ⟨K, rfl⟩ : ∃ K', K = K' + 1 := ⟨K - 1, by omega⟩
      rw [if_pos h2, headgateref21_Good.j1, if_pos rfl, decide_eq_false (show ¬ l[i].f0.size ≤ 63 by omega)]
      simp
    rw [if_neg h2]
    by_cases h3 : ((l[i].f1).size : Int) > 255
    · obtain ⟨K, rfl⟩ : ∃ K', K = K' + 1 := ⟨K - 1, by omega⟩
      rw [decide_eq_true h3, headgateref21_Good.j1, if_pos rfl, decide_eq_false (show ¬ l[i].f1.size ≤ 255 by omega)]
      simp
    obtain ⟨K4, rfl⟩ : ∃ K4, K = (((K4 + i + 1) + l[i].f1.size + 1) + l[i].f0.size + 1) + 1 := ⟨K - (i + l[i].f1.size + l[i].f0.size + 4), by omega⟩
    have g1 : headgateref21_Good.l1 (((K4 + i + 1) + l[i].f1.size + 1) + l[i].f0.size + 1) l (i : Int) 0 = if (l[i].f0.data.toList).all keyC = true then headgateref21_Good.l2 ((K4 + i + 1) + l[i].f1.size + 1) l (i : Int) 0 else some false := good_l1 l hl i hlt (by omega) l[i].f0.size ((K4 + i + 1) + l[i].f1.size + 1) 0 (by omega)
    have g2 : headgateref21_Good.l2 ((K4 + i + 1) + l[i].f1.size + 1) l (i : Int) 0 = if Go.Lib.indexByte l[i].f1.data.toList 0 < 0 then headgateref21_Good.l3 (K4 + i + 1) l (i : Int) 0 else some false := good_l2 l hl i hlt (by omega) l[i].f1.size (K4 + i + 1) 0 (by omega)
    have g3 : headgateref21_Good.l3 (K4 + i + 1) l (i : Int) 0 = if (l.take i).any (fun q => q.f0.toList == l[i].f0.toList) = true then some false else headgateref21_Good.l0 K4 l ((i : Int) + 1) := good_l3 l hl i hlt i K4 0 (by omega)
    have g0 := good_l0 l hl d K4 (i + 1) (by omega) (by omega)
    rw [decide_eq_false h3, headgateref21_Good.j1, if_neg (by decide), g1, g2, g3, show ((i : Int) + 1) = ((i + 1 : Nat) : Int) from rfl, g0, List.take_succ_eq_append_getElem hlt]
    rw [decide_eq_true (show 1 ≤ l[i].f0.size by omega), decide_eq_true (show l[i].f0.size ≤ 63 by omega), decide_eq_true (show l[i].f1.size ≤ 255 by omega)]
    unfold keyIn
    cases (l[i].f0.data.toList).all keyC
    · simp
    by_cases h4 : Go.Lib.indexByte l[i].f1.data.toList 0 < 0
    · rw [decide_eq_true h4, if_pos rfl, if_pos (by simpa using h4)]
      cases (List.take i l).any fun q => q.f0.toList == l[i].f0.toList <;> simp
    · rw [decide_eq_false h4, if_pos rfl, if_neg (by simpa using h4)]
      simp
theorem Good_spec (k : Nat) (l : List S45) (hk : 5600 ≤ k) : headgateref21_Good.f k l = some (goodB l) := by
  unfold headgateref21_Good.f goodB
  by_cases h : (l.length : Int) > 16
  · rw [if_pos h, decide_eq_false (by omega)]
    rfl
  · rw [if_neg h, decide_eq_true (by omega), show (0 : Int) = ((0 : Nat) : Int) from rfl, good_l0 l (by omega) l.length k 0 (by omega) (by omega)]
    rfl
end Go.Proofs.YtclcnkmefldpiaaDoor.Pure
namespace Go.Proofs.YtclcnkmefldpiaaDoor.Pure
open Go.RowKit Go.Proofs.YtclcnkmefldpiaaDoor.P Go.Proofs.YtclcnkmefldpiaaDoorW.PrintWords Go.Proofs.YtclcnkmefldpiaaDoorW.PrintLast Go.Proofs.YtclcnkmefldpiaaDoorW.PrintMore
set_option linter.unusedVariables false
set_option linter.unusedSimpArgs false
theorem Text_l0 (l : List S45) (hl : l.length ≤ 16) (hs : ∀ p ∈ l, p.f0.size ≤ 63 ∧ p.f1.size ≤ 255) : ∀ (d k i : Nat) (acc : ByteArray), i + d = l.length → d + 1 ≤ k → acc.size ≤ 400 * i → headgateref21_Text.l0 k l acc (i : Int) = some (bs (acc.data.toList ++ textL (l.drop i)), 0)
  | 0, k + 1, i, acc, hi, hk, ha => by
    rw [headgateref21_Text.l0, if_neg (by omega), List.drop_eq_nil_of_le (by omega)]
    simp [textL, bs]
  | d + 1, k + 1, i, acc, hi, hk, ha => by
    have hlt : i < l.length := by omega
    obtain ⟨z1, z2⟩ := hs l[i] (List.getElem_mem hlt)
    have e1 : (l[i].f0 ++ (⟨#[61]⟩ : ByteArray)).size = l[i].f0.size + 1 := by rw [ByteArray.size_append]; rfl
    have e2 : ((l[i].f0 ++ (⟨#[61]⟩ : ByteArray)) ++ l[i].f1).size = l[i].f0.size + 1 + l[i].f1.size := by rw [ByteArray.size_append, e1]
    have e3 : (((l[i].f0 ++ (⟨#[61]⟩ : ByteArray)) ++ l[i].f1) ++ (⟨#[0]⟩ : ByteArray)).size = l[i].f0.size + 1 + l[i].f1.size + 1 := by rw [ByteArray.size_append, e2]; rfl
    have e4 : (acc ++ (((l[i].f0 ++ (⟨#[61]⟩ : ByteArray)) ++ l[i].f1) ++ (⟨#[0]⟩ : ByteArray))).size = acc.size + (l[i].f0.size + 1 + l[i].f1.size + 1) := by rw [ByteArray.size_append, e3]
    rw [headgateref21_Text.l0, if_pos (by omega), if_pos (by omega), rd_at l i hlt, if_pos (by omega), if_pos (by rw [e1]; omega), if_pos (by rw [e2]; omega), if_pos (by rw [e3]; omega), w64 (by omega) (by omega)]
    have ih := Text_l0 l hl hs d k (i + 1) (acc ++ (((l[i].f0 ++ (⟨#[61]⟩ : ByteArray)) ++ l[i].f1) ++ (⟨#[0]⟩ : ByteArray))) (by omega) (by omega) (by rw [e4]; omega)
    rw [show ((i : Int) + 1) = ((i + 1 : Nat) : Int) from rfl, ih, List.drop_eq_getElem_cons hlt]
    congr 3
    unfold textL
    rw [List.flatMap_cons]
    simp [ByteArray.data_append]
theorem ref_Text (k : Nat) (l : List S45) (hk : 5600 ≤ k) (hl : smallB l = true) : headgateref21_Text.f k l = keys_Text.f l := by
  unfold headgateref21_Text.f keys_Text.f
  rw [Good_spec k l hk, if_pos hl, Option.bind_some]
  cases hg : goodB l
  · rw [if_neg (by decide), if_neg (by decide)]
  · rw [if_pos rfl, if_pos rfl]
    have := Text_l0 l ((goodB_iff l).mp hg).1 (good_small hg) l.length k 0 (⟨#[]⟩ : ByteArray) (by omega) (by have := ((goodB_iff l).mp hg).1; omega) (by decide)
    rw [show (0 : Int) = ((0 : Nat) : Int) from rfl, this]
    rfl
theorem cut_list (s : ByteArray) (a b : Nat) : (s.extract a b).data.toList = (s.data.toList.take b).drop a := by
  rw [ByteArray.data_extract, Array.toList_extract, List.extract_eq_take_drop, List.drop_take]
theorem ref_l0 : ∀ (d K : Nat) (s : ByteArray) (acc : List S45), acc.length + d = 16 → s.size ≤ 900000 → s.size + 5700 + 2 * d ≤ K → headgateref21_Parse.l0 K s acc = some (pz (d + 2) s.data.toList acc)
  | d, 0, s, acc, _, _, hK => by omega
  | d, 1, s, acc, _, _, hK => by omega
  | d, K + 2, s, acc, hd, hs, hK => by
    rw [headgateref21_Parse.l0, pz]
    by_cases h0 : s.data.toList = []
    · have hz : s.size = 0 := by rw [← len_data, h0]; rfl
      rw [if_neg (by omega), if_pos h0, Good_spec _ _ (by omega), Option.bind_some]
      cases goodB acc <;> rfl
    have hz : s.size ≠ 0 := fun h => h0 (List.length_eq_zero_iff.mp (by rw [len_data, h]))
    have hf := find_spec (K + 1) s 0 (by omega) (by omega)
    rw [if_pos (by omega), if_neg h0]
    rw [show ((0 : UInt8).toNat : Int) = 0 from rfl] at hf
    rw [hf, Option.bind_some]
    by_cases h1 : Go.Lib.indexByte s.data.toList 0 < 0
    · rw [if_pos h1, if_pos (Or.inl h1), headgateref21_Parse.j1, if_pos rfl]
    rw [if_neg h1, headgateref21_Parse.j1]
    by_cases h16 : acc.length = 16
    · rw [if_pos (Or.inr h16), if_pos (by simp; omega)]
    obtain ⟨q1, q2, q3⟩ := idx_split h1
    rw [len_data] at q1
    rw [if_neg (show ¬ (((acc.length : Int) == 16) = true) by simp; omega), if_neg (show ¬ (Go.Lib.indexByte s.data.toList 0 < 0 ∨ acc.length = 16) from fun h => h.elim h1 h16), if_pos (by omega), if_pos (by omega)]
    have ho : (s.extract 0 (Go.Lib.indexByte s.data.toList 0).toNat) = bs (s.data.toList.take (Go.Lib.indexByte s.data.toList 0).toNat) := bs_of (Go.Lib.extract_from_zero s _)
    have hf2 := find_spec K (s.extract 0 (Go.Lib.indexByte s.data.toList 0).toNat) 61 (by rw [ByteArray.size_extract]; omega) (by rw [ByteArray.size_extract]; omega)
    rw [show ((61 : UInt8).toNat : Int) = 61 from rfl] at hf2
    rw [hf2, Option.bind_some, ho, bs_list]
    by_cases h2 : Go.Lib.indexByte (s.data.toList.take (Go.Lib.indexByte s.data.toList 0).toNat) 61 < 0
    · rw [if_pos h2, if_pos h2]
    obtain ⟨r1, r2, r3⟩ := idx_split h2
    rw [List.length_take, len_data] at r1
    generalize hq : Go.Lib.indexByte (s.data.toList.take (Go.Lib.indexByte s.data.toList 0).toNat) 61 = q at *
    generalize he : Go.Lib.indexByte s.data.toList 0 = e at *
    rw [if_neg h2, if_neg h2, if_pos (by omega), if_pos (by omega), w64 (by omega) (by omega), if_pos (by omega), if_pos (by omega), if_pos (by omega), w64 (by omega) (by omega), if_pos (by omega), if_pos (by omega)]
    have t1 : (e + 1).toNat = e.toNat + 1 := by omega
    have t2 : (q + 1).toNat = q.toNat + 1 := by omega
    have ih := ref_l0 (d - 1) K (s.extract (e + 1).toNat s.size) (acc ++ [(⟨s.extract 0 q.toNat, s.extract (q + 1).toNat e.toNat⟩ : S45)]) (by simp; omega) (by rw [ByteArray.size_extract]; omega) (by rw [ByteArray.size_extract]; omega)
    have x1 : s.extract 0 q.toNat = bs ((s.data.toList.take e.toNat).take q.toNat) := bs_of (by rw [Go.Lib.extract_from_zero, List.take_take, Nat.min_eq_left (by omega)])
    have x2 : s.extract (q + 1).toNat e.toNat = bs ((s.data.toList.take e.toNat).drop (q.toNat + 1)) := bs_of (by rw [cut_list, t2])
    rw [ih, show d - 1 + 2 = d + 1 from by omega, Go.Lib.extract_to_end, t1, x1, x2]
theorem ref_parse (K : Nat) (s : ByteArray) (hs : s.size ≤ 900000) (hK : s.size + 5800 ≤ K) : headgateref21_Parse.f K s = some (pz 18 s.data.toList []) := ref_l0 16 K s [] rfl hs (by omega)
end Go.Proofs.YtclcnkmefldpiaaDoor.Pure
