-- joined by this session's wip/tools/pack.py: words of the kit's print, cut to what the claim names; functions printed by a patched copy of the printer; walks and lemmas of this session; Lean checks it
import Derived.Test.YtclcnkmefldpiaaDoorBb3
import Derived.Lib.IndexBytes
import Derived.Lib.Split
import Derived.WalkKit
import Derived.RegionTactic
import Derived.Deep.QuietTactic
import Derived.BigQuiet
import Derived.Maps.Own
import Derived.Maps.OwnOps
import Derived.Maps.Views
import Derived.Carry
import Derived.Lib.SliceRun
namespace Go.Proofs.YtclcnkmefldpiaaDoor.P
open Go.RowKit Go.Proofs.YtclcnkmefldpiaaDoorW.PrintWords Go.Proofs.YtclcnkmefldpiaaDoorW.PrintLast Go.Proofs.YtclcnkmefldpiaaDoorW.PrintMore
attribute [local go_sem] max2_int min2_int max_two min_two max_three min_three max_four min_four   -- for this text's walks alone
set_option linter.unusedVariables false
set_option linter.unusedSimpArgs false
set_option linter.unnecessarySimpa false
theorem headgatelaw21_Large.mono_l : ∀ k, (∀ y0 y1, LeO (headgatelaw21_Large.l0 k y0 y1) (headgatelaw21_Large.l0 (k + 1) y0 y1))
  | 0 => fun _ _ r h => by simp [headgatelaw21_Large.l0] at h
  | k + 1 => by
    have ih0 := headgatelaw21_Large.mono_l k
    · intro y0 y1
      unfold headgatelaw21_Large.l0
      repeat' first
      | (with_reducible exact ih0 _ _)
      | (with_reducible exact LeO.refl _)
      | (with_reducible exact LeO.none _)
      | (with_reducible refine LeO.ite ?_ ?_)
      | (with_reducible refine LeO.bind ?_ (fun _ => ?_))
      | exact ih0 _ _
      | exact LeO.none _
      | refine LeO.ite ?_ ?_
      | refine LeO.bind ?_ (fun _ => ?_)
theorem headgatelaw21_Large.mono : ∀ a0 k, LeO (headgatelaw21_Large.f k a0) (headgatelaw21_Large.f (k + 1) a0) := by
  intro a0 k
  have ih0 := headgatelaw21_Large.mono_l k
  unfold headgatelaw21_Large.f
  repeat' first
      | (with_reducible exact ih0 _ _)
      | (with_reducible exact LeO.refl _)
      | (with_reducible exact LeO.none _)
      | (with_reducible refine LeO.ite ?_ ?_)
      | (with_reducible refine LeO.bind ?_ (fun _ => ?_))
      | exact ih0 _ _
      | exact LeO.none _
      | refine LeO.ite ?_ ?_
      | refine LeO.bind ?_ (fun _ => ?_)
end Go.Proofs.YtclcnkmefldpiaaDoor.P
namespace Go.Proofs.YtclcnkmefldpiaaDoor.P
open Go.RowKit Go.Proofs.YtclcnkmefldpiaaDoorW.PrintWords Go.Proofs.YtclcnkmefldpiaaDoorW.PrintLast Go.Proofs.YtclcnkmefldpiaaDoorW.PrintMore
attribute [local go_sem] max2_int min2_int max_two min_two max_three min_three max_four min_four   -- for this text's walks alone
set_option linter.unusedVariables false
set_option linter.unusedSimpArgs false
set_option linter.unnecessarySimpa false
theorem headgateref21_Pairs.mono_l : ∀ k, (∀ y0 y1 y2, LeO (headgateref21_Pairs.l0 k y0 y1 y2) (headgateref21_Pairs.l0 (k + 1) y0 y1 y2))
  | 0 => fun _ _ _ r h => by simp [headgateref21_Pairs.l0] at h
  | k + 1 => by
    have ih0 := headgateref21_Pairs.mono_l k
    · intro y0 y1 y2
      unfold headgateref21_Pairs.l0
      repeat' first
      | (with_reducible exact ih0 _ _ _)
      | (with_reducible exact LeO.refl _)
      | (with_reducible exact LeO.none _)
      | (with_reducible refine LeO.ite ?_ ?_)
      | (with_reducible refine LeO.bind ?_ (fun _ => ?_))
      | exact ih0 _ _ _
      | exact LeO.none _
      | refine LeO.ite ?_ ?_
      | refine LeO.bind ?_ (fun _ => ?_)
theorem headgateref21_Pairs.mono : ∀ a0 a1 k, LeO (headgateref21_Pairs.f k a0 a1) (headgateref21_Pairs.f (k + 1) a0 a1) := by
  intro a0 a1 k
  have ih0 := headgateref21_Pairs.mono_l k
  unfold headgateref21_Pairs.f
  repeat' first
      | (with_reducible exact ih0 _ _ _)
      | (with_reducible exact LeO.refl _)
      | (with_reducible exact LeO.none _)
      | (with_reducible refine LeO.ite ?_ ?_)
      | (with_reducible refine LeO.bind ?_ (fun _ => ?_))
      | exact ih0 _ _ _
      | exact LeO.none _
      | refine LeO.ite ?_ ?_
      | refine LeO.bind ?_ (fun _ => ?_)
end Go.Proofs.YtclcnkmefldpiaaDoor.P
namespace Go.Proofs.YtclcnkmefldpiaaDoor.P
open Go.RowKit Go.Proofs.YtclcnkmefldpiaaDoorW.PrintWords Go.Proofs.YtclcnkmefldpiaaDoorW.PrintLast Go.Proofs.YtclcnkmefldpiaaDoorW.PrintMore
attribute [local go_sem] max2_int min2_int max_two min_two max_three min_three max_four min_four   -- for this text's walks alone
set_option linter.unusedVariables false
set_option linter.unusedSimpArgs false
set_option linter.unnecessarySimpa false
theorem keys_Parse.mono_l : ∀ k, (∀ y0 y1, LeO (keys_Parse.l0 k y0 y1) (keys_Parse.l0 (k + 1) y0 y1)) ∧ (∀ y0 y1 y2, LeO (keys_Parse.j1 k y0 y1 y2) (keys_Parse.j1 (k + 1) y0 y1 y2))
 | 0 => ⟨fun _ _ r h => by simp [keys_Parse.l0] at h, fun _ _ _ r h => by simp [keys_Parse.j1] at h⟩
 | k + 1 => by
  obtain ⟨ih0, ih1⟩ := keys_Parse.mono_l k
  refine ⟨?_, ?_⟩
  ·intro y0 y1
   unfold keys_Parse.l0
   repeat' first
   | (with_reducible exact ih0 _ _)
   | (with_reducible exact ih1 _ _ _)
   | (with_reducible exact LeO.refl _)
   | (with_reducible exact LeO.none _)
   | (with_reducible refine LeO.ite ?_ ?_)
   | (with_reducible refine LeO.bind ?_ (fun _ => ?_))
   | exact ih0 _ _
   | exact ih1 _ _ _
   | exact LeO.none _
   | refine LeO.ite ?_ ?_
   | refine LeO.bind ?_ (fun _ => ?_)
  ·intro y0 y1 y2
   unfold keys_Parse.j1
   repeat' first
   | (with_reducible exact ih0 _ _)
   | (with_reducible exact ih1 _ _ _)
   | (with_reducible exact LeO.refl _)
   | (with_reducible exact LeO.none _)
   | (with_reducible refine LeO.ite ?_ ?_)
   | (with_reducible refine LeO.bind ?_ (fun _ => ?_))
   | exact ih0 _ _
   | exact ih1 _ _ _
   | exact LeO.none _
   | refine LeO.ite ?_ ?_
   | refine LeO.bind ?_ (fun _ => ?_)
theorem keys_Parse.mono : ∀ a0 k, LeO (keys_Parse.f k a0) (keys_Parse.f (k + 1) a0) := by
 intro a0 k
 obtain ⟨ih0, ih1⟩ := keys_Parse.mono_l k
 unfold keys_Parse.f
 repeat' first
   | (with_reducible exact ih0 _ _)
   | (with_reducible exact ih1 _ _ _)
   | (with_reducible exact LeO.refl _)
   | (with_reducible exact LeO.none _)
   | (with_reducible refine LeO.ite ?_ ?_)
   | (with_reducible refine LeO.bind ?_ (fun _ => ?_))
   | exact ih0 _ _
   | exact ih1 _ _ _
   | exact LeO.none _
   | refine LeO.ite ?_ ?_
   | refine LeO.bind ?_ (fun _ => ?_)
end Go.Proofs.YtclcnkmefldpiaaDoor.P
namespace Go.Proofs.YtclcnkmefldpiaaDoor.Pure
open Go.RowKit Go.Proofs.YtclcnkmefldpiaaDoor.P Go.Proofs.YtclcnkmefldpiaaDoorW.PrintWords Go.Proofs.YtclcnkmefldpiaaDoorW.PrintLast Go.Proofs.YtclcnkmefldpiaaDoorW.PrintMore
set_option linter.unusedVariables false
set_option linter.unusedSimpArgs false
theorem idx_app : ∀ (a : List UInt8) (c : UInt8) (b : List UInt8), c ∉ a → Go.Lib.indexByte (a ++ c :: b) c = (a.length : Int)
  | [], c, b, _ => by rw [List.nil_append, idx_cons, if_pos rfl]; rfl
  | x :: a, c, b, h => by
    rw [List.cons_append, idx_cons, if_neg (fun e => h (by rw [e]; exact List.mem_cons_self ..)), idx_app a c b (fun y => h (List.mem_cons_of_mem _ y)), if_neg (by omega), List.length_cons]
    omega
theorem pz_nil (n : Nat) (acc : List S45) : pz (n + 1) [] acc = if goodB acc = true then (acc, 0) else ([], 210) := by rw [pz, if_pos rfl]
theorem pz_step (n : Nat) (p : S45) (r : List UInt8) (acc : List S45) (hp : pairB p = true) (hl : acc.length < 16) : pz (n + 1) (p.f0.data.toList ++ [61] ++ p.f1.data.toList ++ [0] ++ r) acc = pz n r (acc ++ [p]) := by
  obtain ⟨h1, h2, h3, h4, h5, h6⟩ := pair_ok hp
  have e0 : p.f0.data.toList ++ [61] ++ p.f1.data.toList ++ [0] ++ r = (p.f0.data.toList ++ 61 :: p.f1.data.toList) ++ 0 :: r := by simp
  have hz : (0 : UInt8) ∉ p.f0.data.toList ++ 61 :: p.f1.data.toList := by
    intro hm
    rcases List.mem_append.mp hm with hm | hm
    · exact h4 hm
    · rcases List.mem_cons.mp hm with hm | hm
      · exact absurd hm (by decide)
      · exact h6 hm
  rw [e0, pz, if_neg (by simp), idx_app _ _ _ hz, if_neg (by omega), Int.toNat_natCast, List.take_left, idx_app _ _ _ h5, if_neg (by omega), Int.toNat_natCast, List.take_left]
  congr 1
  · rw [show (p.f0.data.toList ++ 61 :: p.f1.data.toList).length + 1 = ((p.f0.data.toList ++ 61 :: p.f1.data.toList) ++ [0]).length by simp only [List.length_append, List.length_cons, List.length_nil], show (p.f0.data.toList ++ 61 :: p.f1.data.toList) ++ 0 :: r = ((p.f0.data.toList ++ 61 :: p.f1.data.toList) ++ [0]) ++ r by simp, List.drop_left]
  · rw [show p.f0.data.toList.length + 1 = (p.f0.data.toList ++ [61]).length by simp, show p.f0.data.toList ++ 61 :: p.f1.data.toList = (p.f0.data.toList ++ [61]) ++ p.f1.data.toList by simp, List.drop_left]
    rfl
theorem pz_text : ∀ (l acc : List S45) (n : Nat), acc.length + l.length ≤ 16 → l.length < n → goodB (acc ++ l) = true → pz n (textL l) acc = (acc ++ l, 0)
  | [], acc, n + 1, _, _, hg => by
    rw [List.append_nil] at hg ⊢
    show pz (n + 1) [] acc = _
    rw [pz_nil, if_pos hg]
  | p :: l, acc, n + 1, h16, hn, hg => by
    have hp : pairB p = true := goodL_pair ((goodB_iff _).mp hg).2 p (by simp)
    have e : textL (p :: l) = p.f0.data.toList ++ [61] ++ p.f1.data.toList ++ [0] ++ textL l := by unfold textL; rw [List.flatMap_cons]
    rw [List.length_cons] at h16 hn
    rw [e, pz_step n p _ acc hp (by omega), pz_text l (acc ++ [p]) n (by simp; omega) (by omega) (by simpa using hg)]
    simp
end Go.Proofs.YtclcnkmefldpiaaDoor.Pure
