-- joined by this session's wip/tools/pack.py: words of the kit's print, cut to what the claim names; functions printed by a patched copy of the printer; walks and lemmas of this session; Lean checks it
import Derived.Test.YtclcnkmefldpiaaDoorBd4
import Derived.WalkKit
import Derived.RegionTactic
import Derived.Deep.QuietTactic
import Derived.BigQuiet
import Derived.Maps.Own
import Derived.Maps.OwnOps
import Derived.Maps.Views
import Derived.Carry
import Derived.Lib.SliceRun
namespace Go.Proofs.YtclcnkmefldpiaaDoor.P
open Go.RowKit Go.Proofs.YtclcnkmefldpiaaDoorW.PrintWords Go.Proofs.YtclcnkmefldpiaaDoorW.PrintLast Go.Proofs.YtclcnkmefldpiaaDoorW.PrintMore
attribute [local go_sem] max2_int min2_int max_two min_two max_three min_three max_four min_four   -- for this text's walks alone
set_option linter.unusedVariables false
set_option linter.unusedSimpArgs false
set_option linter.unnecessarySimpa false
mutual
def headgateref21_one.j0 : Nat → ByteArray → Int → ByteArray → Bool → Bool → Bool → Bool → Bool → Int → Int → ByteArray → ByteArray → ByteArray → ByteArray → Option (Bool × Bool × Bool × Bool × Int × Int × ByteArray × ByteArray × ByteArray × Bool)
 | 0, _, _, _, _, _, _, _, _, _, _, _, _, _, _ => none
 | k + 1, x5, x6, x13, x40, x187000, x187001, x187002, x187003, x187004, x187005, x187006, x187007, x188000, x188001 => if x40 = true then ((headgateref21_first.f k x5 (([(⟨#[67, 82, 67, 51, 50, 67]⟩ : ByteArray), (⟨#[78, 111, 110, 101]⟩ : ByteArray)] : List ByteArray))).bind fun t205 => (if x188000.toList = ([72, 101, 97, 100, 101, 114, 68, 105, 103, 101, 115, 116] : List UInt8) then (some ((t205.toList == ([67, 82, 67, 51, 50, 67] : List UInt8)), x187001, x187002, x187003, x187004, x187005, x187006, x187007, t205, (t205.toList != ([] : List UInt8)))) else (some (x187000, (t205.toList == ([67, 82, 67, 51, 50, 67] : List UInt8)), x187002, x187003, x187004, x187005, x187006, x187007, t205, (t205.toList != ([] : List UInt8)))))) else (if x13.toList = ([77, 97, 120, 82, 101, 99, 118, 68, 97, 116, 97, 83, 101, 103, 109, 101, 110, 116, 76, 101, 110, 103, 116, 104] : List UInt8) then (some (x187000, x187001, x187002, x187003, mn x6 8192, x187005, x187006, x187007, (⟨#[56, 49, 57, 50]⟩ : ByteArray), decide (x6 ≥ 512))) else (if x13.toList = ([73, 109, 109, 101, 100, 105, 97, 116, 101, 68, 97, 116, 97] : List UInt8) then ((headgateref21_yes.f x5).bind fun t206 => (some (x187000, x187001, (x5.toList == ([89, 101, 115] : List UInt8)), x187003, x187004, x187005, x187006, x187007, x5, t206))) else (if x13.toList = ([73, 110, 105, 116, 105, 97, 108, 82, 50, 84] : List UInt8) then (headgateref21_one.j1 k x5 x6 x13 (x13.toList == ([73, 110, 105, 116, 105, 97, 108, 82, 50, 84] : List UInt8)) x187000 x187001 x187002 x187003 x187004 x187005 x187006 x187007) else (if x13.toList = ([68, 97, 116, 97, 80, 68, 85, 73, 110, 79, 114, 100, 101, 114] : List UInt8) then (headgateref21_one.j1 k x5 x6 x13 (x13.toList == ([68, 97, 116, 97, 80, 68, 85, 73, 110, 79, 114, 100, 101, 114] : List UInt8)) x187000 x187001 x187002 x187003 x187004 x187005 x187006 x187007) else (headgateref21_one.j1 k x5 x6 x13 (x13.toList == ([68, 97, 116, 97, 83, 101, 113, 117, 101, 110, 99, 101, 73, 110, 79, 114, 100, 101, 114] : List UInt8)) x187000 x187001 x187002 x187003 x187004 x187005 x187006 x187007)))))
def headgateref21_one.j1 : Nat → ByteArray → Int → ByteArray → Bool → Bool → Bool → Bool → Bool → Int → Int → ByteArray → ByteArray → Option (Bool × Bool × Bool × Bool × Int × Int × ByteArray × ByteArray × ByteArray × Bool)
 | 0, _, _, _, _, _, _, _, _, _, _, _, _ => none
 | k + 1, x5, x6, x13, x79, x187000, x187001, x187002, x187003, x187004, x187005, x187006, x187007 => if x79 = true then ((headgateref21_yes.f x5).bind fun t207 => (some (x187000, x187001, x187002, x187003, x187004, x187005, x187006, x187007, (⟨#[89, 101, 115]⟩ : ByteArray), t207))) else (if x13.toList = ([70, 105, 114, 115, 116, 66, 117, 114, 115, 116, 76, 101, 110, 103, 116, 104] : List UInt8) then ((headgateref21_dec.f k (mx (mn x6 4096) 0)).bind fun t208 => (some (x187000, x187001, x187002, x187003, x187004, mn x6 4096, x187006, x187007, t208, decide (x6 ≥ 512)))) else (if x13.toList = ([77, 97, 120, 66, 117, 114, 115, 116, 76, 101, 110, 103, 116, 104] : List UInt8) then ((headgateref21_dec.f k (mx (mn x6 32768) 0)).bind fun t209 => (some (x187000, x187001, x187002, x187003, x187004, x187005, x187006, x187007, t209, decide (x6 ≥ 512)))) else (if x13.toList = ([77, 97, 120, 67, 111, 110, 110, 101, 99, 116, 105, 111, 110, 115] : List UInt8) then (headgateref21_one.j2 k x5 x6 x13 (x13.toList == ([77, 97, 120, 67, 111, 110, 110, 101, 99, 116, 105, 111, 110, 115] : List UInt8)) x187000 x187001 x187002 x187003 x187004 x187005 x187006 x187007) else (headgateref21_one.j2 k x5 x6 x13 (x13.toList == ([77, 97, 120, 79, 117, 116, 115, 116, 97, 110, 100, 105, 110, 103, 82, 50, 84] : List UInt8)) x187000 x187001 x187002 x187003 x187004 x187005 x187006 x187007))))
def headgateref21_one.j2 : Nat → ByteArray → Int → ByteArray → Bool → Bool → Bool → Bool → Bool → Int → Int → ByteArray → ByteArray → Option (Bool × Bool × Bool × Bool × Int × Int × ByteArray × ByteArray × ByteArray × Bool)
 | 0, _, _, _, _, _, _, _, _, _, _, _, _ => none
 | k + 1, x5, x6, x13, x110, x187000, x187001, x187002, x187003, x187004, x187005, x187006, x187007 => if x110 = true then (some (x187000, x187001, x187002, x187003, x187004, x187005, x187006, x187007, (⟨#[49]⟩ : ByteArray), decide (x6 ≥ 1))) else (if x13.toList = ([68, 101, 102, 97, 117, 108, 116, 84, 105, 109, 101, 50, 87, 97, 105, 116] : List UInt8) then (headgateref21_one.j3 k x5 x6 x13 (x13.toList == ([68, 101, 102, 97, 117, 108, 116, 84, 105, 109, 101, 50, 87, 97, 105, 116] : List UInt8)) x187000 x187001 x187002 x187003 x187004 x187005 x187006 x187007) else (if x13.toList = ([68, 101, 102, 97, 117, 108, 116, 84, 105, 109, 101, 50, 82, 101, 116, 97, 105, 110] : List UInt8) then (headgateref21_one.j3 k x5 x6 x13 (x13.toList == ([68, 101, 102, 97, 117, 108, 116, 84, 105, 109, 101, 50, 82, 101, 116, 97, 105, 110] : List UInt8)) x187000 x187001 x187002 x187003 x187004 x187005 x187006 x187007) else (headgateref21_one.j3 k x5 x6 x13 (x13.toList == ([69, 114, 114, 111, 114, 82, 101, 99, 111, 118, 101, 114, 121, 76, 101, 118, 101, 108] : List UInt8)) x187000 x187001 x187002 x187003 x187004 x187005 x187006 x187007)))
def headgateref21_one.j3 : Nat → ByteArray → Int → ByteArray → Bool → Bool → Bool → Bool → Bool → Int → Int → ByteArray → ByteArray → Option (Bool × Bool × Bool × Bool × Int × Int × ByteArray × ByteArray × ByteArray × Bool)
 | 0, _, _, _, _, _, _, _, _, _, _, _, _ => none
 | k + 1, x5, x6, x13, x117, x187000, x187001, x187002, x187003, x187004, x187005, x187006, x187007 => if x117 = true then (some (x187000, x187001, x187002, x187003, x187004, x187005, x187006, x187007, (⟨#[48]⟩ : ByteArray), decide (x6 ≥ 0))) else (if x13.toList = ([65, 117, 116, 104, 77, 101, 116, 104, 111, 100] : List UInt8) then ((headgateref21_first.f k x5 (([(⟨#[78, 111, 110, 101]⟩ : ByteArray)] : List ByteArray))).bind fun t213 => (some (x187000, x187001, x187002, x187003, x187004, x187005, x187006, x187007, (⟨#[78, 111, 110, 101]⟩ : ByteArray), (t213.toList != ([] : List UInt8))))) else ((headgateref21_ok.f x187000 x187001 x187002 x187003 x187004 x187005 x187006 x187007 (⟨#[78, 111, 116, 85, 110, 100, 101, 114, 115, 116, 111, 111, 100]⟩ : ByteArray)).bind fun bt214 => (some (bt214.1, bt214.2.1, bt214.2.2.1, bt214.2.2.2.1, bt214.2.2.2.2.1, bt214.2.2.2.2.2.1, bt214.2.2.2.2.2.2.1, bt214.2.2.2.2.2.2.2.1, bt214.2.2.2.2.2.2.2.2.1, bt214.2.2.2.2.2.2.2.2.2))))
end
def headgateref21_one.f (k : Nat) (a0_0 : Bool) (a0_1 : Bool) (a0_2 : Bool) (a0_3 : Bool) (a0_4 : Int) (a0_5 : Int) (a0_6 : ByteArray) (a0_7 : ByteArray) (a1_0 : ByteArray) (a1_1 : ByteArray) : Option (Bool × Bool × Bool × Bool × Int × Int × ByteArray × ByteArray × ByteArray × Bool) := (headgateref21_number.f k a1_1).bind fun t189 => (if a1_0.toList = ([73, 110, 105, 116, 105, 97, 116, 111, 114, 78, 97, 109, 101] : List UInt8) then ((headgateref03_Iqn.f k a1_1).bind fun t190 => (some (a0_0, a0_1, a0_2, a0_3, a0_4, a0_5, a1_1, a0_7, (⟨#[]⟩ : ByteArray), t190))) else (if a1_0.toList = ([84, 97, 114, 103, 101, 116, 78, 97, 109, 101] : List UInt8) then ((headgateref03_Iqn.f k a1_1).bind fun t191 => (some (a0_0, a0_1, a0_2, a0_3, a0_4, a0_5, a0_6, a1_1, (⟨#[]⟩ : ByteArray), t191))) else (if a1_0.toList = ([83, 101, 115, 115, 105, 111, 110, 84, 121, 112, 101] : List UInt8) then (some (a0_0, a0_1, a0_2, a0_3, a0_4, a0_5, a0_6, a0_7, (⟨#[]⟩ : ByteArray), (a1_1.toList == ([78, 111, 114, 109, 97, 108] : List UInt8)))) else (if a1_0.toList = ([73, 110, 105, 116, 105, 97, 116, 111, 114, 65, 108, 105, 97, 115] : List UInt8) then ((headgateref21_ok.f a0_0 a0_1 a0_2 a0_3 a0_4 a0_5 a0_6 a0_7 (⟨#[]⟩ : ByteArray)).bind fun bt192 => (some (bt192.1, bt192.2.1, bt192.2.2.1, bt192.2.2.2.1, bt192.2.2.2.2.1, bt192.2.2.2.2.2.1, bt192.2.2.2.2.2.2.1, bt192.2.2.2.2.2.2.2.1, bt192.2.2.2.2.2.2.2.2.1, bt192.2.2.2.2.2.2.2.2.2))) else (if a1_0.toList = ([72, 101, 97, 100, 101, 114, 68, 105, 103, 101, 115, 116] : List UInt8) then (headgateref21_one.j0 k a1_1 t189 a1_0 (a1_0.toList == ([72, 101, 97, 100, 101, 114, 68, 105, 103, 101, 115, 116] : List UInt8)) a0_0 a0_1 a0_2 a0_3 a0_4 a0_5 a0_6 a0_7 a1_0 a1_1) else (headgateref21_one.j0 k a1_1 t189 a1_0 (a1_0.toList == ([68, 97, 116, 97, 68, 105, 103, 101, 115, 116] : List UInt8)) a0_0 a0_1 a0_2 a0_3 a0_4 a0_5 a0_6 a0_7 a1_0 a1_1))))))
theorem headgateref21_one.mono_l : ∀ k, (∀ y0 y1 y2 y3 y4 y5 y6 y7 y8 y9 y10 y11 y12 y13, LeO (headgateref21_one.j0 k y0 y1 y2 y3 y4 y5 y6 y7 y8 y9 y10 y11 y12 y13) (headgateref21_one.j0 (k + 1) y0 y1 y2 y3 y4 y5 y6 y7 y8 y9 y10 y11 y12 y13)) ∧ (∀ y0 y1 y2 y3 y4 y5 y6 y7 y8 y9 y10 y11, LeO (headgateref21_one.j1 k y0 y1 y2 y3 y4 y5 y6 y7 y8 y9 y10 y11) (headgateref21_one.j1 (k + 1) y0 y1 y2 y3 y4 y5 y6 y7 y8 y9 y10 y11)) ∧ (∀ y0 y1 y2 y3 y4 y5 y6 y7 y8 y9 y10 y11, LeO (headgateref21_one.j2 k y0 y1 y2 y3 y4 y5 y6 y7 y8 y9 y10 y11) (headgateref21_one.j2 (k + 1) y0 y1 y2 y3 y4 y5 y6 y7 y8 y9 y10 y11)) ∧ (∀ y0 y1 y2 y3 y4 y5 y6 y7 y8 y9 y10 y11, LeO (headgateref21_one.j3 k y0 y1 y2 y3 y4 y5 y6 y7 y8 y9 y10 y11) (headgateref21_one.j3 (k + 1) y0 y1 y2 y3 y4 y5 y6 y7 y8 y9 y10 y11))
 | 0 => ⟨fun _ _ _ _ _ _ _ _ _ _ _ _ _ _ r h => by simp [headgateref21_one.j0] at h, fun _ _ _ _ _ _ _ _ _ _ _ _ r h => by simp [headgateref21_one.j1] at h, fun _ _ _ _ _ _ _ _ _ _ _ _ r h => by simp [headgateref21_one.j2] at h, fun _ _ _ _ _ _ _ _ _ _ _ _ r h => by simp [headgateref21_one.j3] at h⟩
 | k + 1 => by
  obtain ⟨ih0, ih1, ih2, ih3⟩ := headgateref21_one.mono_l k
  refine ⟨?_, ?_, ?_, ?_⟩
  ·intro y0 y1 y2 y3 y4 y5 y6 y7 y8 y9 y10 y11 y12 y13
   unfold headgateref21_one.j0
   repeat' first
   | (with_reducible exact ih0 _ _ _ _ _ _ _ _ _ _ _ _ _ _)
   | (with_reducible exact ih1 _ _ _ _ _ _ _ _ _ _ _ _)
   | (with_reducible exact ih2 _ _ _ _ _ _ _ _ _ _ _ _)
   | (with_reducible exact ih3 _ _ _ _ _ _ _ _ _ _ _ _)
   | (with_reducible exact headgateref03_Iqn.mono _ _)
   | (with_reducible exact headgateref21_dec.mono _ _)
   | (with_reducible exact headgateref21_first.mono _ _ _)
   | (with_reducible exact headgateref21_number.mono _ _)
   | (with_reducible exact LeO.refl _)
   | (with_reducible exact LeO.none _)
   | (with_reducible refine LeO.ite ?_ ?_)
   | (with_reducible refine LeO.bind ?_ (fun _ => ?_))
   | exact ih0 _ _ _ _ _ _ _ _ _ _ _ _ _ _
   | exact ih1 _ _ _ _ _ _ _ _ _ _ _ _
   | exact ih2 _ _ _ _ _ _ _ _ _ _ _ _
   | exact ih3 _ _ _ _ _ _ _ _ _ _ _ _
   | exact headgateref03_Iqn.mono _ _
   | exact headgateref21_dec.mono _ _
   | exact headgateref21_first.mono _ _ _
   | exact headgateref21_number.mono _ _
   | exact LeO.none _
   | refine LeO.ite ?_ ?_
   | refine LeO.bind ?_ (fun _ => ?_)
  ·intro y0 y1 y2 y3 y4 y5 y6 y7 y8 y9 y10 y11
   unfold headgateref21_one.j1
   repeat' first
   | (with_reducible exact ih0 _ _ _ _ _ _ _ _ _ _ _ _ _ _)
   | (with_reducible exact ih1 _ _ _ _ _ _ _ _ _ _ _ _)
   | (with_reducible exact ih2 _ _ _ _ _ _ _ _ _ _ _ _)
   | (with_reducible exact ih3 _ _ _ _ _ _ _ _ _ _ _ _)
   | (with_reducible exact headgateref03_Iqn.mono _ _)
   | (with_reducible exact headgateref21_dec.mono _ _)
   | (with_reducible exact headgateref21_first.mono _ _ _)
   | (with_reducible exact headgateref21_number.mono _ _)
   | (with_reducible exact LeO.refl _)
   | (with_reducible exact LeO.none _)
   | (with_reducible refine LeO.ite ?_ ?_)
   | (with_reducible refine LeO.bind ?_ (fun _ => ?_))
   | exact ih0 _ _ _ _ _ _ _ _ _ _ _ _ _ _
   | exact ih1 _ _ _ _ _ _ _ _ _ _ _ _
   | exact ih2 _ _ _ _ _ _ _ _ _ _ _ _
   | exact ih3 _ _ _ _ _ _ _ _ _ _ _ _
   | exact headgateref03_Iqn.mono _ _
   | exact headgateref21_dec.mono _ _
   | exact headgateref21_first.mono _ _ _
   | exact headgateref21_number.mono _ _
   | exact LeO.none _
   | refine LeO.ite ?_ ?_
   | refine LeO.bind ?_ (fun _ => ?_)
  ·intro y0 y1 y2 y3 y4 y5 y6 y7 y8 y9 y10 y11
   unfold headgateref21_one.j2
   repeat' first
   | (with_reducible exact ih0 _ _ _ _ _ _ _ _ _ _ _ _ _ _)
   | (with_reducible exact ih1 _ _ _ _ _ _ _ _ _ _ _ _)
   | (with_reducible exact ih2 _ _ _ _ _ _ _ _ _ _ _ _)
   | (with_reducible exact ih3 _ _ _ _ _ _ _ _ _ _ _ _)
   | (with_reducible exact headgateref03_Iqn.mono _ _)
   | (with_reducible exact headgateref21_dec.mono _ _)
   | (with_reducible exact headgateref21_first.mono _ _ _)
   | (with_reducible exact headgateref21_number.mono _ _)
   | (with_reducible exact LeO.refl _)
   | (with_reducible exact LeO.none _)
   | (with_reducible refine LeO.ite ?_ ?_)
   | (with_reducible refine LeO.bind ?_ (fun _ => ?_))
   | exact ih0 _ _ _ _ _ _ _ _ _ _ _ _ _ _
   | exact ih1 _ _ _ _ _ _ _ _ _ _ _ _
   | exact ih2 _ _ _ _ _ _ _ _ _ _ _ _
   | exact ih3 _ _ _ _ _ _ _ _ _ _ _ _
   | exact headgateref03_Iqn.mono _ _
   | exact headgateref21_dec.mono _ _
   | exact headgateref21_first.mono _ _ _
   | exact headgateref21_number.mono _ _
   | exact LeO.none _
   | refine LeO.ite ?_ ?_
   | refine LeO.bind ?_ (fun _ => ?_)
  ·intro y0 y1 y2 y3 y4 y5 y6 y7 y8 y9 y10 y11
   unfold headgateref21_one.j3
   repeat' first
   | (with_reducible exact ih0 _ _ _ _ _ _ _ _ _ _ _ _ _ _)
   | (with_reducible exact ih1 _ _ _ _ _ _ _ _ _ _ _ _)
   | (with_reducible exact ih2 _ _ _ _ _ _ _ _ _ _ _ _)
   | (with_reducible exact ih3 _ _ _ _ _ _ _ _ _ _ _ _)
   | (with_reducible exact headgateref03_Iqn.mono _ _)
   | (with_reducible exact headgateref21_dec.mono _ _)
   | (with_reducible exact headgateref21_first.mono _ _ _)
   | (with_reducible exact headgateref21_number.mono _ _)
   | (with_reducible exact LeO.refl _)
   | (with_reducible exact LeO.none _)
   | (with_reducible refine LeO.ite ?_ ?_)
   | (with_reducible refine LeO.bind ?_ (fun _ => ?_))
   | exact ih0 _ _ _ _ _ _ _ _ _ _ _ _ _ _
   | exact ih1 _ _ _ _ _ _ _ _ _ _ _ _
   | exact ih2 _ _ _ _ _ _ _ _ _ _ _ _
   | exact ih3 _ _ _ _ _ _ _ _ _ _ _ _
   | exact headgateref03_Iqn.mono _ _
   | exact headgateref21_dec.mono _ _
   | exact headgateref21_first.mono _ _ _
   | exact headgateref21_number.mono _ _
   | exact LeO.none _
   | refine LeO.ite ?_ ?_
   | refine LeO.bind ?_ (fun _ => ?_)
theorem headgateref21_one.mono : ∀ a0 a1 a2 a3 a4 a5 a6 a7 a8 a9 k, LeO (headgateref21_one.f k a0 a1 a2 a3 a4 a5 a6 a7 a8 a9) (headgateref21_one.f (k + 1) a0 a1 a2 a3 a4 a5 a6 a7 a8 a9) := by
 intro a0 a1 a2 a3 a4 a5 a6 a7 a8 a9 k
 obtain ⟨ih0, ih1, ih2, ih3⟩ := headgateref21_one.mono_l k
 unfold headgateref21_one.f
 repeat' first
   | (with_reducible exact ih0 _ _ _ _ _ _ _ _ _ _ _ _ _ _)
   | (with_reducible exact ih1 _ _ _ _ _ _ _ _ _ _ _ _)
   | (with_reducible exact ih2 _ _ _ _ _ _ _ _ _ _ _ _)
   | (with_reducible exact ih3 _ _ _ _ _ _ _ _ _ _ _ _)
   | (with_reducible exact headgateref03_Iqn.mono _ _)
   | (with_reducible exact headgateref21_dec.mono _ _)
   | (with_reducible exact headgateref21_first.mono _ _ _)
   | (with_reducible exact headgateref21_number.mono _ _)
   | (with_reducible exact LeO.refl _)
   | (with_reducible exact LeO.none _)
   | (with_reducible refine LeO.ite ?_ ?_)
   | (with_reducible refine LeO.bind ?_ (fun _ => ?_))
   | exact ih0 _ _ _ _ _ _ _ _ _ _ _ _ _ _
   | exact ih1 _ _ _ _ _ _ _ _ _ _ _ _
   | exact ih2 _ _ _ _ _ _ _ _ _ _ _ _
   | exact ih3 _ _ _ _ _ _ _ _ _ _ _ _
   | exact headgateref03_Iqn.mono _ _
   | exact headgateref21_dec.mono _ _
   | exact headgateref21_first.mono _ _ _
   | exact headgateref21_number.mono _ _
   | exact LeO.none _
   | refine LeO.ite ?_ ?_
   | refine LeO.bind ?_ (fun _ => ?_)
def headgateref21_one.T33 : Bool × List (List Nat × List Nat) := (true, [([], []), ([], []), ([1], [1]), ([2], [2]), ([3], [3]), ([], []), ([5], [5]), ([0, 4, 6], [0, 4, 6]), ([7, 4, 0, 1, 2, 3, 4, 5, 6, 7], [7])])
def headgateref21_one.B33 : List Nat := [0, 0, 2, 6, 14, 0, 32, 127, 255]
theorem headgateref21_one.tab33 : rtab .any (opsOf Tryd.f25 33) = headgateref21_one.T33 := by kernel_rfl
theorem headgateref21_one.bits33 : waitsOk headgateref21_one.T33.2 headgateref21_one.B33 = true := by kernel_rfl
def headgateref21_one.T35 : Bool × List (List Nat × List Nat) := (true, [([], []), ([], []), ([1], [1]), ([2], [2]), ([3], [3]), ([], []), ([5], [5]), ([0, 4, 6], [0, 4, 6]), ([7, 4, 0, 1, 2, 3, 4, 5, 6, 7], [7])])
def headgateref21_one.B35 : List Nat := [0, 0, 2, 6, 14, 0, 32, 127, 255]
theorem headgateref21_one.tab35 : rtab .any (opsOf Tryd.f25 35) = headgateref21_one.T35 := by kernel_rfl
theorem headgateref21_one.bits35 : waitsOk headgateref21_one.T35.2 headgateref21_one.B35 = true := by kernel_rfl
abbrev d25x0 : Array Bool := #[false, false, false, false, false, false, false, false, false]
abbrev d25x1 : Array Bool := #[false, false, false, false, false, false, false]
abbrev d25x2 : Array Bool := #[false, false, false, false, false, false]
abbrev d25x3 : Array Bool := #[false, false, false, false, false]
abbrev d25x4 : Array Bool := dB 9 2
abbrev d25x5 : Array Bool := dB 7 2
abbrev d25x6 : Array Bool := dB 6 2
abbrev d25x7 : Array Bool := dB 9 34
abbrev d25x8 : Array Bool := dB 9 98
abbrev d25x9 : Array Bool := dB 5 2
abbrev d25x10 : Array Bool := dB 9 6
abbrev d25x11 : Array Bool := dB 6 6
abbrev d25x12 : Array Bool := dB 9 14
abbrev d25x13 : Array Bool := dB 9 46
abbrev d25x14 : Array Bool := dB 9 110
abbrev d25x15 : Array Bool := dB 7 3
abbrev d25x16 : Array Bool := dB 9 99
abbrev d25x17 : Array Bool := dB 5 3
abbrev d25x18 : Array Bool := dB 7 7
abbrev d25x19 : Array Bool := dB 6 7
abbrev d25x20 : Array Bool := dB 9 103
abbrev d25x21 : Array Bool := dB 5 7
abbrev d25x22 : Array Bool := dB 7 15
abbrev d25x23 : Array Bool := dB 6 15
abbrev d25x24 : Array Bool := dB 9 111
abbrev d25x25 : Array Bool := dB 5 15
abbrev d25x26 : Array Bool := dB 7 31
abbrev d25x27 : Array Bool := dB 6 31
abbrev d25x28 : Array Bool := dB 7 63
abbrev d25x29 : Array Bool := dB 9 127
abbrev d25x30 : Array Bool := dB 9 255
abbrev d25x31 : Array Bool := dB 9 511
abbrev d25x32 : Array Bool := dB 7 127
abbrev d25x33 : Array Bool := dB 6 63
abbrev d25x34 : Array Bool := dB 5 31
set_option maxHeartbeats 8000000 in
set_option maxRecDepth 100000 in
theorem headgateref21_one.calls (k : Nat) (a0_0 : Bool) (a0_1 : Bool) (a0_2 : Bool) (a0_3 : Bool) (a0_4 : Int) (a0_5 : Int) (a0_6 : ByteArray) (a0_7 : ByteArray) (a1_0 : ByteArray) (a1_1 : ByteArray) (r1 : Bool) (r2 : Bool) (r3 : Bool) (r4 : Bool) (r5 : Int) (r6 : Int) (r7 : ByteArray) (r8 : ByteArray) (r9 : ByteArray) (r10 : Bool) (w : World) (h : headgateref21_one.f k a0_0 a0_1 a0_2 a0_3 a0_4 a0_5 a0_6 a0_7 a1_0 a1_1 = some (r1, r2, r3, r4, r5, r6, r7, r8, r9, r10)) :
  Calls Tryd.prog 25 #[.agg #[.bool a0_0, .bool a0_1, .bool a0_2, .bool a0_3, .int .i64 a0_4, .int .i64 a0_5, .string a0_6, .string a0_7], .agg #[.string a1_0, .string a1_1]] w fun e w' => e = .returned (.agg #[.bool r1, .bool r2, .bool r3, .bool r4, .int .i64 r5, .int .i64 r6, .string r7, .string r8, .string r9, .bool r10]) ∧ Below w.heap.size w w' := by
 have hu31 := Tryd.underlying31
 have hu45 := Tryd.underlying45
 have hu63 := Tryd.underlying63
 have HB := Aside0.mk (Below.refl w.heap.size w)
 have H : ((headgateref21_number.f k a1_1).bind fun t189 => (if a1_0.toList = ([73, 110, 105, 116, 105, 97, 116, 111, 114, 78, 97, 109, 101] : List UInt8) then ((headgateref03_Iqn.f k a1_1).bind fun t190 => (some (a0_0, a0_1, a0_2, a0_3, a0_4, a0_5, a1_1, a0_7, (⟨#[]⟩ : ByteArray), t190))) else (if a1_0.toList = ([84, 97, 114, 103, 101, 116, 78, 97, 109, 101] : List UInt8) then ((headgateref03_Iqn.f k a1_1).bind fun t191 => (some (a0_0, a0_1, a0_2, a0_3, a0_4, a0_5, a0_6, a1_1, (⟨#[]⟩ : ByteArray), t191))) else (if a1_0.toList = ([83, 101, 115, 115, 105, 111, 110, 84, 121, 112, 101] : List UInt8) then (some (a0_0, a0_1, a0_2, a0_3, a0_4, a0_5, a0_6, a0_7, (⟨#[]⟩ : ByteArray), (a1_1.toList == ([78, 111, 114, 109, 97, 108] : List UInt8)))) else (if a1_0.toList = ([73, 110, 105, 116, 105, 97, 116, 111, 114, 65, 108, 105, 97, 115] : List UInt8) then ((headgateref21_ok.f a0_0 a0_1 a0_2 a0_3 a0_4 a0_5 a0_6 a0_7 (⟨#[]⟩ : ByteArray)).bind fun bt192 => (some (bt192.1, bt192.2.1, bt192.2.2.1, bt192.2.2.2.1, bt192.2.2.2.2.1, bt192.2.2.2.2.2.1, bt192.2.2.2.2.2.2.1, bt192.2.2.2.2.2.2.2.1, bt192.2.2.2.2.2.2.2.2.1, bt192.2.2.2.2.2.2.2.2.2))) else (if a1_0.toList = ([72, 101, 97, 100, 101, 114, 68, 105, 103, 101, 115, 116] : List UInt8) then (headgateref21_one.j0 k a1_1 t189 a1_0 (a1_0.toList == ([72, 101, 97, 100, 101, 114, 68, 105, 103, 101, 115, 116] : List UInt8)) a0_0 a0_1 a0_2 a0_3 a0_4 a0_5 a0_6 a0_7 a1_0 a1_1) else (headgateref21_one.j0 k a1_1 t189 a1_0 (a1_0.toList == ([68, 97, 116, 97, 68, 105, 103, 101, 115, 116] : List UInt8)) a0_0 a0_1 a0_2 a0_3 a0_4 a0_5 a0_6 a0_7 a1_0 a1_1))))))) = some (r1, r2, r3, r4, r5, r6, r7, r8, r9, r10) := h
 clear h
 replace H := Option.bind_eq_some_iff.mp H
 obtain ⟨t189, A30, H⟩ := H
 try dsimp only at H
 have A3 := Aside0.mk A30
 clear A30
 by_cases c4 : a1_0.toList = ([73, 110, 105, 116, 105, 97, 116, 111, 114, 78, 97, 109, 101] : List UInt8)
 ·rw [if_pos c4] at H
  have c4b0 : (a1_0.toList == ([73, 110, 105, 116, 105, 97, 116, 111, 114, 78, 97, 109, 101] : List UInt8)) = true := beq_iff_eq.mpr c4
  have c4b1 : (a1_0.toList != ([73, 110, 105, 116, 105, 97, 116, 111, 114, 78, 97, 109, 101] : List UInt8)) = false := bne_eq_false_iff_eq.mpr c4
  clear c4
  replace H := Option.bind_eq_some_iff.mp H
  obtain ⟨t190, A50, H⟩ := H
  try dsimp only at H
  have A5 := Aside0.mk A50
  clear A50
  simp only [Option.some.injEq, Prod.mk.injEq] at H
  obtain ⟨rfl, rfl, rfl, rfl, rfl, rfl, rfl, rfl, rfl, rfl⟩ := H
  go_enter Tryd.func25, Tryd.ntmps25
  try go_wp2_with (first | ((with_reducible refine gate_dst (N := 2) rfl ?_); refine box_event ?hg (N := 2) ?hd (cs := #[.bool a0_0, .bool a0_1, .bool a0_2, .bool a0_3, .int .i64 a0_4, .int .i64 a0_5, .string a0_6, .string a0_7]) (t := 31) ?hr ?_; (case hd => rfl); (case hg => rfl); (case hr => first | (go_simp; done) | (go_simp; rfl)); intro gb186 hg w6 hbox hb; have n0_ := Aside0.mk (below_step (hb_ HB) hb); have n1_ := Aside0.mk (hbox); have n2_ := Aside0.mk ((by rw [hg]; exact (below_size (hb_ HB)) : w.heap.size ≤ gb186)); have n3_ := Aside0.mk ((by rw [hg]; exact (below_size (hb_ HB)) : w.heap.size ≤ gb186)); clear HB; have HB := n0_; have BK186 := n1_; have GW186 := n2_; have GE186 := n3_; clear n0_ n1_ n2_ n3_; clear hb hbox hg) | ((with_reducible refine gate_dst (N := 3) rfl ?_); refine box_event ?hg (N := 3) ?hd (cs := #[.string a1_0, .string a1_1]) (t := 45) ?hr ?_; (case hd => rfl); (case hg => rfl); (case hr => first | (go_simp; done) | (go_simp; rfl)); intro gb187 hg w7 hbox hb; have n0_ := Aside0.mk (blk_below (bk_ BK186) hb); have n1_ := Aside0.mk (below_step (hb_ HB) hb); have n2_ := Aside0.mk (hbox); have n3_ := Aside0.mk ((by rw [hg]; exact (below_size (hb_ HB)) : w.heap.size ≤ gb187)); have n4_ := Aside0.mk ((by rw [hg]; exact (below_size (hb_ HB)) : w.heap.size ≤ gb187)); have n5_ := Aside0.mk ((by rw [hg]; exact Nat.ne_of_lt (blk_lt (g := gb186) (o := .cells #[.bool a0_0, .bool a0_1, .bool a0_2, .bool a0_3, .int .i64 a0_4, .int .i64 a0_5, .string a0_6, .string a0_7] 31 (0, 0)) (bk_ BK186)) : gb186 ≠ gb187)); have n6_ := Aside0.mk ((by rw [hg]; exact Nat.ne_of_gt (blk_lt (g := gb186) (o := .cells #[.bool a0_0, .bool a0_1, .bool a0_2, .bool a0_3, .int .i64 a0_4, .int .i64 a0_5, .string a0_6, .string a0_7] 31 (0, 0)) (bk_ BK186)) : gb187 ≠ gb186)); clear BK186; clear HB; have BK186 := n0_; have HB := n1_; have BK187 := n2_; have GW187 := n3_; have GE187 := n4_; have NB186_187 := n5_; have NB187_186 := n6_; clear n0_ n1_ n2_ n3_ n4_ n5_ n6_; clear hb hbox hg) | ((with_reducible refine gate_dst (N := 4) rfl ?_); refine box_event ?hg (N := 4) ?hd (cs := #[.bool false, .bool false, .bool false, .bool false, .int .i64 0, .int .i64 0, .string (⟨#[]⟩ : ByteArray), .string (⟨#[]⟩ : ByteArray), .string (⟨#[]⟩ : ByteArray), .bool false]) (t := 63) ?hr ?_; (case hd => rfl); (case hg => rfl); (case hr => first | (go_simp; done) | (go_simp; rfl)); intro gb188 hg w8 hbox hb; have n0_ := Aside0.mk (blk_below (bk_ BK186) hb); have n1_ := Aside0.mk (blk_below (bk_ BK187) hb); have n2_ := Aside0.mk (below_step (hb_ HB) hb); have n3_ := Aside0.mk (hbox); have n4_ := Aside0.mk ((by rw [hg]; exact (below_size (hb_ HB)) : w.heap.size ≤ gb188)); have n5_ := Aside0.mk ((by rw [hg]; exact (below_size (hb_ HB)) : w.heap.size ≤ gb188)); have n6_ := Aside0.mk ((by rw [hg]; exact Nat.ne_of_lt (blk_lt (g := gb186) (o := .cells #[.bool a0_0, .bool a0_1, .bool a0_2, .bool a0_3, .int .i64 a0_4, .int .i64 a0_5, .string a0_6, .string a0_7] 31 (0, 0)) (bk_ BK186)) : gb186 ≠ gb188)); have n7_ := Aside0.mk ((by rw [hg]; exact Nat.ne_of_gt (blk_lt (g := gb186) (o := .cells #[.bool a0_0, .bool a0_1, .bool a0_2, .bool a0_3, .int .i64 a0_4, .int .i64 a0_5, .string a0_6, .string a0_7] 31 (0, 0)) (bk_ BK186)) : gb188 ≠ gb186)); have n8_ := Aside0.mk ((by rw [hg]; exact Nat.ne_of_lt (blk_lt (g := gb187) (o := .cells #[.string a1_0, .string a1_1] 45 (0, 0)) (bk_ BK187)) : gb187 ≠ gb188)); have n9_ := Aside0.mk ((by rw [hg]; exact Nat.ne_of_gt (blk_lt (g := gb187) (o := .cells #[.string a1_0, .string a1_1] 45 (0, 0)) (bk_ BK187)) : gb188 ≠ gb187)); clear BK186; clear BK187; clear HB; have BK186 := n0_; have BK187 := n1_; have HB := n2_; have BK188 := n3_; have GW188 := n4_; have GE188 := n5_; have NB186_188 := n6_; have NB188_186 := n7_; have NB187_188 := n8_; have NB188_187 := n9_; clear n0_ n1_ n2_ n3_ n4_ n5_ n6_ n7_ n8_ n9_; clear hb hbox hg; have hnb9 := NB187_186.out; have hnc9 := NB186_187.out; have hnb10 := NB187_188.out; have hnc10 := NB188_187.out; have hcz11_0 : w8.cell? ⟨gb187, 0, none⟩ = some (.string a1_0) := (blk_cell BK187.out 0).trans rfl; have hcz11_1 : w8.cell? ⟨gb187, 1, none⟩ = some (.string a1_1) := (blk_cell BK187.out 1).trans rfl; have hfz11_0 := blk_frozen BK187.out 0; have hfz11_1 := blk_frozen BK187.out 1) | ((with_reducible refine gate_callee (f := 51) rfl ?_); refine goesL_ (some 11) rfl rfl Tryd.func51 (by kernel_rfl) rfl #[.string a1_1] rfl (by (try simp only [List.map_toArray, List.map_cons, List.map_nil]); first | done | rfl | (simp only [List.length_drop, List.length_take]; rfl)) ?_; (with_reducible refine (headgateref21_number.calls k a1_1 t189 _ A3.out).mono ?_); rintro e w' ⟨rfl, ⟨nd, rfl⟩⟩; refine ⟨_, rfl, ?_⟩; (try (rw [drewN_self w8]; generalize hq_ : World.drewN w8 _ = w8; have n0_ : Aside0 (w8.heap[gb186]? = some (.cells #[.bool a0_0, .bool a0_1, .bool a0_2, .bool a0_3, .int .i64 a0_4, .int .i64 a0_5, .string a0_6, .string a0_7] 31 (0, 0))) := ⟨by rw [← hq_]; exact (bk_ BK186)⟩; have n1_ : Aside0 (w8.heap[gb187]? = some (.cells #[.string a1_0, .string a1_1] 45 (0, 0))) := ⟨by rw [← hq_]; exact (bk_ BK187)⟩; have n2_ : Aside0 (w8.heap[gb188]? = some (.cells #[.bool false, .bool false, .bool false, .bool false, .int .i64 0, .int .i64 0, .string (⟨#[]⟩ : ByteArray), .string (⟨#[]⟩ : ByteArray), .string (⟨#[]⟩ : ByteArray), .bool false] 63 (0, 0))) := ⟨by rw [← hq_]; exact (bk_ BK188)⟩; have n3_ : Aside0 (Below w.heap.size w w8) := ⟨by rw [← hq_]; exact (hb_ HB)⟩; clear BK186 BK187 BK188 HB hq_; have BK186 := n0_; have BK187 := n1_; have BK188 := n2_; have HB := n3_; clear n0_ n1_ n2_ n3_)); have hnb12 := NB186_188.out; have hnc12 := NB188_186.out; have hcz13_0 : w8.cell? ⟨gb186, 0, none⟩ = some (.bool a0_0) := (blk_cell BK186.out 0).trans rfl; have hcz13_1 : w8.cell? ⟨gb186, 1, none⟩ = some (.bool a0_1) := (blk_cell BK186.out 1).trans rfl; have hcz13_2 : w8.cell? ⟨gb186, 2, none⟩ = some (.bool a0_2) := (blk_cell BK186.out 2).trans rfl; have hcz13_3 : w8.cell? ⟨gb186, 3, none⟩ = some (.bool a0_3) := (blk_cell BK186.out 3).trans rfl; have hcz13_4 : w8.cell? ⟨gb186, 4, none⟩ = some (.int .i64 a0_4) := (blk_cell BK186.out 4).trans rfl; have hcz13_5 : w8.cell? ⟨gb186, 5, none⟩ = some (.int .i64 a0_5) := (blk_cell BK186.out 5).trans rfl; have hcz13_6 : w8.cell? ⟨gb186, 6, none⟩ = some (.string a0_6) := (blk_cell BK186.out 6).trans rfl; have hcz13_7 : w8.cell? ⟨gb186, 7, none⟩ = some (.string a0_7) := (blk_cell BK186.out 7).trans rfl; have hfz13_0 := blk_frozen BK186.out 0; have hfz13_1 := blk_frozen BK186.out 1; have hfz13_2 := blk_frozen BK186.out 2; have hfz13_3 := blk_frozen BK186.out 3; have hfz13_4 := blk_frozen BK186.out 4; have hfz13_5 := blk_frozen BK186.out 5; have hfz13_6 := blk_frozen BK186.out 6; have hfz13_7 := blk_frozen BK186.out 7; have hczp_0 : w8.cell? ⟨gb187, 0, none⟩ = some (.string a1_0) := (blk_cell BK187.out 0).trans rfl; have hczp_1 : w8.cell? ⟨gb187, 1, none⟩ = some (.string a1_1) := (blk_cell BK187.out 1).trans rfl; have hfzp_0 := blk_frozen BK187.out 0; have hfzp_1 := blk_frozen BK187.out 1))
  have n0_ : Aside0 ((w8.setCell ⟨gb186, 6, none⟩ (.string a1_1)).heap[gb186]? = some (.cells #[.bool a0_0, .bool a0_1, .bool a0_2, .bool a0_3, .int .i64 a0_4, .int .i64 a0_5, .string a1_1, .string a0_7] 31 (0, 0))) := ⟨by (with_reducible repeat (first | refine blk_drewN ?_ _ | refine blk_drew ?_ | refine blk_alloc ?_ _)); refine blk_put (cs := #[.bool a0_0, .bool a0_1, .bool a0_2, .bool a0_3, .int .i64 a0_4, .int .i64 a0_5, .string a0_6, .string a0_7]) ?_ 6 _ rfl; (with_reducible repeat (first | refine blk_drewN ?_ _ | refine blk_drew ?_ | refine blk_alloc ?_ _)); exact BK186.out⟩
  have n1_ : Aside0 ((w8.setCell ⟨gb186, 6, none⟩ (.string a1_1)).heap[gb187]? = some (.cells #[.string a1_0, .string a1_1] 45 (0, 0))) := ⟨by (with_reducible repeat (first | refine blk_drewN ?_ _ | refine blk_drew ?_ | refine blk_alloc ?_ _ | refine blk_far ?_ NB187_186.out _)); exact BK187.out⟩
  have n2_ : Aside0 ((w8.setCell ⟨gb186, 6, none⟩ (.string a1_1)).heap[gb188]? = some (.cells #[.bool false, .bool false, .bool false, .bool false, .int .i64 0, .int .i64 0, .string (⟨#[]⟩ : ByteArray), .string (⟨#[]⟩ : ByteArray), .string (⟨#[]⟩ : ByteArray), .bool false] 63 (0, 0))) := ⟨by (with_reducible repeat (first | refine blk_drewN ?_ _ | refine blk_drew ?_ | refine blk_alloc ?_ _ | refine blk_far ?_ NB188_186.out _)); exact BK188.out⟩
  have n3_ : Aside0 (Below w.heap.size w (w8.setCell ⟨gb186, 6, none⟩ (.string a1_1))) := ⟨hb_ HB⟩
  (try clear BK186)
  (try clear BK187)
  (try clear BK188)
  (try clear HB)
  generalize (w8.setCell ⟨gb186, 6, none⟩ (.string a1_1)) = w14 at n0_ n1_ n2_ n3_ ⊢
  have BK186 := n0_
  have BK187 := n1_
  have BK188 := n2_
  have HB := n3_
  clear n0_ n1_ n2_ n3_
  have n0_ := Aside0.mk (blk_drew BK186.out)
  have n1_ := Aside0.mk (blk_drew BK187.out)
  have n2_ := Aside0.mk (blk_drew BK188.out)
  have n3_ := Aside0.mk (below_drew1 HB.out)
  clear BK186
  clear BK187
  clear BK188
  clear HB
  have BK186 := n0_
  have BK187 := n1_
  have BK188 := n2_
  have HB := n3_
  clear n0_ n1_ n2_ n3_
  refine start_ (n := 5) (S := fun w' => w'.cell? ⟨gb186, 0, none⟩ = some (.bool a0_0) ∧ w'.cell? ⟨gb186, 1, none⟩ = some (.bool a0_1) ∧ w'.cell? ⟨gb186, 2, none⟩ = some (.bool a0_2) ∧ w'.cell? ⟨gb186, 3, none⟩ = some (.bool a0_3) ∧ w'.cell? ⟨gb186, 4, none⟩ = some (.int .i64 a0_4) ∧ w'.cell? ⟨gb186, 5, none⟩ = some (.int .i64 a0_5) ∧ w'.cell? ⟨gb186, 6, none⟩ = some (.string a1_1) ∧ w'.cell? ⟨gb186, 7, none⟩ = some (.string a0_7)) (ds := []) d25x3 (by kernel_rfl) rfl rfl ⟨(blk_cell BK186.out 0).trans rfl, (blk_cell BK186.out 1).trans rfl, (blk_cell BK186.out 2).trans rfl, (blk_cell BK186.out 3).trans rfl, (blk_cell BK186.out 4).trans rfl, (blk_cell BK186.out 5).trans rfl, (blk_cell BK186.out 6).trans rfl, (blk_cell BK186.out 7).trans rfl⟩ (fun hHeld => ?_)
  generalize w14.drew = w15 at BK186 BK187 BK188 HB hHeld ⊢
  refine qon_ 1 (some 19) d25x9 ?_
  refine qtk_ 0 (some 18) d25x17 hHeld ?_
  refine one_ (i := 2) (N := some 20) d25x21 rfl rfl (by kernel_rfl) (by decide) (fun K hK => ?_)
  refine goes_ Tryd.func52 (by kernel_rfl) rfl #[.string a1_1] (by rfl) rfl rfl (by (try simp only [List.map_toArray, List.map_cons, List.map_nil]); first | done | rfl | (simp only [List.length_drop, List.length_take]; rfl)) ?_
  with_reducible refine (headgateref03_Iqn.calls k a1_1 t190 _ A5.out).mono ?_
  rintro e w' ⟨rfl, ⟨nd, rfl⟩⟩
  refine ⟨_, rfl, ?_⟩
  refine hK.out _ _ ⟨(blk_cell BK186.out 0).trans rfl, (blk_cell BK186.out 1).trans rfl, (blk_cell BK186.out 2).trans rfl, (blk_cell BK186.out 3).trans rfl, (blk_cell BK186.out 4).trans rfl, (blk_cell BK186.out 5).trans rfl, (blk_cell BK186.out 6).trans rfl, (blk_cell BK186.out 7).trans rfl⟩ (fun hHeld => ?_)
  clear hK K
  refine norm_ (a' := ?_) ?_ ?_
  rotate_left
  ·show Act.put _ (some 20) _ = _
   simp only [Act.put, la_, lb_, lc_, i64_w, i32_w]
   rfl
  refine qon_ 3 (some 21) d25x25 ?_
  refine one_ (i := 4) (N := none) d25x34 rfl rfl (by kernel_rfl) (by decide) (fun K hK => ?_)
  have hs16 : w15.cell? ⟨gb188, 0, none⟩ = some (.bool false) := (blk_cell BK188.out 0).trans rfl
  have hfs16 := blk_frozen BK188.out 0
  have hns16_0 := NB186_188.out
  have hns16_1 := NB187_188.out
  have hms16_0 := NB188_186.out
  have hms16_1 := NB188_187.out
  have hs17 : w15.cell? ⟨gb188, 1, none⟩ = some (.bool false) := (blk_cell BK188.out 1).trans rfl
  have hfs17 := blk_frozen BK188.out 1
  have hns17_0 := NB186_188.out
  have hns17_1 := NB187_188.out
  have hms17_0 := NB188_186.out
  have hms17_1 := NB188_187.out
  have hs18 : w15.cell? ⟨gb188, 2, none⟩ = some (.bool false) := (blk_cell BK188.out 2).trans rfl
  have hfs18 := blk_frozen BK188.out 2
  have hns18_0 := NB186_188.out
  have hns18_1 := NB187_188.out
  have hms18_0 := NB188_186.out
  have hms18_1 := NB188_187.out
  have hs19 : w15.cell? ⟨gb188, 3, none⟩ = some (.bool false) := (blk_cell BK188.out 3).trans rfl
  have hfs19 := blk_frozen BK188.out 3
  have hns19_0 := NB186_188.out
  have hns19_1 := NB187_188.out
  have hms19_0 := NB188_186.out
  have hms19_1 := NB188_187.out
  have hs20 : w15.cell? ⟨gb188, 4, none⟩ = some (.int .i64 0) := (blk_cell BK188.out 4).trans rfl
  have hfs20 := blk_frozen BK188.out 4
  have hns20_0 := NB186_188.out
  have hns20_1 := NB187_188.out
  have hms20_0 := NB188_186.out
  have hms20_1 := NB188_187.out
  have hs21 : w15.cell? ⟨gb188, 5, none⟩ = some (.int .i64 0) := (blk_cell BK188.out 5).trans rfl
  have hfs21 := blk_frozen BK188.out 5
  have hns21_0 := NB186_188.out
  have hns21_1 := NB187_188.out
  have hms21_0 := NB188_186.out
  have hms21_1 := NB188_187.out
  have hs22 : w15.cell? ⟨gb188, 6, none⟩ = some (.string (⟨#[]⟩ : ByteArray)) := (blk_cell BK188.out 6).trans rfl
  have hfs22 := blk_frozen BK188.out 6
  have hns22_0 := NB186_188.out
  have hns22_1 := NB187_188.out
  have hms22_0 := NB188_186.out
  have hms22_1 := NB188_187.out
  have hs23 : w15.cell? ⟨gb188, 7, none⟩ = some (.string (⟨#[]⟩ : ByteArray)) := (blk_cell BK188.out 7).trans rfl
  have hfs23 := blk_frozen BK188.out 7
  have hns23_0 := NB186_188.out
  have hns23_1 := NB187_188.out
  have hms23_0 := NB188_186.out
  have hms23_1 := NB188_187.out
  have hs24 : w15.cell? ⟨gb188, 8, none⟩ = some (.string (⟨#[]⟩ : ByteArray)) := (blk_cell BK188.out 8).trans rfl
  have hfs24 := blk_frozen BK188.out 8
  have hns24_0 := NB186_188.out
  have hns24_1 := NB187_188.out
  have hms24_0 := NB188_186.out
  have hms24_1 := NB188_187.out
  have hs25 : w15.cell? ⟨gb188, 9, none⟩ = some (.bool false) := (blk_cell BK188.out 9).trans rfl
  have hfs25 := blk_frozen BK188.out 9
  have hns25_0 := NB186_188.out
  have hns25_1 := NB187_188.out
  have hms25_0 := NB188_186.out
  have hms25_1 := NB188_187.out
  refine skip_ (w1 := ?_) (by rfl) rfl ?_ ?_
  rotate_left
  ·go_simp
   rfl
  refine hK.out _ _ ⟨((cell_far (p := ⟨gb188, _, none⟩) NB186_188.out _).trans (((cell_far (p := ⟨gb188, _, none⟩) NB186_188.out _).trans (((cell_far (p := ⟨gb188, _, none⟩) NB186_188.out _).trans (((cell_far (p := ⟨gb188, _, none⟩) NB186_188.out _).trans (((cell_far (p := ⟨gb188, _, none⟩) NB186_188.out _).trans (((cell_far (p := ⟨gb188, _, none⟩) NB186_188.out _).trans (((cell_far (p := ⟨gb188, _, none⟩) NB186_188.out _).trans (((cell_far (p := ⟨gb188, _, none⟩) NB186_188.out _).trans (((cell_far (p := ⟨gb188, _, none⟩) NB186_188.out _).trans (((cell_far (p := ⟨gb188, _, none⟩) NB186_188.out _).trans (hHeld.1)))))))))))))))))))), ((cell_far (p := ⟨gb188, _, none⟩) NB186_188.out _).trans (((cell_far (p := ⟨gb188, _, none⟩) NB186_188.out _).trans (((cell_far (p := ⟨gb188, _, none⟩) NB186_188.out _).trans (((cell_far (p := ⟨gb188, _, none⟩) NB186_188.out _).trans (((cell_far (p := ⟨gb188, _, none⟩) NB186_188.out _).trans (((cell_far (p := ⟨gb188, _, none⟩) NB186_188.out _).trans (((cell_far (p := ⟨gb188, _, none⟩) NB186_188.out _).trans (((cell_far (p := ⟨gb188, _, none⟩) NB186_188.out _).trans (((cell_far (p := ⟨gb188, _, none⟩) NB186_188.out _).trans (((cell_far (p := ⟨gb188, _, none⟩) NB186_188.out _).trans (hHeld.2.1)))))))))))))))))))), ((cell_far (p := ⟨gb188, _, none⟩) NB186_188.out _).trans (((cell_far (p := ⟨gb188, _, none⟩) NB186_188.out _).trans (((cell_far (p := ⟨gb188, _, none⟩) NB186_188.out _).trans (((cell_far (p := ⟨gb188, _, none⟩) NB186_188.out _).trans (((cell_far (p := ⟨gb188, _, none⟩) NB186_188.out _).trans (((cell_far (p := ⟨gb188, _, none⟩) NB186_188.out _).trans (((cell_far (p := ⟨gb188, _, none⟩) NB186_188.out _).trans (((cell_far (p := ⟨gb188, _, none⟩) NB186_188.out _).trans (((cell_far (p := ⟨gb188, _, none⟩) NB186_188.out _).trans (((cell_far (p := ⟨gb188, _, none⟩) NB186_188.out _).trans (hHeld.2.2.1)))))))))))))))))))), ((cell_far (p := ⟨gb188, _, none⟩) NB186_188.out _).trans (((cell_far (p := ⟨gb188, _, none⟩) NB186_188.out _).trans (((cell_far (p := ⟨gb188, _, none⟩) NB186_188.out _).trans (((cell_far (p := ⟨gb188, _, none⟩) NB186_188.out _).trans (((cell_far (p := ⟨gb188, _, none⟩) NB186_188.out _).trans (((cell_far (p := ⟨gb188, _, none⟩) NB186_188.out _).trans (((cell_far (p := ⟨gb188, _, none⟩) NB186_188.out _).trans (((cell_far (p := ⟨gb188, _, none⟩) NB186_188.out _).trans (((cell_far (p := ⟨gb188, _, none⟩) NB186_188.out _).trans (((cell_far (p := ⟨gb188, _, none⟩) NB186_188.out _).trans (hHeld.2.2.2.1)))))))))))))))))))), ((cell_far (p := ⟨gb188, _, none⟩) NB186_188.out _).trans (((cell_far (p := ⟨gb188, _, none⟩) NB186_188.out _).trans (((cell_far (p := ⟨gb188, _, none⟩) NB186_188.out _).trans (((cell_far (p := ⟨gb188, _, none⟩) NB186_188.out _).trans (((cell_far (p := ⟨gb188, _, none⟩) NB186_188.out _).trans (((cell_far (p := ⟨gb188, _, none⟩) NB186_188.out _).trans (((cell_far (p := ⟨gb188, _, none⟩) NB186_188.out _).trans (((cell_far (p := ⟨gb188, _, none⟩) NB186_188.out _).trans (((cell_far (p := ⟨gb188, _, none⟩) NB186_188.out _).trans (((cell_far (p := ⟨gb188, _, none⟩) NB186_188.out _).trans (hHeld.2.2.2.2.1)))))))))))))))))))), ((cell_far (p := ⟨gb188, _, none⟩) NB186_188.out _).trans (((cell_far (p := ⟨gb188, _, none⟩) NB186_188.out _).trans (((cell_far (p := ⟨gb188, _, none⟩) NB186_188.out _).trans (((cell_far (p := ⟨gb188, _, none⟩) NB186_188.out _).trans (((cell_far (p := ⟨gb188, _, none⟩) NB186_188.out _).trans (((cell_far (p := ⟨gb188, _, none⟩) NB186_188.out _).trans (((cell_far (p := ⟨gb188, _, none⟩) NB186_188.out _).trans (((cell_far (p := ⟨gb188, _, none⟩) NB186_188.out _).trans (((cell_far (p := ⟨gb188, _, none⟩) NB186_188.out _).trans (((cell_far (p := ⟨gb188, _, none⟩) NB186_188.out _).trans (hHeld.2.2.2.2.2.1)))))))))))))))))))), ((cell_far (p := ⟨gb188, _, none⟩) NB186_188.out _).trans (((cell_far (p := ⟨gb188, _, none⟩) NB186_188.out _).trans (((cell_far (p := ⟨gb188, _, none⟩) NB186_188.out _).trans (((cell_far (p := ⟨gb188, _, none⟩) NB186_188.out _).trans (((cell_far (p := ⟨gb188, _, none⟩) NB186_188.out _).trans (((cell_far (p := ⟨gb188, _, none⟩) NB186_188.out _).trans (((cell_far (p := ⟨gb188, _, none⟩) NB186_188.out _).trans (((cell_far (p := ⟨gb188, _, none⟩) NB186_188.out _).trans (((cell_far (p := ⟨gb188, _, none⟩) NB186_188.out _).trans (((cell_far (p := ⟨gb188, _, none⟩) NB186_188.out _).trans (hHeld.2.2.2.2.2.2.1)))))))))))))))))))), ((cell_far (p := ⟨gb188, _, none⟩) NB186_188.out _).trans (((cell_far (p := ⟨gb188, _, none⟩) NB186_188.out _).trans (((cell_far (p := ⟨gb188, _, none⟩) NB186_188.out _).trans (((cell_far (p := ⟨gb188, _, none⟩) NB186_188.out _).trans (((cell_far (p := ⟨gb188, _, none⟩) NB186_188.out _).trans (((cell_far (p := ⟨gb188, _, none⟩) NB186_188.out _).trans (((cell_far (p := ⟨gb188, _, none⟩) NB186_188.out _).trans (((cell_far (p := ⟨gb188, _, none⟩) NB186_188.out _).trans (((cell_far (p := ⟨gb188, _, none⟩) NB186_188.out _).trans (((cell_far (p := ⟨gb188, _, none⟩) NB186_188.out _).trans (hHeld.2.2.2.2.2.2.2))))))))))))))))))))⟩ (fun hHeld => ?_)
  clear hK K
  refine done_ (by kernel_rfl) ?_
  try go_wp2
  refine bodyPost_ret (results_cell_row rfl _ _ gb188 63 #[.bool a0_0, .bool a0_1, .bool a0_2, .bool a0_3, .int .i64 a0_4, .int .i64 a0_5, .string a1_1, .string a0_7, .string (⟨#[]⟩ : ByteArray), .bool t190] (0, 0) _ rfl (by (with_reducible repeat (first | refine blk_drewN ?_ _ | refine blk_drew ?_ | refine blk_alloc ?_ _)); refine blk_put (cs := #[.bool a0_0, .bool a0_1, .bool a0_2, .bool a0_3, .int .i64 a0_4, .int .i64 a0_5, .string a1_1, .string a0_7, .string (⟨#[]⟩ : ByteArray), .bool false]) ?_ 9 _ rfl; (with_reducible repeat (first | refine blk_drewN ?_ _ | refine blk_drew ?_ | refine blk_alloc ?_ _)); refine blk_put (cs := #[.bool a0_0, .bool a0_1, .bool a0_2, .bool a0_3, .int .i64 a0_4, .int .i64 a0_5, .string a1_1, .string a0_7, .string (⟨#[]⟩ : ByteArray), .bool false]) ?_ 8 _ rfl; (with_reducible repeat (first | refine blk_drewN ?_ _ | refine blk_drew ?_ | refine blk_alloc ?_ _)); refine blk_put (cs := #[.bool a0_0, .bool a0_1, .bool a0_2, .bool a0_3, .int .i64 a0_4, .int .i64 a0_5, .string a1_1, .string (⟨#[]⟩ : ByteArray), .string (⟨#[]⟩ : ByteArray), .bool false]) ?_ 7 _ rfl; (with_reducible repeat (first | refine blk_drewN ?_ _ | refine blk_drew ?_ | refine blk_alloc ?_ _)); refine blk_put (cs := #[.bool a0_0, .bool a0_1, .bool a0_2, .bool a0_3, .int .i64 a0_4, .int .i64 a0_5, .string (⟨#[]⟩ : ByteArray), .string (⟨#[]⟩ : ByteArray), .string (⟨#[]⟩ : ByteArray), .bool false]) ?_ 6 _ rfl; (with_reducible repeat (first | refine blk_drewN ?_ _ | refine blk_drew ?_ | refine blk_alloc ?_ _)); refine blk_put (cs := #[.bool a0_0, .bool a0_1, .bool a0_2, .bool a0_3, .int .i64 a0_4, .int .i64 0, .string (⟨#[]⟩ : ByteArray), .string (⟨#[]⟩ : ByteArray), .string (⟨#[]⟩ : ByteArray), .bool false]) ?_ 5 _ rfl; (with_reducible repeat (first | refine blk_drewN ?_ _ | refine blk_drew ?_ | refine blk_alloc ?_ _)); refine blk_put (cs := #[.bool a0_0, .bool a0_1, .bool a0_2, .bool a0_3, .int .i64 0, .int .i64 0, .string (⟨#[]⟩ : ByteArray), .string (⟨#[]⟩ : ByteArray), .string (⟨#[]⟩ : ByteArray), .bool false]) ?_ 4 _ rfl; (with_reducible repeat (first | refine blk_drewN ?_ _ | refine blk_drew ?_ | refine blk_alloc ?_ _)); refine blk_put (cs := #[.bool a0_0, .bool a0_1, .bool a0_2, .bool false, .int .i64 0, .int .i64 0, .string (⟨#[]⟩ : ByteArray), .string (⟨#[]⟩ : ByteArray), .string (⟨#[]⟩ : ByteArray), .bool false]) ?_ 3 _ rfl; (with_reducible repeat (first | refine blk_drewN ?_ _ | refine blk_drew ?_ | refine blk_alloc ?_ _)); refine blk_put (cs := #[.bool a0_0, .bool a0_1, .bool false, .bool false, .int .i64 0, .int .i64 0, .string (⟨#[]⟩ : ByteArray), .string (⟨#[]⟩ : ByteArray), .string (⟨#[]⟩ : ByteArray), .bool false]) ?_ 2 _ rfl; (with_reducible repeat (first | refine blk_drewN ?_ _ | refine blk_drew ?_ | refine blk_alloc ?_ _)); refine blk_put (cs := #[.bool a0_0, .bool false, .bool false, .bool false, .int .i64 0, .int .i64 0, .string (⟨#[]⟩ : ByteArray), .string (⟨#[]⟩ : ByteArray), .string (⟨#[]⟩ : ByteArray), .bool false]) ?_ 1 _ rfl; (with_reducible repeat (first | refine blk_drewN ?_ _ | refine blk_drew ?_ | refine blk_alloc ?_ _)); refine blk_put (cs := #[.bool false, .bool false, .bool false, .bool false, .int .i64 0, .int .i64 0, .string (⟨#[]⟩ : ByteArray), .string (⟨#[]⟩ : ByteArray), .string (⟨#[]⟩ : ByteArray), .bool false]) ?_ 0 _ rfl; (with_reducible repeat (first | refine blk_drewN ?_ _ | refine blk_drew ?_ | refine blk_alloc ?_ _)); exact BK188.out) Tryd.underlying63 rfl (by kernel_rfl)) rfl ?_
  exact ⟨by first | rfl | (simp [errW_none, errW_some] <;> rfl) | (simp [*, errW_none, errW_some] <;> rfl) | (simp [bt, *]; done) | (unfold bt; simp [*]; done), by repeat (first | (with_reducible first | exact HB.out | apply below_alloc | apply pw_below_drewN | apply below_drew1 | refine below_set ?_ GE186.out | refine below_set ?_ GE187.out | refine below_set ?_ GE188.out) | exact HB.out)⟩
 rw [if_neg c4] at H
 have c4b0 : (a1_0.toList == ([73, 110, 105, 116, 105, 97, 116, 111, 114, 78, 97, 109, 101] : List UInt8)) = false := beq_eq_false_iff_ne.mpr c4
 have c4b1 : (a1_0.toList != ([73, 110, 105, 116, 105, 97, 116, 111, 114, 78, 97, 109, 101] : List UInt8)) = true := bne_iff_ne.mpr c4
 by_cases c26 : a1_0.toList = ([84, 97, 114, 103, 101, 116, 78, 97, 109, 101] : List UInt8)
 ·rw [if_pos c26] at H
  have c26b0 : (a1_0.toList == ([84, 97, 114, 103, 101, 116, 78, 97, 109, 101] : List UInt8)) = true := beq_iff_eq.mpr c26
  have c26b1 : (a1_0.toList != ([84, 97, 114, 103, 101, 116, 78, 97, 109, 101] : List UInt8)) = false := bne_eq_false_iff_eq.mpr c26
  clear c26
  replace H := Option.bind_eq_some_iff.mp H
  obtain ⟨t191, A270, H⟩ := H
  try dsimp only at H
  have A27 := Aside0.mk A270
  clear A270
  simp only [Option.some.injEq, Prod.mk.injEq] at H
  obtain ⟨rfl, rfl, rfl, rfl, rfl, rfl, rfl, rfl, rfl, rfl⟩ := H
  go_enter Tryd.func25, Tryd.ntmps25
  try go_wp2_with (first | ((with_reducible refine gate_dst (N := 2) rfl ?_); refine box_event ?hg (N := 2) ?hd (cs := #[.bool a0_0, .bool a0_1, .bool a0_2, .bool a0_3, .int .i64 a0_4, .int .i64 a0_5, .string a0_6, .string a0_7]) (t := 31) ?hr ?_; (case hd => rfl); (case hg => rfl); (case hr => first | (go_simp; done) | (go_simp; rfl)); intro gb186 hg w28 hbox hb; have n0_ := Aside0.mk (below_step (hb_ HB) hb); have n1_ := Aside0.mk (hbox); have n2_ := Aside0.mk ((by rw [hg]; exact (below_size (hb_ HB)) : w.heap.size ≤ gb186)); have n3_ := Aside0.mk ((by rw [hg]; exact (below_size (hb_ HB)) : w.heap.size ≤ gb186)); clear HB; have HB := n0_; have BK186 := n1_; have GW186 := n2_; have GE186 := n3_; clear n0_ n1_ n2_ n3_; clear hb hbox hg) | ((with_reducible refine gate_dst (N := 3) rfl ?_); refine box_event ?hg (N := 3) ?hd (cs := #[.string a1_0, .string a1_1]) (t := 45) ?hr ?_; (case hd => rfl); (case hg => rfl); (case hr => first | (go_simp; done) | (go_simp; rfl)); intro gb187 hg w29 hbox hb; have n0_ := Aside0.mk (blk_below (bk_ BK186) hb); have n1_ := Aside0.mk (below_step (hb_ HB) hb); have n2_ := Aside0.mk (hbox); have n3_ := Aside0.mk ((by rw [hg]; exact (below_size (hb_ HB)) : w.heap.size ≤ gb187)); have n4_ := Aside0.mk ((by rw [hg]; exact (below_size (hb_ HB)) : w.heap.size ≤ gb187)); have n5_ := Aside0.mk ((by rw [hg]; exact Nat.ne_of_lt (blk_lt (g := gb186) (o := .cells #[.bool a0_0, .bool a0_1, .bool a0_2, .bool a0_3, .int .i64 a0_4, .int .i64 a0_5, .string a0_6, .string a0_7] 31 (0, 0)) (bk_ BK186)) : gb186 ≠ gb187)); have n6_ := Aside0.mk ((by rw [hg]; exact Nat.ne_of_gt (blk_lt (g := gb186) (o := .cells #[.bool a0_0, .bool a0_1, .bool a0_2, .bool a0_3, .int .i64 a0_4, .int .i64 a0_5, .string a0_6, .string a0_7] 31 (0, 0)) (bk_ BK186)) : gb187 ≠ gb186)); clear BK186; clear HB; have BK186 := n0_; have HB := n1_; have BK187 := n2_; have GW187 := n3_; have GE187 := n4_; have NB186_187 := n5_; have NB187_186 := n6_; clear n0_ n1_ n2_ n3_ n4_ n5_ n6_; clear hb hbox hg) | ((with_reducible refine gate_dst (N := 4) rfl ?_); refine box_event ?hg (N := 4) ?hd (cs := #[.bool false, .bool false, .bool false, .bool false, .int .i64 0, .int .i64 0, .string (⟨#[]⟩ : ByteArray), .string (⟨#[]⟩ : ByteArray), .string (⟨#[]⟩ : ByteArray), .bool false]) (t := 63) ?hr ?_; (case hd => rfl); (case hg => rfl); (case hr => first | (go_simp; done) | (go_simp; rfl)); intro gb188 hg w30 hbox hb; have n0_ := Aside0.mk (blk_below (bk_ BK186) hb); have n1_ := Aside0.mk (blk_below (bk_ BK187) hb); have n2_ := Aside0.mk (below_step (hb_ HB) hb); have n3_ := Aside0.mk (hbox); have n4_ := Aside0.mk ((by rw [hg]; exact (below_size (hb_ HB)) : w.heap.size ≤ gb188)); have n5_ := Aside0.mk ((by rw [hg]; exact (below_size (hb_ HB)) : w.heap.size ≤ gb188)); have n6_ := Aside0.mk ((by rw [hg]; exact Nat.ne_of_lt (blk_lt (g := gb186) (o := .cells #[.bool a0_0, .bool a0_1, .bool a0_2, .bool a0_3, .int .i64 a0_4, .int .i64 a0_5, .string a0_6, .string a0_7] 31 (0, 0)) (bk_ BK186)) : gb186 ≠ gb188)); have n7_ := Aside0.mk ((by rw [hg]; exact Nat.ne_of_gt (blk_lt (g := gb186) (o := .cells #[.bool a0_0, .bool a0_1, .bool a0_2, .bool a0_3, .int .i64 a0_4, .int .i64 a0_5, .string a0_6, .string a0_7] 31 (0, 0)) (bk_ BK186)) : gb188 ≠ gb186)); have n8_ := Aside0.mk ((by rw [hg]; exact Nat.ne_of_lt (blk_lt (g := gb187) (o := .cells #[.string a1_0, .string a1_1] 45 (0, 0)) (bk_ BK187)) : gb187 ≠ gb188)); have n9_ := Aside0.mk ((by rw [hg]; exact Nat.ne_of_gt (blk_lt (g := gb187) (o := .cells #[.string a1_0, .string a1_1] 45 (0, 0)) (bk_ BK187)) : gb188 ≠ gb187)); clear BK186; clear BK187; clear HB; have BK186 := n0_; have BK187 := n1_; have HB := n2_; have BK188 := n3_; have GW188 := n4_; have GE188 := n5_; have NB186_188 := n6_; have NB188_186 := n7_; have NB187_188 := n8_; have NB188_187 := n9_; clear n0_ n1_ n2_ n3_ n4_ n5_ n6_ n7_ n8_ n9_; clear hb hbox hg; have hnb31 := NB187_186.out; have hnc31 := NB186_187.out; have hnb32 := NB187_188.out; have hnc32 := NB188_187.out; have hcz33_0 : w30.cell? ⟨gb187, 0, none⟩ = some (.string a1_0) := (blk_cell BK187.out 0).trans rfl; have hcz33_1 : w30.cell? ⟨gb187, 1, none⟩ = some (.string a1_1) := (blk_cell BK187.out 1).trans rfl; have hfz33_0 := blk_frozen BK187.out 0; have hfz33_1 := blk_frozen BK187.out 1) | ((with_reducible refine gate_callee (f := 51) rfl ?_); refine goesL_ (some 11) rfl rfl Tryd.func51 (by kernel_rfl) rfl #[.string a1_1] rfl (by (try simp only [List.map_toArray, List.map_cons, List.map_nil]); first | done | rfl | (simp only [List.length_drop, List.length_take]; rfl)) ?_; (with_reducible refine (headgateref21_number.calls k a1_1 t189 _ A3.out).mono ?_); rintro e w' ⟨rfl, ⟨nd, rfl⟩⟩; refine ⟨_, rfl, ?_⟩; (try (rw [drewN_self w30]; generalize hq_ : World.drewN w30 _ = w30; have n0_ : Aside0 (w30.heap[gb186]? = some (.cells #[.bool a0_0, .bool a0_1, .bool a0_2, .bool a0_3, .int .i64 a0_4, .int .i64 a0_5, .string a0_6, .string a0_7] 31 (0, 0))) := ⟨by rw [← hq_]; exact (bk_ BK186)⟩; have n1_ : Aside0 (w30.heap[gb187]? = some (.cells #[.string a1_0, .string a1_1] 45 (0, 0))) := ⟨by rw [← hq_]; exact (bk_ BK187)⟩; have n2_ : Aside0 (w30.heap[gb188]? = some (.cells #[.bool false, .bool false, .bool false, .bool false, .int .i64 0, .int .i64 0, .string (⟨#[]⟩ : ByteArray), .string (⟨#[]⟩ : ByteArray), .string (⟨#[]⟩ : ByteArray), .bool false] 63 (0, 0))) := ⟨by rw [← hq_]; exact (bk_ BK188)⟩; have n3_ : Aside0 (Below w.heap.size w w30) := ⟨by rw [← hq_]; exact (hb_ HB)⟩; clear BK186 BK187 BK188 HB hq_; have BK186 := n0_; have BK187 := n1_; have BK188 := n2_; have HB := n3_; clear n0_ n1_ n2_ n3_)); have hnb34 := NB186_188.out; have hnc34 := NB188_186.out; have hcz35_0 : w30.cell? ⟨gb186, 0, none⟩ = some (.bool a0_0) := (blk_cell BK186.out 0).trans rfl; have hcz35_1 : w30.cell? ⟨gb186, 1, none⟩ = some (.bool a0_1) := (blk_cell BK186.out 1).trans rfl; have hcz35_2 : w30.cell? ⟨gb186, 2, none⟩ = some (.bool a0_2) := (blk_cell BK186.out 2).trans rfl; have hcz35_3 : w30.cell? ⟨gb186, 3, none⟩ = some (.bool a0_3) := (blk_cell BK186.out 3).trans rfl; have hcz35_4 : w30.cell? ⟨gb186, 4, none⟩ = some (.int .i64 a0_4) := (blk_cell BK186.out 4).trans rfl; have hcz35_5 : w30.cell? ⟨gb186, 5, none⟩ = some (.int .i64 a0_5) := (blk_cell BK186.out 5).trans rfl; have hcz35_6 : w30.cell? ⟨gb186, 6, none⟩ = some (.string a0_6) := (blk_cell BK186.out 6).trans rfl; have hcz35_7 : w30.cell? ⟨gb186, 7, none⟩ = some (.string a0_7) := (blk_cell BK186.out 7).trans rfl; have hfz35_0 := blk_frozen BK186.out 0; have hfz35_1 := blk_frozen BK186.out 1; have hfz35_2 := blk_frozen BK186.out 2; have hfz35_3 := blk_frozen BK186.out 3; have hfz35_4 := blk_frozen BK186.out 4; have hfz35_5 := blk_frozen BK186.out 5; have hfz35_6 := blk_frozen BK186.out 6; have hfz35_7 := blk_frozen BK186.out 7; have hczp_0 : w30.cell? ⟨gb187, 0, none⟩ = some (.string a1_0) := (blk_cell BK187.out 0).trans rfl; have hczp_1 : w30.cell? ⟨gb187, 1, none⟩ = some (.string a1_1) := (blk_cell BK187.out 1).trans rfl; have hfzp_0 := blk_frozen BK187.out 0; have hfzp_1 := blk_frozen BK187.out 1))
  have n0_ : Aside0 ((w30.setCell ⟨gb186, 7, none⟩ (.string a1_1)).heap[gb186]? = some (.cells #[.bool a0_0, .bool a0_1, .bool a0_2, .bool a0_3, .int .i64 a0_4, .int .i64 a0_5, .string a0_6, .string a1_1] 31 (0, 0))) := ⟨by (with_reducible repeat (first | refine blk_drewN ?_ _ | refine blk_drew ?_ | refine blk_alloc ?_ _)); refine blk_put (cs := #[.bool a0_0, .bool a0_1, .bool a0_2, .bool a0_3, .int .i64 a0_4, .int .i64 a0_5, .string a0_6, .string a0_7]) ?_ 7 _ rfl; (with_reducible repeat (first | refine blk_drewN ?_ _ | refine blk_drew ?_ | refine blk_alloc ?_ _)); exact BK186.out⟩
  have n1_ : Aside0 ((w30.setCell ⟨gb186, 7, none⟩ (.string a1_1)).heap[gb187]? = some (.cells #[.string a1_0, .string a1_1] 45 (0, 0))) := ⟨by (with_reducible repeat (first | refine blk_drewN ?_ _ | refine blk_drew ?_ | refine blk_alloc ?_ _ | refine blk_far ?_ NB187_186.out _)); exact BK187.out⟩
  have n2_ : Aside0 ((w30.setCell ⟨gb186, 7, none⟩ (.string a1_1)).heap[gb188]? = some (.cells #[.bool false, .bool false, .bool false, .bool false, .int .i64 0, .int .i64 0, .string (⟨#[]⟩ : ByteArray), .string (⟨#[]⟩ : ByteArray), .string (⟨#[]⟩ : ByteArray), .bool false] 63 (0, 0))) := ⟨by (with_reducible repeat (first | refine blk_drewN ?_ _ | refine blk_drew ?_ | refine blk_alloc ?_ _ | refine blk_far ?_ NB188_186.out _)); exact BK188.out⟩
  have n3_ : Aside0 (Below w.heap.size w (w30.setCell ⟨gb186, 7, none⟩ (.string a1_1))) := ⟨hb_ HB⟩
  (try clear BK186)
  (try clear BK187)
  (try clear BK188)
  (try clear HB)
  generalize (w30.setCell ⟨gb186, 7, none⟩ (.string a1_1)) = w36 at n0_ n1_ n2_ n3_ ⊢
  have BK186 := n0_
  have BK187 := n1_
  have BK188 := n2_
  have HB := n3_
  clear n0_ n1_ n2_ n3_
  have n0_ := Aside0.mk (blk_drew BK186.out)
  have n1_ := Aside0.mk (blk_drew BK187.out)
  have n2_ := Aside0.mk (blk_drew BK188.out)
  have n3_ := Aside0.mk (below_drew1 HB.out)
  clear BK186
  clear BK187
  clear BK188
  clear HB
  have BK186 := n0_
  have BK187 := n1_
  have BK188 := n2_
  have HB := n3_
  clear n0_ n1_ n2_ n3_
  refine start_ (n := 5) (S := fun w' => w'.cell? ⟨gb186, 0, none⟩ = some (.bool a0_0) ∧ w'.cell? ⟨gb186, 1, none⟩ = some (.bool a0_1) ∧ w'.cell? ⟨gb186, 2, none⟩ = some (.bool a0_2) ∧ w'.cell? ⟨gb186, 3, none⟩ = some (.bool a0_3) ∧ w'.cell? ⟨gb186, 4, none⟩ = some (.int .i64 a0_4) ∧ w'.cell? ⟨gb186, 5, none⟩ = some (.int .i64 a0_5) ∧ w'.cell? ⟨gb186, 6, none⟩ = some (.string a0_6) ∧ w'.cell? ⟨gb186, 7, none⟩ = some (.string a1_1)) (ds := []) d25x3 (by kernel_rfl) rfl rfl ⟨(blk_cell BK186.out 0).trans rfl, (blk_cell BK186.out 1).trans rfl, (blk_cell BK186.out 2).trans rfl, (blk_cell BK186.out 3).trans rfl, (blk_cell BK186.out 4).trans rfl, (blk_cell BK186.out 5).trans rfl, (blk_cell BK186.out 6).trans rfl, (blk_cell BK186.out 7).trans rfl⟩ (fun hHeld => ?_)
  generalize w36.drew = w37 at BK186 BK187 BK188 HB hHeld ⊢
  refine qon_ 1 (some 27) d25x9 ?_
  refine qtk_ 0 (some 26) d25x17 hHeld ?_
  refine one_ (i := 2) (N := some 28) d25x21 rfl rfl (by kernel_rfl) (by decide) (fun K hK => ?_)
  refine goes_ Tryd.func52 (by kernel_rfl) rfl #[.string a1_1] (by rfl) rfl rfl (by (try simp only [List.map_toArray, List.map_cons, List.map_nil]); first | done | rfl | (simp only [List.length_drop, List.length_take]; rfl)) ?_
  with_reducible refine (headgateref03_Iqn.calls k a1_1 t191 _ A27.out).mono ?_
  rintro e w' ⟨rfl, ⟨nd, rfl⟩⟩
  refine ⟨_, rfl, ?_⟩
  refine hK.out _ _ ⟨(blk_cell BK186.out 0).trans rfl, (blk_cell BK186.out 1).trans rfl, (blk_cell BK186.out 2).trans rfl, (blk_cell BK186.out 3).trans rfl, (blk_cell BK186.out 4).trans rfl, (blk_cell BK186.out 5).trans rfl, (blk_cell BK186.out 6).trans rfl, (blk_cell BK186.out 7).trans rfl⟩ (fun hHeld => ?_)
  clear hK K
  refine norm_ (a' := ?_) ?_ ?_
  rotate_left
  ·show Act.put _ (some 28) _ = _
   simp only [Act.put, la_, lb_, lc_, i64_w, i32_w]
   rfl
  refine qon_ 3 (some 29) d25x25 ?_
  refine one_ (i := 4) (N := none) d25x34 rfl rfl (by kernel_rfl) (by decide) (fun K hK => ?_)
  have hs38 : w37.cell? ⟨gb188, 0, none⟩ = some (.bool false) := (blk_cell BK188.out 0).trans rfl
  have hfs38 := blk_frozen BK188.out 0
  have hns38_0 := NB186_188.out
  have hns38_1 := NB187_188.out
  have hms38_0 := NB188_186.out
  have hms38_1 := NB188_187.out
  have hs39 : w37.cell? ⟨gb188, 1, none⟩ = some (.bool false) := (blk_cell BK188.out 1).trans rfl
  have hfs39 := blk_frozen BK188.out 1
  have hns39_0 := NB186_188.out
  have hns39_1 := NB187_188.out
  have hms39_0 := NB188_186.out
  have hms39_1 := NB188_187.out
  have hs40 : w37.cell? ⟨gb188, 2, none⟩ = some (.bool false) := (blk_cell BK188.out 2).trans rfl
  have hfs40 := blk_frozen BK188.out 2
  have hns40_0 := NB186_188.out
  have hns40_1 := NB187_188.out
  have hms40_0 := NB188_186.out
  have hms40_1 := NB188_187.out
  have hs41 : w37.cell? ⟨gb188, 3, none⟩ = some (.bool false) := (blk_cell BK188.out 3).trans rfl
  have hfs41 := blk_frozen BK188.out 3
  have hns41_0 := NB186_188.out
  have hns41_1 := NB187_188.out
  have hms41_0 := NB188_186.out
  have hms41_1 := NB188_187.out
  have hs42 : w37.cell? ⟨gb188, 4, none⟩ = some (.int .i64 0) := (blk_cell BK188.out 4).trans rfl
  have hfs42 := blk_frozen BK188.out 4
  have hns42_0 := NB186_188.out
  have hns42_1 := NB187_188.out
  have hms42_0 := NB188_186.out
  have hms42_1 := NB188_187.out
  have hs43 : w37.cell? ⟨gb188, 5, none⟩ = some (.int .i64 0) := (blk_cell BK188.out 5).trans rfl
  have hfs43 := blk_frozen BK188.out 5
  have hns43_0 := NB186_188.out
  have hns43_1 := NB187_188.out
  have hms43_0 := NB188_186.out
  have hms43_1 := NB188_187.out
  have hs44 : w37.cell? ⟨gb188, 6, none⟩ = some (.string (⟨#[]⟩ : ByteArray)) := (blk_cell BK188.out 6).trans rfl
  have hfs44 := blk_frozen BK188.out 6
  have hns44_0 := NB186_188.out
  have hns44_1 := NB187_188.out
  have hms44_0 := NB188_186.out
  have hms44_1 := NB188_187.out
  have hs45 : w37.cell? ⟨gb188, 7, none⟩ = some (.string (⟨#[]⟩ : ByteArray)) := (blk_cell BK188.out 7).trans rfl
  have hfs45 := blk_frozen BK188.out 7
  have hns45_0 := NB186_188.out
  have hns45_1 := NB187_188.out
  have hms45_0 := NB188_186.out
  have hms45_1 := NB188_187.out
  have hs46 : w37.cell? ⟨gb188, 8, none⟩ = some (.string (⟨#[]⟩ : ByteArray)) := (blk_cell BK188.out 8).trans rfl
  have hfs46 := blk_frozen BK188.out 8
  have hns46_0 := NB186_188.out
  have hns46_1 := NB187_188.out
  have hms46_0 := NB188_186.out
  have hms46_1 := NB188_187.out
  have hs47 : w37.cell? ⟨gb188, 9, none⟩ = some (.bool false) := (blk_cell BK188.out 9).trans rfl
  have hfs47 := blk_frozen BK188.out 9
  have hns47_0 := NB186_188.out
  have hns47_1 := NB187_188.out
  have hms47_0 := NB188_186.out
  have hms47_1 := NB188_187.out
  refine skip_ (w1 := ?_) (by rfl) rfl ?_ ?_
  rotate_left
  ·go_simp
   rfl
  refine hK.out _ _ ⟨((cell_far (p := ⟨gb188, _, none⟩) NB186_188.out _).trans (((cell_far (p := ⟨gb188, _, none⟩) NB186_188.out _).trans (((cell_far (p := ⟨gb188, _, none⟩) NB186_188.out _).trans (((cell_far (p := ⟨gb188, _, none⟩) NB186_188.out _).trans (((cell_far (p := ⟨gb188, _, none⟩) NB186_188.out _).trans (((cell_far (p := ⟨gb188, _, none⟩) NB186_188.out _).trans (((cell_far (p := ⟨gb188, _, none⟩) NB186_188.out _).trans (((cell_far (p := ⟨gb188, _, none⟩) NB186_188.out _).trans (((cell_far (p := ⟨gb188, _, none⟩) NB186_188.out _).trans (((cell_far (p := ⟨gb188, _, none⟩) NB186_188.out _).trans (hHeld.1)))))))))))))))))))), ((cell_far (p := ⟨gb188, _, none⟩) NB186_188.out _).trans (((cell_far (p := ⟨gb188, _, none⟩) NB186_188.out _).trans (((cell_far (p := ⟨gb188, _, none⟩) NB186_188.out _).trans (((cell_far (p := ⟨gb188, _, none⟩) NB186_188.out _).trans (((cell_far (p := ⟨gb188, _, none⟩) NB186_188.out _).trans (((cell_far (p := ⟨gb188, _, none⟩) NB186_188.out _).trans (((cell_far (p := ⟨gb188, _, none⟩) NB186_188.out _).trans (((cell_far (p := ⟨gb188, _, none⟩) NB186_188.out _).trans (((cell_far (p := ⟨gb188, _, none⟩) NB186_188.out _).trans (((cell_far (p := ⟨gb188, _, none⟩) NB186_188.out _).trans (hHeld.2.1)))))))))))))))))))), ((cell_far (p := ⟨gb188, _, none⟩) NB186_188.out _).trans (((cell_far (p := ⟨gb188, _, none⟩) NB186_188.out _).trans (((cell_far (p := ⟨gb188, _, none⟩) NB186_188.out _).trans (((cell_far (p := ⟨gb188, _, none⟩) NB186_188.out _).trans (((cell_far (p := ⟨gb188, _, none⟩) NB186_188.out _).trans (((cell_far (p := ⟨gb188, _, none⟩) NB186_188.out _).trans (((cell_far (p := ⟨gb188, _, none⟩) NB186_188.out _).trans (((cell_far (p := ⟨gb188, _, none⟩) NB186_188.out _).trans (((cell_far (p := ⟨gb188, _, none⟩) NB186_188.out _).trans (((cell_far (p := ⟨gb188, _, none⟩) NB186_188.out _).trans (hHeld.2.2.1)))))))))))))))))))), ((cell_far (p := ⟨gb188, _, none⟩) NB186_188.out _).trans (((cell_far (p := ⟨gb188, _, none⟩) NB186_188.out _).trans (((cell_far (p := ⟨gb188, _, none⟩) NB186_188.out _).trans (((cell_far (p := ⟨gb188, _, none⟩) NB186_188.out _).trans (((cell_far (p := ⟨gb188, _, none⟩) NB186_188.out _).trans (((cell_far (p := ⟨gb188, _, none⟩) NB186_188.out _).trans (((cell_far (p := ⟨gb188, _, none⟩) NB186_188.out _).trans (((cell_far (p := ⟨gb188, _, none⟩) NB186_188.out _).trans (((cell_far (p := ⟨gb188, _, none⟩) NB186_188.out _).trans (((cell_far (p := ⟨gb188, _, none⟩) NB186_188.out _).trans (hHeld.2.2.2.1)))))))))))))))))))), ((cell_far (p := ⟨gb188, _, none⟩) NB186_188.out _).trans (((cell_far (p := ⟨gb188, _, none⟩) NB186_188.out _).trans (((cell_far (p := ⟨gb188, _, none⟩) NB186_188.out _).trans (((cell_far (p := ⟨gb188, _, none⟩) NB186_188.out _).trans (((cell_far (p := ⟨gb188, _, none⟩) NB186_188.out _).trans (((cell_far (p := ⟨gb188, _, none⟩) NB186_188.out _).trans (((cell_far (p := ⟨gb188, _, none⟩) NB186_188.out _).trans (((cell_far (p := ⟨gb188, _, none⟩) NB186_188.out _).trans (((cell_far (p := ⟨gb188, _, none⟩) NB186_188.out _).trans (((cell_far (p := ⟨gb188, _, none⟩) NB186_188.out _).trans (hHeld.2.2.2.2.1)))))))))))))))))))), ((cell_far (p := ⟨gb188, _, none⟩) NB186_188.out _).trans (((cell_far (p := ⟨gb188, _, none⟩) NB186_188.out _).trans (((cell_far (p := ⟨gb188, _, none⟩) NB186_188.out _).trans (((cell_far (p := ⟨gb188, _, none⟩) NB186_188.out _).trans (((cell_far (p := ⟨gb188, _, none⟩) NB186_188.out _).trans (((cell_far (p := ⟨gb188, _, none⟩) NB186_188.out _).trans (((cell_far (p := ⟨gb188, _, none⟩) NB186_188.out _).trans (((cell_far (p := ⟨gb188, _, none⟩) NB186_188.out _).trans (((cell_far (p := ⟨gb188, _, none⟩) NB186_188.out _).trans (((cell_far (p := ⟨gb188, _, none⟩) NB186_188.out _).trans (hHeld.2.2.2.2.2.1)))))))))))))))))))), ((cell_far (p := ⟨gb188, _, none⟩) NB186_188.out _).trans (((cell_far (p := ⟨gb188, _, none⟩) NB186_188.out _).trans (((cell_far (p := ⟨gb188, _, none⟩) NB186_188.out _).trans (((cell_far (p := ⟨gb188, _, none⟩) NB186_188.out _).trans (((cell_far (p := ⟨gb188, _, none⟩) NB186_188.out _).trans (((cell_far (p := ⟨gb188, _, none⟩) NB186_188.out _).trans (((cell_far (p := ⟨gb188, _, none⟩) NB186_188.out _).trans (((cell_far (p := ⟨gb188, _, none⟩) NB186_188.out _).trans (((cell_far (p := ⟨gb188, _, none⟩) NB186_188.out _).trans (((cell_far (p := ⟨gb188, _, none⟩) NB186_188.out _).trans (hHeld.2.2.2.2.2.2.1)))))))))))))))))))), ((cell_far (p := ⟨gb188, _, none⟩) NB186_188.out _).trans (((cell_far (p := ⟨gb188, _, none⟩) NB186_188.out _).trans (((cell_far (p := ⟨gb188, _, none⟩) NB186_188.out _).trans (((cell_far (p := ⟨gb188, _, none⟩) NB186_188.out _).trans (((cell_far (p := ⟨gb188, _, none⟩) NB186_188.out _).trans (((cell_far (p := ⟨gb188, _, none⟩) NB186_188.out _).trans (((cell_far (p := ⟨gb188, _, none⟩) NB186_188.out _).trans (((cell_far (p := ⟨gb188, _, none⟩) NB186_188.out _).trans (((cell_far (p := ⟨gb188, _, none⟩) NB186_188.out _).trans (((cell_far (p := ⟨gb188, _, none⟩) NB186_188.out _).trans (hHeld.2.2.2.2.2.2.2))))))))))))))))))))⟩ (fun hHeld => ?_)
  clear hK K
  refine done_ (by kernel_rfl) ?_
  try go_wp2
  refine bodyPost_ret (results_cell_row rfl _ _ gb188 63 #[.bool a0_0, .bool a0_1, .bool a0_2, .bool a0_3, .int .i64 a0_4, .int .i64 a0_5, .string a0_6, .string a1_1, .string (⟨#[]⟩ : ByteArray), .bool t191] (0, 0) _ rfl (by (with_reducible repeat (first | refine blk_drewN ?_ _ | refine blk_drew ?_ | refine blk_alloc ?_ _)); refine blk_put (cs := #[.bool a0_0, .bool a0_1, .bool a0_2, .bool a0_3, .int .i64 a0_4, .int .i64 a0_5, .string a0_6, .string a1_1, .string (⟨#[]⟩ : ByteArray), .bool false]) ?_ 9 _ rfl; (with_reducible repeat (first | refine blk_drewN ?_ _ | refine blk_drew ?_ | refine blk_alloc ?_ _)); refine blk_put (cs := #[.bool a0_0, .bool a0_1, .bool a0_2, .bool a0_3, .int .i64 a0_4, .int .i64 a0_5, .string a0_6, .string a1_1, .string (⟨#[]⟩ : ByteArray), .bool false]) ?_ 8 _ rfl; (with_reducible repeat (first | refine blk_drewN ?_ _ | refine blk_drew ?_ | refine blk_alloc ?_ _)); refine blk_put (cs := #[.bool a0_0, .bool a0_1, .bool a0_2, .bool a0_3, .int .i64 a0_4, .int .i64 a0_5, .string a0_6, .string (⟨#[]⟩ : ByteArray), .string (⟨#[]⟩ : ByteArray), .bool false]) ?_ 7 _ rfl; (with_reducible repeat (first | refine blk_drewN ?_ _ | refine blk_drew ?_ | refine blk_alloc ?_ _)); refine blk_put (cs := #[.bool a0_0, .bool a0_1, .bool a0_2, .bool a0_3, .int .i64 a0_4, .int .i64 a0_5, .string (⟨#[]⟩ : ByteArray), .string (⟨#[]⟩ : ByteArray), .string (⟨#[]⟩ : ByteArray), .bool false]) ?_ 6 _ rfl; (with_reducible repeat (first | refine blk_drewN ?_ _ | refine blk_drew ?_ | refine blk_alloc ?_ _)); refine blk_put (cs := #[.bool a0_0, .bool a0_1, .bool a0_2, .bool a0_3, .int .i64 a0_4, .int .i64 0, .string (⟨#[]⟩ : ByteArray), .string (⟨#[]⟩ : ByteArray), .string (⟨#[]⟩ : ByteArray), .bool false]) ?_ 5 _ rfl; (with_reducible repeat (first | refine blk_drewN ?_ _ | refine blk_drew ?_ | refine blk_alloc ?_ _)); refine blk_put (cs := #[.bool a0_0, .bool a0_1, .bool a0_2, .bool a0_3, .int .i64 0, .int .i64 0, .string (⟨#[]⟩ : ByteArray), .string (⟨#[]⟩ : ByteArray), .string (⟨#[]⟩ : ByteArray), .bool false]) ?_ 4 _ rfl; (with_reducible repeat (first | refine blk_drewN ?_ _ | refine blk_drew ?_ | refine blk_alloc ?_ _)); refine blk_put (cs := #[.bool a0_0, .bool a0_1, .bool a0_2, .bool false, .int .i64 0, .int .i64 0, .string (⟨#[]⟩ : ByteArray), .string (⟨#[]⟩ : ByteArray), .string (⟨#[]⟩ : ByteArray), .bool false]) ?_ 3 _ rfl; (with_reducible repeat (first | refine blk_drewN ?_ _ | refine blk_drew ?_ | refine blk_alloc ?_ _)); refine blk_put (cs := #[.bool a0_0, .bool a0_1, .bool false, .bool false, .int .i64 0, .int .i64 0, .string (⟨#[]⟩ : ByteArray), .string (⟨#[]⟩ : ByteArray), .string (⟨#[]⟩ : ByteArray), .bool false]) ?_ 2 _ rfl; (with_reducible repeat (first | refine blk_drewN ?_ _ | refine blk_drew ?_ | refine blk_alloc ?_ _)); refine blk_put (cs := #[.bool a0_0, .bool false, .bool false, .bool false, .int .i64 0, .int .i64 0, .string (⟨#[]⟩ : ByteArray), .string (⟨#[]⟩ : ByteArray), .string (⟨#[]⟩ : ByteArray), .bool false]) ?_ 1 _ rfl; (with_reducible repeat (first | refine blk_drewN ?_ _ | refine blk_drew ?_ | refine blk_alloc ?_ _)); refine blk_put (cs := #[.bool false, .bool false, .bool false, .bool false, .int .i64 0, .int .i64 0, .string (⟨#[]⟩ : ByteArray), .string (⟨#[]⟩ : ByteArray), .string (⟨#[]⟩ : ByteArray), .bool false]) ?_ 0 _ rfl; (with_reducible repeat (first | refine blk_drewN ?_ _ | refine blk_drew ?_ | refine blk_alloc ?_ _)); exact BK188.out) Tryd.underlying63 rfl (by kernel_rfl)) rfl ?_
  exact ⟨by first | rfl | (simp [errW_none, errW_some] <;> rfl) | (simp [*, errW_none, errW_some] <;> rfl) | (simp [bt, *]; done) | (unfold bt; simp [*]; done), by repeat (first | (with_reducible first | exact HB.out | apply below_alloc | apply pw_below_drewN | apply below_drew1 | refine below_set ?_ GE186.out | refine below_set ?_ GE187.out | refine below_set ?_ GE188.out) | exact HB.out)⟩
 rw [if_neg c26] at H
 have c26b0 : (a1_0.toList == ([84, 97, 114, 103, 101, 116, 78, 97, 109, 101] : List UInt8)) = false := beq_eq_false_iff_ne.mpr c26
 have c26b1 : (a1_0.toList != ([84, 97, 114, 103, 101, 116, 78, 97, 109, 101] : List UInt8)) = true := bne_iff_ne.mpr c26
 by_cases c48 : a1_0.toList = ([83, 101, 115, 115, 105, 111, 110, 84, 121, 112, 101] : List UInt8)
 ·rw [if_pos c48] at H
  have c48b0 : (a1_0.toList == ([83, 101, 115, 115, 105, 111, 110, 84, 121, 112, 101] : List UInt8)) = true := beq_iff_eq.mpr c48
  have c48b1 : (a1_0.toList != ([83, 101, 115, 115, 105, 111, 110, 84, 121, 112, 101] : List UInt8)) = false := bne_eq_false_iff_eq.mpr c48
  clear c48
  simp only [Option.some.injEq, Prod.mk.injEq] at H
  obtain ⟨rfl, rfl, rfl, rfl, rfl, rfl, rfl, rfl, rfl, rfl⟩ := H
  go_enter Tryd.func25, Tryd.ntmps25
  go_wp2_with (first | ((with_reducible refine gate_dst (N := 2) rfl ?_); refine box_event ?hg (N := 2) ?hd (cs := #[.bool a0_0, .bool a0_1, .bool a0_2, .bool a0_3, .int .i64 a0_4, .int .i64 a0_5, .string a0_6, .string a0_7]) (t := 31) ?hr ?_; (case hd => rfl); (case hg => rfl); (case hr => first | (go_simp; done) | (go_simp; rfl)); intro gb186 hg w49 hbox hb; have n0_ := Aside0.mk (below_step (hb_ HB) hb); have n1_ := Aside0.mk (hbox); have n2_ := Aside0.mk ((by rw [hg]; exact (below_size (hb_ HB)) : w.heap.size ≤ gb186)); have n3_ := Aside0.mk ((by rw [hg]; exact (below_size (hb_ HB)) : w.heap.size ≤ gb186)); clear HB; have HB := n0_; have BK186 := n1_; have GW186 := n2_; have GE186 := n3_; clear n0_ n1_ n2_ n3_; clear hb hbox hg) | ((with_reducible refine gate_dst (N := 3) rfl ?_); refine box_event ?hg (N := 3) ?hd (cs := #[.string a1_0, .string a1_1]) (t := 45) ?hr ?_; (case hd => rfl); (case hg => rfl); (case hr => first | (go_simp; done) | (go_simp; rfl)); intro gb187 hg w50 hbox hb; have n0_ := Aside0.mk (blk_below (bk_ BK186) hb); have n1_ := Aside0.mk (below_step (hb_ HB) hb); have n2_ := Aside0.mk (hbox); have n3_ := Aside0.mk ((by rw [hg]; exact (below_size (hb_ HB)) : w.heap.size ≤ gb187)); have n4_ := Aside0.mk ((by rw [hg]; exact (below_size (hb_ HB)) : w.heap.size ≤ gb187)); have n5_ := Aside0.mk ((by rw [hg]; exact Nat.ne_of_lt (blk_lt (g := gb186) (o := .cells #[.bool a0_0, .bool a0_1, .bool a0_2, .bool a0_3, .int .i64 a0_4, .int .i64 a0_5, .string a0_6, .string a0_7] 31 (0, 0)) (bk_ BK186)) : gb186 ≠ gb187)); have n6_ := Aside0.mk ((by rw [hg]; exact Nat.ne_of_gt (blk_lt (g := gb186) (o := .cells #[.bool a0_0, .bool a0_1, .bool a0_2, .bool a0_3, .int .i64 a0_4, .int .i64 a0_5, .string a0_6, .string a0_7] 31 (0, 0)) (bk_ BK186)) : gb187 ≠ gb186)); clear BK186; clear HB; have BK186 := n0_; have HB := n1_; have BK187 := n2_; have GW187 := n3_; have GE187 := n4_; have NB186_187 := n5_; have NB187_186 := n6_; clear n0_ n1_ n2_ n3_ n4_ n5_ n6_; clear hb hbox hg) | ((with_reducible refine gate_dst (N := 4) rfl ?_); refine box_event ?hg (N := 4) ?hd (cs := #[.bool false, .bool false, .bool false, .bool false, .int .i64 0, .int .i64 0, .string (⟨#[]⟩ : ByteArray), .string (⟨#[]⟩ : ByteArray), .string (⟨#[]⟩ : ByteArray), .bool false]) (t := 63) ?hr ?_; (case hd => rfl); (case hg => rfl); (case hr => first | (go_simp; done) | (go_simp; rfl)); intro gb188 hg w51 hbox hb; have n0_ := Aside0.mk (blk_below (bk_ BK186) hb); have n1_ := Aside0.mk (blk_below (bk_ BK187) hb); have n2_ := Aside0.mk (below_step (hb_ HB) hb); have n3_ := Aside0.mk (hbox); have n4_ := Aside0.mk ((by rw [hg]; exact (below_size (hb_ HB)) : w.heap.size ≤ gb188)); have n5_ := Aside0.mk ((by rw [hg]; exact (below_size (hb_ HB)) : w.heap.size ≤ gb188)); have n6_ := Aside0.mk ((by rw [hg]; exact Nat.ne_of_lt (blk_lt (g := gb186) (o := .cells #[.bool a0_0, .bool a0_1, .bool a0_2, .bool a0_3, .int .i64 a0_4, .int .i64 a0_5, .string a0_6, .string a0_7] 31 (0, 0)) (bk_ BK186)) : gb186 ≠ gb188)); have n7_ := Aside0.mk ((by rw [hg]; exact Nat.ne_of_gt (blk_lt (g := gb186) (o := .cells #[.bool a0_0, .bool a0_1, .bool a0_2, .bool a0_3, .int .i64 a0_4, .int .i64 a0_5, .string a0_6, .string a0_7] 31 (0, 0)) (bk_ BK186)) : gb188 ≠ gb186)); have n8_ := Aside0.mk ((by rw [hg]; exact Nat.ne_of_lt (blk_lt (g := gb187) (o := .cells #[.string a1_0, .string a1_1] 45 (0, 0)) (bk_ BK187)) : gb187 ≠ gb188)); have n9_ := Aside0.mk ((by rw [hg]; exact Nat.ne_of_gt (blk_lt (g := gb187) (o := .cells #[.string a1_0, .string a1_1] 45 (0, 0)) (bk_ BK187)) : gb188 ≠ gb187)); clear BK186; clear BK187; clear HB; have BK186 := n0_; have BK187 := n1_; have HB := n2_; have BK188 := n3_; have GW188 := n4_; have GE188 := n5_; have NB186_188 := n6_; have NB188_186 := n7_; have NB187_188 := n8_; have NB188_187 := n9_; clear n0_ n1_ n2_ n3_ n4_ n5_ n6_ n7_ n8_ n9_; clear hb hbox hg; have hnb52 := NB187_186.out; have hnc52 := NB186_187.out; have hnb53 := NB187_188.out; have hnc53 := NB188_187.out; have hcz54_0 : w51.cell? ⟨gb187, 0, none⟩ = some (.string a1_0) := (blk_cell BK187.out 0).trans rfl; have hcz54_1 : w51.cell? ⟨gb187, 1, none⟩ = some (.string a1_1) := (blk_cell BK187.out 1).trans rfl; have hfz54_0 := blk_frozen BK187.out 0; have hfz54_1 := blk_frozen BK187.out 1) | ((with_reducible refine gate_callee (f := 51) rfl ?_); refine goesL_ (some 11) rfl rfl Tryd.func51 (by kernel_rfl) rfl #[.string a1_1] rfl (by (try simp only [List.map_toArray, List.map_cons, List.map_nil]); first | done | rfl | (simp only [List.length_drop, List.length_take]; rfl)) ?_; (with_reducible refine (headgateref21_number.calls k a1_1 t189 _ A3.out).mono ?_); rintro e w' ⟨rfl, ⟨nd, rfl⟩⟩; refine ⟨_, rfl, ?_⟩; (try (rw [drewN_self w51]; generalize hq_ : World.drewN w51 _ = w51; have n0_ : Aside0 (w51.heap[gb186]? = some (.cells #[.bool a0_0, .bool a0_1, .bool a0_2, .bool a0_3, .int .i64 a0_4, .int .i64 a0_5, .string a0_6, .string a0_7] 31 (0, 0))) := ⟨by rw [← hq_]; exact (bk_ BK186)⟩; have n1_ : Aside0 (w51.heap[gb187]? = some (.cells #[.string a1_0, .string a1_1] 45 (0, 0))) := ⟨by rw [← hq_]; exact (bk_ BK187)⟩; have n2_ : Aside0 (w51.heap[gb188]? = some (.cells #[.bool false, .bool false, .bool false, .bool false, .int .i64 0, .int .i64 0, .string (⟨#[]⟩ : ByteArray), .string (⟨#[]⟩ : ByteArray), .string (⟨#[]⟩ : ByteArray), .bool false] 63 (0, 0))) := ⟨by rw [← hq_]; exact (bk_ BK188)⟩; have n3_ : Aside0 (Below w.heap.size w w51) := ⟨by rw [← hq_]; exact (hb_ HB)⟩; clear BK186 BK187 BK188 HB hq_; have BK186 := n0_; have BK187 := n1_; have BK188 := n2_; have HB := n3_; clear n0_ n1_ n2_ n3_)); have hnb55 := NB186_188.out; have hnc55 := NB188_186.out; have hcz56_0 : w51.cell? ⟨gb186, 0, none⟩ = some (.bool a0_0) := (blk_cell BK186.out 0).trans rfl; have hcz56_1 : w51.cell? ⟨gb186, 1, none⟩ = some (.bool a0_1) := (blk_cell BK186.out 1).trans rfl; have hcz56_2 : w51.cell? ⟨gb186, 2, none⟩ = some (.bool a0_2) := (blk_cell BK186.out 2).trans rfl; have hcz56_3 : w51.cell? ⟨gb186, 3, none⟩ = some (.bool a0_3) := (blk_cell BK186.out 3).trans rfl; have hcz56_4 : w51.cell? ⟨gb186, 4, none⟩ = some (.int .i64 a0_4) := (blk_cell BK186.out 4).trans rfl; have hcz56_5 : w51.cell? ⟨gb186, 5, none⟩ = some (.int .i64 a0_5) := (blk_cell BK186.out 5).trans rfl; have hcz56_6 : w51.cell? ⟨gb186, 6, none⟩ = some (.string a0_6) := (blk_cell BK186.out 6).trans rfl; have hcz56_7 : w51.cell? ⟨gb186, 7, none⟩ = some (.string a0_7) := (blk_cell BK186.out 7).trans rfl; have hfz56_0 := blk_frozen BK186.out 0; have hfz56_1 := blk_frozen BK186.out 1; have hfz56_2 := blk_frozen BK186.out 2; have hfz56_3 := blk_frozen BK186.out 3; have hfz56_4 := blk_frozen BK186.out 4; have hfz56_5 := blk_frozen BK186.out 5; have hfz56_6 := blk_frozen BK186.out 6; have hfz56_7 := blk_frozen BK186.out 7; have hcz57_0 : w51.cell? ⟨gb188, 0, none⟩ = some (.bool false) := (blk_cell BK188.out 0).trans rfl; have hcz57_1 : w51.cell? ⟨gb188, 1, none⟩ = some (.bool false) := (blk_cell BK188.out 1).trans rfl; have hcz57_2 : w51.cell? ⟨gb188, 2, none⟩ = some (.bool false) := (blk_cell BK188.out 2).trans rfl; have hcz57_3 : w51.cell? ⟨gb188, 3, none⟩ = some (.bool false) := (blk_cell BK188.out 3).trans rfl; have hcz57_4 : w51.cell? ⟨gb188, 4, none⟩ = some (.int .i64 0) := (blk_cell BK188.out 4).trans rfl; have hcz57_5 : w51.cell? ⟨gb188, 5, none⟩ = some (.int .i64 0) := (blk_cell BK188.out 5).trans rfl; have hcz57_6 : w51.cell? ⟨gb188, 6, none⟩ = some (.string (⟨#[]⟩ : ByteArray)) := (blk_cell BK188.out 6).trans rfl; have hcz57_7 : w51.cell? ⟨gb188, 7, none⟩ = some (.string (⟨#[]⟩ : ByteArray)) := (blk_cell BK188.out 7).trans rfl; have hcz57_8 : w51.cell? ⟨gb188, 8, none⟩ = some (.string (⟨#[]⟩ : ByteArray)) := (blk_cell BK188.out 8).trans rfl; have hcz57_9 : w51.cell? ⟨gb188, 9, none⟩ = some (.bool false) := (blk_cell BK188.out 9).trans rfl; have hfz57_0 := blk_frozen BK188.out 0; have hfz57_1 := blk_frozen BK188.out 1; have hfz57_2 := blk_frozen BK188.out 2; have hfz57_3 := blk_frozen BK188.out 3; have hfz57_4 := blk_frozen BK188.out 4; have hfz57_5 := blk_frozen BK188.out 5; have hfz57_6 := blk_frozen BK188.out 6; have hfz57_7 := blk_frozen BK188.out 7; have hfz57_8 := blk_frozen BK188.out 8; have hfz57_9 := blk_frozen BK188.out 9; have hczp_0 : w51.cell? ⟨gb187, 0, none⟩ = some (.string a1_0) := (blk_cell BK187.out 0).trans rfl; have hczp_1 : w51.cell? ⟨gb187, 1, none⟩ = some (.string a1_1) := (blk_cell BK187.out 1).trans rfl; have hfzp_0 := blk_frozen BK187.out 0; have hfzp_1 := blk_frozen BK187.out 1))
  refine bodyPost_ret (results_cell_row rfl _ _ gb188 63 #[.bool a0_0, .bool a0_1, .bool a0_2, .bool a0_3, .int .i64 a0_4, .int .i64 a0_5, .string a0_6, .string a0_7, .string (⟨#[]⟩ : ByteArray), .bool (a1_1.toList == ([78, 111, 114, 109, 97, 108] : List UInt8))] (0, 0) _ rfl (by (with_reducible repeat (first | refine blk_drewN ?_ _ | refine blk_drew ?_ | refine blk_alloc ?_ _)); refine blk_put (cs := #[.bool a0_0, .bool a0_1, .bool a0_2, .bool a0_3, .int .i64 a0_4, .int .i64 a0_5, .string a0_6, .string a0_7, .string (⟨#[]⟩ : ByteArray), .bool false]) ?_ 9 _ rfl; (with_reducible repeat (first | refine blk_drewN ?_ _ | refine blk_drew ?_ | refine blk_alloc ?_ _)); refine blk_put (cs := #[.bool a0_0, .bool a0_1, .bool a0_2, .bool a0_3, .int .i64 a0_4, .int .i64 a0_5, .string a0_6, .string a0_7, .string (⟨#[]⟩ : ByteArray), .bool false]) ?_ 8 _ rfl; (with_reducible repeat (first | refine blk_drewN ?_ _ | refine blk_drew ?_ | refine blk_alloc ?_ _)); refine blk_put (cs := #[.bool a0_0, .bool a0_1, .bool a0_2, .bool a0_3, .int .i64 a0_4, .int .i64 a0_5, .string a0_6, .string (⟨#[]⟩ : ByteArray), .string (⟨#[]⟩ : ByteArray), .bool false]) ?_ 7 _ rfl; (with_reducible repeat (first | refine blk_drewN ?_ _ | refine blk_drew ?_ | refine blk_alloc ?_ _)); refine blk_put (cs := #[.bool a0_0, .bool a0_1, .bool a0_2, .bool a0_3, .int .i64 a0_4, .int .i64 a0_5, .string (⟨#[]⟩ : ByteArray), .string (⟨#[]⟩ : ByteArray), .string (⟨#[]⟩ : ByteArray), .bool false]) ?_ 6 _ rfl; (with_reducible repeat (first | refine blk_drewN ?_ _ | refine blk_drew ?_ | refine blk_alloc ?_ _)); refine blk_put (cs := #[.bool a0_0, .bool a0_1, .bool a0_2, .bool a0_3, .int .i64 a0_4, .int .i64 0, .string (⟨#[]⟩ : ByteArray), .string (⟨#[]⟩ : ByteArray), .string (⟨#[]⟩ : ByteArray), .bool false]) ?_ 5 _ rfl; (with_reducible repeat (first | refine blk_drewN ?_ _ | refine blk_drew ?_ | refine blk_alloc ?_ _)); refine blk_put (cs := #[.bool a0_0, .bool a0_1, .bool a0_2, .bool a0_3, .int .i64 0, .int .i64 0, .string (⟨#[]⟩ : ByteArray), .string (⟨#[]⟩ : ByteArray), .string (⟨#[]⟩ : ByteArray), .bool false]) ?_ 4 _ rfl; (with_reducible repeat (first | refine blk_drewN ?_ _ | refine blk_drew ?_ | refine blk_alloc ?_ _)); refine blk_put (cs := #[.bool a0_0, .bool a0_1, .bool a0_2, .bool false, .int .i64 0, .int .i64 0, .string (⟨#[]⟩ : ByteArray), .string (⟨#[]⟩ : ByteArray), .string (⟨#[]⟩ : ByteArray), .bool false]) ?_ 3 _ rfl; (with_reducible repeat (first | refine blk_drewN ?_ _ | refine blk_drew ?_ | refine blk_alloc ?_ _)); refine blk_put (cs := #[.bool a0_0, .bool a0_1, .bool false, .bool false, .int .i64 0, .int .i64 0, .string (⟨#[]⟩ : ByteArray), .string (⟨#[]⟩ : ByteArray), .string (⟨#[]⟩ : ByteArray), .bool false]) ?_ 2 _ rfl; (with_reducible repeat (first | refine blk_drewN ?_ _ | refine blk_drew ?_ | refine blk_alloc ?_ _)); refine blk_put (cs := #[.bool a0_0, .bool false, .bool false, .bool false, .int .i64 0, .int .i64 0, .string (⟨#[]⟩ : ByteArray), .string (⟨#[]⟩ : ByteArray), .string (⟨#[]⟩ : ByteArray), .bool false]) ?_ 1 _ rfl; (with_reducible repeat (first | refine blk_drewN ?_ _ | refine blk_drew ?_ | refine blk_alloc ?_ _)); refine blk_put (cs := #[.bool false, .bool false, .bool false, .bool false, .int .i64 0, .int .i64 0, .string (⟨#[]⟩ : ByteArray), .string (⟨#[]⟩ : ByteArray), .string (⟨#[]⟩ : ByteArray), .bool false]) ?_ 0 _ rfl; (with_reducible repeat (first | refine blk_drewN ?_ _ | refine blk_drew ?_ | refine blk_alloc ?_ _)); exact BK188.out) Tryd.underlying63 rfl (by kernel_rfl)) rfl ?_
  exact ⟨by first | rfl | (simp [errW_none, errW_some] <;> rfl) | (simp [*, errW_none, errW_some] <;> rfl) | (simp [bt, *]; done) | (unfold bt; simp [*]; done), by repeat (first | (with_reducible first | exact HB.out | apply below_alloc | apply pw_below_drewN | apply below_drew1 | refine below_set ?_ GE186.out | refine below_set ?_ GE187.out | refine below_set ?_ GE188.out) | exact HB.out)⟩
 rw [if_neg c48] at H
 have c48b0 : (a1_0.toList == ([83, 101, 115, 115, 105, 111, 110, 84, 121, 112, 101] : List UInt8)) = false := beq_eq_false_iff_ne.mpr c48
 have c48b1 : (a1_0.toList != ([83, 101, 115, 115, 105, 111, 110, 84, 121, 112, 101] : List UInt8)) = true := bne_iff_ne.mpr c48
 by_cases c58 : a1_0.toList = ([73, 110, 105, 116, 105, 97, 116, 111, 114, 65, 108, 105, 97, 115] : List UInt8)
 ·rw [if_pos c58] at H
  have c58b0 : (a1_0.toList == ([73, 110, 105, 116, 105, 97, 116, 111, 114, 65, 108, 105, 97, 115] : List UInt8)) = true := beq_iff_eq.mpr c58
  have c58b1 : (a1_0.toList != ([73, 110, 105, 116, 105, 97, 116, 111, 114, 65, 108, 105, 97, 115] : List UInt8)) = false := bne_eq_false_iff_eq.mpr c58
  clear c58
  replace H := Option.bind_eq_some_iff.mp H
  obtain ⟨⟨t192, t193, t194, t195, t196, t197, t198, t199, t200, t201⟩, A590, H⟩ := H
  try dsimp only at H
  have A59 := Aside0.mk A590
  clear A590
  simp only [Option.some.injEq, Prod.mk.injEq] at H
  obtain ⟨rfl, rfl, rfl, rfl, rfl, rfl, rfl, rfl, rfl, rfl⟩ := H
  go_enter Tryd.func25, Tryd.ntmps25
  go_wp2_with (first | ((with_reducible refine gate_dst (N := 2) rfl ?_); refine box_event ?hg (N := 2) ?hd (cs := #[.bool a0_0, .bool a0_1, .bool a0_2, .bool a0_3, .int .i64 a0_4, .int .i64 a0_5, .string a0_6, .string a0_7]) (t := 31) ?hr ?_; (case hd => rfl); (case hg => rfl); (case hr => first | (go_simp; done) | (go_simp; rfl)); intro gb186 hg w60 hbox hb; have n0_ := Aside0.mk (below_step (hb_ HB) hb); have n1_ := Aside0.mk (hbox); have n2_ := Aside0.mk ((by rw [hg]; exact (below_size (hb_ HB)) : w.heap.size ≤ gb186)); have n3_ := Aside0.mk ((by rw [hg]; exact (below_size (hb_ HB)) : w.heap.size ≤ gb186)); clear HB; have HB := n0_; have BK186 := n1_; have GW186 := n2_; have GE186 := n3_; clear n0_ n1_ n2_ n3_; clear hb hbox hg) | ((with_reducible refine gate_dst (N := 3) rfl ?_); refine box_event ?hg (N := 3) ?hd (cs := #[.string a1_0, .string a1_1]) (t := 45) ?hr ?_; (case hd => rfl); (case hg => rfl); (case hr => first | (go_simp; done) | (go_simp; rfl)); intro gb187 hg w61 hbox hb; have n0_ := Aside0.mk (blk_below (bk_ BK186) hb); have n1_ := Aside0.mk (below_step (hb_ HB) hb); have n2_ := Aside0.mk (hbox); have n3_ := Aside0.mk ((by rw [hg]; exact (below_size (hb_ HB)) : w.heap.size ≤ gb187)); have n4_ := Aside0.mk ((by rw [hg]; exact (below_size (hb_ HB)) : w.heap.size ≤ gb187)); have n5_ := Aside0.mk ((by rw [hg]; exact Nat.ne_of_lt (blk_lt (g := gb186) (o := .cells #[.bool a0_0, .bool a0_1, .bool a0_2, .bool a0_3, .int .i64 a0_4, .int .i64 a0_5, .string a0_6, .string a0_7] 31 (0, 0)) (bk_ BK186)) : gb186 ≠ gb187)); have n6_ := Aside0.mk ((by rw [hg]; exact Nat.ne_of_gt (blk_lt (g := gb186) (o := .cells #[.bool a0_0, .bool a0_1, .bool a0_2, .bool a0_3, .int .i64 a0_4, .int .i64 a0_5, .string a0_6, .string a0_7] 31 (0, 0)) (bk_ BK186)) : gb187 ≠ gb186)); clear BK186; clear HB; have BK186 := n0_; have HB := n1_; have BK187 := n2_; have GW187 := n3_; have GE187 := n4_; have NB186_187 := n5_; have NB187_186 := n6_; clear n0_ n1_ n2_ n3_ n4_ n5_ n6_; clear hb hbox hg) | ((with_reducible refine gate_dst (N := 4) rfl ?_); refine box_event ?hg (N := 4) ?hd (cs := #[.bool false, .bool false, .bool false, .bool false, .int .i64 0, .int .i64 0, .string (⟨#[]⟩ : ByteArray), .string (⟨#[]⟩ : ByteArray), .string (⟨#[]⟩ : ByteArray), .bool false]) (t := 63) ?hr ?_; (case hd => rfl); (case hg => rfl); (case hr => first | (go_simp; done) | (go_simp; rfl)); intro gb188 hg w62 hbox hb; have n0_ := Aside0.mk (blk_below (bk_ BK186) hb); have n1_ := Aside0.mk (blk_below (bk_ BK187) hb); have n2_ := Aside0.mk (below_step (hb_ HB) hb); have n3_ := Aside0.mk (hbox); have n4_ := Aside0.mk ((by rw [hg]; exact (below_size (hb_ HB)) : w.heap.size ≤ gb188)); have n5_ := Aside0.mk ((by rw [hg]; exact (below_size (hb_ HB)) : w.heap.size ≤ gb188)); have n6_ := Aside0.mk ((by rw [hg]; exact Nat.ne_of_lt (blk_lt (g := gb186) (o := .cells #[.bool a0_0, .bool a0_1, .bool a0_2, .bool a0_3, .int .i64 a0_4, .int .i64 a0_5, .string a0_6, .string a0_7] 31 (0, 0)) (bk_ BK186)) : gb186 ≠ gb188)); have n7_ := Aside0.mk ((by rw [hg]; exact Nat.ne_of_gt (blk_lt (g := gb186) (o := .cells #[.bool a0_0, .bool a0_1, .bool a0_2, .bool a0_3, .int .i64 a0_4, .int .i64 a0_5, .string a0_6, .string a0_7] 31 (0, 0)) (bk_ BK186)) : gb188 ≠ gb186)); have n8_ := Aside0.mk ((by rw [hg]; exact Nat.ne_of_lt (blk_lt (g := gb187) (o := .cells #[.string a1_0, .string a1_1] 45 (0, 0)) (bk_ BK187)) : gb187 ≠ gb188)); have n9_ := Aside0.mk ((by rw [hg]; exact Nat.ne_of_gt (blk_lt (g := gb187) (o := .cells #[.string a1_0, .string a1_1] 45 (0, 0)) (bk_ BK187)) : gb188 ≠ gb187)); clear BK186; clear BK187; clear HB; have BK186 := n0_; have BK187 := n1_; have HB := n2_; have BK188 := n3_; have GW188 := n4_; have GE188 := n5_; have NB186_188 := n6_; have NB188_186 := n7_; have NB187_188 := n8_; have NB188_187 := n9_; clear n0_ n1_ n2_ n3_ n4_ n5_ n6_ n7_ n8_ n9_; clear hb hbox hg; have hnb63 := NB187_186.out; have hnc63 := NB186_187.out; have hnb64 := NB187_188.out; have hnc64 := NB188_187.out; have hcz65_0 : w62.cell? ⟨gb187, 0, none⟩ = some (.string a1_0) := (blk_cell BK187.out 0).trans rfl; have hcz65_1 : w62.cell? ⟨gb187, 1, none⟩ = some (.string a1_1) := (blk_cell BK187.out 1).trans rfl; have hfz65_0 := blk_frozen BK187.out 0; have hfz65_1 := blk_frozen BK187.out 1) | ((with_reducible refine gate_callee (f := 51) rfl ?_); refine goesL_ (some 11) rfl rfl Tryd.func51 (by kernel_rfl) rfl #[.string a1_1] rfl (by (try simp only [List.map_toArray, List.map_cons, List.map_nil]); first | done | rfl | (simp only [List.length_drop, List.length_take]; rfl)) ?_; (with_reducible refine (headgateref21_number.calls k a1_1 t189 _ A3.out).mono ?_); rintro e w' ⟨rfl, ⟨nd, rfl⟩⟩; refine ⟨_, rfl, ?_⟩; (try (rw [drewN_self w62]; generalize hq_ : World.drewN w62 _ = w62; have n0_ : Aside0 (w62.heap[gb186]? = some (.cells #[.bool a0_0, .bool a0_1, .bool a0_2, .bool a0_3, .int .i64 a0_4, .int .i64 a0_5, .string a0_6, .string a0_7] 31 (0, 0))) := ⟨by rw [← hq_]; exact (bk_ BK186)⟩; have n1_ : Aside0 (w62.heap[gb187]? = some (.cells #[.string a1_0, .string a1_1] 45 (0, 0))) := ⟨by rw [← hq_]; exact (bk_ BK187)⟩; have n2_ : Aside0 (w62.heap[gb188]? = some (.cells #[.bool false, .bool false, .bool false, .bool false, .int .i64 0, .int .i64 0, .string (⟨#[]⟩ : ByteArray), .string (⟨#[]⟩ : ByteArray), .string (⟨#[]⟩ : ByteArray), .bool false] 63 (0, 0))) := ⟨by rw [← hq_]; exact (bk_ BK188)⟩; have n3_ : Aside0 (Below w.heap.size w w62) := ⟨by rw [← hq_]; exact (hb_ HB)⟩; clear BK186 BK187 BK188 HB hq_; have BK186 := n0_; have BK187 := n1_; have BK188 := n2_; have HB := n3_; clear n0_ n1_ n2_ n3_)); have hnb66 := NB186_188.out; have hnc66 := NB188_186.out; have hcz67_0 : w62.cell? ⟨gb186, 0, none⟩ = some (.bool a0_0) := (blk_cell BK186.out 0).trans rfl; have hcz67_1 : w62.cell? ⟨gb186, 1, none⟩ = some (.bool a0_1) := (blk_cell BK186.out 1).trans rfl; have hcz67_2 : w62.cell? ⟨gb186, 2, none⟩ = some (.bool a0_2) := (blk_cell BK186.out 2).trans rfl; have hcz67_3 : w62.cell? ⟨gb186, 3, none⟩ = some (.bool a0_3) := (blk_cell BK186.out 3).trans rfl; have hcz67_4 : w62.cell? ⟨gb186, 4, none⟩ = some (.int .i64 a0_4) := (blk_cell BK186.out 4).trans rfl; have hcz67_5 : w62.cell? ⟨gb186, 5, none⟩ = some (.int .i64 a0_5) := (blk_cell BK186.out 5).trans rfl; have hcz67_6 : w62.cell? ⟨gb186, 6, none⟩ = some (.string a0_6) := (blk_cell BK186.out 6).trans rfl; have hcz67_7 : w62.cell? ⟨gb186, 7, none⟩ = some (.string a0_7) := (blk_cell BK186.out 7).trans rfl; have hfz67_0 := blk_frozen BK186.out 0; have hfz67_1 := blk_frozen BK186.out 1; have hfz67_2 := blk_frozen BK186.out 2; have hfz67_3 := blk_frozen BK186.out 3; have hfz67_4 := blk_frozen BK186.out 4; have hfz67_5 := blk_frozen BK186.out 5; have hfz67_6 := blk_frozen BK186.out 6; have hfz67_7 := blk_frozen BK186.out 7; have hczp_0 : w62.cell? ⟨gb187, 0, none⟩ = some (.string a1_0) := (blk_cell BK187.out 0).trans rfl; have hczp_1 : w62.cell? ⟨gb187, 1, none⟩ = some (.string a1_1) := (blk_cell BK187.out 1).trans rfl; have hfzp_0 := blk_frozen BK187.out 0; have hfzp_1 := blk_frozen BK187.out 1) | ((with_reducible refine gate_callee (f := 53) rfl ?_); refine goesL_ (some 39) rfl rfl Tryd.func53 (by kernel_rfl) rfl #[.agg #[.bool a0_0, .bool a0_1, .bool a0_2, .bool a0_3, .int .i64 a0_4, .int .i64 a0_5, .string a0_6, .string a0_7], .string (⟨#[]⟩ : ByteArray)] rfl (by (try simp only [List.map_toArray, List.map_cons, List.map_nil]); first | done | rfl | (simp only [List.length_drop, List.length_take]; rfl)) ?_; (with_reducible refine (headgateref21_ok.calls a0_0 a0_1 a0_2 a0_3 a0_4 a0_5 a0_6 a0_7 (⟨#[]⟩ : ByteArray) t192 t193 t194 t195 t196 t197 t198 t199 t200 t201 _ A59.out).mono ?_); rintro e w68 ⟨rfl, hb⟩; refine ⟨_, rfl, ?_⟩; have n0_ := Aside0.mk (blk_below (bk_ BK186) hb); have n1_ := Aside0.mk (blk_below (bk_ BK187) hb); have n2_ := Aside0.mk (blk_below (bk_ BK188) hb); have n3_ := Aside0.mk (below_step (hb_ HB) hb); clear BK186; clear BK187; clear BK188; clear HB; have BK186 := n0_; have BK187 := n1_; have BK188 := n2_; have HB := n3_; clear n0_ n1_ n2_ n3_; (try clear hb); (try clear hb2); (try clear hk); (try clear hi); have hcz69_0 : w68.cell? ⟨gb188, 0, none⟩ = some (.bool false) := (blk_cell BK188.out 0).trans rfl; have hcz69_1 : w68.cell? ⟨gb188, 1, none⟩ = some (.bool false) := (blk_cell BK188.out 1).trans rfl; have hcz69_2 : w68.cell? ⟨gb188, 2, none⟩ = some (.bool false) := (blk_cell BK188.out 2).trans rfl; have hcz69_3 : w68.cell? ⟨gb188, 3, none⟩ = some (.bool false) := (blk_cell BK188.out 3).trans rfl; have hcz69_4 : w68.cell? ⟨gb188, 4, none⟩ = some (.int .i64 0) := (blk_cell BK188.out 4).trans rfl; have hcz69_5 : w68.cell? ⟨gb188, 5, none⟩ = some (.int .i64 0) := (blk_cell BK188.out 5).trans rfl; have hcz69_6 : w68.cell? ⟨gb188, 6, none⟩ = some (.string (⟨#[]⟩ : ByteArray)) := (blk_cell BK188.out 6).trans rfl; have hcz69_7 : w68.cell? ⟨gb188, 7, none⟩ = some (.string (⟨#[]⟩ : ByteArray)) := (blk_cell BK188.out 7).trans rfl; have hcz69_8 : w68.cell? ⟨gb188, 8, none⟩ = some (.string (⟨#[]⟩ : ByteArray)) := (blk_cell BK188.out 8).trans rfl; have hcz69_9 : w68.cell? ⟨gb188, 9, none⟩ = some (.bool false) := (blk_cell BK188.out 9).trans rfl; have hfz69_0 := blk_frozen BK188.out 0; have hfz69_1 := blk_frozen BK188.out 1; have hfz69_2 := blk_frozen BK188.out 2; have hfz69_3 := blk_frozen BK188.out 3; have hfz69_4 := blk_frozen BK188.out 4; have hfz69_5 := blk_frozen BK188.out 5; have hfz69_6 := blk_frozen BK188.out 6; have hfz69_7 := blk_frozen BK188.out 7; have hfz69_8 := blk_frozen BK188.out 8; have hfz69_9 := blk_frozen BK188.out 9))
  refine bodyPost_ret (results_cell_row rfl _ _ gb188 63 #[.bool t192, .bool t193, .bool t194, .bool t195, .int .i64 t196, .int .i64 t197, .string t198, .string t199, .string t200, .bool t201] (0, 0) _ rfl (by (with_reducible repeat (first | refine blk_drewN ?_ _ | refine blk_drew ?_ | refine blk_alloc ?_ _)); refine blk_put (cs := #[.bool t192, .bool t193, .bool t194, .bool t195, .int .i64 t196, .int .i64 t197, .string t198, .string t199, .string t200, .bool false]) ?_ 9 _ rfl; (with_reducible repeat (first | refine blk_drewN ?_ _ | refine blk_drew ?_ | refine blk_alloc ?_ _)); refine blk_put (cs := #[.bool t192, .bool t193, .bool t194, .bool t195, .int .i64 t196, .int .i64 t197, .string t198, .string t199, .string (⟨#[]⟩ : ByteArray), .bool false]) ?_ 8 _ rfl; (with_reducible repeat (first | refine blk_drewN ?_ _ | refine blk_drew ?_ | refine blk_alloc ?_ _)); refine blk_put (cs := #[.bool t192, .bool t193, .bool t194, .bool t195, .int .i64 t196, .int .i64 t197, .string t198, .string (⟨#[]⟩ : ByteArray), .string (⟨#[]⟩ : ByteArray), .bool false]) ?_ 7 _ rfl; (with_reducible repeat (first | refine blk_drewN ?_ _ | refine blk_drew ?_ | refine blk_alloc ?_ _)); refine blk_put (cs := #[.bool t192, .bool t193, .bool t194, .bool t195, .int .i64 t196, .int .i64 t197, .string (⟨#[]⟩ : ByteArray), .string (⟨#[]⟩ : ByteArray), .string (⟨#[]⟩ : ByteArray), .bool false]) ?_ 6 _ rfl; (with_reducible repeat (first | refine blk_drewN ?_ _ | refine blk_drew ?_ | refine blk_alloc ?_ _)); refine blk_put (cs := #[.bool t192, .bool t193, .bool t194, .bool t195, .int .i64 t196, .int .i64 0, .string (⟨#[]⟩ : ByteArray), .string (⟨#[]⟩ : ByteArray), .string (⟨#[]⟩ : ByteArray), .bool false]) ?_ 5 _ rfl; (with_reducible repeat (first | refine blk_drewN ?_ _ | refine blk_drew ?_ | refine blk_alloc ?_ _)); refine blk_put (cs := #[.bool t192, .bool t193, .bool t194, .bool t195, .int .i64 0, .int .i64 0, .string (⟨#[]⟩ : ByteArray), .string (⟨#[]⟩ : ByteArray), .string (⟨#[]⟩ : ByteArray), .bool false]) ?_ 4 _ rfl; (with_reducible repeat (first | refine blk_drewN ?_ _ | refine blk_drew ?_ | refine blk_alloc ?_ _)); refine blk_put (cs := #[.bool t192, .bool t193, .bool t194, .bool false, .int .i64 0, .int .i64 0, .string (⟨#[]⟩ : ByteArray), .string (⟨#[]⟩ : ByteArray), .string (⟨#[]⟩ : ByteArray), .bool false]) ?_ 3 _ rfl; (with_reducible repeat (first | refine blk_drewN ?_ _ | refine blk_drew ?_ | refine blk_alloc ?_ _)); refine blk_put (cs := #[.bool t192, .bool t193, .bool false, .bool false, .int .i64 0, .int .i64 0, .string (⟨#[]⟩ : ByteArray), .string (⟨#[]⟩ : ByteArray), .string (⟨#[]⟩ : ByteArray), .bool false]) ?_ 2 _ rfl; (with_reducible repeat (first | refine blk_drewN ?_ _ | refine blk_drew ?_ | refine blk_alloc ?_ _)); refine blk_put (cs := #[.bool t192, .bool false, .bool false, .bool false, .int .i64 0, .int .i64 0, .string (⟨#[]⟩ : ByteArray), .string (⟨#[]⟩ : ByteArray), .string (⟨#[]⟩ : ByteArray), .bool false]) ?_ 1 _ rfl; (with_reducible repeat (first | refine blk_drewN ?_ _ | refine blk_drew ?_ | refine blk_alloc ?_ _)); refine blk_put (cs := #[.bool false, .bool false, .bool false, .bool false, .int .i64 0, .int .i64 0, .string (⟨#[]⟩ : ByteArray), .string (⟨#[]⟩ : ByteArray), .string (⟨#[]⟩ : ByteArray), .bool false]) ?_ 0 _ rfl; (with_reducible repeat (first | refine blk_drewN ?_ _ | refine blk_drew ?_ | refine blk_alloc ?_ _)); exact BK188.out) Tryd.underlying63 rfl (by kernel_rfl)) rfl ?_
  exact ⟨by first | rfl | (simp [errW_none, errW_some] <;> rfl) | (simp [*, errW_none, errW_some] <;> rfl) | (simp [bt, *]; done) | (unfold bt; simp [*]; done), by repeat (first | (with_reducible first | exact HB.out | apply below_alloc | apply pw_below_drewN | apply below_drew1 | refine below_set ?_ GE186.out | refine below_set ?_ GE187.out | refine below_set ?_ GE188.out) | exact HB.out)⟩
 rw [if_neg c58] at H
 have c58b0 : (a1_0.toList == ([73, 110, 105, 116, 105, 97, 116, 111, 114, 65, 108, 105, 97, 115] : List UInt8)) = false := beq_eq_false_iff_ne.mpr c58
 have c58b1 : (a1_0.toList != ([73, 110, 105, 116, 105, 97, 116, 111, 114, 65, 108, 105, 97, 115] : List UInt8)) = true := bne_iff_ne.mpr c58
 have HC70 := Aside0.mk H
 clear H
 go_enter Tryd.func25, Tryd.ntmps25
 go_upto_if 40 with (first | ((with_reducible refine gate_dst (N := 2) rfl ?_); refine box_event ?hg (N := 2) ?hd (cs := #[.bool a0_0, .bool a0_1, .bool a0_2, .bool a0_3, .int .i64 a0_4, .int .i64 a0_5, .string a0_6, .string a0_7]) (t := 31) ?hr ?_; (case hd => rfl); (case hg => rfl); (case hr => first | (go_simp; done) | (go_simp; rfl)); intro gb186 hg w71 hbox hb; have n0_ := Aside0.mk (below_step (hb_ HB) hb); have n1_ := Aside0.mk (hbox); have n2_ := Aside0.mk ((by rw [hg]; exact (below_size (hb_ HB)) : w.heap.size ≤ gb186)); have n3_ := Aside0.mk ((by rw [hg]; exact (below_size (hb_ HB)) : w.heap.size ≤ gb186)); clear HB; have HB := n0_; have BK186 := n1_; have GW186 := n2_; have GE186 := n3_; clear n0_ n1_ n2_ n3_; clear hb hbox hg) | ((with_reducible refine gate_dst (N := 3) rfl ?_); refine box_event ?hg (N := 3) ?hd (cs := #[.string a1_0, .string a1_1]) (t := 45) ?hr ?_; (case hd => rfl); (case hg => rfl); (case hr => first | (go_simp; done) | (go_simp; rfl)); intro gb187 hg w72 hbox hb; have n0_ := Aside0.mk (blk_below (bk_ BK186) hb); have n1_ := Aside0.mk (below_step (hb_ HB) hb); have n2_ := Aside0.mk (hbox); have n3_ := Aside0.mk ((by rw [hg]; exact (below_size (hb_ HB)) : w.heap.size ≤ gb187)); have n4_ := Aside0.mk ((by rw [hg]; exact (below_size (hb_ HB)) : w.heap.size ≤ gb187)); have n5_ := Aside0.mk ((by rw [hg]; exact Nat.ne_of_lt (blk_lt (g := gb186) (o := .cells #[.bool a0_0, .bool a0_1, .bool a0_2, .bool a0_3, .int .i64 a0_4, .int .i64 a0_5, .string a0_6, .string a0_7] 31 (0, 0)) (bk_ BK186)) : gb186 ≠ gb187)); have n6_ := Aside0.mk ((by rw [hg]; exact Nat.ne_of_gt (blk_lt (g := gb186) (o := .cells #[.bool a0_0, .bool a0_1, .bool a0_2, .bool a0_3, .int .i64 a0_4, .int .i64 a0_5, .string a0_6, .string a0_7] 31 (0, 0)) (bk_ BK186)) : gb187 ≠ gb186)); clear BK186; clear HB; have BK186 := n0_; have HB := n1_; have BK187 := n2_; have GW187 := n3_; have GE187 := n4_; have NB186_187 := n5_; have NB187_186 := n6_; clear n0_ n1_ n2_ n3_ n4_ n5_ n6_; clear hb hbox hg) | ((with_reducible refine gate_dst (N := 4) rfl ?_); refine box_event ?hg (N := 4) ?hd (cs := #[.bool false, .bool false, .bool false, .bool false, .int .i64 0, .int .i64 0, .string (⟨#[]⟩ : ByteArray), .string (⟨#[]⟩ : ByteArray), .string (⟨#[]⟩ : ByteArray), .bool false]) (t := 63) ?hr ?_; (case hd => rfl); (case hg => rfl); (case hr => first | (go_simp; done) | (go_simp; rfl)); intro gb188 hg w73 hbox hb; have n0_ := Aside0.mk (blk_below (bk_ BK186) hb); have n1_ := Aside0.mk (blk_below (bk_ BK187) hb); have n2_ := Aside0.mk (below_step (hb_ HB) hb); have n3_ := Aside0.mk (hbox); have n4_ := Aside0.mk ((by rw [hg]; exact (below_size (hb_ HB)) : w.heap.size ≤ gb188)); have n5_ := Aside0.mk ((by rw [hg]; exact (below_size (hb_ HB)) : w.heap.size ≤ gb188)); have n6_ := Aside0.mk ((by rw [hg]; exact Nat.ne_of_lt (blk_lt (g := gb186) (o := .cells #[.bool a0_0, .bool a0_1, .bool a0_2, .bool a0_3, .int .i64 a0_4, .int .i64 a0_5, .string a0_6, .string a0_7] 31 (0, 0)) (bk_ BK186)) : gb186 ≠ gb188)); have n7_ := Aside0.mk ((by rw [hg]; exact Nat.ne_of_gt (blk_lt (g := gb186) (o := .cells #[.bool a0_0, .bool a0_1, .bool a0_2, .bool a0_3, .int .i64 a0_4, .int .i64 a0_5, .string a0_6, .string a0_7] 31 (0, 0)) (bk_ BK186)) : gb188 ≠ gb186)); have n8_ := Aside0.mk ((by rw [hg]; exact Nat.ne_of_lt (blk_lt (g := gb187) (o := .cells #[.string a1_0, .string a1_1] 45 (0, 0)) (bk_ BK187)) : gb187 ≠ gb188)); have n9_ := Aside0.mk ((by rw [hg]; exact Nat.ne_of_gt (blk_lt (g := gb187) (o := .cells #[.string a1_0, .string a1_1] 45 (0, 0)) (bk_ BK187)) : gb188 ≠ gb187)); clear BK186; clear BK187; clear HB; have BK186 := n0_; have BK187 := n1_; have HB := n2_; have BK188 := n3_; have GW188 := n4_; have GE188 := n5_; have NB186_188 := n6_; have NB188_186 := n7_; have NB187_188 := n8_; have NB188_187 := n9_; clear n0_ n1_ n2_ n3_ n4_ n5_ n6_ n7_ n8_ n9_; clear hb hbox hg; have hnb74 := NB187_186.out; have hnc74 := NB186_187.out; have hnb75 := NB187_188.out; have hnc75 := NB188_187.out; have hcz76_0 : w73.cell? ⟨gb187, 0, none⟩ = some (.string a1_0) := (blk_cell BK187.out 0).trans rfl; have hcz76_1 : w73.cell? ⟨gb187, 1, none⟩ = some (.string a1_1) := (blk_cell BK187.out 1).trans rfl; have hfz76_0 := blk_frozen BK187.out 0; have hfz76_1 := blk_frozen BK187.out 1) | ((with_reducible refine gate_callee (f := 51) rfl ?_); refine goesL_ (some 11) rfl rfl Tryd.func51 (by kernel_rfl) rfl #[.string a1_1] rfl (by (try simp only [List.map_toArray, List.map_cons, List.map_nil]); first | done | rfl | (simp only [List.length_drop, List.length_take]; rfl)) ?_; (with_reducible refine (headgateref21_number.calls k a1_1 t189 _ A3.out).mono ?_); rintro e w' ⟨rfl, ⟨nd, rfl⟩⟩; refine ⟨_, rfl, ?_⟩))
 (try simp only [Act.put, la_, lb_, lc_])
 go_cut [40] (fun v40 wc => ∃ (kq : Nat) (x40_69 : Bool), v40 = .bool x40_69 ∧ Aside0 (headgateref21_one.j0 kq a1_1 t189 a1_0 x40_69 a0_0 a0_1 a0_2 a0_3 a0_4 a0_5 a0_6 a0_7 a1_0 a1_1 = some (r1, r2, r3, r4, r5, r6, r7, r8, r9, r10)) ∧ Aside0 (kq ≤ k) ∧ Aside0 (wc.heap[gb186]? = some (.cells #[.bool a0_0, .bool a0_1, .bool a0_2, .bool a0_3, .int .i64 a0_4, .int .i64 a0_5, .string a0_6, .string a0_7] 31 (0, 0))) ∧ Aside0 (wc.heap[gb187]? = some (.cells #[.string a1_0, .string a1_1] 45 (0, 0))) ∧ Aside0 (wc.heap[gb188]? = some (.cells #[.bool false, .bool false, .bool false, .bool false, .int .i64 0, .int .i64 0, .string (⟨#[]⟩ : ByteArray), .string (⟨#[]⟩ : ByteArray), .string (⟨#[]⟩ : ByteArray), .bool false] 63 (0, 0))) ∧ Aside0 (Below w.heap.size w wc))
 case first =>
  have H := HC70.out
  clear HC70
  refine neg_first (p := (a1_0.toList = ([72, 101, 97, 100, 101, 114, 68, 105, 103, 101, 115, 116] : List UInt8))) (fun c77 => ?_) (fun c77 => ?_)
  ·rw [if_neg c77] at H
   have c77b0 : (a1_0.toList == ([72, 101, 97, 100, 101, 114, 68, 105, 103, 101, 115, 116] : List UInt8)) = false := beq_eq_false_iff_ne.mpr c77
   have c77b1 : (a1_0.toList != ([72, 101, 97, 100, 101, 114, 68, 105, 103, 101, 115, 116] : List UInt8)) = true := bne_iff_ne.mpr c77
   (first | rw [c77b0] | (simp only [i64_w, i32_w]; rw [c77b0]) | skip)
   have H' := Aside0.mk H
   clear H
   go_wp2
   go_meet
   case rel => exact ⟨_, ((a1_0.toList == ([68, 97, 116, 97, 68, 105, 103, 101, 115, 116] : List UInt8))), (by first | rfl | (simp; done) | (simp [*]; done)), H', ⟨by first | omega | exact Nat.le_refl _⟩, ⟨bk_ BK186⟩, ⟨bk_ BK187⟩, ⟨bk_ BK188⟩, ⟨hb_ HB⟩⟩
  rw [if_pos c77] at H
  have c77b0 : (a1_0.toList == ([72, 101, 97, 100, 101, 114, 68, 105, 103, 101, 115, 116] : List UInt8)) = true := beq_iff_eq.mpr c77
  have c77b1 : (a1_0.toList != ([72, 101, 97, 100, 101, 114, 68, 105, 103, 101, 115, 116] : List UInt8)) = false := bne_eq_false_iff_eq.mpr c77
  clear c77
  (first | rw [c77b0] | (simp only [i64_w, i32_w]; rw [c77b0]) | skip)
  have H' := Aside0.mk H
  clear H
  go_wp2
  go_meet
  case rel => exact ⟨_, ((a1_0.toList == ([72, 101, 97, 100, 101, 114, 68, 105, 103, 101, 115, 116] : List UInt8))), (by first | rfl | (simp; done) | (simp [*]; done)), H', ⟨by first | omega | exact Nat.le_refl _⟩, ⟨bk_ BK186⟩, ⟨bk_ BK187⟩, ⟨bk_ BK188⟩, ⟨hb_ HB⟩⟩
 case rest =>
  clear HC70
  try clear c1
  try clear c2
  try clear p2
  try clear c3
  try clear c4
  try clear c4b0
  try clear c4b1
  try clear c5
  try clear c6
  try clear c7
  try clear c9
  try clear c10
  try clear c12
  try clear c25
  try clear c26
  try clear c26b0
  try clear c26b1
  try clear c31
  try clear c32
  try clear c34
  try clear c48
  try clear c48b0
  try clear c48b1
  try clear c51
  try clear c52
  try clear c53
  try clear c55
  try clear c58
  try clear c58b0
  try clear c58b1
  try clear c63
  try clear c64
  try clear c66
  try clear c74
  try clear c75
  try clear c77
  try clear c77b0
  try clear c77b1
  try clear hcz11_0
  try clear hcz11_1
  try clear hcz13_0
  try clear hcz13_1
  try clear hcz13_2
  try clear hcz13_3
  try clear hcz13_4
  try clear hcz13_5
  try clear hcz13_6
  try clear hcz13_7
  try clear hcz33_0
  try clear hcz33_1
  try clear hcz35_0
  try clear hcz35_1
  try clear hcz35_2
  try clear hcz35_3
  try clear hcz35_4
  try clear hcz35_5
  try clear hcz35_6
  try clear hcz35_7
  try clear hcz54_0
  try clear hcz54_1
  try clear hcz56_0
  try clear hcz56_1
  try clear hcz56_2
  try clear hcz56_3
  try clear hcz56_4
  try clear hcz56_5
  try clear hcz56_6
  try clear hcz56_7
  try clear hcz57_0
  try clear hcz57_1
  try clear hcz57_2
  try clear hcz57_3
  try clear hcz57_4
  try clear hcz57_5
  try clear hcz57_6
  try clear hcz57_7
  try clear hcz57_8
  try clear hcz57_9
  try clear hcz65_0
  try clear hcz65_1
  try clear hcz67_0
  try clear hcz67_1
  try clear hcz67_2
  try clear hcz67_3
  try clear hcz67_4
  try clear hcz67_5
  try clear hcz67_6
  try clear hcz67_7
  try clear hcz69_0
  try clear hcz69_1
  try clear hcz69_2
  try clear hcz69_3
  try clear hcz69_4
  try clear hcz69_5
  try clear hcz69_6
  try clear hcz69_7
  try clear hcz69_8
  try clear hcz69_9
  try clear hcz76_0
  try clear hcz76_1
  try clear hfz11_0
  try clear hfz11_1
  try clear hfz13_0
  try clear hfz13_1
  try clear hfz13_2
  try clear hfz13_3
  try clear hfz13_4
  try clear hfz13_5
  try clear hfz13_6
  try clear hfz13_7
  try clear hfz33_0
  try clear hfz33_1
  try clear hfz35_0
  try clear hfz35_1
  try clear hfz35_2
  try clear hfz35_3
  try clear hfz35_4
  try clear hfz35_5
  try clear hfz35_6
  try clear hfz35_7
  try clear hfz54_0
  try clear hfz54_1
  try clear hfz56_0
  try clear hfz56_1
  try clear hfz56_2
  try clear hfz56_3
  try clear hfz56_4
  try clear hfz56_5
  try clear hfz56_6
  try clear hfz56_7
  try clear hfz57_0
  try clear hfz57_1
  try clear hfz57_2
  try clear hfz57_3
  try clear hfz57_4
  try clear hfz57_5
  try clear hfz57_6
  try clear hfz57_7
  try clear hfz57_8
  try clear hfz57_9
  try clear hfz65_0
  try clear hfz65_1
  try clear hfz67_0
  try clear hfz67_1
  try clear hfz67_2
  try clear hfz67_3
  try clear hfz67_4
  try clear hfz67_5
  try clear hfz67_6
  try clear hfz67_7
  try clear hfz69_0
  try clear hfz69_1
  try clear hfz69_2
  try clear hfz69_3
  try clear hfz69_4
  try clear hfz69_5
  try clear hfz69_6
  try clear hfz69_7
  try clear hfz69_8
  try clear hfz69_9
  try clear hfz76_0
  try clear hfz76_1
  obtain ⟨kq, x40_69, rfl, HA, HJ69, BK186, BK187, BK188, HB⟩ := hcut
  cases kq with
  | zero => exact absurd HA.out (by simp [headgateref21_one.j0])
  | succ kj69 =>
   have H := HA.out
   clear HA
   simp only [headgateref21_one.j0] at H
   by_cases c78 : x40_69 = true
   ·subst c78
    have H1 := H
    rw [if_pos rfl] at H1
    clear H
    have H := H1
    clear H1
    obtain ⟨y202, hy202⟩ : ∃ y_ : List ByteArray, y_ = (([(⟨#[67, 82, 67, 51, 50, 67]⟩ : ByteArray), (⟨#[78, 111, 110, 101]⟩ : ByteArray)] : List ByteArray)) := ⟨_, rfl⟩
    replace H : ((headgateref21_first.f kj69 a1_1 y202).bind fun t205 => (if a1_0.toList = ([72, 101, 97, 100, 101, 114, 68, 105, 103, 101, 115, 116] : List UInt8) then (some ((t205.toList == ([67, 82, 67, 51, 50, 67] : List UInt8)), a0_1, a0_2, a0_3, a0_4, a0_5, a0_6, a0_7, t205, (t205.toList != ([] : List UInt8)))) else (some (a0_0, (t205.toList == ([67, 82, 67, 51, 50, 67] : List UInt8)), a0_2, a0_3, a0_4, a0_5, a0_6, a0_7, t205, (t205.toList != ([] : List UInt8)))))) = some (r1, r2, r3, r4, r5, r6, r7, r8, r9, r10) := by first | (rw [hy202]; with_reducible exact H) | (have H2_ := (Option.bind_some _ _).symm.trans H; rw [hy202]; with_reducible exact H2_) | (have H2_ := (Option.bind_some _ _).symm.trans H; with_reducible exact H2_) | with_reducible exact H | (rw [hy202]; exact H) | exact H
    have Ny202 := Aside0.mk hy202
    clear hy202
    replace H := Option.bind_eq_some_iff.mp H
    obtain ⟨t205, A790, H⟩ := H
    try dsimp only at H
    have A79 := Aside0.mk A790
    clear A790
    refine neg_first (p := (a1_0.toList = ([72, 101, 97, 100, 101, 114, 68, 105, 103, 101, 115, 116] : List UInt8))) (fun c80 => ?_) (fun c80 => ?_)
    ·rw [if_neg c80] at H
     have c80b0 : (a1_0.toList == ([72, 101, 97, 100, 101, 114, 68, 105, 103, 101, 115, 116] : List UInt8)) = false := beq_eq_false_iff_ne.mpr c80
     have c80b1 : (a1_0.toList != ([72, 101, 97, 100, 101, 114, 68, 105, 103, 101, 115, 116] : List UInt8)) = true := bne_iff_ne.mpr c80
     simp only [Option.some.injEq, Prod.mk.injEq] at H
     obtain ⟨rfl, rfl, rfl, rfl, rfl, rfl, rfl, rfl, rfl, rfl⟩ := H
     go_wp2_with (first | ((with_reducible refine gate_dst (N := 44) rfl ?_); refine Kd.R_lit Kd.string _ 9 ?hg (N := 44) ?hd (xs := ([(⟨#[67, 82, 67, 51, 50, 67]⟩ : ByteArray), (⟨#[78, 111, 110, 101]⟩ : ByteArray)] : List ByteArray)) (inner := [.string (⟨#[67, 82, 67, 51, 50, 67]⟩ : ByteArray), .string (⟨#[78, 111, 110, 101]⟩ : ByteArray)]) (ok := fun _ => True) (okp := fun _ => True) ?hr ?hp (fun _ hk => hk) trivial (Below.refl _ _) (Nat.le_refl _) (by simp) ?_; (case hd => rfl); (case hg => rfl); (case hr => first | (go_simp; done) | (go_simp; rfl)); (case hp => exact (Reps.one (show Kd.M Kd.string _ _ _ (⟨#[67, 82, 67, 51, 50, 67]⟩ : ByteArray) [.string (⟨#[67, 82, 67, 51, 50, 67]⟩ : ByteArray)] from rfl) (Reps.one (show Kd.M Kd.string _ _ _ (⟨#[78, 111, 110, 101]⟩ : ByteArray) [.string (⟨#[78, 111, 110, 101]⟩ : ByteArray)] from rfl) (Reps.none _ _)))); intro v203 w90 ho91 hb hg_ hnew_; clear hg_ hnew_; (first | rw [← Ny202.out] at ho91 | (simp only [Int.reduceToNat] at ho91; rw [← Ny202.out] at ho91)); have n0_ := Aside0.mk (Kd.R_lower ho91 (below_size (hb_ HB))); have n1_ := Aside0.mk (blk_below (bk_ BK186) hb); have n2_ := Aside0.mk (blk_below (bk_ BK187) hb); have n3_ := Aside0.mk (blk_below (bk_ BK188) hb); have n4_ := Aside0.mk (below_step (hb_ HB) hb); clear BK186; clear BK187; clear BK188; clear HB; have HO204 := n0_; have BK186 := n1_; have BK187 := n2_; have BK188 := n3_; have HB := n4_; clear n0_ n1_ n2_ n3_ n4_; clear hb ho91; obtain ⟨Ao92, co92, eo92⟩ := Kd.R_slice HO204.out; subst eo92) | ((with_reducible refine gate_callee (f := 54) rfl ?_); refine goesL_ (some 45) rfl rfl Tryd.func54 (by kernel_rfl) rfl #[.string a1_1, .slice Ao92 y202.length co92] rfl (by (try simp only [List.map_toArray, List.map_cons, List.map_nil]); first | done | rfl | (simp only [List.length_drop, List.length_take]; rfl)) ?_; (with_reducible refine (headgateref21_first.calls kj69 a1_1 _ _ y202 t205 _ ?side1 ?side2 A79.out).mono ?_); (case side1 => repeat (first | exact (Kd.R_reads' HO204.out).2.2 | (with_reducible refine Kd.C_alloc ?_ _) | (with_reducible refine Kd.C_drewN ?_ _) | (with_reducible refine Kd.C_drew ?_))); (case side2 => exact (Kd.R_reads' HO204.out).2.1); rintro e w' ⟨rfl, ⟨nd, rfl⟩⟩; refine ⟨_, rfl, ?_⟩; (try (rw [drewN_self w90]; generalize hq_ : World.drewN w90 _ = w90; have n0_ : Aside0 (Kd.R Kd.string 9 w90 w.heap.size (fun _ => True) (.slice Ao92 y202.length co92) y202) := ⟨by rw [← hq_]; exact (by (with_reducible repeat (first | apply Kd.R_alloc | apply Kd.R_drewN | apply Kd.R_drew)); exact HO204.out)⟩; have n1_ : Aside0 (w90.heap[gb186]? = some (.cells #[.bool a0_0, .bool a0_1, .bool a0_2, .bool a0_3, .int .i64 a0_4, .int .i64 a0_5, .string a0_6, .string a0_7] 31 (0, 0))) := ⟨by rw [← hq_]; exact (bk_ BK186)⟩; have n2_ : Aside0 (w90.heap[gb187]? = some (.cells #[.string a1_0, .string a1_1] 45 (0, 0))) := ⟨by rw [← hq_]; exact (bk_ BK187)⟩; have n3_ : Aside0 (w90.heap[gb188]? = some (.cells #[.bool false, .bool false, .bool false, .bool false, .int .i64 0, .int .i64 0, .string (⟨#[]⟩ : ByteArray), .string (⟨#[]⟩ : ByteArray), .string (⟨#[]⟩ : ByteArray), .bool false] 63 (0, 0))) := ⟨by rw [← hq_]; exact (bk_ BK188)⟩; have n4_ : Aside0 (Below w.heap.size w w90) := ⟨by rw [← hq_]; exact (hb_ HB)⟩; clear HO204 BK186 BK187 BK188 HB hq_; have HO204 := n0_; have BK186 := n1_; have BK187 := n2_; have BK188 := n3_; have HB := n4_; clear n0_ n1_ n2_ n3_ n4_)); have hnb93 := NB187_186.out; have hnc93 := NB186_187.out; have hnb94 := NB187_188.out; have hnc94 := NB188_187.out; have hcz95_0 : w90.cell? ⟨gb187, 0, none⟩ = some (.string a1_0) := (blk_cell BK187.out 0).trans rfl; have hcz95_1 : w90.cell? ⟨gb187, 1, none⟩ = some (.string a1_1) := (blk_cell BK187.out 1).trans rfl; have hfz95_0 := blk_frozen BK187.out 0; have hfz95_1 := blk_frozen BK187.out 1; have hnb96 := NB186_188.out; have hnc96 := NB188_186.out; have hcz97_0 : w90.cell? ⟨gb186, 0, none⟩ = some (.bool a0_0) := (blk_cell BK186.out 0).trans rfl; have hcz97_1 : w90.cell? ⟨gb186, 1, none⟩ = some (.bool a0_1) := (blk_cell BK186.out 1).trans rfl; have hcz97_2 : w90.cell? ⟨gb186, 2, none⟩ = some (.bool a0_2) := (blk_cell BK186.out 2).trans rfl; have hcz97_3 : w90.cell? ⟨gb186, 3, none⟩ = some (.bool a0_3) := (blk_cell BK186.out 3).trans rfl; have hcz97_4 : w90.cell? ⟨gb186, 4, none⟩ = some (.int .i64 a0_4) := (blk_cell BK186.out 4).trans rfl; have hcz97_5 : w90.cell? ⟨gb186, 5, none⟩ = some (.int .i64 a0_5) := (blk_cell BK186.out 5).trans rfl; have hcz97_6 : w90.cell? ⟨gb186, 6, none⟩ = some (.string a0_6) := (blk_cell BK186.out 6).trans rfl; have hcz97_7 : w90.cell? ⟨gb186, 7, none⟩ = some (.string a0_7) := (blk_cell BK186.out 7).trans rfl; have hfz97_0 := blk_frozen BK186.out 0; have hfz97_1 := blk_frozen BK186.out 1; have hfz97_2 := blk_frozen BK186.out 2; have hfz97_3 := blk_frozen BK186.out 3; have hfz97_4 := blk_frozen BK186.out 4; have hfz97_5 := blk_frozen BK186.out 5; have hfz97_6 := blk_frozen BK186.out 6; have hfz97_7 := blk_frozen BK186.out 7; have hcz98_0 : w90.cell? ⟨gb188, 0, none⟩ = some (.bool false) := (blk_cell BK188.out 0).trans rfl; have hcz98_1 : w90.cell? ⟨gb188, 1, none⟩ = some (.bool false) := (blk_cell BK188.out 1).trans rfl; have hcz98_2 : w90.cell? ⟨gb188, 2, none⟩ = some (.bool false) := (blk_cell BK188.out 2).trans rfl; have hcz98_3 : w90.cell? ⟨gb188, 3, none⟩ = some (.bool false) := (blk_cell BK188.out 3).trans rfl; have hcz98_4 : w90.cell? ⟨gb188, 4, none⟩ = some (.int .i64 0) := (blk_cell BK188.out 4).trans rfl; have hcz98_5 : w90.cell? ⟨gb188, 5, none⟩ = some (.int .i64 0) := (blk_cell BK188.out 5).trans rfl; have hcz98_6 : w90.cell? ⟨gb188, 6, none⟩ = some (.string (⟨#[]⟩ : ByteArray)) := (blk_cell BK188.out 6).trans rfl; have hcz98_7 : w90.cell? ⟨gb188, 7, none⟩ = some (.string (⟨#[]⟩ : ByteArray)) := (blk_cell BK188.out 7).trans rfl; have hcz98_8 : w90.cell? ⟨gb188, 8, none⟩ = some (.string (⟨#[]⟩ : ByteArray)) := (blk_cell BK188.out 8).trans rfl; have hcz98_9 : w90.cell? ⟨gb188, 9, none⟩ = some (.bool false) := (blk_cell BK188.out 9).trans rfl; have hfz98_0 := blk_frozen BK188.out 0; have hfz98_1 := blk_frozen BK188.out 1; have hfz98_2 := blk_frozen BK188.out 2; have hfz98_3 := blk_frozen BK188.out 3; have hfz98_4 := blk_frozen BK188.out 4; have hfz98_5 := blk_frozen BK188.out 5; have hfz98_6 := blk_frozen BK188.out 6; have hfz98_7 := blk_frozen BK188.out 7; have hfz98_8 := blk_frozen BK188.out 8; have hfz98_9 := blk_frozen BK188.out 9))
     refine bodyPost_ret (results_cell_row rfl _ _ gb188 63 #[.bool a0_0, .bool (t205.toList == ([67, 82, 67, 51, 50, 67] : List UInt8)), .bool a0_2, .bool a0_3, .int .i64 a0_4, .int .i64 a0_5, .string a0_6, .string a0_7, .string t205, .bool (t205.toList != ([] : List UInt8))] (0, 0) _ rfl (by (with_reducible repeat (first | refine blk_drewN ?_ _ | refine blk_drew ?_ | refine blk_alloc ?_ _)); refine blk_put (cs := #[.bool a0_0, .bool (t205.toList == ([67, 82, 67, 51, 50, 67] : List UInt8)), .bool a0_2, .bool a0_3, .int .i64 a0_4, .int .i64 a0_5, .string a0_6, .string a0_7, .string t205, .bool false]) ?_ 9 _ (by first | rfl | (generalize t205.toList = q_; cases q_ <;> rfl)); (with_reducible repeat (first | refine blk_drewN ?_ _ | refine blk_drew ?_ | refine blk_alloc ?_ _)); refine blk_put (cs := #[.bool a0_0, .bool (t205.toList == ([67, 82, 67, 51, 50, 67] : List UInt8)), .bool a0_2, .bool a0_3, .int .i64 a0_4, .int .i64 a0_5, .string a0_6, .string a0_7, .string (⟨#[]⟩ : ByteArray), .bool false]) ?_ 8 _ rfl; (with_reducible repeat (first | refine blk_drewN ?_ _ | refine blk_drew ?_ | refine blk_alloc ?_ _)); refine blk_put (cs := #[.bool a0_0, .bool (t205.toList == ([67, 82, 67, 51, 50, 67] : List UInt8)), .bool a0_2, .bool a0_3, .int .i64 a0_4, .int .i64 a0_5, .string a0_6, .string (⟨#[]⟩ : ByteArray), .string (⟨#[]⟩ : ByteArray), .bool false]) ?_ 7 _ rfl; (with_reducible repeat (first | refine blk_drewN ?_ _ | refine blk_drew ?_ | refine blk_alloc ?_ _)); refine blk_put (cs := #[.bool a0_0, .bool (t205.toList == ([67, 82, 67, 51, 50, 67] : List UInt8)), .bool a0_2, .bool a0_3, .int .i64 a0_4, .int .i64 a0_5, .string (⟨#[]⟩ : ByteArray), .string (⟨#[]⟩ : ByteArray), .string (⟨#[]⟩ : ByteArray), .bool false]) ?_ 6 _ rfl; (with_reducible repeat (first | refine blk_drewN ?_ _ | refine blk_drew ?_ | refine blk_alloc ?_ _)); refine blk_put (cs := #[.bool a0_0, .bool (t205.toList == ([67, 82, 67, 51, 50, 67] : List UInt8)), .bool a0_2, .bool a0_3, .int .i64 a0_4, .int .i64 0, .string (⟨#[]⟩ : ByteArray), .string (⟨#[]⟩ : ByteArray), .string (⟨#[]⟩ : ByteArray), .bool false]) ?_ 5 _ rfl; (with_reducible repeat (first | refine blk_drewN ?_ _ | refine blk_drew ?_ | refine blk_alloc ?_ _)); refine blk_put (cs := #[.bool a0_0, .bool (t205.toList == ([67, 82, 67, 51, 50, 67] : List UInt8)), .bool a0_2, .bool a0_3, .int .i64 0, .int .i64 0, .string (⟨#[]⟩ : ByteArray), .string (⟨#[]⟩ : ByteArray), .string (⟨#[]⟩ : ByteArray), .bool false]) ?_ 4 _ rfl; (with_reducible repeat (first | refine blk_drewN ?_ _ | refine blk_drew ?_ | refine blk_alloc ?_ _)); refine blk_put (cs := #[.bool a0_0, .bool (t205.toList == ([67, 82, 67, 51, 50, 67] : List UInt8)), .bool a0_2, .bool false, .int .i64 0, .int .i64 0, .string (⟨#[]⟩ : ByteArray), .string (⟨#[]⟩ : ByteArray), .string (⟨#[]⟩ : ByteArray), .bool false]) ?_ 3 _ rfl; (with_reducible repeat (first | refine blk_drewN ?_ _ | refine blk_drew ?_ | refine blk_alloc ?_ _)); refine blk_put (cs := #[.bool a0_0, .bool (t205.toList == ([67, 82, 67, 51, 50, 67] : List UInt8)), .bool false, .bool false, .int .i64 0, .int .i64 0, .string (⟨#[]⟩ : ByteArray), .string (⟨#[]⟩ : ByteArray), .string (⟨#[]⟩ : ByteArray), .bool false]) ?_ 2 _ rfl; (with_reducible repeat (first | refine blk_drewN ?_ _ | refine blk_drew ?_ | refine blk_alloc ?_ _)); refine blk_put (cs := #[.bool a0_0, .bool false, .bool false, .bool false, .int .i64 0, .int .i64 0, .string (⟨#[]⟩ : ByteArray), .string (⟨#[]⟩ : ByteArray), .string (⟨#[]⟩ : ByteArray), .bool false]) ?_ 1 _ rfl; (with_reducible repeat (first | refine blk_drewN ?_ _ | refine blk_drew ?_ | refine blk_alloc ?_ _)); refine blk_put (cs := #[.bool false, .bool false, .bool false, .bool false, .int .i64 0, .int .i64 0, .string (⟨#[]⟩ : ByteArray), .string (⟨#[]⟩ : ByteArray), .string (⟨#[]⟩ : ByteArray), .bool false]) ?_ 0 _ rfl; (with_reducible repeat (first | refine blk_drewN ?_ _ | refine blk_drew ?_ | refine blk_alloc ?_ _ | refine blk_far ?_ NB188_186.out _)); exact BK188.out) Tryd.underlying63 rfl (by kernel_rfl)) rfl ?_
     exact ⟨by first | rfl | (simp [errW_none, errW_some] <;> rfl) | (simp [*, errW_none, errW_some] <;> rfl) | (simp [bt, *]; done) | (unfold bt; simp [*]; done), by repeat (first | (with_reducible first | exact HB.out | apply below_alloc | apply pw_below_drewN | apply below_drew1 | refine below_set ?_ GE186.out | refine below_set ?_ GE187.out | refine below_set ?_ GE188.out) | exact HB.out)⟩
    rw [if_pos c80] at H
    have c80b0 : (a1_0.toList == ([72, 101, 97, 100, 101, 114, 68, 105, 103, 101, 115, 116] : List UInt8)) = true := beq_iff_eq.mpr c80
    have c80b1 : (a1_0.toList != ([72, 101, 97, 100, 101, 114, 68, 105, 103, 101, 115, 116] : List UInt8)) = false := bne_eq_false_iff_eq.mpr c80
    clear c80
    simp only [Option.some.injEq, Prod.mk.injEq] at H
    obtain ⟨rfl, rfl, rfl, rfl, rfl, rfl, rfl, rfl, rfl, rfl⟩ := H
    go_wp2_with (first | ((with_reducible refine gate_dst (N := 44) rfl ?_); refine Kd.R_lit Kd.string _ 9 ?hg (N := 44) ?hd (xs := ([(⟨#[67, 82, 67, 51, 50, 67]⟩ : ByteArray), (⟨#[78, 111, 110, 101]⟩ : ByteArray)] : List ByteArray)) (inner := [.string (⟨#[67, 82, 67, 51, 50, 67]⟩ : ByteArray), .string (⟨#[78, 111, 110, 101]⟩ : ByteArray)]) (ok := fun _ => True) (okp := fun _ => True) ?hr ?hp (fun _ hk => hk) trivial (Below.refl _ _) (Nat.le_refl _) (by simp) ?_; (case hd => rfl); (case hg => rfl); (case hr => first | (go_simp; done) | (go_simp; rfl)); (case hp => exact (Reps.one (show Kd.M Kd.string _ _ _ (⟨#[67, 82, 67, 51, 50, 67]⟩ : ByteArray) [.string (⟨#[67, 82, 67, 51, 50, 67]⟩ : ByteArray)] from rfl) (Reps.one (show Kd.M Kd.string _ _ _ (⟨#[78, 111, 110, 101]⟩ : ByteArray) [.string (⟨#[78, 111, 110, 101]⟩ : ByteArray)] from rfl) (Reps.none _ _)))); intro v203 w81 ho82 hb hg_ hnew_; clear hg_ hnew_; (first | rw [← Ny202.out] at ho82 | (simp only [Int.reduceToNat] at ho82; rw [← Ny202.out] at ho82)); have n0_ := Aside0.mk (Kd.R_lower ho82 (below_size (hb_ HB))); have n1_ := Aside0.mk (blk_below (bk_ BK186) hb); have n2_ := Aside0.mk (blk_below (bk_ BK187) hb); have n3_ := Aside0.mk (blk_below (bk_ BK188) hb); have n4_ := Aside0.mk (below_step (hb_ HB) hb); clear BK186; clear BK187; clear BK188; clear HB; have HO204 := n0_; have BK186 := n1_; have BK187 := n2_; have BK188 := n3_; have HB := n4_; clear n0_ n1_ n2_ n3_ n4_; clear hb ho82; obtain ⟨Ao83, co83, eo83⟩ := Kd.R_slice HO204.out; subst eo83) | ((with_reducible refine gate_callee (f := 54) rfl ?_); refine goesL_ (some 45) rfl rfl Tryd.func54 (by kernel_rfl) rfl #[.string a1_1, .slice Ao83 y202.length co83] rfl (by (try simp only [List.map_toArray, List.map_cons, List.map_nil]); first | done | rfl | (simp only [List.length_drop, List.length_take]; rfl)) ?_; (with_reducible refine (headgateref21_first.calls kj69 a1_1 _ _ y202 t205 _ ?side1 ?side2 A79.out).mono ?_); (case side1 => repeat (first | exact (Kd.R_reads' HO204.out).2.2 | (with_reducible refine Kd.C_alloc ?_ _) | (with_reducible refine Kd.C_drewN ?_ _) | (with_reducible refine Kd.C_drew ?_))); (case side2 => exact (Kd.R_reads' HO204.out).2.1); rintro e w' ⟨rfl, ⟨nd, rfl⟩⟩; refine ⟨_, rfl, ?_⟩; (try (rw [drewN_self w81]; generalize hq_ : World.drewN w81 _ = w81; have n0_ : Aside0 (Kd.R Kd.string 9 w81 w.heap.size (fun _ => True) (.slice Ao83 y202.length co83) y202) := ⟨by rw [← hq_]; exact (by (with_reducible repeat (first | apply Kd.R_alloc | apply Kd.R_drewN | apply Kd.R_drew)); exact HO204.out)⟩; have n1_ : Aside0 (w81.heap[gb186]? = some (.cells #[.bool a0_0, .bool a0_1, .bool a0_2, .bool a0_3, .int .i64 a0_4, .int .i64 a0_5, .string a0_6, .string a0_7] 31 (0, 0))) := ⟨by rw [← hq_]; exact (bk_ BK186)⟩; have n2_ : Aside0 (w81.heap[gb187]? = some (.cells #[.string a1_0, .string a1_1] 45 (0, 0))) := ⟨by rw [← hq_]; exact (bk_ BK187)⟩; have n3_ : Aside0 (w81.heap[gb188]? = some (.cells #[.bool false, .bool false, .bool false, .bool false, .int .i64 0, .int .i64 0, .string (⟨#[]⟩ : ByteArray), .string (⟨#[]⟩ : ByteArray), .string (⟨#[]⟩ : ByteArray), .bool false] 63 (0, 0))) := ⟨by rw [← hq_]; exact (bk_ BK188)⟩; have n4_ : Aside0 (Below w.heap.size w w81) := ⟨by rw [← hq_]; exact (hb_ HB)⟩; clear HO204 BK186 BK187 BK188 HB hq_; have HO204 := n0_; have BK186 := n1_; have BK187 := n2_; have BK188 := n3_; have HB := n4_; clear n0_ n1_ n2_ n3_ n4_)); have hnb84 := NB187_186.out; have hnc84 := NB186_187.out; have hnb85 := NB187_188.out; have hnc85 := NB188_187.out; have hcz86_0 : w81.cell? ⟨gb187, 0, none⟩ = some (.string a1_0) := (blk_cell BK187.out 0).trans rfl; have hcz86_1 : w81.cell? ⟨gb187, 1, none⟩ = some (.string a1_1) := (blk_cell BK187.out 1).trans rfl; have hfz86_0 := blk_frozen BK187.out 0; have hfz86_1 := blk_frozen BK187.out 1; have hnb87 := NB186_188.out; have hnc87 := NB188_186.out; have hcz88_0 : w81.cell? ⟨gb186, 0, none⟩ = some (.bool a0_0) := (blk_cell BK186.out 0).trans rfl; have hcz88_1 : w81.cell? ⟨gb186, 1, none⟩ = some (.bool a0_1) := (blk_cell BK186.out 1).trans rfl; have hcz88_2 : w81.cell? ⟨gb186, 2, none⟩ = some (.bool a0_2) := (blk_cell BK186.out 2).trans rfl; have hcz88_3 : w81.cell? ⟨gb186, 3, none⟩ = some (.bool a0_3) := (blk_cell BK186.out 3).trans rfl; have hcz88_4 : w81.cell? ⟨gb186, 4, none⟩ = some (.int .i64 a0_4) := (blk_cell BK186.out 4).trans rfl; have hcz88_5 : w81.cell? ⟨gb186, 5, none⟩ = some (.int .i64 a0_5) := (blk_cell BK186.out 5).trans rfl; have hcz88_6 : w81.cell? ⟨gb186, 6, none⟩ = some (.string a0_6) := (blk_cell BK186.out 6).trans rfl; have hcz88_7 : w81.cell? ⟨gb186, 7, none⟩ = some (.string a0_7) := (blk_cell BK186.out 7).trans rfl; have hfz88_0 := blk_frozen BK186.out 0; have hfz88_1 := blk_frozen BK186.out 1; have hfz88_2 := blk_frozen BK186.out 2; have hfz88_3 := blk_frozen BK186.out 3; have hfz88_4 := blk_frozen BK186.out 4; have hfz88_5 := blk_frozen BK186.out 5; have hfz88_6 := blk_frozen BK186.out 6; have hfz88_7 := blk_frozen BK186.out 7; have hcz89_0 : w81.cell? ⟨gb188, 0, none⟩ = some (.bool false) := (blk_cell BK188.out 0).trans rfl; have hcz89_1 : w81.cell? ⟨gb188, 1, none⟩ = some (.bool false) := (blk_cell BK188.out 1).trans rfl; have hcz89_2 : w81.cell? ⟨gb188, 2, none⟩ = some (.bool false) := (blk_cell BK188.out 2).trans rfl; have hcz89_3 : w81.cell? ⟨gb188, 3, none⟩ = some (.bool false) := (blk_cell BK188.out 3).trans rfl; have hcz89_4 : w81.cell? ⟨gb188, 4, none⟩ = some (.int .i64 0) := (blk_cell BK188.out 4).trans rfl; have hcz89_5 : w81.cell? ⟨gb188, 5, none⟩ = some (.int .i64 0) := (blk_cell BK188.out 5).trans rfl; have hcz89_6 : w81.cell? ⟨gb188, 6, none⟩ = some (.string (⟨#[]⟩ : ByteArray)) := (blk_cell BK188.out 6).trans rfl; have hcz89_7 : w81.cell? ⟨gb188, 7, none⟩ = some (.string (⟨#[]⟩ : ByteArray)) := (blk_cell BK188.out 7).trans rfl; have hcz89_8 : w81.cell? ⟨gb188, 8, none⟩ = some (.string (⟨#[]⟩ : ByteArray)) := (blk_cell BK188.out 8).trans rfl; have hcz89_9 : w81.cell? ⟨gb188, 9, none⟩ = some (.bool false) := (blk_cell BK188.out 9).trans rfl; have hfz89_0 := blk_frozen BK188.out 0; have hfz89_1 := blk_frozen BK188.out 1; have hfz89_2 := blk_frozen BK188.out 2; have hfz89_3 := blk_frozen BK188.out 3; have hfz89_4 := blk_frozen BK188.out 4; have hfz89_5 := blk_frozen BK188.out 5; have hfz89_6 := blk_frozen BK188.out 6; have hfz89_7 := blk_frozen BK188.out 7; have hfz89_8 := blk_frozen BK188.out 8; have hfz89_9 := blk_frozen BK188.out 9))
    refine bodyPost_ret (results_cell_row rfl _ _ gb188 63 #[.bool (t205.toList == ([67, 82, 67, 51, 50, 67] : List UInt8)), .bool a0_1, .bool a0_2, .bool a0_3, .int .i64 a0_4, .int .i64 a0_5, .string a0_6, .string a0_7, .string t205, .bool (t205.toList != ([] : List UInt8))] (0, 0) _ rfl (by (with_reducible repeat (first | refine blk_drewN ?_ _ | refine blk_drew ?_ | refine blk_alloc ?_ _)); refine blk_put (cs := #[.bool (t205.toList == ([67, 82, 67, 51, 50, 67] : List UInt8)), .bool a0_1, .bool a0_2, .bool a0_3, .int .i64 a0_4, .int .i64 a0_5, .string a0_6, .string a0_7, .string t205, .bool false]) ?_ 9 _ (by first | rfl | (generalize t205.toList = q_; cases q_ <;> rfl)); (with_reducible repeat (first | refine blk_drewN ?_ _ | refine blk_drew ?_ | refine blk_alloc ?_ _)); refine blk_put (cs := #[.bool (t205.toList == ([67, 82, 67, 51, 50, 67] : List UInt8)), .bool a0_1, .bool a0_2, .bool a0_3, .int .i64 a0_4, .int .i64 a0_5, .string a0_6, .string a0_7, .string (⟨#[]⟩ : ByteArray), .bool false]) ?_ 8 _ rfl; (with_reducible repeat (first | refine blk_drewN ?_ _ | refine blk_drew ?_ | refine blk_alloc ?_ _)); refine blk_put (cs := #[.bool (t205.toList == ([67, 82, 67, 51, 50, 67] : List UInt8)), .bool a0_1, .bool a0_2, .bool a0_3, .int .i64 a0_4, .int .i64 a0_5, .string a0_6, .string (⟨#[]⟩ : ByteArray), .string (⟨#[]⟩ : ByteArray), .bool false]) ?_ 7 _ rfl; (with_reducible repeat (first | refine blk_drewN ?_ _ | refine blk_drew ?_ | refine blk_alloc ?_ _)); refine blk_put (cs := #[.bool (t205.toList == ([67, 82, 67, 51, 50, 67] : List UInt8)), .bool a0_1, .bool a0_2, .bool a0_3, .int .i64 a0_4, .int .i64 a0_5, .string (⟨#[]⟩ : ByteArray), .string (⟨#[]⟩ : ByteArray), .string (⟨#[]⟩ : ByteArray), .bool false]) ?_ 6 _ rfl; (with_reducible repeat (first | refine blk_drewN ?_ _ | refine blk_drew ?_ | refine blk_alloc ?_ _)); refine blk_put (cs := #[.bool (t205.toList == ([67, 82, 67, 51, 50, 67] : List UInt8)), .bool a0_1, .bool a0_2, .bool a0_3, .int .i64 a0_4, .int .i64 0, .string (⟨#[]⟩ : ByteArray), .string (⟨#[]⟩ : ByteArray), .string (⟨#[]⟩ : ByteArray), .bool false]) ?_ 5 _ rfl; (with_reducible repeat (first | refine blk_drewN ?_ _ | refine blk_drew ?_ | refine blk_alloc ?_ _)); refine blk_put (cs := #[.bool (t205.toList == ([67, 82, 67, 51, 50, 67] : List UInt8)), .bool a0_1, .bool a0_2, .bool a0_3, .int .i64 0, .int .i64 0, .string (⟨#[]⟩ : ByteArray), .string (⟨#[]⟩ : ByteArray), .string (⟨#[]⟩ : ByteArray), .bool false]) ?_ 4 _ rfl; (with_reducible repeat (first | refine blk_drewN ?_ _ | refine blk_drew ?_ | refine blk_alloc ?_ _)); refine blk_put (cs := #[.bool (t205.toList == ([67, 82, 67, 51, 50, 67] : List UInt8)), .bool a0_1, .bool a0_2, .bool false, .int .i64 0, .int .i64 0, .string (⟨#[]⟩ : ByteArray), .string (⟨#[]⟩ : ByteArray), .string (⟨#[]⟩ : ByteArray), .bool false]) ?_ 3 _ rfl; (with_reducible repeat (first | refine blk_drewN ?_ _ | refine blk_drew ?_ | refine blk_alloc ?_ _)); refine blk_put (cs := #[.bool (t205.toList == ([67, 82, 67, 51, 50, 67] : List UInt8)), .bool a0_1, .bool false, .bool false, .int .i64 0, .int .i64 0, .string (⟨#[]⟩ : ByteArray), .string (⟨#[]⟩ : ByteArray), .string (⟨#[]⟩ : ByteArray), .bool false]) ?_ 2 _ rfl; (with_reducible repeat (first | refine blk_drewN ?_ _ | refine blk_drew ?_ | refine blk_alloc ?_ _)); refine blk_put (cs := #[.bool (t205.toList == ([67, 82, 67, 51, 50, 67] : List UInt8)), .bool false, .bool false, .bool false, .int .i64 0, .int .i64 0, .string (⟨#[]⟩ : ByteArray), .string (⟨#[]⟩ : ByteArray), .string (⟨#[]⟩ : ByteArray), .bool false]) ?_ 1 _ rfl; (with_reducible repeat (first | refine blk_drewN ?_ _ | refine blk_drew ?_ | refine blk_alloc ?_ _)); refine blk_put (cs := #[.bool false, .bool false, .bool false, .bool false, .int .i64 0, .int .i64 0, .string (⟨#[]⟩ : ByteArray), .string (⟨#[]⟩ : ByteArray), .string (⟨#[]⟩ : ByteArray), .bool false]) ?_ 0 _ rfl; (with_reducible repeat (first | refine blk_drewN ?_ _ | refine blk_drew ?_ | refine blk_alloc ?_ _ | refine blk_far ?_ NB188_186.out _)); exact BK188.out) Tryd.underlying63 rfl (by kernel_rfl)) rfl ?_
    exact ⟨by first | rfl | (simp [errW_none, errW_some] <;> rfl) | (simp [*, errW_none, errW_some] <;> rfl) | (simp [bt, *]; done) | (unfold bt; simp [*]; done), by repeat (first | (with_reducible first | exact HB.out | apply below_alloc | apply pw_below_drewN | apply below_drew1 | refine below_set ?_ GE186.out | refine below_set ?_ GE187.out | refine below_set ?_ GE188.out) | exact HB.out)⟩
   replace c78 := Bool.eq_false_iff.mpr c78
   subst c78
   have H1 := H
   rw [if_neg (show ¬ (false = true) by decide)] at H1
   clear H
   have H := H1
   clear H1
   by_cases c99 : a1_0.toList = ([77, 97, 120, 82, 101, 99, 118, 68, 97, 116, 97, 83, 101, 103, 109, 101, 110, 116, 76, 101, 110, 103, 116, 104] : List UInt8)
   ·rw [if_pos c99] at H
    have c99b0 : (a1_0.toList == ([77, 97, 120, 82, 101, 99, 118, 68, 97, 116, 97, 83, 101, 103, 109, 101, 110, 116, 76, 101, 110, 103, 116, 104] : List UInt8)) = true := beq_iff_eq.mpr c99
    have c99b1 : (a1_0.toList != ([77, 97, 120, 82, 101, 99, 118, 68, 97, 116, 97, 83, 101, 103, 109, 101, 110, 116, 76, 101, 110, 103, 116, 104] : List UInt8)) = false := bne_eq_false_iff_eq.mpr c99
    clear c99
    obtain ⟨ji100, hji100⟩ : ∃ j_ : Int, (mn t189 8192) = j_ := ⟨_, rfl⟩
    replace H : (some (a0_0, a0_1, a0_2, a0_3, ji100, a0_5, a0_6, a0_7, (⟨#[56, 49, 57, 50]⟩ : ByteArray), decide (t189 ≥ 512))) = some (r1, r2, r3, r4, r5, r6, r7, r8, r9, r10) := by first | (rw [hji100] at H; exact H) | (simp only [hji100] at H ⊢; exact H)
    have hji100_ : (if 8192 < t189 then 8192 else t189) = ji100 := hji100
    simp only [Option.some.injEq, Prod.mk.injEq] at H
    obtain ⟨rfl, rfl, rfl, rfl, rfl, rfl, rfl, rfl, rfl, rfl⟩ := H
    have hnb101 := NB186_187.out
    have hnc101 := NB187_186.out
    have hnb102 := NB186_188.out
    have hnc102 := NB188_186.out
    have hcz103_0 : wc.cell? ⟨gb186, 0, none⟩ = some (.bool a0_0) := (blk_cell BK186.out 0).trans rfl
    have hcz103_1 : wc.cell? ⟨gb186, 1, none⟩ = some (.bool a0_1) := (blk_cell BK186.out 1).trans rfl
    have hcz103_2 : wc.cell? ⟨gb186, 2, none⟩ = some (.bool a0_2) := (blk_cell BK186.out 2).trans rfl
    have hcz103_3 : wc.cell? ⟨gb186, 3, none⟩ = some (.bool a0_3) := (blk_cell BK186.out 3).trans rfl
    have hcz103_4 : wc.cell? ⟨gb186, 4, none⟩ = some (.int .i64 a0_4) := (blk_cell BK186.out 4).trans rfl
    have hcz103_5 : wc.cell? ⟨gb186, 5, none⟩ = some (.int .i64 a0_5) := (blk_cell BK186.out 5).trans rfl
    have hcz103_6 : wc.cell? ⟨gb186, 6, none⟩ = some (.string a0_6) := (blk_cell BK186.out 6).trans rfl
    have hcz103_7 : wc.cell? ⟨gb186, 7, none⟩ = some (.string a0_7) := (blk_cell BK186.out 7).trans rfl
    have hfz103_0 := blk_frozen BK186.out 0
    have hfz103_1 := blk_frozen BK186.out 1
    have hfz103_2 := blk_frozen BK186.out 2
    have hfz103_3 := blk_frozen BK186.out 3
    have hfz103_4 := blk_frozen BK186.out 4
    have hfz103_5 := blk_frozen BK186.out 5
    have hfz103_6 := blk_frozen BK186.out 6
    have hfz103_7 := blk_frozen BK186.out 7
    have hnb104 := NB188_187.out
    have hnc104 := NB187_188.out
    have hcz105_0 : wc.cell? ⟨gb188, 0, none⟩ = some (.bool false) := (blk_cell BK188.out 0).trans rfl
    have hcz105_1 : wc.cell? ⟨gb188, 1, none⟩ = some (.bool false) := (blk_cell BK188.out 1).trans rfl
    have hcz105_2 : wc.cell? ⟨gb188, 2, none⟩ = some (.bool false) := (blk_cell BK188.out 2).trans rfl
    have hcz105_3 : wc.cell? ⟨gb188, 3, none⟩ = some (.bool false) := (blk_cell BK188.out 3).trans rfl
    have hcz105_4 : wc.cell? ⟨gb188, 4, none⟩ = some (.int .i64 0) := (blk_cell BK188.out 4).trans rfl
    have hcz105_5 : wc.cell? ⟨gb188, 5, none⟩ = some (.int .i64 0) := (blk_cell BK188.out 5).trans rfl
    have hcz105_6 : wc.cell? ⟨gb188, 6, none⟩ = some (.string (⟨#[]⟩ : ByteArray)) := (blk_cell BK188.out 6).trans rfl
    have hcz105_7 : wc.cell? ⟨gb188, 7, none⟩ = some (.string (⟨#[]⟩ : ByteArray)) := (blk_cell BK188.out 7).trans rfl
    have hcz105_8 : wc.cell? ⟨gb188, 8, none⟩ = some (.string (⟨#[]⟩ : ByteArray)) := (blk_cell BK188.out 8).trans rfl
    have hcz105_9 : wc.cell? ⟨gb188, 9, none⟩ = some (.bool false) := (blk_cell BK188.out 9).trans rfl
    have hfz105_0 := blk_frozen BK188.out 0
    have hfz105_1 := blk_frozen BK188.out 1
    have hfz105_2 := blk_frozen BK188.out 2
    have hfz105_3 := blk_frozen BK188.out 3
    have hfz105_4 := blk_frozen BK188.out 4
    have hfz105_5 := blk_frozen BK188.out 5
    have hfz105_6 := blk_frozen BK188.out 6
    have hfz105_7 := blk_frozen BK188.out 7
    have hfz105_8 := blk_frozen BK188.out 8
    have hfz105_9 := blk_frozen BK188.out 9
    go_wp2
    refine bodyPost_ret (results_cell_row rfl _ _ gb188 63 #[.bool a0_0, .bool a0_1, .bool a0_2, .bool a0_3, .int .i64 ji100, .int .i64 a0_5, .string a0_6, .string a0_7, .string (⟨#[56, 49, 57, 50]⟩ : ByteArray), .bool (decide (t189 ≥ 512))] (0, 0) _ rfl (by (with_reducible repeat (first | refine blk_drewN ?_ _ | refine blk_drew ?_ | refine blk_alloc ?_ _)); refine blk_put (cs := #[.bool a0_0, .bool a0_1, .bool a0_2, .bool a0_3, .int .i64 ji100, .int .i64 a0_5, .string a0_6, .string a0_7, .string (⟨#[56, 49, 57, 50]⟩ : ByteArray), .bool false]) ?_ 9 _ rfl; (with_reducible repeat (first | refine blk_drewN ?_ _ | refine blk_drew ?_ | refine blk_alloc ?_ _)); refine blk_put (cs := #[.bool a0_0, .bool a0_1, .bool a0_2, .bool a0_3, .int .i64 ji100, .int .i64 a0_5, .string a0_6, .string a0_7, .string (⟨#[]⟩ : ByteArray), .bool false]) ?_ 8 _ rfl; (with_reducible repeat (first | refine blk_drewN ?_ _ | refine blk_drew ?_ | refine blk_alloc ?_ _)); refine blk_put (cs := #[.bool a0_0, .bool a0_1, .bool a0_2, .bool a0_3, .int .i64 ji100, .int .i64 a0_5, .string a0_6, .string (⟨#[]⟩ : ByteArray), .string (⟨#[]⟩ : ByteArray), .bool false]) ?_ 7 _ rfl; (with_reducible repeat (first | refine blk_drewN ?_ _ | refine blk_drew ?_ | refine blk_alloc ?_ _)); refine blk_put (cs := #[.bool a0_0, .bool a0_1, .bool a0_2, .bool a0_3, .int .i64 ji100, .int .i64 a0_5, .string (⟨#[]⟩ : ByteArray), .string (⟨#[]⟩ : ByteArray), .string (⟨#[]⟩ : ByteArray), .bool false]) ?_ 6 _ rfl; (with_reducible repeat (first | refine blk_drewN ?_ _ | refine blk_drew ?_ | refine blk_alloc ?_ _)); refine blk_put (cs := #[.bool a0_0, .bool a0_1, .bool a0_2, .bool a0_3, .int .i64 ji100, .int .i64 0, .string (⟨#[]⟩ : ByteArray), .string (⟨#[]⟩ : ByteArray), .string (⟨#[]⟩ : ByteArray), .bool false]) ?_ 5 _ rfl; (with_reducible repeat (first | refine blk_drewN ?_ _ | refine blk_drew ?_ | refine blk_alloc ?_ _)); refine blk_put (cs := #[.bool a0_0, .bool a0_1, .bool a0_2, .bool a0_3, .int .i64 0, .int .i64 0, .string (⟨#[]⟩ : ByteArray), .string (⟨#[]⟩ : ByteArray), .string (⟨#[]⟩ : ByteArray), .bool false]) ?_ 4 _ rfl; (with_reducible repeat (first | refine blk_drewN ?_ _ | refine blk_drew ?_ | refine blk_alloc ?_ _)); refine blk_put (cs := #[.bool a0_0, .bool a0_1, .bool a0_2, .bool false, .int .i64 0, .int .i64 0, .string (⟨#[]⟩ : ByteArray), .string (⟨#[]⟩ : ByteArray), .string (⟨#[]⟩ : ByteArray), .bool false]) ?_ 3 _ rfl; (with_reducible repeat (first | refine blk_drewN ?_ _ | refine blk_drew ?_ | refine blk_alloc ?_ _)); refine blk_put (cs := #[.bool a0_0, .bool a0_1, .bool false, .bool false, .int .i64 0, .int .i64 0, .string (⟨#[]⟩ : ByteArray), .string (⟨#[]⟩ : ByteArray), .string (⟨#[]⟩ : ByteArray), .bool false]) ?_ 2 _ rfl; (with_reducible repeat (first | refine blk_drewN ?_ _ | refine blk_drew ?_ | refine blk_alloc ?_ _)); refine blk_put (cs := #[.bool a0_0, .bool false, .bool false, .bool false, .int .i64 0, .int .i64 0, .string (⟨#[]⟩ : ByteArray), .string (⟨#[]⟩ : ByteArray), .string (⟨#[]⟩ : ByteArray), .bool false]) ?_ 1 _ rfl; (with_reducible repeat (first | refine blk_drewN ?_ _ | refine blk_drew ?_ | refine blk_alloc ?_ _)); refine blk_put (cs := #[.bool false, .bool false, .bool false, .bool false, .int .i64 0, .int .i64 0, .string (⟨#[]⟩ : ByteArray), .string (⟨#[]⟩ : ByteArray), .string (⟨#[]⟩ : ByteArray), .bool false]) ?_ 0 _ rfl; (with_reducible repeat (first | refine blk_drewN ?_ _ | refine blk_drew ?_ | refine blk_alloc ?_ _ | refine blk_far ?_ NB188_186.out _)); exact BK188.out) Tryd.underlying63 rfl (by kernel_rfl)) rfl ?_
    exact ⟨by first | rfl | (simp [errW_none, errW_some] <;> rfl) | (simp only [← hji100]; first | rfl | (simp [errW_none, errW_some] <;> rfl)) | (simp [*, errW_none, errW_some] <;> rfl) | (simp [bt, *]; done) | (unfold bt; simp [*]; done), by repeat (first | (with_reducible first | exact HB.out | apply below_alloc | apply pw_below_drewN | apply below_drew1 | refine below_set ?_ GE186.out | refine below_set ?_ GE187.out | refine below_set ?_ GE188.out) | exact HB.out)⟩
   rw [if_neg c99] at H
   have c99b0 : (a1_0.toList == ([77, 97, 120, 82, 101, 99, 118, 68, 97, 116, 97, 83, 101, 103, 109, 101, 110, 116, 76, 101, 110, 103, 116, 104] : List UInt8)) = false := beq_eq_false_iff_ne.mpr c99
   have c99b1 : (a1_0.toList != ([77, 97, 120, 82, 101, 99, 118, 68, 97, 116, 97, 83, 101, 103, 109, 101, 110, 116, 76, 101, 110, 103, 116, 104] : List UInt8)) = true := bne_iff_ne.mpr c99
   by_cases c106 : a1_0.toList = ([73, 109, 109, 101, 100, 105, 97, 116, 101, 68, 97, 116, 97] : List UInt8)
   ·rw [if_pos c106] at H
    have c106b0 : (a1_0.toList == ([73, 109, 109, 101, 100, 105, 97, 116, 101, 68, 97, 116, 97] : List UInt8)) = true := beq_iff_eq.mpr c106
    have c106b1 : (a1_0.toList != ([73, 109, 109, 101, 100, 105, 97, 116, 101, 68, 97, 116, 97] : List UInt8)) = false := bne_eq_false_iff_eq.mpr c106
    clear c106
    replace H := Option.bind_eq_some_iff.mp H
    obtain ⟨t206, A1070, H⟩ := H
    try dsimp only at H
    have A107 := Aside0.mk A1070
    clear A1070
    simp only [Option.some.injEq, Prod.mk.injEq] at H
    obtain ⟨rfl, rfl, rfl, rfl, rfl, rfl, rfl, rfl, rfl, rfl⟩ := H
    have hnb108 := NB186_187.out
    have hnc108 := NB187_186.out
    have hnb109 := NB186_188.out
    have hnc109 := NB188_186.out
    have hcz110_0 : wc.cell? ⟨gb186, 0, none⟩ = some (.bool a0_0) := (blk_cell BK186.out 0).trans rfl
    have hcz110_1 : wc.cell? ⟨gb186, 1, none⟩ = some (.bool a0_1) := (blk_cell BK186.out 1).trans rfl
    have hcz110_2 : wc.cell? ⟨gb186, 2, none⟩ = some (.bool a0_2) := (blk_cell BK186.out 2).trans rfl
    have hcz110_3 : wc.cell? ⟨gb186, 3, none⟩ = some (.bool a0_3) := (blk_cell BK186.out 3).trans rfl
    have hcz110_4 : wc.cell? ⟨gb186, 4, none⟩ = some (.int .i64 a0_4) := (blk_cell BK186.out 4).trans rfl
    have hcz110_5 : wc.cell? ⟨gb186, 5, none⟩ = some (.int .i64 a0_5) := (blk_cell BK186.out 5).trans rfl
    have hcz110_6 : wc.cell? ⟨gb186, 6, none⟩ = some (.string a0_6) := (blk_cell BK186.out 6).trans rfl
    have hcz110_7 : wc.cell? ⟨gb186, 7, none⟩ = some (.string a0_7) := (blk_cell BK186.out 7).trans rfl
    have hfz110_0 := blk_frozen BK186.out 0
    have hfz110_1 := blk_frozen BK186.out 1
    have hfz110_2 := blk_frozen BK186.out 2
    have hfz110_3 := blk_frozen BK186.out 3
    have hfz110_4 := blk_frozen BK186.out 4
    have hfz110_5 := blk_frozen BK186.out 5
    have hfz110_6 := blk_frozen BK186.out 6
    have hfz110_7 := blk_frozen BK186.out 7
    try go_wp2
    have n0_ : Aside0 ((wc.setCell ⟨gb186, 2, none⟩ (.bool (a1_1.toList == ([89, 101, 115] : List UInt8)))).heap[gb186]? = some (.cells #[.bool a0_0, .bool a0_1, .bool (a1_1.toList == ([89, 101, 115] : List UInt8)), .bool a0_3, .int .i64 a0_4, .int .i64 a0_5, .string a0_6, .string a0_7] 31 (0, 0))) := ⟨by (with_reducible repeat (first | refine blk_drewN ?_ _ | refine blk_drew ?_ | refine blk_alloc ?_ _)); refine blk_put (cs := #[.bool a0_0, .bool a0_1, .bool a0_2, .bool a0_3, .int .i64 a0_4, .int .i64 a0_5, .string a0_6, .string a0_7]) ?_ 2 _ rfl; (with_reducible repeat (first | refine blk_drewN ?_ _ | refine blk_drew ?_ | refine blk_alloc ?_ _)); exact BK186.out⟩
    have n1_ : Aside0 ((wc.setCell ⟨gb186, 2, none⟩ (.bool (a1_1.toList == ([89, 101, 115] : List UInt8)))).heap[gb187]? = some (.cells #[.string a1_0, .string a1_1] 45 (0, 0))) := ⟨by (with_reducible repeat (first | refine blk_drewN ?_ _ | refine blk_drew ?_ | refine blk_alloc ?_ _ | refine blk_far ?_ NB187_186.out _)); exact BK187.out⟩
    have n2_ : Aside0 ((wc.setCell ⟨gb186, 2, none⟩ (.bool (a1_1.toList == ([89, 101, 115] : List UInt8)))).heap[gb188]? = some (.cells #[.bool false, .bool false, .bool false, .bool false, .int .i64 0, .int .i64 0, .string (⟨#[]⟩ : ByteArray), .string (⟨#[]⟩ : ByteArray), .string (⟨#[]⟩ : ByteArray), .bool false] 63 (0, 0))) := ⟨by (with_reducible repeat (first | refine blk_drewN ?_ _ | refine blk_drew ?_ | refine blk_alloc ?_ _ | refine blk_far ?_ NB188_186.out _)); exact BK188.out⟩
    have n3_ : Aside0 (Below w.heap.size w (wc.setCell ⟨gb186, 2, none⟩ (.bool (a1_1.toList == ([89, 101, 115] : List UInt8))))) := ⟨hb_ HB⟩
    (try clear BK186)
    (try clear BK187)
    (try clear BK188)
    (try clear HB)
    generalize (wc.setCell ⟨gb186, 2, none⟩ (.bool (a1_1.toList == ([89, 101, 115] : List UInt8)))) = w111 at n0_ n1_ n2_ n3_ ⊢
    have BK186 := n0_
    have BK187 := n1_
    have BK188 := n2_
    have HB := n3_
    clear n0_ n1_ n2_ n3_
    have n0_ := Aside0.mk (blk_drew BK186.out)
    have n1_ := Aside0.mk (blk_drew BK187.out)
    have n2_ := Aside0.mk (blk_drew BK188.out)
    have n3_ := Aside0.mk (below_drew1 HB.out)
    clear BK186
    clear BK187
    clear BK188
    clear HB
    have BK186 := n0_
    have BK187 := n1_
    have BK188 := n2_
    have HB := n3_
    clear n0_ n1_ n2_ n3_
    refine start_ (n := 6) (S := fun w' => w'.cell? ⟨gb186, 0, none⟩ = some (.bool a0_0) ∧ w'.cell? ⟨gb186, 1, none⟩ = some (.bool a0_1) ∧ w'.cell? ⟨gb186, 2, none⟩ = some (.bool (a1_1.toList == ([89, 101, 115] : List UInt8))) ∧ w'.cell? ⟨gb186, 3, none⟩ = some (.bool a0_3) ∧ w'.cell? ⟨gb186, 4, none⟩ = some (.int .i64 a0_4) ∧ w'.cell? ⟨gb186, 5, none⟩ = some (.int .i64 a0_5) ∧ w'.cell? ⟨gb186, 6, none⟩ = some (.string a0_6) ∧ w'.cell? ⟨gb186, 7, none⟩ = some (.string a0_7)) (ds := []) d25x2 (by kernel_rfl) rfl rfl ⟨(blk_cell BK186.out 0).trans rfl, (blk_cell BK186.out 1).trans rfl, (blk_cell BK186.out 2).trans rfl, (blk_cell BK186.out 3).trans rfl, (blk_cell BK186.out 4).trans rfl, (blk_cell BK186.out 5).trans rfl, (blk_cell BK186.out 6).trans rfl, (blk_cell BK186.out 7).trans rfl⟩ (fun hHeld => ?_)
    generalize w111.drew = w112 at BK186 BK187 BK188 HB hHeld ⊢
    refine qon_ 1 (some 75) d25x6 ?_
    refine qon_ 2 (some 76) d25x11 ?_
    refine qtk_ 0 (some 74) d25x19 hHeld ?_
    refine one_ (i := 3) (N := some 77) d25x23 rfl rfl (by kernel_rfl) (by decide) (fun K hK => ?_)
    refine goes_ Tryd.func55 (by kernel_rfl) rfl #[.string a1_1] (by rfl) rfl rfl (by (try simp only [List.map_toArray, List.map_cons, List.map_nil]); first | done | rfl | (simp only [List.length_drop, List.length_take]; rfl)) ?_
    with_reducible refine (headgateref21_yes.calls a1_1 t206 _ A107.out).mono ?_
    rintro e w' ⟨rfl, ⟨nd, rfl⟩⟩
    refine ⟨_, rfl, ?_⟩
    refine hK.out _ _ ⟨(blk_cell BK186.out 0).trans rfl, (blk_cell BK186.out 1).trans rfl, (blk_cell BK186.out 2).trans rfl, (blk_cell BK186.out 3).trans rfl, (blk_cell BK186.out 4).trans rfl, (blk_cell BK186.out 5).trans rfl, (blk_cell BK186.out 6).trans rfl, (blk_cell BK186.out 7).trans rfl⟩ (fun hHeld => ?_)
    clear hK K
    refine norm_ (a' := ?_) ?_ ?_
    rotate_left
    ·show Act.put _ (some 77) _ = _
     simp only [Act.put, la_, lb_, lc_, i64_w, i32_w]
     rfl
    refine qon_ 4 (some 78) d25x27 ?_
    refine one_ (i := 5) (N := none) d25x33 rfl rfl (by kernel_rfl) (by decide) (fun K hK => ?_)
    have hs113 : w112.cell? ⟨gb188, 0, none⟩ = some (.bool false) := (blk_cell BK188.out 0).trans rfl
    have hfs113 := blk_frozen BK188.out 0
    have hns113_0 := NB186_188.out
    have hns113_1 := NB187_188.out
    have hms113_0 := NB188_186.out
    have hms113_1 := NB188_187.out
    have hs114 : w112.cell? ⟨gb188, 1, none⟩ = some (.bool false) := (blk_cell BK188.out 1).trans rfl
    have hfs114 := blk_frozen BK188.out 1
    have hns114_0 := NB186_188.out
    have hns114_1 := NB187_188.out
    have hms114_0 := NB188_186.out
    have hms114_1 := NB188_187.out
    have hs115 : w112.cell? ⟨gb188, 2, none⟩ = some (.bool false) := (blk_cell BK188.out 2).trans rfl
    have hfs115 := blk_frozen BK188.out 2
    have hns115_0 := NB186_188.out
    have hns115_1 := NB187_188.out
    have hms115_0 := NB188_186.out
    have hms115_1 := NB188_187.out
    have hs116 : w112.cell? ⟨gb188, 3, none⟩ = some (.bool false) := (blk_cell BK188.out 3).trans rfl
    have hfs116 := blk_frozen BK188.out 3
    have hns116_0 := NB186_188.out
    have hns116_1 := NB187_188.out
    have hms116_0 := NB188_186.out
    have hms116_1 := NB188_187.out
    have hs117 : w112.cell? ⟨gb188, 4, none⟩ = some (.int .i64 0) := (blk_cell BK188.out 4).trans rfl
    have hfs117 := blk_frozen BK188.out 4
    have hns117_0 := NB186_188.out
    have hns117_1 := NB187_188.out
    have hms117_0 := NB188_186.out
    have hms117_1 := NB188_187.out
    have hs118 : w112.cell? ⟨gb188, 5, none⟩ = some (.int .i64 0) := (blk_cell BK188.out 5).trans rfl
    have hfs118 := blk_frozen BK188.out 5
    have hns118_0 := NB186_188.out
    have hns118_1 := NB187_188.out
    have hms118_0 := NB188_186.out
    have hms118_1 := NB188_187.out
    have hs119 : w112.cell? ⟨gb188, 6, none⟩ = some (.string (⟨#[]⟩ : ByteArray)) := (blk_cell BK188.out 6).trans rfl
    have hfs119 := blk_frozen BK188.out 6
    have hns119_0 := NB186_188.out
    have hns119_1 := NB187_188.out
    have hms119_0 := NB188_186.out
    have hms119_1 := NB188_187.out
    have hs120 : w112.cell? ⟨gb188, 7, none⟩ = some (.string (⟨#[]⟩ : ByteArray)) := (blk_cell BK188.out 7).trans rfl
    have hfs120 := blk_frozen BK188.out 7
    have hns120_0 := NB186_188.out
    have hns120_1 := NB187_188.out
    have hms120_0 := NB188_186.out
    have hms120_1 := NB188_187.out
    have hs121 : w112.cell? ⟨gb188, 8, none⟩ = some (.string (⟨#[]⟩ : ByteArray)) := (blk_cell BK188.out 8).trans rfl
    have hfs121 := blk_frozen BK188.out 8
    have hns121_0 := NB186_188.out
    have hns121_1 := NB187_188.out
    have hms121_0 := NB188_186.out
    have hms121_1 := NB188_187.out
    have hs122 : w112.cell? ⟨gb188, 9, none⟩ = some (.bool false) := (blk_cell BK188.out 9).trans rfl
    have hfs122 := blk_frozen BK188.out 9
    have hns122_0 := NB186_188.out
    have hns122_1 := NB187_188.out
    have hms122_0 := NB188_186.out
    have hms122_1 := NB188_187.out
    refine skip_ (w1 := ?_) (by rfl) rfl ?_ ?_
    rotate_left
    ·go_simp
     rfl
    refine hK.out _ _ ⟨((cell_far (p := ⟨gb188, _, none⟩) NB186_188.out _).trans (((cell_far (p := ⟨gb188, _, none⟩) NB186_188.out _).trans (((cell_far (p := ⟨gb188, _, none⟩) NB186_188.out _).trans (((cell_far (p := ⟨gb188, _, none⟩) NB186_188.out _).trans (((cell_far (p := ⟨gb188, _, none⟩) NB186_188.out _).trans (((cell_far (p := ⟨gb188, _, none⟩) NB186_188.out _).trans (((cell_far (p := ⟨gb188, _, none⟩) NB186_188.out _).trans (((cell_far (p := ⟨gb188, _, none⟩) NB186_188.out _).trans (((cell_far (p := ⟨gb188, _, none⟩) NB186_188.out _).trans (((cell_far (p := ⟨gb188, _, none⟩) NB186_188.out _).trans (hHeld.1)))))))))))))))))))), ((cell_far (p := ⟨gb188, _, none⟩) NB186_188.out _).trans (((cell_far (p := ⟨gb188, _, none⟩) NB186_188.out _).trans (((cell_far (p := ⟨gb188, _, none⟩) NB186_188.out _).trans (((cell_far (p := ⟨gb188, _, none⟩) NB186_188.out _).trans (((cell_far (p := ⟨gb188, _, none⟩) NB186_188.out _).trans (((cell_far (p := ⟨gb188, _, none⟩) NB186_188.out _).trans (((cell_far (p := ⟨gb188, _, none⟩) NB186_188.out _).trans (((cell_far (p := ⟨gb188, _, none⟩) NB186_188.out _).trans (((cell_far (p := ⟨gb188, _, none⟩) NB186_188.out _).trans (((cell_far (p := ⟨gb188, _, none⟩) NB186_188.out _).trans (hHeld.2.1)))))))))))))))))))), ((cell_far (p := ⟨gb188, _, none⟩) NB186_188.out _).trans (((cell_far (p := ⟨gb188, _, none⟩) NB186_188.out _).trans (((cell_far (p := ⟨gb188, _, none⟩) NB186_188.out _).trans (((cell_far (p := ⟨gb188, _, none⟩) NB186_188.out _).trans (((cell_far (p := ⟨gb188, _, none⟩) NB186_188.out _).trans (((cell_far (p := ⟨gb188, _, none⟩) NB186_188.out _).trans (((cell_far (p := ⟨gb188, _, none⟩) NB186_188.out _).trans (((cell_far (p := ⟨gb188, _, none⟩) NB186_188.out _).trans (((cell_far (p := ⟨gb188, _, none⟩) NB186_188.out _).trans (((cell_far (p := ⟨gb188, _, none⟩) NB186_188.out _).trans (hHeld.2.2.1)))))))))))))))))))), ((cell_far (p := ⟨gb188, _, none⟩) NB186_188.out _).trans (((cell_far (p := ⟨gb188, _, none⟩) NB186_188.out _).trans (((cell_far (p := ⟨gb188, _, none⟩) NB186_188.out _).trans (((cell_far (p := ⟨gb188, _, none⟩) NB186_188.out _).trans (((cell_far (p := ⟨gb188, _, none⟩) NB186_188.out _).trans (((cell_far (p := ⟨gb188, _, none⟩) NB186_188.out _).trans (((cell_far (p := ⟨gb188, _, none⟩) NB186_188.out _).trans (((cell_far (p := ⟨gb188, _, none⟩) NB186_188.out _).trans (((cell_far (p := ⟨gb188, _, none⟩) NB186_188.out _).trans (((cell_far (p := ⟨gb188, _, none⟩) NB186_188.out _).trans (hHeld.2.2.2.1)))))))))))))))))))), ((cell_far (p := ⟨gb188, _, none⟩) NB186_188.out _).trans (((cell_far (p := ⟨gb188, _, none⟩) NB186_188.out _).trans (((cell_far (p := ⟨gb188, _, none⟩) NB186_188.out _).trans (((cell_far (p := ⟨gb188, _, none⟩) NB186_188.out _).trans (((cell_far (p := ⟨gb188, _, none⟩) NB186_188.out _).trans (((cell_far (p := ⟨gb188, _, none⟩) NB186_188.out _).trans (((cell_far (p := ⟨gb188, _, none⟩) NB186_188.out _).trans (((cell_far (p := ⟨gb188, _, none⟩) NB186_188.out _).trans (((cell_far (p := ⟨gb188, _, none⟩) NB186_188.out _).trans (((cell_far (p := ⟨gb188, _, none⟩) NB186_188.out _).trans (hHeld.2.2.2.2.1)))))))))))))))))))), ((cell_far (p := ⟨gb188, _, none⟩) NB186_188.out _).trans (((cell_far (p := ⟨gb188, _, none⟩) NB186_188.out _).trans (((cell_far (p := ⟨gb188, _, none⟩) NB186_188.out _).trans (((cell_far (p := ⟨gb188, _, none⟩) NB186_188.out _).trans (((cell_far (p := ⟨gb188, _, none⟩) NB186_188.out _).trans (((cell_far (p := ⟨gb188, _, none⟩) NB186_188.out _).trans (((cell_far (p := ⟨gb188, _, none⟩) NB186_188.out _).trans (((cell_far (p := ⟨gb188, _, none⟩) NB186_188.out _).trans (((cell_far (p := ⟨gb188, _, none⟩) NB186_188.out _).trans (((cell_far (p := ⟨gb188, _, none⟩) NB186_188.out _).trans (hHeld.2.2.2.2.2.1)))))))))))))))))))), ((cell_far (p := ⟨gb188, _, none⟩) NB186_188.out _).trans (((cell_far (p := ⟨gb188, _, none⟩) NB186_188.out _).trans (((cell_far (p := ⟨gb188, _, none⟩) NB186_188.out _).trans (((cell_far (p := ⟨gb188, _, none⟩) NB186_188.out _).trans (((cell_far (p := ⟨gb188, _, none⟩) NB186_188.out _).trans (((cell_far (p := ⟨gb188, _, none⟩) NB186_188.out _).trans (((cell_far (p := ⟨gb188, _, none⟩) NB186_188.out _).trans (((cell_far (p := ⟨gb188, _, none⟩) NB186_188.out _).trans (((cell_far (p := ⟨gb188, _, none⟩) NB186_188.out _).trans (((cell_far (p := ⟨gb188, _, none⟩) NB186_188.out _).trans (hHeld.2.2.2.2.2.2.1)))))))))))))))))))), ((cell_far (p := ⟨gb188, _, none⟩) NB186_188.out _).trans (((cell_far (p := ⟨gb188, _, none⟩) NB186_188.out _).trans (((cell_far (p := ⟨gb188, _, none⟩) NB186_188.out _).trans (((cell_far (p := ⟨gb188, _, none⟩) NB186_188.out _).trans (((cell_far (p := ⟨gb188, _, none⟩) NB186_188.out _).trans (((cell_far (p := ⟨gb188, _, none⟩) NB186_188.out _).trans (((cell_far (p := ⟨gb188, _, none⟩) NB186_188.out _).trans (((cell_far (p := ⟨gb188, _, none⟩) NB186_188.out _).trans (((cell_far (p := ⟨gb188, _, none⟩) NB186_188.out _).trans (((cell_far (p := ⟨gb188, _, none⟩) NB186_188.out _).trans (hHeld.2.2.2.2.2.2.2))))))))))))))))))))⟩ (fun hHeld => ?_)
    clear hK K
    refine done_ (by kernel_rfl) ?_
    try go_wp2
    refine bodyPost_ret (results_cell_row rfl _ _ gb188 63 #[.bool a0_0, .bool a0_1, .bool (a1_1.toList == ([89, 101, 115] : List UInt8)), .bool a0_3, .int .i64 a0_4, .int .i64 a0_5, .string a0_6, .string a0_7, .string a1_1, .bool t206] (0, 0) _ rfl (by (with_reducible repeat (first | refine blk_drewN ?_ _ | refine blk_drew ?_ | refine blk_alloc ?_ _)); refine blk_put (cs := #[.bool a0_0, .bool a0_1, .bool (a1_1.toList == ([89, 101, 115] : List UInt8)), .bool a0_3, .int .i64 a0_4, .int .i64 a0_5, .string a0_6, .string a0_7, .string a1_1, .bool false]) ?_ 9 _ rfl; (with_reducible repeat (first | refine blk_drewN ?_ _ | refine blk_drew ?_ | refine blk_alloc ?_ _)); refine blk_put (cs := #[.bool a0_0, .bool a0_1, .bool (a1_1.toList == ([89, 101, 115] : List UInt8)), .bool a0_3, .int .i64 a0_4, .int .i64 a0_5, .string a0_6, .string a0_7, .string (⟨#[]⟩ : ByteArray), .bool false]) ?_ 8 _ rfl; (with_reducible repeat (first | refine blk_drewN ?_ _ | refine blk_drew ?_ | refine blk_alloc ?_ _)); refine blk_put (cs := #[.bool a0_0, .bool a0_1, .bool (a1_1.toList == ([89, 101, 115] : List UInt8)), .bool a0_3, .int .i64 a0_4, .int .i64 a0_5, .string a0_6, .string (⟨#[]⟩ : ByteArray), .string (⟨#[]⟩ : ByteArray), .bool false]) ?_ 7 _ rfl; (with_reducible repeat (first | refine blk_drewN ?_ _ | refine blk_drew ?_ | refine blk_alloc ?_ _)); refine blk_put (cs := #[.bool a0_0, .bool a0_1, .bool (a1_1.toList == ([89, 101, 115] : List UInt8)), .bool a0_3, .int .i64 a0_4, .int .i64 a0_5, .string (⟨#[]⟩ : ByteArray), .string (⟨#[]⟩ : ByteArray), .string (⟨#[]⟩ : ByteArray), .bool false]) ?_ 6 _ rfl; (with_reducible repeat (first | refine blk_drewN ?_ _ | refine blk_drew ?_ | refine blk_alloc ?_ _)); refine blk_put (cs := #[.bool a0_0, .bool a0_1, .bool (a1_1.toList == ([89, 101, 115] : List UInt8)), .bool a0_3, .int .i64 a0_4, .int .i64 0, .string (⟨#[]⟩ : ByteArray), .string (⟨#[]⟩ : ByteArray), .string (⟨#[]⟩ : ByteArray), .bool false]) ?_ 5 _ rfl; (with_reducible repeat (first | refine blk_drewN ?_ _ | refine blk_drew ?_ | refine blk_alloc ?_ _)); refine blk_put (cs := #[.bool a0_0, .bool a0_1, .bool (a1_1.toList == ([89, 101, 115] : List UInt8)), .bool a0_3, .int .i64 0, .int .i64 0, .string (⟨#[]⟩ : ByteArray), .string (⟨#[]⟩ : ByteArray), .string (⟨#[]⟩ : ByteArray), .bool false]) ?_ 4 _ rfl; (with_reducible repeat (first | refine blk_drewN ?_ _ | refine blk_drew ?_ | refine blk_alloc ?_ _)); refine blk_put (cs := #[.bool a0_0, .bool a0_1, .bool (a1_1.toList == ([89, 101, 115] : List UInt8)), .bool false, .int .i64 0, .int .i64 0, .string (⟨#[]⟩ : ByteArray), .string (⟨#[]⟩ : ByteArray), .string (⟨#[]⟩ : ByteArray), .bool false]) ?_ 3 _ rfl; (with_reducible repeat (first | refine blk_drewN ?_ _ | refine blk_drew ?_ | refine blk_alloc ?_ _)); refine blk_put (cs := #[.bool a0_0, .bool a0_1, .bool false, .bool false, .int .i64 0, .int .i64 0, .string (⟨#[]⟩ : ByteArray), .string (⟨#[]⟩ : ByteArray), .string (⟨#[]⟩ : ByteArray), .bool false]) ?_ 2 _ rfl; (with_reducible repeat (first | refine blk_drewN ?_ _ | refine blk_drew ?_ | refine blk_alloc ?_ _)); refine blk_put (cs := #[.bool a0_0, .bool false, .bool false, .bool false, .int .i64 0, .int .i64 0, .string (⟨#[]⟩ : ByteArray), .string (⟨#[]⟩ : ByteArray), .string (⟨#[]⟩ : ByteArray), .bool false]) ?_ 1 _ rfl; (with_reducible repeat (first | refine blk_drewN ?_ _ | refine blk_drew ?_ | refine blk_alloc ?_ _)); refine blk_put (cs := #[.bool false, .bool false, .bool false, .bool false, .int .i64 0, .int .i64 0, .string (⟨#[]⟩ : ByteArray), .string (⟨#[]⟩ : ByteArray), .string (⟨#[]⟩ : ByteArray), .bool false]) ?_ 0 _ rfl; (with_reducible repeat (first | refine blk_drewN ?_ _ | refine blk_drew ?_ | refine blk_alloc ?_ _)); exact BK188.out) Tryd.underlying63 rfl (by kernel_rfl)) rfl ?_
    exact ⟨by first | rfl | (simp [errW_none, errW_some] <;> rfl) | (simp [*, errW_none, errW_some] <;> rfl) | (simp [bt, *]; done) | (unfold bt; simp [*]; done), by repeat (first | (with_reducible first | exact HB.out | apply below_alloc | apply pw_below_drewN | apply below_drew1 | refine below_set ?_ GE186.out | refine below_set ?_ GE187.out | refine below_set ?_ GE188.out) | exact HB.out)⟩
   rw [if_neg c106] at H
   have c106b0 : (a1_0.toList == ([73, 109, 109, 101, 100, 105, 97, 116, 101, 68, 97, 116, 97] : List UInt8)) = false := beq_eq_false_iff_ne.mpr c106
   have c106b1 : (a1_0.toList != ([73, 109, 109, 101, 100, 105, 97, 116, 101, 68, 97, 116, 97] : List UInt8)) = true := bne_iff_ne.mpr c106
   have HC123 := Aside0.mk H
   clear H
   go_upto_if 79 with (fail)
   go_cut [79] (fun v79 wc => ∃ (kq : Nat) (x79_122 : Bool), v79 = .bool x79_122 ∧ Aside0 (headgateref21_one.j1 kq a1_1 t189 a1_0 x79_122 a0_0 a0_1 a0_2 a0_3 a0_4 a0_5 a0_6 a0_7 = some (r1, r2, r3, r4, r5, r6, r7, r8, r9, r10)) ∧ Aside0 (kq ≤ kj69) ∧ Aside0 (wc.heap[gb186]? = some (.cells #[.bool a0_0, .bool a0_1, .bool a0_2, .bool a0_3, .int .i64 a0_4, .int .i64 a0_5, .string a0_6, .string a0_7] 31 (0, 0))) ∧ Aside0 (wc.heap[gb187]? = some (.cells #[.string a1_0, .string a1_1] 45 (0, 0))) ∧ Aside0 (wc.heap[gb188]? = some (.cells #[.bool false, .bool false, .bool false, .bool false, .int .i64 0, .int .i64 0, .string (⟨#[]⟩ : ByteArray), .string (⟨#[]⟩ : ByteArray), .string (⟨#[]⟩ : ByteArray), .bool false] 63 (0, 0))) ∧ Aside0 (Below w.heap.size w wc))
   case first =>
    have H := HC123.out
    clear HC123
    by_cases c124 : a1_0.toList = ([73, 110, 105, 116, 105, 97, 108, 82, 50, 84] : List UInt8)
    ·rw [if_pos c124] at H
     have c124b0 : (a1_0.toList == ([73, 110, 105, 116, 105, 97, 108, 82, 50, 84] : List UInt8)) = true := beq_iff_eq.mpr c124
     have c124b1 : (a1_0.toList != ([73, 110, 105, 116, 105, 97, 108, 82, 50, 84] : List UInt8)) = false := bne_eq_false_iff_eq.mpr c124
     clear c124
     (first | rw [c124b0] | (simp only [i64_w, i32_w]; rw [c124b0]) | skip)
     have H' := Aside0.mk H
     clear H
     go_wp2
     go_meet
     case rel => exact ⟨_, ((a1_0.toList == ([73, 110, 105, 116, 105, 97, 108, 82, 50, 84] : List UInt8))), (by first | rfl | (simp; done) | (simp [*]; done)), H', ⟨by have := HJ69.out; first | omega | exact Nat.le_refl _⟩, ⟨bk_ BK186⟩, ⟨bk_ BK187⟩, ⟨bk_ BK188⟩, ⟨hb_ HB⟩⟩
    rw [if_neg c124] at H
    have c124b0 : (a1_0.toList == ([73, 110, 105, 116, 105, 97, 108, 82, 50, 84] : List UInt8)) = false := beq_eq_false_iff_ne.mpr c124
    have c124b1 : (a1_0.toList != ([73, 110, 105, 116, 105, 97, 108, 82, 50, 84] : List UInt8)) = true := bne_iff_ne.mpr c124
    (first | rw [c124b0] | (simp only [i64_w, i32_w]; rw [c124b0]) | skip)
    by_cases c125 : a1_0.toList = ([68, 97, 116, 97, 80, 68, 85, 73, 110, 79, 114, 100, 101, 114] : List UInt8)
    ·rw [if_pos c125] at H
     have c125b0 : (a1_0.toList == ([68, 97, 116, 97, 80, 68, 85, 73, 110, 79, 114, 100, 101, 114] : List UInt8)) = true := beq_iff_eq.mpr c125
     have c125b1 : (a1_0.toList != ([68, 97, 116, 97, 80, 68, 85, 73, 110, 79, 114, 100, 101, 114] : List UInt8)) = false := bne_eq_false_iff_eq.mpr c125
     clear c125
     have H' := Aside0.mk H
     clear H
     go_wp2
     go_meet
     case rel => exact ⟨_, ((a1_0.toList == ([68, 97, 116, 97, 80, 68, 85, 73, 110, 79, 114, 100, 101, 114] : List UInt8))), (by first | rfl | (simp; done) | (simp [*]; done)), H', ⟨by have := HJ69.out; first | omega | exact Nat.le_refl _⟩, ⟨bk_ BK186⟩, ⟨bk_ BK187⟩, ⟨bk_ BK188⟩, ⟨hb_ HB⟩⟩
    rw [if_neg c125] at H
    have c125b0 : (a1_0.toList == ([68, 97, 116, 97, 80, 68, 85, 73, 110, 79, 114, 100, 101, 114] : List UInt8)) = false := beq_eq_false_iff_ne.mpr c125
    have c125b1 : (a1_0.toList != ([68, 97, 116, 97, 80, 68, 85, 73, 110, 79, 114, 100, 101, 114] : List UInt8)) = true := bne_iff_ne.mpr c125
    have H' := Aside0.mk H
    clear H
    go_wp2
    go_meet
    case rel => exact ⟨_, ((a1_0.toList == ([68, 97, 116, 97, 83, 101, 113, 117, 101, 110, 99, 101, 73, 110, 79, 114, 100, 101, 114] : List UInt8))), (by first | rfl | (simp; done) | (simp [*]; done)), H', ⟨by have := HJ69.out; first | omega | exact Nat.le_refl _⟩, ⟨bk_ BK186⟩, ⟨bk_ BK187⟩, ⟨bk_ BK188⟩, ⟨hb_ HB⟩⟩
   case rest =>
    clear HC123
    try clear c1
    try clear c2
    try clear p2
    try clear c3
    try clear c4
    try clear c4b0
    try clear c4b1
    try clear c5
    try clear c6
    try clear c7
    try clear c8
    try clear c9
    try clear c10
    try clear c12
    try clear c25
    try clear c26
    try clear c26b0
    try clear c26b1
    try clear c31
    try clear c32
    try clear c34
    try clear c48
    try clear c48b0
    try clear c48b1
    try clear c51
    try clear c52
    try clear c53
    try clear c54
    try clear c55
    try clear c58
    try clear c58b0
    try clear c58b1
    try clear c63
    try clear c64
    try clear c66
    try clear c74
    try clear c75
    try clear c77
    try clear c77b0
    try clear c77b1
    try clear c78
    try clear c80
    try clear c80b0
    try clear c80b1
    try clear c84
    try clear c85
    try clear c87
    try clear c93
    try clear c94
    try clear c96
    try clear c99
    try clear c99b0
    try clear c99b1
    try clear c101
    try clear c102
    try clear c104
    try clear c106
    try clear c106b0
    try clear c106b1
    try clear c108
    try clear c109
    try clear c124
    try clear c124b0
    try clear c124b1
    try clear c125
    try clear c125b0
    try clear c125b1
    try clear hcz103_0
    try clear hcz103_1
    try clear hcz103_2
    try clear hcz103_3
    try clear hcz103_4
    try clear hcz103_5
    try clear hcz103_6
    try clear hcz103_7
    try clear hcz105_0
    try clear hcz105_1
    try clear hcz105_2
    try clear hcz105_3
    try clear hcz105_4
    try clear hcz105_5
    try clear hcz105_6
    try clear hcz105_7
    try clear hcz105_8
    try clear hcz105_9
    try clear hcz110_0
    try clear hcz110_1
    try clear hcz110_2
    try clear hcz110_3
    try clear hcz110_4
    try clear hcz110_5
    try clear hcz110_6
    try clear hcz110_7
    try clear hcz11_0
    try clear hcz11_1
    try clear hcz13_0
    try clear hcz13_1
    try clear hcz13_2
    try clear hcz13_3
    try clear hcz13_4
    try clear hcz13_5
    try clear hcz13_6
    try clear hcz13_7
    try clear hcz33_0
    try clear hcz33_1
    try clear hcz35_0
    try clear hcz35_1
    try clear hcz35_2
    try clear hcz35_3
    try clear hcz35_4
    try clear hcz35_5
    try clear hcz35_6
    try clear hcz35_7
    try clear hcz54_0
    try clear hcz54_1
    try clear hcz56_0
    try clear hcz56_1
    try clear hcz56_2
    try clear hcz56_3
    try clear hcz56_4
    try clear hcz56_5
    try clear hcz56_6
    try clear hcz56_7
    try clear hcz57_0
    try clear hcz57_1
    try clear hcz57_2
    try clear hcz57_3
    try clear hcz57_4
    try clear hcz57_5
    try clear hcz57_6
    try clear hcz57_7
    try clear hcz57_8
    try clear hcz57_9
    try clear hcz65_0
    try clear hcz65_1
    try clear hcz67_0
    try clear hcz67_1
    try clear hcz67_2
    try clear hcz67_3
    try clear hcz67_4
    try clear hcz67_5
    try clear hcz67_6
    try clear hcz67_7
    try clear hcz69_0
    try clear hcz69_1
    try clear hcz69_2
    try clear hcz69_3
    try clear hcz69_4
    try clear hcz69_5
    try clear hcz69_6
    try clear hcz69_7
    try clear hcz69_8
    try clear hcz69_9
    try clear hcz76_0
    try clear hcz76_1
    try clear hcz86_0
    try clear hcz86_1
    try clear hcz88_0
    try clear hcz88_1
    try clear hcz88_2
    try clear hcz88_3
    try clear hcz88_4
    try clear hcz88_5
    try clear hcz88_6
    try clear hcz88_7
    try clear hcz89_0
    try clear hcz89_1
    try clear hcz89_2
    try clear hcz89_3
    try clear hcz89_4
    try clear hcz89_5
    try clear hcz89_6
    try clear hcz89_7
    try clear hcz89_8
    try clear hcz89_9
    try clear hcz95_0
    try clear hcz95_1
    try clear hcz97_0
    try clear hcz97_1
    try clear hcz97_2
    try clear hcz97_3
    try clear hcz97_4
    try clear hcz97_5
    try clear hcz97_6
    try clear hcz97_7
    try clear hcz98_0
    try clear hcz98_1
    try clear hcz98_2
    try clear hcz98_3
    try clear hcz98_4
    try clear hcz98_5
    try clear hcz98_6
    try clear hcz98_7
    try clear hcz98_8
    try clear hcz98_9
    try clear hfz103_0
    try clear hfz103_1
    try clear hfz103_2
    try clear hfz103_3
    try clear hfz103_4
    try clear hfz103_5
    try clear hfz103_6
    try clear hfz103_7
    try clear hfz105_0
    try clear hfz105_1
    try clear hfz105_2
    try clear hfz105_3
    try clear hfz105_4
    try clear hfz105_5
    try clear hfz105_6
    try clear hfz105_7
    try clear hfz105_8
    try clear hfz105_9
    try clear hfz110_0
    try clear hfz110_1
    try clear hfz110_2
    try clear hfz110_3
    try clear hfz110_4
    try clear hfz110_5
    try clear hfz110_6
    try clear hfz110_7
    try clear hfz11_0
    try clear hfz11_1
    try clear hfz13_0
    try clear hfz13_1
    try clear hfz13_2
    try clear hfz13_3
    try clear hfz13_4
    try clear hfz13_5
    try clear hfz13_6
    try clear hfz13_7
    try clear hfz33_0
    try clear hfz33_1
    try clear hfz35_0
    try clear hfz35_1
    try clear hfz35_2
    try clear hfz35_3
    try clear hfz35_4
    try clear hfz35_5
    try clear hfz35_6
    try clear hfz35_7
    try clear hfz54_0
    try clear hfz54_1
    try clear hfz56_0
    try clear hfz56_1
    try clear hfz56_2
    try clear hfz56_3
    try clear hfz56_4
    try clear hfz56_5
    try clear hfz56_6
    try clear hfz56_7
    try clear hfz57_0
    try clear hfz57_1
    try clear hfz57_2
    try clear hfz57_3
    try clear hfz57_4
    try clear hfz57_5
    try clear hfz57_6
    try clear hfz57_7
    try clear hfz57_8
    try clear hfz57_9
    try clear hfz65_0
    try clear hfz65_1
    try clear hfz67_0
    try clear hfz67_1
    try clear hfz67_2
    try clear hfz67_3
    try clear hfz67_4
    try clear hfz67_5
    try clear hfz67_6
    try clear hfz67_7
    try clear hfz69_0
    try clear hfz69_1
    try clear hfz69_2
    try clear hfz69_3
    try clear hfz69_4
    try clear hfz69_5
    try clear hfz69_6
    try clear hfz69_7
    try clear hfz69_8
    try clear hfz69_9
    try clear hfz76_0
    try clear hfz76_1
    try clear hfz86_0
    try clear hfz86_1
    try clear hfz88_0
    try clear hfz88_1
    try clear hfz88_2
    try clear hfz88_3
    try clear hfz88_4
    try clear hfz88_5
    try clear hfz88_6
    try clear hfz88_7
    try clear hfz89_0
    try clear hfz89_1
    try clear hfz89_2
    try clear hfz89_3
    try clear hfz89_4
    try clear hfz89_5
    try clear hfz89_6
    try clear hfz89_7
    try clear hfz89_8
    try clear hfz89_9
    try clear hfz95_0
    try clear hfz95_1
    try clear hfz97_0
    try clear hfz97_1
    try clear hfz97_2
    try clear hfz97_3
    try clear hfz97_4
    try clear hfz97_5
    try clear hfz97_6
    try clear hfz97_7
    try clear hfz98_0
    try clear hfz98_1
    try clear hfz98_2
    try clear hfz98_3
    try clear hfz98_4
    try clear hfz98_5
    try clear hfz98_6
    try clear hfz98_7
    try clear hfz98_8
    try clear hfz98_9
    try clear p2
    obtain ⟨kq, x79_122, rfl, HA, HJ122, BK186, BK187, BK188, HB⟩ := hcut
    cases kq with
    | zero => exact absurd HA.out (by simp [headgateref21_one.j1])
    | succ kj122 =>
     have H := HA.out
     clear HA
     simp only [headgateref21_one.j1] at H
     by_cases c126 : x79_122 = true
     ·subst c126
      have H1 := H
      rw [if_pos rfl] at H1
      clear H
      have H := H1
      clear H1
      replace H := Option.bind_eq_some_iff.mp H
      obtain ⟨t207, A1270, H⟩ := H
      try dsimp only at H
      have A127 := Aside0.mk A1270
      clear A1270
      simp only [Option.some.injEq, Prod.mk.injEq] at H
      obtain ⟨rfl, rfl, rfl, rfl, rfl, rfl, rfl, rfl, rfl, rfl⟩ := H
      try go_wp2
      have n0_ := Aside0.mk (blk_drew BK186.out)
      have n1_ := Aside0.mk (blk_drew BK187.out)
      have n2_ := Aside0.mk (blk_drew BK188.out)
      have n3_ := Aside0.mk (below_drew1 HB.out)
      clear BK186
      clear BK187
      clear BK188
      clear HB
      have BK186 := n0_
      have BK187 := n1_
      have BK188 := n2_
      have HB := n3_
      clear n0_ n1_ n2_ n3_
      refine start_ (n := 5) (S := fun w' => w'.cell? ⟨gb186, 0, none⟩ = some (.bool a0_0) ∧ w'.cell? ⟨gb186, 1, none⟩ = some (.bool a0_1) ∧ w'.cell? ⟨gb186, 2, none⟩ = some (.bool a0_2) ∧ w'.cell? ⟨gb186, 3, none⟩ = some (.bool a0_3) ∧ w'.cell? ⟨gb186, 4, none⟩ = some (.int .i64 a0_4) ∧ w'.cell? ⟨gb186, 5, none⟩ = some (.int .i64 a0_5) ∧ w'.cell? ⟨gb186, 6, none⟩ = some (.string a0_6) ∧ w'.cell? ⟨gb186, 7, none⟩ = some (.string a0_7)) (ds := []) d25x3 (by kernel_rfl) rfl rfl ⟨(blk_cell BK186.out 0).trans rfl, (blk_cell BK186.out 1).trans rfl, (blk_cell BK186.out 2).trans rfl, (blk_cell BK186.out 3).trans rfl, (blk_cell BK186.out 4).trans rfl, (blk_cell BK186.out 5).trans rfl, (blk_cell BK186.out 6).trans rfl, (blk_cell BK186.out 7).trans rfl⟩ (fun hHeld => ?_)
      generalize wc.drew = w128 at BK186 BK187 BK188 HB hHeld ⊢
      refine qon_ 1 (some 84) d25x9 ?_
      refine qtk_ 0 (some 83) d25x17 hHeld ?_
      refine one_ (i := 2) (N := some 85) d25x21 rfl rfl (by kernel_rfl) (by decide) (fun K hK => ?_)
      refine goes_ Tryd.func55 (by kernel_rfl) rfl #[.string a1_1] (by rfl) rfl rfl (by (try simp only [List.map_toArray, List.map_cons, List.map_nil]); first | done | rfl | (simp only [List.length_drop, List.length_take]; rfl)) ?_
      with_reducible refine (headgateref21_yes.calls a1_1 t207 _ A127.out).mono ?_
      rintro e w' ⟨rfl, ⟨nd, rfl⟩⟩
      refine ⟨_, rfl, ?_⟩
      refine hK.out _ _ ⟨(blk_cell BK186.out 0).trans rfl, (blk_cell BK186.out 1).trans rfl, (blk_cell BK186.out 2).trans rfl, (blk_cell BK186.out 3).trans rfl, (blk_cell BK186.out 4).trans rfl, (blk_cell BK186.out 5).trans rfl, (blk_cell BK186.out 6).trans rfl, (blk_cell BK186.out 7).trans rfl⟩ (fun hHeld => ?_)
      clear hK K
      refine norm_ (a' := ?_) ?_ ?_
      rotate_left
      ·show Act.put _ (some 85) _ = _
       simp only [Act.put, la_, lb_, lc_, i64_w, i32_w]
       rfl
      refine qon_ 3 (some 86) d25x25 ?_
      refine one_ (i := 4) (N := none) d25x34 rfl rfl (by kernel_rfl) (by decide) (fun K hK => ?_)
      have hs129 : w128.cell? ⟨gb188, 0, none⟩ = some (.bool false) := (blk_cell BK188.out 0).trans rfl
      have hfs129 := blk_frozen BK188.out 0
      have hns129_0 := NB186_188.out
      have hns129_1 := NB187_188.out
      have hms129_0 := NB188_186.out
      have hms129_1 := NB188_187.out
      have hs130 : w128.cell? ⟨gb188, 1, none⟩ = some (.bool false) := (blk_cell BK188.out 1).trans rfl
      have hfs130 := blk_frozen BK188.out 1
      have hns130_0 := NB186_188.out
      have hns130_1 := NB187_188.out
      have hms130_0 := NB188_186.out
      have hms130_1 := NB188_187.out
      have hs131 : w128.cell? ⟨gb188, 2, none⟩ = some (.bool false) := (blk_cell BK188.out 2).trans rfl
      have hfs131 := blk_frozen BK188.out 2
      have hns131_0 := NB186_188.out
      have hns131_1 := NB187_188.out
      have hms131_0 := NB188_186.out
      have hms131_1 := NB188_187.out
      have hs132 : w128.cell? ⟨gb188, 3, none⟩ = some (.bool false) := (blk_cell BK188.out 3).trans rfl
      have hfs132 := blk_frozen BK188.out 3
      have hns132_0 := NB186_188.out
      have hns132_1 := NB187_188.out
      have hms132_0 := NB188_186.out
      have hms132_1 := NB188_187.out
      have hs133 : w128.cell? ⟨gb188, 4, none⟩ = some (.int .i64 0) := (blk_cell BK188.out 4).trans rfl
      have hfs133 := blk_frozen BK188.out 4
      have hns133_0 := NB186_188.out
      have hns133_1 := NB187_188.out
      have hms133_0 := NB188_186.out
      have hms133_1 := NB188_187.out
      have hs134 : w128.cell? ⟨gb188, 5, none⟩ = some (.int .i64 0) := (blk_cell BK188.out 5).trans rfl
      have hfs134 := blk_frozen BK188.out 5
      have hns134_0 := NB186_188.out
      have hns134_1 := NB187_188.out
      have hms134_0 := NB188_186.out
      have hms134_1 := NB188_187.out
      have hs135 : w128.cell? ⟨gb188, 6, none⟩ = some (.string (⟨#[]⟩ : ByteArray)) := (blk_cell BK188.out 6).trans rfl
      have hfs135 := blk_frozen BK188.out 6
      have hns135_0 := NB186_188.out
      have hns135_1 := NB187_188.out
      have hms135_0 := NB188_186.out
      have hms135_1 := NB188_187.out
      have hs136 : w128.cell? ⟨gb188, 7, none⟩ = some (.string (⟨#[]⟩ : ByteArray)) := (blk_cell BK188.out 7).trans rfl
      have hfs136 := blk_frozen BK188.out 7
      have hns136_0 := NB186_188.out
      have hns136_1 := NB187_188.out
      have hms136_0 := NB188_186.out
      have hms136_1 := NB188_187.out
      have hs137 : w128.cell? ⟨gb188, 8, none⟩ = some (.string (⟨#[]⟩ : ByteArray)) := (blk_cell BK188.out 8).trans rfl
      have hfs137 := blk_frozen BK188.out 8
      have hns137_0 := NB186_188.out
      have hns137_1 := NB187_188.out
      have hms137_0 := NB188_186.out
      have hms137_1 := NB188_187.out
      have hs138 : w128.cell? ⟨gb188, 9, none⟩ = some (.bool false) := (blk_cell BK188.out 9).trans rfl
      have hfs138 := blk_frozen BK188.out 9
      have hns138_0 := NB186_188.out
      have hns138_1 := NB187_188.out
      have hms138_0 := NB188_186.out
      have hms138_1 := NB188_187.out
      refine skip_ (w1 := ?_) (by rfl) rfl ?_ ?_
      rotate_left
      ·go_simp
       rfl
      refine hK.out _ _ ⟨((cell_far (p := ⟨gb188, _, none⟩) NB186_188.out _).trans (((cell_far (p := ⟨gb188, _, none⟩) NB186_188.out _).trans (((cell_far (p := ⟨gb188, _, none⟩) NB186_188.out _).trans (((cell_far (p := ⟨gb188, _, none⟩) NB186_188.out _).trans (((cell_far (p := ⟨gb188, _, none⟩) NB186_188.out _).trans (((cell_far (p := ⟨gb188, _, none⟩) NB186_188.out _).trans (((cell_far (p := ⟨gb188, _, none⟩) NB186_188.out _).trans (((cell_far (p := ⟨gb188, _, none⟩) NB186_188.out _).trans (((cell_far (p := ⟨gb188, _, none⟩) NB186_188.out _).trans (((cell_far (p := ⟨gb188, _, none⟩) NB186_188.out _).trans (hHeld.1)))))))))))))))))))), ((cell_far (p := ⟨gb188, _, none⟩) NB186_188.out _).trans (((cell_far (p := ⟨gb188, _, none⟩) NB186_188.out _).trans (((cell_far (p := ⟨gb188, _, none⟩) NB186_188.out _).trans (((cell_far (p := ⟨gb188, _, none⟩) NB186_188.out _).trans (((cell_far (p := ⟨gb188, _, none⟩) NB186_188.out _).trans (((cell_far (p := ⟨gb188, _, none⟩) NB186_188.out _).trans (((cell_far (p := ⟨gb188, _, none⟩) NB186_188.out _).trans (((cell_far (p := ⟨gb188, _, none⟩) NB186_188.out _).trans (((cell_far (p := ⟨gb188, _, none⟩) NB186_188.out _).trans (((cell_far (p := ⟨gb188, _, none⟩) NB186_188.out _).trans (hHeld.2.1)))))))))))))))))))), ((cell_far (p := ⟨gb188, _, none⟩) NB186_188.out _).trans (((cell_far (p := ⟨gb188, _, none⟩) NB186_188.out _).trans (((cell_far (p := ⟨gb188, _, none⟩) NB186_188.out _).trans (((cell_far (p := ⟨gb188, _, none⟩) NB186_188.out _).trans (((cell_far (p := ⟨gb188, _, none⟩) NB186_188.out _).trans (((cell_far (p := ⟨gb188, _, none⟩) NB186_188.out _).trans (((cell_far (p := ⟨gb188, _, none⟩) NB186_188.out _).trans (((cell_far (p := ⟨gb188, _, none⟩) NB186_188.out _).trans (((cell_far (p := ⟨gb188, _, none⟩) NB186_188.out _).trans (((cell_far (p := ⟨gb188, _, none⟩) NB186_188.out _).trans (hHeld.2.2.1)))))))))))))))))))), ((cell_far (p := ⟨gb188, _, none⟩) NB186_188.out _).trans (((cell_far (p := ⟨gb188, _, none⟩) NB186_188.out _).trans (((cell_far (p := ⟨gb188, _, none⟩) NB186_188.out _).trans (((cell_far (p := ⟨gb188, _, none⟩) NB186_188.out _).trans (((cell_far (p := ⟨gb188, _, none⟩) NB186_188.out _).trans (((cell_far (p := ⟨gb188, _, none⟩) NB186_188.out _).trans (((cell_far (p := ⟨gb188, _, none⟩) NB186_188.out _).trans (((cell_far (p := ⟨gb188, _, none⟩) NB186_188.out _).trans (((cell_far (p := ⟨gb188, _, none⟩) NB186_188.out _).trans (((cell_far (p := ⟨gb188, _, none⟩) NB186_188.out _).trans (hHeld.2.2.2.1)))))))))))))))))))), ((cell_far (p := ⟨gb188, _, none⟩) NB186_188.out _).trans (((cell_far (p := ⟨gb188, _, none⟩) NB186_188.out _).trans (((cell_far (p := ⟨gb188, _, none⟩) NB186_188.out _).trans (((cell_far (p := ⟨gb188, _, none⟩) NB186_188.out _).trans (((cell_far (p := ⟨gb188, _, none⟩) NB186_188.out _).trans (((cell_far (p := ⟨gb188, _, none⟩) NB186_188.out _).trans (((cell_far (p := ⟨gb188, _, none⟩) NB186_188.out _).trans (((cell_far (p := ⟨gb188, _, none⟩) NB186_188.out _).trans (((cell_far (p := ⟨gb188, _, none⟩) NB186_188.out _).trans (((cell_far (p := ⟨gb188, _, none⟩) NB186_188.out _).trans (hHeld.2.2.2.2.1)))))))))))))))))))), ((cell_far (p := ⟨gb188, _, none⟩) NB186_188.out _).trans (((cell_far (p := ⟨gb188, _, none⟩) NB186_188.out _).trans (((cell_far (p := ⟨gb188, _, none⟩) NB186_188.out _).trans (((cell_far (p := ⟨gb188, _, none⟩) NB186_188.out _).trans (((cell_far (p := ⟨gb188, _, none⟩) NB186_188.out _).trans (((cell_far (p := ⟨gb188, _, none⟩) NB186_188.out _).trans (((cell_far (p := ⟨gb188, _, none⟩) NB186_188.out _).trans (((cell_far (p := ⟨gb188, _, none⟩) NB186_188.out _).trans (((cell_far (p := ⟨gb188, _, none⟩) NB186_188.out _).trans (((cell_far (p := ⟨gb188, _, none⟩) NB186_188.out _).trans (hHeld.2.2.2.2.2.1)))))))))))))))))))), ((cell_far (p := ⟨gb188, _, none⟩) NB186_188.out _).trans (((cell_far (p := ⟨gb188, _, none⟩) NB186_188.out _).trans (((cell_far (p := ⟨gb188, _, none⟩) NB186_188.out _).trans (((cell_far (p := ⟨gb188, _, none⟩) NB186_188.out _).trans (((cell_far (p := ⟨gb188, _, none⟩) NB186_188.out _).trans (((cell_far (p := ⟨gb188, _, none⟩) NB186_188.out _).trans (((cell_far (p := ⟨gb188, _, none⟩) NB186_188.out _).trans (((cell_far (p := ⟨gb188, _, none⟩) NB186_188.out _).trans (((cell_far (p := ⟨gb188, _, none⟩) NB186_188.out _).trans (((cell_far (p := ⟨gb188, _, none⟩) NB186_188.out _).trans (hHeld.2.2.2.2.2.2.1)))))))))))))))))))), ((cell_far (p := ⟨gb188, _, none⟩) NB186_188.out _).trans (((cell_far (p := ⟨gb188, _, none⟩) NB186_188.out _).trans (((cell_far (p := ⟨gb188, _, none⟩) NB186_188.out _).trans (((cell_far (p := ⟨gb188, _, none⟩) NB186_188.out _).trans (((cell_far (p := ⟨gb188, _, none⟩) NB186_188.out _).trans (((cell_far (p := ⟨gb188, _, none⟩) NB186_188.out _).trans (((cell_far (p := ⟨gb188, _, none⟩) NB186_188.out _).trans (((cell_far (p := ⟨gb188, _, none⟩) NB186_188.out _).trans (((cell_far (p := ⟨gb188, _, none⟩) NB186_188.out _).trans (((cell_far (p := ⟨gb188, _, none⟩) NB186_188.out _).trans (hHeld.2.2.2.2.2.2.2))))))))))))))))))))⟩ (fun hHeld => ?_)
      clear hK K
      refine done_ (by kernel_rfl) ?_
      try go_wp2
      refine bodyPost_ret (results_cell_row rfl _ _ gb188 63 #[.bool a0_0, .bool a0_1, .bool a0_2, .bool a0_3, .int .i64 a0_4, .int .i64 a0_5, .string a0_6, .string a0_7, .string (⟨#[89, 101, 115]⟩ : ByteArray), .bool t207] (0, 0) _ rfl (by (with_reducible repeat (first | refine blk_drewN ?_ _ | refine blk_drew ?_ | refine blk_alloc ?_ _)); refine blk_put (cs := #[.bool a0_0, .bool a0_1, .bool a0_2, .bool a0_3, .int .i64 a0_4, .int .i64 a0_5, .string a0_6, .string a0_7, .string (⟨#[89, 101, 115]⟩ : ByteArray), .bool false]) ?_ 9 _ rfl; (with_reducible repeat (first | refine blk_drewN ?_ _ | refine blk_drew ?_ | refine blk_alloc ?_ _)); refine blk_put (cs := #[.bool a0_0, .bool a0_1, .bool a0_2, .bool a0_3, .int .i64 a0_4, .int .i64 a0_5, .string a0_6, .string a0_7, .string (⟨#[]⟩ : ByteArray), .bool false]) ?_ 8 _ rfl; (with_reducible repeat (first | refine blk_drewN ?_ _ | refine blk_drew ?_ | refine blk_alloc ?_ _)); refine blk_put (cs := #[.bool a0_0, .bool a0_1, .bool a0_2, .bool a0_3, .int .i64 a0_4, .int .i64 a0_5, .string a0_6, .string (⟨#[]⟩ : ByteArray), .string (⟨#[]⟩ : ByteArray), .bool false]) ?_ 7 _ rfl; (with_reducible repeat (first | refine blk_drewN ?_ _ | refine blk_drew ?_ | refine blk_alloc ?_ _)); refine blk_put (cs := #[.bool a0_0, .bool a0_1, .bool a0_2, .bool a0_3, .int .i64 a0_4, .int .i64 a0_5, .string (⟨#[]⟩ : ByteArray), .string (⟨#[]⟩ : ByteArray), .string (⟨#[]⟩ : ByteArray), .bool false]) ?_ 6 _ rfl; (with_reducible repeat (first | refine blk_drewN ?_ _ | refine blk_drew ?_ | refine blk_alloc ?_ _)); refine blk_put (cs := #[.bool a0_0, .bool a0_1, .bool a0_2, .bool a0_3, .int .i64 a0_4, .int .i64 0, .string (⟨#[]⟩ : ByteArray), .string (⟨#[]⟩ : ByteArray), .string (⟨#[]⟩ : ByteArray), .bool false]) ?_ 5 _ rfl; (with_reducible repeat (first | refine blk_drewN ?_ _ | refine blk_drew ?_ | refine blk_alloc ?_ _)); refine blk_put (cs := #[.bool a0_0, .bool a0_1, .bool a0_2, .bool a0_3, .int .i64 0, .int .i64 0, .string (⟨#[]⟩ : ByteArray), .string (⟨#[]⟩ : ByteArray), .string (⟨#[]⟩ : ByteArray), .bool false]) ?_ 4 _ rfl; (with_reducible repeat (first | refine blk_drewN ?_ _ | refine blk_drew ?_ | refine blk_alloc ?_ _)); refine blk_put (cs := #[.bool a0_0, .bool a0_1, .bool a0_2, .bool false, .int .i64 0, .int .i64 0, .string (⟨#[]⟩ : ByteArray), .string (⟨#[]⟩ : ByteArray), .string (⟨#[]⟩ : ByteArray), .bool false]) ?_ 3 _ rfl; (with_reducible repeat (first | refine blk_drewN ?_ _ | refine blk_drew ?_ | refine blk_alloc ?_ _)); refine blk_put (cs := #[.bool a0_0, .bool a0_1, .bool false, .bool false, .int .i64 0, .int .i64 0, .string (⟨#[]⟩ : ByteArray), .string (⟨#[]⟩ : ByteArray), .string (⟨#[]⟩ : ByteArray), .bool false]) ?_ 2 _ rfl; (with_reducible repeat (first | refine blk_drewN ?_ _ | refine blk_drew ?_ | refine blk_alloc ?_ _)); refine blk_put (cs := #[.bool a0_0, .bool false, .bool false, .bool false, .int .i64 0, .int .i64 0, .string (⟨#[]⟩ : ByteArray), .string (⟨#[]⟩ : ByteArray), .string (⟨#[]⟩ : ByteArray), .bool false]) ?_ 1 _ rfl; (with_reducible repeat (first | refine blk_drewN ?_ _ | refine blk_drew ?_ | refine blk_alloc ?_ _)); refine blk_put (cs := #[.bool false, .bool false, .bool false, .bool false, .int .i64 0, .int .i64 0, .string (⟨#[]⟩ : ByteArray), .string (⟨#[]⟩ : ByteArray), .string (⟨#[]⟩ : ByteArray), .bool false]) ?_ 0 _ rfl; (with_reducible repeat (first | refine blk_drewN ?_ _ | refine blk_drew ?_ | refine blk_alloc ?_ _)); exact BK188.out) Tryd.underlying63 rfl (by kernel_rfl)) rfl ?_
      exact ⟨by first | rfl | (simp [errW_none, errW_some] <;> rfl) | (simp [*, errW_none, errW_some] <;> rfl) | (simp [bt, *]; done) | (unfold bt; simp [*]; done), by repeat (first | (with_reducible first | exact HB.out | apply below_alloc | apply pw_below_drewN | apply below_drew1 | refine below_set ?_ GE186.out | refine below_set ?_ GE187.out | refine below_set ?_ GE188.out) | exact HB.out)⟩
     replace c126 := Bool.eq_false_iff.mpr c126
     subst c126
     have H1 := H
     rw [if_neg (show ¬ (false = true) by decide)] at H1
     clear H
     have H := H1
     clear H1
     by_cases c139 : a1_0.toList = ([70, 105, 114, 115, 116, 66, 117, 114, 115, 116, 76, 101, 110, 103, 116, 104] : List UInt8)
     ·rw [if_pos c139] at H
      have c139b0 : (a1_0.toList == ([70, 105, 114, 115, 116, 66, 117, 114, 115, 116, 76, 101, 110, 103, 116, 104] : List UInt8)) = true := beq_iff_eq.mpr c139
      have c139b1 : (a1_0.toList != ([70, 105, 114, 115, 116, 66, 117, 114, 115, 116, 76, 101, 110, 103, 116, 104] : List UInt8)) = false := bne_eq_false_iff_eq.mpr c139
      clear c139
      obtain ⟨ji140, hji140⟩ : ∃ j_ : Int, (mn t189 4096) = j_ := ⟨_, rfl⟩
      replace H : ((headgateref21_dec.f kj122 (mx (ji140) 0)).bind fun t208 => (some (a0_0, a0_1, a0_2, a0_3, a0_4, ji140, a0_6, a0_7, t208, decide (t189 ≥ 512)))) = some (r1, r2, r3, r4, r5, r6, r7, r8, r9, r10) := by first | (rw [hji140] at H; exact H) | (simp only [hji140] at H ⊢; exact H)
      have hji140_ : (if 4096 < t189 then 4096 else t189) = ji140 := hji140
      obtain ⟨ji141, hji141⟩ : ∃ j_ : Int, (mx (ji140) 0) = j_ := ⟨_, rfl⟩
      replace H : ((headgateref21_dec.f kj122 (ji141)).bind fun t208 => (some (a0_0, a0_1, a0_2, a0_3, a0_4, ji140, a0_6, a0_7, t208, decide (t189 ≥ 512)))) = some (r1, r2, r3, r4, r5, r6, r7, r8, r9, r10) := by first | (rw [hji141] at H; exact H) | (simp only [hji141] at H ⊢; exact H)
      have hji141_ : (if (ji140) < 0 then 0 else (ji140)) = ji141 := hji141
      replace H := Option.bind_eq_some_iff.mp H
      obtain ⟨t208, A1420, H⟩ := H
      try dsimp only at H
      have A142 := Aside0.mk A1420
      clear A1420
      simp only [Option.some.injEq, Prod.mk.injEq] at H
      obtain ⟨rfl, rfl, rfl, rfl, rfl, rfl, rfl, rfl, rfl, rfl⟩ := H
      have hnb143 := NB186_187.out
      have hnc143 := NB187_186.out
      have hnb144 := NB186_188.out
      have hnc144 := NB188_186.out
      have hcz145_0 : wc.cell? ⟨gb186, 0, none⟩ = some (.bool a0_0) := (blk_cell BK186.out 0).trans rfl
      have hcz145_1 : wc.cell? ⟨gb186, 1, none⟩ = some (.bool a0_1) := (blk_cell BK186.out 1).trans rfl
      have hcz145_2 : wc.cell? ⟨gb186, 2, none⟩ = some (.bool a0_2) := (blk_cell BK186.out 2).trans rfl
      have hcz145_3 : wc.cell? ⟨gb186, 3, none⟩ = some (.bool a0_3) := (blk_cell BK186.out 3).trans rfl
      have hcz145_4 : wc.cell? ⟨gb186, 4, none⟩ = some (.int .i64 a0_4) := (blk_cell BK186.out 4).trans rfl
      have hcz145_5 : wc.cell? ⟨gb186, 5, none⟩ = some (.int .i64 a0_5) := (blk_cell BK186.out 5).trans rfl
      have hcz145_6 : wc.cell? ⟨gb186, 6, none⟩ = some (.string a0_6) := (blk_cell BK186.out 6).trans rfl
      have hcz145_7 : wc.cell? ⟨gb186, 7, none⟩ = some (.string a0_7) := (blk_cell BK186.out 7).trans rfl
      have hfz145_0 := blk_frozen BK186.out 0
      have hfz145_1 := blk_frozen BK186.out 1
      have hfz145_2 := blk_frozen BK186.out 2
      have hfz145_3 := blk_frozen BK186.out 3
      have hfz145_4 := blk_frozen BK186.out 4
      have hfz145_5 := blk_frozen BK186.out 5
      have hfz145_6 := blk_frozen BK186.out 6
      have hfz145_7 := blk_frozen BK186.out 7
      try go_wp2
      have n0_ : Aside0 ((wc.setCell ⟨gb186, 5, none⟩ (.int .i64 ji140)).heap[gb186]? = some (.cells #[.bool a0_0, .bool a0_1, .bool a0_2, .bool a0_3, .int .i64 a0_4, .int .i64 ji140, .string a0_6, .string a0_7] 31 (0, 0))) := ⟨by (with_reducible repeat (first | refine blk_drewN ?_ _ | refine blk_drew ?_ | refine blk_alloc ?_ _)); refine blk_put (cs := #[.bool a0_0, .bool a0_1, .bool a0_2, .bool a0_3, .int .i64 a0_4, .int .i64 a0_5, .string a0_6, .string a0_7]) ?_ 5 _ rfl; (with_reducible repeat (first | refine blk_drewN ?_ _ | refine blk_drew ?_ | refine blk_alloc ?_ _)); exact BK186.out⟩
      have n1_ : Aside0 ((wc.setCell ⟨gb186, 5, none⟩ (.int .i64 ji140)).heap[gb187]? = some (.cells #[.string a1_0, .string a1_1] 45 (0, 0))) := ⟨by (with_reducible repeat (first | refine blk_drewN ?_ _ | refine blk_drew ?_ | refine blk_alloc ?_ _ | refine blk_far ?_ NB187_186.out _)); exact BK187.out⟩
      have n2_ : Aside0 ((wc.setCell ⟨gb186, 5, none⟩ (.int .i64 ji140)).heap[gb188]? = some (.cells #[.bool false, .bool false, .bool false, .bool false, .int .i64 0, .int .i64 0, .string (⟨#[]⟩ : ByteArray), .string (⟨#[]⟩ : ByteArray), .string (⟨#[]⟩ : ByteArray), .bool false] 63 (0, 0))) := ⟨by (with_reducible repeat (first | refine blk_drewN ?_ _ | refine blk_drew ?_ | refine blk_alloc ?_ _ | refine blk_far ?_ NB188_186.out _)); exact BK188.out⟩
      have n3_ : Aside0 (Below w.heap.size w (wc.setCell ⟨gb186, 5, none⟩ (.int .i64 ji140))) := ⟨hb_ HB⟩
      (try clear BK186)
      (try clear BK187)
      (try clear BK188)
      (try clear HB)
      generalize (wc.setCell ⟨gb186, 5, none⟩ (.int .i64 ji140)) = w146 at n0_ n1_ n2_ n3_ ⊢
      have BK186 := n0_
      have BK187 := n1_
      have BK188 := n2_
      have HB := n3_
      clear n0_ n1_ n2_ n3_
      have n0_ := Aside0.mk (blk_drew BK186.out)
      have n1_ := Aside0.mk (blk_drew BK187.out)
      have n2_ := Aside0.mk (blk_drew BK188.out)
      have n3_ := Aside0.mk (below_drew1 HB.out)
      clear BK186
      clear BK187
      clear BK188
      clear HB
      have BK186 := n0_
      have BK187 := n1_
      have BK188 := n2_
      have HB := n3_
      clear n0_ n1_ n2_ n3_
      refine start_ (n := 9) (S := fun w' => w'.cell? ⟨gb186, 0, none⟩ = some (.bool a0_0) ∧ w'.cell? ⟨gb186, 1, none⟩ = some (.bool a0_1) ∧ w'.cell? ⟨gb186, 2, none⟩ = some (.bool a0_2) ∧ w'.cell? ⟨gb186, 3, none⟩ = some (.bool a0_3) ∧ w'.cell? ⟨gb186, 4, none⟩ = some (.int .i64 a0_4) ∧ w'.cell? ⟨gb186, 5, none⟩ = some (.int .i64 ji140) ∧ w'.cell? ⟨gb186, 6, none⟩ = some (.string a0_6) ∧ w'.cell? ⟨gb186, 7, none⟩ = some (.string a0_7)) (ds := []) d25x0 (by kernel_rfl) rfl rfl ⟨(blk_cell BK186.out 0).trans rfl, (blk_cell BK186.out 1).trans rfl, (blk_cell BK186.out 2).trans rfl, (blk_cell BK186.out 3).trans rfl, (blk_cell BK186.out 4).trans rfl, (blk_cell BK186.out 5).trans rfl, (blk_cell BK186.out 6).trans rfl, (blk_cell BK186.out 7).trans rfl⟩ (fun hHeld => ?_); refine with_tabW headgateref21_one.tab33 headgateref21_one.bits33 (fun HT_ HW_ => ?_)
      generalize w146.drew = w147 at BK186 BK187 BK188 HB hHeld ⊢
      refine pon_ 1 (some 93) d25x4 HT_.out ?_
      refine pon_ 5 (some 97) d25x7 HT_.out ?_
      refine pon_ 6 (some 98) d25x8 HT_.out ?_
      refine ptk_ 0 (some 92) d25x16 HT_.out HW_.out hHeld ?_
      refine ptk_ 2 (some 94) d25x20 HT_.out HW_.out hHeld ?_
      refine pon_ 3 (some 95) d25x24 HT_.out ?_
      refine one_ (i := 4) (N := some 96) d25x29 rfl rfl (one_of HT_.out (by kernel_rfl)) (by decide) (fun K hK => ?_)
      refine goes_ Tryd.func56 (by kernel_rfl) rfl #[.int .i64 ji141] (by rfl) rfl rfl (by (try simp only [List.map_toArray, List.map_cons, List.map_nil]); first | done | (simp only [hji141]; rfl) | rfl | (simp only [List.length_drop, List.length_take]; rfl)) ?_
      with_reducible refine (headgateref21_dec.calls kj122 ji141 t208 _ A142.out).mono ?_
      rintro e w148 ⟨rfl, hb⟩
      refine ⟨_, rfl, ?_⟩
      have n0_ := Aside0.mk (blk_below (bk_ BK186) hb)
      have n1_ := Aside0.mk (blk_below (bk_ BK187) hb)
      have n2_ := Aside0.mk (blk_below (bk_ BK188) hb)
      have n3_ := Aside0.mk (below_step (hb_ HB) hb)
      clear BK186
      clear BK187
      clear BK188
      clear HB
      have BK186 := n0_
      have BK187 := n1_
      have BK188 := n2_
      have HB := n3_
      clear n0_ n1_ n2_ n3_
      (try clear hb)
      (try clear hb2)
      (try clear hk)
      (try clear hi)
      refine hK.out _ _ ⟨(blk_cell BK186.out 0).trans rfl, (blk_cell BK186.out 1).trans rfl, (blk_cell BK186.out 2).trans rfl, (blk_cell BK186.out 3).trans rfl, (blk_cell BK186.out 4).trans rfl, (blk_cell BK186.out 5).trans rfl, (blk_cell BK186.out 6).trans rfl, (blk_cell BK186.out 7).trans rfl⟩ (fun hHeld => ?_)
      clear hK K
      refine norm_ (a' := ?_) ?_ ?_
      rotate_left
      ·show Act.put _ (some 96) _ = _
       simp only [Act.put, la_, lb_, lc_, i64_w, i32_w]
       rfl
      refine pon_ 7 (some 99) d25x30 HT_.out ?_
      refine one_ (i := 8) (N := none) d25x31 rfl rfl (one_of HT_.out (by kernel_rfl)) (by decide) (fun K hK => ?_)
      have hs149 : w148.cell? ⟨gb188, 0, none⟩ = some (.bool false) := (blk_cell BK188.out 0).trans rfl
      have hfs149 := blk_frozen BK188.out 0
      have hns149_0 := NB186_188.out
      have hns149_1 := NB187_188.out
      have hms149_0 := NB188_186.out
      have hms149_1 := NB188_187.out
      have hs150 : w148.cell? ⟨gb188, 1, none⟩ = some (.bool false) := (blk_cell BK188.out 1).trans rfl
      have hfs150 := blk_frozen BK188.out 1
      have hns150_0 := NB186_188.out
      have hns150_1 := NB187_188.out
      have hms150_0 := NB188_186.out
      have hms150_1 := NB188_187.out
      have hs151 : w148.cell? ⟨gb188, 2, none⟩ = some (.bool false) := (blk_cell BK188.out 2).trans rfl
      have hfs151 := blk_frozen BK188.out 2
      have hns151_0 := NB186_188.out
      have hns151_1 := NB187_188.out
      have hms151_0 := NB188_186.out
      have hms151_1 := NB188_187.out
      have hs152 : w148.cell? ⟨gb188, 3, none⟩ = some (.bool false) := (blk_cell BK188.out 3).trans rfl
      have hfs152 := blk_frozen BK188.out 3
      have hns152_0 := NB186_188.out
      have hns152_1 := NB187_188.out
      have hms152_0 := NB188_186.out
      have hms152_1 := NB188_187.out
      have hs153 : w148.cell? ⟨gb188, 4, none⟩ = some (.int .i64 0) := (blk_cell BK188.out 4).trans rfl
      have hfs153 := blk_frozen BK188.out 4
      have hns153_0 := NB186_188.out
      have hns153_1 := NB187_188.out
      have hms153_0 := NB188_186.out
      have hms153_1 := NB188_187.out
      have hs154 : w148.cell? ⟨gb188, 5, none⟩ = some (.int .i64 0) := (blk_cell BK188.out 5).trans rfl
      have hfs154 := blk_frozen BK188.out 5
      have hns154_0 := NB186_188.out
      have hns154_1 := NB187_188.out
      have hms154_0 := NB188_186.out
      have hms154_1 := NB188_187.out
      have hs155 : w148.cell? ⟨gb188, 6, none⟩ = some (.string (⟨#[]⟩ : ByteArray)) := (blk_cell BK188.out 6).trans rfl
      have hfs155 := blk_frozen BK188.out 6
      have hns155_0 := NB186_188.out
      have hns155_1 := NB187_188.out
      have hms155_0 := NB188_186.out
      have hms155_1 := NB188_187.out
      have hs156 : w148.cell? ⟨gb188, 7, none⟩ = some (.string (⟨#[]⟩ : ByteArray)) := (blk_cell BK188.out 7).trans rfl
      have hfs156 := blk_frozen BK188.out 7
      have hns156_0 := NB186_188.out
      have hns156_1 := NB187_188.out
      have hms156_0 := NB188_186.out
      have hms156_1 := NB188_187.out
      have hs157 : w148.cell? ⟨gb188, 8, none⟩ = some (.string (⟨#[]⟩ : ByteArray)) := (blk_cell BK188.out 8).trans rfl
      have hfs157 := blk_frozen BK188.out 8
      have hns157_0 := NB186_188.out
      have hns157_1 := NB187_188.out
      have hms157_0 := NB188_186.out
      have hms157_1 := NB188_187.out
      have hs158 : w148.cell? ⟨gb188, 9, none⟩ = some (.bool false) := (blk_cell BK188.out 9).trans rfl
      have hfs158 := blk_frozen BK188.out 9
      have hns158_0 := NB186_188.out
      have hns158_1 := NB187_188.out
      have hms158_0 := NB188_186.out
      have hms158_1 := NB188_187.out
      refine skip_ (w1 := ?_) (by rfl) rfl ?_ ?_
      rotate_left
      ·go_simp
       rfl
      refine hK.out _ _ ⟨((cell_far (p := ⟨gb188, _, none⟩) NB186_188.out _).trans (((cell_far (p := ⟨gb188, _, none⟩) NB186_188.out _).trans (((cell_far (p := ⟨gb188, _, none⟩) NB186_188.out _).trans (((cell_far (p := ⟨gb188, _, none⟩) NB186_188.out _).trans (((cell_far (p := ⟨gb188, _, none⟩) NB186_188.out _).trans (((cell_far (p := ⟨gb188, _, none⟩) NB186_188.out _).trans (((cell_far (p := ⟨gb188, _, none⟩) NB186_188.out _).trans (((cell_far (p := ⟨gb188, _, none⟩) NB186_188.out _).trans (((cell_far (p := ⟨gb188, _, none⟩) NB186_188.out _).trans (((cell_far (p := ⟨gb188, _, none⟩) NB186_188.out _).trans (hHeld.1)))))))))))))))))))), ((cell_far (p := ⟨gb188, _, none⟩) NB186_188.out _).trans (((cell_far (p := ⟨gb188, _, none⟩) NB186_188.out _).trans (((cell_far (p := ⟨gb188, _, none⟩) NB186_188.out _).trans (((cell_far (p := ⟨gb188, _, none⟩) NB186_188.out _).trans (((cell_far (p := ⟨gb188, _, none⟩) NB186_188.out _).trans (((cell_far (p := ⟨gb188, _, none⟩) NB186_188.out _).trans (((cell_far (p := ⟨gb188, _, none⟩) NB186_188.out _).trans (((cell_far (p := ⟨gb188, _, none⟩) NB186_188.out _).trans (((cell_far (p := ⟨gb188, _, none⟩) NB186_188.out _).trans (((cell_far (p := ⟨gb188, _, none⟩) NB186_188.out _).trans (hHeld.2.1)))))))))))))))))))), ((cell_far (p := ⟨gb188, _, none⟩) NB186_188.out _).trans (((cell_far (p := ⟨gb188, _, none⟩) NB186_188.out _).trans (((cell_far (p := ⟨gb188, _, none⟩) NB186_188.out _).trans (((cell_far (p := ⟨gb188, _, none⟩) NB186_188.out _).trans (((cell_far (p := ⟨gb188, _, none⟩) NB186_188.out _).trans (((cell_far (p := ⟨gb188, _, none⟩) NB186_188.out _).trans (((cell_far (p := ⟨gb188, _, none⟩) NB186_188.out _).trans (((cell_far (p := ⟨gb188, _, none⟩) NB186_188.out _).trans (((cell_far (p := ⟨gb188, _, none⟩) NB186_188.out _).trans (((cell_far (p := ⟨gb188, _, none⟩) NB186_188.out _).trans (hHeld.2.2.1)))))))))))))))))))), ((cell_far (p := ⟨gb188, _, none⟩) NB186_188.out _).trans (((cell_far (p := ⟨gb188, _, none⟩) NB186_188.out _).trans (((cell_far (p := ⟨gb188, _, none⟩) NB186_188.out _).trans (((cell_far (p := ⟨gb188, _, none⟩) NB186_188.out _).trans (((cell_far (p := ⟨gb188, _, none⟩) NB186_188.out _).trans (((cell_far (p := ⟨gb188, _, none⟩) NB186_188.out _).trans (((cell_far (p := ⟨gb188, _, none⟩) NB186_188.out _).trans (((cell_far (p := ⟨gb188, _, none⟩) NB186_188.out _).trans (((cell_far (p := ⟨gb188, _, none⟩) NB186_188.out _).trans (((cell_far (p := ⟨gb188, _, none⟩) NB186_188.out _).trans (hHeld.2.2.2.1)))))))))))))))))))), ((cell_far (p := ⟨gb188, _, none⟩) NB186_188.out _).trans (((cell_far (p := ⟨gb188, _, none⟩) NB186_188.out _).trans (((cell_far (p := ⟨gb188, _, none⟩) NB186_188.out _).trans (((cell_far (p := ⟨gb188, _, none⟩) NB186_188.out _).trans (((cell_far (p := ⟨gb188, _, none⟩) NB186_188.out _).trans (((cell_far (p := ⟨gb188, _, none⟩) NB186_188.out _).trans (((cell_far (p := ⟨gb188, _, none⟩) NB186_188.out _).trans (((cell_far (p := ⟨gb188, _, none⟩) NB186_188.out _).trans (((cell_far (p := ⟨gb188, _, none⟩) NB186_188.out _).trans (((cell_far (p := ⟨gb188, _, none⟩) NB186_188.out _).trans (hHeld.2.2.2.2.1)))))))))))))))))))), ((cell_far (p := ⟨gb188, _, none⟩) NB186_188.out _).trans (((cell_far (p := ⟨gb188, _, none⟩) NB186_188.out _).trans (((cell_far (p := ⟨gb188, _, none⟩) NB186_188.out _).trans (((cell_far (p := ⟨gb188, _, none⟩) NB186_188.out _).trans (((cell_far (p := ⟨gb188, _, none⟩) NB186_188.out _).trans (((cell_far (p := ⟨gb188, _, none⟩) NB186_188.out _).trans (((cell_far (p := ⟨gb188, _, none⟩) NB186_188.out _).trans (((cell_far (p := ⟨gb188, _, none⟩) NB186_188.out _).trans (((cell_far (p := ⟨gb188, _, none⟩) NB186_188.out _).trans (((cell_far (p := ⟨gb188, _, none⟩) NB186_188.out _).trans (hHeld.2.2.2.2.2.1)))))))))))))))))))), ((cell_far (p := ⟨gb188, _, none⟩) NB186_188.out _).trans (((cell_far (p := ⟨gb188, _, none⟩) NB186_188.out _).trans (((cell_far (p := ⟨gb188, _, none⟩) NB186_188.out _).trans (((cell_far (p := ⟨gb188, _, none⟩) NB186_188.out _).trans (((cell_far (p := ⟨gb188, _, none⟩) NB186_188.out _).trans (((cell_far (p := ⟨gb188, _, none⟩) NB186_188.out _).trans (((cell_far (p := ⟨gb188, _, none⟩) NB186_188.out _).trans (((cell_far (p := ⟨gb188, _, none⟩) NB186_188.out _).trans (((cell_far (p := ⟨gb188, _, none⟩) NB186_188.out _).trans (((cell_far (p := ⟨gb188, _, none⟩) NB186_188.out _).trans (hHeld.2.2.2.2.2.2.1)))))))))))))))))))), ((cell_far (p := ⟨gb188, _, none⟩) NB186_188.out _).trans (((cell_far (p := ⟨gb188, _, none⟩) NB186_188.out _).trans (((cell_far (p := ⟨gb188, _, none⟩) NB186_188.out _).trans (((cell_far (p := ⟨gb188, _, none⟩) NB186_188.out _).trans (((cell_far (p := ⟨gb188, _, none⟩) NB186_188.out _).trans (((cell_far (p := ⟨gb188, _, none⟩) NB186_188.out _).trans (((cell_far (p := ⟨gb188, _, none⟩) NB186_188.out _).trans (((cell_far (p := ⟨gb188, _, none⟩) NB186_188.out _).trans (((cell_far (p := ⟨gb188, _, none⟩) NB186_188.out _).trans (((cell_far (p := ⟨gb188, _, none⟩) NB186_188.out _).trans (hHeld.2.2.2.2.2.2.2))))))))))))))))))))⟩ (fun hHeld => ?_)
      clear hK K
      refine done_ (done_of HT_.out (by kernel_rfl)) ?_
      try go_wp2
      refine bodyPost_ret (results_cell_row rfl _ _ gb188 63 #[.bool a0_0, .bool a0_1, .bool a0_2, .bool a0_3, .int .i64 a0_4, .int .i64 ji140, .string a0_6, .string a0_7, .string t208, .bool (decide (t189 ≥ 512))] (0, 0) _ rfl (by (with_reducible repeat (first | refine blk_drewN ?_ _ | refine blk_drew ?_ | refine blk_alloc ?_ _)); refine blk_put (cs := #[.bool a0_0, .bool a0_1, .bool a0_2, .bool a0_3, .int .i64 a0_4, .int .i64 ji140, .string a0_6, .string a0_7, .string t208, .bool false]) ?_ 9 _ rfl; (with_reducible repeat (first | refine blk_drewN ?_ _ | refine blk_drew ?_ | refine blk_alloc ?_ _)); refine blk_put (cs := #[.bool a0_0, .bool a0_1, .bool a0_2, .bool a0_3, .int .i64 a0_4, .int .i64 ji140, .string a0_6, .string a0_7, .string (⟨#[]⟩ : ByteArray), .bool false]) ?_ 8 _ rfl; (with_reducible repeat (first | refine blk_drewN ?_ _ | refine blk_drew ?_ | refine blk_alloc ?_ _)); refine blk_put (cs := #[.bool a0_0, .bool a0_1, .bool a0_2, .bool a0_3, .int .i64 a0_4, .int .i64 ji140, .string a0_6, .string (⟨#[]⟩ : ByteArray), .string (⟨#[]⟩ : ByteArray), .bool false]) ?_ 7 _ rfl; (with_reducible repeat (first | refine blk_drewN ?_ _ | refine blk_drew ?_ | refine blk_alloc ?_ _)); refine blk_put (cs := #[.bool a0_0, .bool a0_1, .bool a0_2, .bool a0_3, .int .i64 a0_4, .int .i64 ji140, .string (⟨#[]⟩ : ByteArray), .string (⟨#[]⟩ : ByteArray), .string (⟨#[]⟩ : ByteArray), .bool false]) ?_ 6 _ rfl; (with_reducible repeat (first | refine blk_drewN ?_ _ | refine blk_drew ?_ | refine blk_alloc ?_ _)); refine blk_put (cs := #[.bool a0_0, .bool a0_1, .bool a0_2, .bool a0_3, .int .i64 a0_4, .int .i64 0, .string (⟨#[]⟩ : ByteArray), .string (⟨#[]⟩ : ByteArray), .string (⟨#[]⟩ : ByteArray), .bool false]) ?_ 5 _ rfl; (with_reducible repeat (first | refine blk_drewN ?_ _ | refine blk_drew ?_ | refine blk_alloc ?_ _)); refine blk_put (cs := #[.bool a0_0, .bool a0_1, .bool a0_2, .bool a0_3, .int .i64 0, .int .i64 0, .string (⟨#[]⟩ : ByteArray), .string (⟨#[]⟩ : ByteArray), .string (⟨#[]⟩ : ByteArray), .bool false]) ?_ 4 _ rfl; (with_reducible repeat (first | refine blk_drewN ?_ _ | refine blk_drew ?_ | refine blk_alloc ?_ _)); refine blk_put (cs := #[.bool a0_0, .bool a0_1, .bool a0_2, .bool false, .int .i64 0, .int .i64 0, .string (⟨#[]⟩ : ByteArray), .string (⟨#[]⟩ : ByteArray), .string (⟨#[]⟩ : ByteArray), .bool false]) ?_ 3 _ rfl; (with_reducible repeat (first | refine blk_drewN ?_ _ | refine blk_drew ?_ | refine blk_alloc ?_ _)); refine blk_put (cs := #[.bool a0_0, .bool a0_1, .bool false, .bool false, .int .i64 0, .int .i64 0, .string (⟨#[]⟩ : ByteArray), .string (⟨#[]⟩ : ByteArray), .string (⟨#[]⟩ : ByteArray), .bool false]) ?_ 2 _ rfl; (with_reducible repeat (first | refine blk_drewN ?_ _ | refine blk_drew ?_ | refine blk_alloc ?_ _)); refine blk_put (cs := #[.bool a0_0, .bool false, .bool false, .bool false, .int .i64 0, .int .i64 0, .string (⟨#[]⟩ : ByteArray), .string (⟨#[]⟩ : ByteArray), .string (⟨#[]⟩ : ByteArray), .bool false]) ?_ 1 _ rfl; (with_reducible repeat (first | refine blk_drewN ?_ _ | refine blk_drew ?_ | refine blk_alloc ?_ _)); refine blk_put (cs := #[.bool false, .bool false, .bool false, .bool false, .int .i64 0, .int .i64 0, .string (⟨#[]⟩ : ByteArray), .string (⟨#[]⟩ : ByteArray), .string (⟨#[]⟩ : ByteArray), .bool false]) ?_ 0 _ rfl; (with_reducible repeat (first | refine blk_drewN ?_ _ | refine blk_drew ?_ | refine blk_alloc ?_ _)); exact BK188.out) Tryd.underlying63 rfl (by kernel_rfl)) rfl ?_
      exact ⟨by first | rfl | (simp [errW_none, errW_some] <;> rfl) | (simp only [← hji140, ← hji141]; first | rfl | (simp [errW_none, errW_some] <;> rfl)) | (simp [*, errW_none, errW_some] <;> rfl) | (simp [bt, *]; done) | (unfold bt; simp [*]; done), by repeat (first | (with_reducible first | exact HB.out | apply below_alloc | apply pw_below_drewN | apply below_drew1 | refine below_set ?_ GE186.out | refine below_set ?_ GE187.out | refine below_set ?_ GE188.out) | exact HB.out)⟩
     rw [if_neg c139] at H
     have c139b0 : (a1_0.toList == ([70, 105, 114, 115, 116, 66, 117, 114, 115, 116, 76, 101, 110, 103, 116, 104] : List UInt8)) = false := beq_eq_false_iff_ne.mpr c139
     have c139b1 : (a1_0.toList != ([70, 105, 114, 115, 116, 66, 117, 114, 115, 116, 76, 101, 110, 103, 116, 104] : List UInt8)) = true := bne_iff_ne.mpr c139
     by_cases c159 : a1_0.toList = ([77, 97, 120, 66, 117, 114, 115, 116, 76, 101, 110, 103, 116, 104] : List UInt8)
     ·rw [if_pos c159] at H
      have c159b0 : (a1_0.toList == ([77, 97, 120, 66, 117, 114, 115, 116, 76, 101, 110, 103, 116, 104] : List UInt8)) = true := beq_iff_eq.mpr c159
      have c159b1 : (a1_0.toList != ([77, 97, 120, 66, 117, 114, 115, 116, 76, 101, 110, 103, 116, 104] : List UInt8)) = false := bne_eq_false_iff_eq.mpr c159
      clear c159
      obtain ⟨ji160, hji160⟩ : ∃ j_ : Int, (mn t189 32768) = j_ := ⟨_, rfl⟩
      replace H : ((headgateref21_dec.f kj122 (mx (ji160) 0)).bind fun t209 => (some (a0_0, a0_1, a0_2, a0_3, a0_4, a0_5, a0_6, a0_7, t209, decide (t189 ≥ 512)))) = some (r1, r2, r3, r4, r5, r6, r7, r8, r9, r10) := by first | (rw [hji160] at H; exact H) | (simp only [hji160] at H ⊢; exact H)
      have hji160_ : (if 32768 < t189 then 32768 else t189) = ji160 := hji160
      obtain ⟨ji161, hji161⟩ : ∃ j_ : Int, (mx (ji160) 0) = j_ := ⟨_, rfl⟩
      replace H : ((headgateref21_dec.f kj122 (ji161)).bind fun t209 => (some (a0_0, a0_1, a0_2, a0_3, a0_4, a0_5, a0_6, a0_7, t209, decide (t189 ≥ 512)))) = some (r1, r2, r3, r4, r5, r6, r7, r8, r9, r10) := by first | (rw [hji161] at H; exact H) | (simp only [hji161] at H ⊢; exact H)
      have hji161_ : (if (ji160) < 0 then 0 else (ji160)) = ji161 := hji161
      replace H := Option.bind_eq_some_iff.mp H
      obtain ⟨t209, A1620, H⟩ := H
      try dsimp only at H
      have A162 := Aside0.mk A1620
      clear A1620
      simp only [Option.some.injEq, Prod.mk.injEq] at H
      obtain ⟨rfl, rfl, rfl, rfl, rfl, rfl, rfl, rfl, rfl, rfl⟩ := H
      try go_wp2
      have n0_ := Aside0.mk (blk_drew BK186.out)
      have n1_ := Aside0.mk (blk_drew BK187.out)
      have n2_ := Aside0.mk (blk_drew BK188.out)
      have n3_ := Aside0.mk (below_drew1 HB.out)
      clear BK186
      clear BK187
      clear BK188
      clear HB
      have BK186 := n0_
      have BK187 := n1_
      have BK188 := n2_
      have HB := n3_
      clear n0_ n1_ n2_ n3_
      refine start_ (n := 9) (S := fun w' => w'.cell? ⟨gb186, 0, none⟩ = some (.bool a0_0) ∧ w'.cell? ⟨gb186, 1, none⟩ = some (.bool a0_1) ∧ w'.cell? ⟨gb186, 2, none⟩ = some (.bool a0_2) ∧ w'.cell? ⟨gb186, 3, none⟩ = some (.bool a0_3) ∧ w'.cell? ⟨gb186, 4, none⟩ = some (.int .i64 a0_4) ∧ w'.cell? ⟨gb186, 5, none⟩ = some (.int .i64 a0_5) ∧ w'.cell? ⟨gb186, 6, none⟩ = some (.string a0_6) ∧ w'.cell? ⟨gb186, 7, none⟩ = some (.string a0_7)) (ds := []) d25x0 (by kernel_rfl) rfl rfl ⟨(blk_cell BK186.out 0).trans rfl, (blk_cell BK186.out 1).trans rfl, (blk_cell BK186.out 2).trans rfl, (blk_cell BK186.out 3).trans rfl, (blk_cell BK186.out 4).trans rfl, (blk_cell BK186.out 5).trans rfl, (blk_cell BK186.out 6).trans rfl, (blk_cell BK186.out 7).trans rfl⟩ (fun hHeld => ?_); refine with_tabW headgateref21_one.tab35 headgateref21_one.bits35 (fun HT_ HW_ => ?_)
      generalize wc.drew = w163 at BK186 BK187 BK188 HB hHeld ⊢
      refine pon_ 1 (some 103) d25x4 HT_.out ?_
      refine pon_ 2 (some 104) d25x10 HT_.out ?_
      refine pon_ 3 (some 105) d25x12 HT_.out ?_
      refine pon_ 5 (some 107) d25x13 HT_.out ?_
      refine pon_ 6 (some 108) d25x14 HT_.out ?_
      refine ptk_ 0 (some 102) d25x24 HT_.out HW_.out hHeld ?_
      refine one_ (i := 4) (N := some 106) d25x29 rfl rfl (one_of HT_.out (by kernel_rfl)) (by decide) (fun K hK => ?_)
      refine goes_ Tryd.func56 (by kernel_rfl) rfl #[.int .i64 ji161] (by rfl) rfl rfl (by (try simp only [List.map_toArray, List.map_cons, List.map_nil]); first | done | (simp only [hji161]; rfl) | rfl | (simp only [List.length_drop, List.length_take]; rfl)) ?_
      with_reducible refine (headgateref21_dec.calls kj122 ji161 t209 _ A162.out).mono ?_
      rintro e w164 ⟨rfl, hb⟩
      refine ⟨_, rfl, ?_⟩
      have n0_ := Aside0.mk (blk_below (bk_ BK186) hb)
      have n1_ := Aside0.mk (blk_below (bk_ BK187) hb)
      have n2_ := Aside0.mk (blk_below (bk_ BK188) hb)
      have n3_ := Aside0.mk (below_step (hb_ HB) hb)
      clear BK186
      clear BK187
      clear BK188
      clear HB
      have BK186 := n0_
      have BK187 := n1_
      have BK188 := n2_
      have HB := n3_
      clear n0_ n1_ n2_ n3_
      (try clear hb)
      (try clear hb2)
      (try clear hk)
      (try clear hi)
      refine hK.out _ _ ⟨(blk_cell BK186.out 0).trans rfl, (blk_cell BK186.out 1).trans rfl, (blk_cell BK186.out 2).trans rfl, (blk_cell BK186.out 3).trans rfl, (blk_cell BK186.out 4).trans rfl, (blk_cell BK186.out 5).trans rfl, (blk_cell BK186.out 6).trans rfl, (blk_cell BK186.out 7).trans rfl⟩ (fun hHeld => ?_)
      clear hK K
      refine norm_ (a' := ?_) ?_ ?_
      rotate_left
      ·show Act.put _ (some 106) _ = _
       simp only [Act.put, la_, lb_, lc_, i64_w, i32_w]
       rfl
      refine pon_ 7 (some 109) d25x30 HT_.out ?_
      refine one_ (i := 8) (N := none) d25x31 rfl rfl (one_of HT_.out (by kernel_rfl)) (by decide) (fun K hK => ?_)
      have hs165 : w164.cell? ⟨gb188, 0, none⟩ = some (.bool false) := (blk_cell BK188.out 0).trans rfl
      have hfs165 := blk_frozen BK188.out 0
      have hns165_0 := NB186_188.out
      have hns165_1 := NB187_188.out
      have hms165_0 := NB188_186.out
      have hms165_1 := NB188_187.out
      have hs166 : w164.cell? ⟨gb188, 1, none⟩ = some (.bool false) := (blk_cell BK188.out 1).trans rfl
      have hfs166 := blk_frozen BK188.out 1
      have hns166_0 := NB186_188.out
      have hns166_1 := NB187_188.out
      have hms166_0 := NB188_186.out
      have hms166_1 := NB188_187.out
      have hs167 : w164.cell? ⟨gb188, 2, none⟩ = some (.bool false) := (blk_cell BK188.out 2).trans rfl
      have hfs167 := blk_frozen BK188.out 2
      have hns167_0 := NB186_188.out
      have hns167_1 := NB187_188.out
      have hms167_0 := NB188_186.out
      have hms167_1 := NB188_187.out
      have hs168 : w164.cell? ⟨gb188, 3, none⟩ = some (.bool false) := (blk_cell BK188.out 3).trans rfl
      have hfs168 := blk_frozen BK188.out 3
      have hns168_0 := NB186_188.out
      have hns168_1 := NB187_188.out
      have hms168_0 := NB188_186.out
      have hms168_1 := NB188_187.out
      have hs169 : w164.cell? ⟨gb188, 4, none⟩ = some (.int .i64 0) := (blk_cell BK188.out 4).trans rfl
      have hfs169 := blk_frozen BK188.out 4
      have hns169_0 := NB186_188.out
      have hns169_1 := NB187_188.out
      have hms169_0 := NB188_186.out
      have hms169_1 := NB188_187.out
      have hs170 : w164.cell? ⟨gb188, 5, none⟩ = some (.int .i64 0) := (blk_cell BK188.out 5).trans rfl
      have hfs170 := blk_frozen BK188.out 5
      have hns170_0 := NB186_188.out
      have hns170_1 := NB187_188.out
      have hms170_0 := NB188_186.out
      have hms170_1 := NB188_187.out
      have hs171 : w164.cell? ⟨gb188, 6, none⟩ = some (.string (⟨#[]⟩ : ByteArray)) := (blk_cell BK188.out 6).trans rfl
      have hfs171 := blk_frozen BK188.out 6
      have hns171_0 := NB186_188.out
      have hns171_1 := NB187_188.out
      have hms171_0 := NB188_186.out
      have hms171_1 := NB188_187.out
      have hs172 : w164.cell? ⟨gb188, 7, none⟩ = some (.string (⟨#[]⟩ : ByteArray)) := (blk_cell BK188.out 7).trans rfl
      have hfs172 := blk_frozen BK188.out 7
      have hns172_0 := NB186_188.out
      have hns172_1 := NB187_188.out
      have hms172_0 := NB188_186.out
      have hms172_1 := NB188_187.out
      have hs173 : w164.cell? ⟨gb188, 8, none⟩ = some (.string (⟨#[]⟩ : ByteArray)) := (blk_cell BK188.out 8).trans rfl
      have hfs173 := blk_frozen BK188.out 8
      have hns173_0 := NB186_188.out
      have hns173_1 := NB187_188.out
      have hms173_0 := NB188_186.out
      have hms173_1 := NB188_187.out
      have hs174 : w164.cell? ⟨gb188, 9, none⟩ = some (.bool false) := (blk_cell BK188.out 9).trans rfl
      have hfs174 := blk_frozen BK188.out 9
      have hns174_0 := NB186_188.out
      have hns174_1 := NB187_188.out
      have hms174_0 := NB188_186.out
      have hms174_1 := NB188_187.out
      refine skip_ (w1 := ?_) (by rfl) rfl ?_ ?_
      rotate_left
      ·go_simp
       rfl
      refine hK.out _ _ ⟨((cell_far (p := ⟨gb188, _, none⟩) NB186_188.out _).trans (((cell_far (p := ⟨gb188, _, none⟩) NB186_188.out _).trans (((cell_far (p := ⟨gb188, _, none⟩) NB186_188.out _).trans (((cell_far (p := ⟨gb188, _, none⟩) NB186_188.out _).trans (((cell_far (p := ⟨gb188, _, none⟩) NB186_188.out _).trans (((cell_far (p := ⟨gb188, _, none⟩) NB186_188.out _).trans (((cell_far (p := ⟨gb188, _, none⟩) NB186_188.out _).trans (((cell_far (p := ⟨gb188, _, none⟩) NB186_188.out _).trans (((cell_far (p := ⟨gb188, _, none⟩) NB186_188.out _).trans (((cell_far (p := ⟨gb188, _, none⟩) NB186_188.out _).trans (hHeld.1)))))))))))))))))))), ((cell_far (p := ⟨gb188, _, none⟩) NB186_188.out _).trans (((cell_far (p := ⟨gb188, _, none⟩) NB186_188.out _).trans (((cell_far (p := ⟨gb188, _, none⟩) NB186_188.out _).trans (((cell_far (p := ⟨gb188, _, none⟩) NB186_188.out _).trans (((cell_far (p := ⟨gb188, _, none⟩) NB186_188.out _).trans (((cell_far (p := ⟨gb188, _, none⟩) NB186_188.out _).trans (((cell_far (p := ⟨gb188, _, none⟩) NB186_188.out _).trans (((cell_far (p := ⟨gb188, _, none⟩) NB186_188.out _).trans (((cell_far (p := ⟨gb188, _, none⟩) NB186_188.out _).trans (((cell_far (p := ⟨gb188, _, none⟩) NB186_188.out _).trans (hHeld.2.1)))))))))))))))))))), ((cell_far (p := ⟨gb188, _, none⟩) NB186_188.out _).trans (((cell_far (p := ⟨gb188, _, none⟩) NB186_188.out _).trans (((cell_far (p := ⟨gb188, _, none⟩) NB186_188.out _).trans (((cell_far (p := ⟨gb188, _, none⟩) NB186_188.out _).trans (((cell_far (p := ⟨gb188, _, none⟩) NB186_188.out _).trans (((cell_far (p := ⟨gb188, _, none⟩) NB186_188.out _).trans (((cell_far (p := ⟨gb188, _, none⟩) NB186_188.out _).trans (((cell_far (p := ⟨gb188, _, none⟩) NB186_188.out _).trans (((cell_far (p := ⟨gb188, _, none⟩) NB186_188.out _).trans (((cell_far (p := ⟨gb188, _, none⟩) NB186_188.out _).trans (hHeld.2.2.1)))))))))))))))))))), ((cell_far (p := ⟨gb188, _, none⟩) NB186_188.out _).trans (((cell_far (p := ⟨gb188, _, none⟩) NB186_188.out _).trans (((cell_far (p := ⟨gb188, _, none⟩) NB186_188.out _).trans (((cell_far (p := ⟨gb188, _, none⟩) NB186_188.out _).trans (((cell_far (p := ⟨gb188, _, none⟩) NB186_188.out _).trans (((cell_far (p := ⟨gb188, _, none⟩) NB186_188.out _).trans (((cell_far (p := ⟨gb188, _, none⟩) NB186_188.out _).trans (((cell_far (p := ⟨gb188, _, none⟩) NB186_188.out _).trans (((cell_far (p := ⟨gb188, _, none⟩) NB186_188.out _).trans (((cell_far (p := ⟨gb188, _, none⟩) NB186_188.out _).trans (hHeld.2.2.2.1)))))))))))))))))))), ((cell_far (p := ⟨gb188, _, none⟩) NB186_188.out _).trans (((cell_far (p := ⟨gb188, _, none⟩) NB186_188.out _).trans (((cell_far (p := ⟨gb188, _, none⟩) NB186_188.out _).trans (((cell_far (p := ⟨gb188, _, none⟩) NB186_188.out _).trans (((cell_far (p := ⟨gb188, _, none⟩) NB186_188.out _).trans (((cell_far (p := ⟨gb188, _, none⟩) NB186_188.out _).trans (((cell_far (p := ⟨gb188, _, none⟩) NB186_188.out _).trans (((cell_far (p := ⟨gb188, _, none⟩) NB186_188.out _).trans (((cell_far (p := ⟨gb188, _, none⟩) NB186_188.out _).trans (((cell_far (p := ⟨gb188, _, none⟩) NB186_188.out _).trans (hHeld.2.2.2.2.1)))))))))))))))))))), ((cell_far (p := ⟨gb188, _, none⟩) NB186_188.out _).trans (((cell_far (p := ⟨gb188, _, none⟩) NB186_188.out _).trans (((cell_far (p := ⟨gb188, _, none⟩) NB186_188.out _).trans (((cell_far (p := ⟨gb188, _, none⟩) NB186_188.out _).trans (((cell_far (p := ⟨gb188, _, none⟩) NB186_188.out _).trans (((cell_far (p := ⟨gb188, _, none⟩) NB186_188.out _).trans (((cell_far (p := ⟨gb188, _, none⟩) NB186_188.out _).trans (((cell_far (p := ⟨gb188, _, none⟩) NB186_188.out _).trans (((cell_far (p := ⟨gb188, _, none⟩) NB186_188.out _).trans (((cell_far (p := ⟨gb188, _, none⟩) NB186_188.out _).trans (hHeld.2.2.2.2.2.1)))))))))))))))))))), ((cell_far (p := ⟨gb188, _, none⟩) NB186_188.out _).trans (((cell_far (p := ⟨gb188, _, none⟩) NB186_188.out _).trans (((cell_far (p := ⟨gb188, _, none⟩) NB186_188.out _).trans (((cell_far (p := ⟨gb188, _, none⟩) NB186_188.out _).trans (((cell_far (p := ⟨gb188, _, none⟩) NB186_188.out _).trans (((cell_far (p := ⟨gb188, _, none⟩) NB186_188.out _).trans (((cell_far (p := ⟨gb188, _, none⟩) NB186_188.out _).trans (((cell_far (p := ⟨gb188, _, none⟩) NB186_188.out _).trans (((cell_far (p := ⟨gb188, _, none⟩) NB186_188.out _).trans (((cell_far (p := ⟨gb188, _, none⟩) NB186_188.out _).trans (hHeld.2.2.2.2.2.2.1)))))))))))))))))))), ((cell_far (p := ⟨gb188, _, none⟩) NB186_188.out _).trans (((cell_far (p := ⟨gb188, _, none⟩) NB186_188.out _).trans (((cell_far (p := ⟨gb188, _, none⟩) NB186_188.out _).trans (((cell_far (p := ⟨gb188, _, none⟩) NB186_188.out _).trans (((cell_far (p := ⟨gb188, _, none⟩) NB186_188.out _).trans (((cell_far (p := ⟨gb188, _, none⟩) NB186_188.out _).trans (((cell_far (p := ⟨gb188, _, none⟩) NB186_188.out _).trans (((cell_far (p := ⟨gb188, _, none⟩) NB186_188.out _).trans (((cell_far (p := ⟨gb188, _, none⟩) NB186_188.out _).trans (((cell_far (p := ⟨gb188, _, none⟩) NB186_188.out _).trans (hHeld.2.2.2.2.2.2.2))))))))))))))))))))⟩ (fun hHeld => ?_)
      clear hK K
      refine done_ (done_of HT_.out (by kernel_rfl)) ?_
      try go_wp2
      refine bodyPost_ret (results_cell_row rfl _ _ gb188 63 #[.bool a0_0, .bool a0_1, .bool a0_2, .bool a0_3, .int .i64 a0_4, .int .i64 a0_5, .string a0_6, .string a0_7, .string t209, .bool (decide (t189 ≥ 512))] (0, 0) _ rfl (by (with_reducible repeat (first | refine blk_drewN ?_ _ | refine blk_drew ?_ | refine blk_alloc ?_ _)); refine blk_put (cs := #[.bool a0_0, .bool a0_1, .bool a0_2, .bool a0_3, .int .i64 a0_4, .int .i64 a0_5, .string a0_6, .string a0_7, .string t209, .bool false]) ?_ 9 _ rfl; (with_reducible repeat (first | refine blk_drewN ?_ _ | refine blk_drew ?_ | refine blk_alloc ?_ _)); refine blk_put (cs := #[.bool a0_0, .bool a0_1, .bool a0_2, .bool a0_3, .int .i64 a0_4, .int .i64 a0_5, .string a0_6, .string a0_7, .string (⟨#[]⟩ : ByteArray), .bool false]) ?_ 8 _ rfl; (with_reducible repeat (first | refine blk_drewN ?_ _ | refine blk_drew ?_ | refine blk_alloc ?_ _)); refine blk_put (cs := #[.bool a0_0, .bool a0_1, .bool a0_2, .bool a0_3, .int .i64 a0_4, .int .i64 a0_5, .string a0_6, .string (⟨#[]⟩ : ByteArray), .string (⟨#[]⟩ : ByteArray), .bool false]) ?_ 7 _ rfl; (with_reducible repeat (first | refine blk_drewN ?_ _ | refine blk_drew ?_ | refine blk_alloc ?_ _)); refine blk_put (cs := #[.bool a0_0, .bool a0_1, .bool a0_2, .bool a0_3, .int .i64 a0_4, .int .i64 a0_5, .string (⟨#[]⟩ : ByteArray), .string (⟨#[]⟩ : ByteArray), .string (⟨#[]⟩ : ByteArray), .bool false]) ?_ 6 _ rfl; (with_reducible repeat (first | refine blk_drewN ?_ _ | refine blk_drew ?_ | refine blk_alloc ?_ _)); refine blk_put (cs := #[.bool a0_0, .bool a0_1, .bool a0_2, .bool a0_3, .int .i64 a0_4, .int .i64 0, .string (⟨#[]⟩ : ByteArray), .string (⟨#[]⟩ : ByteArray), .string (⟨#[]⟩ : ByteArray), .bool false]) ?_ 5 _ rfl; (with_reducible repeat (first | refine blk_drewN ?_ _ | refine blk_drew ?_ | refine blk_alloc ?_ _)); refine blk_put (cs := #[.bool a0_0, .bool a0_1, .bool a0_2, .bool a0_3, .int .i64 0, .int .i64 0, .string (⟨#[]⟩ : ByteArray), .string (⟨#[]⟩ : ByteArray), .string (⟨#[]⟩ : ByteArray), .bool false]) ?_ 4 _ rfl; (with_reducible repeat (first | refine blk_drewN ?_ _ | refine blk_drew ?_ | refine blk_alloc ?_ _)); refine blk_put (cs := #[.bool a0_0, .bool a0_1, .bool a0_2, .bool false, .int .i64 0, .int .i64 0, .string (⟨#[]⟩ : ByteArray), .string (⟨#[]⟩ : ByteArray), .string (⟨#[]⟩ : ByteArray), .bool false]) ?_ 3 _ rfl; (with_reducible repeat (first | refine blk_drewN ?_ _ | refine blk_drew ?_ | refine blk_alloc ?_ _)); refine blk_put (cs := #[.bool a0_0, .bool a0_1, .bool false, .bool false, .int .i64 0, .int .i64 0, .string (⟨#[]⟩ : ByteArray), .string (⟨#[]⟩ : ByteArray), .string (⟨#[]⟩ : ByteArray), .bool false]) ?_ 2 _ rfl; (with_reducible repeat (first | refine blk_drewN ?_ _ | refine blk_drew ?_ | refine blk_alloc ?_ _)); refine blk_put (cs := #[.bool a0_0, .bool false, .bool false, .bool false, .int .i64 0, .int .i64 0, .string (⟨#[]⟩ : ByteArray), .string (⟨#[]⟩ : ByteArray), .string (⟨#[]⟩ : ByteArray), .bool false]) ?_ 1 _ rfl; (with_reducible repeat (first | refine blk_drewN ?_ _ | refine blk_drew ?_ | refine blk_alloc ?_ _)); refine blk_put (cs := #[.bool false, .bool false, .bool false, .bool false, .int .i64 0, .int .i64 0, .string (⟨#[]⟩ : ByteArray), .string (⟨#[]⟩ : ByteArray), .string (⟨#[]⟩ : ByteArray), .bool false]) ?_ 0 _ rfl; (with_reducible repeat (first | refine blk_drewN ?_ _ | refine blk_drew ?_ | refine blk_alloc ?_ _)); exact BK188.out) Tryd.underlying63 rfl (by kernel_rfl)) rfl ?_
      exact ⟨by first | rfl | (simp [errW_none, errW_some] <;> rfl) | (simp only [← hji160, ← hji161]; first | rfl | (simp [errW_none, errW_some] <;> rfl)) | (simp [*, errW_none, errW_some] <;> rfl) | (simp [bt, *]; done) | (unfold bt; simp [*]; done), by repeat (first | (with_reducible first | exact HB.out | apply below_alloc | apply pw_below_drewN | apply below_drew1 | refine below_set ?_ GE186.out | refine below_set ?_ GE187.out | refine below_set ?_ GE188.out) | exact HB.out)⟩
     rw [if_neg c159] at H
     have c159b0 : (a1_0.toList == ([77, 97, 120, 66, 117, 114, 115, 116, 76, 101, 110, 103, 116, 104] : List UInt8)) = false := beq_eq_false_iff_ne.mpr c159
     have c159b1 : (a1_0.toList != ([77, 97, 120, 66, 117, 114, 115, 116, 76, 101, 110, 103, 116, 104] : List UInt8)) = true := bne_iff_ne.mpr c159
     have HC175 := Aside0.mk H
     clear H
     go_upto_if 110 with (fail)
     go_cut [110] (fun v110 wc => ∃ (kq : Nat) (x110_174 : Bool), v110 = .bool x110_174 ∧ Aside0 (headgateref21_one.j2 kq a1_1 t189 a1_0 x110_174 a0_0 a0_1 a0_2 a0_3 a0_4 a0_5 a0_6 a0_7 = some (r1, r2, r3, r4, r5, r6, r7, r8, r9, r10)) ∧ Aside0 (kq ≤ kj122) ∧ Aside0 (wc.heap[gb186]? = some (.cells #[.bool a0_0, .bool a0_1, .bool a0_2, .bool a0_3, .int .i64 a0_4, .int .i64 a0_5, .string a0_6, .string a0_7] 31 (0, 0))) ∧ Aside0 (wc.heap[gb187]? = some (.cells #[.string a1_0, .string a1_1] 45 (0, 0))) ∧ Aside0 (wc.heap[gb188]? = some (.cells #[.bool false, .bool false, .bool false, .bool false, .int .i64 0, .int .i64 0, .string (⟨#[]⟩ : ByteArray), .string (⟨#[]⟩ : ByteArray), .string (⟨#[]⟩ : ByteArray), .bool false] 63 (0, 0))) ∧ Aside0 (Below w.heap.size w wc))
     case first =>
      have H := HC175.out
      clear HC175
      refine neg_first (p := (a1_0.toList = ([77, 97, 120, 67, 111, 110, 110, 101, 99, 116, 105, 111, 110, 115] : List UInt8))) (fun c176 => ?_) (fun c176 => ?_)
      ·rw [if_neg c176] at H
       have c176b0 : (a1_0.toList == ([77, 97, 120, 67, 111, 110, 110, 101, 99, 116, 105, 111, 110, 115] : List UInt8)) = false := beq_eq_false_iff_ne.mpr c176
       have c176b1 : (a1_0.toList != ([77, 97, 120, 67, 111, 110, 110, 101, 99, 116, 105, 111, 110, 115] : List UInt8)) = true := bne_iff_ne.mpr c176
       (first | rw [c176b0] | (simp only [i64_w, i32_w]; rw [c176b0]) | skip)
       have H' := Aside0.mk H
       clear H
       go_wp2
       go_meet
       case rel => exact ⟨_, ((a1_0.toList == ([77, 97, 120, 79, 117, 116, 115, 116, 97, 110, 100, 105, 110, 103, 82, 50, 84] : List UInt8))), (by first | rfl | (simp; done) | (simp [*]; done)), H', ⟨by have := HJ69.out; have := HJ122.out; first | omega | exact Nat.le_refl _⟩, ⟨bk_ BK186⟩, ⟨bk_ BK187⟩, ⟨bk_ BK188⟩, ⟨hb_ HB⟩⟩
      rw [if_pos c176] at H
      have c176b0 : (a1_0.toList == ([77, 97, 120, 67, 111, 110, 110, 101, 99, 116, 105, 111, 110, 115] : List UInt8)) = true := beq_iff_eq.mpr c176
      have c176b1 : (a1_0.toList != ([77, 97, 120, 67, 111, 110, 110, 101, 99, 116, 105, 111, 110, 115] : List UInt8)) = false := bne_eq_false_iff_eq.mpr c176
      clear c176
      (first | rw [c176b0] | (simp only [i64_w, i32_w]; rw [c176b0]) | skip)
      have H' := Aside0.mk H
      clear H
      go_wp2
      go_meet
      case rel => exact ⟨_, ((a1_0.toList == ([77, 97, 120, 67, 111, 110, 110, 101, 99, 116, 105, 111, 110, 115] : List UInt8))), (by first | rfl | (simp; done) | (simp [*]; done)), H', ⟨by have := HJ69.out; have := HJ122.out; first | omega | exact Nat.le_refl _⟩, ⟨bk_ BK186⟩, ⟨bk_ BK187⟩, ⟨bk_ BK188⟩, ⟨hb_ HB⟩⟩
     case rest =>
      clear HC175
      try clear c1
      try clear p2
      try clear c5
      try clear c12
      try clear c13
      try clear c14
      try clear c15
      try clear c17
      try clear c55
      try clear c56
      try clear c126
      try clear c139
      try clear c139b0
      try clear c139b1
      try clear c143
      try clear c144
      try clear c159
      try clear c159b0
      try clear c159b1
      try clear c176
      try clear c176b0
      try clear c176b1
      try clear hcz145_0
      try clear hcz145_1
      try clear hcz145_2
      try clear hcz145_3
      try clear hcz145_4
      try clear hcz145_5
      try clear hcz145_6
      try clear hcz145_7
      try clear hfz145_0
      try clear hfz145_1
      try clear hfz145_2
      try clear hfz145_3
      try clear hfz145_4
      try clear hfz145_5
      try clear hfz145_6
      try clear hfz145_7
      try clear hfz98_9
      try clear p2
      obtain ⟨kq, x110_174, rfl, HA, HJ174, BK186, BK187, BK188, HB⟩ := hcut
      cases kq with
      | zero => exact absurd HA.out (by simp [headgateref21_one.j2])
      | succ kj174 =>
       have H := HA.out
       clear HA
       simp only [headgateref21_one.j2] at H
       by_cases c177 : x110_174 = true
       ·subst c177
        have H1 := H
        rw [if_pos rfl] at H1
        clear H
        have H := H1
        clear H1
        simp only [Option.some.injEq, Prod.mk.injEq] at H
        obtain ⟨rfl, rfl, rfl, rfl, rfl, rfl, rfl, rfl, rfl, rfl⟩ := H
        have hnb178 := NB186_187.out
        have hnc178 := NB187_186.out
        have hnb179 := NB186_188.out
        have hnc179 := NB188_186.out
        have hcz180_0 : wc.cell? ⟨gb186, 0, none⟩ = some (.bool a0_0) := (blk_cell BK186.out 0).trans rfl
        have hcz180_1 : wc.cell? ⟨gb186, 1, none⟩ = some (.bool a0_1) := (blk_cell BK186.out 1).trans rfl
        have hcz180_2 : wc.cell? ⟨gb186, 2, none⟩ = some (.bool a0_2) := (blk_cell BK186.out 2).trans rfl
        have hcz180_3 : wc.cell? ⟨gb186, 3, none⟩ = some (.bool a0_3) := (blk_cell BK186.out 3).trans rfl
        have hcz180_4 : wc.cell? ⟨gb186, 4, none⟩ = some (.int .i64 a0_4) := (blk_cell BK186.out 4).trans rfl
        have hcz180_5 : wc.cell? ⟨gb186, 5, none⟩ = some (.int .i64 a0_5) := (blk_cell BK186.out 5).trans rfl
        have hcz180_6 : wc.cell? ⟨gb186, 6, none⟩ = some (.string a0_6) := (blk_cell BK186.out 6).trans rfl
        have hcz180_7 : wc.cell? ⟨gb186, 7, none⟩ = some (.string a0_7) := (blk_cell BK186.out 7).trans rfl
        have hfz180_0 := blk_frozen BK186.out 0
        have hfz180_1 := blk_frozen BK186.out 1
        have hfz180_2 := blk_frozen BK186.out 2
        have hfz180_3 := blk_frozen BK186.out 3
        have hfz180_4 := blk_frozen BK186.out 4
        have hfz180_5 := blk_frozen BK186.out 5
        have hfz180_6 := blk_frozen BK186.out 6
        have hfz180_7 := blk_frozen BK186.out 7
        have hnb181 := NB188_187.out
        have hnc181 := NB187_188.out
        have hcz182_0 : wc.cell? ⟨gb188, 0, none⟩ = some (.bool false) := (blk_cell BK188.out 0).trans rfl
        have hcz182_1 : wc.cell? ⟨gb188, 1, none⟩ = some (.bool false) := (blk_cell BK188.out 1).trans rfl
        have hcz182_2 : wc.cell? ⟨gb188, 2, none⟩ = some (.bool false) := (blk_cell BK188.out 2).trans rfl
        have hcz182_3 : wc.cell? ⟨gb188, 3, none⟩ = some (.bool false) := (blk_cell BK188.out 3).trans rfl
        have hcz182_4 : wc.cell? ⟨gb188, 4, none⟩ = some (.int .i64 0) := (blk_cell BK188.out 4).trans rfl
        have hcz182_5 : wc.cell? ⟨gb188, 5, none⟩ = some (.int .i64 0) := (blk_cell BK188.out 5).trans rfl
        have hcz182_6 : wc.cell? ⟨gb188, 6, none⟩ = some (.string (⟨#[]⟩ : ByteArray)) := (blk_cell BK188.out 6).trans rfl
        have hcz182_7 : wc.cell? ⟨gb188, 7, none⟩ = some (.string (⟨#[]⟩ : ByteArray)) := (blk_cell BK188.out 7).trans rfl
        have hcz182_8 : wc.cell? ⟨gb188, 8, none⟩ = some (.string (⟨#[]⟩ : ByteArray)) := (blk_cell BK188.out 8).trans rfl
        have hcz182_9 : wc.cell? ⟨gb188, 9, none⟩ = some (.bool false) := (blk_cell BK188.out 9).trans rfl
        have hfz182_0 := blk_frozen BK188.out 0
        have hfz182_1 := blk_frozen BK188.out 1
        have hfz182_2 := blk_frozen BK188.out 2
        have hfz182_3 := blk_frozen BK188.out 3
        have hfz182_4 := blk_frozen BK188.out 4
        have hfz182_5 := blk_frozen BK188.out 5
        have hfz182_6 := blk_frozen BK188.out 6
        have hfz182_7 := blk_frozen BK188.out 7
        have hfz182_8 := blk_frozen BK188.out 8
        have hfz182_9 := blk_frozen BK188.out 9
        go_wp2
        refine bodyPost_ret (results_cell_row rfl _ _ gb188 63 #[.bool a0_0, .bool a0_1, .bool a0_2, .bool a0_3, .int .i64 a0_4, .int .i64 a0_5, .string a0_6, .string a0_7, .string (⟨#[49]⟩ : ByteArray), .bool (decide (t189 ≥ 1))] (0, 0) _ rfl (by (with_reducible repeat (first | refine blk_drewN ?_ _ | refine blk_drew ?_ | refine blk_alloc ?_ _)); refine blk_put (cs := #[.bool a0_0, .bool a0_1, .bool a0_2, .bool a0_3, .int .i64 a0_4, .int .i64 a0_5, .string a0_6, .string a0_7, .string (⟨#[49]⟩ : ByteArray), .bool false]) ?_ 9 _ rfl; (with_reducible repeat (first | refine blk_drewN ?_ _ | refine blk_drew ?_ | refine blk_alloc ?_ _)); refine blk_put (cs := #[.bool a0_0, .bool a0_1, .bool a0_2, .bool a0_3, .int .i64 a0_4, .int .i64 a0_5, .string a0_6, .string a0_7, .string (⟨#[]⟩ : ByteArray), .bool false]) ?_ 8 _ rfl; (with_reducible repeat (first | refine blk_drewN ?_ _ | refine blk_drew ?_ | refine blk_alloc ?_ _)); refine blk_put (cs := #[.bool a0_0, .bool a0_1, .bool a0_2, .bool a0_3, .int .i64 a0_4, .int .i64 a0_5, .string a0_6, .string (⟨#[]⟩ : ByteArray), .string (⟨#[]⟩ : ByteArray), .bool false]) ?_ 7 _ rfl; (with_reducible repeat (first | refine blk_drewN ?_ _ | refine blk_drew ?_ | refine blk_alloc ?_ _)); refine blk_put (cs := #[.bool a0_0, .bool a0_1, .bool a0_2, .bool a0_3, .int .i64 a0_4, .int .i64 a0_5, .string (⟨#[]⟩ : ByteArray), .string (⟨#[]⟩ : ByteArray), .string (⟨#[]⟩ : ByteArray), .bool false]) ?_ 6 _ rfl; (with_reducible repeat (first | refine blk_drewN ?_ _ | refine blk_drew ?_ | refine blk_alloc ?_ _)); refine blk_put (cs := #[.bool a0_0, .bool a0_1, .bool a0_2, .bool a0_3, .int .i64 a0_4, .int .i64 0, .string (⟨#[]⟩ : ByteArray), .string (⟨#[]⟩ : ByteArray), .string (⟨#[]⟩ : ByteArray), .bool false]) ?_ 5 _ rfl; (with_reducible repeat (first | refine blk_drewN ?_ _ | refine blk_drew ?_ | refine blk_alloc ?_ _)); refine blk_put (cs := #[.bool a0_0, .bool a0_1, .bool a0_2, .bool a0_3, .int .i64 0, .int .i64 0, .string (⟨#[]⟩ : ByteArray), .string (⟨#[]⟩ : ByteArray), .string (⟨#[]⟩ : ByteArray), .bool false]) ?_ 4 _ rfl; (with_reducible repeat (first | refine blk_drewN ?_ _ | refine blk_drew ?_ | refine blk_alloc ?_ _)); refine blk_put (cs := #[.bool a0_0, .bool a0_1, .bool a0_2, .bool false, .int .i64 0, .int .i64 0, .string (⟨#[]⟩ : ByteArray), .string (⟨#[]⟩ : ByteArray), .string (⟨#[]⟩ : ByteArray), .bool false]) ?_ 3 _ rfl; (with_reducible repeat (first | refine blk_drewN ?_ _ | refine blk_drew ?_ | refine blk_alloc ?_ _)); refine blk_put (cs := #[.bool a0_0, .bool a0_1, .bool false, .bool false, .int .i64 0, .int .i64 0, .string (⟨#[]⟩ : ByteArray), .string (⟨#[]⟩ : ByteArray), .string (⟨#[]⟩ : ByteArray), .bool false]) ?_ 2 _ rfl; (with_reducible repeat (first | refine blk_drewN ?_ _ | refine blk_drew ?_ | refine blk_alloc ?_ _)); refine blk_put (cs := #[.bool a0_0, .bool false, .bool false, .bool false, .int .i64 0, .int .i64 0, .string (⟨#[]⟩ : ByteArray), .string (⟨#[]⟩ : ByteArray), .string (⟨#[]⟩ : ByteArray), .bool false]) ?_ 1 _ rfl; (with_reducible repeat (first | refine blk_drewN ?_ _ | refine blk_drew ?_ | refine blk_alloc ?_ _)); refine blk_put (cs := #[.bool false, .bool false, .bool false, .bool false, .int .i64 0, .int .i64 0, .string (⟨#[]⟩ : ByteArray), .string (⟨#[]⟩ : ByteArray), .string (⟨#[]⟩ : ByteArray), .bool false]) ?_ 0 _ rfl; (with_reducible repeat (first | refine blk_drewN ?_ _ | refine blk_drew ?_ | refine blk_alloc ?_ _)); exact BK188.out) Tryd.underlying63 rfl (by kernel_rfl)) rfl ?_
        exact ⟨by first | rfl | (simp [errW_none, errW_some] <;> rfl) | (simp [*, errW_none, errW_some] <;> rfl) | (simp [bt, *]; done) | (unfold bt; simp [*]; done), by repeat (first | (with_reducible first | exact HB.out | apply below_alloc | apply pw_below_drewN | apply below_drew1 | refine below_set ?_ GE186.out | refine below_set ?_ GE187.out | refine below_set ?_ GE188.out) | exact HB.out)⟩
       replace c177 := Bool.eq_false_iff.mpr c177
       subst c177
       have H1 := H
       rw [if_neg (show ¬ (false = true) by decide)] at H1
       clear H
       have H := H1
       clear H1
       have HC183 := Aside0.mk H
       clear H
       go_upto_if 117 with (fail)
       go_cut [117] (fun v117 wc => ∃ (kq : Nat) (x117_182 : Bool), v117 = .bool x117_182 ∧ Aside0 (headgateref21_one.j3 kq a1_1 t189 a1_0 x117_182 a0_0 a0_1 a0_2 a0_3 a0_4 a0_5 a0_6 a0_7 = some (r1, r2, r3, r4, r5, r6, r7, r8, r9, r10)) ∧ Aside0 (kq ≤ kj174) ∧ Aside0 (wc.heap[gb186]? = some (.cells #[.bool a0_0, .bool a0_1, .bool a0_2, .bool a0_3, .int .i64 a0_4, .int .i64 a0_5, .string a0_6, .string a0_7] 31 (0, 0))) ∧ Aside0 (wc.heap[gb187]? = some (.cells #[.string a1_0, .string a1_1] 45 (0, 0))) ∧ Aside0 (wc.heap[gb188]? = some (.cells #[.bool false, .bool false, .bool false, .bool false, .int .i64 0, .int .i64 0, .string (⟨#[]⟩ : ByteArray), .string (⟨#[]⟩ : ByteArray), .string (⟨#[]⟩ : ByteArray), .bool false] 63 (0, 0))) ∧ Aside0 (Below w.heap.size w wc))
       case first =>
        have H := HC183.out
        clear HC183
        by_cases c184 : a1_0.toList = ([68, 101, 102, 97, 117, 108, 116, 84, 105, 109, 101, 50, 87, 97, 105, 116] : List UInt8)
        ·rw [if_pos c184] at H
         have c184b0 : (a1_0.toList == ([68, 101, 102, 97, 117, 108, 116, 84, 105, 109, 101, 50, 87, 97, 105, 116] : List UInt8)) = true := beq_iff_eq.mpr c184
         have c184b1 : (a1_0.toList != ([68, 101, 102, 97, 117, 108, 116, 84, 105, 109, 101, 50, 87, 97, 105, 116] : List UInt8)) = false := bne_eq_false_iff_eq.mpr c184
         clear c184
         (first | rw [c184b0] | (simp only [i64_w, i32_w]; rw [c184b0]) | skip)
         have H' := Aside0.mk H
         clear H
         go_wp2
         go_meet
         case rel => exact ⟨_, ((a1_0.toList == ([68, 101, 102, 97, 117, 108, 116, 84, 105, 109, 101, 50, 87, 97, 105, 116] : List UInt8))), (by first | rfl | (simp; done) | (simp [*]; done)), H', ⟨by have := HJ69.out; have := HJ122.out; have := HJ174.out; first | omega | exact Nat.le_refl _⟩, ⟨bk_ BK186⟩, ⟨bk_ BK187⟩, ⟨bk_ BK188⟩, ⟨hb_ HB⟩⟩
        rw [if_neg c184] at H
        have c184b0 : (a1_0.toList == ([68, 101, 102, 97, 117, 108, 116, 84, 105, 109, 101, 50, 87, 97, 105, 116] : List UInt8)) = false := beq_eq_false_iff_ne.mpr c184
        have c184b1 : (a1_0.toList != ([68, 101, 102, 97, 117, 108, 116, 84, 105, 109, 101, 50, 87, 97, 105, 116] : List UInt8)) = true := bne_iff_ne.mpr c184
        (first | rw [c184b0] | (simp only [i64_w, i32_w]; rw [c184b0]) | skip)
        refine neg_first (p := (a1_0.toList = ([68, 101, 102, 97, 117, 108, 116, 84, 105, 109, 101, 50, 82, 101, 116, 97, 105, 110] : List UInt8))) (fun c185 => ?_) (fun c185 => ?_)
        ·rw [if_neg c185] at H
         have c185b0 : (a1_0.toList == ([68, 101, 102, 97, 117, 108, 116, 84, 105, 109, 101, 50, 82, 101, 116, 97, 105, 110] : List UInt8)) = false := beq_eq_false_iff_ne.mpr c185
         have c185b1 : (a1_0.toList != ([68, 101, 102, 97, 117, 108, 116, 84, 105, 109, 101, 50, 82, 101, 116, 97, 105, 110] : List UInt8)) = true := bne_iff_ne.mpr c185
         have H' := Aside0.mk H
         clear H
         go_wp2
         go_meet
         case rel => exact ⟨_, ((a1_0.toList == ([69, 114, 114, 111, 114, 82, 101, 99, 111, 118, 101, 114, 121, 76, 101, 118, 101, 108] : List UInt8))), (by first | rfl | (simp; done) | (simp [*]; done)), H', ⟨by have := HJ69.out; have := HJ122.out; have := HJ174.out; first | omega | exact Nat.le_refl _⟩, ⟨bk_ BK186⟩, ⟨bk_ BK187⟩, ⟨bk_ BK188⟩, ⟨hb_ HB⟩⟩
        rw [if_pos c185] at H
        have c185b0 : (a1_0.toList == ([68, 101, 102, 97, 117, 108, 116, 84, 105, 109, 101, 50, 82, 101, 116, 97, 105, 110] : List UInt8)) = true := beq_iff_eq.mpr c185
        have c185b1 : (a1_0.toList != ([68, 101, 102, 97, 117, 108, 116, 84, 105, 109, 101, 50, 82, 101, 116, 97, 105, 110] : List UInt8)) = false := bne_eq_false_iff_eq.mpr c185
        clear c185
        have H' := Aside0.mk H
        clear H
        go_wp2
        go_meet
        case rel => exact ⟨_, ((a1_0.toList == ([68, 101, 102, 97, 117, 108, 116, 84, 105, 109, 101, 50, 82, 101, 116, 97, 105, 110] : List UInt8))), (by first | rfl | (simp; done) | (simp [*]; done)), H', ⟨by have := HJ69.out; have := HJ122.out; have := HJ174.out; first | omega | exact Nat.le_refl _⟩, ⟨bk_ BK186⟩, ⟨bk_ BK187⟩, ⟨bk_ BK188⟩, ⟨hb_ HB⟩⟩
       case rest =>
        clear HC183
        try clear c1
        try clear p2
        try clear c5
        try clear c12
        try clear c13
        try clear c14
        try clear c15
        try clear c17
        try clear c18
        try clear c55
        try clear c56
        try clear c126
        try clear c139
        try clear c139b0
        try clear c139b1
        try clear c143
        try clear c144
        try clear c159
        try clear c159b0
        try clear c159b1
        try clear c176
        try clear c176b0
        try clear c176b1
        try clear c177
        try clear c178
        try clear c179
        try clear c181
        try clear c184
        try clear c184b0
        try clear c184b1
        try clear c185
        try clear c185b0
        try clear c185b1
        try clear hcz145_0
        try clear hcz145_1
        try clear hcz145_2
        try clear hcz145_3
        try clear hcz145_4
        try clear hcz145_5
        try clear hcz145_6
        try clear hcz145_7
        try clear hcz180_0
        try clear hcz180_1
        try clear hcz180_2
        try clear hcz180_3
        try clear hcz180_4
        try clear hcz180_5
        try clear hcz180_6
        try clear hcz180_7
        try clear hcz182_0
        try clear hcz182_1
        try clear hcz182_2
        try clear hcz182_3
        try clear hcz182_4
        try clear hcz182_5
        try clear hcz182_6
        try clear hcz182_7
        try clear hcz182_8
        try clear hcz182_9
        try clear hfz145_0
        try clear hfz145_1
        try clear hfz145_2
        try clear hfz145_3
        try clear hfz145_4
        try clear hfz145_5
        try clear hfz145_6
        try clear hfz145_7
        try clear hfz180_0
        try clear hfz180_1
        try clear hfz180_2
        try clear hfz180_3
        try clear hfz180_4
        try clear hfz180_5
        try clear hfz180_6
        try clear hfz180_7
        try clear hfz182_0
        try clear hfz182_1
        try clear hfz182_2
        try clear hfz182_3
        try clear hfz182_4
        try clear hfz182_5
        try clear hfz182_6
        try clear hfz182_7
        try clear hfz182_8
        try clear hfz182_9
        try clear hfz98_9
        try clear p2
        obtain ⟨kq, x117_182, rfl, HA, HJ182, BK186, BK187, BK188, HB⟩ := hcut
        cases kq with
        | zero => exact absurd HA.out (by simp [headgateref21_one.j3])
        | succ kj182 =>
         have H := HA.out
         clear HA
         simp only [headgateref21_one.j3] at H
         by_cases c186 : x117_182 = true
         ·subst c186
          have H1 := H
          rw [if_pos rfl] at H1
          clear H
          have H := H1
          clear H1
          simp only [Option.some.injEq, Prod.mk.injEq] at H
          obtain ⟨rfl, rfl, rfl, rfl, rfl, rfl, rfl, rfl, rfl, rfl⟩ := H
          have hnb187 := NB186_187.out
          have hnc187 := NB187_186.out
          have hnb188 := NB186_188.out
          have hnc188 := NB188_186.out
          have hcz189_0 : wc.cell? ⟨gb186, 0, none⟩ = some (.bool a0_0) := (blk_cell BK186.out 0).trans rfl
          have hcz189_1 : wc.cell? ⟨gb186, 1, none⟩ = some (.bool a0_1) := (blk_cell BK186.out 1).trans rfl
          have hcz189_2 : wc.cell? ⟨gb186, 2, none⟩ = some (.bool a0_2) := (blk_cell BK186.out 2).trans rfl
          have hcz189_3 : wc.cell? ⟨gb186, 3, none⟩ = some (.bool a0_3) := (blk_cell BK186.out 3).trans rfl
          have hcz189_4 : wc.cell? ⟨gb186, 4, none⟩ = some (.int .i64 a0_4) := (blk_cell BK186.out 4).trans rfl
          have hcz189_5 : wc.cell? ⟨gb186, 5, none⟩ = some (.int .i64 a0_5) := (blk_cell BK186.out 5).trans rfl
          have hcz189_6 : wc.cell? ⟨gb186, 6, none⟩ = some (.string a0_6) := (blk_cell BK186.out 6).trans rfl
          have hcz189_7 : wc.cell? ⟨gb186, 7, none⟩ = some (.string a0_7) := (blk_cell BK186.out 7).trans rfl
          have hfz189_0 := blk_frozen BK186.out 0
          have hfz189_1 := blk_frozen BK186.out 1
          have hfz189_2 := blk_frozen BK186.out 2
          have hfz189_3 := blk_frozen BK186.out 3
          have hfz189_4 := blk_frozen BK186.out 4
          have hfz189_5 := blk_frozen BK186.out 5
          have hfz189_6 := blk_frozen BK186.out 6
          have hfz189_7 := blk_frozen BK186.out 7
          have hnb190 := NB188_187.out
          have hnc190 := NB187_188.out
          have hcz191_0 : wc.cell? ⟨gb188, 0, none⟩ = some (.bool false) := (blk_cell BK188.out 0).trans rfl
          have hcz191_1 : wc.cell? ⟨gb188, 1, none⟩ = some (.bool false) := (blk_cell BK188.out 1).trans rfl
          have hcz191_2 : wc.cell? ⟨gb188, 2, none⟩ = some (.bool false) := (blk_cell BK188.out 2).trans rfl
          have hcz191_3 : wc.cell? ⟨gb188, 3, none⟩ = some (.bool false) := (blk_cell BK188.out 3).trans rfl
          have hcz191_4 : wc.cell? ⟨gb188, 4, none⟩ = some (.int .i64 0) := (blk_cell BK188.out 4).trans rfl
          have hcz191_5 : wc.cell? ⟨gb188, 5, none⟩ = some (.int .i64 0) := (blk_cell BK188.out 5).trans rfl
          have hcz191_6 : wc.cell? ⟨gb188, 6, none⟩ = some (.string (⟨#[]⟩ : ByteArray)) := (blk_cell BK188.out 6).trans rfl
          have hcz191_7 : wc.cell? ⟨gb188, 7, none⟩ = some (.string (⟨#[]⟩ : ByteArray)) := (blk_cell BK188.out 7).trans rfl
          have hcz191_8 : wc.cell? ⟨gb188, 8, none⟩ = some (.string (⟨#[]⟩ : ByteArray)) := (blk_cell BK188.out 8).trans rfl
          have hcz191_9 : wc.cell? ⟨gb188, 9, none⟩ = some (.bool false) := (blk_cell BK188.out 9).trans rfl
          have hfz191_0 := blk_frozen BK188.out 0
          have hfz191_1 := blk_frozen BK188.out 1
          have hfz191_2 := blk_frozen BK188.out 2
          have hfz191_3 := blk_frozen BK188.out 3
          have hfz191_4 := blk_frozen BK188.out 4
          have hfz191_5 := blk_frozen BK188.out 5
          have hfz191_6 := blk_frozen BK188.out 6
          have hfz191_7 := blk_frozen BK188.out 7
          have hfz191_8 := blk_frozen BK188.out 8
          have hfz191_9 := blk_frozen BK188.out 9
          go_wp2
          refine bodyPost_ret (results_cell_row rfl _ _ gb188 63 #[.bool a0_0, .bool a0_1, .bool a0_2, .bool a0_3, .int .i64 a0_4, .int .i64 a0_5, .string a0_6, .string a0_7, .string (⟨#[48]⟩ : ByteArray), .bool (decide (t189 ≥ 0))] (0, 0) _ rfl (by (with_reducible repeat (first | refine blk_drewN ?_ _ | refine blk_drew ?_ | refine blk_alloc ?_ _)); refine blk_put (cs := #[.bool a0_0, .bool a0_1, .bool a0_2, .bool a0_3, .int .i64 a0_4, .int .i64 a0_5, .string a0_6, .string a0_7, .string (⟨#[48]⟩ : ByteArray), .bool false]) ?_ 9 _ rfl; (with_reducible repeat (first | refine blk_drewN ?_ _ | refine blk_drew ?_ | refine blk_alloc ?_ _)); refine blk_put (cs := #[.bool a0_0, .bool a0_1, .bool a0_2, .bool a0_3, .int .i64 a0_4, .int .i64 a0_5, .string a0_6, .string a0_7, .string (⟨#[]⟩ : ByteArray), .bool false]) ?_ 8 _ rfl; (with_reducible repeat (first | refine blk_drewN ?_ _ | refine blk_drew ?_ | refine blk_alloc ?_ _)); refine blk_put (cs := #[.bool a0_0, .bool a0_1, .bool a0_2, .bool a0_3, .int .i64 a0_4, .int .i64 a0_5, .string a0_6, .string (⟨#[]⟩ : ByteArray), .string (⟨#[]⟩ : ByteArray), .bool false]) ?_ 7 _ rfl; (with_reducible repeat (first | refine blk_drewN ?_ _ | refine blk_drew ?_ | refine blk_alloc ?_ _)); refine blk_put (cs := #[.bool a0_0, .bool a0_1, .bool a0_2, .bool a0_3, .int .i64 a0_4, .int .i64 a0_5, .string (⟨#[]⟩ : ByteArray), .string (⟨#[]⟩ : ByteArray), .string (⟨#[]⟩ : ByteArray), .bool false]) ?_ 6 _ rfl; (with_reducible repeat (first | refine blk_drewN ?_ _ | refine blk_drew ?_ | refine blk_alloc ?_ _)); refine blk_put (cs := #[.bool a0_0, .bool a0_1, .bool a0_2, .bool a0_3, .int .i64 a0_4, .int .i64 0, .string (⟨#[]⟩ : ByteArray), .string (⟨#[]⟩ : ByteArray), .string (⟨#[]⟩ : ByteArray), .bool false]) ?_ 5 _ rfl; (with_reducible repeat (first | refine blk_drewN ?_ _ | refine blk_drew ?_ | refine blk_alloc ?_ _)); refine blk_put (cs := #[.bool a0_0, .bool a0_1, .bool a0_2, .bool a0_3, .int .i64 0, .int .i64 0, .string (⟨#[]⟩ : ByteArray), .string (⟨#[]⟩ : ByteArray), .string (⟨#[]⟩ : ByteArray), .bool false]) ?_ 4 _ rfl; (with_reducible repeat (first | refine blk_drewN ?_ _ | refine blk_drew ?_ | refine blk_alloc ?_ _)); refine blk_put (cs := #[.bool a0_0, .bool a0_1, .bool a0_2, .bool false, .int .i64 0, .int .i64 0, .string (⟨#[]⟩ : ByteArray), .string (⟨#[]⟩ : ByteArray), .string (⟨#[]⟩ : ByteArray), .bool false]) ?_ 3 _ rfl; (with_reducible repeat (first | refine blk_drewN ?_ _ | refine blk_drew ?_ | refine blk_alloc ?_ _)); refine blk_put (cs := #[.bool a0_0, .bool a0_1, .bool false, .bool false, .int .i64 0, .int .i64 0, .string (⟨#[]⟩ : ByteArray), .string (⟨#[]⟩ : ByteArray), .string (⟨#[]⟩ : ByteArray), .bool false]) ?_ 2 _ rfl; (with_reducible repeat (first | refine blk_drewN ?_ _ | refine blk_drew ?_ | refine blk_alloc ?_ _)); refine blk_put (cs := #[.bool a0_0, .bool false, .bool false, .bool false, .int .i64 0, .int .i64 0, .string (⟨#[]⟩ : ByteArray), .string (⟨#[]⟩ : ByteArray), .string (⟨#[]⟩ : ByteArray), .bool false]) ?_ 1 _ rfl; (with_reducible repeat (first | refine blk_drewN ?_ _ | refine blk_drew ?_ | refine blk_alloc ?_ _)); refine blk_put (cs := #[.bool false, .bool false, .bool false, .bool false, .int .i64 0, .int .i64 0, .string (⟨#[]⟩ : ByteArray), .string (⟨#[]⟩ : ByteArray), .string (⟨#[]⟩ : ByteArray), .bool false]) ?_ 0 _ rfl; (with_reducible repeat (first | refine blk_drewN ?_ _ | refine blk_drew ?_ | refine blk_alloc ?_ _)); exact BK188.out) Tryd.underlying63 rfl (by kernel_rfl)) rfl ?_
          exact ⟨by first | rfl | (simp [errW_none, errW_some] <;> rfl) | (simp [*, errW_none, errW_some] <;> rfl) | (simp [bt, *]; done) | (unfold bt; simp [*]; done), by repeat (first | (with_reducible first | exact HB.out | apply below_alloc | apply pw_below_drewN | apply below_drew1 | refine below_set ?_ GE186.out | refine below_set ?_ GE187.out | refine below_set ?_ GE188.out) | exact HB.out)⟩
         replace c186 := Bool.eq_false_iff.mpr c186
         subst c186
         have H1 := H
         rw [if_neg (show ¬ (false = true) by decide)] at H1
         clear H
         have H := H1
         clear H1
         refine neg_first (p := (a1_0.toList = ([65, 117, 116, 104, 77, 101, 116, 104, 111, 100] : List UInt8))) (fun c192 => ?_) (fun c192 => ?_)
         ·rw [if_neg c192] at H
          have c192b0 : (a1_0.toList == ([65, 117, 116, 104, 77, 101, 116, 104, 111, 100] : List UInt8)) = false := beq_eq_false_iff_ne.mpr c192
          have c192b1 : (a1_0.toList != ([65, 117, 116, 104, 77, 101, 116, 104, 111, 100] : List UInt8)) = true := bne_iff_ne.mpr c192
          replace H := Option.bind_eq_some_iff.mp H
          obtain ⟨⟨t214, t215, t216, t217, t218, t219, t220, t221, t222, t223⟩, A2080, H⟩ := H
          try dsimp only at H
          have A208 := Aside0.mk A2080
          clear A2080
          simp only [Option.some.injEq, Prod.mk.injEq] at H
          obtain ⟨rfl, rfl, rfl, rfl, rfl, rfl, rfl, rfl, rfl, rfl⟩ := H
          have hnb209 := NB186_187.out
          have hnc209 := NB187_186.out
          have hnb210 := NB186_188.out
          have hnc210 := NB188_186.out
          have hcz211_0 : wc.cell? ⟨gb186, 0, none⟩ = some (.bool a0_0) := (blk_cell BK186.out 0).trans rfl
          have hcz211_1 : wc.cell? ⟨gb186, 1, none⟩ = some (.bool a0_1) := (blk_cell BK186.out 1).trans rfl
          have hcz211_2 : wc.cell? ⟨gb186, 2, none⟩ = some (.bool a0_2) := (blk_cell BK186.out 2).trans rfl
          have hcz211_3 : wc.cell? ⟨gb186, 3, none⟩ = some (.bool a0_3) := (blk_cell BK186.out 3).trans rfl
          have hcz211_4 : wc.cell? ⟨gb186, 4, none⟩ = some (.int .i64 a0_4) := (blk_cell BK186.out 4).trans rfl
          have hcz211_5 : wc.cell? ⟨gb186, 5, none⟩ = some (.int .i64 a0_5) := (blk_cell BK186.out 5).trans rfl
          have hcz211_6 : wc.cell? ⟨gb186, 6, none⟩ = some (.string a0_6) := (blk_cell BK186.out 6).trans rfl
          have hcz211_7 : wc.cell? ⟨gb186, 7, none⟩ = some (.string a0_7) := (blk_cell BK186.out 7).trans rfl
          have hfz211_0 := blk_frozen BK186.out 0
          have hfz211_1 := blk_frozen BK186.out 1
          have hfz211_2 := blk_frozen BK186.out 2
          have hfz211_3 := blk_frozen BK186.out 3
          have hfz211_4 := blk_frozen BK186.out 4
          have hfz211_5 := blk_frozen BK186.out 5
          have hfz211_6 := blk_frozen BK186.out 6
          have hfz211_7 := blk_frozen BK186.out 7
          go_wp2_with (first | ((with_reducible refine gate_callee (f := 53) rfl ?_); refine goesL_ (some 134) rfl rfl Tryd.func53 (by kernel_rfl) rfl #[.agg #[.bool a0_0, .bool a0_1, .bool a0_2, .bool a0_3, .int .i64 a0_4, .int .i64 a0_5, .string a0_6, .string a0_7], .string (⟨#[78, 111, 116, 85, 110, 100, 101, 114, 115, 116, 111, 111, 100]⟩ : ByteArray)] rfl (by (try simp only [List.map_toArray, List.map_cons, List.map_nil]); first | done | rfl | (simp only [List.length_drop, List.length_take]; rfl)) ?_; (with_reducible refine (headgateref21_ok.calls a0_0 a0_1 a0_2 a0_3 a0_4 a0_5 a0_6 a0_7 (⟨#[78, 111, 116, 85, 110, 100, 101, 114, 115, 116, 111, 111, 100]⟩ : ByteArray) t214 t215 t216 t217 t218 t219 t220 t221 t222 t223 _ A208.out).mono ?_); rintro e w212 ⟨rfl, hb⟩; refine ⟨_, rfl, ?_⟩; have n0_ := Aside0.mk (blk_below (bk_ BK186) hb); have n1_ := Aside0.mk (blk_below (bk_ BK187) hb); have n2_ := Aside0.mk (blk_below (bk_ BK188) hb); have n3_ := Aside0.mk (below_step (hb_ HB) hb); clear BK186; clear BK187; clear BK188; clear HB; have BK186 := n0_; have BK187 := n1_; have BK188 := n2_; have HB := n3_; clear n0_ n1_ n2_ n3_; (try clear hb); (try clear hb2); (try clear hk); (try clear hi); have hnb213 := NB188_187.out; have hnc213 := NB187_188.out; have hcz214_0 : w212.cell? ⟨gb188, 0, none⟩ = some (.bool false) := (blk_cell BK188.out 0).trans rfl; have hcz214_1 : w212.cell? ⟨gb188, 1, none⟩ = some (.bool false) := (blk_cell BK188.out 1).trans rfl; have hcz214_2 : w212.cell? ⟨gb188, 2, none⟩ = some (.bool false) := (blk_cell BK188.out 2).trans rfl; have hcz214_3 : w212.cell? ⟨gb188, 3, none⟩ = some (.bool false) := (blk_cell BK188.out 3).trans rfl; have hcz214_4 : w212.cell? ⟨gb188, 4, none⟩ = some (.int .i64 0) := (blk_cell BK188.out 4).trans rfl; have hcz214_5 : w212.cell? ⟨gb188, 5, none⟩ = some (.int .i64 0) := (blk_cell BK188.out 5).trans rfl; have hcz214_6 : w212.cell? ⟨gb188, 6, none⟩ = some (.string (⟨#[]⟩ : ByteArray)) := (blk_cell BK188.out 6).trans rfl; have hcz214_7 : w212.cell? ⟨gb188, 7, none⟩ = some (.string (⟨#[]⟩ : ByteArray)) := (blk_cell BK188.out 7).trans rfl; have hcz214_8 : w212.cell? ⟨gb188, 8, none⟩ = some (.string (⟨#[]⟩ : ByteArray)) := (blk_cell BK188.out 8).trans rfl; have hcz214_9 : w212.cell? ⟨gb188, 9, none⟩ = some (.bool false) := (blk_cell BK188.out 9).trans rfl; have hfz214_0 := blk_frozen BK188.out 0; have hfz214_1 := blk_frozen BK188.out 1; have hfz214_2 := blk_frozen BK188.out 2; have hfz214_3 := blk_frozen BK188.out 3; have hfz214_4 := blk_frozen BK188.out 4; have hfz214_5 := blk_frozen BK188.out 5; have hfz214_6 := blk_frozen BK188.out 6; have hfz214_7 := blk_frozen BK188.out 7; have hfz214_8 := blk_frozen BK188.out 8; have hfz214_9 := blk_frozen BK188.out 9))
          refine bodyPost_ret (results_cell_row rfl _ _ gb188 63 #[.bool t214, .bool t215, .bool t216, .bool t217, .int .i64 t218, .int .i64 t219, .string t220, .string t221, .string t222, .bool t223] (0, 0) _ rfl (by (with_reducible repeat (first | refine blk_drewN ?_ _ | refine blk_drew ?_ | refine blk_alloc ?_ _)); refine blk_put (cs := #[.bool t214, .bool t215, .bool t216, .bool t217, .int .i64 t218, .int .i64 t219, .string t220, .string t221, .string t222, .bool false]) ?_ 9 _ rfl; (with_reducible repeat (first | refine blk_drewN ?_ _ | refine blk_drew ?_ | refine blk_alloc ?_ _)); refine blk_put (cs := #[.bool t214, .bool t215, .bool t216, .bool t217, .int .i64 t218, .int .i64 t219, .string t220, .string t221, .string (⟨#[]⟩ : ByteArray), .bool false]) ?_ 8 _ rfl; (with_reducible repeat (first | refine blk_drewN ?_ _ | refine blk_drew ?_ | refine blk_alloc ?_ _)); refine blk_put (cs := #[.bool t214, .bool t215, .bool t216, .bool t217, .int .i64 t218, .int .i64 t219, .string t220, .string (⟨#[]⟩ : ByteArray), .string (⟨#[]⟩ : ByteArray), .bool false]) ?_ 7 _ rfl; (with_reducible repeat (first | refine blk_drewN ?_ _ | refine blk_drew ?_ | refine blk_alloc ?_ _)); refine blk_put (cs := #[.bool t214, .bool t215, .bool t216, .bool t217, .int .i64 t218, .int .i64 t219, .string (⟨#[]⟩ : ByteArray), .string (⟨#[]⟩ : ByteArray), .string (⟨#[]⟩ : ByteArray), .bool false]) ?_ 6 _ rfl; (with_reducible repeat (first | refine blk_drewN ?_ _ | refine blk_drew ?_ | refine blk_alloc ?_ _)); refine blk_put (cs := #[.bool t214, .bool t215, .bool t216, .bool t217, .int .i64 t218, .int .i64 0, .string (⟨#[]⟩ : ByteArray), .string (⟨#[]⟩ : ByteArray), .string (⟨#[]⟩ : ByteArray), .bool false]) ?_ 5 _ rfl; (with_reducible repeat (first | refine blk_drewN ?_ _ | refine blk_drew ?_ | refine blk_alloc ?_ _)); refine blk_put (cs := #[.bool t214, .bool t215, .bool t216, .bool t217, .int .i64 0, .int .i64 0, .string (⟨#[]⟩ : ByteArray), .string (⟨#[]⟩ : ByteArray), .string (⟨#[]⟩ : ByteArray), .bool false]) ?_ 4 _ rfl; (with_reducible repeat (first | refine blk_drewN ?_ _ | refine blk_drew ?_ | refine blk_alloc ?_ _)); refine blk_put (cs := #[.bool t214, .bool t215, .bool t216, .bool false, .int .i64 0, .int .i64 0, .string (⟨#[]⟩ : ByteArray), .string (⟨#[]⟩ : ByteArray), .string (⟨#[]⟩ : ByteArray), .bool false]) ?_ 3 _ rfl; (with_reducible repeat (first | refine blk_drewN ?_ _ | refine blk_drew ?_ | refine blk_alloc ?_ _)); refine blk_put (cs := #[.bool t214, .bool t215, .bool false, .bool false, .int .i64 0, .int .i64 0, .string (⟨#[]⟩ : ByteArray), .string (⟨#[]⟩ : ByteArray), .string (⟨#[]⟩ : ByteArray), .bool false]) ?_ 2 _ rfl; (with_reducible repeat (first | refine blk_drewN ?_ _ | refine blk_drew ?_ | refine blk_alloc ?_ _)); refine blk_put (cs := #[.bool t214, .bool false, .bool false, .bool false, .int .i64 0, .int .i64 0, .string (⟨#[]⟩ : ByteArray), .string (⟨#[]⟩ : ByteArray), .string (⟨#[]⟩ : ByteArray), .bool false]) ?_ 1 _ rfl; (with_reducible repeat (first | refine blk_drewN ?_ _ | refine blk_drew ?_ | refine blk_alloc ?_ _)); refine blk_put (cs := #[.bool false, .bool false, .bool false, .bool false, .int .i64 0, .int .i64 0, .string (⟨#[]⟩ : ByteArray), .string (⟨#[]⟩ : ByteArray), .string (⟨#[]⟩ : ByteArray), .bool false]) ?_ 0 _ rfl; (with_reducible repeat (first | refine blk_drewN ?_ _ | refine blk_drew ?_ | refine blk_alloc ?_ _)); exact BK188.out) Tryd.underlying63 rfl (by kernel_rfl)) rfl ?_
          exact ⟨by first | rfl | (simp [errW_none, errW_some] <;> rfl) | (simp [*, errW_none, errW_some] <;> rfl) | (simp [bt, *]; done) | (unfold bt; simp [*]; done), by repeat (first | (with_reducible first | exact HB.out | apply below_alloc | apply pw_below_drewN | apply below_drew1 | refine below_set ?_ GE186.out | refine below_set ?_ GE187.out | refine below_set ?_ GE188.out) | exact HB.out)⟩
         rw [if_pos c192] at H
         have c192b0 : (a1_0.toList == ([65, 117, 116, 104, 77, 101, 116, 104, 111, 100] : List UInt8)) = true := beq_iff_eq.mpr c192
         have c192b1 : (a1_0.toList != ([65, 117, 116, 104, 77, 101, 116, 104, 111, 100] : List UInt8)) = false := bne_eq_false_iff_eq.mpr c192
         clear c192
         obtain ⟨y210, hy210⟩ : ∃ y_ : List ByteArray, y_ = (([(⟨#[78, 111, 110, 101]⟩ : ByteArray)] : List ByteArray)) := ⟨_, rfl⟩
         replace H : ((headgateref21_first.f kj182 a1_1 y210).bind fun t213 => (some (a0_0, a0_1, a0_2, a0_3, a0_4, a0_5, a0_6, a0_7, (⟨#[78, 111, 110, 101]⟩ : ByteArray), (t213.toList != ([] : List UInt8))))) = some (r1, r2, r3, r4, r5, r6, r7, r8, r9, r10) := by first | (rw [hy210]; with_reducible exact H) | (have H2_ := (Option.bind_some _ _).symm.trans H; rw [hy210]; with_reducible exact H2_) | (have H2_ := (Option.bind_some _ _).symm.trans H; with_reducible exact H2_) | with_reducible exact H | (rw [hy210]; exact H) | exact H
         have Ny210 := Aside0.mk hy210
         clear hy210
         replace H := Option.bind_eq_some_iff.mp H
         obtain ⟨t213, A1930, H⟩ := H
         try dsimp only at H
         have A193 := Aside0.mk A1930
         clear A1930
         simp only [Option.some.injEq, Prod.mk.injEq] at H
         obtain ⟨rfl, rfl, rfl, rfl, rfl, rfl, rfl, rfl, rfl, rfl⟩ := H
         try go_wp2
         have n0_ := Aside0.mk (blk_drew BK186.out)
         have n1_ := Aside0.mk (blk_drew BK187.out)
         have n2_ := Aside0.mk (blk_drew BK188.out)
         have n3_ := Aside0.mk (below_drew1 HB.out)
         clear BK186
         clear BK187
         clear BK188
         clear HB
         have BK186 := n0_
         have BK187 := n1_
         have BK188 := n2_
         have HB := n3_
         clear n0_ n1_ n2_ n3_
         refine start_ (n := 7) (S := fun w' => w'.cell? ⟨gb186, 0, none⟩ = some (.bool a0_0) ∧ w'.cell? ⟨gb186, 1, none⟩ = some (.bool a0_1) ∧ w'.cell? ⟨gb186, 2, none⟩ = some (.bool a0_2) ∧ w'.cell? ⟨gb186, 3, none⟩ = some (.bool a0_3) ∧ w'.cell? ⟨gb186, 4, none⟩ = some (.int .i64 a0_4) ∧ w'.cell? ⟨gb186, 5, none⟩ = some (.int .i64 a0_5) ∧ w'.cell? ⟨gb186, 6, none⟩ = some (.string a0_6) ∧ w'.cell? ⟨gb186, 7, none⟩ = some (.string a0_7)) (ds := []) d25x1 (by kernel_rfl) rfl rfl ⟨(blk_cell BK186.out 0).trans rfl, (blk_cell BK186.out 1).trans rfl, (blk_cell BK186.out 2).trans rfl, (blk_cell BK186.out 3).trans rfl, (blk_cell BK186.out 4).trans rfl, (blk_cell BK186.out 5).trans rfl, (blk_cell BK186.out 6).trans rfl, (blk_cell BK186.out 7).trans rfl⟩ (fun hHeld => ?_)
         generalize wc.drew = w194 at BK186 BK187 BK188 HB hHeld ⊢
         refine qon_ 1 (some 128) d25x5 ?_
         refine qtk_ 0 (some 127) d25x15 hHeld ?_
         refine one_ (i := 2) (N := some 129) d25x18 rfl rfl (by kernel_rfl) (by decide) (fun K hK => ?_)
         refine Kd.R_lit_step Kd.string _ 9 ?hg (N := 129) ?hd (xs := ([(⟨#[78, 111, 110, 101]⟩ : ByteArray)] : List ByteArray)) (inner := [.string (⟨#[78, 111, 110, 101]⟩ : ByteArray)]) (ok := fun _ => True) (okp := fun _ => True) ?hr ?hp (fun _ hk => hk) trivial (Below.refl _ _) (Nat.le_refl _) (by simp) ?_; (case hd => rfl); (case hg => rfl); (case hr => first | (go_simp; done) | (go_simp; rfl)); (case hp => exact (Reps.one (show Kd.M Kd.string _ _ _ (⟨#[78, 111, 110, 101]⟩ : ByteArray) [.string (⟨#[78, 111, 110, 101]⟩ : ByteArray)] from rfl) (Reps.none _ _)))
         intro v211 w195 ho196 hb hg_ hnew_
         clear hg_ hnew_
         (first | rw [← Ny210.out] at ho196 | (simp only [Int.reduceToNat] at ho196; rw [← Ny210.out] at ho196))
         have n0_ := Aside0.mk (Kd.R_lower ho196 (below_size (hb_ HB)))
         have n1_ := Aside0.mk (blk_below (bk_ BK186) hb)
         have n2_ := Aside0.mk (blk_below (bk_ BK187) hb)
         have n3_ := Aside0.mk (blk_below (bk_ BK188) hb)
         have n4_ := Aside0.mk (below_step (hb_ HB) hb)
         clear BK186
         clear BK187
         clear BK188
         clear HB
         have HO212 := n0_
         have BK186 := n1_
         have BK187 := n2_
         have BK188 := n3_
         have HB := n4_
         clear n0_ n1_ n2_ n3_ n4_
         clear hb ho196
         obtain ⟨Ao197, co197, eo197⟩ := Kd.R_slice HO212.out
         (first | subst eo197 | (injection eo197 with f1_ f2_ f3_; have f4_ := f1_.symm; have f5_ := f3_.symm; clear f1_ f2_ f3_; subst f4_; subst f5_))
         refine hK.out _ _ ⟨(blk_cell BK186.out 0).trans rfl, (blk_cell BK186.out 1).trans rfl, (blk_cell BK186.out 2).trans rfl, (blk_cell BK186.out 3).trans rfl, (blk_cell BK186.out 4).trans rfl, (blk_cell BK186.out 5).trans rfl, (blk_cell BK186.out 6).trans rfl, (blk_cell BK186.out 7).trans rfl⟩ (fun hHeld => ?_)
         clear hK K
         refine norm_ (a' := ?_) ?_ ?_
         rotate_left
         ·show Act.put _ (some 129) _ = _
          simp only [Act.put, la_, lb_, lc_, i64_w, i32_w]
          rfl
         refine one_ (i := 3) (N := some 130) d25x22 rfl rfl (by kernel_rfl) (by decide) (fun K hK => ?_)
         refine goes_ Tryd.func54 (by kernel_rfl) rfl #[.string a1_1, .slice Ao197 y210.length co197] (by rfl) rfl rfl (by (try simp only [List.map_toArray, List.map_cons, List.map_nil]); first | done | rfl | (simp only [List.length_drop, List.length_take]; rfl)) ?_
         with_reducible refine (headgateref21_first.calls kj182 a1_1 _ _ y210 t213 _ ?side1 ?side2 A193.out).mono ?_
         (case side1 => repeat (first | exact (Kd.R_reads' HO212.out).2.2 | (with_reducible refine Kd.C_alloc ?_ _) | (with_reducible refine Kd.C_drewN ?_ _) | (with_reducible refine Kd.C_drew ?_)))
         (case side2 => exact (Kd.R_reads' HO212.out).2.1)
         rintro e w' ⟨rfl, ⟨nd, rfl⟩⟩
         refine ⟨_, rfl, ?_⟩
         refine hK.out _ _ ⟨(blk_cell BK186.out 0).trans rfl, (blk_cell BK186.out 1).trans rfl, (blk_cell BK186.out 2).trans rfl, (blk_cell BK186.out 3).trans rfl, (blk_cell BK186.out 4).trans rfl, (blk_cell BK186.out 5).trans rfl, (blk_cell BK186.out 6).trans rfl, (blk_cell BK186.out 7).trans rfl⟩ (fun hHeld => ?_)
         clear hK K
         refine norm_ (a' := ?_) ?_ ?_
         rotate_left
         ·show Act.put _ (some 130) _ = _
          simp only [Act.put, la_, lb_, lc_, i64_w, i32_w]
          rfl
         refine qon_ 4 (some 131) d25x26 ?_
         refine qon_ 5 (some 132) d25x28 ?_
         refine one_ (i := 6) (N := none) d25x32 rfl rfl (by kernel_rfl) (by decide) (fun K hK => ?_)
         have hs198 : w195.cell? ⟨gb188, 0, none⟩ = some (.bool false) := (blk_cell BK188.out 0).trans rfl
         have hfs198 := blk_frozen BK188.out 0
         have hns198_0 := NB186_188.out
         have hns198_1 := NB187_188.out
         have hms198_0 := NB188_186.out
         have hms198_1 := NB188_187.out
         have hs199 : w195.cell? ⟨gb188, 1, none⟩ = some (.bool false) := (blk_cell BK188.out 1).trans rfl
         have hfs199 := blk_frozen BK188.out 1
         have hns199_0 := NB186_188.out
         have hns199_1 := NB187_188.out
         have hms199_0 := NB188_186.out
         have hms199_1 := NB188_187.out
         have hs200 : w195.cell? ⟨gb188, 2, none⟩ = some (.bool false) := (blk_cell BK188.out 2).trans rfl
         have hfs200 := blk_frozen BK188.out 2
         have hns200_0 := NB186_188.out
         have hns200_1 := NB187_188.out
         have hms200_0 := NB188_186.out
         have hms200_1 := NB188_187.out
         have hs201 : w195.cell? ⟨gb188, 3, none⟩ = some (.bool false) := (blk_cell BK188.out 3).trans rfl
         have hfs201 := blk_frozen BK188.out 3
         have hns201_0 := NB186_188.out
         have hns201_1 := NB187_188.out
         have hms201_0 := NB188_186.out
         have hms201_1 := NB188_187.out
         have hs202 : w195.cell? ⟨gb188, 4, none⟩ = some (.int .i64 0) := (blk_cell BK188.out 4).trans rfl
         have hfs202 := blk_frozen BK188.out 4
         have hns202_0 := NB186_188.out
         have hns202_1 := NB187_188.out
         have hms202_0 := NB188_186.out
         have hms202_1 := NB188_187.out
         have hs203 : w195.cell? ⟨gb188, 5, none⟩ = some (.int .i64 0) := (blk_cell BK188.out 5).trans rfl
         have hfs203 := blk_frozen BK188.out 5
         have hns203_0 := NB186_188.out
         have hns203_1 := NB187_188.out
         have hms203_0 := NB188_186.out
         have hms203_1 := NB188_187.out
         have hs204 : w195.cell? ⟨gb188, 6, none⟩ = some (.string (⟨#[]⟩ : ByteArray)) := (blk_cell BK188.out 6).trans rfl
         have hfs204 := blk_frozen BK188.out 6
         have hns204_0 := NB186_188.out
         have hns204_1 := NB187_188.out
         have hms204_0 := NB188_186.out
         have hms204_1 := NB188_187.out
         have hs205 : w195.cell? ⟨gb188, 7, none⟩ = some (.string (⟨#[]⟩ : ByteArray)) := (blk_cell BK188.out 7).trans rfl
         have hfs205 := blk_frozen BK188.out 7
         have hns205_0 := NB186_188.out
         have hns205_1 := NB187_188.out
         have hms205_0 := NB188_186.out
         have hms205_1 := NB188_187.out
         have hs206 : w195.cell? ⟨gb188, 8, none⟩ = some (.string (⟨#[]⟩ : ByteArray)) := (blk_cell BK188.out 8).trans rfl
         have hfs206 := blk_frozen BK188.out 8
         have hns206_0 := NB186_188.out
         have hns206_1 := NB187_188.out
         have hms206_0 := NB188_186.out
         have hms206_1 := NB188_187.out
         have hs207 : w195.cell? ⟨gb188, 9, none⟩ = some (.bool false) := (blk_cell BK188.out 9).trans rfl
         have hfs207 := blk_frozen BK188.out 9
         have hns207_0 := NB186_188.out
         have hns207_1 := NB187_188.out
         have hms207_0 := NB188_186.out
         have hms207_1 := NB188_187.out
         refine skip_ (w1 := ?_) (by rfl) rfl ?_ ?_
         rotate_left
         ·go_simp
          rfl
         refine hK.out _ _ ⟨((cell_far (p := ⟨gb188, _, none⟩) NB186_188.out _).trans (((cell_far (p := ⟨gb188, _, none⟩) NB186_188.out _).trans (((cell_far (p := ⟨gb188, _, none⟩) NB186_188.out _).trans (((cell_far (p := ⟨gb188, _, none⟩) NB186_188.out _).trans (((cell_far (p := ⟨gb188, _, none⟩) NB186_188.out _).trans (((cell_far (p := ⟨gb188, _, none⟩) NB186_188.out _).trans (((cell_far (p := ⟨gb188, _, none⟩) NB186_188.out _).trans (((cell_far (p := ⟨gb188, _, none⟩) NB186_188.out _).trans (((cell_far (p := ⟨gb188, _, none⟩) NB186_188.out _).trans (((cell_far (p := ⟨gb188, _, none⟩) NB186_188.out _).trans (hHeld.1)))))))))))))))))))), ((cell_far (p := ⟨gb188, _, none⟩) NB186_188.out _).trans (((cell_far (p := ⟨gb188, _, none⟩) NB186_188.out _).trans (((cell_far (p := ⟨gb188, _, none⟩) NB186_188.out _).trans (((cell_far (p := ⟨gb188, _, none⟩) NB186_188.out _).trans (((cell_far (p := ⟨gb188, _, none⟩) NB186_188.out _).trans (((cell_far (p := ⟨gb188, _, none⟩) NB186_188.out _).trans (((cell_far (p := ⟨gb188, _, none⟩) NB186_188.out _).trans (((cell_far (p := ⟨gb188, _, none⟩) NB186_188.out _).trans (((cell_far (p := ⟨gb188, _, none⟩) NB186_188.out _).trans (((cell_far (p := ⟨gb188, _, none⟩) NB186_188.out _).trans (hHeld.2.1)))))))))))))))))))), ((cell_far (p := ⟨gb188, _, none⟩) NB186_188.out _).trans (((cell_far (p := ⟨gb188, _, none⟩) NB186_188.out _).trans (((cell_far (p := ⟨gb188, _, none⟩) NB186_188.out _).trans (((cell_far (p := ⟨gb188, _, none⟩) NB186_188.out _).trans (((cell_far (p := ⟨gb188, _, none⟩) NB186_188.out _).trans (((cell_far (p := ⟨gb188, _, none⟩) NB186_188.out _).trans (((cell_far (p := ⟨gb188, _, none⟩) NB186_188.out _).trans (((cell_far (p := ⟨gb188, _, none⟩) NB186_188.out _).trans (((cell_far (p := ⟨gb188, _, none⟩) NB186_188.out _).trans (((cell_far (p := ⟨gb188, _, none⟩) NB186_188.out _).trans (hHeld.2.2.1)))))))))))))))))))), ((cell_far (p := ⟨gb188, _, none⟩) NB186_188.out _).trans (((cell_far (p := ⟨gb188, _, none⟩) NB186_188.out _).trans (((cell_far (p := ⟨gb188, _, none⟩) NB186_188.out _).trans (((cell_far (p := ⟨gb188, _, none⟩) NB186_188.out _).trans (((cell_far (p := ⟨gb188, _, none⟩) NB186_188.out _).trans (((cell_far (p := ⟨gb188, _, none⟩) NB186_188.out _).trans (((cell_far (p := ⟨gb188, _, none⟩) NB186_188.out _).trans (((cell_far (p := ⟨gb188, _, none⟩) NB186_188.out _).trans (((cell_far (p := ⟨gb188, _, none⟩) NB186_188.out _).trans (((cell_far (p := ⟨gb188, _, none⟩) NB186_188.out _).trans (hHeld.2.2.2.1)))))))))))))))))))), ((cell_far (p := ⟨gb188, _, none⟩) NB186_188.out _).trans (((cell_far (p := ⟨gb188, _, none⟩) NB186_188.out _).trans (((cell_far (p := ⟨gb188, _, none⟩) NB186_188.out _).trans (((cell_far (p := ⟨gb188, _, none⟩) NB186_188.out _).trans (((cell_far (p := ⟨gb188, _, none⟩) NB186_188.out _).trans (((cell_far (p := ⟨gb188, _, none⟩) NB186_188.out _).trans (((cell_far (p := ⟨gb188, _, none⟩) NB186_188.out _).trans (((cell_far (p := ⟨gb188, _, none⟩) NB186_188.out _).trans (((cell_far (p := ⟨gb188, _, none⟩) NB186_188.out _).trans (((cell_far (p := ⟨gb188, _, none⟩) NB186_188.out _).trans (hHeld.2.2.2.2.1)))))))))))))))))))), ((cell_far (p := ⟨gb188, _, none⟩) NB186_188.out _).trans (((cell_far (p := ⟨gb188, _, none⟩) NB186_188.out _).trans (((cell_far (p := ⟨gb188, _, none⟩) NB186_188.out _).trans (((cell_far (p := ⟨gb188, _, none⟩) NB186_188.out _).trans (((cell_far (p := ⟨gb188, _, none⟩) NB186_188.out _).trans (((cell_far (p := ⟨gb188, _, none⟩) NB186_188.out _).trans (((cell_far (p := ⟨gb188, _, none⟩) NB186_188.out _).trans (((cell_far (p := ⟨gb188, _, none⟩) NB186_188.out _).trans (((cell_far (p := ⟨gb188, _, none⟩) NB186_188.out _).trans (((cell_far (p := ⟨gb188, _, none⟩) NB186_188.out _).trans (hHeld.2.2.2.2.2.1)))))))))))))))))))), ((cell_far (p := ⟨gb188, _, none⟩) NB186_188.out _).trans (((cell_far (p := ⟨gb188, _, none⟩) NB186_188.out _).trans (((cell_far (p := ⟨gb188, _, none⟩) NB186_188.out _).trans (((cell_far (p := ⟨gb188, _, none⟩) NB186_188.out _).trans (((cell_far (p := ⟨gb188, _, none⟩) NB186_188.out _).trans (((cell_far (p := ⟨gb188, _, none⟩) NB186_188.out _).trans (((cell_far (p := ⟨gb188, _, none⟩) NB186_188.out _).trans (((cell_far (p := ⟨gb188, _, none⟩) NB186_188.out _).trans (((cell_far (p := ⟨gb188, _, none⟩) NB186_188.out _).trans (((cell_far (p := ⟨gb188, _, none⟩) NB186_188.out _).trans (hHeld.2.2.2.2.2.2.1)))))))))))))))))))), ((cell_far (p := ⟨gb188, _, none⟩) NB186_188.out _).trans (((cell_far (p := ⟨gb188, _, none⟩) NB186_188.out _).trans (((cell_far (p := ⟨gb188, _, none⟩) NB186_188.out _).trans (((cell_far (p := ⟨gb188, _, none⟩) NB186_188.out _).trans (((cell_far (p := ⟨gb188, _, none⟩) NB186_188.out _).trans (((cell_far (p := ⟨gb188, _, none⟩) NB186_188.out _).trans (((cell_far (p := ⟨gb188, _, none⟩) NB186_188.out _).trans (((cell_far (p := ⟨gb188, _, none⟩) NB186_188.out _).trans (((cell_far (p := ⟨gb188, _, none⟩) NB186_188.out _).trans (((cell_far (p := ⟨gb188, _, none⟩) NB186_188.out _).trans (hHeld.2.2.2.2.2.2.2))))))))))))))))))))⟩ (fun hHeld => ?_)
         clear hK K
         refine done_ (by kernel_rfl) ?_
         try go_wp2
         refine bodyPost_ret (results_cell_row rfl _ _ gb188 63 #[.bool a0_0, .bool a0_1, .bool a0_2, .bool a0_3, .int .i64 a0_4, .int .i64 a0_5, .string a0_6, .string a0_7, .string (⟨#[78, 111, 110, 101]⟩ : ByteArray), .bool (t213.toList != ([] : List UInt8))] (0, 0) _ rfl (by (with_reducible repeat (first | refine blk_drewN ?_ _ | refine blk_drew ?_ | refine blk_alloc ?_ _)); refine blk_put (cs := #[.bool a0_0, .bool a0_1, .bool a0_2, .bool a0_3, .int .i64 a0_4, .int .i64 a0_5, .string a0_6, .string a0_7, .string (⟨#[78, 111, 110, 101]⟩ : ByteArray), .bool false]) ?_ 9 _ (by first | rfl | (generalize t213.toList = q_; cases q_ <;> rfl)); (with_reducible repeat (first | refine blk_drewN ?_ _ | refine blk_drew ?_ | refine blk_alloc ?_ _)); refine blk_put (cs := #[.bool a0_0, .bool a0_1, .bool a0_2, .bool a0_3, .int .i64 a0_4, .int .i64 a0_5, .string a0_6, .string a0_7, .string (⟨#[]⟩ : ByteArray), .bool false]) ?_ 8 _ rfl; (with_reducible repeat (first | refine blk_drewN ?_ _ | refine blk_drew ?_ | refine blk_alloc ?_ _)); refine blk_put (cs := #[.bool a0_0, .bool a0_1, .bool a0_2, .bool a0_3, .int .i64 a0_4, .int .i64 a0_5, .string a0_6, .string (⟨#[]⟩ : ByteArray), .string (⟨#[]⟩ : ByteArray), .bool false]) ?_ 7 _ rfl; (with_reducible repeat (first | refine blk_drewN ?_ _ | refine blk_drew ?_ | refine blk_alloc ?_ _)); refine blk_put (cs := #[.bool a0_0, .bool a0_1, .bool a0_2, .bool a0_3, .int .i64 a0_4, .int .i64 a0_5, .string (⟨#[]⟩ : ByteArray), .string (⟨#[]⟩ : ByteArray), .string (⟨#[]⟩ : ByteArray), .bool false]) ?_ 6 _ rfl; (with_reducible repeat (first | refine blk_drewN ?_ _ | refine blk_drew ?_ | refine blk_alloc ?_ _)); refine blk_put (cs := #[.bool a0_0, .bool a0_1, .bool a0_2, .bool a0_3, .int .i64 a0_4, .int .i64 0, .string (⟨#[]⟩ : ByteArray), .string (⟨#[]⟩ : ByteArray), .string (⟨#[]⟩ : ByteArray), .bool false]) ?_ 5 _ rfl; (with_reducible repeat (first | refine blk_drewN ?_ _ | refine blk_drew ?_ | refine blk_alloc ?_ _)); refine blk_put (cs := #[.bool a0_0, .bool a0_1, .bool a0_2, .bool a0_3, .int .i64 0, .int .i64 0, .string (⟨#[]⟩ : ByteArray), .string (⟨#[]⟩ : ByteArray), .string (⟨#[]⟩ : ByteArray), .bool false]) ?_ 4 _ rfl; (with_reducible repeat (first | refine blk_drewN ?_ _ | refine blk_drew ?_ | refine blk_alloc ?_ _)); refine blk_put (cs := #[.bool a0_0, .bool a0_1, .bool a0_2, .bool false, .int .i64 0, .int .i64 0, .string (⟨#[]⟩ : ByteArray), .string (⟨#[]⟩ : ByteArray), .string (⟨#[]⟩ : ByteArray), .bool false]) ?_ 3 _ rfl; (with_reducible repeat (first | refine blk_drewN ?_ _ | refine blk_drew ?_ | refine blk_alloc ?_ _)); refine blk_put (cs := #[.bool a0_0, .bool a0_1, .bool false, .bool false, .int .i64 0, .int .i64 0, .string (⟨#[]⟩ : ByteArray), .string (⟨#[]⟩ : ByteArray), .string (⟨#[]⟩ : ByteArray), .bool false]) ?_ 2 _ rfl; (with_reducible repeat (first | refine blk_drewN ?_ _ | refine blk_drew ?_ | refine blk_alloc ?_ _)); refine blk_put (cs := #[.bool a0_0, .bool false, .bool false, .bool false, .int .i64 0, .int .i64 0, .string (⟨#[]⟩ : ByteArray), .string (⟨#[]⟩ : ByteArray), .string (⟨#[]⟩ : ByteArray), .bool false]) ?_ 1 _ rfl; (with_reducible repeat (first | refine blk_drewN ?_ _ | refine blk_drew ?_ | refine blk_alloc ?_ _)); refine blk_put (cs := #[.bool false, .bool false, .bool false, .bool false, .int .i64 0, .int .i64 0, .string (⟨#[]⟩ : ByteArray), .string (⟨#[]⟩ : ByteArray), .string (⟨#[]⟩ : ByteArray), .bool false]) ?_ 0 _ rfl; (with_reducible repeat (first | refine blk_drewN ?_ _ | refine blk_drew ?_ | refine blk_alloc ?_ _)); exact BK188.out) Tryd.underlying63 rfl (by kernel_rfl)) rfl ?_
         exact ⟨by first | rfl | (simp [errW_none, errW_some] <;> rfl) | (simp [*, errW_none, errW_some] <;> rfl) | (simp [bt, *]; done) | (unfold bt; simp [*]; done), by repeat (first | (with_reducible first | exact HB.out | apply below_alloc | apply pw_below_drewN | apply below_drew1 | refine below_set ?_ GE186.out | refine below_set ?_ GE187.out | refine below_set ?_ GE188.out) | exact HB.out)⟩
end Go.Proofs.YtclcnkmefldpiaaDoor.P
