-- joined by this session's wip/tools/pack.py: words of the kit's print, cut to what the claim names; functions printed by a patched copy of the printer; walks and lemmas of this session; Lean checks it
import Derived.Test.YtclcnkmefldpiaaDoorBc3
import Derived.Test.YtclcnkmefldpiaaDoorProg
import Derived.Shelf.Strings.Builder1
import Derived.Shelf.Small.Strs
import Derived.Shelf.Strings.BuilderF
import Derived.Shelf.Strings.BuilderK
import Derived.Shelf.Strconv.Itoa0
import Derived.Shelf.Strconv.Itoa1
import Derived.Shelf.LaysM
import Derived.Shelf.Strconv.Itoa2
import Derived.Shelf.Strconv.Itoa3
import Derived.Shelf.Strconv.Clone
import Derived.Shelf.Strconv.SyntaxError
import Derived.Shelf.LaysC
import Derived.Shelf.Strconv.ToError
import Derived.Shelf.Strconv.Lower
import Derived.Shelf.Strconv.RangeError
import Derived.Shelf.Strconv.ToErrorRange
import Derived.Shelf.Strings.Search1
import Derived.Shelf.Strings.Search2
import Derived.Shelf.Strings.Search3
import Derived.Shelf.Strings.Cut
import Derived.Shelf.Strings.Count
import Derived.Shelf.Strings.Shaped
import Derived.Shelf.Strings.Prefix
import Derived.Shelf.Strings.Split
import Derived.Shelf.Unicode.DecodeSlow
import Derived.Below
import Derived.Deep.Draws
import Derived.Deep.AppendLies
import Derived.Maps.AppendAt
import Derived.OwnWalk
import Derived.Laws.BytesArg
import Derived.Laws.MakeOwn
import Derived.Laws.OwnMore
import Derived.Deep.OwnRows
import Derived.Tactics
import Derived.Lib.ConvBytes
import Derived.Laws.Slices
import Derived.WalkKit
import Derived.KernelRfl
import Derived.RowKit3
import Derived.Deep.LoopGhost
import Derived.Deep.QuietTactic
import Derived.BigQuiet
import Derived.WideLaws
import Derived.Deep.DeepCutAuto
import Derived.Deep.CutBlock
import Derived.Deep.RegionHeld3
import Derived.Laws.Rows
import Derived.Lib.AppendStr
import Derived.ArgAppend
import Derived.Laws.IdiomCopy
import Derived.OrdersHeld
import Derived.Laws.BitsLemmas
import Derived.RowKit
import Derived.Lib.AppendIntMem
import Derived.IntWalk
import Derived.Maps.OwnSet
import Derived.StringKeys
import Derived.RegionTactic
import Derived.Maps.Own
import Derived.Maps.OwnOps
import Derived.Maps.Views
import Derived.Carry
import Derived.Lib.SliceRun
namespace Go.Proofs
open Go.Shelf
def Tryd.lays169_ren : Go.Shelf.Ren := ⟨fun | 169 => 27 | n => n, fun | 70 => 65 | 9 => 9 | 0 => 0 | 72 => 68 | 37 => 66 | 127 => 97 | 3 => 3 | 5 => 5 | n => n, fun | n => n⟩
theorem Tryd.lays169 : Go.Proofs.Lays.n169 Tryd.prog Tryd.lays169_ren := {
  mixed := by kernel_rfl
  f169 := Tryd.func27.trans (congrArg some (by kernel_rfl))
  t0 := Tryd.underlying0
  a0 := Tryd.isAgg0
  z0 := Tryd.sizeOf0
  v0 := Tryd.zeroValue0
  t3 := Tryd.underlying3
  a3 := Tryd.isAgg3
  z3 := Tryd.sizeOf3
  v3 := Tryd.zeroValue3
  t9 := Tryd.underlying9
  a9 := Tryd.isAgg9
  z9 := Tryd.sizeOf9
  v9 := Tryd.zeroValue9
  t37 := Tryd.underlying66
  a37 := Tryd.isAgg66
  z37 := Tryd.sizeOf66
  v37 := Tryd.zeroValue66
  t70 := Tryd.underlying65
  a70 := Tryd.isAgg65
  z70 := Tryd.sizeOf65
  v70 := Tryd.zeroValue65
  t72 := Tryd.underlying68
  a72 := Tryd.isAgg68
  z72 := Tryd.sizeOf68
  v72 := Tryd.zeroValue68
  t127 := Tryd.underlying97
  a127 := Tryd.isAgg97
  z127 := Tryd.sizeOf97
  v127 := Tryd.zeroValue97 }
theorem Tryd.Builder_Extra_169 : Builder.Extra Tryd.prog Tryd.lays169_ren := {
  sizeBuilder := by kernel_rfl
  liesBuilder := by kernel_rfl
  t5 := Tryd.underlying5
  a5 := Tryd.isAgg5
  z5 := Tryd.sizeOf5
  v5 := Tryd.zeroValue5
  infoByte := by kernel_rfl
  cellsByte := by kernel_rfl
  sizeByte := by kernel_rfl
  neB5 := by decide }
open Go.RowKit in
theorem Tryd.Builder_String_any (B b : Nat) (l : List UInt8) (w : World) (h : Lib.IsBuilder 68 5 B b (Lib.byteCells l) w) (hBw : B ≤ w.heap.size) :
    Calls Tryd.prog 27 #[.pointer (some ⟨b, 0, none⟩)] w fun e w' => e = .returned (.string ⟨l.toArray⟩) ∧ Below B w w' := Any.Builder_String_any Tryd.lays169 Tryd.Builder_Extra_169 B b l w h hBw
def Tryd.lays219_ren : Go.Shelf.Ren := ⟨fun | 219 => 69 | 217 => 59 | 225 => 78 | 224 => 79 | 267 => 80 | 266 => 70 | 314 => 97 | n => n, fun | 9 => 9 | 3 => 3 | 4 => 4 | 5 => 5 | 46 => 42 | 146 => 122 | 51 => 121 | n => n, fun | 1 => 0 | n => n⟩
theorem Tryd.lays219 : Go.Proofs.Lays.n219 Tryd.prog Tryd.lays219_ren := {
  mixed := by kernel_rfl
  f217 := Tryd.func59.trans (congrArg some (by kernel_rfl))
  f219 := Tryd.func69.trans (congrArg some (by kernel_rfl))
  f224 := Tryd.func79.trans (congrArg some (by kernel_rfl))
  f225 := Tryd.func78.trans (congrArg some (by kernel_rfl))
  f266 := Tryd.func70.trans (congrArg some (by kernel_rfl))
  f267 := Tryd.func80.trans (congrArg some (by kernel_rfl))
  f314 := Tryd.func97.trans (congrArg some (by kernel_rfl))
  t3 := Tryd.underlying3
  a3 := Tryd.isAgg3
  z3 := Tryd.sizeOf3
  v3 := Tryd.zeroValue3
  t4 := Tryd.underlying4
  a4 := Tryd.isAgg4
  z4 := Tryd.sizeOf4
  v4 := Tryd.zeroValue4
  t5 := Tryd.underlying5
  a5 := Tryd.isAgg5
  z5 := Tryd.sizeOf5
  v5 := Tryd.zeroValue5
  t9 := Tryd.underlying9
  a9 := Tryd.isAgg9
  z9 := Tryd.sizeOf9
  v9 := Tryd.zeroValue9
  t46 := Tryd.underlying42
  a46 := Tryd.isAgg42
  z46 := Tryd.sizeOf42
  v46 := Tryd.zeroValue42
  t51 := Tryd.underlying121
  a51 := Tryd.isAgg121
  z51 := Tryd.sizeOf121
  v51 := Tryd.zeroValue121
  t146 := Tryd.underlying122
  a146 := Tryd.isAgg122
  z146 := Tryd.sizeOf122
  v146 := Tryd.zeroValue122
  g1 := by kernel_rfl }
open Go.RowKit Go.Lib in
theorem Tryd.stringslite_Index_one (s : ByteArray) (c : UInt8) (w : World) :
    Calls Tryd.prog 69 #[.string s, .string ⟨#[c]⟩] w fun e w' => e = .returned (.int .i64 (Lib.indexByte s.data.toList c)) ∧ w' = w := Any.stringslite_Index_one Tryd.lays219 s c w
def Tryd.lays145_ren : Go.Shelf.Ren := ⟨fun | 145 => 28 | 220 => 58 | 219 => 69 | 217 => 59 | 225 => 78 | 224 => 79 | 267 => 80 | 266 => 70 | 314 => 97 | n => n, fun | 9 => 9 | 4 => 4 | 59 => 74 | 3 => 3 | 5 => 5 | 46 => 42 | 146 => 122 | 51 => 121 | n => n, fun | 1 => 0 | n => n⟩
theorem Tryd.lays145 : Go.Proofs.Lays.n145 Tryd.prog Tryd.lays145_ren := {
  mixed := by kernel_rfl
  f145 := Tryd.func28.trans (congrArg some (by kernel_rfl))
  f217 := Tryd.func59.trans (congrArg some (by kernel_rfl))
  f219 := Tryd.func69.trans (congrArg some (by kernel_rfl))
  f220 := Tryd.func58.trans (congrArg some (by kernel_rfl))
  f224 := Tryd.func79.trans (congrArg some (by kernel_rfl))
  f225 := Tryd.func78.trans (congrArg some (by kernel_rfl))
  f266 := Tryd.func70.trans (congrArg some (by kernel_rfl))
  f267 := Tryd.func80.trans (congrArg some (by kernel_rfl))
  f314 := Tryd.func97.trans (congrArg some (by kernel_rfl))
  t3 := Tryd.underlying3
  a3 := Tryd.isAgg3
  z3 := Tryd.sizeOf3
  v3 := Tryd.zeroValue3
  t4 := Tryd.underlying4
  a4 := Tryd.isAgg4
  z4 := Tryd.sizeOf4
  v4 := Tryd.zeroValue4
  t5 := Tryd.underlying5
  a5 := Tryd.isAgg5
  z5 := Tryd.sizeOf5
  v5 := Tryd.zeroValue5
  t9 := Tryd.underlying9
  a9 := Tryd.isAgg9
  z9 := Tryd.sizeOf9
  v9 := Tryd.zeroValue9
  t46 := Tryd.underlying42
  a46 := Tryd.isAgg42
  z46 := Tryd.sizeOf42
  v46 := Tryd.zeroValue42
  t51 := Tryd.underlying121
  a51 := Tryd.isAgg121
  z51 := Tryd.sizeOf121
  v51 := Tryd.zeroValue121
  t59 := Tryd.underlying74
  a59 := Tryd.isAgg74
  z59 := Tryd.sizeOf74
  v59 := Tryd.zeroValue74
  t146 := Tryd.underlying122
  a146 := Tryd.isAgg122
  z146 := Tryd.sizeOf122
  v146 := Tryd.zeroValue122
  g1 := by kernel_rfl }
open Go.RowKit Go.Lib in
theorem Tryd.strings_Cut (s sep : ByteArray) (m : Int) (w : World) (hs : s.size < 4294967281) (hm : w.cell? ⟨0, 0, none⟩ = some (.int .i64 m)) :
    Calls Tryd.prog 28 #[.string s, .string sep] w fun e w' => e = .returned (.tuple #[.string ⟨(Lib.cut s.data.toList sep.data.toList).1.toArray⟩, .string ⟨(Lib.cut s.data.toList sep.data.toList).2.1.toArray⟩, .bool (Lib.cut s.data.toList sep.data.toList).2.2]) ∧ ∃ n, w' = w.drewN n := Any.strings_Cut Tryd.lays145 s sep m w hs hm
end Go.Proofs
namespace Go.Proofs.YtclcnkmefldpiaaDoor.P
open Go.RowKit Go.Proofs.YtclcnkmefldpiaaDoorW.PrintWords Go.Proofs.YtclcnkmefldpiaaDoorW.PrintLast Go.Proofs.YtclcnkmefldpiaaDoorW.PrintMore
attribute [local go_sem] max2_int min2_int max_two min_two max_three min_three max_four min_four   -- for this text's walks alone
set_option linter.unusedVariables false
set_option linter.unusedSimpArgs false
set_option linter.unnecessarySimpa false
theorem info5 : (Tryd.prog.info? 5).map (fun i => (i.zero, i.size, i.bytes)) = some (some (.int .u8 0), 1, 1) := by kernel_rfl
end Go.Proofs.YtclcnkmefldpiaaDoor.P
namespace Go.Proofs.YtclcnkmefldpiaaDoor.P
open Go.RowKit Go.Proofs.YtclcnkmefldpiaaDoorW.PrintWords Go.Proofs.YtclcnkmefldpiaaDoorW.PrintLast Go.Proofs.YtclcnkmefldpiaaDoorW.PrintMore
attribute [local go_sem] max2_int min2_int max_two min_two max_three min_three max_four min_four   -- for this text's walks alone
set_option linter.unusedVariables false
set_option linter.unusedSimpArgs false
set_option linter.unnecessarySimpa false
def headgateref21_letter.f (a0 : Int) : Option (Bool) := if a0 ≥ 97 then (if a0 ≤ 122 then (some true) else (if a0 ≥ 65 then (if a0 ≤ 90 then (some true) else (if a0 ≥ 48 then (if a0 ≤ 57 then (some true) else (if a0 = 46 then (some true) else (if a0 = 45 then (some true) else (if a0 = 43 then (some true) else (if a0 = 64 then (some true) else (some (a0 == 95))))))) else (if a0 = 46 then (some true) else (if a0 = 45 then (some true) else (if a0 = 43 then (some true) else (if a0 = 64 then (some true) else (some (a0 == 95)))))))) else (if a0 ≥ 48 then (if a0 ≤ 57 then (some true) else (if a0 = 46 then (some true) else (if a0 = 45 then (some true) else (if a0 = 43 then (some true) else (if a0 = 64 then (some true) else (some (a0 == 95))))))) else (if a0 = 46 then (some true) else (if a0 = 45 then (some true) else (if a0 = 43 then (some true) else (if a0 = 64 then (some true) else (some (a0 == 95))))))))) else (if a0 ≥ 65 then (if a0 ≤ 90 then (some true) else (if a0 ≥ 48 then (if a0 ≤ 57 then (some true) else (if a0 = 46 then (some true) else (if a0 = 45 then (some true) else (if a0 = 43 then (some true) else (if a0 = 64 then (some true) else (some (a0 == 95))))))) else (if a0 = 46 then (some true) else (if a0 = 45 then (some true) else (if a0 = 43 then (some true) else (if a0 = 64 then (some true) else (some (a0 == 95)))))))) else (if a0 ≥ 48 then (if a0 ≤ 57 then (some true) else (if a0 = 46 then (some true) else (if a0 = 45 then (some true) else (if a0 = 43 then (some true) else (if a0 = 64 then (some true) else (some (a0 == 95))))))) else (if a0 = 46 then (some true) else (if a0 = 45 then (some true) else (if a0 = 43 then (some true) else (if a0 = 64 then (some true) else (some (a0 == 95))))))))
set_option maxHeartbeats 8000000 in
set_option maxRecDepth 100000 in
theorem headgateref21_letter.calls (a0 : Int) (r : Bool) (w : World) (h : headgateref21_letter.f a0 = some r) :
  Calls Tryd.prog 50 #[.int .u8 a0] w fun e w' => e = .returned (.bool r) ∧ Drawn0 w w' := by
 have H : (if a0 ≥ 97 then (if a0 ≤ 122 then (some true) else (if a0 ≥ 65 then (if a0 ≤ 90 then (some true) else (if a0 ≥ 48 then (if a0 ≤ 57 then (some true) else (if a0 = 46 then (some true) else (if a0 = 45 then (some true) else (if a0 = 43 then (some true) else (if a0 = 64 then (some true) else (some (a0 == 95))))))) else (if a0 = 46 then (some true) else (if a0 = 45 then (some true) else (if a0 = 43 then (some true) else (if a0 = 64 then (some true) else (some (a0 == 95)))))))) else (if a0 ≥ 48 then (if a0 ≤ 57 then (some true) else (if a0 = 46 then (some true) else (if a0 = 45 then (some true) else (if a0 = 43 then (some true) else (if a0 = 64 then (some true) else (some (a0 == 95))))))) else (if a0 = 46 then (some true) else (if a0 = 45 then (some true) else (if a0 = 43 then (some true) else (if a0 = 64 then (some true) else (some (a0 == 95))))))))) else (if a0 ≥ 65 then (if a0 ≤ 90 then (some true) else (if a0 ≥ 48 then (if a0 ≤ 57 then (some true) else (if a0 = 46 then (some true) else (if a0 = 45 then (some true) else (if a0 = 43 then (some true) else (if a0 = 64 then (some true) else (some (a0 == 95))))))) else (if a0 = 46 then (some true) else (if a0 = 45 then (some true) else (if a0 = 43 then (some true) else (if a0 = 64 then (some true) else (some (a0 == 95)))))))) else (if a0 ≥ 48 then (if a0 ≤ 57 then (some true) else (if a0 = 46 then (some true) else (if a0 = 45 then (some true) else (if a0 = 43 then (some true) else (if a0 = 64 then (some true) else (some (a0 == 95))))))) else (if a0 = 46 then (some true) else (if a0 = 45 then (some true) else (if a0 = 43 then (some true) else (if a0 = 64 then (some true) else (some (a0 == 95))))))))) = some r := h
 clear h
 refine neg_first (p := (a0 ≥ 97)) (fun c2 => ?_) (fun c2 => ?_)
 ·rw [if_neg c2] at H
  have c2b0 : decide (97 ≤ a0) = false := decide_eq_false c2
  clear c2
  refine neg_first (p := (a0 ≥ 65)) (fun c26 => ?_) (fun c26 => ?_)
  ·rw [if_neg c26] at H
   have c26b0 : decide (65 ≤ a0) = false := decide_eq_false c26
   clear c26
   refine neg_first (p := (a0 ≥ 48)) (fun c38 => ?_) (fun c38 => ?_)
   ·rw [if_neg c38] at H
    have c38b0 : decide (48 ≤ a0) = false := decide_eq_false c38
    clear c38
    by_cases c44 : a0 = 46
    ·rw [if_pos c44] at H
     have c44b0 : (a0 == 46) = true := beq_iff_eq.mpr c44
     have c44b1 : (a0 != 46) = false := bne_eq_false_iff_eq.mpr c44
     clear c44
     obtain rfl := Option.some.inj H
     go_enter Tryd.func50, Tryd.ntmps50
     go_wp2
     go_ret
     exact ⟨by first | rfl | (simp; done) | (simp [*]; done), by repeat (first | exact Drawn0.refl _ | apply Drawn0.step)⟩
    rw [if_neg c44] at H
    have c44b0 : (a0 == 46) = false := beq_eq_false_iff_ne.mpr c44
    have c44b1 : (a0 != 46) = true := bne_iff_ne.mpr c44
    by_cases c45 : a0 = 45
    ·rw [if_pos c45] at H
     have c45b0 : (a0 == 45) = true := beq_iff_eq.mpr c45
     have c45b1 : (a0 != 45) = false := bne_eq_false_iff_eq.mpr c45
     clear c45
     obtain rfl := Option.some.inj H
     go_enter Tryd.func50, Tryd.ntmps50
     go_wp2
     go_ret
     exact ⟨by first | rfl | (simp; done) | (simp [*]; done), by repeat (first | exact Drawn0.refl _ | apply Drawn0.step)⟩
    rw [if_neg c45] at H
    have c45b0 : (a0 == 45) = false := beq_eq_false_iff_ne.mpr c45
    have c45b1 : (a0 != 45) = true := bne_iff_ne.mpr c45
    by_cases c46 : a0 = 43
    ·rw [if_pos c46] at H
     have c46b0 : (a0 == 43) = true := beq_iff_eq.mpr c46
     have c46b1 : (a0 != 43) = false := bne_eq_false_iff_eq.mpr c46
     clear c46
     obtain rfl := Option.some.inj H
     go_enter Tryd.func50, Tryd.ntmps50
     go_wp2
     go_ret
     exact ⟨by first | rfl | (simp; done) | (simp [*]; done), by repeat (first | exact Drawn0.refl _ | apply Drawn0.step)⟩
    rw [if_neg c46] at H
    have c46b0 : (a0 == 43) = false := beq_eq_false_iff_ne.mpr c46
    have c46b1 : (a0 != 43) = true := bne_iff_ne.mpr c46
    refine neg_first (p := (a0 = 64)) (fun c47 => ?_) (fun c47 => ?_)
    ·rw [if_neg c47] at H
     have c47b0 : (a0 == 64) = false := beq_eq_false_iff_ne.mpr c47
     have c47b1 : (a0 != 64) = true := bne_iff_ne.mpr c47
     obtain rfl := Option.some.inj H
     go_enter Tryd.func50, Tryd.ntmps50
     go_wp2
     go_ret
     exact ⟨by first | rfl | (simp; done) | (simp [*]; done), by repeat (first | exact Drawn0.refl _ | apply Drawn0.step)⟩
    rw [if_pos c47] at H
    have c47b0 : (a0 == 64) = true := beq_iff_eq.mpr c47
    have c47b1 : (a0 != 64) = false := bne_eq_false_iff_eq.mpr c47
    clear c47
    obtain rfl := Option.some.inj H
    go_enter Tryd.func50, Tryd.ntmps50
    go_wp2
    go_ret
    exact ⟨by first | rfl | (simp; done) | (simp [*]; done), by repeat (first | exact Drawn0.refl _ | apply Drawn0.step)⟩
   rw [if_pos c38] at H
   have c38b0 : decide (48 ≤ a0) = true := decide_eq_true c38
   clear c38
   by_cases c39 : a0 ≤ 57
   ·rw [if_pos c39] at H
    have c39b0 : decide (a0 ≤ 57) = true := decide_eq_true c39
    clear c39
    obtain rfl := Option.some.inj H
    go_enter Tryd.func50, Tryd.ntmps50
    go_wp2
    go_ret
    exact ⟨by first | rfl | (simp; done) | (simp [*]; done), by repeat (first | exact Drawn0.refl _ | apply Drawn0.step)⟩
   rw [if_neg c39] at H
   have c39b0 : decide (a0 ≤ 57) = false := decide_eq_false c39
   clear c39
   by_cases c40 : a0 = 46
   ·rw [if_pos c40] at H
    have c40b0 : (a0 == 46) = true := beq_iff_eq.mpr c40
    have c40b1 : (a0 != 46) = false := bne_eq_false_iff_eq.mpr c40
    clear c40
    obtain rfl := Option.some.inj H
    go_enter Tryd.func50, Tryd.ntmps50
    go_wp2
    go_ret
    exact ⟨by first | rfl | (simp; done) | (simp [*]; done), by repeat (first | exact Drawn0.refl _ | apply Drawn0.step)⟩
   rw [if_neg c40] at H
   have c40b0 : (a0 == 46) = false := beq_eq_false_iff_ne.mpr c40
   have c40b1 : (a0 != 46) = true := bne_iff_ne.mpr c40
   by_cases c41 : a0 = 45
   ·rw [if_pos c41] at H
    have c41b0 : (a0 == 45) = true := beq_iff_eq.mpr c41
    have c41b1 : (a0 != 45) = false := bne_eq_false_iff_eq.mpr c41
    clear c41
    obtain rfl := Option.some.inj H
    go_enter Tryd.func50, Tryd.ntmps50
    go_wp2
    go_ret
    exact ⟨by first | rfl | (simp; done) | (simp [*]; done), by repeat (first | exact Drawn0.refl _ | apply Drawn0.step)⟩
   rw [if_neg c41] at H
   have c41b0 : (a0 == 45) = false := beq_eq_false_iff_ne.mpr c41
   have c41b1 : (a0 != 45) = true := bne_iff_ne.mpr c41
   by_cases c42 : a0 = 43
   ·rw [if_pos c42] at H
    have c42b0 : (a0 == 43) = true := beq_iff_eq.mpr c42
    have c42b1 : (a0 != 43) = false := bne_eq_false_iff_eq.mpr c42
    clear c42
    obtain rfl := Option.some.inj H
    go_enter Tryd.func50, Tryd.ntmps50
    go_wp2
    go_ret
    exact ⟨by first | rfl | (simp; done) | (simp [*]; done), by repeat (first | exact Drawn0.refl _ | apply Drawn0.step)⟩
   rw [if_neg c42] at H
   have c42b0 : (a0 == 43) = false := beq_eq_false_iff_ne.mpr c42
   have c42b1 : (a0 != 43) = true := bne_iff_ne.mpr c42
   refine neg_first (p := (a0 = 64)) (fun c43 => ?_) (fun c43 => ?_)
   ·rw [if_neg c43] at H
    have c43b0 : (a0 == 64) = false := beq_eq_false_iff_ne.mpr c43
    have c43b1 : (a0 != 64) = true := bne_iff_ne.mpr c43
    obtain rfl := Option.some.inj H
    go_enter Tryd.func50, Tryd.ntmps50
    go_wp2
    go_ret
    exact ⟨by first | rfl | (simp; done) | (simp [*]; done), by repeat (first | exact Drawn0.refl _ | apply Drawn0.step)⟩
   rw [if_pos c43] at H
   have c43b0 : (a0 == 64) = true := beq_iff_eq.mpr c43
   have c43b1 : (a0 != 64) = false := bne_eq_false_iff_eq.mpr c43
   clear c43
   obtain rfl := Option.some.inj H
   go_enter Tryd.func50, Tryd.ntmps50
   go_wp2
   go_ret
   exact ⟨by first | rfl | (simp; done) | (simp [*]; done), by repeat (first | exact Drawn0.refl _ | apply Drawn0.step)⟩
  rw [if_pos c26] at H
  have c26b0 : decide (65 ≤ a0) = true := decide_eq_true c26
  clear c26
  by_cases c27 : a0 ≤ 90
  ·rw [if_pos c27] at H
   have c27b0 : decide (a0 ≤ 90) = true := decide_eq_true c27
   clear c27
   obtain rfl := Option.some.inj H
   go_enter Tryd.func50, Tryd.ntmps50
   go_wp2
   go_ret
   exact ⟨by first | rfl | (simp; done) | (simp [*]; done), by repeat (first | exact Drawn0.refl _ | apply Drawn0.step)⟩
  rw [if_neg c27] at H
  have c27b0 : decide (a0 ≤ 90) = false := decide_eq_false c27
  clear c27
  refine neg_first (p := (a0 ≥ 48)) (fun c28 => ?_) (fun c28 => ?_)
  ·rw [if_neg c28] at H
   have c28b0 : decide (48 ≤ a0) = false := decide_eq_false c28
   clear c28
   by_cases c34 : a0 = 46
   ·rw [if_pos c34] at H
    have c34b0 : (a0 == 46) = true := beq_iff_eq.mpr c34
    have c34b1 : (a0 != 46) = false := bne_eq_false_iff_eq.mpr c34
    clear c34
    obtain rfl := Option.some.inj H
    go_enter Tryd.func50, Tryd.ntmps50
    go_wp2
    go_ret
    exact ⟨by first | rfl | (simp; done) | (simp [*]; done), by repeat (first | exact Drawn0.refl _ | apply Drawn0.step)⟩
   rw [if_neg c34] at H
   have c34b0 : (a0 == 46) = false := beq_eq_false_iff_ne.mpr c34
   have c34b1 : (a0 != 46) = true := bne_iff_ne.mpr c34
   by_cases c35 : a0 = 45
   ·rw [if_pos c35] at H
    have c35b0 : (a0 == 45) = true := beq_iff_eq.mpr c35
    have c35b1 : (a0 != 45) = false := bne_eq_false_iff_eq.mpr c35
    clear c35
    obtain rfl := Option.some.inj H
    go_enter Tryd.func50, Tryd.ntmps50
    go_wp2
    go_ret
    exact ⟨by first | rfl | (simp; done) | (simp [*]; done), by repeat (first | exact Drawn0.refl _ | apply Drawn0.step)⟩
   rw [if_neg c35] at H
   have c35b0 : (a0 == 45) = false := beq_eq_false_iff_ne.mpr c35
   have c35b1 : (a0 != 45) = true := bne_iff_ne.mpr c35
   by_cases c36 : a0 = 43
   ·rw [if_pos c36] at H
    have c36b0 : (a0 == 43) = true := beq_iff_eq.mpr c36
    have c36b1 : (a0 != 43) = false := bne_eq_false_iff_eq.mpr c36
    clear c36
    obtain rfl := Option.some.inj H
    go_enter Tryd.func50, Tryd.ntmps50
    go_wp2
    go_ret
    exact ⟨by first | rfl | (simp; done) | (simp [*]; done), by repeat (first | exact Drawn0.refl _ | apply Drawn0.step)⟩
   rw [if_neg c36] at H
   have c36b0 : (a0 == 43) = false := beq_eq_false_iff_ne.mpr c36
   have c36b1 : (a0 != 43) = true := bne_iff_ne.mpr c36
   refine neg_first (p := (a0 = 64)) (fun c37 => ?_) (fun c37 => ?_)
   ·rw [if_neg c37] at H
    have c37b0 : (a0 == 64) = false := beq_eq_false_iff_ne.mpr c37
    have c37b1 : (a0 != 64) = true := bne_iff_ne.mpr c37
    obtain rfl := Option.some.inj H
    go_enter Tryd.func50, Tryd.ntmps50
    go_wp2
    go_ret
    exact ⟨by first | rfl | (simp; done) | (simp [*]; done), by repeat (first | exact Drawn0.refl _ | apply Drawn0.step)⟩
   rw [if_pos c37] at H
   have c37b0 : (a0 == 64) = true := beq_iff_eq.mpr c37
   have c37b1 : (a0 != 64) = false := bne_eq_false_iff_eq.mpr c37
   clear c37
   obtain rfl := Option.some.inj H
   go_enter Tryd.func50, Tryd.ntmps50
   go_wp2
   go_ret
   exact ⟨by first | rfl | (simp; done) | (simp [*]; done), by repeat (first | exact Drawn0.refl _ | apply Drawn0.step)⟩
  rw [if_pos c28] at H
  have c28b0 : decide (48 ≤ a0) = true := decide_eq_true c28
  clear c28
  by_cases c29 : a0 ≤ 57
  ·rw [if_pos c29] at H
   have c29b0 : decide (a0 ≤ 57) = true := decide_eq_true c29
   clear c29
   obtain rfl := Option.some.inj H
   go_enter Tryd.func50, Tryd.ntmps50
   go_wp2
   go_ret
   exact ⟨by first | rfl | (simp; done) | (simp [*]; done), by repeat (first | exact Drawn0.refl _ | apply Drawn0.step)⟩
  rw [if_neg c29] at H
  have c29b0 : decide (a0 ≤ 57) = false := decide_eq_false c29
  clear c29
  by_cases c30 : a0 = 46
  ·rw [if_pos c30] at H
   have c30b0 : (a0 == 46) = true := beq_iff_eq.mpr c30
   have c30b1 : (a0 != 46) = false := bne_eq_false_iff_eq.mpr c30
   clear c30
   obtain rfl := Option.some.inj H
   go_enter Tryd.func50, Tryd.ntmps50
   go_wp2
   go_ret
   exact ⟨by first | rfl | (simp; done) | (simp [*]; done), by repeat (first | exact Drawn0.refl _ | apply Drawn0.step)⟩
  rw [if_neg c30] at H
  have c30b0 : (a0 == 46) = false := beq_eq_false_iff_ne.mpr c30
  have c30b1 : (a0 != 46) = true := bne_iff_ne.mpr c30
  by_cases c31 : a0 = 45
  ·rw [if_pos c31] at H
   have c31b0 : (a0 == 45) = true := beq_iff_eq.mpr c31
   have c31b1 : (a0 != 45) = false := bne_eq_false_iff_eq.mpr c31
   clear c31
   obtain rfl := Option.some.inj H
   go_enter Tryd.func50, Tryd.ntmps50
   go_wp2
   go_ret
   exact ⟨by first | rfl | (simp; done) | (simp [*]; done), by repeat (first | exact Drawn0.refl _ | apply Drawn0.step)⟩
  rw [if_neg c31] at H
  have c31b0 : (a0 == 45) = false := beq_eq_false_iff_ne.mpr c31
  have c31b1 : (a0 != 45) = true := bne_iff_ne.mpr c31
  by_cases c32 : a0 = 43
  ·rw [if_pos c32] at H
   have c32b0 : (a0 == 43) = true := beq_iff_eq.mpr c32
   have c32b1 : (a0 != 43) = false := bne_eq_false_iff_eq.mpr c32
   clear c32
   obtain rfl := Option.some.inj H
   go_enter Tryd.func50, Tryd.ntmps50
   go_wp2
   go_ret
   exact ⟨by first | rfl | (simp; done) | (simp [*]; done), by repeat (first | exact Drawn0.refl _ | apply Drawn0.step)⟩
  rw [if_neg c32] at H
  have c32b0 : (a0 == 43) = false := beq_eq_false_iff_ne.mpr c32
  have c32b1 : (a0 != 43) = true := bne_iff_ne.mpr c32
  refine neg_first (p := (a0 = 64)) (fun c33 => ?_) (fun c33 => ?_)
  ·rw [if_neg c33] at H
   have c33b0 : (a0 == 64) = false := beq_eq_false_iff_ne.mpr c33
   have c33b1 : (a0 != 64) = true := bne_iff_ne.mpr c33
   obtain rfl := Option.some.inj H
   go_enter Tryd.func50, Tryd.ntmps50
   go_wp2
   go_ret
   exact ⟨by first | rfl | (simp; done) | (simp [*]; done), by repeat (first | exact Drawn0.refl _ | apply Drawn0.step)⟩
  rw [if_pos c33] at H
  have c33b0 : (a0 == 64) = true := beq_iff_eq.mpr c33
  have c33b1 : (a0 != 64) = false := bne_eq_false_iff_eq.mpr c33
  clear c33
  obtain rfl := Option.some.inj H
  go_enter Tryd.func50, Tryd.ntmps50
  go_wp2
  go_ret
  exact ⟨by first | rfl | (simp; done) | (simp [*]; done), by repeat (first | exact Drawn0.refl _ | apply Drawn0.step)⟩
 rw [if_pos c2] at H
 have c2b0 : decide (97 ≤ a0) = true := decide_eq_true c2
 clear c2
 by_cases c3 : a0 ≤ 122
 ·rw [if_pos c3] at H
  have c3b0 : decide (a0 ≤ 122) = true := decide_eq_true c3
  clear c3
  obtain rfl := Option.some.inj H
  go_enter Tryd.func50, Tryd.ntmps50
  go_wp2
  go_ret
  exact ⟨by first | rfl | (simp; done) | (simp [*]; done), by repeat (first | exact Drawn0.refl _ | apply Drawn0.step)⟩
 rw [if_neg c3] at H
 have c3b0 : decide (a0 ≤ 122) = false := decide_eq_false c3
 clear c3
 refine neg_first (p := (a0 ≥ 65)) (fun c4 => ?_) (fun c4 => ?_)
 ·rw [if_neg c4] at H
  have c4b0 : decide (65 ≤ a0) = false := decide_eq_false c4
  clear c4
  refine neg_first (p := (a0 ≥ 48)) (fun c16 => ?_) (fun c16 => ?_)
  ·rw [if_neg c16] at H
   have c16b0 : decide (48 ≤ a0) = false := decide_eq_false c16
   clear c16
   by_cases c22 : a0 = 46
   ·rw [if_pos c22] at H
    have c22b0 : (a0 == 46) = true := beq_iff_eq.mpr c22
    have c22b1 : (a0 != 46) = false := bne_eq_false_iff_eq.mpr c22
    clear c22
    obtain rfl := Option.some.inj H
    go_enter Tryd.func50, Tryd.ntmps50
    go_wp2
    go_ret
    exact ⟨by first | rfl | (simp; done) | (simp [*]; done), by repeat (first | exact Drawn0.refl _ | apply Drawn0.step)⟩
   rw [if_neg c22] at H
   have c22b0 : (a0 == 46) = false := beq_eq_false_iff_ne.mpr c22
   have c22b1 : (a0 != 46) = true := bne_iff_ne.mpr c22
   by_cases c23 : a0 = 45
   ·rw [if_pos c23] at H
    have c23b0 : (a0 == 45) = true := beq_iff_eq.mpr c23
    have c23b1 : (a0 != 45) = false := bne_eq_false_iff_eq.mpr c23
    clear c23
    obtain rfl := Option.some.inj H
    go_enter Tryd.func50, Tryd.ntmps50
    go_wp2
    go_ret
    exact ⟨by first | rfl | (simp; done) | (simp [*]; done), by repeat (first | exact Drawn0.refl _ | apply Drawn0.step)⟩
   rw [if_neg c23] at H
   have c23b0 : (a0 == 45) = false := beq_eq_false_iff_ne.mpr c23
   have c23b1 : (a0 != 45) = true := bne_iff_ne.mpr c23
   by_cases c24 : a0 = 43
   ·rw [if_pos c24] at H
    have c24b0 : (a0 == 43) = true := beq_iff_eq.mpr c24
    have c24b1 : (a0 != 43) = false := bne_eq_false_iff_eq.mpr c24
    clear c24
    obtain rfl := Option.some.inj H
    go_enter Tryd.func50, Tryd.ntmps50
    go_wp2
    go_ret
    exact ⟨by first | rfl | (simp; done) | (simp [*]; done), by repeat (first | exact Drawn0.refl _ | apply Drawn0.step)⟩
   rw [if_neg c24] at H
   have c24b0 : (a0 == 43) = false := beq_eq_false_iff_ne.mpr c24
   have c24b1 : (a0 != 43) = true := bne_iff_ne.mpr c24
   refine neg_first (p := (a0 = 64)) (fun c25 => ?_) (fun c25 => ?_)
   ·rw [if_neg c25] at H
    have c25b0 : (a0 == 64) = false := beq_eq_false_iff_ne.mpr c25
    have c25b1 : (a0 != 64) = true := bne_iff_ne.mpr c25
    obtain rfl := Option.some.inj H
    go_enter Tryd.func50, Tryd.ntmps50
    go_wp2
    go_ret
    exact ⟨by first | rfl | (simp; done) | (simp [*]; done), by repeat (first | exact Drawn0.refl _ | apply Drawn0.step)⟩
   rw [if_pos c25] at H
   have c25b0 : (a0 == 64) = true := beq_iff_eq.mpr c25
   have c25b1 : (a0 != 64) = false := bne_eq_false_iff_eq.mpr c25
   clear c25
   obtain rfl := Option.some.inj H
   go_enter Tryd.func50, Tryd.ntmps50
   go_wp2
   go_ret
   exact ⟨by first | rfl | (simp; done) | (simp [*]; done), by repeat (first | exact Drawn0.refl _ | apply Drawn0.step)⟩
  rw [if_pos c16] at H
  have c16b0 : decide (48 ≤ a0) = true := decide_eq_true c16
  clear c16
  by_cases c17 : a0 ≤ 57
  ·rw [if_pos c17] at H
   have c17b0 : decide (a0 ≤ 57) = true := decide_eq_true c17
   clear c17
   obtain rfl := Option.some.inj H
   go_enter Tryd.func50, Tryd.ntmps50
   go_wp2
   go_ret
   exact ⟨by first | rfl | (simp; done) | (simp [*]; done), by repeat (first | exact Drawn0.refl _ | apply Drawn0.step)⟩
  rw [if_neg c17] at H
  have c17b0 : decide (a0 ≤ 57) = false := decide_eq_false c17
  clear c17
  by_cases c18 : a0 = 46
  ·rw [if_pos c18] at H
   have c18b0 : (a0 == 46) = true := beq_iff_eq.mpr c18
   have c18b1 : (a0 != 46) = false := bne_eq_false_iff_eq.mpr c18
   clear c18
   obtain rfl := Option.some.inj H
   go_enter Tryd.func50, Tryd.ntmps50
   go_wp2
   go_ret
   exact ⟨by first | rfl | (simp; done) | (simp [*]; done), by repeat (first | exact Drawn0.refl _ | apply Drawn0.step)⟩
  rw [if_neg c18] at H
  have c18b0 : (a0 == 46) = false := beq_eq_false_iff_ne.mpr c18
  have c18b1 : (a0 != 46) = true := bne_iff_ne.mpr c18
  by_cases c19 : a0 = 45
  ·rw [if_pos c19] at H
   have c19b0 : (a0 == 45) = true := beq_iff_eq.mpr c19
   have c19b1 : (a0 != 45) = false := bne_eq_false_iff_eq.mpr c19
   clear c19
   obtain rfl := Option.some.inj H
   go_enter Tryd.func50, Tryd.ntmps50
   go_wp2
   go_ret
   exact ⟨by first | rfl | (simp; done) | (simp [*]; done), by repeat (first | exact Drawn0.refl _ | apply Drawn0.step)⟩
  rw [if_neg c19] at H
  have c19b0 : (a0 == 45) = false := beq_eq_false_iff_ne.mpr c19
  have c19b1 : (a0 != 45) = true := bne_iff_ne.mpr c19
  by_cases c20 : a0 = 43
  ·rw [if_pos c20] at H
   have c20b0 : (a0 == 43) = true := beq_iff_eq.mpr c20
   have c20b1 : (a0 != 43) = false := bne_eq_false_iff_eq.mpr c20
   clear c20
   obtain rfl := Option.some.inj H
   go_enter Tryd.func50, Tryd.ntmps50
   go_wp2
   go_ret
   exact ⟨by first | rfl | (simp; done) | (simp [*]; done), by repeat (first | exact Drawn0.refl _ | apply Drawn0.step)⟩
  rw [if_neg c20] at H
  have c20b0 : (a0 == 43) = false := beq_eq_false_iff_ne.mpr c20
  have c20b1 : (a0 != 43) = true := bne_iff_ne.mpr c20
  refine neg_first (p := (a0 = 64)) (fun c21 => ?_) (fun c21 => ?_)
  ·rw [if_neg c21] at H
   have c21b0 : (a0 == 64) = false := beq_eq_false_iff_ne.mpr c21
   have c21b1 : (a0 != 64) = true := bne_iff_ne.mpr c21
   obtain rfl := Option.some.inj H
   go_enter Tryd.func50, Tryd.ntmps50
   go_wp2
   go_ret
   exact ⟨by first | rfl | (simp; done) | (simp [*]; done), by repeat (first | exact Drawn0.refl _ | apply Drawn0.step)⟩
  rw [if_pos c21] at H
  have c21b0 : (a0 == 64) = true := beq_iff_eq.mpr c21
  have c21b1 : (a0 != 64) = false := bne_eq_false_iff_eq.mpr c21
  clear c21
  obtain rfl := Option.some.inj H
  go_enter Tryd.func50, Tryd.ntmps50
  go_wp2
  go_ret
  exact ⟨by first | rfl | (simp; done) | (simp [*]; done), by repeat (first | exact Drawn0.refl _ | apply Drawn0.step)⟩
 rw [if_pos c4] at H
 have c4b0 : decide (65 ≤ a0) = true := decide_eq_true c4
 clear c4
 by_cases c5 : a0 ≤ 90
 ·rw [if_pos c5] at H
  have c5b0 : decide (a0 ≤ 90) = true := decide_eq_true c5
  clear c5
  obtain rfl := Option.some.inj H
  go_enter Tryd.func50, Tryd.ntmps50
  go_wp2
  go_ret
  exact ⟨by first | rfl | (simp; done) | (simp [*]; done), by repeat (first | exact Drawn0.refl _ | apply Drawn0.step)⟩
 rw [if_neg c5] at H
 have c5b0 : decide (a0 ≤ 90) = false := decide_eq_false c5
 clear c5
 refine neg_first (p := (a0 ≥ 48)) (fun c6 => ?_) (fun c6 => ?_)
 ·rw [if_neg c6] at H
  have c6b0 : decide (48 ≤ a0) = false := decide_eq_false c6
  clear c6
  by_cases c12 : a0 = 46
  ·rw [if_pos c12] at H
   have c12b0 : (a0 == 46) = true := beq_iff_eq.mpr c12
   have c12b1 : (a0 != 46) = false := bne_eq_false_iff_eq.mpr c12
   clear c12
   obtain rfl := Option.some.inj H
   go_enter Tryd.func50, Tryd.ntmps50
   go_wp2
   go_ret
   exact ⟨by first | rfl | (simp; done) | (simp [*]; done), by repeat (first | exact Drawn0.refl _ | apply Drawn0.step)⟩
  rw [if_neg c12] at H
  have c12b0 : (a0 == 46) = false := beq_eq_false_iff_ne.mpr c12
  have c12b1 : (a0 != 46) = true := bne_iff_ne.mpr c12
  by_cases c13 : a0 = 45
  ·rw [if_pos c13] at H
   have c13b0 : (a0 == 45) = true := beq_iff_eq.mpr c13
   have c13b1 : (a0 != 45) = false := bne_eq_false_iff_eq.mpr c13
   clear c13
   obtain rfl := Option.some.inj H
   go_enter Tryd.func50, Tryd.ntmps50
   go_wp2
   go_ret
   exact ⟨by first | rfl | (simp; done) | (simp [*]; done), by repeat (first | exact Drawn0.refl _ | apply Drawn0.step)⟩
  rw [if_neg c13] at H
  have c13b0 : (a0 == 45) = false := beq_eq_false_iff_ne.mpr c13
  have c13b1 : (a0 != 45) = true := bne_iff_ne.mpr c13
  by_cases c14 : a0 = 43
  ·rw [if_pos c14] at H
   have c14b0 : (a0 == 43) = true := beq_iff_eq.mpr c14
   have c14b1 : (a0 != 43) = false := bne_eq_false_iff_eq.mpr c14
   clear c14
   obtain rfl := Option.some.inj H
   go_enter Tryd.func50, Tryd.ntmps50
   go_wp2
   go_ret
   exact ⟨by first | rfl | (simp; done) | (simp [*]; done), by repeat (first | exact Drawn0.refl _ | apply Drawn0.step)⟩
  rw [if_neg c14] at H
  have c14b0 : (a0 == 43) = false := beq_eq_false_iff_ne.mpr c14
  have c14b1 : (a0 != 43) = true := bne_iff_ne.mpr c14
  refine neg_first (p := (a0 = 64)) (fun c15 => ?_) (fun c15 => ?_)
  ·rw [if_neg c15] at H
   have c15b0 : (a0 == 64) = false := beq_eq_false_iff_ne.mpr c15
   have c15b1 : (a0 != 64) = true := bne_iff_ne.mpr c15
   obtain rfl := Option.some.inj H
   go_enter Tryd.func50, Tryd.ntmps50
   go_wp2
   go_ret
   exact ⟨by first | rfl | (simp; done) | (simp [*]; done), by repeat (first | exact Drawn0.refl _ | apply Drawn0.step)⟩
  rw [if_pos c15] at H
  have c15b0 : (a0 == 64) = true := beq_iff_eq.mpr c15
  have c15b1 : (a0 != 64) = false := bne_eq_false_iff_eq.mpr c15
  clear c15
  obtain rfl := Option.some.inj H
  go_enter Tryd.func50, Tryd.ntmps50
  go_wp2
  go_ret
  exact ⟨by first | rfl | (simp; done) | (simp [*]; done), by repeat (first | exact Drawn0.refl _ | apply Drawn0.step)⟩
 rw [if_pos c6] at H
 have c6b0 : decide (48 ≤ a0) = true := decide_eq_true c6
 clear c6
 by_cases c7 : a0 ≤ 57
 ·rw [if_pos c7] at H
  have c7b0 : decide (a0 ≤ 57) = true := decide_eq_true c7
  clear c7
  obtain rfl := Option.some.inj H
  go_enter Tryd.func50, Tryd.ntmps50
  go_wp2
  go_ret
  exact ⟨by first | rfl | (simp; done) | (simp [*]; done), by repeat (first | exact Drawn0.refl _ | apply Drawn0.step)⟩
 rw [if_neg c7] at H
 have c7b0 : decide (a0 ≤ 57) = false := decide_eq_false c7
 clear c7
 by_cases c8 : a0 = 46
 ·rw [if_pos c8] at H
  have c8b0 : (a0 == 46) = true := beq_iff_eq.mpr c8
  have c8b1 : (a0 != 46) = false := bne_eq_false_iff_eq.mpr c8
  clear c8
  obtain rfl := Option.some.inj H
  go_enter Tryd.func50, Tryd.ntmps50
  go_wp2
  go_ret
  exact ⟨by first | rfl | (simp; done) | (simp [*]; done), by repeat (first | exact Drawn0.refl _ | apply Drawn0.step)⟩
 rw [if_neg c8] at H
 have c8b0 : (a0 == 46) = false := beq_eq_false_iff_ne.mpr c8
 have c8b1 : (a0 != 46) = true := bne_iff_ne.mpr c8
 by_cases c9 : a0 = 45
 ·rw [if_pos c9] at H
  have c9b0 : (a0 == 45) = true := beq_iff_eq.mpr c9
  have c9b1 : (a0 != 45) = false := bne_eq_false_iff_eq.mpr c9
  clear c9
  obtain rfl := Option.some.inj H
  go_enter Tryd.func50, Tryd.ntmps50
  go_wp2
  go_ret
  exact ⟨by first | rfl | (simp; done) | (simp [*]; done), by repeat (first | exact Drawn0.refl _ | apply Drawn0.step)⟩
 rw [if_neg c9] at H
 have c9b0 : (a0 == 45) = false := beq_eq_false_iff_ne.mpr c9
 have c9b1 : (a0 != 45) = true := bne_iff_ne.mpr c9
 by_cases c10 : a0 = 43
 ·rw [if_pos c10] at H
  have c10b0 : (a0 == 43) = true := beq_iff_eq.mpr c10
  have c10b1 : (a0 != 43) = false := bne_eq_false_iff_eq.mpr c10
  clear c10
  obtain rfl := Option.some.inj H
  go_enter Tryd.func50, Tryd.ntmps50
  go_wp2
  go_ret
  exact ⟨by first | rfl | (simp; done) | (simp [*]; done), by repeat (first | exact Drawn0.refl _ | apply Drawn0.step)⟩
 rw [if_neg c10] at H
 have c10b0 : (a0 == 43) = false := beq_eq_false_iff_ne.mpr c10
 have c10b1 : (a0 != 43) = true := bne_iff_ne.mpr c10
 refine neg_first (p := (a0 = 64)) (fun c11 => ?_) (fun c11 => ?_)
 ·rw [if_neg c11] at H
  have c11b0 : (a0 == 64) = false := beq_eq_false_iff_ne.mpr c11
  have c11b1 : (a0 != 64) = true := bne_iff_ne.mpr c11
  obtain rfl := Option.some.inj H
  go_enter Tryd.func50, Tryd.ntmps50
  go_wp2
  go_ret
  exact ⟨by first | rfl | (simp; done) | (simp [*]; done), by repeat (first | exact Drawn0.refl _ | apply Drawn0.step)⟩
 rw [if_pos c11] at H
 have c11b0 : (a0 == 64) = true := beq_iff_eq.mpr c11
 have c11b1 : (a0 != 64) = false := bne_eq_false_iff_eq.mpr c11
 clear c11
 obtain rfl := Option.some.inj H
 go_enter Tryd.func50, Tryd.ntmps50
 go_wp2
 go_ret
 exact ⟨by first | rfl | (simp; done) | (simp [*]; done), by repeat (first | exact Drawn0.refl _ | apply Drawn0.step)⟩
end Go.Proofs.YtclcnkmefldpiaaDoor.P
namespace Go.Proofs.YtclcnkmefldpiaaDoor.P
open Go.RowKit Go.Proofs.YtclcnkmefldpiaaDoorW.PrintWords Go.Proofs.YtclcnkmefldpiaaDoorW.PrintLast Go.Proofs.YtclcnkmefldpiaaDoorW.PrintMore
attribute [local go_sem] max2_int min2_int max_two min_two max_three min_three max_four min_four   -- for this text's walks alone
set_option linter.unusedVariables false
set_option linter.unusedSimpArgs false
set_option linter.unnecessarySimpa false
mutual
def headgateref21_Good.l0 : Nat → List (S45) → Int → Option (Bool)
 | 0, _, _ => none
 | k + 1, x0, x3 => if x3 < (x0.length : Int) then (if 0 ≤ x3 then (if (((rd_T45 x0 x3).f0).size : Int) < 1 then (headgateref21_Good.j1 k x0 x3 true) else (if (((rd_T45 x0 x3).f0).size : Int) > 63 then (headgateref21_Good.j1 k x0 x3 true) else (headgateref21_Good.j1 k x0 x3 (decide ((((rd_T45 x0 x3).f1).size : Int) > 255))))) else (none)) else (some true)
def headgateref21_Good.j1 : Nat → List (S45) → Int → Bool → Option (Bool)
 | 0, _, _, _ => none
 | k + 1, x0, x3, x40 => if x40 = true then (some false) else (headgateref21_Good.l1 k x0 x3 0)
def headgateref21_Good.l1 : Nat → List (S45) → Int → Int → Option (Bool)
 | 0, _, _, _ => none
 | k + 1, x0, x3, x4 => if 0 ≤ x3 then (if x3 < (x0.length : Int) then (if x4 < (((rd_T45 x0 x3).f0).size : Int) then (if 0 ≤ x4 then ((headgateref21_letter.f (bt ((rd_T45 x0 x3).f0) x4)).bind fun t161 => (if t161 = true then (headgateref21_Good.l1 k x0 x3 (wrap64 (x4 + 1))) else (some false))) else (none)) else (headgateref21_Good.l2 k x0 x3 0)) else (none)) else (none)
def headgateref21_Good.l2 : Nat → List (S45) → Int → Int → Option (Bool)
 | 0, _, _, _ => none
 | k + 1, x0, x3, x5 => if 0 ≤ x3 then (if x3 < (x0.length : Int) then (if x5 < (((rd_T45 x0 x3).f1).size : Int) then (if 0 ≤ x5 then (if (bt ((rd_T45 x0 x3).f1) x5) = 0 then (some false) else (headgateref21_Good.l2 k x0 x3 (wrap64 (x5 + 1)))) else (none)) else (headgateref21_Good.l3 k x0 x3 0)) else (none)) else (none)
def headgateref21_Good.l3 : Nat → List (S45) → Int → Int → Option (Bool)
 | 0, _, _, _ => none
 | k + 1, x0, x3, x6 => if x6 < x3 then (if 0 ≤ x6 then (if x6 < (x0.length : Int) then (if 0 ≤ x3 then (if x3 < (x0.length : Int) then (if ((rd_T45 x0 x6).f0).toList = ((rd_T45 x0 x3).f0).toList then (some false) else (headgateref21_Good.l3 k x0 x3 (wrap64 (x6 + 1)))) else (none)) else (none)) else (none)) else (none)) else (headgateref21_Good.l0 k x0 (wrap64 (x3 + 1)))
end
def headgateref21_Good.f (k : Nat) (l0 : List (S45)) : Option (Bool) := if (l0.length : Int) > 16 then (some false) else (headgateref21_Good.l0 k l0 0)
theorem headgateref21_Good.mono_l : ∀ k, (∀ y0 y1, LeO (headgateref21_Good.l0 k y0 y1) (headgateref21_Good.l0 (k + 1) y0 y1)) ∧ (∀ y0 y1 y2, LeO (headgateref21_Good.j1 k y0 y1 y2) (headgateref21_Good.j1 (k + 1) y0 y1 y2)) ∧ (∀ y0 y1 y2, LeO (headgateref21_Good.l1 k y0 y1 y2) (headgateref21_Good.l1 (k + 1) y0 y1 y2)) ∧ (∀ y0 y1 y2, LeO (headgateref21_Good.l2 k y0 y1 y2) (headgateref21_Good.l2 (k + 1) y0 y1 y2)) ∧ (∀ y0 y1 y2, LeO (headgateref21_Good.l3 k y0 y1 y2) (headgateref21_Good.l3 (k + 1) y0 y1 y2))
 | 0 => ⟨fun _ _ r h => by simp [headgateref21_Good.l0] at h, fun _ _ _ r h => by simp [headgateref21_Good.j1] at h, fun _ _ _ r h => by simp [headgateref21_Good.l1] at h, fun _ _ _ r h => by simp [headgateref21_Good.l2] at h, fun _ _ _ r h => by simp [headgateref21_Good.l3] at h⟩
 | k + 1 => by
  obtain ⟨ih0, ih1, ih2, ih3, ih4⟩ := headgateref21_Good.mono_l k
  refine ⟨?_, ?_, ?_, ?_, ?_⟩
  ·intro y0 y1
   unfold headgateref21_Good.l0
   repeat' first
   | (with_reducible exact ih0 _ _)
   | (with_reducible exact ih1 _ _ _)
   | (with_reducible exact ih2 _ _ _)
   | (with_reducible exact ih3 _ _ _)
   | (with_reducible exact ih4 _ _ _)
   | (with_reducible exact LeO.refl _)
   | (with_reducible exact LeO.none _)
   | (with_reducible refine LeO.ite ?_ ?_)
   | (with_reducible refine LeO.bind ?_ (fun _ => ?_))
   | exact ih0 _ _
   | exact ih1 _ _ _
   | exact ih2 _ _ _
   | exact ih3 _ _ _
   | exact ih4 _ _ _
   | exact LeO.none _
   | refine LeO.ite ?_ ?_
   | refine LeO.bind ?_ (fun _ => ?_)
  ·intro y0 y1 y2
   unfold headgateref21_Good.j1
   repeat' first
   | (with_reducible exact ih0 _ _)
   | (with_reducible exact ih1 _ _ _)
   | (with_reducible exact ih2 _ _ _)
   | (with_reducible exact ih3 _ _ _)
   | (with_reducible exact ih4 _ _ _)
   | (with_reducible exact LeO.refl _)
   | (with_reducible exact LeO.none _)
   | (with_reducible refine LeO.ite ?_ ?_)
   | (with_reducible refine LeO.bind ?_ (fun _ => ?_))
   | exact ih0 _ _
   | exact ih1 _ _ _
   | exact ih2 _ _ _
   | exact ih3 _ _ _
   | exact ih4 _ _ _
   | exact LeO.none _
   | refine LeO.ite ?_ ?_
   | refine LeO.bind ?_ (fun _ => ?_)
  ·intro y0 y1 y2
   unfold headgateref21_Good.l1
   repeat' first
   | (with_reducible exact ih0 _ _)
   | (with_reducible exact ih1 _ _ _)
   | (with_reducible exact ih2 _ _ _)
   | (with_reducible exact ih3 _ _ _)
   | (with_reducible exact ih4 _ _ _)
   | (with_reducible exact LeO.refl _)
   | (with_reducible exact LeO.none _)
   | (with_reducible refine LeO.ite ?_ ?_)
   | (with_reducible refine LeO.bind ?_ (fun _ => ?_))
   | exact ih0 _ _
   | exact ih1 _ _ _
   | exact ih2 _ _ _
   | exact ih3 _ _ _
   | exact ih4 _ _ _
   | exact LeO.none _
   | refine LeO.ite ?_ ?_
   | refine LeO.bind ?_ (fun _ => ?_)
  ·intro y0 y1 y2
   unfold headgateref21_Good.l2
   repeat' first
   | (with_reducible exact ih0 _ _)
   | (with_reducible exact ih1 _ _ _)
   | (with_reducible exact ih2 _ _ _)
   | (with_reducible exact ih3 _ _ _)
   | (with_reducible exact ih4 _ _ _)
   | (with_reducible exact LeO.refl _)
   | (with_reducible exact LeO.none _)
   | (with_reducible refine LeO.ite ?_ ?_)
   | (with_reducible refine LeO.bind ?_ (fun _ => ?_))
   | exact ih0 _ _
   | exact ih1 _ _ _
   | exact ih2 _ _ _
   | exact ih3 _ _ _
   | exact ih4 _ _ _
   | exact LeO.none _
   | refine LeO.ite ?_ ?_
   | refine LeO.bind ?_ (fun _ => ?_)
  ·intro y0 y1 y2
   unfold headgateref21_Good.l3
   repeat' first
   | (with_reducible exact ih0 _ _)
   | (with_reducible exact ih1 _ _ _)
   | (with_reducible exact ih2 _ _ _)
   | (with_reducible exact ih3 _ _ _)
   | (with_reducible exact ih4 _ _ _)
   | (with_reducible exact LeO.refl _)
   | (with_reducible exact LeO.none _)
   | (with_reducible refine LeO.ite ?_ ?_)
   | (with_reducible refine LeO.bind ?_ (fun _ => ?_))
   | exact ih0 _ _
   | exact ih1 _ _ _
   | exact ih2 _ _ _
   | exact ih3 _ _ _
   | exact ih4 _ _ _
   | exact LeO.none _
   | refine LeO.ite ?_ ?_
   | refine LeO.bind ?_ (fun _ => ?_)
theorem headgateref21_Good.mono : ∀ a0 k, LeO (headgateref21_Good.f k a0) (headgateref21_Good.f (k + 1) a0) := by
 intro a0 k
 obtain ⟨ih0, ih1, ih2, ih3, ih4⟩ := headgateref21_Good.mono_l k
 unfold headgateref21_Good.f
 repeat' first
   | (with_reducible exact ih0 _ _)
   | (with_reducible exact ih1 _ _ _)
   | (with_reducible exact ih2 _ _ _)
   | (with_reducible exact ih3 _ _ _)
   | (with_reducible exact ih4 _ _ _)
   | (with_reducible exact LeO.refl _)
   | (with_reducible exact LeO.none _)
   | (with_reducible refine LeO.ite ?_ ?_)
   | (with_reducible refine LeO.bind ?_ (fun _ => ?_))
   | exact ih0 _ _
   | exact ih1 _ _ _
   | exact ih2 _ _ _
   | exact ih3 _ _ _
   | exact ih4 _ _ _
   | exact LeO.none _
   | refine LeO.ite ?_ ?_
   | refine LeO.bind ?_ (fun _ => ?_)
set_option maxHeartbeats 8000000 in
set_option maxRecDepth 100000 in
theorem headgateref21_Good.calls (k : Nat) (A0 : Option Addr) (c0 : Nat) (l0 : List (S45)) (r : Bool) (w : World) (hr0 : Kd.C k45 w A0 l0.length l0) (hc0 : l0.length ≤ c0) (h : headgateref21_Good.f k l0 = some r) :
  Calls Tryd.prog 24 #[.slice A0 l0.length c0] w fun e w' => e = .returned (.bool r) ∧ Drawn0 w w' := by
 have HR0 := Aside0.mk hr0
 have HC0 := Aside0.mk hc0
 clear hr0 hc0
 have H : (if (l0.length : Int) > 16 then (some false) else (headgateref21_Good.l0 k l0 0)) = some r := h
 clear h
 by_cases c2 : (l0.length : Int) > 16
 ·rw [if_pos c2] at H
  have c2b0 : decide (16 < (l0.length : Int)) = true := decide_eq_true c2
  have c2b1 : decide (16 < l0.length) = true := decide_eq_true (by omega)
  clear c2
  obtain rfl := Option.some.inj H
  go_enter Tryd.func24, Tryd.ntmps24
  go_wp2
  repeat (go_quiet (fail); try go_wp2)
  go_ret
  exact ⟨by first | rfl | (simp; done) | (simp [*]; done), by repeat (first | exact Drawn0.refl _ | apply Drawn0.step)⟩
 rw [if_neg c2] at H
 have c2b0 : decide (16 < (l0.length : Int)) = false := decide_eq_false c2
 have c2b1 : decide (16 < l0.length) = false := decide_eq_false (by omega)
 clear c2
 have H' := Aside0.mk H
 clear H
 go_enter Tryd.func24, Tryd.ntmps24
 go_wp2
 repeat (go_quiet (fail); try go_wp2)
 go_loopg [3] k (fun kq v3 w' => ∃ (x3_1 : Int), v3 = .int .i64 x3_1 ∧ Aside0 (headgateref21_Good.l0 kq l0 x3_1 = some r) ∧ Aside0 (kq ≤ k) ∧ Drawn0 w w')
 case atStart => exact ⟨(0), (by first | rfl | (simp; done) | (simp [*]; done)), H', ⟨Nat.le_refl _⟩, by repeat (first | exact Drawn0.refl _ | apply Drawn0.step)⟩
 case round =>
  clear H'
  try clear c2
  try clear c2b0
  try clear c2b1
  try clear p2
  obtain ⟨x3_1, rfl, HA, HK1, ⟨m1, rfl⟩⟩ := hrel
  cases gk with
  | zero => exact absurd HA.out (by simp [headgateref21_Good.l0])
  | succ k1 =>
   have H := HA.out
   clear HA
   simp only [headgateref21_Good.l0] at H
   refine neg_first (p := (x3_1 < (l0.length : Int))) (fun c3 => ?_) (fun c3 => ?_)
   ·rw [if_neg c3] at H
    have c3b0 : decide (x3_1 < (l0.length : Int)) = false := decide_eq_false c3
    clear c3
    obtain rfl := Option.some.inj H
    go_wp2
    repeat (go_quiet (fail); try go_wp2)
    go_ret
    exact ⟨by first | rfl | (simp; done) | (simp [*]; done), by repeat (first | exact Drawn0.refl _ | apply Drawn0.step)⟩
   rw [if_pos c3] at H
   have c3b0 : decide (x3_1 < (l0.length : Int)) = true := decide_eq_true c3
   clear c3
   have HC4 := Aside0.mk H
   clear H
   go_upto_region 6 with (fail)
   repeat (go_quiet (fail); go_upto_region 6 with (fail))
   go_cut [40] (fun v40 wc => ∃ (kq : Nat) (x40_3 : Bool), v40 = .bool x40_3 ∧ Aside0 (headgateref21_Good.j1 kq l0 x3_1 x40_3 = some r) ∧ Aside0 (kq ≤ k1) ∧ Drawn0 w wc)
   case first =>
    have H := HC4.out
    clear HC4
    refine neg_first (p := (0 ≤ x3_1)) (fun c5 => ?_) (fun c5 => ?_)
    ·rw [if_neg c5] at H
     exact absurd H (by simp)
    rw [if_pos c5] at H
    have c5b0 : decide (0 ≤ x3_1) = true := decide_eq_true c5
    clear c5
    (first | rw [c5b0] | (simp only [i64_w, i32_w]; rw [c5b0]) | skip)
    by_cases c6 : (((rd_T45 l0 x3_1).f0).size : Int) < 1
    ·rw [if_pos c6] at H
     have c6b0 : decide ((((rd_T45 l0 x3_1).f0).size : Int) < 1) = true := decide_eq_true c6
     have c6b1 : decide (((rd_T45 l0 x3_1).f0).size < 1) = true := decide_eq_true (by omega)
     clear c6
     have H' := Aside0.mk H
     clear H
     have p156 : 0 ≤ (x3_1 : Int) := of_decide_eq_true (by first | (with_reducible assumption) | assumption)
     have q156 : x3_1 < (l0.length : Int) := of_decide_eq_true (by first | (with_reducible assumption) | assumption)
     obtain ⟨ad156, e156, hx156_0, hx156_1⟩ := at_T45 HR0.out x3_1 p156 q156
     cases e156
     replace p156 := eq_true p156
     replace q156 := eq_true q156
     go_wp2
     repeat (go_quiet (fail); try go_wp2)
     go_meet
     case rel => exact ⟨_, (true), (by first | rfl | (simp; done) | (simp [*]; done)), H', ⟨by have := HK1.out; first | omega | exact Nat.le_refl _⟩, by repeat (first | exact Drawn0.refl _ | apply Drawn0.step)⟩
    rw [if_neg c6] at H
    have c6b0 : decide ((((rd_T45 l0 x3_1).f0).size : Int) < 1) = false := decide_eq_false c6
    have c6b1 : decide (((rd_T45 l0 x3_1).f0).size < 1) = false := decide_eq_false (by omega)
    clear c6
    by_cases c7 : (((rd_T45 l0 x3_1).f0).size : Int) > 63
    ·rw [if_pos c7] at H
     have c7b0 : decide (63 < (((rd_T45 l0 x3_1).f0).size : Int)) = true := decide_eq_true c7
     have c7b1 : decide (63 < ((rd_T45 l0 x3_1).f0).size) = true := decide_eq_true (by omega)
     clear c7
     have H' := Aside0.mk H
     clear H
     have p156 : 0 ≤ (x3_1 : Int) := of_decide_eq_true (by first | (with_reducible assumption) | assumption)
     have q156 : x3_1 < (l0.length : Int) := of_decide_eq_true (by first | (with_reducible assumption) | assumption)
     obtain ⟨ad156, e156, hx156_0, hx156_1⟩ := at_T45 HR0.out x3_1 p156 q156
     cases e156
     replace p156 := eq_true p156
     replace q156 := eq_true q156
     have p157 : 0 ≤ (x3_1 : Int) := of_decide_eq_true (by first | (with_reducible assumption) | assumption)
     have q157 : x3_1 < (l0.length : Int) := of_decide_eq_true (by first | (with_reducible assumption) | assumption)
     obtain ⟨ad157, e157, hx157_0, hx157_1⟩ := at_T45 HR0.out x3_1 p157 q157
     obtain rfl : ad156 = ad157 := (by injection e157)
     replace p157 := eq_true p157
     replace q157 := eq_true q157
     go_wp2
     repeat (go_quiet (fail); try go_wp2)
     go_meet
     case rel => exact ⟨_, (true), (by first | rfl | (simp; done) | (simp [*]; done)), H', ⟨by have := HK1.out; first | omega | exact Nat.le_refl _⟩, by repeat (first | exact Drawn0.refl _ | apply Drawn0.step)⟩
    rw [if_neg c7] at H
    have c7b0 : decide (63 < (((rd_T45 l0 x3_1).f0).size : Int)) = false := decide_eq_false c7
    have c7b1 : decide (63 < ((rd_T45 l0 x3_1).f0).size) = false := decide_eq_false (by omega)
    clear c7
    have H' := Aside0.mk H
    clear H
    have p156 : 0 ≤ (x3_1 : Int) := of_decide_eq_true (by first | (with_reducible assumption) | assumption)
    have q156 : x3_1 < (l0.length : Int) := of_decide_eq_true (by first | (with_reducible assumption) | assumption)
    obtain ⟨ad156, e156, hx156_0, hx156_1⟩ := at_T45 HR0.out x3_1 p156 q156
    cases e156
    replace p156 := eq_true p156
    replace q156 := eq_true q156
    have p157 : 0 ≤ (x3_1 : Int) := of_decide_eq_true (by first | (with_reducible assumption) | assumption)
    have q157 : x3_1 < (l0.length : Int) := of_decide_eq_true (by first | (with_reducible assumption) | assumption)
    obtain ⟨ad157, e157, hx157_0, hx157_1⟩ := at_T45 HR0.out x3_1 p157 q157
    obtain rfl : ad156 = ad157 := (by injection e157)
    replace p157 := eq_true p157
    replace q157 := eq_true q157
    have p158 : 0 ≤ (x3_1 : Int) := of_decide_eq_true (by first | (with_reducible assumption) | assumption)
    have q158 : x3_1 < (l0.length : Int) := of_decide_eq_true (by first | (with_reducible assumption) | assumption)
    obtain ⟨ad158, e158, hx158_0, hx158_1⟩ := at_T45 HR0.out x3_1 p158 q158
    obtain rfl : ad156 = ad158 := (by injection e158)
    replace p158 := eq_true p158
    replace q158 := eq_true q158
    go_wp2
    repeat (go_quiet (fail); try go_wp2)
    go_meet
    case rel => exact ⟨_, (decide ((((rd_T45 l0 x3_1).f1).size : Int) > 255)), (by first | rfl | (simp; done) | (simp [*]; done)), H', ⟨by have := HK1.out; first | omega | exact Nat.le_refl _⟩, by repeat (first | exact Drawn0.refl _ | apply Drawn0.step)⟩
   case rest =>
    clear HC4
    try clear p1
    try clear q1
    try clear hx1
    try clear c2
    try clear c2b0
    try clear c2b1
    try clear p2
    try clear c3
    try clear c3b0
    try clear c5
    try clear c5b0
    try clear c6
    try clear c6b0
    try clear c6b1
    try clear c7
    try clear c7b0
    try clear c7b1
    try clear hx156_0
    try clear hx156_1
    try clear hx157_0
    try clear hx157_1
    try clear hx158_0
    try clear hx158_1
    try clear p156
    try clear p157
    try clear p158
    try clear p2
    try clear q156
    try clear q157
    try clear q158
    obtain ⟨kq, x40_3, rfl, HA, HJ3, ⟨mc3, rfl⟩⟩ := hcut
    cases kq with
    | zero => exact absurd HA.out (by simp [headgateref21_Good.j1])
    | succ kj3 =>
     have H := HA.out
     clear HA
     simp only [headgateref21_Good.j1] at H
     by_cases c8 : x40_3 = true
     ·subst c8
      have H1 := H
      rw [if_pos rfl] at H1
      clear H
      have H := H1
      clear H1
      obtain rfl := Option.some.inj H
      go_wp2
      repeat (go_quiet (fail); try go_wp2)
      go_ret
      exact ⟨by first | rfl | (simp; done) | (simp [*]; done), by repeat (first | exact Drawn0.refl _ | apply Drawn0.step)⟩
     replace c8 := Bool.eq_false_iff.mpr c8
     subst c8
     have H1 := H
     rw [if_neg (show ¬ (false = true) by decide)] at H1
     clear H
     have H := H1
     clear H1
     have H' := Aside0.mk H
     clear H
     go_wp2
     repeat (go_quiet (fail); try go_wp2)
     go_loopg [4] kj3 (fun kq v4 w' => ∃ (x4_3 : Int), v4 = .int .i64 x4_3 ∧ Aside0 (headgateref21_Good.l1 kq l0 x3_1 x4_3 = some r) ∧ Aside0 (kq ≤ kj3) ∧ Drawn0 w w')
     case atStart => exact ⟨(0), (by first | rfl | (simp; done) | (simp [*]; done)), H', ⟨Nat.le_refl _⟩, by repeat (first | exact Drawn0.refl _ | apply Drawn0.step)⟩
     case round =>
      clear H'
      try clear p1
      try clear q1
      try clear hx1
      try clear c2
      try clear c2b0
      try clear c2b1
      try clear p2
      try clear c3
      try clear c3b0
      try clear c5
      try clear c5b0
      try clear c6
      try clear c6b0
      try clear c6b1
      try clear c7
      try clear c7b0
      try clear c7b1
      try clear c8
      try clear hx156_0
      try clear hx156_1
      try clear hx157_0
      try clear hx157_1
      try clear hx158_0
      try clear hx158_1
      try clear p1
      try clear p156
      try clear p157
      try clear p158
      try clear p2
      try clear q1
      try clear q156
      try clear q157
      try clear q158
      obtain ⟨x4_3, rfl, HA, HK3, ⟨m3, rfl⟩⟩ := hrel
      cases gk with
      | zero => exact absurd HA.out (by simp [headgateref21_Good.l1])
      | succ k3 =>
       have H := HA.out
       clear HA
       simp only [headgateref21_Good.l1] at H
       refine neg_first (p := (0 ≤ x3_1)) (fun c9 => ?_) (fun c9 => ?_)
       ·rw [if_neg c9] at H
        exact absurd H (by simp)
       rw [if_pos c9] at H
       have c9b0 : decide (0 ≤ x3_1) = true := decide_eq_true c9
       clear c9
       refine neg_first (p := (x3_1 < (l0.length : Int))) (fun c10 => ?_) (fun c10 => ?_)
       ·rw [if_neg c10] at H
        exact absurd H (by simp)
       rw [if_pos c10] at H
       have c10b0 : decide (x3_1 < (l0.length : Int)) = true := decide_eq_true c10
       clear c10
       by_cases c11 : x4_3 < (((rd_T45 l0 x3_1).f0).size : Int)
       ·rw [if_pos c11] at H
        have c11b0 : decide (x4_3 < (((rd_T45 l0 x3_1).f0).size : Int)) = true := decide_eq_true c11
        clear c11
        refine neg_first (p := (0 ≤ x4_3)) (fun c12 => ?_) (fun c12 => ?_)
        ·rw [if_neg c12] at H
         exact absurd H (by simp)
        rw [if_pos c12] at H
        have c12b0 : decide (0 ≤ x4_3) = true := decide_eq_true c12
        clear c12
        replace H := Option.bind_eq_some_iff.mp H
        obtain ⟨t161, A140, H⟩ := H
        try dsimp only at H
        have A14 := Aside0.mk A140
        clear A140
        refine neg_first (p := (t161 = true)) (fun c15 => ?_) (fun c15 => ?_)
        ·replace c15 := Bool.eq_false_iff.mpr c15
         subst c15
         have H1 := H
         rw [if_neg (show ¬ (false = true) by decide)] at H1
         clear H
         have H := H1
         clear H1
         obtain rfl := Option.some.inj H
         have p159 : 0 ≤ (x3_1 : Int) := of_decide_eq_true (by first | (with_reducible assumption) | assumption)
         have q159 : x3_1 < (l0.length : Int) := of_decide_eq_true (by first | (with_reducible assumption) | assumption)
         obtain ⟨ad159, e159, hx159_0, hx159_1⟩ := at_T45 HR0.out x3_1 p159 q159
         cases e159
         replace p159 := eq_true p159
         replace q159 := eq_true q159
         have p160 : 0 ≤ (x3_1 : Int) := of_decide_eq_true (by first | (with_reducible assumption) | assumption)
         have q160 : x3_1 < (l0.length : Int) := of_decide_eq_true (by first | (with_reducible assumption) | assumption)
         obtain ⟨ad160, e160, hx160_0, hx160_1⟩ := at_T45 HR0.out x3_1 p160 q160
         obtain rfl : ad159 = ad160 := (by injection e160)
         replace p160 := eq_true p160
         replace q160 := eq_true q160
         have p13 : 0 ≤ (x4_3 : Int) := of_decide_eq_true (by first | (with_reducible assumption) | assumption)
         have q13 : x4_3 < (((rd_T45 l0 x3_1).f0).size : Int) := of_decide_eq_true (by first | (with_reducible assumption) | assumption)
         have hx13 := bt_at ((rd_T45 l0 x3_1).f0) x4_3
         replace p13 := eq_true p13
         replace q13 := eq_true q13
         go_wp2_with (first | (go_at_call 50; (with_reducible refine (headgateref21_letter.calls (bt ((rd_T45 l0 x3_1).f0) x4_3) false _ A14.out).mono ?_); rintro e w' ⟨rfl, ⟨nd, rfl⟩⟩; (try first | exact ⟨rfl, _, World.drewN_drewN _ _ _⟩ | exact ⟨rfl, _, Eq.trans (World.drewN_drewN _ _ _) (congrArg (World.drewN _) (Nat.add_assoc _ _ _))⟩)))
         repeat (go_quiet (first | (go_at_call 50; (with_reducible refine (headgateref21_letter.calls (bt ((rd_T45 l0 x3_1).f0) x4_3) false _ A14.out).mono ?_); rintro e w' ⟨rfl, ⟨nd, rfl⟩⟩; (try first | exact ⟨rfl, _, World.drewN_drewN _ _ _⟩ | exact ⟨rfl, _, Eq.trans (World.drewN_drewN _ _ _) (congrArg (World.drewN _) (Nat.add_assoc _ _ _))⟩))); try go_wp2_with (first | (go_at_call 50; (with_reducible refine (headgateref21_letter.calls (bt ((rd_T45 l0 x3_1).f0) x4_3) false _ A14.out).mono ?_); rintro e w' ⟨rfl, ⟨nd, rfl⟩⟩; (try first | exact ⟨rfl, _, World.drewN_drewN _ _ _⟩ | exact ⟨rfl, _, Eq.trans (World.drewN_drewN _ _ _) (congrArg (World.drewN _) (Nat.add_assoc _ _ _))⟩))))
         go_ret
         exact ⟨by first | rfl | (simp; done) | (simp [*]; done), by repeat (first | exact Drawn0.refl _ | apply Drawn0.step)⟩
        subst c15
        have H1 := H
        rw [if_pos rfl] at H1
        clear H
        have H := H1
        clear H1
        have H' := Aside0.mk H
        clear H
        have p159 : 0 ≤ (x3_1 : Int) := of_decide_eq_true (by first | (with_reducible assumption) | assumption)
        have q159 : x3_1 < (l0.length : Int) := of_decide_eq_true (by first | (with_reducible assumption) | assumption)
        obtain ⟨ad159, e159, hx159_0, hx159_1⟩ := at_T45 HR0.out x3_1 p159 q159
        cases e159
        replace p159 := eq_true p159
        replace q159 := eq_true q159
        have p160 : 0 ≤ (x3_1 : Int) := of_decide_eq_true (by first | (with_reducible assumption) | assumption)
        have q160 : x3_1 < (l0.length : Int) := of_decide_eq_true (by first | (with_reducible assumption) | assumption)
        obtain ⟨ad160, e160, hx160_0, hx160_1⟩ := at_T45 HR0.out x3_1 p160 q160
        obtain rfl : ad159 = ad160 := (by injection e160)
        replace p160 := eq_true p160
        replace q160 := eq_true q160
        have p13 : 0 ≤ (x4_3 : Int) := of_decide_eq_true (by first | (with_reducible assumption) | assumption)
        have q13 : x4_3 < (((rd_T45 l0 x3_1).f0).size : Int) := of_decide_eq_true (by first | (with_reducible assumption) | assumption)
        have hx13 := bt_at ((rd_T45 l0 x3_1).f0) x4_3
        replace p13 := eq_true p13
        replace q13 := eq_true q13
        go_wp2_with (first | (go_at_call 50; (with_reducible refine (headgateref21_letter.calls (bt ((rd_T45 l0 x3_1).f0) x4_3) true _ A14.out).mono ?_); rintro e w' ⟨rfl, ⟨nd, rfl⟩⟩; (try first | exact ⟨rfl, _, World.drewN_drewN _ _ _⟩ | exact ⟨rfl, _, Eq.trans (World.drewN_drewN _ _ _) (congrArg (World.drewN _) (Nat.add_assoc _ _ _))⟩)))
        repeat (go_quiet (first | (go_at_call 50; (with_reducible refine (headgateref21_letter.calls (bt ((rd_T45 l0 x3_1).f0) x4_3) true _ A14.out).mono ?_); rintro e w' ⟨rfl, ⟨nd, rfl⟩⟩; (try first | exact ⟨rfl, _, World.drewN_drewN _ _ _⟩ | exact ⟨rfl, _, Eq.trans (World.drewN_drewN _ _ _) (congrArg (World.drewN _) (Nat.add_assoc _ _ _))⟩))); try go_wp2_with (first | (go_at_call 50; (with_reducible refine (headgateref21_letter.calls (bt ((rd_T45 l0 x3_1).f0) x4_3) true _ A14.out).mono ?_); rintro e w' ⟨rfl, ⟨nd, rfl⟩⟩; (try first | exact ⟨rfl, _, World.drewN_drewN _ _ _⟩ | exact ⟨rfl, _, Eq.trans (World.drewN_drewN _ _ _) (congrArg (World.drewN _) (Nat.add_assoc _ _ _))⟩))))
        go_roundg k3
        case measure => have := HK1.out; have := HJ3.out; have := HK3.out; omega
        case rel => exact ⟨(wrap64 (x4_3 + 1)), (by first | rfl | (simp; done) | (simp [*]; done)), H', ⟨by have := HK1.out; have := HJ3.out; have := HK3.out; omega⟩, by repeat (first | exact Drawn0.refl _ | apply Drawn0.step)⟩
       rw [if_neg c11] at H
       have c11b0 : decide (x4_3 < (((rd_T45 l0 x3_1).f0).size : Int)) = false := decide_eq_false c11
       clear c11
       have H' := Aside0.mk H
       clear H
       have p159 : 0 ≤ (x3_1 : Int) := of_decide_eq_true (by first | (with_reducible assumption) | assumption)
       have q159 : x3_1 < (l0.length : Int) := of_decide_eq_true (by first | (with_reducible assumption) | assumption)
       obtain ⟨ad159, e159, hx159_0, hx159_1⟩ := at_T45 HR0.out x3_1 p159 q159
       cases e159
       replace p159 := eq_true p159
       replace q159 := eq_true q159
       go_wp2
       repeat (go_quiet (fail); try go_wp2)
       go_loopg [5] k3 (fun kq v5 w' => ∃ (x5_4 : Int), v5 = .int .i64 x5_4 ∧ Aside0 (headgateref21_Good.l2 kq l0 x3_1 x5_4 = some r) ∧ Aside0 (kq ≤ k3) ∧ Drawn0 w w')
       case atStart => exact ⟨(0), (by first | rfl | (simp; done) | (simp [*]; done)), H', ⟨Nat.le_refl _⟩, by repeat (first | exact Drawn0.refl _ | apply Drawn0.step)⟩
       case round =>
        clear H'
        try clear c1
        try clear p1
        try clear q1
        try clear hx1
        try clear c2
        try clear c2b0
        try clear c2b1
        try clear p2
        try clear c3
        try clear c3b0
        try clear c5
        try clear c5b0
        try clear c6
        try clear c6b0
        try clear c6b1
        try clear p6
        try clear c7
        try clear c7b0
        try clear c7b1
        try clear c8
        try clear c9
        try clear c9b0
        try clear c10
        try clear c10b0
        try clear c11
        try clear c11b0
        try clear c12
        try clear c12b0
        try clear p13
        try clear q13
        try clear hx13
        try clear c15
        try clear p15
        try clear q15
        try clear hx15
        try clear hx156_0
        try clear hx156_1
        try clear hx157_0
        try clear hx157_1
        try clear hx158_0
        try clear hx158_1
        try clear hx159_0
        try clear hx159_1
        try clear hx160_0
        try clear hx160_1
        try clear p1
        try clear p13
        try clear p156
        try clear p157
        try clear p158
        try clear p159
        try clear p160
        try clear p2
        try clear q1
        try clear q13
        try clear q156
        try clear q157
        try clear q158
        try clear q159
        try clear q160
        obtain ⟨x5_4, rfl, HA, HK4, ⟨m4, rfl⟩⟩ := hrel
        cases gk with
        | zero => exact absurd HA.out (by simp [headgateref21_Good.l2])
        | succ k4 =>
         have H := HA.out
         clear HA
         simp only [headgateref21_Good.l2] at H
         refine neg_first (p := (0 ≤ x3_1)) (fun c16 => ?_) (fun c16 => ?_)
         ·rw [if_neg c16] at H
          exact absurd H (by simp)
         rw [if_pos c16] at H
         have c16b0 : decide (0 ≤ x3_1) = true := decide_eq_true c16
         clear c16
         refine neg_first (p := (x3_1 < (l0.length : Int))) (fun c17 => ?_) (fun c17 => ?_)
         ·rw [if_neg c17] at H
          exact absurd H (by simp)
         rw [if_pos c17] at H
         have c17b0 : decide (x3_1 < (l0.length : Int)) = true := decide_eq_true c17
         clear c17
         by_cases c18 : x5_4 < (((rd_T45 l0 x3_1).f1).size : Int)
         ·rw [if_pos c18] at H
          have c18b0 : decide (x5_4 < (((rd_T45 l0 x3_1).f1).size : Int)) = true := decide_eq_true c18
          clear c18
          refine neg_first (p := (0 ≤ x5_4)) (fun c19 => ?_) (fun c19 => ?_)
          ·rw [if_neg c19] at H
           exact absurd H (by simp)
          rw [if_pos c19] at H
          have c19b0 : decide (0 ≤ x5_4) = true := decide_eq_true c19
          clear c19
          by_cases c21 : (bt ((rd_T45 l0 x3_1).f1) x5_4) = 0
          ·rw [if_pos c21] at H
           have c21b0 : ((bt ((rd_T45 l0 x3_1).f1) x5_4) == 0) = true := beq_iff_eq.mpr c21
           have c21b1 : ((bt ((rd_T45 l0 x3_1).f1) x5_4) != 0) = false := bne_eq_false_iff_eq.mpr c21
           clear c21
           obtain rfl := Option.some.inj H
           have p162 : 0 ≤ (x3_1 : Int) := of_decide_eq_true (by first | (with_reducible assumption) | assumption)
           have q162 : x3_1 < (l0.length : Int) := of_decide_eq_true (by first | (with_reducible assumption) | assumption)
           obtain ⟨ad162, e162, hx162_0, hx162_1⟩ := at_T45 HR0.out x3_1 p162 q162
           obtain rfl : ad159 = ad162 := (by injection e162)
           replace p162 := eq_true p162
           replace q162 := eq_true q162
           have p163 : 0 ≤ (x3_1 : Int) := of_decide_eq_true (by first | (with_reducible assumption) | assumption)
           have q163 : x3_1 < (l0.length : Int) := of_decide_eq_true (by first | (with_reducible assumption) | assumption)
           obtain ⟨ad163, e163, hx163_0, hx163_1⟩ := at_T45 HR0.out x3_1 p163 q163
           obtain rfl : ad159 = ad163 := (by injection e163)
           replace p163 := eq_true p163
           replace q163 := eq_true q163
           have p20 : 0 ≤ (x5_4 : Int) := of_decide_eq_true (by first | (with_reducible assumption) | assumption)
           have q20 : x5_4 < (((rd_T45 l0 x3_1).f1).size : Int) := of_decide_eq_true (by first | (with_reducible assumption) | assumption)
           have hx20 := bt_at ((rd_T45 l0 x3_1).f1) x5_4
           replace p20 := eq_true p20
           replace q20 := eq_true q20
           go_wp2
           repeat (go_quiet (fail); try go_wp2)
           go_ret
           exact ⟨by first | rfl | (simp; done) | (simp [*]; done), by repeat (first | exact Drawn0.refl _ | apply Drawn0.step)⟩
          rw [if_neg c21] at H
          have c21b0 : ((bt ((rd_T45 l0 x3_1).f1) x5_4) == 0) = false := beq_eq_false_iff_ne.mpr c21
          have c21b1 : ((bt ((rd_T45 l0 x3_1).f1) x5_4) != 0) = true := bne_iff_ne.mpr c21
          have H' := Aside0.mk H
          clear H
          have p162 : 0 ≤ (x3_1 : Int) := of_decide_eq_true (by first | (with_reducible assumption) | assumption)
          have q162 : x3_1 < (l0.length : Int) := of_decide_eq_true (by first | (with_reducible assumption) | assumption)
          obtain ⟨ad162, e162, hx162_0, hx162_1⟩ := at_T45 HR0.out x3_1 p162 q162
          obtain rfl : ad159 = ad162 := (by injection e162)
          replace p162 := eq_true p162
          replace q162 := eq_true q162
          have p163 : 0 ≤ (x3_1 : Int) := of_decide_eq_true (by first | (with_reducible assumption) | assumption)
          have q163 : x3_1 < (l0.length : Int) := of_decide_eq_true (by first | (with_reducible assumption) | assumption)
          obtain ⟨ad163, e163, hx163_0, hx163_1⟩ := at_T45 HR0.out x3_1 p163 q163
          obtain rfl : ad159 = ad163 := (by injection e163)
          replace p163 := eq_true p163
          replace q163 := eq_true q163
          have p20 : 0 ≤ (x5_4 : Int) := of_decide_eq_true (by first | (with_reducible assumption) | assumption)
          have q20 : x5_4 < (((rd_T45 l0 x3_1).f1).size : Int) := of_decide_eq_true (by first | (with_reducible assumption) | assumption)
          have hx20 := bt_at ((rd_T45 l0 x3_1).f1) x5_4
          replace p20 := eq_true p20
          replace q20 := eq_true q20
          go_wp2
          repeat (go_quiet (fail); try go_wp2)
          go_roundg k4
          case measure => have := HK1.out; have := HJ3.out; have := HK3.out; have := HK4.out; omega
          case rel => exact ⟨(wrap64 (x5_4 + 1)), (by first | rfl | (simp; done) | (simp [*]; done)), H', ⟨by have := HK1.out; have := HJ3.out; have := HK3.out; have := HK4.out; omega⟩, by repeat (first | exact Drawn0.refl _ | apply Drawn0.step)⟩
         rw [if_neg c18] at H
         have c18b0 : decide (x5_4 < (((rd_T45 l0 x3_1).f1).size : Int)) = false := decide_eq_false c18
         clear c18
         have H' := Aside0.mk H
         clear H
         have p162 : 0 ≤ (x3_1 : Int) := of_decide_eq_true (by first | (with_reducible assumption) | assumption)
         have q162 : x3_1 < (l0.length : Int) := of_decide_eq_true (by first | (with_reducible assumption) | assumption)
         obtain ⟨ad162, e162, hx162_0, hx162_1⟩ := at_T45 HR0.out x3_1 p162 q162
         obtain rfl : ad159 = ad162 := (by injection e162)
         replace p162 := eq_true p162
         replace q162 := eq_true q162
         go_wp2
         repeat (go_quiet (fail); try go_wp2)
         go_loopg [6] k4 (fun kq v6 w' => ∃ (x6_5 : Int), v6 = .int .i64 x6_5 ∧ Aside0 (headgateref21_Good.l3 kq l0 x3_1 x6_5 = some r) ∧ Aside0 (kq ≤ k4) ∧ Drawn0 w w')
         case atStart => exact ⟨(0), (by first | rfl | (simp; done) | (simp [*]; done)), H', ⟨Nat.le_refl _⟩, by repeat (first | exact Drawn0.refl _ | apply Drawn0.step)⟩
         case round =>
          clear H'
          try clear c1
          try clear p1
          try clear q1
          try clear hx1
          try clear c2
          try clear c2b0
          try clear c2b1
          try clear p2
          try clear q2
          try clear hx2
          try clear c3
          try clear c3b0
          try clear c5
          try clear c5b0
          try clear c6
          try clear c6b0
          try clear c6b1
          try clear p6
          try clear c7
          try clear c7b0
          try clear c7b1
          try clear c8
          try clear c9
          try clear c9b0
          try clear c10
          try clear c10b0
          try clear c11
          try clear c11b0
          try clear c12
          try clear c12b0
          try clear p13
          try clear q13
          try clear hx13
          try clear c15
          try clear p15
          try clear q15
          try clear hx15
          try clear c16
          try clear c16b0
          try clear p16
          try clear q16
          try clear hx16
          try clear c17
          try clear c17b0
          try clear c18
          try clear c18b0
          try clear c19
          try clear c19b0
          try clear p20
          try clear q20
          try clear hx20
          try clear c21
          try clear c21b0
          try clear c21b1
          try clear hx156_0
          try clear hx156_1
          try clear hx157_0
          try clear hx157_1
          try clear hx158_0
          try clear hx158_1
          try clear hx159_0
          try clear hx159_1
          try clear hx160_0
          try clear hx160_1
          try clear hx162_0
          try clear hx162_1
          try clear hx163_0
          try clear hx163_1
          try clear p1
          try clear p13
          try clear p15
          try clear p156
          try clear p157
          try clear p158
          try clear p159
          try clear p160
          try clear p162
          try clear p163
          try clear p2
          try clear p20
          try clear p6
          try clear q1
          try clear q13
          try clear q15
          try clear q156
          try clear q157
          try clear q158
          try clear q159
          try clear q160
          try clear q162
          try clear q163
          try clear q20
          obtain ⟨x6_5, rfl, HA, HK5, ⟨m5, rfl⟩⟩ := hrel
          cases gk with
          | zero => exact absurd HA.out (by simp [headgateref21_Good.l3])
          | succ k5 =>
           have H := HA.out
           clear HA
           simp only [headgateref21_Good.l3] at H
           refine neg_first (p := (x6_5 < x3_1)) (fun c22 => ?_) (fun c22 => ?_)
           ·rw [if_neg c22] at H
            have c22b0 : decide (x6_5 < x3_1) = false := decide_eq_false c22
            clear c22
            have H' := Aside0.mk H
            clear H
            go_wp2
            repeat (go_quiet (fail); try go_wp2)
            go_roundg k5
            case measure => have := HK1.out; have := HJ3.out; have := HK3.out; have := HK4.out; have := HK5.out; omega
            case rel => exact ⟨(wrap64 (x3_1 + 1)), (by first | rfl | (simp; done) | (simp [*]; done)), H', ⟨by have := HK1.out; have := HJ3.out; have := HK3.out; have := HK4.out; have := HK5.out; omega⟩, by repeat (first | exact Drawn0.refl _ | apply Drawn0.step)⟩
           rw [if_pos c22] at H
           have c22b0 : decide (x6_5 < x3_1) = true := decide_eq_true c22
           clear c22
           refine neg_first (p := (0 ≤ x6_5)) (fun c23 => ?_) (fun c23 => ?_)
           ·rw [if_neg c23] at H
            exact absurd H (by simp)
           rw [if_pos c23] at H
           have c23b0 : decide (0 ≤ x6_5) = true := decide_eq_true c23
           clear c23
           refine neg_first (p := (x6_5 < (l0.length : Int))) (fun c24 => ?_) (fun c24 => ?_)
           ·rw [if_neg c24] at H
            exact absurd H (by simp)
           rw [if_pos c24] at H
           have c24b0 : decide (x6_5 < (l0.length : Int)) = true := decide_eq_true c24
           clear c24
           refine neg_first (p := (0 ≤ x3_1)) (fun c25 => ?_) (fun c25 => ?_)
           ·rw [if_neg c25] at H
            exact absurd H (by simp)
           rw [if_pos c25] at H
           have c25b0 : decide (0 ≤ x3_1) = true := decide_eq_true c25
           clear c25
           refine neg_first (p := (x3_1 < (l0.length : Int))) (fun c26 => ?_) (fun c26 => ?_)
           ·rw [if_neg c26] at H
            exact absurd H (by simp)
           rw [if_pos c26] at H
           have c26b0 : decide (x3_1 < (l0.length : Int)) = true := decide_eq_true c26
           clear c26
           by_cases c27 : ((rd_T45 l0 x6_5).f0).toList = ((rd_T45 l0 x3_1).f0).toList
           ·rw [if_pos c27] at H
            have c27b0 : (((rd_T45 l0 x6_5).f0).toList == ((rd_T45 l0 x3_1).f0).toList) = true := beq_iff_eq.mpr c27
            have c27b1 : (((rd_T45 l0 x6_5).f0).toList != ((rd_T45 l0 x3_1).f0).toList) = false := bne_eq_false_iff_eq.mpr c27
            clear c27
            obtain rfl := Option.some.inj H
            have p164 : 0 ≤ (x6_5 : Int) := of_decide_eq_true (by first | (with_reducible assumption) | assumption)
            have q164 : x6_5 < (l0.length : Int) := of_decide_eq_true (by first | (with_reducible assumption) | assumption)
            obtain ⟨ad164, e164, hx164_0, hx164_1⟩ := at_T45 HR0.out x6_5 p164 q164
            obtain rfl : ad159 = ad164 := (by injection e164)
            replace p164 := eq_true p164
            replace q164 := eq_true q164
            have p165 : 0 ≤ (x3_1 : Int) := of_decide_eq_true (by first | (with_reducible assumption) | assumption)
            have q165 : x3_1 < (l0.length : Int) := of_decide_eq_true (by first | (with_reducible assumption) | assumption)
            obtain ⟨ad165, e165, hx165_0, hx165_1⟩ := at_T45 HR0.out x3_1 p165 q165
            obtain rfl : ad159 = ad165 := (by injection e165)
            replace p165 := eq_true p165
            replace q165 := eq_true q165
            go_wp2
            repeat (go_quiet (fail); try go_wp2)
            go_ret
            exact ⟨by first | rfl | (simp; done) | (simp [*]; done), by repeat (first | exact Drawn0.refl _ | apply Drawn0.step)⟩
           rw [if_neg c27] at H
           have c27b0 : (((rd_T45 l0 x6_5).f0).toList == ((rd_T45 l0 x3_1).f0).toList) = false := beq_eq_false_iff_ne.mpr c27
           have c27b1 : (((rd_T45 l0 x6_5).f0).toList != ((rd_T45 l0 x3_1).f0).toList) = true := bne_iff_ne.mpr c27
           have H' := Aside0.mk H
           clear H
           have p164 : 0 ≤ (x6_5 : Int) := of_decide_eq_true (by first | (with_reducible assumption) | assumption)
           have q164 : x6_5 < (l0.length : Int) := of_decide_eq_true (by first | (with_reducible assumption) | assumption)
           obtain ⟨ad164, e164, hx164_0, hx164_1⟩ := at_T45 HR0.out x6_5 p164 q164
           obtain rfl : ad159 = ad164 := (by injection e164)
           replace p164 := eq_true p164
           replace q164 := eq_true q164
           have p165 : 0 ≤ (x3_1 : Int) := of_decide_eq_true (by first | (with_reducible assumption) | assumption)
           have q165 : x3_1 < (l0.length : Int) := of_decide_eq_true (by first | (with_reducible assumption) | assumption)
           obtain ⟨ad165, e165, hx165_0, hx165_1⟩ := at_T45 HR0.out x3_1 p165 q165
           obtain rfl : ad159 = ad165 := (by injection e165)
           replace p165 := eq_true p165
           replace q165 := eq_true q165
           go_wp2
           repeat (go_quiet (fail); try go_wp2)
           go_roundg k5
           case measure => have := HK1.out; have := HJ3.out; have := HK3.out; have := HK4.out; have := HK5.out; omega
           case rel => exact ⟨(wrap64 (x6_5 + 1)), (by first | rfl | (simp; done) | (simp [*]; done)), H', ⟨by have := HK1.out; have := HJ3.out; have := HK3.out; have := HK4.out; have := HK5.out; omega⟩, by repeat (first | exact Drawn0.refl _ | apply Drawn0.step)⟩
end Go.Proofs.YtclcnkmefldpiaaDoor.P
