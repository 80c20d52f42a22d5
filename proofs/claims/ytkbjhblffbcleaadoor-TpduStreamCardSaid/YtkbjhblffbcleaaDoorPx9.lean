-- written by this session's patched copy of the printer (wip/tools/patch_print.py); Lean checks it
import Derived.Test.YtkbjhblffbcleaaDoorPx0
import Derived.Test.YtkbjhblffbcleaaDoorPx5
import Derived.Test.YtkbjhblffbcleaaDoorPx7
import Derived.Test.YtkbjhblffbcleaaDoorPx8
namespace Go.Proofs.YtkbjhblffbcleaaDoor.P
open Go.RowKit Go.Proofs.YtkbjhblffbcleaaDoorW.PrintWords Go.Proofs.YtkbjhblffbcleaaDoorW.PrintLast Go.Proofs.YtkbjhblffbcleaaDoorW.PrintMore
attribute [local go_sem] max2_int min2_int max_two min_two max_three min_three max_four min_four   -- for this text's walks alone
set_option linter.unusedVariables false
set_option linter.unusedSimpArgs false
set_option linter.unnecessarySimpa false

/-! ### headgateref29_Get: function 10 -/
mutual
def headgateref29_Get.j0 : Nat → ByteArray → Bool → Bool → Int → Int → Bool → Option (Int × Int × ByteArray × ByteArray × Int × Int)
 | 0, _, _, _, _, _, _ => none
 | k + 1, x0, x1, x2, x8, x9, x34 => if x34 = true then (some (0, 0, (⟨#[]⟩ : ByteArray), (⟨#[]⟩ : ByteArray), 0, 200)) else (if 1 < (x0.size : Int) then (headgateref29_Get.l0 k x0 x1 x2 x8 x9 (wrap64 ((wrap64 (Int.tdiv (wrap64 (bt x0 1)) 4)) * 4)) (-1) 0) else (none))
def headgateref29_Get.l0 : Nat → ByteArray → Bool → Bool → Int → Int → Int → Int → Int → Option (Int × Int × ByteArray × ByteArray × Int × Int)
 | 0, _, _, _, _, _, _, _, _ => none
 | k + 1, x0, x1, x2, x8, x9, x11, x12, x13 => (headgateref29_most.f k x8).bind fun t196 => (if x13 ≤ t196 then (headgateref29_Get.j2 k x0 x1 x2 x8 x9 x11 x12 x13 (decide (x12 < 0))) else (headgateref29_Get.j2 k x0 x1 x2 x8 x9 x11 x12 x13 false))
def headgateref29_Get.j2 : Nat → ByteArray → Bool → Bool → Int → Int → Int → Int → Int → Bool → Option (Int × Int × ByteArray × ByteArray × Int × Int)
 | 0, _, _, _, _, _, _, _, _, _ => none
 | k + 1, x0, x1, x2, x8, x9, x11, x12, x13, x48 => if x48 = true then ((headgateref29_planned.f k x8 x13 x1 x2).bind fun bt197 => (if bt197.2.2.2 = (wrap64 (x9)) then (headgateref29_Get.l0 k x0 x1 x2 x8 x9 x11 x13 (wrap64 (x13 + 1))) else (headgateref29_Get.l0 k x0 x1 x2 x8 x9 x11 x12 (wrap64 (x13 + 1))))) else (if x12 < 0 then (headgateref29_Get.j3 k x0 x1 x2 x8 x11 x12 true) else (if x11 > 15 then (headgateref29_Get.j3 k x0 x1 x2 x8 x11 x12 true) else ((headgateref29_common.f k x8 x11 x12 x1 x2).bind fun t201 => (if 0 ≤ 8 then (if 8 ≤ (x0.size : Int) then (headgateref29_Get.j3 k x0 x1 x2 x8 x11 x12 (t201.toList != (x0.extract 0 8).toList)) else (none)) else (none)))))
def headgateref29_Get.j3 : Nat → ByteArray → Bool → Bool → Int → Int → Int → Bool → Option (Int × Int × ByteArray × ByteArray × Int × Int)
 | 0, _, _, _, _, _, _, _ => none
 | k + 1, x0, x1, x2, x8, x11, x12, x77 => if x77 = true then (some (0, 0, (⟨#[]⟩ : ByteArray), (⟨#[]⟩ : ByteArray), 0, 200)) else ((headgateref29_planned.f k x8 x12 x1 x2).bind fun bt202 => (if x1 = true then (if x8 > 3 then (if (x0.size : Int) ≥ bt202.2.1 then (if 0 ≤ bt202.1 then (if bt202.1 ≤ bt202.2.1 then (if bt202.2.1 ≤ (x0.size : Int) then (if bt202.1 ≤ (x0.size : Int) then ((headgateref02_Digest.f k (x0.extract 0 (bt202.1 : Int).toNat)).bind fun t207 => (headgateref29_Get.j4 k x0 x8 x11 ((x0.extract (bt202.1 : Int).toNat (bt202.2.1 : Int).toNat).toList != t207.toList) bt202.1 bt202.2.1 bt202.2.2.1 bt202.2.2.2)) else (none)) else (none)) else (none)) else (none)) else (headgateref29_Get.j4 k x0 x8 x11 false bt202.1 bt202.2.1 bt202.2.2.1 bt202.2.2.2)) else (headgateref29_Get.j4 k x0 x8 x11 false bt202.1 bt202.2.1 bt202.2.2.1 bt202.2.2.2)) else (headgateref29_Get.j4 k x0 x8 x11 false bt202.1 bt202.2.1 bt202.2.2.1 bt202.2.2.2)))
def headgateref29_Get.j4 : Nat → ByteArray → Int → Int → Bool → Int → Int → Int → Int → Option (Int × Int × ByteArray × ByteArray × Int × Int)
 | 0, _, _, _, _, _, _, _, _ => none
 | k + 1, x0, x8, x11, x109, x207000, x207001, x207002, x207003 => if x109 = true then (some (0, 0, (⟨#[]⟩ : ByteArray), (⟨#[]⟩ : ByteArray), 0, 201)) else (if (x0.size : Int) < x207003 then (some (0, 0, (⟨#[]⟩ : ByteArray), (⟨#[]⟩ : ByteArray), 0, 0)) else (if 8 ≤ x207000 then (if x207000 ≤ (x0.size : Int) then (if 0 ≤ x207001 then (if x207001 ≤ x207002 then (if x207002 ≤ (x0.size : Int) then (if x207003 > x207002 then (if 0 ≤ x207002 then (if x207002 ≤ x207003 then (if x207003 ≤ (x0.size : Int) then ((headgateref02_Digest.f k (x0.extract (x207001 : Int).toNat (x207002 : Int).toNat)).bind fun t209 => (if (x0.extract (x207002 : Int).toNat (x207003 : Int).toNat).toList = t209.toList then (some (x8, x11, x0.extract 8 (x207000 : Int).toNat, x0.extract (x207001 : Int).toNat (x207002 : Int).toNat, x207003, 0)) else (some (x8, x11, x0.extract 8 (x207000 : Int).toNat, x0.extract (x207001 : Int).toNat (x207002 : Int).toNat, x207003, 51)))) else (none)) else (none)) else (none)) else (some (x8, x11, x0.extract 8 (x207000 : Int).toNat, x0.extract (x207001 : Int).toNat (x207002 : Int).toNat, x207003, 0))) else (none)) else (none)) else (none)) else (none)) else (none)))
end
def headgateref29_Get.f (k : Nat) (a0 : ByteArray) (a1 : Bool) (a2 : Bool) : Option (Int × Int × ByteArray × ByteArray × Int × Int) := if (a0.size : Int) < 8 then (some (0, 0, (⟨#[]⟩ : ByteArray), (⟨#[]⟩ : ByteArray), 0, 0)) else (if 0 < (a0.size : Int) then ((headgateref01_Little.f k a0 4 4).bind fun bt193 => ((headgateref29_Size.f k (wrap64 (bt a0 0))).bind fun t195 => (if t195 = 0 then (headgateref29_Get.j0 k a0 a1 a2 (wrap64 (bt a0 0)) bt193.1 true) else (headgateref29_Get.j0 k a0 a1 a2 (wrap64 (bt a0 0)) bt193.1 (decide (bt193.1 > 65536)))))) else (none))
theorem headgateref29_Get.mono_l : ∀ k, (∀ y0 y1 y2 y3 y4 y5, LeO (headgateref29_Get.j0 k y0 y1 y2 y3 y4 y5) (headgateref29_Get.j0 (k + 1) y0 y1 y2 y3 y4 y5)) ∧ (∀ y0 y1 y2 y3 y4 y5 y6 y7, LeO (headgateref29_Get.l0 k y0 y1 y2 y3 y4 y5 y6 y7) (headgateref29_Get.l0 (k + 1) y0 y1 y2 y3 y4 y5 y6 y7)) ∧ (∀ y0 y1 y2 y3 y4 y5 y6 y7 y8, LeO (headgateref29_Get.j2 k y0 y1 y2 y3 y4 y5 y6 y7 y8) (headgateref29_Get.j2 (k + 1) y0 y1 y2 y3 y4 y5 y6 y7 y8)) ∧ (∀ y0 y1 y2 y3 y4 y5 y6, LeO (headgateref29_Get.j3 k y0 y1 y2 y3 y4 y5 y6) (headgateref29_Get.j3 (k + 1) y0 y1 y2 y3 y4 y5 y6)) ∧ (∀ y0 y1 y2 y3 y4 y5 y6 y7, LeO (headgateref29_Get.j4 k y0 y1 y2 y3 y4 y5 y6 y7) (headgateref29_Get.j4 (k + 1) y0 y1 y2 y3 y4 y5 y6 y7))
 | 0 => ⟨fun _ _ _ _ _ _ r h => by simp [headgateref29_Get.j0] at h, fun _ _ _ _ _ _ _ _ r h => by simp [headgateref29_Get.l0] at h, fun _ _ _ _ _ _ _ _ _ r h => by simp [headgateref29_Get.j2] at h, fun _ _ _ _ _ _ _ r h => by simp [headgateref29_Get.j3] at h, fun _ _ _ _ _ _ _ _ r h => by simp [headgateref29_Get.j4] at h⟩
 | k + 1 => by
  obtain ⟨ih0, ih1, ih2, ih3, ih4⟩ := headgateref29_Get.mono_l k
  refine ⟨?_, ?_, ?_, ?_, ?_⟩
  ·intro y0 y1 y2 y3 y4 y5
   unfold headgateref29_Get.j0
   repeat' first
   | (with_reducible exact ih0 _ _ _ _ _ _)
   | (with_reducible exact ih1 _ _ _ _ _ _ _ _)
   | (with_reducible exact ih2 _ _ _ _ _ _ _ _ _)
   | (with_reducible exact ih3 _ _ _ _ _ _ _)
   | (with_reducible exact ih4 _ _ _ _ _ _ _ _)
   | (with_reducible exact headgateref01_Little.mono _ _ _ _)
   | (with_reducible exact headgateref02_Digest.mono _ _)
   | (with_reducible exact headgateref29_Size.mono _ _)
   | (with_reducible exact headgateref29_common.mono _ _ _ _ _ _)
   | (with_reducible exact headgateref29_most.mono _ _)
   | (with_reducible exact headgateref29_planned.mono _ _ _ _ _)
   | (with_reducible exact LeO.refl _)
   | (with_reducible exact LeO.none _)
   | (with_reducible refine LeO.ite ?_ ?_)
   | (with_reducible refine LeO.bind ?_ (fun _ => ?_))
   | exact ih0 _ _ _ _ _ _
   | exact ih1 _ _ _ _ _ _ _ _
   | exact ih2 _ _ _ _ _ _ _ _ _
   | exact ih3 _ _ _ _ _ _ _
   | exact ih4 _ _ _ _ _ _ _ _
   | exact headgateref01_Little.mono _ _ _ _
   | exact headgateref02_Digest.mono _ _
   | exact headgateref29_Size.mono _ _
   | exact headgateref29_common.mono _ _ _ _ _ _
   | exact headgateref29_most.mono _ _
   | exact headgateref29_planned.mono _ _ _ _ _
   | exact LeO.none _
   | refine LeO.ite ?_ ?_
   | refine LeO.bind ?_ (fun _ => ?_)
  ·intro y0 y1 y2 y3 y4 y5 y6 y7
   unfold headgateref29_Get.l0
   repeat' first
   | (with_reducible exact ih0 _ _ _ _ _ _)
   | (with_reducible exact ih1 _ _ _ _ _ _ _ _)
   | (with_reducible exact ih2 _ _ _ _ _ _ _ _ _)
   | (with_reducible exact ih3 _ _ _ _ _ _ _)
   | (with_reducible exact ih4 _ _ _ _ _ _ _ _)
   | (with_reducible exact headgateref01_Little.mono _ _ _ _)
   | (with_reducible exact headgateref02_Digest.mono _ _)
   | (with_reducible exact headgateref29_Size.mono _ _)
   | (with_reducible exact headgateref29_common.mono _ _ _ _ _ _)
   | (with_reducible exact headgateref29_most.mono _ _)
   | (with_reducible exact headgateref29_planned.mono _ _ _ _ _)
   | (with_reducible exact LeO.refl _)
   | (with_reducible exact LeO.none _)
   | (with_reducible refine LeO.ite ?_ ?_)
   | (with_reducible refine LeO.bind ?_ (fun _ => ?_))
   | exact ih0 _ _ _ _ _ _
   | exact ih1 _ _ _ _ _ _ _ _
   | exact ih2 _ _ _ _ _ _ _ _ _
   | exact ih3 _ _ _ _ _ _ _
   | exact ih4 _ _ _ _ _ _ _ _
   | exact headgateref01_Little.mono _ _ _ _
   | exact headgateref02_Digest.mono _ _
   | exact headgateref29_Size.mono _ _
   | exact headgateref29_common.mono _ _ _ _ _ _
   | exact headgateref29_most.mono _ _
   | exact headgateref29_planned.mono _ _ _ _ _
   | exact LeO.none _
   | refine LeO.ite ?_ ?_
   | refine LeO.bind ?_ (fun _ => ?_)
  ·intro y0 y1 y2 y3 y4 y5 y6 y7 y8
   unfold headgateref29_Get.j2
   repeat' first
   | (with_reducible exact ih0 _ _ _ _ _ _)
   | (with_reducible exact ih1 _ _ _ _ _ _ _ _)
   | (with_reducible exact ih2 _ _ _ _ _ _ _ _ _)
   | (with_reducible exact ih3 _ _ _ _ _ _ _)
   | (with_reducible exact ih4 _ _ _ _ _ _ _ _)
   | (with_reducible exact headgateref01_Little.mono _ _ _ _)
   | (with_reducible exact headgateref02_Digest.mono _ _)
   | (with_reducible exact headgateref29_Size.mono _ _)
   | (with_reducible exact headgateref29_common.mono _ _ _ _ _ _)
   | (with_reducible exact headgateref29_most.mono _ _)
   | (with_reducible exact headgateref29_planned.mono _ _ _ _ _)
   | (with_reducible exact LeO.refl _)
   | (with_reducible exact LeO.none _)
   | (with_reducible refine LeO.ite ?_ ?_)
   | (with_reducible refine LeO.bind ?_ (fun _ => ?_))
   | exact ih0 _ _ _ _ _ _
   | exact ih1 _ _ _ _ _ _ _ _
   | exact ih2 _ _ _ _ _ _ _ _ _
   | exact ih3 _ _ _ _ _ _ _
   | exact ih4 _ _ _ _ _ _ _ _
   | exact headgateref01_Little.mono _ _ _ _
   | exact headgateref02_Digest.mono _ _
   | exact headgateref29_Size.mono _ _
   | exact headgateref29_common.mono _ _ _ _ _ _
   | exact headgateref29_most.mono _ _
   | exact headgateref29_planned.mono _ _ _ _ _
   | exact LeO.none _
   | refine LeO.ite ?_ ?_
   | refine LeO.bind ?_ (fun _ => ?_)
  ·intro y0 y1 y2 y3 y4 y5 y6
   unfold headgateref29_Get.j3
   repeat' first
   | (with_reducible exact ih0 _ _ _ _ _ _)
   | (with_reducible exact ih1 _ _ _ _ _ _ _ _)
   | (with_reducible exact ih2 _ _ _ _ _ _ _ _ _)
   | (with_reducible exact ih3 _ _ _ _ _ _ _)
   | (with_reducible exact ih4 _ _ _ _ _ _ _ _)
   | (with_reducible exact headgateref01_Little.mono _ _ _ _)
   | (with_reducible exact headgateref02_Digest.mono _ _)
   | (with_reducible exact headgateref29_Size.mono _ _)
   | (with_reducible exact headgateref29_common.mono _ _ _ _ _ _)
   | (with_reducible exact headgateref29_most.mono _ _)
   | (with_reducible exact headgateref29_planned.mono _ _ _ _ _)
   | (with_reducible exact LeO.refl _)
   | (with_reducible exact LeO.none _)
   | (with_reducible refine LeO.ite ?_ ?_)
   | (with_reducible refine LeO.bind ?_ (fun _ => ?_))
   | exact ih0 _ _ _ _ _ _
   | exact ih1 _ _ _ _ _ _ _ _
   | exact ih2 _ _ _ _ _ _ _ _ _
   | exact ih3 _ _ _ _ _ _ _
   | exact ih4 _ _ _ _ _ _ _ _
   | exact headgateref01_Little.mono _ _ _ _
   | exact headgateref02_Digest.mono _ _
   | exact headgateref29_Size.mono _ _
   | exact headgateref29_common.mono _ _ _ _ _ _
   | exact headgateref29_most.mono _ _
   | exact headgateref29_planned.mono _ _ _ _ _
   | exact LeO.none _
   | refine LeO.ite ?_ ?_
   | refine LeO.bind ?_ (fun _ => ?_)
  ·intro y0 y1 y2 y3 y4 y5 y6 y7
   unfold headgateref29_Get.j4
   repeat' first
   | (with_reducible exact ih0 _ _ _ _ _ _)
   | (with_reducible exact ih1 _ _ _ _ _ _ _ _)
   | (with_reducible exact ih2 _ _ _ _ _ _ _ _ _)
   | (with_reducible exact ih3 _ _ _ _ _ _ _)
   | (with_reducible exact ih4 _ _ _ _ _ _ _ _)
   | (with_reducible exact headgateref01_Little.mono _ _ _ _)
   | (with_reducible exact headgateref02_Digest.mono _ _)
   | (with_reducible exact headgateref29_Size.mono _ _)
   | (with_reducible exact headgateref29_common.mono _ _ _ _ _ _)
   | (with_reducible exact headgateref29_most.mono _ _)
   | (with_reducible exact headgateref29_planned.mono _ _ _ _ _)
   | (with_reducible exact LeO.refl _)
   | (with_reducible exact LeO.none _)
   | (with_reducible refine LeO.ite ?_ ?_)
   | (with_reducible refine LeO.bind ?_ (fun _ => ?_))
   | exact ih0 _ _ _ _ _ _
   | exact ih1 _ _ _ _ _ _ _ _
   | exact ih2 _ _ _ _ _ _ _ _ _
   | exact ih3 _ _ _ _ _ _ _
   | exact ih4 _ _ _ _ _ _ _ _
   | exact headgateref01_Little.mono _ _ _ _
   | exact headgateref02_Digest.mono _ _
   | exact headgateref29_Size.mono _ _
   | exact headgateref29_common.mono _ _ _ _ _ _
   | exact headgateref29_most.mono _ _
   | exact headgateref29_planned.mono _ _ _ _ _
   | exact LeO.none _
   | refine LeO.ite ?_ ?_
   | refine LeO.bind ?_ (fun _ => ?_)
theorem headgateref29_Get.mono : ∀ a0 a1 a2 k, LeO (headgateref29_Get.f k a0 a1 a2) (headgateref29_Get.f (k + 1) a0 a1 a2) := by
 intro a0 a1 a2 k
 obtain ⟨ih0, ih1, ih2, ih3, ih4⟩ := headgateref29_Get.mono_l k
 unfold headgateref29_Get.f
 repeat' first
   | (with_reducible exact ih0 _ _ _ _ _ _)
   | (with_reducible exact ih1 _ _ _ _ _ _ _ _)
   | (with_reducible exact ih2 _ _ _ _ _ _ _ _ _)
   | (with_reducible exact ih3 _ _ _ _ _ _ _)
   | (with_reducible exact ih4 _ _ _ _ _ _ _ _)
   | (with_reducible exact headgateref01_Little.mono _ _ _ _)
   | (with_reducible exact headgateref02_Digest.mono _ _)
   | (with_reducible exact headgateref29_Size.mono _ _)
   | (with_reducible exact headgateref29_common.mono _ _ _ _ _ _)
   | (with_reducible exact headgateref29_most.mono _ _)
   | (with_reducible exact headgateref29_planned.mono _ _ _ _ _)
   | (with_reducible exact LeO.refl _)
   | (with_reducible exact LeO.none _)
   | (with_reducible refine LeO.ite ?_ ?_)
   | (with_reducible refine LeO.bind ?_ (fun _ => ?_))
   | exact ih0 _ _ _ _ _ _
   | exact ih1 _ _ _ _ _ _ _ _
   | exact ih2 _ _ _ _ _ _ _ _ _
   | exact ih3 _ _ _ _ _ _ _
   | exact ih4 _ _ _ _ _ _ _ _
   | exact headgateref01_Little.mono _ _ _ _
   | exact headgateref02_Digest.mono _ _
   | exact headgateref29_Size.mono _ _
   | exact headgateref29_common.mono _ _ _ _ _ _
   | exact headgateref29_most.mono _ _
   | exact headgateref29_planned.mono _ _ _ _ _
   | exact LeO.none _
   | refine LeO.ite ?_ ?_
   | refine LeO.bind ?_ (fun _ => ?_)
def headgateref29_Get.T14 : Bool × List (List Nat × List Nat) := (true, [([], []), ([0], [0]), ([1], [1]), ([2], [2]), ([3, 2], [2, 3]), ([2, 4], [2, 4]), ([5, 2], [5]), ([6], [6]), ([6], [6]), ([6], [6]), ([6], [6]), ([6], [6]), ([7, 8, 9, 10, 11, 6, 6], [6, 7, 8, 9, 10, 11]), ([6], [6]), ([13, 6], [6, 13]), ([12, 14, 6], [6, 12, 14]), ([6, 15], [6, 15])])
def headgateref29_Get.B14 : List Nat := [0, 1, 3, 7, 15, 31, 63, 127, 127, 127, 127, 127, 4095, 127, 8319, 32767, 65535]
theorem headgateref29_Get.tab14 : rtab .any (opsOf Tryd.f10 14) = headgateref29_Get.T14 := by kernel_rfl
theorem headgateref29_Get.bits14 : waitsOk headgateref29_Get.T14.2 headgateref29_Get.B14 = true := by kernel_rfl
def headgateref29_Get.T17 : Bool × List (List Nat × List Nat) := (true, [([], []), ([0], [0]), ([1], [1]), ([2, 1], [1, 2]), ([1, 3], [1, 3]), ([4, 1], [4]), ([5], [5]), ([6, 5], [5, 6]), ([5], [5]), ([8, 5], [5, 8]), ([7, 9, 5], [5, 7, 9]), ([5, 10], [5, 10]), ([11, 5], [11]), ([12], [12]), ([12], [12]), ([14, 12], [12, 14]), ([12], [12]), ([16, 12], [12, 16]), ([13, 15, 17, 12], [12, 13, 15, 17]), ([12], [12]), ([12], [12]), ([20, 12], [12, 20]), ([19, 21, 12], [12, 19, 21]), ([22, 12, 12], [12, 22]), ([18, 23, 12], [12, 18, 23]), ([12, 24], [12, 24])])
def headgateref29_Get.B17 : List Nat := [0, 1, 3, 7, 15, 31, 63, 127, 63, 319, 1023, 2047, 4095, 8191, 8191, 24575, 8191, 73727, 262143, 8191, 8191, 1056767, 3678207, 7872511, 16777215, 33554431]
theorem headgateref29_Get.tab17 : rtab .any (opsOf Tryd.f10 17) = headgateref29_Get.T17 := by kernel_rfl
theorem headgateref29_Get.bits17 : waitsOk headgateref29_Get.T17.2 headgateref29_Get.B17 = true := by kernel_rfl
def headgateref29_Get.T21 : Bool × List (List Nat × List Nat) := (true, [([], []), ([], []), ([], []), ([], []), ([3], [3]), ([2, 4], [2, 4]), ([], []), ([], []), ([7], [7]), ([], []), ([9], [9]), ([6, 8, 10], [6, 8, 10]), ([0, 1, 5, 11], [0, 1, 5, 11]), ([], []), ([13], [13]), ([12, 14], [12, 14]), ([], []), ([16, 15, 0, 1, 2, 3, 4, 5, 6, 7, 8, 9, 10, 11, 12, 13, 14, 15, 16], [15, 16])])
def headgateref29_Get.B21 : List Nat := [0, 0, 0, 0, 8, 28, 0, 0, 128, 0, 512, 1984, 4095, 0, 8192, 32767, 0, 131071]
theorem headgateref29_Get.tab21 : rtab .any (opsOf Tryd.f10 21) = headgateref29_Get.T21 := by kernel_rfl
theorem headgateref29_Get.bits21 : waitsOk headgateref29_Get.T21.2 headgateref29_Get.B21 = true := by kernel_rfl
def headgateref29_Get.T22 : Bool × List (List Nat × List Nat) := (true, [([], []), ([0], [0]), ([], []), ([2], [2]), ([1, 3], [1, 3]), ([4], [4]), ([5], [5]), ([5], [5]), ([7, 5], [5, 7]), ([5], [5]), ([9, 5], [5, 9]), ([6, 8, 10, 5], [5, 6, 8, 10]), ([5], [5]), ([12, 5], [5, 12]), ([13, 5], [5, 13]), ([14, 5, 5], [5, 14]), ([11, 15, 5], [5, 11, 15]), ([5, 16], [5, 16])])
def headgateref29_Get.B22 : List Nat := [0, 1, 0, 4, 15, 31, 63, 63, 191, 63, 575, 2047, 63, 4159, 12351, 28735, 65535, 131071]
theorem headgateref29_Get.tab22 : rtab .any (opsOf Tryd.f10 22) = headgateref29_Get.T22 := by kernel_rfl
theorem headgateref29_Get.bits22 : waitsOk headgateref29_Get.T22.2 headgateref29_Get.B22 = true := by kernel_rfl
abbrev d10x0 : Array Bool := #[false, false, false, false, false, false, false, false, false, false, false, false, false, false, false, false, false, false, false, false, false, false, false, false, false, false]
abbrev d10x1 : Array Bool := #[false, false, false, false, false, false, false, false, false, false, false, false, false, false, false, false, false, false]
abbrev d10x2 : Array Bool := #[false, false, false, false, false, false, false, false, false, false, false, false, false, false, false, false, false]
abbrev d10x3 : Array Bool := dB 26 1
abbrev d10x4 : Array Bool := dB 18 1
abbrev d10x5 : Array Bool := dB 17 1
abbrev d10x6 : Array Bool := dB 18 5
abbrev d10x7 : Array Bool := dB 26 3
abbrev d10x8 : Array Bool := dB 18 3
abbrev d10x9 : Array Bool := dB 17 3
abbrev d10x10 : Array Bool := dB 26 7
abbrev d10x11 : Array Bool := dB 18 7
abbrev d10x12 : Array Bool := dB 17 7
abbrev d10x13 : Array Bool := dB 26 15
abbrev d10x14 : Array Bool := dB 18 15
abbrev d10x15 : Array Bool := dB 17 15
abbrev d10x16 : Array Bool := dB 18 79
abbrev d10x17 : Array Bool := dB 18 207
abbrev d10x18 : Array Bool := dB 18 719
abbrev d10x19 : Array Bool := dB 18 8911
abbrev d10x20 : Array Bool := dB 26 31
abbrev d10x21 : Array Bool := dB 18 31
abbrev d10x22 : Array Bool := dB 17 31
abbrev d10x23 : Array Bool := dB 18 8927
abbrev d10x24 : Array Bool := dB 26 63
abbrev d10x25 : Array Bool := dB 18 63
abbrev d10x26 : Array Bool := dB 17 63
abbrev d10x27 : Array Bool := dB 26 127
abbrev d10x28 : Array Bool := dB 18 127
abbrev d10x29 : Array Bool := dB 17 127
abbrev d10x30 : Array Bool := dB 26 255
abbrev d10x31 : Array Bool := dB 18 255
abbrev d10x32 : Array Bool := dB 17 255
abbrev d10x33 : Array Bool := dB 18 767
abbrev d10x34 : Array Bool := dB 18 8959
abbrev d10x35 : Array Bool := dB 18 4863
abbrev d10x36 : Array Bool := dB 18 13055
abbrev d10x37 : Array Bool := dB 26 511
abbrev d10x38 : Array Bool := dB 18 511
abbrev d10x39 : Array Bool := dB 17 511
abbrev d10x40 : Array Bool := dB 26 1023
abbrev d10x41 : Array Bool := dB 18 1023
abbrev d10x42 : Array Bool := dB 17 1023
abbrev d10x43 : Array Bool := dB 18 9215
abbrev d10x44 : Array Bool := dB 18 13311
abbrev d10x45 : Array Bool := dB 26 2047
abbrev d10x46 : Array Bool := dB 18 2047
abbrev d10x47 : Array Bool := dB 17 2047
abbrev d10x48 : Array Bool := dB 18 10239
abbrev d10x49 : Array Bool := dB 18 14335
abbrev d10x50 : Array Bool := dB 26 4095
abbrev d10x51 : Array Bool := dB 18 4095
abbrev d10x52 : Array Bool := dB 17 4095
abbrev d10x53 : Array Bool := dB 18 12287
abbrev d10x54 : Array Bool := dB 17 12287
abbrev d10x55 : Array Bool := dB 17 28671
abbrev d10x56 : Array Bool := dB 26 8191
abbrev d10x57 : Array Bool := dB 18 8191
abbrev d10x58 : Array Bool := dB 17 8191
abbrev d10x59 : Array Bool := dB 26 16383
abbrev d10x60 : Array Bool := dB 18 16383
abbrev d10x61 : Array Bool := dB 17 16383
abbrev d10x62 : Array Bool := dB 26 32767
abbrev d10x63 : Array Bool := dB 18 32767
abbrev d10x64 : Array Bool := dB 17 32767
abbrev d10x65 : Array Bool := dB 26 98303
abbrev d10x66 : Array Bool := dB 26 622591
abbrev d10x67 : Array Bool := dB 26 1671167
abbrev d10x68 : Array Bool := dB 26 65535
abbrev d10x69 : Array Bool := dB 18 65535
abbrev d10x70 : Array Bool := dB 17 65535
abbrev d10x71 : Array Bool := dB 26 131071
abbrev d10x72 : Array Bool := dB 26 1703935
abbrev d10x73 : Array Bool := dB 18 131071
abbrev d10x74 : Array Bool := dB 26 262143
abbrev d10x75 : Array Bool := dB 26 1835007
abbrev d10x76 : Array Bool := dB 26 524287
abbrev d10x77 : Array Bool := dB 26 1048575
abbrev d10x78 : Array Bool := dB 26 2097151
abbrev d10x79 : Array Bool := dB 26 4194303
abbrev d10x80 : Array Bool := dB 26 8388607
abbrev d10x81 : Array Bool := dB 26 16777215
abbrev d10x82 : Array Bool := dB 26 33554431
abbrev d10x83 : Array Bool := dB 26 67108863
abbrev d10x84 : Array Bool := dB 18 262143
abbrev d10x85 : Array Bool := dB 17 131071
set_option maxHeartbeats 8000000 in
set_option maxRecDepth 100000 in
theorem headgateref29_Get.calls (k : Nat) (a0 : ByteArray) (a1 : Bool) (a2 : Bool) (r1 : Int) (r2 : Int) (r3 : ByteArray) (r4 : ByteArray) (r5 : Int) (r6 : Int) (w : World) (h : headgateref29_Get.f k a0 a1 a2 = some (r1, r2, r3, r4, r5, r6)) :
  Calls Tryd.prog 10 #[.string a0, .bool a1, .bool a2] w fun e w' => e = .returned (.tuple #[.agg #[.int .i64 r1, .int .i64 r2, .string r3, .string r4, .int .i64 r5], .int .i64 r6]) ∧ Below w.heap.size w w' := by
 have hu29 := Tryd.underlying29
 have hu58 := Tryd.underlying58
 have hu24 := Tryd.underlying24
 have if58_3 : ∀ (x0_ : Int) (x1_ : Int) (x2_ : Int) (x3_ : Int) (W : World), (Instr.field 58 (.agg #[.int .i64 x0_, .int .i64 x1_, .int .i64 x2_, .int .i64 x3_]) 3).run Tryd.prog W = .ok (.int .i64 x3_) W := fun x0_ x1_ x2_ x3_ W => by first | rfl | kernel_rfl
 have HB := Aside0.mk (Below.refl w.heap.size w)
 have H : (if (a0.size : Int) < 8 then (some (0, 0, (⟨#[]⟩ : ByteArray), (⟨#[]⟩ : ByteArray), 0, 0)) else (if 0 < (a0.size : Int) then ((headgateref01_Little.f k a0 4 4).bind fun bt193 => ((headgateref29_Size.f k (wrap64 (bt a0 0))).bind fun t195 => (if t195 = 0 then (headgateref29_Get.j0 k a0 a1 a2 (wrap64 (bt a0 0)) bt193.1 true) else (headgateref29_Get.j0 k a0 a1 a2 (wrap64 (bt a0 0)) bt193.1 (decide (bt193.1 > 65536)))))) else (none))) = some (r1, r2, r3, r4, r5, r6) := h
 clear h
 by_cases c4 : (a0.size : Int) < 8
 ·rw [if_pos c4] at H
  have c4b0 : decide ((a0.size : Int) < 8) = true := decide_eq_true c4
  have c4b1 : decide (a0.size < 8) = true := decide_eq_true (by omega)
  clear c4
  simp only [Option.some.injEq, Prod.mk.injEq] at H
  obtain ⟨rfl, rfl, rfl, rfl, rfl, rfl⟩ := H
  go_enter Tryd.func10, Tryd.ntmps10
  go_wp2_with (first | ((with_reducible refine gate_dst (N := 6) rfl ?_); (try (refine gate_guard (by rfl) ?_; dsimp only)); refine box_event ?hg (N := 6) ?hd (cs := #[.int .i64 0, .int .i64 0, .string (⟨#[]⟩ : ByteArray), .string (⟨#[]⟩ : ByteArray), .int .i64 0]) (t := 29) ?hr ?_; (case hd => rfl); (case hg => rfl); (case hr => first | (go_simp; done) | (go_simp; rfl)); intro gb192 hg w5 hbox hb; have n0_ := Aside0.mk (below_step (by repeat (first | (with_reducible first | exact HB.out | apply below_alloc | apply pw_below_drewN | apply below_drew1) | exact HB.out)) hb); have n1_ := Aside0.mk (hbox); have n2_ := Aside0.mk ((by rw [hg]; exact (below_size (by repeat (first | (with_reducible first | exact HB.out | apply below_alloc | apply pw_below_drewN | apply below_drew1) | exact HB.out))) : w.heap.size ≤ gb192)); have n3_ := Aside0.mk ((by rw [hg]; exact (below_size (by repeat (first | (with_reducible first | exact HB.out | apply below_alloc | apply pw_below_drewN | apply below_drew1) | exact HB.out))) : w.heap.size ≤ gb192)); clear HB; have HB := n0_; have BK192 := n1_; have GW192 := n2_; have GE192 := n3_; clear n0_ n1_ n2_ n3_; clear hb hbox hg; have hcz6_0 : w5.cell? ⟨gb192, 0, none⟩ = some (.int .i64 0) := (blk_cell BK192.out 0).trans rfl; have hcz6_1 : w5.cell? ⟨gb192, 1, none⟩ = some (.int .i64 0) := (blk_cell BK192.out 1).trans rfl; have hcz6_2 : w5.cell? ⟨gb192, 2, none⟩ = some (.string (⟨#[]⟩ : ByteArray)) := (blk_cell BK192.out 2).trans rfl; have hcz6_3 : w5.cell? ⟨gb192, 3, none⟩ = some (.string (⟨#[]⟩ : ByteArray)) := (blk_cell BK192.out 3).trans rfl; have hcz6_4 : w5.cell? ⟨gb192, 4, none⟩ = some (.int .i64 0) := (blk_cell BK192.out 4).trans rfl; have hfz6_0 := blk_frozen BK192.out 0; have hfz6_1 := blk_frozen BK192.out 1; have hfz6_2 := blk_frozen BK192.out 2; have hfz6_3 := blk_frozen BK192.out 3; have hfz6_4 := blk_frozen BK192.out 4))
  refine bodyPost_ret (results_ct rfl _ _ gb192 29 #[.int .i64 0, .int .i64 0, .string (⟨#[]⟩ : ByteArray), .string (⟨#[]⟩ : ByteArray), .int .i64 0] (0, 0) _ rfl (by (with_reducible repeat (first | refine blk_drewN ?_ _ | refine blk_drew ?_ | refine blk_alloc ?_ _)); refine blk_put (cs := #[.int .i64 0, .int .i64 0, .string (⟨#[]⟩ : ByteArray), .string (⟨#[]⟩ : ByteArray), .int .i64 0]) ?_ 4 _ rfl; (with_reducible repeat (first | refine blk_drewN ?_ _ | refine blk_drew ?_ | refine blk_alloc ?_ _)); refine blk_put (cs := #[.int .i64 0, .int .i64 0, .string (⟨#[]⟩ : ByteArray), .string (⟨#[]⟩ : ByteArray), .int .i64 0]) ?_ 3 _ rfl; (with_reducible repeat (first | refine blk_drewN ?_ _ | refine blk_drew ?_ | refine blk_alloc ?_ _)); refine blk_put (cs := #[.int .i64 0, .int .i64 0, .string (⟨#[]⟩ : ByteArray), .string (⟨#[]⟩ : ByteArray), .int .i64 0]) ?_ 2 _ rfl; (with_reducible repeat (first | refine blk_drewN ?_ _ | refine blk_drew ?_ | refine blk_alloc ?_ _)); refine blk_put (cs := #[.int .i64 0, .int .i64 0, .string (⟨#[]⟩ : ByteArray), .string (⟨#[]⟩ : ByteArray), .int .i64 0]) ?_ 1 _ rfl; (with_reducible repeat (first | refine blk_drewN ?_ _ | refine blk_drew ?_ | refine blk_alloc ?_ _)); refine blk_put (cs := #[.int .i64 0, .int .i64 0, .string (⟨#[]⟩ : ByteArray), .string (⟨#[]⟩ : ByteArray), .int .i64 0]) ?_ 0 _ rfl; (with_reducible repeat (first | refine blk_drewN ?_ _ | refine blk_drew ?_ | refine blk_alloc ?_ _)); exact BK192.out) Tryd.underlying29 rfl (by kernel_rfl)) rfl ?_
  exact ⟨by first | rfl | (simp [errW_none, errW_some] <;> rfl) | (simp [*, errW_none, errW_some] <;> rfl) | (simp [bt, *]; done) | (unfold bt; simp [*]; done), by repeat (first | (with_reducible first | exact HB.out | apply below_alloc | apply pw_below_drewN | apply below_drew1 | refine below_set ?_ GE192.out) | exact HB.out)⟩
 rw [if_neg c4] at H
 have c4b0 : decide ((a0.size : Int) < 8) = false := decide_eq_false c4
 have c4b1 : decide (a0.size < 8) = false := decide_eq_false (by omega)
 clear c4
 refine neg_first (p := (0 < (a0.size : Int))) (fun c7 => ?_) (fun c7 => ?_)
 ·rw [if_neg c7] at H
  exact absurd H (by simp)

 rw [if_pos c7] at H
 have c7b0 : decide (0 < (a0.size : Int)) = true := decide_eq_true c7
 have c7b1 : decide (0 < a0.size) = true := decide_eq_true (by omega)
 clear c7
 replace H := Option.bind_eq_some_iff.mp H
 obtain ⟨⟨t193, t194⟩, A90, H⟩ := H
 try dsimp only at H
 have A9 := Aside0.mk A90
 clear A90
 have HC10 := Aside0.mk H
 clear H
 go_enter Tryd.func10, Tryd.ntmps10
 go_upto_region 5 with (first | ((with_reducible refine gate_dst (N := 6) rfl ?_); (try (refine gate_guard (by rfl) ?_; dsimp only)); refine box_event ?hg (N := 6) ?hd (cs := #[.int .i64 0, .int .i64 0, .string (⟨#[]⟩ : ByteArray), .string (⟨#[]⟩ : ByteArray), .int .i64 0]) (t := 29) ?hr ?_; (case hd => rfl); (case hg => rfl); (case hr => first | (go_simp; done) | (go_simp; rfl)); intro gb192 hg w11 hbox hb; have n0_ := Aside0.mk (below_step (by repeat (first | (with_reducible first | exact HB.out | apply below_alloc | apply pw_below_drewN | apply below_drew1) | exact HB.out)) hb); have n1_ := Aside0.mk (hbox); have n2_ := Aside0.mk ((by rw [hg]; exact (below_size (by repeat (first | (with_reducible first | exact HB.out | apply below_alloc | apply pw_below_drewN | apply below_drew1) | exact HB.out))) : w.heap.size ≤ gb192)); have n3_ := Aside0.mk ((by rw [hg]; exact (below_size (by repeat (first | (with_reducible first | exact HB.out | apply below_alloc | apply pw_below_drewN | apply below_drew1) | exact HB.out))) : w.heap.size ≤ gb192)); clear HB; have HB := n0_; have BK192 := n1_; have GW192 := n2_; have GE192 := n3_; clear n0_ n1_ n2_ n3_; clear hb hbox hg; have p8 : 0 ≤ (0 : Int) := (by omega); have q8 : 0 < a0.size := (by have : (0 : Int) < (a0.size : Int) := of_decide_eq_true (by first | (with_reducible assumption) | assumption); omega); have hx8 : ∀ h : 0 < a0.size, ((a0[0]'h).toNat : Int) = bt a0 0 := bt_at a0 0; clear p8; have qi8 : (0 < (a0.size : Int)) = True := eq_true (of_decide_eq_true (by first | (with_reducible assumption) | assumption)); replace q8 := eq_true q8) | ((with_reducible refine gate_callee (f := 22) rfl ?_); refine goesL_ (some 25) rfl rfl Tryd.func22 (by kernel_rfl) rfl #[.string a0, .int .i64 4, .int .i64 4] rfl (by (try simp only [List.map_toArray, List.map_cons, List.map_nil]); first | done | rfl | (simp only [List.length_drop, List.length_take]; rfl)) ?_; (with_reducible refine (headgateref01_Little.calls k a0 4 4 t193 t194 _ A9.out).mono ?_); rintro e w' ⟨rfl, ⟨nd, rfl⟩⟩; refine ⟨_, rfl, ?_⟩))
 (try simp only [Act.put, la_, lb_, lc_])
 go_cut [34] (fun v34 wc => ∃ (kq : Nat) (x34_9 : Bool), v34 = .bool x34_9 ∧ Aside0 (headgateref29_Get.j0 kq a0 a1 a2 (wrap64 (bt a0 0)) t193 x34_9 = some (r1, r2, r3, r4, r5, r6)) ∧ Aside0 (kq ≤ k) ∧ Aside0 (wc.heap[gb192]? = some (.cells #[.int .i64 0, .int .i64 0, .string (⟨#[]⟩ : ByteArray), .string (⟨#[]⟩ : ByteArray), .int .i64 0] 29 (0, 0))) ∧ Aside0 (Below w.heap.size w wc))
 case first =>
  have H := HC10.out
  clear HC10
  replace H := Option.bind_eq_some_iff.mp H
  obtain ⟨t195, A120, H⟩ := H
  try dsimp only at H
  have A12 := Aside0.mk A120
  clear A120
  by_cases c13 : t195 = 0
  ·rw [if_pos c13] at H
   have c13b0 : (t195 == 0) = true := beq_iff_eq.mpr c13
   have c13b1 : (t195 != 0) = false := bne_eq_false_iff_eq.mpr c13
   clear c13
   (first | rw [c13b0] | (simp only [i64_w, i32_w]; rw [c13b0]) | skip)
   have H' := Aside0.mk H
   clear H
   go_wp2_with (first | ((with_reducible refine gate_callee (f := 16) rfl ?_); refine goesL_ (some 29) rfl rfl Tryd.func16 (by kernel_rfl) rfl #[.int .i64 (wrap64 (bt a0 0))] rfl (by (try simp only [List.map_toArray, List.map_cons, List.map_nil]); first | done | rfl | (simp only [List.length_drop, List.length_take]; rfl)) ?_; (with_reducible refine (headgateref29_Size.calls k (wrap64 (bt a0 0)) t195 _ A12.out).mono ?_); rintro e w' ⟨rfl, ⟨nd, rfl⟩⟩; refine ⟨_, rfl, ?_⟩))
   go_meet
   case rel => exact ⟨_, (true), (by first | rfl | (simp; done) | (simp [*]; done)), H', ⟨by first | omega | exact Nat.le_refl _⟩, ⟨by (with_reducible repeat (first | refine blk_drewN ?_ _ | refine blk_drew ?_ | refine blk_alloc ?_ _)); exact BK192.out⟩, ⟨by repeat (first | (with_reducible first | exact HB.out | apply below_alloc | apply pw_below_drewN | apply below_drew1 | refine below_set ?_ GE192.out) | exact HB.out)⟩⟩
  rw [if_neg c13] at H
  have c13b0 : (t195 == 0) = false := beq_eq_false_iff_ne.mpr c13
  have c13b1 : (t195 != 0) = true := bne_iff_ne.mpr c13
  (first | rw [c13b0] | (simp only [i64_w, i32_w]; rw [c13b0]) | skip)
  have H' := Aside0.mk H
  clear H
  go_wp2_with (first | ((with_reducible refine gate_callee (f := 16) rfl ?_); refine goesL_ (some 29) rfl rfl Tryd.func16 (by kernel_rfl) rfl #[.int .i64 (wrap64 (bt a0 0))] rfl (by (try simp only [List.map_toArray, List.map_cons, List.map_nil]); first | done | rfl | (simp only [List.length_drop, List.length_take]; rfl)) ?_; (with_reducible refine (headgateref29_Size.calls k (wrap64 (bt a0 0)) t195 _ A12.out).mono ?_); rintro e w' ⟨rfl, ⟨nd, rfl⟩⟩; refine ⟨_, rfl, ?_⟩))
  go_meet
  case rel => exact ⟨_, (decide (t193 > 65536)), (by first | rfl | (simp; done) | (simp [*]; done)), H', ⟨by first | omega | exact Nat.le_refl _⟩, ⟨by (with_reducible repeat (first | refine blk_drewN ?_ _ | refine blk_drew ?_ | refine blk_alloc ?_ _)); exact BK192.out⟩, ⟨by repeat (first | (with_reducible first | exact HB.out | apply below_alloc | apply pw_below_drewN | apply below_drew1 | refine below_set ?_ GE192.out) | exact HB.out)⟩⟩
 case rest =>
  clear HC10
  try clear c1
  try clear c2
  try clear p2
  try clear c4
  try clear c4b0
  try clear c4b1
  try clear p6
  try clear c7
  try clear c7b0
  try clear c7b1
  try clear p8
  try clear q8
  try clear hx8
  try clear qi8
  try clear c10
  try clear c13
  try clear c13b0
  try clear c13b1
  try clear hcz6_0
  try clear hcz6_1
  try clear hcz6_2
  try clear hcz6_3
  try clear hcz6_4
  try clear hfz6_0
  try clear hfz6_1
  try clear hfz6_2
  try clear hfz6_3
  try clear hfz6_4
  try clear p8
  try clear q8
  obtain ⟨kq, x34_9, rfl, HA, HJ9, BK192, HB⟩ := hcut
  cases kq with
  | zero => exact absurd HA.out (by simp [headgateref29_Get.j0])
  | succ kj9 =>
   have H := HA.out
   clear HA
   simp only [headgateref29_Get.j0] at H
   by_cases c14 : x34_9 = true
   ·subst c14
    have H1 := H
    rw [if_pos rfl] at H1
    clear H
    have H := H1
    clear H1
    simp only [Option.some.injEq, Prod.mk.injEq] at H
    obtain ⟨rfl, rfl, rfl, rfl, rfl, rfl⟩ := H
    have hcz15_0 : wc.cell? ⟨gb192, 0, none⟩ = some (.int .i64 0) := (blk_cell BK192.out 0).trans rfl
    have hcz15_1 : wc.cell? ⟨gb192, 1, none⟩ = some (.int .i64 0) := (blk_cell BK192.out 1).trans rfl
    have hcz15_2 : wc.cell? ⟨gb192, 2, none⟩ = some (.string (⟨#[]⟩ : ByteArray)) := (blk_cell BK192.out 2).trans rfl
    have hcz15_3 : wc.cell? ⟨gb192, 3, none⟩ = some (.string (⟨#[]⟩ : ByteArray)) := (blk_cell BK192.out 3).trans rfl
    have hcz15_4 : wc.cell? ⟨gb192, 4, none⟩ = some (.int .i64 0) := (blk_cell BK192.out 4).trans rfl
    have hfz15_0 := blk_frozen BK192.out 0
    have hfz15_1 := blk_frozen BK192.out 1
    have hfz15_2 := blk_frozen BK192.out 2
    have hfz15_3 := blk_frozen BK192.out 3
    have hfz15_4 := blk_frozen BK192.out 4
    go_wp2
    refine bodyPost_ret (results_ct rfl _ _ gb192 29 #[.int .i64 0, .int .i64 0, .string (⟨#[]⟩ : ByteArray), .string (⟨#[]⟩ : ByteArray), .int .i64 0] (0, 0) _ rfl (by (with_reducible repeat (first | refine blk_drewN ?_ _ | refine blk_drew ?_ | refine blk_alloc ?_ _)); refine blk_put (cs := #[.int .i64 0, .int .i64 0, .string (⟨#[]⟩ : ByteArray), .string (⟨#[]⟩ : ByteArray), .int .i64 0]) ?_ 4 _ rfl; (with_reducible repeat (first | refine blk_drewN ?_ _ | refine blk_drew ?_ | refine blk_alloc ?_ _)); refine blk_put (cs := #[.int .i64 0, .int .i64 0, .string (⟨#[]⟩ : ByteArray), .string (⟨#[]⟩ : ByteArray), .int .i64 0]) ?_ 3 _ rfl; (with_reducible repeat (first | refine blk_drewN ?_ _ | refine blk_drew ?_ | refine blk_alloc ?_ _)); refine blk_put (cs := #[.int .i64 0, .int .i64 0, .string (⟨#[]⟩ : ByteArray), .string (⟨#[]⟩ : ByteArray), .int .i64 0]) ?_ 2 _ rfl; (with_reducible repeat (first | refine blk_drewN ?_ _ | refine blk_drew ?_ | refine blk_alloc ?_ _)); refine blk_put (cs := #[.int .i64 0, .int .i64 0, .string (⟨#[]⟩ : ByteArray), .string (⟨#[]⟩ : ByteArray), .int .i64 0]) ?_ 1 _ rfl; (with_reducible repeat (first | refine blk_drewN ?_ _ | refine blk_drew ?_ | refine blk_alloc ?_ _)); refine blk_put (cs := #[.int .i64 0, .int .i64 0, .string (⟨#[]⟩ : ByteArray), .string (⟨#[]⟩ : ByteArray), .int .i64 0]) ?_ 0 _ rfl; (with_reducible repeat (first | refine blk_drewN ?_ _ | refine blk_drew ?_ | refine blk_alloc ?_ _)); exact BK192.out) Tryd.underlying29 rfl (by kernel_rfl)) rfl ?_
    exact ⟨by first | rfl | (simp [errW_none, errW_some] <;> rfl) | (simp [*, errW_none, errW_some] <;> rfl) | (simp [bt, *]; done) | (unfold bt; simp [*]; done), by repeat (first | (with_reducible first | exact HB.out | apply below_alloc | apply pw_below_drewN | apply below_drew1 | refine below_set ?_ GE192.out) | exact HB.out)⟩
   replace c14 := Bool.eq_false_iff.mpr c14
   subst c14
   have H1 := H
   rw [if_neg (show ¬ (false = true) by decide)] at H1
   clear H
   have H := H1
   clear H1
   refine neg_first (p := (1 < (a0.size : Int))) (fun c16 => ?_) (fun c16 => ?_)
   ·rw [if_neg c16] at H
    exact absurd H (by simp)
   rw [if_pos c16] at H
   have c16b0 : decide (1 < (a0.size : Int)) = true := decide_eq_true c16
   have c16b1 : decide (1 < a0.size) = true := decide_eq_true (by omega)
   clear c16
   have H' := Aside0.mk H
   clear H
   have p17 : 0 ≤ (1 : Int) := (by omega)
   have q17 : 1 < a0.size := (by have : (1 : Int) < (a0.size : Int) := of_decide_eq_true (by first | (with_reducible assumption) | assumption); omega)
   have hx17 : ∀ h : 1 < a0.size, ((a0[1]'h).toNat : Int) = bt a0 1 := bt_at a0 1
   clear p17
   have qi17 : (1 < (a0.size : Int)) = True := eq_true (of_decide_eq_true (by first | (with_reducible assumption) | assumption))
   replace q17 := eq_true q17
   go_wp2
   go_loopg [12, 13] kj9 (fun kq v12 v13 w' => ∃ (x12_2 : Int) (x13_2 : Int), v12 = .int .i64 x12_2 ∧ v13 = .int .i64 x13_2 ∧ Aside0 (headgateref29_Get.l0 kq a0 a1 a2 (wrap64 (bt a0 0)) t193 (wrap64 ((wrap64 (Int.tdiv (wrap64 (bt a0 1)) 4)) * 4)) x12_2 x13_2 = some (r1, r2, r3, r4, r5, r6)) ∧ Aside0 (kq ≤ kj9) ∧ Aside0 (w'.heap[gb192]? = some (.cells #[.int .i64 0, .int .i64 0, .string (⟨#[]⟩ : ByteArray), .string (⟨#[]⟩ : ByteArray), .int .i64 0] 29 (0, 0))) ∧ Aside0 (Below w.heap.size w w'))
   case atStart => exact ⟨((-1)), (0), (by first | rfl | (simp; done) | (simp [*]; done)), (by first | rfl | (simp; done) | (simp [*]; done)), H', ⟨Nat.le_refl _⟩, ⟨by (with_reducible repeat (first | refine blk_drewN ?_ _ | refine blk_drew ?_ | refine blk_alloc ?_ _)); exact BK192.out⟩, ⟨by repeat (first | (with_reducible first | exact HB.out | apply below_alloc | apply pw_below_drewN | apply below_drew1 | refine below_set ?_ GE192.out) | exact HB.out)⟩⟩
   case round =>
    clear H'
    try clear c1
    try clear p1
    try clear q1
    try clear hx1
    try clear qi1
    try clear c2
    try clear p2
    try clear c4
    try clear c4b0
    try clear c4b1
    try clear p6
    try clear c7
    try clear c7b0
    try clear c7b1
    try clear p8
    try clear q8
    try clear hx8
    try clear qi8
    try clear c10
    try clear c13
    try clear c13b0
    try clear c13b1
    try clear c14
    try clear c16
    try clear c16b0
    try clear c16b1
    try clear p17
    try clear q17
    try clear hx17
    try clear qi17
    try clear hcz15_0
    try clear hcz15_1
    try clear hcz15_2
    try clear hcz15_3
    try clear hcz15_4
    try clear hcz6_0
    try clear hcz6_1
    try clear hcz6_2
    try clear hcz6_3
    try clear hcz6_4
    try clear hfz15_0
    try clear hfz15_1
    try clear hfz15_2
    try clear hfz15_3
    try clear hfz15_4
    try clear hfz6_0
    try clear hfz6_1
    try clear hfz6_2
    try clear hfz6_3
    try clear hfz6_4
    try clear p17
    try clear p2
    try clear p6
    try clear p8
    try clear q17
    try clear q8
    obtain ⟨x12_2, x13_2, rfl, rfl, HA, HK2, BK192, HB⟩ := hrel
    cases gk with
    | zero => exact absurd HA.out (by simp [headgateref29_Get.l0])
    | succ k2 =>
     have H := HA.out
     clear HA
     simp only [headgateref29_Get.l0] at H
     have HC18 := Aside0.mk H
     clear H
     go_upto_region 10 with (fail)
     go_cut [48] (fun v48 wc => ∃ (kq : Nat) (x48_17 : Bool), v48 = .bool x48_17 ∧ Aside0 (headgateref29_Get.j2 kq a0 a1 a2 (wrap64 (bt a0 0)) t193 (wrap64 ((wrap64 (Int.tdiv (wrap64 (bt a0 1)) 4)) * 4)) x12_2 x13_2 x48_17 = some (r1, r2, r3, r4, r5, r6)) ∧ Aside0 (kq ≤ k2) ∧ Aside0 (wc.heap[gb192]? = some (.cells #[.int .i64 0, .int .i64 0, .string (⟨#[]⟩ : ByteArray), .string (⟨#[]⟩ : ByteArray), .int .i64 0] 29 (0, 0))) ∧ Aside0 (Below w.heap.size w wc))
     case first =>
      have H := HC18.out
      clear HC18
      replace H := Option.bind_eq_some_iff.mp H
      obtain ⟨t196, A190, H⟩ := H
      try dsimp only at H
      have A19 := Aside0.mk A190
      clear A190
      refine neg_first (p := (x13_2 ≤ t196)) (fun c20 => ?_) (fun c20 => ?_)
      ·rw [if_neg c20] at H
       have c20b0 : decide (x13_2 ≤ t196) = false := decide_eq_false c20
       clear c20
       (first | rw [c20b0] | (simp only [i64_w, i32_w]; rw [c20b0]) | skip)
       have H' := Aside0.mk H
       clear H
       go_wp2_with (first | ((with_reducible refine gate_callee (f := 23) rfl ?_); refine goesL_ (some 43) rfl rfl Tryd.func23 (by kernel_rfl) rfl #[.int .i64 (wrap64 (bt a0 0))] rfl (by (try simp only [List.map_toArray, List.map_cons, List.map_nil]); first | done | rfl | (simp only [List.length_drop, List.length_take]; rfl)) ?_; (with_reducible refine (headgateref29_most.calls k2 (wrap64 (bt a0 0)) t196 _ A19.out).mono ?_); rintro e w' ⟨rfl, ⟨nd, rfl⟩⟩; refine ⟨_, rfl, ?_⟩))
       go_meet
       case rel => exact ⟨_, (false), (by first | rfl | (simp; done) | (simp [*]; done)), H', ⟨by have := HJ9.out; have := HK2.out; first | omega | exact Nat.le_refl _⟩, ⟨by (with_reducible repeat (first | refine blk_drewN ?_ _ | refine blk_drew ?_ | refine blk_alloc ?_ _)); exact BK192.out⟩, ⟨by repeat (first | (with_reducible first | exact HB.out | apply below_alloc | apply pw_below_drewN | apply below_drew1 | refine below_set ?_ GE192.out) | exact HB.out)⟩⟩
      rw [if_pos c20] at H
      have c20b0 : decide (x13_2 ≤ t196) = true := decide_eq_true c20
      clear c20
      (first | rw [c20b0] | (simp only [i64_w, i32_w]; rw [c20b0]) | skip)
      have H' := Aside0.mk H
      clear H
      go_wp2_with (first | ((with_reducible refine gate_callee (f := 23) rfl ?_); refine goesL_ (some 43) rfl rfl Tryd.func23 (by kernel_rfl) rfl #[.int .i64 (wrap64 (bt a0 0))] rfl (by (try simp only [List.map_toArray, List.map_cons, List.map_nil]); first | done | rfl | (simp only [List.length_drop, List.length_take]; rfl)) ?_; (with_reducible refine (headgateref29_most.calls k2 (wrap64 (bt a0 0)) t196 _ A19.out).mono ?_); rintro e w' ⟨rfl, ⟨nd, rfl⟩⟩; refine ⟨_, rfl, ?_⟩))
      go_meet
      case rel => exact ⟨_, (decide (x12_2 < 0)), (by first | rfl | (simp; done) | (simp [*]; done)), H', ⟨by have := HJ9.out; have := HK2.out; first | omega | exact Nat.le_refl _⟩, ⟨by (with_reducible repeat (first | refine blk_drewN ?_ _ | refine blk_drew ?_ | refine blk_alloc ?_ _)); exact BK192.out⟩, ⟨by repeat (first | (with_reducible first | exact HB.out | apply below_alloc | apply pw_below_drewN | apply below_drew1 | refine below_set ?_ GE192.out) | exact HB.out)⟩⟩
     case rest =>
      clear HC18
      try clear c1
      try clear p1
      try clear q1
      try clear hx1
      try clear qi1
      try clear c2
      try clear p2
      try clear c4
      try clear c4b0
      try clear c4b1
      try clear p6
      try clear c7
      try clear c7b0
      try clear c7b1
      try clear p8
      try clear q8
      try clear hx8
      try clear qi8
      try clear c10
      try clear c13
      try clear c13b0
      try clear c13b1
      try clear c14
      try clear c16
      try clear c16b0
      try clear c16b1
      try clear p17
      try clear q17
      try clear hx17
      try clear qi17
      try clear c20
      try clear c20b0
      try clear hcz15_0
      try clear hcz15_1
      try clear hcz15_2
      try clear hcz15_3
      try clear hcz15_4
      try clear hcz6_0
      try clear hcz6_1
      try clear hcz6_2
      try clear hcz6_3
      try clear hcz6_4
      try clear hfz15_0
      try clear hfz15_1
      try clear hfz15_2
      try clear hfz15_3
      try clear hfz15_4
      try clear hfz6_0
      try clear hfz6_1
      try clear hfz6_2
      try clear hfz6_3
      try clear hfz6_4
      try clear p1
      try clear p17
      try clear p2
      try clear p6
      try clear p8
      try clear q1
      try clear q17
      try clear q8
      obtain ⟨kq, x48_17, rfl, HA, HJ17, BK192, HB⟩ := hcut
      cases kq with
      | zero => exact absurd HA.out (by simp [headgateref29_Get.j2])
      | succ kj17 =>
       have H := HA.out
       clear HA
       simp only [headgateref29_Get.j2] at H
       by_cases c21 : x48_17 = true
       ·subst c21
        have H1 := H
        rw [if_pos rfl] at H1
        clear H
        have H := H1
        clear H1
        replace H := Option.bind_eq_some_iff.mp H
        obtain ⟨⟨t197, t198, t199, t200⟩, A220, H⟩ := H
        try dsimp only at H
        have A22 := Aside0.mk A220
        clear A220
        refine neg_first (p := (t200 = (wrap64 (t193)))) (fun c23 => ?_) (fun c23 => ?_)
        ·rw [if_neg c23] at H
         have c23b0 : (t200 == (wrap64 (t193))) = false := beq_eq_false_iff_ne.mpr c23
         have c23b1 : (t200 != (wrap64 (t193))) = true := bne_iff_ne.mpr c23
         have H' := Aside0.mk H
         clear H
         go_wp2_with (first | ((with_reducible refine gate_callee (f := 24) rfl ?_); refine goesL_ (some 55) rfl rfl Tryd.func24 (by kernel_rfl) rfl #[.int .i64 (wrap64 (bt a0 0)), .int .i64 x13_2, .bool a1, .bool a2] rfl (by (try simp only [List.map_toArray, List.map_cons, List.map_nil]); first | done | rfl | (simp only [List.length_drop, List.length_take]; rfl)) ?_; (with_reducible refine (headgateref29_planned.calls kj17 (wrap64 (bt a0 0)) x13_2 a1 a2 t197 t198 t199 t200 _ A22.out).mono ?_); rintro e w25 ⟨rfl, hb⟩; refine ⟨_, rfl, ?_⟩; have n0_ := Aside0.mk (blk_below (g := gb192) (o := .cells #[.int .i64 0, .int .i64 0, .string (⟨#[]⟩ : ByteArray), .string (⟨#[]⟩ : ByteArray), .int .i64 0] 29 (0, 0)) (by (with_reducible repeat (first | refine blk_drewN ?_ _ | refine blk_drew ?_ | refine blk_alloc ?_ _)); exact BK192.out) hb); have n1_ := Aside0.mk (below_step (by repeat (first | (with_reducible first | exact HB.out | apply below_alloc | apply pw_below_drewN | apply below_drew1 | refine below_set ?_ GE192.out) | exact HB.out)) hb); clear BK192; clear HB; have BK192 := n0_; have HB := n1_; clear n0_ n1_; (try clear hb); (try clear hb2); (try clear hk); (try clear hi)))
         go_roundg kj17
         case measure => have := HJ9.out; have := HK2.out; have := HJ17.out; omega
         case rel => exact ⟨(x12_2), (wrap64 (x13_2 + 1)), (by first | rfl | (simp; done) | (simp [*]; done)), (by first | rfl | (simp; done) | (simp [*]; done)), H', ⟨by have := HJ9.out; have := HK2.out; have := HJ17.out; omega⟩, ⟨by (with_reducible repeat (first | refine blk_drewN ?_ _ | refine blk_drew ?_ | refine blk_alloc ?_ _)); exact BK192.out⟩, ⟨by repeat (first | (with_reducible first | exact HB.out | apply below_alloc | apply pw_below_drewN | apply below_drew1 | refine below_set ?_ GE192.out) | exact HB.out)⟩⟩
        rw [if_pos c23] at H
        have c23b0 : (t200 == (wrap64 (t193))) = true := beq_iff_eq.mpr c23
        have c23b1 : (t200 != (wrap64 (t193))) = false := bne_eq_false_iff_eq.mpr c23
        clear c23
        have H' := Aside0.mk H
        clear H
        go_wp2_with (first | ((with_reducible refine gate_callee (f := 24) rfl ?_); refine goesL_ (some 55) rfl rfl Tryd.func24 (by kernel_rfl) rfl #[.int .i64 (wrap64 (bt a0 0)), .int .i64 x13_2, .bool a1, .bool a2] rfl (by (try simp only [List.map_toArray, List.map_cons, List.map_nil]); first | done | rfl | (simp only [List.length_drop, List.length_take]; rfl)) ?_; (with_reducible refine (headgateref29_planned.calls kj17 (wrap64 (bt a0 0)) x13_2 a1 a2 t197 t198 t199 t200 _ A22.out).mono ?_); rintro e w24 ⟨rfl, hb⟩; refine ⟨_, rfl, ?_⟩; have n0_ := Aside0.mk (blk_below (g := gb192) (o := .cells #[.int .i64 0, .int .i64 0, .string (⟨#[]⟩ : ByteArray), .string (⟨#[]⟩ : ByteArray), .int .i64 0] 29 (0, 0)) (by (with_reducible repeat (first | refine blk_drewN ?_ _ | refine blk_drew ?_ | refine blk_alloc ?_ _)); exact BK192.out) hb); have n1_ := Aside0.mk (below_step (by repeat (first | (with_reducible first | exact HB.out | apply below_alloc | apply pw_below_drewN | apply below_drew1 | refine below_set ?_ GE192.out) | exact HB.out)) hb); clear BK192; clear HB; have BK192 := n0_; have HB := n1_; clear n0_ n1_; (try clear hb); (try clear hb2); (try clear hk); (try clear hi)))
        go_roundg kj17
        case measure => have := HJ9.out; have := HK2.out; have := HJ17.out; omega
        case rel => exact ⟨(x13_2), (wrap64 (x13_2 + 1)), (by first | rfl | (simp; done) | (simp [*]; done)), (by first | rfl | (simp; done) | (simp [*]; done)), H', ⟨by have := HJ9.out; have := HK2.out; have := HJ17.out; omega⟩, ⟨by (with_reducible repeat (first | refine blk_drewN ?_ _ | refine blk_drew ?_ | refine blk_alloc ?_ _)); exact BK192.out⟩, ⟨by repeat (first | (with_reducible first | exact HB.out | apply below_alloc | apply pw_below_drewN | apply below_drew1 | refine below_set ?_ GE192.out) | exact HB.out)⟩⟩
       replace c21 := Bool.eq_false_iff.mpr c21
       subst c21
       have H1 := H
       rw [if_neg (show ¬ (false = true) by decide)] at H1
       clear H
       have H := H1
       clear H1
       have HC26 := Aside0.mk H
       clear H
       go_upto_region 14 with (fail)
       go_cut [77] (fun v77 wc => ∃ (kq : Nat) (x77_25 : Bool), v77 = .bool x77_25 ∧ Aside0 (headgateref29_Get.j3 kq a0 a1 a2 (wrap64 (bt a0 0)) (wrap64 ((wrap64 (Int.tdiv (wrap64 (bt a0 1)) 4)) * 4)) x12_2 x77_25 = some (r1, r2, r3, r4, r5, r6)) ∧ Aside0 (kq ≤ kj17) ∧ Aside0 (wc.heap[gb192]? = some (.cells #[.int .i64 0, .int .i64 0, .string (⟨#[]⟩ : ByteArray), .string (⟨#[]⟩ : ByteArray), .int .i64 0] 29 (0, 0))) ∧ Aside0 (Below w.heap.size w wc))
       case first =>
        have H := HC26.out
        clear HC26
        by_cases c27 : x12_2 < 0
        ·rw [if_pos c27] at H
         have c27b0 : decide (x12_2 < 0) = true := decide_eq_true c27
         clear c27
         (first | rw [c27b0] | (simp only [i64_w, i32_w]; rw [c27b0]) | skip)
         have H' := Aside0.mk H
         clear H
         try go_wp2
         have n0_ := Aside0.mk (blk_drew BK192.out)
         have n1_ := Aside0.mk (below_drew1 HB.out)
         clear BK192
         clear HB
         have BK192 := n0_
         have HB := n1_
         clear n0_ n1_
         refine start_ (n := 17) (S := fun w' => True) (ds := []) d10x2 (by kernel_rfl) rfl rfl trivial (fun hHeld => ?_); refine with_tabW headgateref29_Get.tab14 headgateref29_Get.bits14 (fun HT_ HW_ => ?_)
         generalize wc.drew = w28 at BK192 HB hHeld ⊢
         refine pon_ 0 (some 61) d10x5 HT_.out ?_
         refine pon_ 1 (some 62) d10x9 HT_.out ?_
         refine pon_ 2 (some 63) d10x12 HT_.out ?_
         refine pof_ 3 (some 64) d10x15 HT_.out ?_
         refine pof_ 4 (some 65) d10x22 HT_.out ?_
         refine pon_ 5 (some 66) d10x26 HT_.out ?_
         refine pon_ 6 (some 67) d10x29 HT_.out ?_
         refine pof_ 7 (some 68) d10x32 HT_.out ?_
         refine pof_ 8 (some 69) d10x39 HT_.out ?_
         refine pof_ 9 (some 70) d10x42 HT_.out ?_
         refine pof_ 10 (some 71) d10x47 HT_.out ?_
         refine pof_ 11 (some 72) d10x52 HT_.out ?_
         refine pof_ 12 (some 73) d10x58 HT_.out ?_
         refine pof_ 13 (some 74) d10x61 HT_.out ?_
         refine pof_ 14 (some 75) d10x64 HT_.out ?_
         refine pof_ 15 (some 76) d10x70 HT_.out ?_
         refine pon_ 16 (some 77) d10x85 HT_.out ?_
         refine done_ (done_of HT_.out (by kernel_rfl)) ?_
         try go_wp2
         go_meet
         case rel => exact ⟨_, (true), (by first | rfl | (simp; done) | (simp [*]; done)), H', ⟨by have := HJ9.out; have := HK2.out; have := HJ17.out; first | omega | exact Nat.le_refl _⟩, ⟨by (with_reducible repeat (first | refine blk_drewN ?_ _ | refine blk_drew ?_ | refine blk_alloc ?_ _)); exact BK192.out⟩, ⟨by repeat (first | (with_reducible first | exact HB.out | apply below_alloc | apply pw_below_drewN | apply below_drew1 | refine below_set ?_ GE192.out) | exact HB.out)⟩⟩
        rw [if_neg c27] at H
        have c27b0 : decide (x12_2 < 0) = false := decide_eq_false c27
        clear c27
        (first | rw [c27b0] | (simp only [i64_w, i32_w]; rw [c27b0]) | skip)
        by_cases c29 : (wrap64 ((wrap64 (Int.tdiv (wrap64 (bt a0 1)) 4)) * 4)) > 15
        ·rw [if_pos c29] at H
         have c29b0 : decide (15 < (wrap64 ((wrap64 (Int.tdiv (wrap64 (bt a0 1)) 4)) * 4))) = true := decide_eq_true c29
         clear c29
         have H' := Aside0.mk H
         clear H
         try go_wp2
         have n0_ := Aside0.mk (blk_drew BK192.out)
         have n1_ := Aside0.mk (below_drew1 HB.out)
         clear BK192
         clear HB
         have BK192 := n0_
         have HB := n1_
         clear n0_ n1_
         refine start_ (n := 17) (S := fun w' => True) (ds := []) d10x2 (by kernel_rfl) rfl rfl trivial (fun hHeld => ?_); refine with_tabW headgateref29_Get.tab14 headgateref29_Get.bits14 (fun HT_ HW_ => ?_)
         generalize wc.drew = w30 at BK192 HB hHeld ⊢
         refine pon_ 0 (some 61) d10x5 HT_.out ?_
         refine pon_ 1 (some 62) d10x9 HT_.out ?_
         refine pon_ 2 (some 63) d10x12 HT_.out ?_
         refine pon_ 3 (some 64) d10x15 HT_.out ?_
         refine pon_ 4 (some 65) d10x22 HT_.out ?_
         refine pon_ 5 (some 66) d10x26 HT_.out ?_
         refine pon_ 6 (some 67) d10x29 HT_.out ?_
         refine pof_ 7 (some 68) d10x32 HT_.out ?_
         refine pof_ 8 (some 69) d10x39 HT_.out ?_
         refine pof_ 9 (some 70) d10x42 HT_.out ?_
         refine pof_ 10 (some 71) d10x47 HT_.out ?_
         refine pof_ 11 (some 72) d10x52 HT_.out ?_
         refine pof_ 12 (some 73) d10x58 HT_.out ?_
         refine pof_ 13 (some 74) d10x61 HT_.out ?_
         refine pof_ 14 (some 75) d10x64 HT_.out ?_
         refine pof_ 15 (some 76) d10x70 HT_.out ?_
         refine pon_ 16 (some 77) d10x85 HT_.out ?_
         refine done_ (done_of HT_.out (by kernel_rfl)) ?_
         try go_wp2
         go_meet
         case rel => exact ⟨_, (true), (by first | rfl | (simp; done) | (simp [*]; done)), H', ⟨by have := HJ9.out; have := HK2.out; have := HJ17.out; first | omega | exact Nat.le_refl _⟩, ⟨by (with_reducible repeat (first | refine blk_drewN ?_ _ | refine blk_drew ?_ | refine blk_alloc ?_ _)); exact BK192.out⟩, ⟨by repeat (first | (with_reducible first | exact HB.out | apply below_alloc | apply pw_below_drewN | apply below_drew1 | refine below_set ?_ GE192.out) | exact HB.out)⟩⟩
        rw [if_neg c29] at H
        have c29b0 : decide (15 < (wrap64 ((wrap64 (Int.tdiv (wrap64 (bt a0 1)) 4)) * 4))) = false := decide_eq_false c29
        clear c29
        replace H := Option.bind_eq_some_iff.mp H
        obtain ⟨t201, A310, H⟩ := H
        try dsimp only at H
        have A31 := Aside0.mk A310
        clear A310
        refine neg_first (p := (0 ≤ 8)) (fun c32 => ?_) (fun c32 => ?_)
        ·rw [if_neg c32] at H
         exact absurd H (by simp)
        rw [if_pos c32] at H
        have c32b0 := eq_true c32
        have c32b1 : decide (0 ≤ 8) = true := decide_eq_true c32
        clear c32
        refine neg_first (p := (8 ≤ (a0.size : Int))) (fun c33 => ?_) (fun c33 => ?_)
        ·rw [if_neg c33] at H
         exact absurd H (by simp)
        rw [if_pos c33] at H
        have c33b0 := eq_true c33
        have c33b1 : decide (8 ≤ (a0.size : Int)) = true := decide_eq_true c33
        clear c33
        have H' := Aside0.mk H
        clear H
        try go_wp2
        have n0_ := Aside0.mk (blk_drew BK192.out)
        have n1_ := Aside0.mk (below_drew1 HB.out)
        clear BK192
        clear HB
        have BK192 := n0_
        have HB := n1_
        clear n0_ n1_
        refine start_ (n := 17) (S := fun w' => True) (ds := []) d10x2 (by kernel_rfl) rfl rfl trivial (fun hHeld => ?_); refine with_tabW headgateref29_Get.tab14 headgateref29_Get.bits14 (fun HT_ HW_ => ?_)
        generalize wc.drew = w34 at BK192 HB hHeld ⊢
        refine pon_ 0 (some 61) d10x5 HT_.out ?_
        refine pon_ 1 (some 62) d10x9 HT_.out ?_
        refine pon_ 2 (some 63) d10x12 HT_.out ?_
        refine pon_ 3 (some 64) d10x15 HT_.out ?_
        refine pon_ 4 (some 65) d10x22 HT_.out ?_
        refine pon_ 5 (some 66) d10x26 HT_.out ?_
        refine pon_ 6 (some 67) d10x29 HT_.out ?_
        refine pon_ 7 (some 68) d10x32 HT_.out ?_
        refine pon_ 8 (some 69) d10x39 HT_.out ?_
        refine pon_ 9 (some 70) d10x42 HT_.out ?_
        refine pon_ 10 (some 71) d10x47 HT_.out ?_
        refine pon_ 11 (some 72) d10x52 HT_.out ?_
        refine pon_ 13 (some 74) d10x54 HT_.out ?_
        refine pon_ 14 (some 75) d10x55 HT_.out ?_
        refine one_ (i := 12) (N := some 73) d10x64 rfl rfl (one_of HT_.out (by kernel_rfl)) (by decide) (fun K hK => ?_)
        refine goes_ Tryd.func25 (by kernel_rfl) rfl #[.int .i64 (wrap64 (bt a0 0)), .int .i64 (wrap64 ((wrap64 (Int.tdiv (wrap64 (bt a0 1)) 4)) * 4)), .int .i64 x12_2, .bool a1, .bool a2] (by rfl) rfl rfl (by (try simp only [List.map_toArray, List.map_cons, List.map_nil]); first | done | rfl | (simp only [List.length_drop, List.length_take]; rfl)) ?_
        with_reducible refine (headgateref29_common.calls kj17 (wrap64 (bt a0 0)) (wrap64 ((wrap64 (Int.tdiv (wrap64 (bt a0 1)) 4)) * 4)) x12_2 a1 a2 t201 _ A31.out).mono ?_
        rintro e w35 ⟨rfl, hb⟩
        refine ⟨_, rfl, ?_⟩
        have n0_ := Aside0.mk (blk_below (g := gb192) (o := .cells #[.int .i64 0, .int .i64 0, .string (⟨#[]⟩ : ByteArray), .string (⟨#[]⟩ : ByteArray), .int .i64 0] 29 (0, 0)) (by (with_reducible repeat (first | refine blk_drewN ?_ _ | refine blk_drew ?_ | refine blk_alloc ?_ _)); exact BK192.out) hb)
        have n1_ := Aside0.mk (below_step (by repeat (first | (with_reducible first | exact HB.out | apply below_alloc | apply pw_below_drewN | apply below_drew1 | refine below_set ?_ GE192.out) | exact HB.out)) hb)
        clear BK192
        clear HB
        have BK192 := n0_
        have HB := n1_
        clear n0_ n1_
        (try clear hb)
        (try clear hb2)
        (try clear hk)
        (try clear hi)
        refine hK.out _ _ trivial (fun hHeld => ?_)
        clear hK K
        refine norm_ (a' := ?_) ?_ ?_
        rotate_left
        ·show Act.put _ (some 73) _ = _
         simp only [Act.put, la_, lb_, lc_, i64_w, i32_w]
         rfl
        refine pon_ 15 (some 76) d10x70 HT_.out ?_
        refine pon_ 16 (some 77) d10x85 HT_.out ?_
        refine done_ (done_of HT_.out (by kernel_rfl)) ?_
        try go_wp2
        go_meet
        case rel => exact ⟨_, ((t201.toList != (a0.extract 0 8).toList)), (by first | rfl | (simp; done) | (simp [*]; done)), H', ⟨by have := HJ9.out; have := HK2.out; have := HJ17.out; first | omega | exact Nat.le_refl _⟩, ⟨by (with_reducible repeat (first | refine blk_drewN ?_ _ | refine blk_drew ?_ | refine blk_alloc ?_ _)); exact BK192.out⟩, ⟨by repeat (first | (with_reducible first | exact HB.out | apply below_alloc | apply pw_below_drewN | apply below_drew1 | refine below_set ?_ GE192.out) | exact HB.out)⟩⟩
       case rest =>
        clear HC26
        try clear c1
        try clear p1
        try clear q1
        try clear hx1
        try clear qi1
        try clear c2
        try clear p2
        try clear c3
        try clear c4
        try clear c4b0
        try clear c4b1
        try clear p6
        try clear c7
        try clear c7b0
        try clear c7b1
        try clear p8
        try clear q8
        try clear hx8
        try clear qi8
        try clear c10
        try clear c13
        try clear c13b0
        try clear c13b1
        try clear c14
        try clear c16
        try clear c16b0
        try clear c16b1
        try clear p17
        try clear q17
        try clear hx17
        try clear qi17
        try clear c20
        try clear c20b0
        try clear c21
        try clear c23
        try clear c23b0
        try clear c23b1
        try clear c24
        try clear c25
        try clear c27
        try clear c27b0
        try clear c29
        try clear c29b0
        try clear c32
        try clear c32b0
        try clear c32b1
        try clear c33
        try clear c33b0
        try clear c33b1
        try clear hcz15_0
        try clear hcz15_1
        try clear hcz15_2
        try clear hcz15_3
        try clear hcz15_4
        try clear hcz6_0
        try clear hcz6_1
        try clear hcz6_2
        try clear hcz6_3
        try clear hcz6_4
        try clear hfz15_0
        try clear hfz15_1
        try clear hfz15_2
        try clear hfz15_3
        try clear hfz15_4
        try clear hfz6_0
        try clear hfz6_1
        try clear hfz6_2
        try clear hfz6_3
        try clear hfz6_4
        try clear p1
        try clear p17
        try clear p2
        try clear p6
        try clear p8
        try clear q1
        try clear q17
        try clear q8
        obtain ⟨kq, x77_25, rfl, HA, HJ25, BK192, HB⟩ := hcut
        cases kq with
        | zero => exact absurd HA.out (by simp [headgateref29_Get.j3])
        | succ kj25 =>
         have H := HA.out
         clear HA
         simp only [headgateref29_Get.j3] at H
         by_cases c36 : x77_25 = true
         ·subst c36
          have H1 := H
          rw [if_pos rfl] at H1
          clear H
          have H := H1
          clear H1
          simp only [Option.some.injEq, Prod.mk.injEq] at H
          obtain ⟨rfl, rfl, rfl, rfl, rfl, rfl⟩ := H
          have hcz37_0 : wc.cell? ⟨gb192, 0, none⟩ = some (.int .i64 0) := (blk_cell BK192.out 0).trans rfl
          have hcz37_1 : wc.cell? ⟨gb192, 1, none⟩ = some (.int .i64 0) := (blk_cell BK192.out 1).trans rfl
          have hcz37_2 : wc.cell? ⟨gb192, 2, none⟩ = some (.string (⟨#[]⟩ : ByteArray)) := (blk_cell BK192.out 2).trans rfl
          have hcz37_3 : wc.cell? ⟨gb192, 3, none⟩ = some (.string (⟨#[]⟩ : ByteArray)) := (blk_cell BK192.out 3).trans rfl
          have hcz37_4 : wc.cell? ⟨gb192, 4, none⟩ = some (.int .i64 0) := (blk_cell BK192.out 4).trans rfl
          have hfz37_0 := blk_frozen BK192.out 0
          have hfz37_1 := blk_frozen BK192.out 1
          have hfz37_2 := blk_frozen BK192.out 2
          have hfz37_3 := blk_frozen BK192.out 3
          have hfz37_4 := blk_frozen BK192.out 4
          go_wp2
          refine bodyPost_ret (results_ct rfl _ _ gb192 29 #[.int .i64 0, .int .i64 0, .string (⟨#[]⟩ : ByteArray), .string (⟨#[]⟩ : ByteArray), .int .i64 0] (0, 0) _ rfl (by (with_reducible repeat (first | refine blk_drewN ?_ _ | refine blk_drew ?_ | refine blk_alloc ?_ _)); refine blk_put (cs := #[.int .i64 0, .int .i64 0, .string (⟨#[]⟩ : ByteArray), .string (⟨#[]⟩ : ByteArray), .int .i64 0]) ?_ 4 _ rfl; (with_reducible repeat (first | refine blk_drewN ?_ _ | refine blk_drew ?_ | refine blk_alloc ?_ _)); refine blk_put (cs := #[.int .i64 0, .int .i64 0, .string (⟨#[]⟩ : ByteArray), .string (⟨#[]⟩ : ByteArray), .int .i64 0]) ?_ 3 _ rfl; (with_reducible repeat (first | refine blk_drewN ?_ _ | refine blk_drew ?_ | refine blk_alloc ?_ _)); refine blk_put (cs := #[.int .i64 0, .int .i64 0, .string (⟨#[]⟩ : ByteArray), .string (⟨#[]⟩ : ByteArray), .int .i64 0]) ?_ 2 _ rfl; (with_reducible repeat (first | refine blk_drewN ?_ _ | refine blk_drew ?_ | refine blk_alloc ?_ _)); refine blk_put (cs := #[.int .i64 0, .int .i64 0, .string (⟨#[]⟩ : ByteArray), .string (⟨#[]⟩ : ByteArray), .int .i64 0]) ?_ 1 _ rfl; (with_reducible repeat (first | refine blk_drewN ?_ _ | refine blk_drew ?_ | refine blk_alloc ?_ _)); refine blk_put (cs := #[.int .i64 0, .int .i64 0, .string (⟨#[]⟩ : ByteArray), .string (⟨#[]⟩ : ByteArray), .int .i64 0]) ?_ 0 _ rfl; (with_reducible repeat (first | refine blk_drewN ?_ _ | refine blk_drew ?_ | refine blk_alloc ?_ _)); exact BK192.out) Tryd.underlying29 rfl (by kernel_rfl)) rfl ?_
          exact ⟨by first | rfl | (simp [errW_none, errW_some] <;> rfl) | (simp [*, errW_none, errW_some] <;> rfl) | (simp [bt, *]; done) | (unfold bt; simp [*]; done), by repeat (first | (with_reducible first | exact HB.out | apply below_alloc | apply pw_below_drewN | apply below_drew1 | refine below_set ?_ GE192.out) | exact HB.out)⟩
         replace c36 := Bool.eq_false_iff.mpr c36
         subst c36
         have H1 := H
         rw [if_neg (show ¬ (false = true) by decide)] at H1
         clear H
         have H := H1
         clear H1
         replace H := Option.bind_eq_some_iff.mp H
         obtain ⟨⟨t202, t203, t204, t205⟩, A380, H⟩ := H
         try dsimp only at H
         have A38 := Aside0.mk A380
         clear A380
         have HC39 := Aside0.mk H
         clear H
         go_upto_region 17 with (first | ((with_reducible refine gate_callee (f := 24) rfl ?_); refine goesL_ (some 83) rfl rfl Tryd.func24 (by kernel_rfl) rfl #[.int .i64 (wrap64 (bt a0 0)), .int .i64 x12_2, .bool a1, .bool a2] rfl (by (try simp only [List.map_toArray, List.map_cons, List.map_nil]); first | done | rfl | (simp only [List.length_drop, List.length_take]; rfl)) ?_; (with_reducible refine (headgateref29_planned.calls kj25 (wrap64 (bt a0 0)) x12_2 a1 a2 t202 t203 t204 t205 _ A38.out).mono ?_); rintro e w40 ⟨rfl, hb⟩; refine ⟨_, rfl, ?_⟩; have n0_ := Aside0.mk (blk_below (g := gb192) (o := .cells #[.int .i64 0, .int .i64 0, .string (⟨#[]⟩ : ByteArray), .string (⟨#[]⟩ : ByteArray), .int .i64 0] 29 (0, 0)) (by (with_reducible repeat (first | refine blk_drewN ?_ _ | refine blk_drew ?_ | refine blk_alloc ?_ _)); exact BK192.out) hb); have n1_ := Aside0.mk (below_step (by repeat (first | (with_reducible first | exact HB.out | apply below_alloc | apply pw_below_drewN | apply below_drew1 | refine below_set ?_ GE192.out) | exact HB.out)) hb); clear BK192; clear HB; have BK192 := n0_; have HB := n1_; clear n0_ n1_; (try clear hb); (try clear hb2); (try clear hk); (try clear hi)) | ((with_reducible refine gate_dst (N := 14) rfl ?_); (try (refine gate_guard (by rfl) ?_; dsimp only)); refine box_event ?hg (N := 14) ?hd (cs := #[.int .i64 0, .int .i64 0, .int .i64 0, .int .i64 0]) (t := 58) ?hr ?_; (case hd => rfl); (case hg => rfl); (case hr => first | (go_simp; done) | (go_simp; rfl)); intro gb206 hg w41 hbox hb; have n0_ := Aside0.mk (blk_below (g := gb192) (o := .cells #[.int .i64 0, .int .i64 0, .string (⟨#[]⟩ : ByteArray), .string (⟨#[]⟩ : ByteArray), .int .i64 0] 29 (0, 0)) (by (with_reducible repeat (first | refine blk_drewN ?_ _ | refine blk_drew ?_ | refine blk_alloc ?_ _)); exact BK192.out) hb); have n1_ := Aside0.mk (below_step (by repeat (first | (with_reducible first | exact HB.out | apply below_alloc | apply pw_below_drewN | apply below_drew1 | refine below_set ?_ GE192.out) | exact HB.out)) hb); have n2_ := Aside0.mk (hbox); have n3_ := Aside0.mk ((by rw [hg]; exact (below_size (by repeat (first | (with_reducible first | exact HB.out | apply below_alloc | apply pw_below_drewN | apply below_drew1 | refine below_set ?_ GE192.out) | exact HB.out))) : w.heap.size ≤ gb206)); have n4_ := Aside0.mk ((by rw [hg]; exact (below_size (by repeat (first | (with_reducible first | exact HB.out | apply below_alloc | apply pw_below_drewN | apply below_drew1 | refine below_set ?_ GE192.out) | exact HB.out))) : w.heap.size ≤ gb206)); have n5_ := Aside0.mk ((by rw [hg]; exact Nat.ne_of_lt (blk_lt (g := gb192) (o := .cells #[.int .i64 0, .int .i64 0, .string (⟨#[]⟩ : ByteArray), .string (⟨#[]⟩ : ByteArray), .int .i64 0] 29 (0, 0)) (by (with_reducible repeat (first | refine blk_drewN ?_ _ | refine blk_drew ?_ | refine blk_alloc ?_ _)); exact BK192.out)) : gb192 ≠ gb206)); have n6_ := Aside0.mk ((by rw [hg]; exact Nat.ne_of_gt (blk_lt (g := gb192) (o := .cells #[.int .i64 0, .int .i64 0, .string (⟨#[]⟩ : ByteArray), .string (⟨#[]⟩ : ByteArray), .int .i64 0] 29 (0, 0)) (by (with_reducible repeat (first | refine blk_drewN ?_ _ | refine blk_drew ?_ | refine blk_alloc ?_ _)); exact BK192.out)) : gb206 ≠ gb192)); clear BK192; clear HB; have BK192 := n0_; have HB := n1_; have BK206 := n2_; have GW206 := n3_; have GE206 := n4_; have NB192_206 := n5_; have NB206_192 := n6_; clear n0_ n1_ n2_ n3_ n4_ n5_ n6_; clear hb hbox hg; have hnb42 := NB206_192.out; have hnc42 := NB192_206.out; have hcz43_0 : w41.cell? ⟨gb206, 0, none⟩ = some (.int .i64 0) := (blk_cell BK206.out 0).trans rfl; have hcz43_1 : w41.cell? ⟨gb206, 1, none⟩ = some (.int .i64 0) := (blk_cell BK206.out 1).trans rfl; have hcz43_2 : w41.cell? ⟨gb206, 2, none⟩ = some (.int .i64 0) := (blk_cell BK206.out 2).trans rfl; have hcz43_3 : w41.cell? ⟨gb206, 3, none⟩ = some (.int .i64 0) := (blk_cell BK206.out 3).trans rfl; have hfz43_0 := blk_frozen BK206.out 0; have hfz43_1 := blk_frozen BK206.out 1; have hfz43_2 := blk_frozen BK206.out 2; have hfz43_3 := blk_frozen BK206.out 3))
         (try simp only [Act.put, la_, lb_, lc_])
         go_cut [109] (fun v109 wc => ∃ (kq : Nat) (x109_38 : Bool), v109 = .bool x109_38 ∧ Aside0 (headgateref29_Get.j4 kq a0 (wrap64 (bt a0 0)) (wrap64 ((wrap64 (Int.tdiv (wrap64 (bt a0 1)) 4)) * 4)) x109_38 t202 t203 t204 t205 = some (r1, r2, r3, r4, r5, r6)) ∧ Aside0 (kq ≤ kj25) ∧ Aside0 (wc.heap[gb192]? = some (.cells #[.int .i64 0, .int .i64 0, .string (⟨#[]⟩ : ByteArray), .string (⟨#[]⟩ : ByteArray), .int .i64 0] 29 (0, 0))) ∧ Aside0 (wc.heap[gb206]? = some (.cells #[.int .i64 t202, .int .i64 t203, .int .i64 t204, .int .i64 t205] 58 (0, 0))) ∧ Aside0 (Below w.heap.size w wc))
         case first =>
          have H := HC39.out
          clear HC39
          refine neg_first (p := (a1 = true)) (fun c44 => ?_) (fun c44 => ?_)
          ·replace c44 := Bool.eq_false_iff.mpr c44
           subst c44
           have H1 := H
           rw [if_neg (show ¬ (false = true) by decide)] at H1
           clear H
           have H := H1
           clear H1
           have H' := Aside0.mk H
           clear H
           try go_wp2
           have n0_ : Aside0 (((((w41.setCell ⟨gb206, 0, none⟩ (.int .i64 t202)).setCell ⟨gb206, 1, none⟩ (.int .i64 t203)).setCell ⟨gb206, 2, none⟩ (.int .i64 t204)).setCell ⟨gb206, 3, none⟩ (.int .i64 t205)).heap[gb192]? = some (.cells #[.int .i64 0, .int .i64 0, .string (⟨#[]⟩ : ByteArray), .string (⟨#[]⟩ : ByteArray), .int .i64 0] 29 (0, 0))) := ⟨by (with_reducible repeat (first | refine blk_drewN ?_ _ | refine blk_drew ?_ | refine blk_alloc ?_ _ | refine blk_far ?_ NB192_206.out _)); exact BK192.out⟩
           have n1_ : Aside0 (((((w41.setCell ⟨gb206, 0, none⟩ (.int .i64 t202)).setCell ⟨gb206, 1, none⟩ (.int .i64 t203)).setCell ⟨gb206, 2, none⟩ (.int .i64 t204)).setCell ⟨gb206, 3, none⟩ (.int .i64 t205)).heap[gb206]? = some (.cells #[.int .i64 t202, .int .i64 t203, .int .i64 t204, .int .i64 t205] 58 (0, 0))) := ⟨by (with_reducible repeat (first | refine blk_drewN ?_ _ | refine blk_drew ?_ | refine blk_alloc ?_ _)); refine blk_put (cs := #[.int .i64 t202, .int .i64 t203, .int .i64 t204, .int .i64 0]) ?_ 3 _ rfl; (with_reducible repeat (first | refine blk_drewN ?_ _ | refine blk_drew ?_ | refine blk_alloc ?_ _)); refine blk_put (cs := #[.int .i64 t202, .int .i64 t203, .int .i64 0, .int .i64 0]) ?_ 2 _ rfl; (with_reducible repeat (first | refine blk_drewN ?_ _ | refine blk_drew ?_ | refine blk_alloc ?_ _)); refine blk_put (cs := #[.int .i64 t202, .int .i64 0, .int .i64 0, .int .i64 0]) ?_ 1 _ rfl; (with_reducible repeat (first | refine blk_drewN ?_ _ | refine blk_drew ?_ | refine blk_alloc ?_ _)); refine blk_put (cs := #[.int .i64 0, .int .i64 0, .int .i64 0, .int .i64 0]) ?_ 0 _ rfl; (with_reducible repeat (first | refine blk_drewN ?_ _ | refine blk_drew ?_ | refine blk_alloc ?_ _)); exact BK206.out⟩
           have n2_ : Aside0 (Below w.heap.size w ((((w41.setCell ⟨gb206, 0, none⟩ (.int .i64 t202)).setCell ⟨gb206, 1, none⟩ (.int .i64 t203)).setCell ⟨gb206, 2, none⟩ (.int .i64 t204)).setCell ⟨gb206, 3, none⟩ (.int .i64 t205))) := ⟨by repeat (first | (with_reducible first | exact HB.out | apply below_alloc | apply pw_below_drewN | apply below_drew1 | refine below_set ?_ GE192.out | refine below_set ?_ GE206.out) | exact HB.out)⟩
           (try clear BK192)
           (try clear BK206)
           (try clear HB)
           generalize ((((w41.setCell ⟨gb206, 0, none⟩ (.int .i64 t202)).setCell ⟨gb206, 1, none⟩ (.int .i64 t203)).setCell ⟨gb206, 2, none⟩ (.int .i64 t204)).setCell ⟨gb206, 3, none⟩ (.int .i64 t205)) = w60 at n0_ n1_ n2_ ⊢
           have BK192 := n0_
           have BK206 := n1_
           have HB := n2_
           clear n0_ n1_ n2_
           have n0_ := Aside0.mk (blk_drew BK192.out)
           have n1_ := Aside0.mk (blk_drew BK206.out)
           have n2_ := Aside0.mk (below_drew1 HB.out)
           clear BK192
           clear BK206
           clear HB
           have BK192 := n0_
           have BK206 := n1_
           have HB := n2_
           clear n0_ n1_ n2_
           refine start_ (n := 26) (S := fun w' => True) (ds := []) d10x0 (by kernel_rfl) rfl rfl trivial (fun hHeld => ?_); refine with_tabW headgateref29_Get.tab17 headgateref29_Get.bits17 (fun HT_ HW_ => ?_)
           generalize w60.drew = w61 at BK192 BK206 HB hHeld ⊢
           refine pon_ 0 (some 84) d10x3 HT_.out ?_
           refine pon_ 1 (some 85) d10x7 HT_.out ?_
           refine pof_ 2 (some 86) d10x10 HT_.out ?_
           refine pof_ 3 (some 87) d10x13 HT_.out ?_
           refine pon_ 4 (some 88) d10x20 HT_.out ?_
           refine pon_ 5 (some 89) d10x24 HT_.out ?_
           refine pof_ 6 (some 90) d10x27 HT_.out ?_
           refine pof_ 7 (some 91) d10x30 HT_.out ?_
           refine pof_ 8 (some 92) d10x37 HT_.out ?_
           refine pof_ 9 (some 93) d10x40 HT_.out ?_
           refine pof_ 10 (some 94) d10x45 HT_.out ?_
           refine pon_ 11 (some 95) d10x50 HT_.out ?_
           refine pon_ 12 (some 96) d10x56 HT_.out ?_
           refine pof_ 13 (some 97) d10x59 HT_.out ?_
           refine pof_ 14 (some 98) d10x62 HT_.out ?_
           refine pof_ 15 (some 99) d10x68 HT_.out ?_
           refine pof_ 16 (some 100) d10x71 HT_.out ?_
           refine pof_ 17 (some 101) d10x74 HT_.out ?_
           refine pof_ 18 (some 102) d10x76 HT_.out ?_
           refine pof_ 19 (some 103) d10x77 HT_.out ?_
           refine pof_ 20 (some 104) d10x78 HT_.out ?_
           refine pof_ 21 (some 105) d10x79 HT_.out ?_
           refine pof_ 22 (some 106) d10x80 HT_.out ?_
           refine pof_ 23 (some 107) d10x81 HT_.out ?_
           refine pof_ 24 (some 108) d10x82 HT_.out ?_
           refine pon_ 25 (some 109) d10x83 HT_.out ?_
           refine done_ (done_of HT_.out (by kernel_rfl)) ?_
           try go_wp2
           go_meet
           case rel => exact ⟨_, (false), (by first | rfl | (simp; done) | (simp [*]; done)), H', ⟨by have := HJ9.out; have := HK2.out; have := HJ17.out; have := HJ25.out; first | omega | exact Nat.le_refl _⟩, ⟨by (with_reducible repeat (first | refine blk_drewN ?_ _ | refine blk_drew ?_ | refine blk_alloc ?_ _)); exact BK192.out⟩, ⟨by (with_reducible repeat (first | refine blk_drewN ?_ _ | refine blk_drew ?_ | refine blk_alloc ?_ _)); exact BK206.out⟩, ⟨by repeat (first | (with_reducible first | exact HB.out | apply below_alloc | apply pw_below_drewN | apply below_drew1 | refine below_set ?_ GE192.out | refine below_set ?_ GE206.out) | exact HB.out)⟩⟩
          subst c44
          have H1 := H
          rw [if_pos rfl] at H1
          clear H
          have H := H1
          clear H1
          refine neg_first (p := ((wrap64 (bt a0 0)) > 3)) (fun c45 => ?_) (fun c45 => ?_)
          ·rw [if_neg c45] at H
           have c45b0 : decide (3 < (wrap64 (bt a0 0))) = false := decide_eq_false c45
           clear c45
           (first | rw [c45b0] | (simp only [i64_w, i32_w]; rw [c45b0]) | skip)
           have H' := Aside0.mk H
           clear H
           try go_wp2
           have n0_ : Aside0 (((((w41.setCell ⟨gb206, 0, none⟩ (.int .i64 t202)).setCell ⟨gb206, 1, none⟩ (.int .i64 t203)).setCell ⟨gb206, 2, none⟩ (.int .i64 t204)).setCell ⟨gb206, 3, none⟩ (.int .i64 t205)).heap[gb192]? = some (.cells #[.int .i64 0, .int .i64 0, .string (⟨#[]⟩ : ByteArray), .string (⟨#[]⟩ : ByteArray), .int .i64 0] 29 (0, 0))) := ⟨by (with_reducible repeat (first | refine blk_drewN ?_ _ | refine blk_drew ?_ | refine blk_alloc ?_ _ | refine blk_far ?_ NB192_206.out _)); exact BK192.out⟩
           have n1_ : Aside0 (((((w41.setCell ⟨gb206, 0, none⟩ (.int .i64 t202)).setCell ⟨gb206, 1, none⟩ (.int .i64 t203)).setCell ⟨gb206, 2, none⟩ (.int .i64 t204)).setCell ⟨gb206, 3, none⟩ (.int .i64 t205)).heap[gb206]? = some (.cells #[.int .i64 t202, .int .i64 t203, .int .i64 t204, .int .i64 t205] 58 (0, 0))) := ⟨by (with_reducible repeat (first | refine blk_drewN ?_ _ | refine blk_drew ?_ | refine blk_alloc ?_ _)); refine blk_put (cs := #[.int .i64 t202, .int .i64 t203, .int .i64 t204, .int .i64 0]) ?_ 3 _ rfl; (with_reducible repeat (first | refine blk_drewN ?_ _ | refine blk_drew ?_ | refine blk_alloc ?_ _)); refine blk_put (cs := #[.int .i64 t202, .int .i64 t203, .int .i64 0, .int .i64 0]) ?_ 2 _ rfl; (with_reducible repeat (first | refine blk_drewN ?_ _ | refine blk_drew ?_ | refine blk_alloc ?_ _)); refine blk_put (cs := #[.int .i64 t202, .int .i64 0, .int .i64 0, .int .i64 0]) ?_ 1 _ rfl; (with_reducible repeat (first | refine blk_drewN ?_ _ | refine blk_drew ?_ | refine blk_alloc ?_ _)); refine blk_put (cs := #[.int .i64 0, .int .i64 0, .int .i64 0, .int .i64 0]) ?_ 0 _ rfl; (with_reducible repeat (first | refine blk_drewN ?_ _ | refine blk_drew ?_ | refine blk_alloc ?_ _)); exact BK206.out⟩
           have n2_ : Aside0 (Below w.heap.size w ((((w41.setCell ⟨gb206, 0, none⟩ (.int .i64 t202)).setCell ⟨gb206, 1, none⟩ (.int .i64 t203)).setCell ⟨gb206, 2, none⟩ (.int .i64 t204)).setCell ⟨gb206, 3, none⟩ (.int .i64 t205))) := ⟨by repeat (first | (with_reducible first | exact HB.out | apply below_alloc | apply pw_below_drewN | apply below_drew1 | refine below_set ?_ GE192.out | refine below_set ?_ GE206.out) | exact HB.out)⟩
           (try clear BK192)
           (try clear BK206)
           (try clear HB)
           generalize ((((w41.setCell ⟨gb206, 0, none⟩ (.int .i64 t202)).setCell ⟨gb206, 1, none⟩ (.int .i64 t203)).setCell ⟨gb206, 2, none⟩ (.int .i64 t204)).setCell ⟨gb206, 3, none⟩ (.int .i64 t205)) = w58 at n0_ n1_ n2_ ⊢
           have BK192 := n0_
           have BK206 := n1_
           have HB := n2_
           clear n0_ n1_ n2_
           have n0_ := Aside0.mk (blk_drew BK192.out)
           have n1_ := Aside0.mk (blk_drew BK206.out)
           have n2_ := Aside0.mk (below_drew1 HB.out)
           clear BK192
           clear BK206
           clear HB
           have BK192 := n0_
           have BK206 := n1_
           have HB := n2_
           clear n0_ n1_ n2_
           refine start_ (n := 26) (S := fun w' => True) (ds := []) d10x0 (by kernel_rfl) rfl rfl trivial (fun hHeld => ?_); refine with_tabW headgateref29_Get.tab17 headgateref29_Get.bits17 (fun HT_ HW_ => ?_)
           generalize w58.drew = w59 at BK192 BK206 HB hHeld ⊢
           refine pon_ 0 (some 84) d10x3 HT_.out ?_
           refine pon_ 1 (some 85) d10x7 HT_.out ?_
           refine pon_ 2 (some 86) d10x10 HT_.out ?_
           refine pon_ 3 (some 87) d10x13 HT_.out ?_
           refine pon_ 4 (some 88) d10x20 HT_.out ?_
           refine pon_ 5 (some 89) d10x24 HT_.out ?_
           refine pof_ 6 (some 90) d10x27 HT_.out ?_
           refine pof_ 7 (some 91) d10x30 HT_.out ?_
           refine pof_ 8 (some 92) d10x37 HT_.out ?_
           refine pof_ 9 (some 93) d10x40 HT_.out ?_
           refine pof_ 10 (some 94) d10x45 HT_.out ?_
           refine pon_ 11 (some 95) d10x50 HT_.out ?_
           refine pon_ 12 (some 96) d10x56 HT_.out ?_
           refine pof_ 13 (some 97) d10x59 HT_.out ?_
           refine pof_ 14 (some 98) d10x62 HT_.out ?_
           refine pof_ 15 (some 99) d10x68 HT_.out ?_
           refine pof_ 16 (some 100) d10x71 HT_.out ?_
           refine pof_ 17 (some 101) d10x74 HT_.out ?_
           refine pof_ 18 (some 102) d10x76 HT_.out ?_
           refine pof_ 19 (some 103) d10x77 HT_.out ?_
           refine pof_ 20 (some 104) d10x78 HT_.out ?_
           refine pof_ 21 (some 105) d10x79 HT_.out ?_
           refine pof_ 22 (some 106) d10x80 HT_.out ?_
           refine pof_ 23 (some 107) d10x81 HT_.out ?_
           refine pof_ 24 (some 108) d10x82 HT_.out ?_
           refine pon_ 25 (some 109) d10x83 HT_.out ?_
           refine done_ (done_of HT_.out (by kernel_rfl)) ?_
           try go_wp2
           go_meet
           case rel => exact ⟨_, (false), (by first | rfl | (simp; done) | (simp [*]; done)), H', ⟨by have := HJ9.out; have := HK2.out; have := HJ17.out; have := HJ25.out; first | omega | exact Nat.le_refl _⟩, ⟨by (with_reducible repeat (first | refine blk_drewN ?_ _ | refine blk_drew ?_ | refine blk_alloc ?_ _)); exact BK192.out⟩, ⟨by (with_reducible repeat (first | refine blk_drewN ?_ _ | refine blk_drew ?_ | refine blk_alloc ?_ _)); exact BK206.out⟩, ⟨by repeat (first | (with_reducible first | exact HB.out | apply below_alloc | apply pw_below_drewN | apply below_drew1 | refine below_set ?_ GE192.out | refine below_set ?_ GE206.out) | exact HB.out)⟩⟩
          rw [if_pos c45] at H
          have c45b0 : decide (3 < (wrap64 (bt a0 0))) = true := decide_eq_true c45
          clear c45
          (first | rw [c45b0] | (simp only [i64_w, i32_w]; rw [c45b0]) | skip)
          refine neg_first (p := ((a0.size : Int) ≥ t203)) (fun c46 => ?_) (fun c46 => ?_)
          ·rw [if_neg c46] at H
           have c46b0 : decide (t203 ≤ (a0.size : Int)) = false := decide_eq_false c46
           clear c46
           have H' := Aside0.mk H
           clear H
           try go_wp2
           have n0_ : Aside0 (((((w41.setCell ⟨gb206, 0, none⟩ (.int .i64 t202)).setCell ⟨gb206, 1, none⟩ (.int .i64 t203)).setCell ⟨gb206, 2, none⟩ (.int .i64 t204)).setCell ⟨gb206, 3, none⟩ (.int .i64 t205)).heap[gb192]? = some (.cells #[.int .i64 0, .int .i64 0, .string (⟨#[]⟩ : ByteArray), .string (⟨#[]⟩ : ByteArray), .int .i64 0] 29 (0, 0))) := ⟨by (with_reducible repeat (first | refine blk_drewN ?_ _ | refine blk_drew ?_ | refine blk_alloc ?_ _ | refine blk_far ?_ NB192_206.out _)); exact BK192.out⟩
           have n1_ : Aside0 (((((w41.setCell ⟨gb206, 0, none⟩ (.int .i64 t202)).setCell ⟨gb206, 1, none⟩ (.int .i64 t203)).setCell ⟨gb206, 2, none⟩ (.int .i64 t204)).setCell ⟨gb206, 3, none⟩ (.int .i64 t205)).heap[gb206]? = some (.cells #[.int .i64 t202, .int .i64 t203, .int .i64 t204, .int .i64 t205] 58 (0, 0))) := ⟨by (with_reducible repeat (first | refine blk_drewN ?_ _ | refine blk_drew ?_ | refine blk_alloc ?_ _)); refine blk_put (cs := #[.int .i64 t202, .int .i64 t203, .int .i64 t204, .int .i64 0]) ?_ 3 _ rfl; (with_reducible repeat (first | refine blk_drewN ?_ _ | refine blk_drew ?_ | refine blk_alloc ?_ _)); refine blk_put (cs := #[.int .i64 t202, .int .i64 t203, .int .i64 0, .int .i64 0]) ?_ 2 _ rfl; (with_reducible repeat (first | refine blk_drewN ?_ _ | refine blk_drew ?_ | refine blk_alloc ?_ _)); refine blk_put (cs := #[.int .i64 t202, .int .i64 0, .int .i64 0, .int .i64 0]) ?_ 1 _ rfl; (with_reducible repeat (first | refine blk_drewN ?_ _ | refine blk_drew ?_ | refine blk_alloc ?_ _)); refine blk_put (cs := #[.int .i64 0, .int .i64 0, .int .i64 0, .int .i64 0]) ?_ 0 _ rfl; (with_reducible repeat (first | refine blk_drewN ?_ _ | refine blk_drew ?_ | refine blk_alloc ?_ _)); exact BK206.out⟩
           have n2_ : Aside0 (Below w.heap.size w ((((w41.setCell ⟨gb206, 0, none⟩ (.int .i64 t202)).setCell ⟨gb206, 1, none⟩ (.int .i64 t203)).setCell ⟨gb206, 2, none⟩ (.int .i64 t204)).setCell ⟨gb206, 3, none⟩ (.int .i64 t205))) := ⟨by repeat (first | (with_reducible first | exact HB.out | apply below_alloc | apply pw_below_drewN | apply below_drew1 | refine below_set ?_ GE192.out | refine below_set ?_ GE206.out) | exact HB.out)⟩
           (try clear BK192)
           (try clear BK206)
           (try clear HB)
           generalize ((((w41.setCell ⟨gb206, 0, none⟩ (.int .i64 t202)).setCell ⟨gb206, 1, none⟩ (.int .i64 t203)).setCell ⟨gb206, 2, none⟩ (.int .i64 t204)).setCell ⟨gb206, 3, none⟩ (.int .i64 t205)) = w56 at n0_ n1_ n2_ ⊢
           have BK192 := n0_
           have BK206 := n1_
           have HB := n2_
           clear n0_ n1_ n2_
           have n0_ := Aside0.mk (blk_drew BK192.out)
           have n1_ := Aside0.mk (blk_drew BK206.out)
           have n2_ := Aside0.mk (below_drew1 HB.out)
           clear BK192
           clear BK206
           clear HB
           have BK192 := n0_
           have BK206 := n1_
           have HB := n2_
           clear n0_ n1_ n2_
           refine start_ (n := 26) (S := fun w' => w'.cell? ⟨gb206, 0, none⟩ = some (.int .i64 t202) ∧ w'.cell? ⟨gb206, 1, none⟩ = some (.int .i64 t203) ∧ w'.cell? ⟨gb206, 2, none⟩ = some (.int .i64 t204) ∧ w'.cell? ⟨gb206, 3, none⟩ = some (.int .i64 t205)) (ds := []) d10x0 (by kernel_rfl) rfl rfl ⟨(blk_cell BK206.out 0).trans rfl, (blk_cell BK206.out 1).trans rfl, (blk_cell BK206.out 2).trans rfl, (blk_cell BK206.out 3).trans rfl⟩ (fun hHeld => ?_); refine with_tabW headgateref29_Get.tab17 headgateref29_Get.bits17 (fun HT_ HW_ => ?_)
           generalize w56.drew = w57 at BK192 BK206 HB hHeld ⊢
           refine pon_ 0 (some 84) d10x3 HT_.out ?_
           refine pon_ 1 (some 85) d10x7 HT_.out ?_
           refine pon_ 2 (some 86) d10x10 HT_.out ?_
           refine pon_ 3 (some 87) d10x13 HT_.out ?_
           refine pon_ 4 (some 88) d10x20 HT_.out ?_
           refine pon_ 5 (some 89) d10x24 HT_.out ?_
           refine pon_ 6 (some 90) d10x27 HT_.out ?_
           refine pon_ 7 (some 91) d10x30 HT_.out ?_
           refine pon_ 8 (some 92) d10x37 HT_.out ?_
           refine ptk_ 9 (some 93) d10x40 HT_.out HW_.out hHeld ?_
           refine pon_ 10 (some 94) d10x45 HT_.out ?_
           refine pon_ 11 (some 95) d10x50 HT_.out ?_
           refine pon_ 12 (some 96) d10x56 HT_.out ?_
           refine pof_ 13 (some 97) d10x59 HT_.out ?_
           refine pof_ 14 (some 98) d10x62 HT_.out ?_
           refine pof_ 15 (some 99) d10x68 HT_.out ?_
           refine pof_ 16 (some 100) d10x71 HT_.out ?_
           refine pof_ 17 (some 101) d10x74 HT_.out ?_
           refine pof_ 18 (some 102) d10x76 HT_.out ?_
           refine pof_ 19 (some 103) d10x77 HT_.out ?_
           refine pof_ 20 (some 104) d10x78 HT_.out ?_
           refine pof_ 21 (some 105) d10x79 HT_.out ?_
           refine pof_ 22 (some 106) d10x80 HT_.out ?_
           refine pof_ 23 (some 107) d10x81 HT_.out ?_
           refine pof_ 24 (some 108) d10x82 HT_.out ?_
           refine pon_ 25 (some 109) d10x83 HT_.out ?_
           refine done_ (done_of HT_.out (by kernel_rfl)) ?_
           try go_wp2
           go_meet
           case rel => exact ⟨_, (false), (by first | rfl | (simp; done) | (simp [*]; done)), H', ⟨by have := HJ9.out; have := HK2.out; have := HJ17.out; have := HJ25.out; first | omega | exact Nat.le_refl _⟩, ⟨by (with_reducible repeat (first | refine blk_drewN ?_ _ | refine blk_drew ?_ | refine blk_alloc ?_ _)); exact BK192.out⟩, ⟨by (with_reducible repeat (first | refine blk_drewN ?_ _ | refine blk_drew ?_ | refine blk_alloc ?_ _)); exact BK206.out⟩, ⟨by repeat (first | (with_reducible first | exact HB.out | apply below_alloc | apply pw_below_drewN | apply below_drew1 | refine below_set ?_ GE192.out | refine below_set ?_ GE206.out) | exact HB.out)⟩⟩
          rw [if_pos c46] at H
          have c46b0 : decide (t203 ≤ (a0.size : Int)) = true := decide_eq_true c46
          clear c46
          refine neg_first (p := (0 ≤ t202)) (fun c47 => ?_) (fun c47 => ?_)
          ·rw [if_neg c47] at H
           exact absurd H (by simp)
          rw [if_pos c47] at H
          have c47b0 := eq_true c47
          have c47b1 : decide (0 ≤ t202) = true := decide_eq_true c47
          clear c47
          refine neg_first (p := (t202 ≤ t203)) (fun c48 => ?_) (fun c48 => ?_)
          ·rw [if_neg c48] at H
           exact absurd H (by simp)
          rw [if_pos c48] at H
          have c48b0 := eq_true c48
          have c48b1 : decide (t202 ≤ t203) = true := decide_eq_true c48
          clear c48
          refine neg_first (p := (t203 ≤ (a0.size : Int))) (fun c49 => ?_) (fun c49 => ?_)
          ·rw [if_neg c49] at H
           exact absurd H (by simp)
          rw [if_pos c49] at H
          have c49b0 := eq_true c49
          have c49b1 : decide (t203 ≤ (a0.size : Int)) = true := decide_eq_true c49
          clear c49
          have c50b0 := eq_true (of_decide_eq_true (by first | (with_reducible assumption) | assumption) : 0 ≤ t202)
          refine neg_first (p := (t202 ≤ (a0.size : Int))) (fun c51 => ?_) (fun c51 => ?_)
          ·rw [if_neg c51] at H
           exact absurd H (by simp)
          rw [if_pos c51] at H
          have c51b0 := eq_true c51
          have c51b1 : decide (t202 ≤ (a0.size : Int)) = true := decide_eq_true c51
          clear c51
          replace H := Option.bind_eq_some_iff.mp H
          obtain ⟨t207, A520, H⟩ := H
          try dsimp only at H
          have A52 := Aside0.mk A520
          clear A520
          have H' := Aside0.mk H
          clear H
          try go_wp2
          have n0_ : Aside0 (((((w41.setCell ⟨gb206, 0, none⟩ (.int .i64 t202)).setCell ⟨gb206, 1, none⟩ (.int .i64 t203)).setCell ⟨gb206, 2, none⟩ (.int .i64 t204)).setCell ⟨gb206, 3, none⟩ (.int .i64 t205)).heap[gb192]? = some (.cells #[.int .i64 0, .int .i64 0, .string (⟨#[]⟩ : ByteArray), .string (⟨#[]⟩ : ByteArray), .int .i64 0] 29 (0, 0))) := ⟨by (with_reducible repeat (first | refine blk_drewN ?_ _ | refine blk_drew ?_ | refine blk_alloc ?_ _ | refine blk_far ?_ NB192_206.out _)); exact BK192.out⟩
          have n1_ : Aside0 (((((w41.setCell ⟨gb206, 0, none⟩ (.int .i64 t202)).setCell ⟨gb206, 1, none⟩ (.int .i64 t203)).setCell ⟨gb206, 2, none⟩ (.int .i64 t204)).setCell ⟨gb206, 3, none⟩ (.int .i64 t205)).heap[gb206]? = some (.cells #[.int .i64 t202, .int .i64 t203, .int .i64 t204, .int .i64 t205] 58 (0, 0))) := ⟨by (with_reducible repeat (first | refine blk_drewN ?_ _ | refine blk_drew ?_ | refine blk_alloc ?_ _)); refine blk_put (cs := #[.int .i64 t202, .int .i64 t203, .int .i64 t204, .int .i64 0]) ?_ 3 _ rfl; (with_reducible repeat (first | refine blk_drewN ?_ _ | refine blk_drew ?_ | refine blk_alloc ?_ _)); refine blk_put (cs := #[.int .i64 t202, .int .i64 t203, .int .i64 0, .int .i64 0]) ?_ 2 _ rfl; (with_reducible repeat (first | refine blk_drewN ?_ _ | refine blk_drew ?_ | refine blk_alloc ?_ _)); refine blk_put (cs := #[.int .i64 t202, .int .i64 0, .int .i64 0, .int .i64 0]) ?_ 1 _ rfl; (with_reducible repeat (first | refine blk_drewN ?_ _ | refine blk_drew ?_ | refine blk_alloc ?_ _)); refine blk_put (cs := #[.int .i64 0, .int .i64 0, .int .i64 0, .int .i64 0]) ?_ 0 _ rfl; (with_reducible repeat (first | refine blk_drewN ?_ _ | refine blk_drew ?_ | refine blk_alloc ?_ _)); exact BK206.out⟩
          have n2_ : Aside0 (Below w.heap.size w ((((w41.setCell ⟨gb206, 0, none⟩ (.int .i64 t202)).setCell ⟨gb206, 1, none⟩ (.int .i64 t203)).setCell ⟨gb206, 2, none⟩ (.int .i64 t204)).setCell ⟨gb206, 3, none⟩ (.int .i64 t205))) := ⟨by repeat (first | (with_reducible first | exact HB.out | apply below_alloc | apply pw_below_drewN | apply below_drew1 | refine below_set ?_ GE192.out | refine below_set ?_ GE206.out) | exact HB.out)⟩
          (try clear BK192)
          (try clear BK206)
          (try clear HB)
          generalize ((((w41.setCell ⟨gb206, 0, none⟩ (.int .i64 t202)).setCell ⟨gb206, 1, none⟩ (.int .i64 t203)).setCell ⟨gb206, 2, none⟩ (.int .i64 t204)).setCell ⟨gb206, 3, none⟩ (.int .i64 t205)) = w53 at n0_ n1_ n2_ ⊢
          have BK192 := n0_
          have BK206 := n1_
          have HB := n2_
          clear n0_ n1_ n2_
          have n0_ := Aside0.mk (blk_drew BK192.out)
          have n1_ := Aside0.mk (blk_drew BK206.out)
          have n2_ := Aside0.mk (below_drew1 HB.out)
          clear BK192
          clear BK206
          clear HB
          have BK192 := n0_
          have BK206 := n1_
          have HB := n2_
          clear n0_ n1_ n2_
          refine start_ (n := 26) (S := fun w' => w'.cell? ⟨gb206, 0, none⟩ = some (.int .i64 t202) ∧ w'.cell? ⟨gb206, 1, none⟩ = some (.int .i64 t203) ∧ w'.cell? ⟨gb206, 2, none⟩ = some (.int .i64 t204) ∧ w'.cell? ⟨gb206, 3, none⟩ = some (.int .i64 t205)) (ds := []) d10x0 (by kernel_rfl) rfl rfl ⟨(blk_cell BK206.out 0).trans rfl, (blk_cell BK206.out 1).trans rfl, (blk_cell BK206.out 2).trans rfl, (blk_cell BK206.out 3).trans rfl⟩ (fun hHeld => ?_); refine with_tabW headgateref29_Get.tab17 headgateref29_Get.bits17 (fun HT_ HW_ => ?_)
          generalize w53.drew = w54 at BK192 BK206 HB hHeld ⊢
          refine pon_ 0 (some 84) d10x3 HT_.out ?_
          refine pon_ 1 (some 85) d10x7 HT_.out ?_
          refine pon_ 2 (some 86) d10x10 HT_.out ?_
          refine pon_ 3 (some 87) d10x13 HT_.out ?_
          refine pon_ 4 (some 88) d10x20 HT_.out ?_
          refine pon_ 5 (some 89) d10x24 HT_.out ?_
          refine pon_ 6 (some 90) d10x27 HT_.out ?_
          refine pon_ 7 (some 91) d10x30 HT_.out ?_
          refine pon_ 8 (some 92) d10x37 HT_.out ?_
          refine ptk_ 9 (some 93) d10x40 HT_.out HW_.out hHeld ?_
          refine pon_ 10 (some 94) d10x45 HT_.out ?_
          refine pon_ 11 (some 95) d10x50 HT_.out ?_
          refine pon_ 12 (some 96) d10x56 HT_.out ?_
          refine pon_ 13 (some 97) d10x59 HT_.out ?_
          refine pon_ 14 (some 98) d10x62 HT_.out ?_
          refine pon_ 16 (some 100) d10x65 HT_.out ?_
          refine pon_ 19 (some 103) d10x66 HT_.out ?_
          refine pon_ 20 (some 104) d10x67 HT_.out ?_
          refine ptk_ 15 (some 99) d10x72 HT_.out HW_.out hHeld ?_
          refine ptk_ 17 (some 101) d10x75 HT_.out HW_.out hHeld ?_
          refine pon_ 18 (some 102) d10x78 HT_.out ?_
          refine ptk_ 21 (some 105) d10x79 HT_.out HW_.out hHeld ?_
          refine pon_ 22 (some 106) d10x80 HT_.out ?_
          refine one_ (i := 23) (N := some 107) d10x81 rfl rfl (one_of HT_.out (by kernel_rfl)) (by decide) (fun K hK => ?_)
          refine goes_ Tryd.func26 (by kernel_rfl) rfl #[.string (a0.extract 0 (t202 : Int).toNat)] (by rfl) rfl rfl (by (try simp only [List.map_toArray, List.map_cons, List.map_nil]); first | done | rfl | (simp only [List.length_drop, List.length_take]; rfl)) ?_
          with_reducible refine (headgateref02_Digest.calls kj25 (a0.extract 0 (t202 : Int).toNat) t207 _ A52.out).mono ?_
          rintro e w55 ⟨rfl, hb⟩
          refine ⟨_, rfl, ?_⟩
          have n0_ := Aside0.mk (blk_below (g := gb192) (o := .cells #[.int .i64 0, .int .i64 0, .string (⟨#[]⟩ : ByteArray), .string (⟨#[]⟩ : ByteArray), .int .i64 0] 29 (0, 0)) (by (with_reducible repeat (first | refine blk_drewN ?_ _ | refine blk_drew ?_ | refine blk_alloc ?_ _)); exact BK192.out) hb)
          have n1_ := Aside0.mk (blk_below (g := gb206) (o := .cells #[.int .i64 t202, .int .i64 t203, .int .i64 t204, .int .i64 t205] 58 (0, 0)) (by (with_reducible repeat (first | refine blk_drewN ?_ _ | refine blk_drew ?_ | refine blk_alloc ?_ _)); exact BK206.out) hb)
          have n2_ := Aside0.mk (below_step (by repeat (first | (with_reducible first | exact HB.out | apply below_alloc | apply pw_below_drewN | apply below_drew1 | refine below_set ?_ GE192.out | refine below_set ?_ GE206.out) | exact HB.out)) hb)
          clear BK192
          clear BK206
          clear HB
          have BK192 := n0_
          have BK206 := n1_
          have HB := n2_
          clear n0_ n1_ n2_
          (try clear hb)
          (try clear hb2)
          (try clear hk)
          (try clear hi)
          refine hK.out _ _ ⟨(blk_cell BK206.out 0).trans rfl, (blk_cell BK206.out 1).trans rfl, (blk_cell BK206.out 2).trans rfl, (blk_cell BK206.out 3).trans rfl⟩ (fun hHeld => ?_)
          clear hK K
          refine norm_ (a' := ?_) ?_ ?_
          rotate_left
          ·show Act.put _ (some 107) _ = _
           simp only [Act.put, la_, lb_, lc_, i64_w, i32_w]
           rfl
          refine pon_ 24 (some 108) d10x82 HT_.out ?_
          refine pon_ 25 (some 109) d10x83 HT_.out ?_
          refine done_ (done_of HT_.out (by kernel_rfl)) ?_
          try go_wp2
          go_meet
          case rel => exact ⟨_, (((a0.extract (t202 : Int).toNat (t203 : Int).toNat).toList != t207.toList)), (by first | rfl | (simp; done) | (simp [*]; done)), H', ⟨by have := HJ9.out; have := HK2.out; have := HJ17.out; have := HJ25.out; first | omega | exact Nat.le_refl _⟩, ⟨by (with_reducible repeat (first | refine blk_drewN ?_ _ | refine blk_drew ?_ | refine blk_alloc ?_ _)); exact BK192.out⟩, ⟨by (with_reducible repeat (first | refine blk_drewN ?_ _ | refine blk_drew ?_ | refine blk_alloc ?_ _)); exact BK206.out⟩, ⟨by repeat (first | (with_reducible first | exact HB.out | apply below_alloc | apply pw_below_drewN | apply below_drew1 | refine below_set ?_ GE192.out | refine below_set ?_ GE206.out) | exact HB.out)⟩⟩
         case rest =>
          clear HC39
          try clear c2
          try clear p2
          try clear c4
          try clear c5
          try clear p6
          try clear c26
          try clear c44
          try clear c45
          try clear c45b0
          try clear c46
          try clear c46b0
          try clear c47
          try clear c48
          try clear c49
          try clear c51
          obtain ⟨kq, x109_38, rfl, HA, HJ38, BK192, BK206, HB⟩ := hcut
          cases kq with
          | zero => exact absurd HA.out (by simp [headgateref29_Get.j4])
          | succ kj38 =>
           have H := HA.out
           clear HA
           simp only [headgateref29_Get.j4] at H
           by_cases c62 : x109_38 = true
           ·subst c62
            have H1 := H
            rw [if_pos rfl] at H1
            clear H
            have H := H1
            clear H1
            simp only [Option.some.injEq, Prod.mk.injEq] at H
            obtain ⟨rfl, rfl, rfl, rfl, rfl, rfl⟩ := H
            have hnb63 := NB192_206.out
            have hnc63 := NB206_192.out
            have hcz64_0 : wc.cell? ⟨gb192, 0, none⟩ = some (.int .i64 0) := (blk_cell BK192.out 0).trans rfl
            have hcz64_1 : wc.cell? ⟨gb192, 1, none⟩ = some (.int .i64 0) := (blk_cell BK192.out 1).trans rfl
            have hcz64_2 : wc.cell? ⟨gb192, 2, none⟩ = some (.string (⟨#[]⟩ : ByteArray)) := (blk_cell BK192.out 2).trans rfl
            have hcz64_3 : wc.cell? ⟨gb192, 3, none⟩ = some (.string (⟨#[]⟩ : ByteArray)) := (blk_cell BK192.out 3).trans rfl
            have hcz64_4 : wc.cell? ⟨gb192, 4, none⟩ = some (.int .i64 0) := (blk_cell BK192.out 4).trans rfl
            have hfz64_0 := blk_frozen BK192.out 0
            have hfz64_1 := blk_frozen BK192.out 1
            have hfz64_2 := blk_frozen BK192.out 2
            have hfz64_3 := blk_frozen BK192.out 3
            have hfz64_4 := blk_frozen BK192.out 4
            go_wp2
            refine bodyPost_ret (results_ct rfl _ _ gb192 29 #[.int .i64 0, .int .i64 0, .string (⟨#[]⟩ : ByteArray), .string (⟨#[]⟩ : ByteArray), .int .i64 0] (0, 0) _ rfl (by (with_reducible repeat (first | refine blk_drewN ?_ _ | refine blk_drew ?_ | refine blk_alloc ?_ _)); refine blk_put (cs := #[.int .i64 0, .int .i64 0, .string (⟨#[]⟩ : ByteArray), .string (⟨#[]⟩ : ByteArray), .int .i64 0]) ?_ 4 _ rfl; (with_reducible repeat (first | refine blk_drewN ?_ _ | refine blk_drew ?_ | refine blk_alloc ?_ _)); refine blk_put (cs := #[.int .i64 0, .int .i64 0, .string (⟨#[]⟩ : ByteArray), .string (⟨#[]⟩ : ByteArray), .int .i64 0]) ?_ 3 _ rfl; (with_reducible repeat (first | refine blk_drewN ?_ _ | refine blk_drew ?_ | refine blk_alloc ?_ _)); refine blk_put (cs := #[.int .i64 0, .int .i64 0, .string (⟨#[]⟩ : ByteArray), .string (⟨#[]⟩ : ByteArray), .int .i64 0]) ?_ 2 _ rfl; (with_reducible repeat (first | refine blk_drewN ?_ _ | refine blk_drew ?_ | refine blk_alloc ?_ _)); refine blk_put (cs := #[.int .i64 0, .int .i64 0, .string (⟨#[]⟩ : ByteArray), .string (⟨#[]⟩ : ByteArray), .int .i64 0]) ?_ 1 _ rfl; (with_reducible repeat (first | refine blk_drewN ?_ _ | refine blk_drew ?_ | refine blk_alloc ?_ _)); refine blk_put (cs := #[.int .i64 0, .int .i64 0, .string (⟨#[]⟩ : ByteArray), .string (⟨#[]⟩ : ByteArray), .int .i64 0]) ?_ 0 _ rfl; (with_reducible repeat (first | refine blk_drewN ?_ _ | refine blk_drew ?_ | refine blk_alloc ?_ _)); exact BK192.out) Tryd.underlying29 rfl (by kernel_rfl)) rfl ?_
            exact ⟨by first | rfl | (simp [errW_none, errW_some] <;> rfl) | (simp [*, errW_none, errW_some] <;> rfl) | (simp [bt, *]; done) | (unfold bt; simp [*]; done), by repeat (first | (with_reducible first | exact HB.out | apply below_alloc | apply pw_below_drewN | apply below_drew1 | refine below_set ?_ GE192.out | refine below_set ?_ GE206.out) | exact HB.out)⟩
           replace c62 := Bool.eq_false_iff.mpr c62
           subst c62
           have H1 := H
           rw [if_neg (show ¬ (false = true) by decide)] at H1
           clear H
           have H := H1
           clear H1
           by_cases c65 : (a0.size : Int) < t205
           ·rw [if_pos c65] at H
            have c65b0 : decide ((a0.size : Int) < t205) = true := decide_eq_true c65
            clear c65
            simp only [Option.some.injEq, Prod.mk.injEq] at H
            obtain ⟨rfl, rfl, rfl, rfl, rfl, rfl⟩ := H
            have hnb66 := NB206_192.out
            have hnc66 := NB192_206.out
            have hcz67_0 : wc.cell? ⟨gb206, 0, none⟩ = some (.int .i64 t202) := (blk_cell BK206.out 0).trans rfl
            have hcz67_1 : wc.cell? ⟨gb206, 1, none⟩ = some (.int .i64 t203) := (blk_cell BK206.out 1).trans rfl
            have hcz67_2 : wc.cell? ⟨gb206, 2, none⟩ = some (.int .i64 t204) := (blk_cell BK206.out 2).trans rfl
            have hcz67_3 : wc.cell? ⟨gb206, 3, none⟩ = some (.int .i64 t205) := (blk_cell BK206.out 3).trans rfl
            have hfz67_0 := blk_frozen BK206.out 0
            have hfz67_1 := blk_frozen BK206.out 1
            have hfz67_2 := blk_frozen BK206.out 2
            have hfz67_3 := blk_frozen BK206.out 3
            have hcz68_0 : wc.cell? ⟨gb192, 0, none⟩ = some (.int .i64 0) := (blk_cell BK192.out 0).trans rfl
            have hcz68_1 : wc.cell? ⟨gb192, 1, none⟩ = some (.int .i64 0) := (blk_cell BK192.out 1).trans rfl
            have hcz68_2 : wc.cell? ⟨gb192, 2, none⟩ = some (.string (⟨#[]⟩ : ByteArray)) := (blk_cell BK192.out 2).trans rfl
            have hcz68_3 : wc.cell? ⟨gb192, 3, none⟩ = some (.string (⟨#[]⟩ : ByteArray)) := (blk_cell BK192.out 3).trans rfl
            have hcz68_4 : wc.cell? ⟨gb192, 4, none⟩ = some (.int .i64 0) := (blk_cell BK192.out 4).trans rfl
            have hfz68_0 := blk_frozen BK192.out 0
            have hfz68_1 := blk_frozen BK192.out 1
            have hfz68_2 := blk_frozen BK192.out 2
            have hfz68_3 := blk_frozen BK192.out 3
            have hfz68_4 := blk_frozen BK192.out 4
            go_wp2
            refine bodyPost_ret (results_ct rfl _ _ gb192 29 #[.int .i64 0, .int .i64 0, .string (⟨#[]⟩ : ByteArray), .string (⟨#[]⟩ : ByteArray), .int .i64 0] (0, 0) _ rfl (by (with_reducible repeat (first | refine blk_drewN ?_ _ | refine blk_drew ?_ | refine blk_alloc ?_ _)); refine blk_put (cs := #[.int .i64 0, .int .i64 0, .string (⟨#[]⟩ : ByteArray), .string (⟨#[]⟩ : ByteArray), .int .i64 0]) ?_ 4 _ rfl; (with_reducible repeat (first | refine blk_drewN ?_ _ | refine blk_drew ?_ | refine blk_alloc ?_ _)); refine blk_put (cs := #[.int .i64 0, .int .i64 0, .string (⟨#[]⟩ : ByteArray), .string (⟨#[]⟩ : ByteArray), .int .i64 0]) ?_ 3 _ rfl; (with_reducible repeat (first | refine blk_drewN ?_ _ | refine blk_drew ?_ | refine blk_alloc ?_ _)); refine blk_put (cs := #[.int .i64 0, .int .i64 0, .string (⟨#[]⟩ : ByteArray), .string (⟨#[]⟩ : ByteArray), .int .i64 0]) ?_ 2 _ rfl; (with_reducible repeat (first | refine blk_drewN ?_ _ | refine blk_drew ?_ | refine blk_alloc ?_ _)); refine blk_put (cs := #[.int .i64 0, .int .i64 0, .string (⟨#[]⟩ : ByteArray), .string (⟨#[]⟩ : ByteArray), .int .i64 0]) ?_ 1 _ rfl; (with_reducible repeat (first | refine blk_drewN ?_ _ | refine blk_drew ?_ | refine blk_alloc ?_ _)); refine blk_put (cs := #[.int .i64 0, .int .i64 0, .string (⟨#[]⟩ : ByteArray), .string (⟨#[]⟩ : ByteArray), .int .i64 0]) ?_ 0 _ rfl; (with_reducible repeat (first | refine blk_drewN ?_ _ | refine blk_drew ?_ | refine blk_alloc ?_ _)); exact BK192.out) Tryd.underlying29 rfl (by kernel_rfl)) rfl ?_
            exact ⟨by first | rfl | (simp [errW_none, errW_some] <;> rfl) | (simp [*, errW_none, errW_some] <;> rfl) | (simp [bt, *]; done) | (unfold bt; simp [*]; done), by repeat (first | (with_reducible first | exact HB.out | apply below_alloc | apply pw_below_drewN | apply below_drew1 | refine below_set ?_ GE192.out | refine below_set ?_ GE206.out) | exact HB.out)⟩
           rw [if_neg c65] at H
           have c65b0 : decide ((a0.size : Int) < t205) = false := decide_eq_false c65
           clear c65
           refine neg_first (p := (8 ≤ t202)) (fun c69 => ?_) (fun c69 => ?_)
           ·rw [if_neg c69] at H
            exact absurd H (by simp)
           rw [if_pos c69] at H
           have c69b0 := eq_true c69
           have c69b1 : decide (8 ≤ t202) = true := decide_eq_true c69
           clear c69
           refine neg_first (p := (t202 ≤ (a0.size : Int))) (fun c70 => ?_) (fun c70 => ?_)
           ·rw [if_neg c70] at H
            exact absurd H (by simp)
           rw [if_pos c70] at H
           have c70b0 := eq_true c70
           have c70b1 : decide (t202 ≤ (a0.size : Int)) = true := decide_eq_true c70
           clear c70
           refine neg_first (p := (0 ≤ t203)) (fun c71 => ?_) (fun c71 => ?_)
           ·rw [if_neg c71] at H
            exact absurd H (by simp)
           rw [if_pos c71] at H
           have c71b0 := eq_true c71
           have c71b1 : decide (0 ≤ t203) = true := decide_eq_true c71
           clear c71
           refine neg_first (p := (t203 ≤ t204)) (fun c72 => ?_) (fun c72 => ?_)
           ·rw [if_neg c72] at H
            exact absurd H (by simp)
           rw [if_pos c72] at H
           have c72b0 := eq_true c72
           have c72b1 : decide (t203 ≤ t204) = true := decide_eq_true c72
           clear c72
           refine neg_first (p := (t204 ≤ (a0.size : Int))) (fun c73 => ?_) (fun c73 => ?_)
           ·rw [if_neg c73] at H
            exact absurd H (by simp)
           rw [if_pos c73] at H
           have c73b0 := eq_true c73
           have c73b1 : decide (t204 ≤ (a0.size : Int)) = true := decide_eq_true c73
           clear c73
           refine neg_first (p := (t205 > t204)) (fun c74 => ?_) (fun c74 => ?_)
           ·rw [if_neg c74] at H
            have c74b0 : decide (t204 < t205) = false := decide_eq_false c74
            clear c74
            simp only [Option.some.injEq, Prod.mk.injEq] at H
            obtain ⟨rfl, rfl, rfl, rfl, rfl, rfl⟩ := H
            have hnb112 := NB206_192.out
            have hnc112 := NB192_206.out
            have hcz113_0 : wc.cell? ⟨gb206, 0, none⟩ = some (.int .i64 t202) := (blk_cell BK206.out 0).trans rfl
            have hcz113_1 : wc.cell? ⟨gb206, 1, none⟩ = some (.int .i64 t203) := (blk_cell BK206.out 1).trans rfl
            have hcz113_2 : wc.cell? ⟨gb206, 2, none⟩ = some (.int .i64 t204) := (blk_cell BK206.out 2).trans rfl
            have hcz113_3 : wc.cell? ⟨gb206, 3, none⟩ = some (.int .i64 t205) := (blk_cell BK206.out 3).trans rfl
            have hfz113_0 := blk_frozen BK206.out 0
            have hfz113_1 := blk_frozen BK206.out 1
            have hfz113_2 := blk_frozen BK206.out 2
            have hfz113_3 := blk_frozen BK206.out 3
            try go_wp2
            have n0_ := Aside0.mk (blk_drew BK192.out)
            have n1_ := Aside0.mk (blk_drew BK206.out)
            have n2_ := Aside0.mk (below_drew1 HB.out)
            clear BK192
            clear BK206
            clear HB
            have BK192 := n0_
            have BK206 := n1_
            have HB := n2_
            clear n0_ n1_ n2_
            refine start_ (n := 18) (S := fun w' => w'.cell? ⟨gb206, 0, none⟩ = some (.int .i64 t202) ∧ w'.cell? ⟨gb206, 1, none⟩ = some (.int .i64 t203) ∧ w'.cell? ⟨gb206, 2, none⟩ = some (.int .i64 t204) ∧ w'.cell? ⟨gb206, 3, none⟩ = some (.int .i64 t205)) (ds := []) d10x1 (by kernel_rfl) rfl rfl ⟨(blk_cell BK206.out 0).trans rfl, (blk_cell BK206.out 1).trans rfl, (blk_cell BK206.out 2).trans rfl, (blk_cell BK206.out 3).trans rfl⟩ (fun hHeld => ?_); refine with_tabW headgateref29_Get.tab21 headgateref29_Get.bits21 (fun HT_ HW_ => ?_)
            generalize wc.drew = w114 at BK192 BK206 HB hHeld ⊢
            refine pon_ 0 (some 117) d10x4 HT_.out ?_
            refine pon_ 1 (some 118) d10x8 HT_.out ?_
            refine pon_ 2 (some 119) d10x11 HT_.out ?_
            refine pon_ 3 (some 120) d10x14 HT_.out ?_
            refine pon_ 6 (some 123) d10x16 HT_.out ?_
            refine pon_ 7 (some 124) d10x17 HT_.out ?_
            refine pon_ 9 (some 126) d10x18 HT_.out ?_
            refine pon_ 13 (some 130) d10x19 HT_.out ?_
            refine ptk_ 4 (some 121) d10x23 HT_.out HW_.out hHeld ?_
            refine pon_ 5 (some 122) d10x34 HT_.out ?_
            refine ptk_ 8 (some 125) d10x43 HT_.out HW_.out hHeld ?_
            refine ptk_ 10 (some 127) d10x48 HT_.out HW_.out hHeld ?_
            refine pon_ 11 (some 128) d10x53 HT_.out ?_
            refine pon_ 12 (some 129) d10x60 HT_.out ?_
            refine ptk_ 14 (some 131) d10x63 HT_.out HW_.out hHeld ?_
            refine pon_ 15 (some 132) d10x69 HT_.out ?_
            refine one_ (i := 16) (N := some 15) d10x73 rfl rfl (one_of HT_.out (by kernel_rfl)) (by decide) (fun K hK => ?_)
            refine box_step ?hg (N := 15) ?hd (cs := #[.int .i64 0, .int .i64 0, .string (⟨#[]⟩ : ByteArray), .string (⟨#[]⟩ : ByteArray), .int .i64 0]) (t := 29) ?hr ?_; (case hd => rfl); (case hg => rfl); (case hr => first | (go_simp; done) | (go_simp; rfl))
            intro gb208 hg w115 hbox hb
            have n0_ := Aside0.mk (blk_below (g := gb192) (o := .cells #[.int .i64 0, .int .i64 0, .string (⟨#[]⟩ : ByteArray), .string (⟨#[]⟩ : ByteArray), .int .i64 0] 29 (0, 0)) (by (with_reducible repeat (first | refine blk_drewN ?_ _ | refine blk_drew ?_ | refine blk_alloc ?_ _)); exact BK192.out) hb)
            have n1_ := Aside0.mk (blk_below (g := gb206) (o := .cells #[.int .i64 t202, .int .i64 t203, .int .i64 t204, .int .i64 t205] 58 (0, 0)) (by (with_reducible repeat (first | refine blk_drewN ?_ _ | refine blk_drew ?_ | refine blk_alloc ?_ _)); exact BK206.out) hb)
            have n2_ := Aside0.mk (below_step (by repeat (first | (with_reducible first | exact HB.out | apply below_alloc | apply pw_below_drewN | apply below_drew1 | refine below_set ?_ GE192.out | refine below_set ?_ GE206.out) | exact HB.out)) hb)
            have n3_ := Aside0.mk (hbox)
            have n4_ := Aside0.mk ((by rw [hg]; exact (below_size (by repeat (first | (with_reducible first | exact HB.out | apply below_alloc | apply pw_below_drewN | apply below_drew1 | refine below_set ?_ GE192.out | refine below_set ?_ GE206.out) | exact HB.out))) : w.heap.size ≤ gb208))
            have n5_ := Aside0.mk ((by rw [hg]; exact (below_size (by repeat (first | (with_reducible first | exact HB.out | apply below_alloc | apply pw_below_drewN | apply below_drew1 | refine below_set ?_ GE192.out | refine below_set ?_ GE206.out) | exact HB.out))) : w.heap.size ≤ gb208))
            have n6_ := Aside0.mk ((by rw [hg]; exact Nat.ne_of_lt (blk_lt (g := gb192) (o := .cells #[.int .i64 0, .int .i64 0, .string (⟨#[]⟩ : ByteArray), .string (⟨#[]⟩ : ByteArray), .int .i64 0] 29 (0, 0)) (by (with_reducible repeat (first | refine blk_drewN ?_ _ | refine blk_drew ?_ | refine blk_alloc ?_ _)); exact BK192.out)) : gb192 ≠ gb208))
            have n7_ := Aside0.mk ((by rw [hg]; exact Nat.ne_of_gt (blk_lt (g := gb192) (o := .cells #[.int .i64 0, .int .i64 0, .string (⟨#[]⟩ : ByteArray), .string (⟨#[]⟩ : ByteArray), .int .i64 0] 29 (0, 0)) (by (with_reducible repeat (first | refine blk_drewN ?_ _ | refine blk_drew ?_ | refine blk_alloc ?_ _)); exact BK192.out)) : gb208 ≠ gb192))
            have n8_ := Aside0.mk ((by rw [hg]; exact Nat.ne_of_lt (blk_lt (g := gb206) (o := .cells #[.int .i64 t202, .int .i64 t203, .int .i64 t204, .int .i64 t205] 58 (0, 0)) (by (with_reducible repeat (first | refine blk_drewN ?_ _ | refine blk_drew ?_ | refine blk_alloc ?_ _)); exact BK206.out)) : gb206 ≠ gb208))
            have n9_ := Aside0.mk ((by rw [hg]; exact Nat.ne_of_gt (blk_lt (g := gb206) (o := .cells #[.int .i64 t202, .int .i64 t203, .int .i64 t204, .int .i64 t205] 58 (0, 0)) (by (with_reducible repeat (first | refine blk_drewN ?_ _ | refine blk_drew ?_ | refine blk_alloc ?_ _)); exact BK206.out)) : gb208 ≠ gb206))
            clear BK192
            clear BK206
            clear HB
            have BK192 := n0_
            have BK206 := n1_
            have HB := n2_
            have BK208 := n3_
            have GW208 := n4_
            have GE208 := n5_
            have NB192_208 := n6_
            have NB208_192 := n7_
            have NB206_208 := n8_
            have NB208_206 := n9_
            clear n0_ n1_ n2_ n3_ n4_ n5_ n6_ n7_ n8_ n9_
            clear hb hbox hg
            refine hK.out _ _ ⟨(blk_cell BK206.out 0).trans rfl, (blk_cell BK206.out 1).trans rfl, (blk_cell BK206.out 2).trans rfl, (blk_cell BK206.out 3).trans rfl⟩ (fun hHeld => ?_)
            clear hK K
            refine norm_ (a' := ?_) ?_ ?_
            rotate_left
            ·show Act.put _ (some 15) _ = _
             simp only [Act.put, la_, lb_, lc_, i64_w, i32_w]
             rfl
            refine one_ (i := 17) (N := none) d10x84 rfl rfl (one_of HT_.out (by kernel_rfl)) (by decide) (fun K hK => ?_)
            have hs116 : w115.cell? ⟨gb208, 0, none⟩ = some (.int .i64 0) := (blk_cell BK208.out 0).trans rfl
            have hfs116 := blk_frozen BK208.out 0
            have hns116_0 := NB192_208.out
            have hns116_1 := NB206_208.out
            have hms116_0 := NB208_192.out
            have hms116_1 := NB208_206.out
            have hs117 : w115.cell? ⟨gb208, 1, none⟩ = some (.int .i64 0) := (blk_cell BK208.out 1).trans rfl
            have hfs117 := blk_frozen BK208.out 1
            have hns117_0 := NB192_208.out
            have hns117_1 := NB206_208.out
            have hms117_0 := NB208_192.out
            have hms117_1 := NB208_206.out
            have hs118 : w115.cell? ⟨gb208, 2, none⟩ = some (.string (⟨#[]⟩ : ByteArray)) := (blk_cell BK208.out 2).trans rfl
            have hfs118 := blk_frozen BK208.out 2
            have hns118_0 := NB192_208.out
            have hns118_1 := NB206_208.out
            have hms118_0 := NB208_192.out
            have hms118_1 := NB208_206.out
            have hs119 : w115.cell? ⟨gb208, 3, none⟩ = some (.string (⟨#[]⟩ : ByteArray)) := (blk_cell BK208.out 3).trans rfl
            have hfs119 := blk_frozen BK208.out 3
            have hns119_0 := NB192_208.out
            have hns119_1 := NB206_208.out
            have hms119_0 := NB208_192.out
            have hms119_1 := NB208_206.out
            have hs120 : w115.cell? ⟨gb208, 4, none⟩ = some (.int .i64 0) := (blk_cell BK208.out 4).trans rfl
            have hfs120 := blk_frozen BK208.out 4
            have hns120_0 := NB192_208.out
            have hns120_1 := NB206_208.out
            have hms120_0 := NB208_192.out
            have hms120_1 := NB208_206.out
            refine skip_ (w1 := ?_) (by rfl) rfl ?_ ?_
            rotate_left
            ·go_simp
             rfl
            refine hK.out _ _ ⟨((cell_far (p := ⟨gb208, _, none⟩) NB206_208.out _).trans (((cell_far (p := ⟨gb208, _, none⟩) NB206_208.out _).trans (((cell_far (p := ⟨gb208, _, none⟩) NB206_208.out _).trans (((cell_far (p := ⟨gb208, _, none⟩) NB206_208.out _).trans (((cell_far (p := ⟨gb208, _, none⟩) NB206_208.out _).trans (hHeld.1)))))))))), ((cell_far (p := ⟨gb208, _, none⟩) NB206_208.out _).trans (((cell_far (p := ⟨gb208, _, none⟩) NB206_208.out _).trans (((cell_far (p := ⟨gb208, _, none⟩) NB206_208.out _).trans (((cell_far (p := ⟨gb208, _, none⟩) NB206_208.out _).trans (((cell_far (p := ⟨gb208, _, none⟩) NB206_208.out _).trans (hHeld.2.1)))))))))), ((cell_far (p := ⟨gb208, _, none⟩) NB206_208.out _).trans (((cell_far (p := ⟨gb208, _, none⟩) NB206_208.out _).trans (((cell_far (p := ⟨gb208, _, none⟩) NB206_208.out _).trans (((cell_far (p := ⟨gb208, _, none⟩) NB206_208.out _).trans (((cell_far (p := ⟨gb208, _, none⟩) NB206_208.out _).trans (hHeld.2.2.1)))))))))), ((cell_far (p := ⟨gb208, _, none⟩) NB206_208.out _).trans (((cell_far (p := ⟨gb208, _, none⟩) NB206_208.out _).trans (((cell_far (p := ⟨gb208, _, none⟩) NB206_208.out _).trans (((cell_far (p := ⟨gb208, _, none⟩) NB206_208.out _).trans (((cell_far (p := ⟨gb208, _, none⟩) NB206_208.out _).trans (hHeld.2.2.2))))))))))⟩ (fun hHeld => ?_)
            clear hK K
            refine done_ (done_of HT_.out (by kernel_rfl)) ?_
            try go_wp2
            have n0_ : Aside0 ((((((w115.setCell ⟨gb208, 0, none⟩ (.int .i64 (wrap64 (bt a0 0)))).setCell ⟨gb208, 1, none⟩ (.int .i64 (wrap64 ((wrap64 (Int.tdiv (wrap64 (bt a0 1)) 4)) * 4)))).setCell ⟨gb208, 2, none⟩ (.string (a0.extract 8 (t202 : Int).toNat))).setCell ⟨gb208, 3, none⟩ (.string (a0.extract (t203 : Int).toNat (t204 : Int).toNat))).setCell ⟨gb208, 4, none⟩ (.int .i64 t205)).heap[gb192]? = some (.cells #[.int .i64 0, .int .i64 0, .string (⟨#[]⟩ : ByteArray), .string (⟨#[]⟩ : ByteArray), .int .i64 0] 29 (0, 0))) := ⟨by (with_reducible repeat (first | refine blk_drewN ?_ _ | refine blk_drew ?_ | refine blk_alloc ?_ _ | refine blk_far ?_ NB192_208.out _)); exact BK192.out⟩
            have n1_ : Aside0 ((((((w115.setCell ⟨gb208, 0, none⟩ (.int .i64 (wrap64 (bt a0 0)))).setCell ⟨gb208, 1, none⟩ (.int .i64 (wrap64 ((wrap64 (Int.tdiv (wrap64 (bt a0 1)) 4)) * 4)))).setCell ⟨gb208, 2, none⟩ (.string (a0.extract 8 (t202 : Int).toNat))).setCell ⟨gb208, 3, none⟩ (.string (a0.extract (t203 : Int).toNat (t204 : Int).toNat))).setCell ⟨gb208, 4, none⟩ (.int .i64 t205)).heap[gb206]? = some (.cells #[.int .i64 t202, .int .i64 t203, .int .i64 t204, .int .i64 t205] 58 (0, 0))) := ⟨by (with_reducible repeat (first | refine blk_drewN ?_ _ | refine blk_drew ?_ | refine blk_alloc ?_ _ | refine blk_far ?_ NB206_208.out _)); exact BK206.out⟩
            have n2_ : Aside0 ((((((w115.setCell ⟨gb208, 0, none⟩ (.int .i64 (wrap64 (bt a0 0)))).setCell ⟨gb208, 1, none⟩ (.int .i64 (wrap64 ((wrap64 (Int.tdiv (wrap64 (bt a0 1)) 4)) * 4)))).setCell ⟨gb208, 2, none⟩ (.string (a0.extract 8 (t202 : Int).toNat))).setCell ⟨gb208, 3, none⟩ (.string (a0.extract (t203 : Int).toNat (t204 : Int).toNat))).setCell ⟨gb208, 4, none⟩ (.int .i64 t205)).heap[gb208]? = some (.cells #[.int .i64 (wrap64 (bt a0 0)), .int .i64 (wrap64 ((wrap64 (Int.tdiv (wrap64 (bt a0 1)) 4)) * 4)), .string (a0.extract 8 (t202 : Int).toNat), .string (a0.extract (t203 : Int).toNat (t204 : Int).toNat), .int .i64 t205] 29 (0, 0))) := ⟨by (with_reducible repeat (first | refine blk_drewN ?_ _ | refine blk_drew ?_ | refine blk_alloc ?_ _)); refine blk_put (cs := #[.int .i64 (wrap64 (bt a0 0)), .int .i64 (wrap64 ((wrap64 (Int.tdiv (wrap64 (bt a0 1)) 4)) * 4)), .string (a0.extract 8 (t202 : Int).toNat), .string (a0.extract (t203 : Int).toNat (t204 : Int).toNat), .int .i64 0]) ?_ 4 _ rfl; (with_reducible repeat (first | refine blk_drewN ?_ _ | refine blk_drew ?_ | refine blk_alloc ?_ _)); refine blk_put (cs := #[.int .i64 (wrap64 (bt a0 0)), .int .i64 (wrap64 ((wrap64 (Int.tdiv (wrap64 (bt a0 1)) 4)) * 4)), .string (a0.extract 8 (t202 : Int).toNat), .string (⟨#[]⟩ : ByteArray), .int .i64 0]) ?_ 3 _ rfl; (with_reducible repeat (first | refine blk_drewN ?_ _ | refine blk_drew ?_ | refine blk_alloc ?_ _)); refine blk_put (cs := #[.int .i64 (wrap64 (bt a0 0)), .int .i64 (wrap64 ((wrap64 (Int.tdiv (wrap64 (bt a0 1)) 4)) * 4)), .string (⟨#[]⟩ : ByteArray), .string (⟨#[]⟩ : ByteArray), .int .i64 0]) ?_ 2 _ rfl; (with_reducible repeat (first | refine blk_drewN ?_ _ | refine blk_drew ?_ | refine blk_alloc ?_ _)); refine blk_put (cs := #[.int .i64 (wrap64 (bt a0 0)), .int .i64 0, .string (⟨#[]⟩ : ByteArray), .string (⟨#[]⟩ : ByteArray), .int .i64 0]) ?_ 1 _ rfl; (with_reducible repeat (first | refine blk_drewN ?_ _ | refine blk_drew ?_ | refine blk_alloc ?_ _)); refine blk_put (cs := #[.int .i64 0, .int .i64 0, .string (⟨#[]⟩ : ByteArray), .string (⟨#[]⟩ : ByteArray), .int .i64 0]) ?_ 0 _ rfl; (with_reducible repeat (first | refine blk_drewN ?_ _ | refine blk_drew ?_ | refine blk_alloc ?_ _)); exact BK208.out⟩
            have n3_ : Aside0 (Below w.heap.size w (((((w115.setCell ⟨gb208, 0, none⟩ (.int .i64 (wrap64 (bt a0 0)))).setCell ⟨gb208, 1, none⟩ (.int .i64 (wrap64 ((wrap64 (Int.tdiv (wrap64 (bt a0 1)) 4)) * 4)))).setCell ⟨gb208, 2, none⟩ (.string (a0.extract 8 (t202 : Int).toNat))).setCell ⟨gb208, 3, none⟩ (.string (a0.extract (t203 : Int).toNat (t204 : Int).toNat))).setCell ⟨gb208, 4, none⟩ (.int .i64 t205))) := ⟨by repeat (first | (with_reducible first | exact HB.out | apply below_alloc | apply pw_below_drewN | apply below_drew1 | refine below_set ?_ GE192.out | refine below_set ?_ GE206.out | refine below_set ?_ GE208.out) | exact HB.out)⟩
            (try clear BK192)
            (try clear BK206)
            (try clear BK208)
            (try clear HB)
            generalize (((((w115.setCell ⟨gb208, 0, none⟩ (.int .i64 (wrap64 (bt a0 0)))).setCell ⟨gb208, 1, none⟩ (.int .i64 (wrap64 ((wrap64 (Int.tdiv (wrap64 (bt a0 1)) 4)) * 4)))).setCell ⟨gb208, 2, none⟩ (.string (a0.extract 8 (t202 : Int).toNat))).setCell ⟨gb208, 3, none⟩ (.string (a0.extract (t203 : Int).toNat (t204 : Int).toNat))).setCell ⟨gb208, 4, none⟩ (.int .i64 t205)) = w121 at n0_ n1_ n2_ n3_ ⊢
            have BK192 := n0_
            have BK206 := n1_
            have BK208 := n2_
            have HB := n3_
            clear n0_ n1_ n2_ n3_
            have n0_ := Aside0.mk (blk_drew BK192.out)
            have n1_ := Aside0.mk (blk_drew BK206.out)
            have n2_ := Aside0.mk (blk_drew BK208.out)
            have n3_ := Aside0.mk (below_drew1 HB.out)
            clear BK192
            clear BK206
            clear BK208
            clear HB
            have BK192 := n0_
            have BK206 := n1_
            have BK208 := n2_
            have HB := n3_
            clear n0_ n1_ n2_ n3_
            refine start_ (n := 18) (S := fun w' => w'.cell? ⟨gb206, 0, none⟩ = some (.int .i64 t202) ∧ w'.cell? ⟨gb206, 1, none⟩ = some (.int .i64 t203) ∧ w'.cell? ⟨gb206, 2, none⟩ = some (.int .i64 t204) ∧ w'.cell? ⟨gb206, 3, none⟩ = some (.int .i64 t205)) (ds := []) d10x1 (by kernel_rfl) rfl rfl ⟨(blk_cell BK206.out 0).trans rfl, (blk_cell BK206.out 1).trans rfl, (blk_cell BK206.out 2).trans rfl, (blk_cell BK206.out 3).trans rfl⟩ (fun hHeld => ?_); refine with_tabW headgateref29_Get.tab22 headgateref29_Get.bits22 (fun HT_ HW_ => ?_)
            generalize w121.drew = w122 at BK192 BK206 BK208 HB hHeld ⊢
            refine pon_ 0 (some 133) d10x4 HT_.out ?_
            refine pon_ 2 (some 135) d10x6 HT_.out ?_
            refine ptk_ 1 (some 134) d10x11 HT_.out HW_.out hHeld ?_
            refine ptk_ 3 (some 136) d10x14 HT_.out HW_.out hHeld ?_
            refine pon_ 4 (some 137) d10x21 HT_.out ?_
            refine pon_ 5 (some 138) d10x25 HT_.out ?_
            refine pof_ 6 (some 139) d10x28 HT_.out ?_
            refine pof_ 7 (some 140) d10x31 HT_.out ?_
            refine pof_ 8 (some 141) d10x38 HT_.out ?_
            refine pof_ 9 (some 142) d10x41 HT_.out ?_
            refine pof_ 10 (some 143) d10x46 HT_.out ?_
            refine pof_ 11 (some 144) d10x51 HT_.out ?_
            refine pof_ 12 (some 145) d10x57 HT_.out ?_
            refine pof_ 13 (some 146) d10x60 HT_.out ?_
            refine pof_ 14 (some 147) d10x63 HT_.out ?_
            refine pof_ 15 (some 148) d10x69 HT_.out ?_
            refine pof_ 16 (some 149) d10x73 HT_.out ?_
            refine pon_ 17 (some 150) d10x84 HT_.out ?_
            refine done_ (done_of HT_.out (by kernel_rfl)) ?_
            have hnb123 := NB208_192.out
            have hnc123 := NB192_208.out
            have hnb124 := NB208_206.out
            have hnc124 := NB206_208.out
            have hcz125_0 : w122.cell? ⟨gb208, 0, none⟩ = some (.int .i64 (wrap64 (bt a0 0))) := (blk_cell BK208.out 0).trans rfl
            have hcz125_1 : w122.cell? ⟨gb208, 1, none⟩ = some (.int .i64 (wrap64 ((wrap64 (Int.tdiv (wrap64 (bt a0 1)) 4)) * 4))) := (blk_cell BK208.out 1).trans rfl
            have hcz125_2 : w122.cell? ⟨gb208, 2, none⟩ = some (.string (a0.extract 8 (t202 : Int).toNat)) := (blk_cell BK208.out 2).trans rfl
            have hcz125_3 : w122.cell? ⟨gb208, 3, none⟩ = some (.string (a0.extract (t203 : Int).toNat (t204 : Int).toNat)) := (blk_cell BK208.out 3).trans rfl
            have hcz125_4 : w122.cell? ⟨gb208, 4, none⟩ = some (.int .i64 t205) := (blk_cell BK208.out 4).trans rfl
            have hfz125_0 := blk_frozen BK208.out 0
            have hfz125_1 := blk_frozen BK208.out 1
            have hfz125_2 := blk_frozen BK208.out 2
            have hfz125_3 := blk_frozen BK208.out 3
            have hfz125_4 := blk_frozen BK208.out 4
            have hcz126_0 : w122.cell? ⟨gb192, 0, none⟩ = some (.int .i64 0) := (blk_cell BK192.out 0).trans rfl
            have hcz126_1 : w122.cell? ⟨gb192, 1, none⟩ = some (.int .i64 0) := (blk_cell BK192.out 1).trans rfl
            have hcz126_2 : w122.cell? ⟨gb192, 2, none⟩ = some (.string (⟨#[]⟩ : ByteArray)) := (blk_cell BK192.out 2).trans rfl
            have hcz126_3 : w122.cell? ⟨gb192, 3, none⟩ = some (.string (⟨#[]⟩ : ByteArray)) := (blk_cell BK192.out 3).trans rfl
            have hcz126_4 : w122.cell? ⟨gb192, 4, none⟩ = some (.int .i64 0) := (blk_cell BK192.out 4).trans rfl
            have hfz126_0 := blk_frozen BK192.out 0
            have hfz126_1 := blk_frozen BK192.out 1
            have hfz126_2 := blk_frozen BK192.out 2
            have hfz126_3 := blk_frozen BK192.out 3
            have hfz126_4 := blk_frozen BK192.out 4
            try go_wp2
            refine bodyPost_ret (results_ct rfl _ _ gb192 29 #[.int .i64 (wrap64 (bt a0 0)), .int .i64 (wrap64 ((wrap64 (Int.tdiv (wrap64 (bt a0 1)) 4)) * 4)), .string (a0.extract 8 (t202 : Int).toNat), .string (a0.extract (t203 : Int).toNat (t204 : Int).toNat), .int .i64 t205] (0, 0) _ rfl (by (with_reducible repeat (first | refine blk_drewN ?_ _ | refine blk_drew ?_ | refine blk_alloc ?_ _)); refine blk_put (cs := #[.int .i64 (wrap64 (bt a0 0)), .int .i64 (wrap64 ((wrap64 (Int.tdiv (wrap64 (bt a0 1)) 4)) * 4)), .string (a0.extract 8 (t202 : Int).toNat), .string (a0.extract (t203 : Int).toNat (t204 : Int).toNat), .int .i64 0]) ?_ 4 _ rfl; (with_reducible repeat (first | refine blk_drewN ?_ _ | refine blk_drew ?_ | refine blk_alloc ?_ _)); refine blk_put (cs := #[.int .i64 (wrap64 (bt a0 0)), .int .i64 (wrap64 ((wrap64 (Int.tdiv (wrap64 (bt a0 1)) 4)) * 4)), .string (a0.extract 8 (t202 : Int).toNat), .string (⟨#[]⟩ : ByteArray), .int .i64 0]) ?_ 3 _ rfl; (with_reducible repeat (first | refine blk_drewN ?_ _ | refine blk_drew ?_ | refine blk_alloc ?_ _)); refine blk_put (cs := #[.int .i64 (wrap64 (bt a0 0)), .int .i64 (wrap64 ((wrap64 (Int.tdiv (wrap64 (bt a0 1)) 4)) * 4)), .string (⟨#[]⟩ : ByteArray), .string (⟨#[]⟩ : ByteArray), .int .i64 0]) ?_ 2 _ rfl; (with_reducible repeat (first | refine blk_drewN ?_ _ | refine blk_drew ?_ | refine blk_alloc ?_ _)); refine blk_put (cs := #[.int .i64 (wrap64 (bt a0 0)), .int .i64 0, .string (⟨#[]⟩ : ByteArray), .string (⟨#[]⟩ : ByteArray), .int .i64 0]) ?_ 1 _ rfl; (with_reducible repeat (first | refine blk_drewN ?_ _ | refine blk_drew ?_ | refine blk_alloc ?_ _)); refine blk_put (cs := #[.int .i64 0, .int .i64 0, .string (⟨#[]⟩ : ByteArray), .string (⟨#[]⟩ : ByteArray), .int .i64 0]) ?_ 0 _ rfl; (with_reducible repeat (first | refine blk_drewN ?_ _ | refine blk_drew ?_ | refine blk_alloc ?_ _)); exact BK192.out) Tryd.underlying29 rfl (by kernel_rfl)) rfl ?_
            exact ⟨by first | rfl | (simp [errW_none, errW_some] <;> rfl) | (simp [*, errW_none, errW_some] <;> rfl) | (simp [bt, *]; done) | (unfold bt; simp [*]; done), by repeat (first | (with_reducible first | exact HB.out | apply below_alloc | apply pw_below_drewN | apply below_drew1 | refine below_set ?_ GE192.out | refine below_set ?_ GE206.out | refine below_set ?_ GE208.out) | exact HB.out)⟩
           rw [if_pos c74] at H
           have c74b0 : decide (t204 < t205) = true := decide_eq_true c74
           clear c74
           refine neg_first (p := (0 ≤ t204)) (fun c75 => ?_) (fun c75 => ?_)
           ·rw [if_neg c75] at H
            exact absurd H (by simp)
           rw [if_pos c75] at H
           have c75b0 := eq_true c75
           have c75b1 : decide (0 ≤ t204) = true := decide_eq_true c75
           clear c75
           refine neg_first (p := (t204 ≤ t205)) (fun c76 => ?_) (fun c76 => ?_)
           ·rw [if_neg c76] at H
            exact absurd H (by simp)
           rw [if_pos c76] at H
           have c76b0 := eq_true c76
           have c76b1 : decide (t204 ≤ t205) = true := decide_eq_true c76
           clear c76
           refine neg_first (p := (t205 ≤ (a0.size : Int))) (fun c77 => ?_) (fun c77 => ?_)
           ·rw [if_neg c77] at H
            exact absurd H (by simp)
           rw [if_pos c77] at H
           have c77b0 := eq_true c77
           have c77b1 : decide (t205 ≤ (a0.size : Int)) = true := decide_eq_true c77
           clear c77
           replace H := Option.bind_eq_some_iff.mp H
           obtain ⟨t209, A780, H⟩ := H
           try dsimp only at H
           have A78 := Aside0.mk A780
           clear A780
           by_cases c79 : (a0.extract (t204 : Int).toNat (t205 : Int).toNat).toList = t209.toList
           ·rw [if_pos c79] at H
            have c79b0 : ((a0.extract (t204 : Int).toNat (t205 : Int).toNat).toList == t209.toList) = true := beq_iff_eq.mpr c79
            have c79b1 : ((a0.extract (t204 : Int).toNat (t205 : Int).toNat).toList != t209.toList) = false := bne_eq_false_iff_eq.mpr c79
            clear c79
            simp only [Option.some.injEq, Prod.mk.injEq] at H
            obtain ⟨rfl, rfl, rfl, rfl, rfl, rfl⟩ := H
            have hnb80 := NB206_192.out
            have hnc80 := NB192_206.out
            have hcz81_0 : wc.cell? ⟨gb206, 0, none⟩ = some (.int .i64 t202) := (blk_cell BK206.out 0).trans rfl
            have hcz81_1 : wc.cell? ⟨gb206, 1, none⟩ = some (.int .i64 t203) := (blk_cell BK206.out 1).trans rfl
            have hcz81_2 : wc.cell? ⟨gb206, 2, none⟩ = some (.int .i64 t204) := (blk_cell BK206.out 2).trans rfl
            have hcz81_3 : wc.cell? ⟨gb206, 3, none⟩ = some (.int .i64 t205) := (blk_cell BK206.out 3).trans rfl
            have hfz81_0 := blk_frozen BK206.out 0
            have hfz81_1 := blk_frozen BK206.out 1
            have hfz81_2 := blk_frozen BK206.out 2
            have hfz81_3 := blk_frozen BK206.out 3
            try go_wp2
            have n0_ := Aside0.mk (blk_drew BK192.out)
            have n1_ := Aside0.mk (blk_drew BK206.out)
            have n2_ := Aside0.mk (below_drew1 HB.out)
            clear BK192
            clear BK206
            clear HB
            have BK192 := n0_
            have BK206 := n1_
            have HB := n2_
            clear n0_ n1_ n2_
            refine start_ (n := 18) (S := fun w' => w'.cell? ⟨gb206, 0, none⟩ = some (.int .i64 t202) ∧ w'.cell? ⟨gb206, 1, none⟩ = some (.int .i64 t203) ∧ w'.cell? ⟨gb206, 2, none⟩ = some (.int .i64 t204) ∧ w'.cell? ⟨gb206, 3, none⟩ = some (.int .i64 t205)) (ds := []) d10x1 (by kernel_rfl) rfl rfl ⟨(blk_cell BK206.out 0).trans rfl, (blk_cell BK206.out 1).trans rfl, (blk_cell BK206.out 2).trans rfl, (blk_cell BK206.out 3).trans rfl⟩ (fun hHeld => ?_); refine with_tabW headgateref29_Get.tab21 headgateref29_Get.bits21 (fun HT_ HW_ => ?_)
            generalize wc.drew = w82 at BK192 BK206 HB hHeld ⊢
            refine pon_ 0 (some 117) d10x4 HT_.out ?_
            refine pon_ 1 (some 118) d10x8 HT_.out ?_
            refine pon_ 2 (some 119) d10x11 HT_.out ?_
            refine pon_ 3 (some 120) d10x14 HT_.out ?_
            refine pon_ 6 (some 123) d10x16 HT_.out ?_
            refine pon_ 7 (some 124) d10x17 HT_.out ?_
            refine pon_ 9 (some 126) d10x18 HT_.out ?_
            refine pon_ 13 (some 130) d10x19 HT_.out ?_
            refine ptk_ 4 (some 121) d10x23 HT_.out HW_.out hHeld ?_
            refine pon_ 5 (some 122) d10x34 HT_.out ?_
            refine ptk_ 8 (some 125) d10x43 HT_.out HW_.out hHeld ?_
            refine ptk_ 10 (some 127) d10x48 HT_.out HW_.out hHeld ?_
            refine pon_ 11 (some 128) d10x53 HT_.out ?_
            refine pon_ 12 (some 129) d10x60 HT_.out ?_
            refine ptk_ 14 (some 131) d10x63 HT_.out HW_.out hHeld ?_
            refine pon_ 15 (some 132) d10x69 HT_.out ?_
            refine one_ (i := 16) (N := some 15) d10x73 rfl rfl (one_of HT_.out (by kernel_rfl)) (by decide) (fun K hK => ?_)
            refine box_step ?hg (N := 15) ?hd (cs := #[.int .i64 0, .int .i64 0, .string (⟨#[]⟩ : ByteArray), .string (⟨#[]⟩ : ByteArray), .int .i64 0]) (t := 29) ?hr ?_; (case hd => rfl); (case hg => rfl); (case hr => first | (go_simp; done) | (go_simp; rfl))
            intro gb208 hg w83 hbox hb
            have n0_ := Aside0.mk (blk_below (g := gb192) (o := .cells #[.int .i64 0, .int .i64 0, .string (⟨#[]⟩ : ByteArray), .string (⟨#[]⟩ : ByteArray), .int .i64 0] 29 (0, 0)) (by (with_reducible repeat (first | refine blk_drewN ?_ _ | refine blk_drew ?_ | refine blk_alloc ?_ _)); exact BK192.out) hb)
            have n1_ := Aside0.mk (blk_below (g := gb206) (o := .cells #[.int .i64 t202, .int .i64 t203, .int .i64 t204, .int .i64 t205] 58 (0, 0)) (by (with_reducible repeat (first | refine blk_drewN ?_ _ | refine blk_drew ?_ | refine blk_alloc ?_ _)); exact BK206.out) hb)
            have n2_ := Aside0.mk (below_step (by repeat (first | (with_reducible first | exact HB.out | apply below_alloc | apply pw_below_drewN | apply below_drew1 | refine below_set ?_ GE192.out | refine below_set ?_ GE206.out) | exact HB.out)) hb)
            have n3_ := Aside0.mk (hbox)
            have n4_ := Aside0.mk ((by rw [hg]; exact (below_size (by repeat (first | (with_reducible first | exact HB.out | apply below_alloc | apply pw_below_drewN | apply below_drew1 | refine below_set ?_ GE192.out | refine below_set ?_ GE206.out) | exact HB.out))) : w.heap.size ≤ gb208))
            have n5_ := Aside0.mk ((by rw [hg]; exact (below_size (by repeat (first | (with_reducible first | exact HB.out | apply below_alloc | apply pw_below_drewN | apply below_drew1 | refine below_set ?_ GE192.out | refine below_set ?_ GE206.out) | exact HB.out))) : w.heap.size ≤ gb208))
            have n6_ := Aside0.mk ((by rw [hg]; exact Nat.ne_of_lt (blk_lt (g := gb192) (o := .cells #[.int .i64 0, .int .i64 0, .string (⟨#[]⟩ : ByteArray), .string (⟨#[]⟩ : ByteArray), .int .i64 0] 29 (0, 0)) (by (with_reducible repeat (first | refine blk_drewN ?_ _ | refine blk_drew ?_ | refine blk_alloc ?_ _)); exact BK192.out)) : gb192 ≠ gb208))
            have n7_ := Aside0.mk ((by rw [hg]; exact Nat.ne_of_gt (blk_lt (g := gb192) (o := .cells #[.int .i64 0, .int .i64 0, .string (⟨#[]⟩ : ByteArray), .string (⟨#[]⟩ : ByteArray), .int .i64 0] 29 (0, 0)) (by (with_reducible repeat (first | refine blk_drewN ?_ _ | refine blk_drew ?_ | refine blk_alloc ?_ _)); exact BK192.out)) : gb208 ≠ gb192))
            have n8_ := Aside0.mk ((by rw [hg]; exact Nat.ne_of_lt (blk_lt (g := gb206) (o := .cells #[.int .i64 t202, .int .i64 t203, .int .i64 t204, .int .i64 t205] 58 (0, 0)) (by (with_reducible repeat (first | refine blk_drewN ?_ _ | refine blk_drew ?_ | refine blk_alloc ?_ _)); exact BK206.out)) : gb206 ≠ gb208))
            have n9_ := Aside0.mk ((by rw [hg]; exact Nat.ne_of_gt (blk_lt (g := gb206) (o := .cells #[.int .i64 t202, .int .i64 t203, .int .i64 t204, .int .i64 t205] 58 (0, 0)) (by (with_reducible repeat (first | refine blk_drewN ?_ _ | refine blk_drew ?_ | refine blk_alloc ?_ _)); exact BK206.out)) : gb208 ≠ gb206))
            clear BK192
            clear BK206
            clear HB
            have BK192 := n0_
            have BK206 := n1_
            have HB := n2_
            have BK208 := n3_
            have GW208 := n4_
            have GE208 := n5_
            have NB192_208 := n6_
            have NB208_192 := n7_
            have NB206_208 := n8_
            have NB208_206 := n9_
            clear n0_ n1_ n2_ n3_ n4_ n5_ n6_ n7_ n8_ n9_
            clear hb hbox hg
            refine hK.out _ _ ⟨(blk_cell BK206.out 0).trans rfl, (blk_cell BK206.out 1).trans rfl, (blk_cell BK206.out 2).trans rfl, (blk_cell BK206.out 3).trans rfl⟩ (fun hHeld => ?_)
            clear hK K
            refine norm_ (a' := ?_) ?_ ?_
            rotate_left
            ·show Act.put _ (some 15) _ = _
             simp only [Act.put, la_, lb_, lc_, i64_w, i32_w]
             rfl
            refine one_ (i := 17) (N := none) d10x84 rfl rfl (one_of HT_.out (by kernel_rfl)) (by decide) (fun K hK => ?_)
            have hs84 : w83.cell? ⟨gb208, 0, none⟩ = some (.int .i64 0) := (blk_cell BK208.out 0).trans rfl
            have hfs84 := blk_frozen BK208.out 0
            have hns84_0 := NB192_208.out
            have hns84_1 := NB206_208.out
            have hms84_0 := NB208_192.out
            have hms84_1 := NB208_206.out
            have hs85 : w83.cell? ⟨gb208, 1, none⟩ = some (.int .i64 0) := (blk_cell BK208.out 1).trans rfl
            have hfs85 := blk_frozen BK208.out 1
            have hns85_0 := NB192_208.out
            have hns85_1 := NB206_208.out
            have hms85_0 := NB208_192.out
            have hms85_1 := NB208_206.out
            have hs86 : w83.cell? ⟨gb208, 2, none⟩ = some (.string (⟨#[]⟩ : ByteArray)) := (blk_cell BK208.out 2).trans rfl
            have hfs86 := blk_frozen BK208.out 2
            have hns86_0 := NB192_208.out
            have hns86_1 := NB206_208.out
            have hms86_0 := NB208_192.out
            have hms86_1 := NB208_206.out
            have hs87 : w83.cell? ⟨gb208, 3, none⟩ = some (.string (⟨#[]⟩ : ByteArray)) := (blk_cell BK208.out 3).trans rfl
            have hfs87 := blk_frozen BK208.out 3
            have hns87_0 := NB192_208.out
            have hns87_1 := NB206_208.out
            have hms87_0 := NB208_192.out
            have hms87_1 := NB208_206.out
            have hs88 : w83.cell? ⟨gb208, 4, none⟩ = some (.int .i64 0) := (blk_cell BK208.out 4).trans rfl
            have hfs88 := blk_frozen BK208.out 4
            have hns88_0 := NB192_208.out
            have hns88_1 := NB206_208.out
            have hms88_0 := NB208_192.out
            have hms88_1 := NB208_206.out
            refine skip_ (w1 := ?_) (by rfl) rfl ?_ ?_
            rotate_left
            ·go_simp
             rfl
            refine hK.out _ _ ⟨((cell_far (p := ⟨gb208, _, none⟩) NB206_208.out _).trans (((cell_far (p := ⟨gb208, _, none⟩) NB206_208.out _).trans (((cell_far (p := ⟨gb208, _, none⟩) NB206_208.out _).trans (((cell_far (p := ⟨gb208, _, none⟩) NB206_208.out _).trans (((cell_far (p := ⟨gb208, _, none⟩) NB206_208.out _).trans (hHeld.1)))))))))), ((cell_far (p := ⟨gb208, _, none⟩) NB206_208.out _).trans (((cell_far (p := ⟨gb208, _, none⟩) NB206_208.out _).trans (((cell_far (p := ⟨gb208, _, none⟩) NB206_208.out _).trans (((cell_far (p := ⟨gb208, _, none⟩) NB206_208.out _).trans (((cell_far (p := ⟨gb208, _, none⟩) NB206_208.out _).trans (hHeld.2.1)))))))))), ((cell_far (p := ⟨gb208, _, none⟩) NB206_208.out _).trans (((cell_far (p := ⟨gb208, _, none⟩) NB206_208.out _).trans (((cell_far (p := ⟨gb208, _, none⟩) NB206_208.out _).trans (((cell_far (p := ⟨gb208, _, none⟩) NB206_208.out _).trans (((cell_far (p := ⟨gb208, _, none⟩) NB206_208.out _).trans (hHeld.2.2.1)))))))))), ((cell_far (p := ⟨gb208, _, none⟩) NB206_208.out _).trans (((cell_far (p := ⟨gb208, _, none⟩) NB206_208.out _).trans (((cell_far (p := ⟨gb208, _, none⟩) NB206_208.out _).trans (((cell_far (p := ⟨gb208, _, none⟩) NB206_208.out _).trans (((cell_far (p := ⟨gb208, _, none⟩) NB206_208.out _).trans (hHeld.2.2.2))))))))))⟩ (fun hHeld => ?_)
            clear hK K
            refine done_ (done_of HT_.out (by kernel_rfl)) ?_
            try go_wp2
            have n0_ : Aside0 ((((((w83.setCell ⟨gb208, 0, none⟩ (.int .i64 (wrap64 (bt a0 0)))).setCell ⟨gb208, 1, none⟩ (.int .i64 (wrap64 ((wrap64 (Int.tdiv (wrap64 (bt a0 1)) 4)) * 4)))).setCell ⟨gb208, 2, none⟩ (.string (a0.extract 8 (t202 : Int).toNat))).setCell ⟨gb208, 3, none⟩ (.string (a0.extract (t203 : Int).toNat (t204 : Int).toNat))).setCell ⟨gb208, 4, none⟩ (.int .i64 t205)).heap[gb192]? = some (.cells #[.int .i64 0, .int .i64 0, .string (⟨#[]⟩ : ByteArray), .string (⟨#[]⟩ : ByteArray), .int .i64 0] 29 (0, 0))) := ⟨by (with_reducible repeat (first | refine blk_drewN ?_ _ | refine blk_drew ?_ | refine blk_alloc ?_ _ | refine blk_far ?_ NB192_208.out _)); exact BK192.out⟩
            have n1_ : Aside0 ((((((w83.setCell ⟨gb208, 0, none⟩ (.int .i64 (wrap64 (bt a0 0)))).setCell ⟨gb208, 1, none⟩ (.int .i64 (wrap64 ((wrap64 (Int.tdiv (wrap64 (bt a0 1)) 4)) * 4)))).setCell ⟨gb208, 2, none⟩ (.string (a0.extract 8 (t202 : Int).toNat))).setCell ⟨gb208, 3, none⟩ (.string (a0.extract (t203 : Int).toNat (t204 : Int).toNat))).setCell ⟨gb208, 4, none⟩ (.int .i64 t205)).heap[gb206]? = some (.cells #[.int .i64 t202, .int .i64 t203, .int .i64 t204, .int .i64 t205] 58 (0, 0))) := ⟨by (with_reducible repeat (first | refine blk_drewN ?_ _ | refine blk_drew ?_ | refine blk_alloc ?_ _ | refine blk_far ?_ NB206_208.out _)); exact BK206.out⟩
            have n2_ : Aside0 ((((((w83.setCell ⟨gb208, 0, none⟩ (.int .i64 (wrap64 (bt a0 0)))).setCell ⟨gb208, 1, none⟩ (.int .i64 (wrap64 ((wrap64 (Int.tdiv (wrap64 (bt a0 1)) 4)) * 4)))).setCell ⟨gb208, 2, none⟩ (.string (a0.extract 8 (t202 : Int).toNat))).setCell ⟨gb208, 3, none⟩ (.string (a0.extract (t203 : Int).toNat (t204 : Int).toNat))).setCell ⟨gb208, 4, none⟩ (.int .i64 t205)).heap[gb208]? = some (.cells #[.int .i64 (wrap64 (bt a0 0)), .int .i64 (wrap64 ((wrap64 (Int.tdiv (wrap64 (bt a0 1)) 4)) * 4)), .string (a0.extract 8 (t202 : Int).toNat), .string (a0.extract (t203 : Int).toNat (t204 : Int).toNat), .int .i64 t205] 29 (0, 0))) := ⟨by (with_reducible repeat (first | refine blk_drewN ?_ _ | refine blk_drew ?_ | refine blk_alloc ?_ _)); refine blk_put (cs := #[.int .i64 (wrap64 (bt a0 0)), .int .i64 (wrap64 ((wrap64 (Int.tdiv (wrap64 (bt a0 1)) 4)) * 4)), .string (a0.extract 8 (t202 : Int).toNat), .string (a0.extract (t203 : Int).toNat (t204 : Int).toNat), .int .i64 0]) ?_ 4 _ rfl; (with_reducible repeat (first | refine blk_drewN ?_ _ | refine blk_drew ?_ | refine blk_alloc ?_ _)); refine blk_put (cs := #[.int .i64 (wrap64 (bt a0 0)), .int .i64 (wrap64 ((wrap64 (Int.tdiv (wrap64 (bt a0 1)) 4)) * 4)), .string (a0.extract 8 (t202 : Int).toNat), .string (⟨#[]⟩ : ByteArray), .int .i64 0]) ?_ 3 _ rfl; (with_reducible repeat (first | refine blk_drewN ?_ _ | refine blk_drew ?_ | refine blk_alloc ?_ _)); refine blk_put (cs := #[.int .i64 (wrap64 (bt a0 0)), .int .i64 (wrap64 ((wrap64 (Int.tdiv (wrap64 (bt a0 1)) 4)) * 4)), .string (⟨#[]⟩ : ByteArray), .string (⟨#[]⟩ : ByteArray), .int .i64 0]) ?_ 2 _ rfl; (with_reducible repeat (first | refine blk_drewN ?_ _ | refine blk_drew ?_ | refine blk_alloc ?_ _)); refine blk_put (cs := #[.int .i64 (wrap64 (bt a0 0)), .int .i64 0, .string (⟨#[]⟩ : ByteArray), .string (⟨#[]⟩ : ByteArray), .int .i64 0]) ?_ 1 _ rfl; (with_reducible repeat (first | refine blk_drewN ?_ _ | refine blk_drew ?_ | refine blk_alloc ?_ _)); refine blk_put (cs := #[.int .i64 0, .int .i64 0, .string (⟨#[]⟩ : ByteArray), .string (⟨#[]⟩ : ByteArray), .int .i64 0]) ?_ 0 _ rfl; (with_reducible repeat (first | refine blk_drewN ?_ _ | refine blk_drew ?_ | refine blk_alloc ?_ _)); exact BK208.out⟩
            have n3_ : Aside0 (Below w.heap.size w (((((w83.setCell ⟨gb208, 0, none⟩ (.int .i64 (wrap64 (bt a0 0)))).setCell ⟨gb208, 1, none⟩ (.int .i64 (wrap64 ((wrap64 (Int.tdiv (wrap64 (bt a0 1)) 4)) * 4)))).setCell ⟨gb208, 2, none⟩ (.string (a0.extract 8 (t202 : Int).toNat))).setCell ⟨gb208, 3, none⟩ (.string (a0.extract (t203 : Int).toNat (t204 : Int).toNat))).setCell ⟨gb208, 4, none⟩ (.int .i64 t205))) := ⟨by repeat (first | (with_reducible first | exact HB.out | apply below_alloc | apply pw_below_drewN | apply below_drew1 | refine below_set ?_ GE192.out | refine below_set ?_ GE206.out | refine below_set ?_ GE208.out) | exact HB.out)⟩
            (try clear BK192)
            (try clear BK206)
            (try clear BK208)
            (try clear HB)
            generalize (((((w83.setCell ⟨gb208, 0, none⟩ (.int .i64 (wrap64 (bt a0 0)))).setCell ⟨gb208, 1, none⟩ (.int .i64 (wrap64 ((wrap64 (Int.tdiv (wrap64 (bt a0 1)) 4)) * 4)))).setCell ⟨gb208, 2, none⟩ (.string (a0.extract 8 (t202 : Int).toNat))).setCell ⟨gb208, 3, none⟩ (.string (a0.extract (t203 : Int).toNat (t204 : Int).toNat))).setCell ⟨gb208, 4, none⟩ (.int .i64 t205)) = w89 at n0_ n1_ n2_ n3_ ⊢
            have BK192 := n0_
            have BK206 := n1_
            have BK208 := n2_
            have HB := n3_
            clear n0_ n1_ n2_ n3_
            have n0_ := Aside0.mk (blk_drew BK192.out)
            have n1_ := Aside0.mk (blk_drew BK206.out)
            have n2_ := Aside0.mk (blk_drew BK208.out)
            have n3_ := Aside0.mk (below_drew1 HB.out)
            clear BK192
            clear BK206
            clear BK208
            clear HB
            have BK192 := n0_
            have BK206 := n1_
            have BK208 := n2_
            have HB := n3_
            clear n0_ n1_ n2_ n3_
            refine start_ (n := 18) (S := fun w' => w'.cell? ⟨gb206, 0, none⟩ = some (.int .i64 t202) ∧ w'.cell? ⟨gb206, 1, none⟩ = some (.int .i64 t203) ∧ w'.cell? ⟨gb206, 2, none⟩ = some (.int .i64 t204) ∧ w'.cell? ⟨gb206, 3, none⟩ = some (.int .i64 t205) ∧ w'.cell? ⟨gb208, 0, none⟩ = some (.int .i64 (wrap64 (bt a0 0))) ∧ w'.cell? ⟨gb208, 1, none⟩ = some (.int .i64 (wrap64 ((wrap64 (Int.tdiv (wrap64 (bt a0 1)) 4)) * 4))) ∧ w'.cell? ⟨gb208, 2, none⟩ = some (.string (a0.extract 8 (t202 : Int).toNat)) ∧ w'.cell? ⟨gb208, 3, none⟩ = some (.string (a0.extract (t203 : Int).toNat (t204 : Int).toNat)) ∧ w'.cell? ⟨gb208, 4, none⟩ = some (.int .i64 t205)) (ds := []) d10x1 (by kernel_rfl) rfl rfl ⟨(blk_cell BK206.out 0).trans rfl, (blk_cell BK206.out 1).trans rfl, (blk_cell BK206.out 2).trans rfl, (blk_cell BK206.out 3).trans rfl, (blk_cell BK208.out 0).trans rfl, (blk_cell BK208.out 1).trans rfl, (blk_cell BK208.out 2).trans rfl, (blk_cell BK208.out 3).trans rfl, (blk_cell BK208.out 4).trans rfl⟩ (fun hHeld => ?_); refine with_tabW headgateref29_Get.tab22 headgateref29_Get.bits22 (fun HT_ HW_ => ?_)
            generalize w89.drew = w90 at BK192 BK206 BK208 HB hHeld ⊢
            refine pon_ 0 (some 133) d10x4 HT_.out ?_
            refine pon_ 2 (some 135) d10x6 HT_.out ?_
            refine ptk_ 1 (some 134) d10x11 HT_.out HW_.out hHeld ?_
            refine ptk_ 3 (some 136) d10x14 HT_.out HW_.out hHeld ?_
            refine pon_ 4 (some 137) d10x21 HT_.out ?_
            refine pon_ 5 (some 138) d10x25 HT_.out ?_
            refine pon_ 6 (some 139) d10x28 HT_.out ?_
            refine pon_ 7 (some 140) d10x31 HT_.out ?_
            refine pon_ 9 (some 142) d10x33 HT_.out ?_
            refine pon_ 12 (some 145) d10x35 HT_.out ?_
            refine pon_ 13 (some 146) d10x36 HT_.out ?_
            refine ptk_ 8 (some 141) d10x44 HT_.out HW_.out hHeld ?_
            refine ptk_ 10 (some 143) d10x49 HT_.out HW_.out hHeld ?_
            refine pon_ 11 (some 144) d10x60 HT_.out ?_
            refine ptk_ 14 (some 147) d10x63 HT_.out HW_.out hHeld ?_
            refine one_ (i := 15) (N := some 148) d10x69 rfl rfl (one_of HT_.out (by kernel_rfl)) (by decide) (fun K hK => ?_)
            refine goes_ Tryd.func26 (by kernel_rfl) rfl #[.string (a0.extract (t203 : Int).toNat (t204 : Int).toNat)] (by rfl) rfl rfl (by (try simp only [List.map_toArray, List.map_cons, List.map_nil]); first | done | rfl | (simp only [List.length_drop, List.length_take]; rfl)) ?_
            with_reducible refine (headgateref02_Digest.calls kj38 (a0.extract (t203 : Int).toNat (t204 : Int).toNat) t209 _ A78.out).mono ?_
            rintro e w91 ⟨rfl, hb⟩
            refine ⟨_, rfl, ?_⟩
            have n0_ := Aside0.mk (blk_below (g := gb192) (o := .cells #[.int .i64 0, .int .i64 0, .string (⟨#[]⟩ : ByteArray), .string (⟨#[]⟩ : ByteArray), .int .i64 0] 29 (0, 0)) (by (with_reducible repeat (first | refine blk_drewN ?_ _ | refine blk_drew ?_ | refine blk_alloc ?_ _)); exact BK192.out) hb)
            have n1_ := Aside0.mk (blk_below (g := gb206) (o := .cells #[.int .i64 t202, .int .i64 t203, .int .i64 t204, .int .i64 t205] 58 (0, 0)) (by (with_reducible repeat (first | refine blk_drewN ?_ _ | refine blk_drew ?_ | refine blk_alloc ?_ _)); exact BK206.out) hb)
            have n2_ := Aside0.mk (blk_below (g := gb208) (o := .cells #[.int .i64 (wrap64 (bt a0 0)), .int .i64 (wrap64 ((wrap64 (Int.tdiv (wrap64 (bt a0 1)) 4)) * 4)), .string (a0.extract 8 (t202 : Int).toNat), .string (a0.extract (t203 : Int).toNat (t204 : Int).toNat), .int .i64 t205] 29 (0, 0)) (by (with_reducible repeat (first | refine blk_drewN ?_ _ | refine blk_drew ?_ | refine blk_alloc ?_ _)); exact BK208.out) hb)
            have n3_ := Aside0.mk (below_step (by repeat (first | (with_reducible first | exact HB.out | apply below_alloc | apply pw_below_drewN | apply below_drew1 | refine below_set ?_ GE192.out | refine below_set ?_ GE206.out | refine below_set ?_ GE208.out) | exact HB.out)) hb)
            clear BK192
            clear BK206
            clear BK208
            clear HB
            have BK192 := n0_
            have BK206 := n1_
            have BK208 := n2_
            have HB := n3_
            clear n0_ n1_ n2_ n3_
            (try clear hb)
            (try clear hb2)
            (try clear hk)
            (try clear hi)
            refine hK.out _ _ ⟨(blk_cell BK206.out 0).trans rfl, (blk_cell BK206.out 1).trans rfl, (blk_cell BK206.out 2).trans rfl, (blk_cell BK206.out 3).trans rfl, (blk_cell BK208.out 0).trans rfl, (blk_cell BK208.out 1).trans rfl, (blk_cell BK208.out 2).trans rfl, (blk_cell BK208.out 3).trans rfl, (blk_cell BK208.out 4).trans rfl⟩ (fun hHeld => ?_)
            clear hK K
            refine norm_ (a' := ?_) ?_ ?_
            rotate_left
            ·show Act.put _ (some 148) _ = _
             simp only [Act.put, la_, lb_, lc_, i64_w, i32_w]
             rfl
            refine pon_ 16 (some 149) d10x73 HT_.out ?_
            refine pon_ 17 (some 150) d10x84 HT_.out ?_
            refine done_ (done_of HT_.out (by kernel_rfl)) ?_
            have hnb92 := NB208_192.out
            have hnc92 := NB192_208.out
            have hnb93 := NB208_206.out
            have hnc93 := NB206_208.out
            have hcz94_0 : w91.cell? ⟨gb208, 0, none⟩ = some (.int .i64 (wrap64 (bt a0 0))) := (blk_cell BK208.out 0).trans rfl
            have hcz94_1 : w91.cell? ⟨gb208, 1, none⟩ = some (.int .i64 (wrap64 ((wrap64 (Int.tdiv (wrap64 (bt a0 1)) 4)) * 4))) := (blk_cell BK208.out 1).trans rfl
            have hcz94_2 : w91.cell? ⟨gb208, 2, none⟩ = some (.string (a0.extract 8 (t202 : Int).toNat)) := (blk_cell BK208.out 2).trans rfl
            have hcz94_3 : w91.cell? ⟨gb208, 3, none⟩ = some (.string (a0.extract (t203 : Int).toNat (t204 : Int).toNat)) := (blk_cell BK208.out 3).trans rfl
            have hcz94_4 : w91.cell? ⟨gb208, 4, none⟩ = some (.int .i64 t205) := (blk_cell BK208.out 4).trans rfl
            have hfz94_0 := blk_frozen BK208.out 0
            have hfz94_1 := blk_frozen BK208.out 1
            have hfz94_2 := blk_frozen BK208.out 2
            have hfz94_3 := blk_frozen BK208.out 3
            have hfz94_4 := blk_frozen BK208.out 4
            have hcz95_0 : w91.cell? ⟨gb192, 0, none⟩ = some (.int .i64 0) := (blk_cell BK192.out 0).trans rfl
            have hcz95_1 : w91.cell? ⟨gb192, 1, none⟩ = some (.int .i64 0) := (blk_cell BK192.out 1).trans rfl
            have hcz95_2 : w91.cell? ⟨gb192, 2, none⟩ = some (.string (⟨#[]⟩ : ByteArray)) := (blk_cell BK192.out 2).trans rfl
            have hcz95_3 : w91.cell? ⟨gb192, 3, none⟩ = some (.string (⟨#[]⟩ : ByteArray)) := (blk_cell BK192.out 3).trans rfl
            have hcz95_4 : w91.cell? ⟨gb192, 4, none⟩ = some (.int .i64 0) := (blk_cell BK192.out 4).trans rfl
            have hfz95_0 := blk_frozen BK192.out 0
            have hfz95_1 := blk_frozen BK192.out 1
            have hfz95_2 := blk_frozen BK192.out 2
            have hfz95_3 := blk_frozen BK192.out 3
            have hfz95_4 := blk_frozen BK192.out 4
            try go_wp2
            refine bodyPost_ret (results_ct rfl _ _ gb192 29 #[.int .i64 (wrap64 (bt a0 0)), .int .i64 (wrap64 ((wrap64 (Int.tdiv (wrap64 (bt a0 1)) 4)) * 4)), .string (a0.extract 8 (t202 : Int).toNat), .string (a0.extract (t203 : Int).toNat (t204 : Int).toNat), .int .i64 t205] (0, 0) _ rfl (by (with_reducible repeat (first | refine blk_drewN ?_ _ | refine blk_drew ?_ | refine blk_alloc ?_ _)); refine blk_put (cs := #[.int .i64 (wrap64 (bt a0 0)), .int .i64 (wrap64 ((wrap64 (Int.tdiv (wrap64 (bt a0 1)) 4)) * 4)), .string (a0.extract 8 (t202 : Int).toNat), .string (a0.extract (t203 : Int).toNat (t204 : Int).toNat), .int .i64 0]) ?_ 4 _ rfl; (with_reducible repeat (first | refine blk_drewN ?_ _ | refine blk_drew ?_ | refine blk_alloc ?_ _)); refine blk_put (cs := #[.int .i64 (wrap64 (bt a0 0)), .int .i64 (wrap64 ((wrap64 (Int.tdiv (wrap64 (bt a0 1)) 4)) * 4)), .string (a0.extract 8 (t202 : Int).toNat), .string (⟨#[]⟩ : ByteArray), .int .i64 0]) ?_ 3 _ rfl; (with_reducible repeat (first | refine blk_drewN ?_ _ | refine blk_drew ?_ | refine blk_alloc ?_ _)); refine blk_put (cs := #[.int .i64 (wrap64 (bt a0 0)), .int .i64 (wrap64 ((wrap64 (Int.tdiv (wrap64 (bt a0 1)) 4)) * 4)), .string (⟨#[]⟩ : ByteArray), .string (⟨#[]⟩ : ByteArray), .int .i64 0]) ?_ 2 _ rfl; (with_reducible repeat (first | refine blk_drewN ?_ _ | refine blk_drew ?_ | refine blk_alloc ?_ _)); refine blk_put (cs := #[.int .i64 (wrap64 (bt a0 0)), .int .i64 0, .string (⟨#[]⟩ : ByteArray), .string (⟨#[]⟩ : ByteArray), .int .i64 0]) ?_ 1 _ rfl; (with_reducible repeat (first | refine blk_drewN ?_ _ | refine blk_drew ?_ | refine blk_alloc ?_ _)); refine blk_put (cs := #[.int .i64 0, .int .i64 0, .string (⟨#[]⟩ : ByteArray), .string (⟨#[]⟩ : ByteArray), .int .i64 0]) ?_ 0 _ rfl; (with_reducible repeat (first | refine blk_drewN ?_ _ | refine blk_drew ?_ | refine blk_alloc ?_ _)); exact BK192.out) Tryd.underlying29 rfl (by kernel_rfl)) rfl ?_
            exact ⟨by first | rfl | (simp [errW_none, errW_some] <;> rfl) | (simp [*, errW_none, errW_some] <;> rfl) | (simp [bt, *]; done) | (unfold bt; simp [*]; done), by repeat (first | (with_reducible first | exact HB.out | apply below_alloc | apply pw_below_drewN | apply below_drew1 | refine below_set ?_ GE192.out | refine below_set ?_ GE206.out | refine below_set ?_ GE208.out) | exact HB.out)⟩
           rw [if_neg c79] at H
           have c79b0 : ((a0.extract (t204 : Int).toNat (t205 : Int).toNat).toList == t209.toList) = false := beq_eq_false_iff_ne.mpr c79
           have c79b1 : ((a0.extract (t204 : Int).toNat (t205 : Int).toNat).toList != t209.toList) = true := bne_iff_ne.mpr c79
           simp only [Option.some.injEq, Prod.mk.injEq] at H
           obtain ⟨rfl, rfl, rfl, rfl, rfl, rfl⟩ := H
           have hnb96 := NB206_192.out
           have hnc96 := NB192_206.out
           have hcz97_0 : wc.cell? ⟨gb206, 0, none⟩ = some (.int .i64 t202) := (blk_cell BK206.out 0).trans rfl
           have hcz97_1 : wc.cell? ⟨gb206, 1, none⟩ = some (.int .i64 t203) := (blk_cell BK206.out 1).trans rfl
           have hcz97_2 : wc.cell? ⟨gb206, 2, none⟩ = some (.int .i64 t204) := (blk_cell BK206.out 2).trans rfl
           have hcz97_3 : wc.cell? ⟨gb206, 3, none⟩ = some (.int .i64 t205) := (blk_cell BK206.out 3).trans rfl
           have hfz97_0 := blk_frozen BK206.out 0
           have hfz97_1 := blk_frozen BK206.out 1
           have hfz97_2 := blk_frozen BK206.out 2
           have hfz97_3 := blk_frozen BK206.out 3
           try go_wp2
           have n0_ := Aside0.mk (blk_drew BK192.out)
           have n1_ := Aside0.mk (blk_drew BK206.out)
           have n2_ := Aside0.mk (below_drew1 HB.out)
           clear BK192
           clear BK206
           clear HB
           have BK192 := n0_
           have BK206 := n1_
           have HB := n2_
           clear n0_ n1_ n2_
           refine start_ (n := 18) (S := fun w' => w'.cell? ⟨gb206, 0, none⟩ = some (.int .i64 t202) ∧ w'.cell? ⟨gb206, 1, none⟩ = some (.int .i64 t203) ∧ w'.cell? ⟨gb206, 2, none⟩ = some (.int .i64 t204) ∧ w'.cell? ⟨gb206, 3, none⟩ = some (.int .i64 t205)) (ds := []) d10x1 (by kernel_rfl) rfl rfl ⟨(blk_cell BK206.out 0).trans rfl, (blk_cell BK206.out 1).trans rfl, (blk_cell BK206.out 2).trans rfl, (blk_cell BK206.out 3).trans rfl⟩ (fun hHeld => ?_); refine with_tabW headgateref29_Get.tab21 headgateref29_Get.bits21 (fun HT_ HW_ => ?_)
           generalize wc.drew = w98 at BK192 BK206 HB hHeld ⊢
           refine pon_ 0 (some 117) d10x4 HT_.out ?_
           refine pon_ 1 (some 118) d10x8 HT_.out ?_
           refine pon_ 2 (some 119) d10x11 HT_.out ?_
           refine pon_ 3 (some 120) d10x14 HT_.out ?_
           refine pon_ 6 (some 123) d10x16 HT_.out ?_
           refine pon_ 7 (some 124) d10x17 HT_.out ?_
           refine pon_ 9 (some 126) d10x18 HT_.out ?_
           refine pon_ 13 (some 130) d10x19 HT_.out ?_
           refine ptk_ 4 (some 121) d10x23 HT_.out HW_.out hHeld ?_
           refine pon_ 5 (some 122) d10x34 HT_.out ?_
           refine ptk_ 8 (some 125) d10x43 HT_.out HW_.out hHeld ?_
           refine ptk_ 10 (some 127) d10x48 HT_.out HW_.out hHeld ?_
           refine pon_ 11 (some 128) d10x53 HT_.out ?_
           refine pon_ 12 (some 129) d10x60 HT_.out ?_
           refine ptk_ 14 (some 131) d10x63 HT_.out HW_.out hHeld ?_
           refine pon_ 15 (some 132) d10x69 HT_.out ?_
           refine one_ (i := 16) (N := some 15) d10x73 rfl rfl (one_of HT_.out (by kernel_rfl)) (by decide) (fun K hK => ?_)
           refine box_step ?hg (N := 15) ?hd (cs := #[.int .i64 0, .int .i64 0, .string (⟨#[]⟩ : ByteArray), .string (⟨#[]⟩ : ByteArray), .int .i64 0]) (t := 29) ?hr ?_; (case hd => rfl); (case hg => rfl); (case hr => first | (go_simp; done) | (go_simp; rfl))
           intro gb208 hg w99 hbox hb
           have n0_ := Aside0.mk (blk_below (g := gb192) (o := .cells #[.int .i64 0, .int .i64 0, .string (⟨#[]⟩ : ByteArray), .string (⟨#[]⟩ : ByteArray), .int .i64 0] 29 (0, 0)) (by (with_reducible repeat (first | refine blk_drewN ?_ _ | refine blk_drew ?_ | refine blk_alloc ?_ _)); exact BK192.out) hb)
           have n1_ := Aside0.mk (blk_below (g := gb206) (o := .cells #[.int .i64 t202, .int .i64 t203, .int .i64 t204, .int .i64 t205] 58 (0, 0)) (by (with_reducible repeat (first | refine blk_drewN ?_ _ | refine blk_drew ?_ | refine blk_alloc ?_ _)); exact BK206.out) hb)
           have n2_ := Aside0.mk (below_step (by repeat (first | (with_reducible first | exact HB.out | apply below_alloc | apply pw_below_drewN | apply below_drew1 | refine below_set ?_ GE192.out | refine below_set ?_ GE206.out) | exact HB.out)) hb)
           have n3_ := Aside0.mk (hbox)
           have n4_ := Aside0.mk ((by rw [hg]; exact (below_size (by repeat (first | (with_reducible first | exact HB.out | apply below_alloc | apply pw_below_drewN | apply below_drew1 | refine below_set ?_ GE192.out | refine below_set ?_ GE206.out) | exact HB.out))) : w.heap.size ≤ gb208))
           have n5_ := Aside0.mk ((by rw [hg]; exact (below_size (by repeat (first | (with_reducible first | exact HB.out | apply below_alloc | apply pw_below_drewN | apply below_drew1 | refine below_set ?_ GE192.out | refine below_set ?_ GE206.out) | exact HB.out))) : w.heap.size ≤ gb208))
           have n6_ := Aside0.mk ((by rw [hg]; exact Nat.ne_of_lt (blk_lt (g := gb192) (o := .cells #[.int .i64 0, .int .i64 0, .string (⟨#[]⟩ : ByteArray), .string (⟨#[]⟩ : ByteArray), .int .i64 0] 29 (0, 0)) (by (with_reducible repeat (first | refine blk_drewN ?_ _ | refine blk_drew ?_ | refine blk_alloc ?_ _)); exact BK192.out)) : gb192 ≠ gb208))
           have n7_ := Aside0.mk ((by rw [hg]; exact Nat.ne_of_gt (blk_lt (g := gb192) (o := .cells #[.int .i64 0, .int .i64 0, .string (⟨#[]⟩ : ByteArray), .string (⟨#[]⟩ : ByteArray), .int .i64 0] 29 (0, 0)) (by (with_reducible repeat (first | refine blk_drewN ?_ _ | refine blk_drew ?_ | refine blk_alloc ?_ _)); exact BK192.out)) : gb208 ≠ gb192))
           have n8_ := Aside0.mk ((by rw [hg]; exact Nat.ne_of_lt (blk_lt (g := gb206) (o := .cells #[.int .i64 t202, .int .i64 t203, .int .i64 t204, .int .i64 t205] 58 (0, 0)) (by (with_reducible repeat (first | refine blk_drewN ?_ _ | refine blk_drew ?_ | refine blk_alloc ?_ _)); exact BK206.out)) : gb206 ≠ gb208))
           have n9_ := Aside0.mk ((by rw [hg]; exact Nat.ne_of_gt (blk_lt (g := gb206) (o := .cells #[.int .i64 t202, .int .i64 t203, .int .i64 t204, .int .i64 t205] 58 (0, 0)) (by (with_reducible repeat (first | refine blk_drewN ?_ _ | refine blk_drew ?_ | refine blk_alloc ?_ _)); exact BK206.out)) : gb208 ≠ gb206))
           clear BK192
           clear BK206
           clear HB
           have BK192 := n0_
           have BK206 := n1_
           have HB := n2_
           have BK208 := n3_
           have GW208 := n4_
           have GE208 := n5_
           have NB192_208 := n6_
           have NB208_192 := n7_
           have NB206_208 := n8_
           have NB208_206 := n9_
           clear n0_ n1_ n2_ n3_ n4_ n5_ n6_ n7_ n8_ n9_
           clear hb hbox hg
           refine hK.out _ _ ⟨(blk_cell BK206.out 0).trans rfl, (blk_cell BK206.out 1).trans rfl, (blk_cell BK206.out 2).trans rfl, (blk_cell BK206.out 3).trans rfl⟩ (fun hHeld => ?_)
           clear hK K
           refine norm_ (a' := ?_) ?_ ?_
           rotate_left
           ·show Act.put _ (some 15) _ = _
            simp only [Act.put, la_, lb_, lc_, i64_w, i32_w]
            rfl
           refine one_ (i := 17) (N := none) d10x84 rfl rfl (one_of HT_.out (by kernel_rfl)) (by decide) (fun K hK => ?_)
           have hs100 : w99.cell? ⟨gb208, 0, none⟩ = some (.int .i64 0) := (blk_cell BK208.out 0).trans rfl
           have hfs100 := blk_frozen BK208.out 0
           have hns100_0 := NB192_208.out
           have hns100_1 := NB206_208.out
           have hms100_0 := NB208_192.out
           have hms100_1 := NB208_206.out
           have hs101 : w99.cell? ⟨gb208, 1, none⟩ = some (.int .i64 0) := (blk_cell BK208.out 1).trans rfl
           have hfs101 := blk_frozen BK208.out 1
           have hns101_0 := NB192_208.out
           have hns101_1 := NB206_208.out
           have hms101_0 := NB208_192.out
           have hms101_1 := NB208_206.out
           have hs102 : w99.cell? ⟨gb208, 2, none⟩ = some (.string (⟨#[]⟩ : ByteArray)) := (blk_cell BK208.out 2).trans rfl
           have hfs102 := blk_frozen BK208.out 2
           have hns102_0 := NB192_208.out
           have hns102_1 := NB206_208.out
           have hms102_0 := NB208_192.out
           have hms102_1 := NB208_206.out
           have hs103 : w99.cell? ⟨gb208, 3, none⟩ = some (.string (⟨#[]⟩ : ByteArray)) := (blk_cell BK208.out 3).trans rfl
           have hfs103 := blk_frozen BK208.out 3
           have hns103_0 := NB192_208.out
           have hns103_1 := NB206_208.out
           have hms103_0 := NB208_192.out
           have hms103_1 := NB208_206.out
           have hs104 : w99.cell? ⟨gb208, 4, none⟩ = some (.int .i64 0) := (blk_cell BK208.out 4).trans rfl
           have hfs104 := blk_frozen BK208.out 4
           have hns104_0 := NB192_208.out
           have hns104_1 := NB206_208.out
           have hms104_0 := NB208_192.out
           have hms104_1 := NB208_206.out
           refine skip_ (w1 := ?_) (by rfl) rfl ?_ ?_
           rotate_left
           ·go_simp
            rfl
           refine hK.out _ _ ⟨((cell_far (p := ⟨gb208, _, none⟩) NB206_208.out _).trans (((cell_far (p := ⟨gb208, _, none⟩) NB206_208.out _).trans (((cell_far (p := ⟨gb208, _, none⟩) NB206_208.out _).trans (((cell_far (p := ⟨gb208, _, none⟩) NB206_208.out _).trans (((cell_far (p := ⟨gb208, _, none⟩) NB206_208.out _).trans (hHeld.1)))))))))), ((cell_far (p := ⟨gb208, _, none⟩) NB206_208.out _).trans (((cell_far (p := ⟨gb208, _, none⟩) NB206_208.out _).trans (((cell_far (p := ⟨gb208, _, none⟩) NB206_208.out _).trans (((cell_far (p := ⟨gb208, _, none⟩) NB206_208.out _).trans (((cell_far (p := ⟨gb208, _, none⟩) NB206_208.out _).trans (hHeld.2.1)))))))))), ((cell_far (p := ⟨gb208, _, none⟩) NB206_208.out _).trans (((cell_far (p := ⟨gb208, _, none⟩) NB206_208.out _).trans (((cell_far (p := ⟨gb208, _, none⟩) NB206_208.out _).trans (((cell_far (p := ⟨gb208, _, none⟩) NB206_208.out _).trans (((cell_far (p := ⟨gb208, _, none⟩) NB206_208.out _).trans (hHeld.2.2.1)))))))))), ((cell_far (p := ⟨gb208, _, none⟩) NB206_208.out _).trans (((cell_far (p := ⟨gb208, _, none⟩) NB206_208.out _).trans (((cell_far (p := ⟨gb208, _, none⟩) NB206_208.out _).trans (((cell_far (p := ⟨gb208, _, none⟩) NB206_208.out _).trans (((cell_far (p := ⟨gb208, _, none⟩) NB206_208.out _).trans (hHeld.2.2.2))))))))))⟩ (fun hHeld => ?_)
           clear hK K
           refine done_ (done_of HT_.out (by kernel_rfl)) ?_
           try go_wp2
           have n0_ : Aside0 ((((((w99.setCell ⟨gb208, 0, none⟩ (.int .i64 (wrap64 (bt a0 0)))).setCell ⟨gb208, 1, none⟩ (.int .i64 (wrap64 ((wrap64 (Int.tdiv (wrap64 (bt a0 1)) 4)) * 4)))).setCell ⟨gb208, 2, none⟩ (.string (a0.extract 8 (t202 : Int).toNat))).setCell ⟨gb208, 3, none⟩ (.string (a0.extract (t203 : Int).toNat (t204 : Int).toNat))).setCell ⟨gb208, 4, none⟩ (.int .i64 t205)).heap[gb192]? = some (.cells #[.int .i64 0, .int .i64 0, .string (⟨#[]⟩ : ByteArray), .string (⟨#[]⟩ : ByteArray), .int .i64 0] 29 (0, 0))) := ⟨by (with_reducible repeat (first | refine blk_drewN ?_ _ | refine blk_drew ?_ | refine blk_alloc ?_ _ | refine blk_far ?_ NB192_208.out _)); exact BK192.out⟩
           have n1_ : Aside0 ((((((w99.setCell ⟨gb208, 0, none⟩ (.int .i64 (wrap64 (bt a0 0)))).setCell ⟨gb208, 1, none⟩ (.int .i64 (wrap64 ((wrap64 (Int.tdiv (wrap64 (bt a0 1)) 4)) * 4)))).setCell ⟨gb208, 2, none⟩ (.string (a0.extract 8 (t202 : Int).toNat))).setCell ⟨gb208, 3, none⟩ (.string (a0.extract (t203 : Int).toNat (t204 : Int).toNat))).setCell ⟨gb208, 4, none⟩ (.int .i64 t205)).heap[gb206]? = some (.cells #[.int .i64 t202, .int .i64 t203, .int .i64 t204, .int .i64 t205] 58 (0, 0))) := ⟨by (with_reducible repeat (first | refine blk_drewN ?_ _ | refine blk_drew ?_ | refine blk_alloc ?_ _ | refine blk_far ?_ NB206_208.out _)); exact BK206.out⟩
           have n2_ : Aside0 ((((((w99.setCell ⟨gb208, 0, none⟩ (.int .i64 (wrap64 (bt a0 0)))).setCell ⟨gb208, 1, none⟩ (.int .i64 (wrap64 ((wrap64 (Int.tdiv (wrap64 (bt a0 1)) 4)) * 4)))).setCell ⟨gb208, 2, none⟩ (.string (a0.extract 8 (t202 : Int).toNat))).setCell ⟨gb208, 3, none⟩ (.string (a0.extract (t203 : Int).toNat (t204 : Int).toNat))).setCell ⟨gb208, 4, none⟩ (.int .i64 t205)).heap[gb208]? = some (.cells #[.int .i64 (wrap64 (bt a0 0)), .int .i64 (wrap64 ((wrap64 (Int.tdiv (wrap64 (bt a0 1)) 4)) * 4)), .string (a0.extract 8 (t202 : Int).toNat), .string (a0.extract (t203 : Int).toNat (t204 : Int).toNat), .int .i64 t205] 29 (0, 0))) := ⟨by (with_reducible repeat (first | refine blk_drewN ?_ _ | refine blk_drew ?_ | refine blk_alloc ?_ _)); refine blk_put (cs := #[.int .i64 (wrap64 (bt a0 0)), .int .i64 (wrap64 ((wrap64 (Int.tdiv (wrap64 (bt a0 1)) 4)) * 4)), .string (a0.extract 8 (t202 : Int).toNat), .string (a0.extract (t203 : Int).toNat (t204 : Int).toNat), .int .i64 0]) ?_ 4 _ rfl; (with_reducible repeat (first | refine blk_drewN ?_ _ | refine blk_drew ?_ | refine blk_alloc ?_ _)); refine blk_put (cs := #[.int .i64 (wrap64 (bt a0 0)), .int .i64 (wrap64 ((wrap64 (Int.tdiv (wrap64 (bt a0 1)) 4)) * 4)), .string (a0.extract 8 (t202 : Int).toNat), .string (⟨#[]⟩ : ByteArray), .int .i64 0]) ?_ 3 _ rfl; (with_reducible repeat (first | refine blk_drewN ?_ _ | refine blk_drew ?_ | refine blk_alloc ?_ _)); refine blk_put (cs := #[.int .i64 (wrap64 (bt a0 0)), .int .i64 (wrap64 ((wrap64 (Int.tdiv (wrap64 (bt a0 1)) 4)) * 4)), .string (⟨#[]⟩ : ByteArray), .string (⟨#[]⟩ : ByteArray), .int .i64 0]) ?_ 2 _ rfl; (with_reducible repeat (first | refine blk_drewN ?_ _ | refine blk_drew ?_ | refine blk_alloc ?_ _)); refine blk_put (cs := #[.int .i64 (wrap64 (bt a0 0)), .int .i64 0, .string (⟨#[]⟩ : ByteArray), .string (⟨#[]⟩ : ByteArray), .int .i64 0]) ?_ 1 _ rfl; (with_reducible repeat (first | refine blk_drewN ?_ _ | refine blk_drew ?_ | refine blk_alloc ?_ _)); refine blk_put (cs := #[.int .i64 0, .int .i64 0, .string (⟨#[]⟩ : ByteArray), .string (⟨#[]⟩ : ByteArray), .int .i64 0]) ?_ 0 _ rfl; (with_reducible repeat (first | refine blk_drewN ?_ _ | refine blk_drew ?_ | refine blk_alloc ?_ _)); exact BK208.out⟩
           have n3_ : Aside0 (Below w.heap.size w (((((w99.setCell ⟨gb208, 0, none⟩ (.int .i64 (wrap64 (bt a0 0)))).setCell ⟨gb208, 1, none⟩ (.int .i64 (wrap64 ((wrap64 (Int.tdiv (wrap64 (bt a0 1)) 4)) * 4)))).setCell ⟨gb208, 2, none⟩ (.string (a0.extract 8 (t202 : Int).toNat))).setCell ⟨gb208, 3, none⟩ (.string (a0.extract (t203 : Int).toNat (t204 : Int).toNat))).setCell ⟨gb208, 4, none⟩ (.int .i64 t205))) := ⟨by repeat (first | (with_reducible first | exact HB.out | apply below_alloc | apply pw_below_drewN | apply below_drew1 | refine below_set ?_ GE192.out | refine below_set ?_ GE206.out | refine below_set ?_ GE208.out) | exact HB.out)⟩
           (try clear BK192)
           (try clear BK206)
           (try clear BK208)
           (try clear HB)
           generalize (((((w99.setCell ⟨gb208, 0, none⟩ (.int .i64 (wrap64 (bt a0 0)))).setCell ⟨gb208, 1, none⟩ (.int .i64 (wrap64 ((wrap64 (Int.tdiv (wrap64 (bt a0 1)) 4)) * 4)))).setCell ⟨gb208, 2, none⟩ (.string (a0.extract 8 (t202 : Int).toNat))).setCell ⟨gb208, 3, none⟩ (.string (a0.extract (t203 : Int).toNat (t204 : Int).toNat))).setCell ⟨gb208, 4, none⟩ (.int .i64 t205)) = w105 at n0_ n1_ n2_ n3_ ⊢
           have BK192 := n0_
           have BK206 := n1_
           have BK208 := n2_
           have HB := n3_
           clear n0_ n1_ n2_ n3_
           have n0_ := Aside0.mk (blk_drew BK192.out)
           have n1_ := Aside0.mk (blk_drew BK206.out)
           have n2_ := Aside0.mk (blk_drew BK208.out)
           have n3_ := Aside0.mk (below_drew1 HB.out)
           clear BK192
           clear BK206
           clear BK208
           clear HB
           have BK192 := n0_
           have BK206 := n1_
           have BK208 := n2_
           have HB := n3_
           clear n0_ n1_ n2_ n3_
           refine start_ (n := 18) (S := fun w' => w'.cell? ⟨gb206, 0, none⟩ = some (.int .i64 t202) ∧ w'.cell? ⟨gb206, 1, none⟩ = some (.int .i64 t203) ∧ w'.cell? ⟨gb206, 2, none⟩ = some (.int .i64 t204) ∧ w'.cell? ⟨gb206, 3, none⟩ = some (.int .i64 t205) ∧ w'.cell? ⟨gb208, 0, none⟩ = some (.int .i64 (wrap64 (bt a0 0))) ∧ w'.cell? ⟨gb208, 1, none⟩ = some (.int .i64 (wrap64 ((wrap64 (Int.tdiv (wrap64 (bt a0 1)) 4)) * 4))) ∧ w'.cell? ⟨gb208, 2, none⟩ = some (.string (a0.extract 8 (t202 : Int).toNat)) ∧ w'.cell? ⟨gb208, 3, none⟩ = some (.string (a0.extract (t203 : Int).toNat (t204 : Int).toNat)) ∧ w'.cell? ⟨gb208, 4, none⟩ = some (.int .i64 t205)) (ds := []) d10x1 (by kernel_rfl) rfl rfl ⟨(blk_cell BK206.out 0).trans rfl, (blk_cell BK206.out 1).trans rfl, (blk_cell BK206.out 2).trans rfl, (blk_cell BK206.out 3).trans rfl, (blk_cell BK208.out 0).trans rfl, (blk_cell BK208.out 1).trans rfl, (blk_cell BK208.out 2).trans rfl, (blk_cell BK208.out 3).trans rfl, (blk_cell BK208.out 4).trans rfl⟩ (fun hHeld => ?_); refine with_tabW headgateref29_Get.tab22 headgateref29_Get.bits22 (fun HT_ HW_ => ?_)
           generalize w105.drew = w106 at BK192 BK206 BK208 HB hHeld ⊢
           refine pon_ 0 (some 133) d10x4 HT_.out ?_
           refine pon_ 2 (some 135) d10x6 HT_.out ?_
           refine ptk_ 1 (some 134) d10x11 HT_.out HW_.out hHeld ?_
           refine ptk_ 3 (some 136) d10x14 HT_.out HW_.out hHeld ?_
           refine pon_ 4 (some 137) d10x21 HT_.out ?_
           refine pon_ 5 (some 138) d10x25 HT_.out ?_
           refine pon_ 6 (some 139) d10x28 HT_.out ?_
           refine pon_ 7 (some 140) d10x31 HT_.out ?_
           refine pon_ 9 (some 142) d10x33 HT_.out ?_
           refine pon_ 12 (some 145) d10x35 HT_.out ?_
           refine pon_ 13 (some 146) d10x36 HT_.out ?_
           refine ptk_ 8 (some 141) d10x44 HT_.out HW_.out hHeld ?_
           refine ptk_ 10 (some 143) d10x49 HT_.out HW_.out hHeld ?_
           refine pon_ 11 (some 144) d10x60 HT_.out ?_
           refine ptk_ 14 (some 147) d10x63 HT_.out HW_.out hHeld ?_
           refine one_ (i := 15) (N := some 148) d10x69 rfl rfl (one_of HT_.out (by kernel_rfl)) (by decide) (fun K hK => ?_)
           refine goes_ Tryd.func26 (by kernel_rfl) rfl #[.string (a0.extract (t203 : Int).toNat (t204 : Int).toNat)] (by rfl) rfl rfl (by (try simp only [List.map_toArray, List.map_cons, List.map_nil]); first | done | rfl | (simp only [List.length_drop, List.length_take]; rfl)) ?_
           with_reducible refine (headgateref02_Digest.calls kj38 (a0.extract (t203 : Int).toNat (t204 : Int).toNat) t209 _ A78.out).mono ?_
           rintro e w107 ⟨rfl, hb⟩
           refine ⟨_, rfl, ?_⟩
           have n0_ := Aside0.mk (blk_below (g := gb192) (o := .cells #[.int .i64 0, .int .i64 0, .string (⟨#[]⟩ : ByteArray), .string (⟨#[]⟩ : ByteArray), .int .i64 0] 29 (0, 0)) (by (with_reducible repeat (first | refine blk_drewN ?_ _ | refine blk_drew ?_ | refine blk_alloc ?_ _)); exact BK192.out) hb)
           have n1_ := Aside0.mk (blk_below (g := gb206) (o := .cells #[.int .i64 t202, .int .i64 t203, .int .i64 t204, .int .i64 t205] 58 (0, 0)) (by (with_reducible repeat (first | refine blk_drewN ?_ _ | refine blk_drew ?_ | refine blk_alloc ?_ _)); exact BK206.out) hb)
           have n2_ := Aside0.mk (blk_below (g := gb208) (o := .cells #[.int .i64 (wrap64 (bt a0 0)), .int .i64 (wrap64 ((wrap64 (Int.tdiv (wrap64 (bt a0 1)) 4)) * 4)), .string (a0.extract 8 (t202 : Int).toNat), .string (a0.extract (t203 : Int).toNat (t204 : Int).toNat), .int .i64 t205] 29 (0, 0)) (by (with_reducible repeat (first | refine blk_drewN ?_ _ | refine blk_drew ?_ | refine blk_alloc ?_ _)); exact BK208.out) hb)
           have n3_ := Aside0.mk (below_step (by repeat (first | (with_reducible first | exact HB.out | apply below_alloc | apply pw_below_drewN | apply below_drew1 | refine below_set ?_ GE192.out | refine below_set ?_ GE206.out | refine below_set ?_ GE208.out) | exact HB.out)) hb)
           clear BK192
           clear BK206
           clear BK208
           clear HB
           have BK192 := n0_
           have BK206 := n1_
           have BK208 := n2_
           have HB := n3_
           clear n0_ n1_ n2_ n3_
           (try clear hb)
           (try clear hb2)
           (try clear hk)
           (try clear hi)
           refine hK.out _ _ ⟨(blk_cell BK206.out 0).trans rfl, (blk_cell BK206.out 1).trans rfl, (blk_cell BK206.out 2).trans rfl, (blk_cell BK206.out 3).trans rfl, (blk_cell BK208.out 0).trans rfl, (blk_cell BK208.out 1).trans rfl, (blk_cell BK208.out 2).trans rfl, (blk_cell BK208.out 3).trans rfl, (blk_cell BK208.out 4).trans rfl⟩ (fun hHeld => ?_)
           clear hK K
           refine norm_ (a' := ?_) ?_ ?_
           rotate_left
           ·show Act.put _ (some 148) _ = _
            simp only [Act.put, la_, lb_, lc_, i64_w, i32_w]
            rfl
           refine pon_ 16 (some 149) d10x73 HT_.out ?_
           refine pon_ 17 (some 150) d10x84 HT_.out ?_
           refine done_ (done_of HT_.out (by kernel_rfl)) ?_
           have hnb108 := NB208_192.out
           have hnc108 := NB192_208.out
           have hnb109 := NB208_206.out
           have hnc109 := NB206_208.out
           have hcz110_0 : w107.cell? ⟨gb208, 0, none⟩ = some (.int .i64 (wrap64 (bt a0 0))) := (blk_cell BK208.out 0).trans rfl
           have hcz110_1 : w107.cell? ⟨gb208, 1, none⟩ = some (.int .i64 (wrap64 ((wrap64 (Int.tdiv (wrap64 (bt a0 1)) 4)) * 4))) := (blk_cell BK208.out 1).trans rfl
           have hcz110_2 : w107.cell? ⟨gb208, 2, none⟩ = some (.string (a0.extract 8 (t202 : Int).toNat)) := (blk_cell BK208.out 2).trans rfl
           have hcz110_3 : w107.cell? ⟨gb208, 3, none⟩ = some (.string (a0.extract (t203 : Int).toNat (t204 : Int).toNat)) := (blk_cell BK208.out 3).trans rfl
           have hcz110_4 : w107.cell? ⟨gb208, 4, none⟩ = some (.int .i64 t205) := (blk_cell BK208.out 4).trans rfl
           have hfz110_0 := blk_frozen BK208.out 0
           have hfz110_1 := blk_frozen BK208.out 1
           have hfz110_2 := blk_frozen BK208.out 2
           have hfz110_3 := blk_frozen BK208.out 3
           have hfz110_4 := blk_frozen BK208.out 4
           have hcz111_0 : w107.cell? ⟨gb192, 0, none⟩ = some (.int .i64 0) := (blk_cell BK192.out 0).trans rfl
           have hcz111_1 : w107.cell? ⟨gb192, 1, none⟩ = some (.int .i64 0) := (blk_cell BK192.out 1).trans rfl
           have hcz111_2 : w107.cell? ⟨gb192, 2, none⟩ = some (.string (⟨#[]⟩ : ByteArray)) := (blk_cell BK192.out 2).trans rfl
           have hcz111_3 : w107.cell? ⟨gb192, 3, none⟩ = some (.string (⟨#[]⟩ : ByteArray)) := (blk_cell BK192.out 3).trans rfl
           have hcz111_4 : w107.cell? ⟨gb192, 4, none⟩ = some (.int .i64 0) := (blk_cell BK192.out 4).trans rfl
           have hfz111_0 := blk_frozen BK192.out 0
           have hfz111_1 := blk_frozen BK192.out 1
           have hfz111_2 := blk_frozen BK192.out 2
           have hfz111_3 := blk_frozen BK192.out 3
           have hfz111_4 := blk_frozen BK192.out 4
           try go_wp2
           refine bodyPost_ret (results_ct rfl _ _ gb192 29 #[.int .i64 (wrap64 (bt a0 0)), .int .i64 (wrap64 ((wrap64 (Int.tdiv (wrap64 (bt a0 1)) 4)) * 4)), .string (a0.extract 8 (t202 : Int).toNat), .string (a0.extract (t203 : Int).toNat (t204 : Int).toNat), .int .i64 t205] (0, 0) _ rfl (by (with_reducible repeat (first | refine blk_drewN ?_ _ | refine blk_drew ?_ | refine blk_alloc ?_ _)); refine blk_put (cs := #[.int .i64 (wrap64 (bt a0 0)), .int .i64 (wrap64 ((wrap64 (Int.tdiv (wrap64 (bt a0 1)) 4)) * 4)), .string (a0.extract 8 (t202 : Int).toNat), .string (a0.extract (t203 : Int).toNat (t204 : Int).toNat), .int .i64 0]) ?_ 4 _ rfl; (with_reducible repeat (first | refine blk_drewN ?_ _ | refine blk_drew ?_ | refine blk_alloc ?_ _)); refine blk_put (cs := #[.int .i64 (wrap64 (bt a0 0)), .int .i64 (wrap64 ((wrap64 (Int.tdiv (wrap64 (bt a0 1)) 4)) * 4)), .string (a0.extract 8 (t202 : Int).toNat), .string (⟨#[]⟩ : ByteArray), .int .i64 0]) ?_ 3 _ rfl; (with_reducible repeat (first | refine blk_drewN ?_ _ | refine blk_drew ?_ | refine blk_alloc ?_ _)); refine blk_put (cs := #[.int .i64 (wrap64 (bt a0 0)), .int .i64 (wrap64 ((wrap64 (Int.tdiv (wrap64 (bt a0 1)) 4)) * 4)), .string (⟨#[]⟩ : ByteArray), .string (⟨#[]⟩ : ByteArray), .int .i64 0]) ?_ 2 _ rfl; (with_reducible repeat (first | refine blk_drewN ?_ _ | refine blk_drew ?_ | refine blk_alloc ?_ _)); refine blk_put (cs := #[.int .i64 (wrap64 (bt a0 0)), .int .i64 0, .string (⟨#[]⟩ : ByteArray), .string (⟨#[]⟩ : ByteArray), .int .i64 0]) ?_ 1 _ rfl; (with_reducible repeat (first | refine blk_drewN ?_ _ | refine blk_drew ?_ | refine blk_alloc ?_ _)); refine blk_put (cs := #[.int .i64 0, .int .i64 0, .string (⟨#[]⟩ : ByteArray), .string (⟨#[]⟩ : ByteArray), .int .i64 0]) ?_ 0 _ rfl; (with_reducible repeat (first | refine blk_drewN ?_ _ | refine blk_drew ?_ | refine blk_alloc ?_ _)); exact BK192.out) Tryd.underlying29 rfl (by kernel_rfl)) rfl ?_
           exact ⟨by first | rfl | (simp [errW_none, errW_some] <;> rfl) | (simp [*, errW_none, errW_some] <;> rfl) | (simp [bt, *]; done) | (unfold bt; simp [*]; done), by repeat (first | (with_reducible first | exact HB.out | apply below_alloc | apply pw_below_drewN | apply below_drew1 | refine below_set ?_ GE192.out | refine below_set ?_ GE206.out | refine below_set ?_ GE208.out) | exact HB.out)⟩
end Go.Proofs.YtkbjhblffbcleaaDoor.P
